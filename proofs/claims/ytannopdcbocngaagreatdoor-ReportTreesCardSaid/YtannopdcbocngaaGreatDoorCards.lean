/-
  DERIVED. GIVEN WITH THE SEED: THE CARDS: each row of YtannopdcbocngaaGreatDoorRows.lean that lists a variable, with what it lists TIED to the program's text (the seventh form; the later family's looks); each row that meets fmt, with fmt's text TOLD by the authors' own Lean function (tested against real Go, not proved from fmt's source: count such statements apart). THE CARD IS WHAT COUNTS. Prove the row's statement (the work); the ties are given (YtannopdcbocngaaGreatDoorTie.lean); close each card by the builder's one call (the guide's Derived/Test/ToyasCard.lean, 'card_holds'). Laid BY PROGRAM, IN A SANDBOX (cutbox-door.mjs). By AI agents, Wed Nov 11 2026. No macro, syntax, notation, axiom, sorry.
-/
import Derived.Test.YtannopdcbocngaaGreatDoorRows
import GoSem.ClaimSeven
namespace Go.Proofs.YtannopdcbocngaaGreatDoor
namespace Rows

/-- THE TIED CARD OF 'catacomblaw32.ReportTells'. -/
def reportTellsCard : Claim7 := { stood := { row := reportTellsRow, standIns := [], harness := (true, "6ab42aecae4c7621001a14ab3450ecf26b822058164905cd807fd0cc9b42dd19"), looks := true }, kinds := [], alts := [], laidByText := true, laidKinds := [.data, .data, .data, .data, .sentinel, .sentinel, .data, .pinned], laidTests := true, laidLooks := .later }
def ReportTellsCardSaid : Prop := Claim7.holds Tryz.pinned (.plain (OpenSpec.ofChange reportTellsSpec)) reportTellsCard

/-- THE TIED CARD OF 'catacomblaw32.ReportReads'. -/
def reportReadsCard : Claim7 := { stood := { row := reportReadsRow, standIns := [], harness := (true, "6ab42aecae4c7621001a14ab3450ecf26b822058164905cd807fd0cc9b42dd19"), looks := true }, kinds := [], alts := [], laidByText := true, laidKinds := [.data, .data, .data, .data, .sentinel, .sentinel, .data, .pinned], laidTests := true, laidLooks := .later }
def ReportReadsCardSaid : Prop := Claim7.holds Tryz.pinned (.plain (OpenSpec.ofChange reportReadsSpec)) reportReadsCard

/-- THE TIED CARD OF 'catacomblaw32.ReportBack'. -/
def reportBackCard : Claim7 := { stood := { row := reportBackRow, standIns := [], harness := (true, "6ab42aecae4c7621001a14ab3450ecf26b822058164905cd807fd0cc9b42dd19"), looks := true }, kinds := [], alts := [], laidByText := true, laidKinds := [.data, .data, .data, .data, .sentinel, .sentinel, .data, .pinned], laidTests := true, laidLooks := .later }
def ReportBackCardSaid : Prop := Claim7.holds Tryz.pinned (.plain (OpenSpec.ofChange reportBackSpec)) reportBackCard

/-- THE TIED CARD OF 'catacomblaw32.ReportOwn'. -/
def reportOwnCard : Claim7 := { stood := { row := reportOwnRow, standIns := [], harness := (true, "6ab42aecae4c7621001a14ab3450ecf26b822058164905cd807fd0cc9b42dd19"), looks := true }, kinds := [], alts := [], laidByText := true, laidKinds := [.data, .data, .data, .data, .sentinel, .sentinel, .data, .pinned], laidTests := true, laidLooks := .later }
def ReportOwnCardSaid : Prop := Claim7.holds Tryz.pinned (.plain (OpenSpec.ofChange reportOwnSpec)) reportOwnCard

/-- THE TIED CARD OF 'catacomblaw32.ReportHists'. -/
def reportHistsCard : Claim7 := { stood := { row := reportHistsRow, standIns := [], harness := (true, "6ab42aecae4c7621001a14ab3450ecf26b822058164905cd807fd0cc9b42dd19"), looks := true }, kinds := [], alts := [], laidByText := true, laidKinds := [.data, .data, .data, .data, .sentinel, .sentinel, .data, .pinned], laidTests := true, laidLooks := .later }
def ReportHistsCardSaid : Prop := Claim7.holds Tryz.pinned (.plain (OpenSpec.ofChange reportHistsSpec)) reportHistsCard

/-- THE TIED CARD OF 'catacomblaw32.ReportUnlike'. -/
def reportUnlikeCard : Claim7 := { stood := { row := reportUnlikeRow, standIns := [], harness := (true, "6ab42aecae4c7621001a14ab3450ecf26b822058164905cd807fd0cc9b42dd19"), looks := true }, kinds := [], alts := [], laidByText := true, laidKinds := [.data, .data, .data, .data, .sentinel, .sentinel, .data, .pinned], laidTests := true, laidLooks := .later }
def ReportUnlikeCardSaid : Prop := Claim7.holds Tryz.pinned (.plain (OpenSpec.ofChange reportUnlikeSpec)) reportUnlikeCard

/-- THE TIED CARD OF 'catacomblaw32.ReportTrees'. -/
def reportTreesCard : Claim7 := { stood := { row := reportTreesRow, standIns := [], harness := (true, "6ab42aecae4c7621001a14ab3450ecf26b822058164905cd807fd0cc9b42dd19"), looks := true }, kinds := [], alts := [], laidByText := true, laidKinds := [.data, .data, .data, .data, .sentinel, .sentinel, .data, .pinned], laidTests := true, laidLooks := .later }
def ReportTreesCardSaid : Prop := Claim7.holds Tryz.pinned (.plain (OpenSpec.ofChange reportTreesSpec)) reportTreesCard

/-- THE SECOND FORM's CARD OF 'catacomblaw32.ReportTells'. -/
def reportTellsUptoCard : Claim7 := { stood := { row := reportTellsUptoRow, standIns := [], harness := (true, "6ab42aecae4c7621001a14ab3450ecf26b822058164905cd807fd0cc9b42dd19"), looks := true }, kinds := [], alts := [], laidByText := true, laidKinds := [.data, .data, .data, .data, .sentinel, .sentinel, .data, .pinned], laidTests := true, laidLooks := .later }
def ReportTellsUptoCardSaid : Prop := Claim7.holds Tryz.pinned (.plain (OpenSpec.upto reportTellsSpec)) reportTellsUptoCard

/-- THE SECOND FORM's CARD OF 'catacomblaw32.ReportReads'. -/
def reportReadsUptoCard : Claim7 := { stood := { row := reportReadsUptoRow, standIns := [], harness := (true, "6ab42aecae4c7621001a14ab3450ecf26b822058164905cd807fd0cc9b42dd19"), looks := true }, kinds := [], alts := [], laidByText := true, laidKinds := [.data, .data, .data, .data, .sentinel, .sentinel, .data, .pinned], laidTests := true, laidLooks := .later }
def ReportReadsUptoCardSaid : Prop := Claim7.holds Tryz.pinned (.plain (OpenSpec.upto reportReadsSpec)) reportReadsUptoCard

/-- THE SECOND FORM's CARD OF 'catacomblaw32.ReportBack'. -/
def reportBackUptoCard : Claim7 := { stood := { row := reportBackUptoRow, standIns := [], harness := (true, "6ab42aecae4c7621001a14ab3450ecf26b822058164905cd807fd0cc9b42dd19"), looks := true }, kinds := [], alts := [], laidByText := true, laidKinds := [.data, .data, .data, .data, .sentinel, .sentinel, .data, .pinned], laidTests := true, laidLooks := .later }
def ReportBackUptoCardSaid : Prop := Claim7.holds Tryz.pinned (.plain (OpenSpec.upto reportBackSpec)) reportBackUptoCard

/-- THE SECOND FORM's CARD OF 'catacomblaw32.ReportOwn'. -/
def reportOwnUptoCard : Claim7 := { stood := { row := reportOwnUptoRow, standIns := [], harness := (true, "6ab42aecae4c7621001a14ab3450ecf26b822058164905cd807fd0cc9b42dd19"), looks := true }, kinds := [], alts := [], laidByText := true, laidKinds := [.data, .data, .data, .data, .sentinel, .sentinel, .data, .pinned], laidTests := true, laidLooks := .later }
def ReportOwnUptoCardSaid : Prop := Claim7.holds Tryz.pinned (.plain (OpenSpec.upto reportOwnSpec)) reportOwnUptoCard

/-- THE SECOND FORM's CARD OF 'catacomblaw32.ReportHists'. -/
def reportHistsUptoCard : Claim7 := { stood := { row := reportHistsUptoRow, standIns := [], harness := (true, "6ab42aecae4c7621001a14ab3450ecf26b822058164905cd807fd0cc9b42dd19"), looks := true }, kinds := [], alts := [], laidByText := true, laidKinds := [.data, .data, .data, .data, .sentinel, .sentinel, .data, .pinned], laidTests := true, laidLooks := .later }
def ReportHistsUptoCardSaid : Prop := Claim7.holds Tryz.pinned (.plain (OpenSpec.upto reportHistsSpec)) reportHistsUptoCard

/-- THE SECOND FORM's CARD OF 'catacomblaw32.ReportUnlike'. -/
def reportUnlikeUptoCard : Claim7 := { stood := { row := reportUnlikeUptoRow, standIns := [], harness := (true, "6ab42aecae4c7621001a14ab3450ecf26b822058164905cd807fd0cc9b42dd19"), looks := true }, kinds := [], alts := [], laidByText := true, laidKinds := [.data, .data, .data, .data, .sentinel, .sentinel, .data, .pinned], laidTests := true, laidLooks := .later }
def ReportUnlikeUptoCardSaid : Prop := Claim7.holds Tryz.pinned (.plain (OpenSpec.upto reportUnlikeSpec)) reportUnlikeUptoCard

/-- THE SECOND FORM's CARD OF 'catacomblaw32.ReportTrees'. -/
def reportTreesUptoCard : Claim7 := { stood := { row := reportTreesUptoRow, standIns := [], harness := (true, "6ab42aecae4c7621001a14ab3450ecf26b822058164905cd807fd0cc9b42dd19"), looks := true }, kinds := [], alts := [], laidByText := true, laidKinds := [.data, .data, .data, .data, .sentinel, .sentinel, .data, .pinned], laidTests := true, laidLooks := .later }
def ReportTreesUptoCardSaid : Prop := Claim7.holds Tryz.pinned (.plain (OpenSpec.upto reportTreesSpec)) reportTreesUptoCard
end Rows
end Go.Proofs.YtannopdcbocngaaGreatDoor
