/-
  DERIVED. GIVEN WITH THE SEED: THE CARDS: each row of YtahkjijkflobhaaGreatDoorRows.lean that lists a variable, with what it lists TIED to the program's text (the seventh form; the later family's looks); each row that meets fmt, with fmt's text TOLD by the authors' own Lean function (tested against real Go, not proved from fmt's source: count such statements apart). THE CARD IS WHAT COUNTS. Prove the row's statement (the work); the ties are given (YtahkjijkflobhaaGreatDoorTie.lean); close each card by the builder's one call (the guide's Derived/Test/ToyasCard.lean, 'card_holds'). Laid BY PROGRAM, IN A SANDBOX (cutbox-door.mjs). By AI agents, Wed Nov 11 2026. No macro, syntax, notation, axiom, sorry.
-/
import Derived.Test.YtahkjijkflobhaaGreatDoorRows
import GoSem.ClaimSeven
namespace Go.Proofs.YtahkjijkflobhaaGreatDoor
namespace Rows

/-- THE TIED CARD OF 'catacomblaw11.FsRight'. -/
def fsRightCard : Claim7 := { stood := { row := fsRightRow, standIns := [], harness := (true, "907fe175281b7afff96fb0530f051c82fd96d22bbb718d1815e4fee892fa8cb9"), looks := true }, kinds := [], alts := [], laidByText := true, laidKinds := [.handle], laidTests := true, laidLooks := .later }
def FsRightCardSaid : Prop := Claim7.holds Tryz.pinned (.plain (OpenSpec.ofChange fsRightSpec)) fsRightCard

/-- THE TIED CARD OF 'catacomblaw11.FsStill'. -/
def fsStillCard : Claim7 := { stood := { row := fsStillRow, standIns := [], harness := (true, "907fe175281b7afff96fb0530f051c82fd96d22bbb718d1815e4fee892fa8cb9"), looks := true }, kinds := [], alts := [], laidByText := true, laidKinds := [.handle], laidTests := true, laidLooks := .later }
def FsStillCardSaid : Prop := Claim7.holds Tryz.pinned (.plain (OpenSpec.ofChange fsStillSpec)) fsStillCard

/-- THE TIED CARD OF 'catacomblaw11.FsOrphan'. -/
def fsOrphanCard : Claim7 := { stood := { row := fsOrphanRow, standIns := [], harness := (true, "907fe175281b7afff96fb0530f051c82fd96d22bbb718d1815e4fee892fa8cb9"), looks := true }, kinds := [], alts := [], laidByText := true, laidKinds := [.handle], laidTests := true, laidLooks := .later }
def FsOrphanCardSaid : Prop := Claim7.holds Tryz.pinned (.plain (OpenSpec.ofChange fsOrphanSpec)) fsOrphanCard

/-- THE TIED CARD OF 'catacomblaw11.FsShots'. -/
def fsShotsCard : Claim7 := { stood := { row := fsShotsRow, standIns := [], harness := (true, "907fe175281b7afff96fb0530f051c82fd96d22bbb718d1815e4fee892fa8cb9"), looks := true }, kinds := [], alts := [], laidByText := true, laidKinds := [.handle], laidTests := true, laidLooks := .later }
def FsShotsCardSaid : Prop := Claim7.holds Tryz.pinned (.plain (OpenSpec.ofChange fsShotsSpec)) fsShotsCard

/-- THE TIED CARD OF 'catacomblaw11.FsMoves'. -/
def fsMovesCard : Claim7 := { stood := { row := fsMovesRow, standIns := [], harness := (true, "907fe175281b7afff96fb0530f051c82fd96d22bbb718d1815e4fee892fa8cb9"), looks := true }, kinds := [], alts := [], laidByText := true, laidKinds := [.handle], laidTests := true, laidLooks := .later }
def FsMovesCardSaid : Prop := Claim7.holds Tryz.pinned (.plain (OpenSpec.ofChange fsMovesSpec)) fsMovesCard

/-- THE TIED CARD OF 'catacomblaw11.FsQuotas'. -/
def fsQuotasCard : Claim7 := { stood := { row := fsQuotasRow, standIns := [], harness := (true, "907fe175281b7afff96fb0530f051c82fd96d22bbb718d1815e4fee892fa8cb9"), looks := true }, kinds := [], alts := [], laidByText := true, laidKinds := [.handle], laidTests := true, laidLooks := .later }
def FsQuotasCardSaid : Prop := Claim7.holds Tryz.pinned (.plain (OpenSpec.ofChange fsQuotasSpec)) fsQuotasCard

/-- THE TIED CARD OF 'catacomblaw11.FsApart'. -/
def fsApartCard : Claim7 := { stood := { row := fsApartRow, standIns := [], harness := (true, "907fe175281b7afff96fb0530f051c82fd96d22bbb718d1815e4fee892fa8cb9"), looks := true }, kinds := [], alts := [], laidByText := true, laidKinds := [.handle], laidTests := true, laidLooks := .later }
def FsApartCardSaid : Prop := Claim7.holds Tryz.pinned (.plain (OpenSpec.ofChange fsApartSpec)) fsApartCard

/-- THE SECOND FORM's CARD OF 'catacomblaw11.FsRight'. -/
def fsRightUptoCard : Claim7 := { stood := { row := fsRightUptoRow, standIns := [], harness := (true, "907fe175281b7afff96fb0530f051c82fd96d22bbb718d1815e4fee892fa8cb9"), looks := true }, kinds := [], alts := [], laidByText := true, laidKinds := [.handle], laidTests := true, laidLooks := .later }
def FsRightUptoCardSaid : Prop := Claim7.holds Tryz.pinned (.plain (OpenSpec.upto fsRightSpec)) fsRightUptoCard

/-- THE SECOND FORM's CARD OF 'catacomblaw11.FsStill'. -/
def fsStillUptoCard : Claim7 := { stood := { row := fsStillUptoRow, standIns := [], harness := (true, "907fe175281b7afff96fb0530f051c82fd96d22bbb718d1815e4fee892fa8cb9"), looks := true }, kinds := [], alts := [], laidByText := true, laidKinds := [.handle], laidTests := true, laidLooks := .later }
def FsStillUptoCardSaid : Prop := Claim7.holds Tryz.pinned (.plain (OpenSpec.upto fsStillSpec)) fsStillUptoCard

/-- THE SECOND FORM's CARD OF 'catacomblaw11.FsOrphan'. -/
def fsOrphanUptoCard : Claim7 := { stood := { row := fsOrphanUptoRow, standIns := [], harness := (true, "907fe175281b7afff96fb0530f051c82fd96d22bbb718d1815e4fee892fa8cb9"), looks := true }, kinds := [], alts := [], laidByText := true, laidKinds := [.handle], laidTests := true, laidLooks := .later }
def FsOrphanUptoCardSaid : Prop := Claim7.holds Tryz.pinned (.plain (OpenSpec.upto fsOrphanSpec)) fsOrphanUptoCard

/-- THE SECOND FORM's CARD OF 'catacomblaw11.FsShots'. -/
def fsShotsUptoCard : Claim7 := { stood := { row := fsShotsUptoRow, standIns := [], harness := (true, "907fe175281b7afff96fb0530f051c82fd96d22bbb718d1815e4fee892fa8cb9"), looks := true }, kinds := [], alts := [], laidByText := true, laidKinds := [.handle], laidTests := true, laidLooks := .later }
def FsShotsUptoCardSaid : Prop := Claim7.holds Tryz.pinned (.plain (OpenSpec.upto fsShotsSpec)) fsShotsUptoCard

/-- THE SECOND FORM's CARD OF 'catacomblaw11.FsMoves'. -/
def fsMovesUptoCard : Claim7 := { stood := { row := fsMovesUptoRow, standIns := [], harness := (true, "907fe175281b7afff96fb0530f051c82fd96d22bbb718d1815e4fee892fa8cb9"), looks := true }, kinds := [], alts := [], laidByText := true, laidKinds := [.handle], laidTests := true, laidLooks := .later }
def FsMovesUptoCardSaid : Prop := Claim7.holds Tryz.pinned (.plain (OpenSpec.upto fsMovesSpec)) fsMovesUptoCard

/-- THE SECOND FORM's CARD OF 'catacomblaw11.FsQuotas'. -/
def fsQuotasUptoCard : Claim7 := { stood := { row := fsQuotasUptoRow, standIns := [], harness := (true, "907fe175281b7afff96fb0530f051c82fd96d22bbb718d1815e4fee892fa8cb9"), looks := true }, kinds := [], alts := [], laidByText := true, laidKinds := [.handle], laidTests := true, laidLooks := .later }
def FsQuotasUptoCardSaid : Prop := Claim7.holds Tryz.pinned (.plain (OpenSpec.upto fsQuotasSpec)) fsQuotasUptoCard

/-- THE SECOND FORM's CARD OF 'catacomblaw11.FsApart'. -/
def fsApartUptoCard : Claim7 := { stood := { row := fsApartUptoRow, standIns := [], harness := (true, "907fe175281b7afff96fb0530f051c82fd96d22bbb718d1815e4fee892fa8cb9"), looks := true }, kinds := [], alts := [], laidByText := true, laidKinds := [.handle], laidTests := true, laidLooks := .later }
def FsApartUptoCardSaid : Prop := Claim7.holds Tryz.pinned (.plain (OpenSpec.upto fsApartSpec)) fsApartUptoCard
end Rows
end Go.Proofs.YtahkjijkflobhaaGreatDoor
