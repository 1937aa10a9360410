/-
  DERIVED. GIVEN WITH THE SEED: THE CARDS: each row of YteoamaffclmdbaaGreatDoorRows.lean that lists a variable, with what it lists TIED to the program's text (the seventh form; the later family's looks); each row that meets fmt, with fmt's text TOLD by the authors' own Lean function (tested against real Go, not proved from fmt's source: count such statements apart). THE CARD IS WHAT COUNTS. Prove the row's statement (the work); the ties are given (YteoamaffclmdbaaGreatDoorTie.lean); close each card by the builder's one call (the guide's Derived/Test/ToyasCard.lean, 'card_holds'). Laid BY PROGRAM, IN A SANDBOX (cutbox-door.mjs). By AI agents, Wed Nov 11 2026. No macro, syntax, notation, axiom, sorry.
-/
import Derived.Test.YteoamaffclmdbaaGreatDoorRows
import GoSem.ClaimSeven
namespace Go.Proofs.YteoamaffclmdbaaGreatDoor
namespace Rows

/-- THE TIED CARD OF 'catacomblaw30.HistTells'. -/
def histTellsCard : Claim7 := { stood := { row := histTellsRow, standIns := [], harness := (true, "c52dd75b47802fb7970e546b1560b65d3c00f61f4388c30114fe71ebd6ecf951"), looks := true }, kinds := [], alts := [], laidByText := true, laidKinds := [.handle], laidTests := true, laidLooks := .later }
def HistTellsCardSaid : Prop := Claim7.holds Tryz.pinned (.plain (OpenSpec.ofChange histTellsSpec)) histTellsCard

/-- THE TIED CARD OF 'catacomblaw30.HistOrders'. -/
def histOrdersCard : Claim7 := { stood := { row := histOrdersRow, standIns := [], harness := (true, "c52dd75b47802fb7970e546b1560b65d3c00f61f4388c30114fe71ebd6ecf951"), looks := true }, kinds := [], alts := [], laidByText := true, laidKinds := [.handle], laidTests := true, laidLooks := .later }
def HistOrdersCardSaid : Prop := Claim7.holds Tryz.pinned (.plain (OpenSpec.ofChange histOrdersSpec)) histOrdersCard

/-- THE TIED CARD OF 'catacomblaw30.HistTurned'. -/
def histTurnedCard : Claim7 := { stood := { row := histTurnedRow, standIns := [], harness := (true, "c52dd75b47802fb7970e546b1560b65d3c00f61f4388c30114fe71ebd6ecf951"), looks := true }, kinds := [], alts := [], laidByText := true, laidKinds := [.handle], laidTests := true, laidLooks := .later }
def HistTurnedCardSaid : Prop := Claim7.holds Tryz.pinned (.plain (OpenSpec.ofChange histTurnedSpec)) histTurnedCard

/-- THE TIED CARD OF 'catacomblaw30.HistAlone'. -/
def histAloneCard : Claim7 := { stood := { row := histAloneRow, standIns := [], harness := (true, "c52dd75b47802fb7970e546b1560b65d3c00f61f4388c30114fe71ebd6ecf951"), looks := true }, kinds := [], alts := [], laidByText := true, laidKinds := [.handle], laidTests := true, laidLooks := .later }
def HistAloneCardSaid : Prop := Claim7.holds Tryz.pinned (.plain (OpenSpec.ofChange histAloneSpec)) histAloneCard

/-- THE TIED CARD OF 'catacomblaw30.HistCuts'. -/
def histCutsCard : Claim7 := { stood := { row := histCutsRow, standIns := [], harness := (true, "c52dd75b47802fb7970e546b1560b65d3c00f61f4388c30114fe71ebd6ecf951"), looks := true }, kinds := [], alts := [], laidByText := true, laidKinds := [.handle], laidTests := true, laidLooks := .later }
def HistCutsCardSaid : Prop := Claim7.holds Tryz.pinned (.plain (OpenSpec.ofChange histCutsSpec)) histCutsCard

/-- THE TIED CARD OF 'catacomblaw30.HistWider'. -/
def histWiderCard : Claim7 := { stood := { row := histWiderRow, standIns := [], harness := (true, "c52dd75b47802fb7970e546b1560b65d3c00f61f4388c30114fe71ebd6ecf951"), looks := true }, kinds := [], alts := [], laidByText := true, laidKinds := [.handle], laidTests := true, laidLooks := .later }
def HistWiderCardSaid : Prop := Claim7.holds Tryz.pinned (.plain (OpenSpec.ofChange histWiderSpec)) histWiderCard

/-- THE SECOND FORM's CARD OF 'catacomblaw30.HistTells'. -/
def histTellsUptoCard : Claim7 := { stood := { row := histTellsUptoRow, standIns := [], harness := (true, "c52dd75b47802fb7970e546b1560b65d3c00f61f4388c30114fe71ebd6ecf951"), looks := true }, kinds := [], alts := [], laidByText := true, laidKinds := [.handle], laidTests := true, laidLooks := .later }
def HistTellsUptoCardSaid : Prop := Claim7.holds Tryz.pinned (.plain (OpenSpec.upto histTellsSpec)) histTellsUptoCard

/-- THE SECOND FORM's CARD OF 'catacomblaw30.HistOrders'. -/
def histOrdersUptoCard : Claim7 := { stood := { row := histOrdersUptoRow, standIns := [], harness := (true, "c52dd75b47802fb7970e546b1560b65d3c00f61f4388c30114fe71ebd6ecf951"), looks := true }, kinds := [], alts := [], laidByText := true, laidKinds := [.handle], laidTests := true, laidLooks := .later }
def HistOrdersUptoCardSaid : Prop := Claim7.holds Tryz.pinned (.plain (OpenSpec.upto histOrdersSpec)) histOrdersUptoCard

/-- THE SECOND FORM's CARD OF 'catacomblaw30.HistTurned'. -/
def histTurnedUptoCard : Claim7 := { stood := { row := histTurnedUptoRow, standIns := [], harness := (true, "c52dd75b47802fb7970e546b1560b65d3c00f61f4388c30114fe71ebd6ecf951"), looks := true }, kinds := [], alts := [], laidByText := true, laidKinds := [.handle], laidTests := true, laidLooks := .later }
def HistTurnedUptoCardSaid : Prop := Claim7.holds Tryz.pinned (.plain (OpenSpec.upto histTurnedSpec)) histTurnedUptoCard

/-- THE SECOND FORM's CARD OF 'catacomblaw30.HistAlone'. -/
def histAloneUptoCard : Claim7 := { stood := { row := histAloneUptoRow, standIns := [], harness := (true, "c52dd75b47802fb7970e546b1560b65d3c00f61f4388c30114fe71ebd6ecf951"), looks := true }, kinds := [], alts := [], laidByText := true, laidKinds := [.handle], laidTests := true, laidLooks := .later }
def HistAloneUptoCardSaid : Prop := Claim7.holds Tryz.pinned (.plain (OpenSpec.upto histAloneSpec)) histAloneUptoCard

/-- THE SECOND FORM's CARD OF 'catacomblaw30.HistCuts'. -/
def histCutsUptoCard : Claim7 := { stood := { row := histCutsUptoRow, standIns := [], harness := (true, "c52dd75b47802fb7970e546b1560b65d3c00f61f4388c30114fe71ebd6ecf951"), looks := true }, kinds := [], alts := [], laidByText := true, laidKinds := [.handle], laidTests := true, laidLooks := .later }
def HistCutsUptoCardSaid : Prop := Claim7.holds Tryz.pinned (.plain (OpenSpec.upto histCutsSpec)) histCutsUptoCard

/-- THE SECOND FORM's CARD OF 'catacomblaw30.HistWider'. -/
def histWiderUptoCard : Claim7 := { stood := { row := histWiderUptoRow, standIns := [], harness := (true, "c52dd75b47802fb7970e546b1560b65d3c00f61f4388c30114fe71ebd6ecf951"), looks := true }, kinds := [], alts := [], laidByText := true, laidKinds := [.handle], laidTests := true, laidLooks := .later }
def HistWiderUptoCardSaid : Prop := Claim7.holds Tryz.pinned (.plain (OpenSpec.upto histWiderSpec)) histWiderUptoCard
end Rows
end Go.Proofs.YteoamaffclmdbaaGreatDoor
