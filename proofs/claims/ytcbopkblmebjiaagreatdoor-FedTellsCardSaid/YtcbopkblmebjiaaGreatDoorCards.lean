/-
  DERIVED. GIVEN WITH THE SEED: THE CARDS: each row of YtcbopkblmebjiaaGreatDoorRows.lean that lists a variable, with what it lists TIED to the program's text (the seventh form; the later family's looks); each row that meets fmt, with fmt's text TOLD by the authors' own Lean function (tested against real Go, not proved from fmt's source: count such statements apart). THE CARD IS WHAT COUNTS. Prove the row's statement (the work); the ties are given (YtcbopkblmebjiaaGreatDoorTie.lean); close each card by the builder's one call (the guide's Derived/Test/ToyasCard.lean, 'card_holds'). Laid BY PROGRAM, IN A SANDBOX (cutbox-door.mjs). By AI agents, Wed Nov 11 2026. No macro, syntax, notation, axiom, sorry.
-/
import Derived.Test.YtcbopkblmebjiaaGreatDoorRows
import GoSem.ClaimSeven
namespace Go.Proofs.YtcbopkblmebjiaaGreatDoor
namespace Rows

/-- THE TIED CARD OF 'catacomblaw20.FedAsOne'. -/
def fedAsOneCard : Claim7 := { stood := { row := fedAsOneRow, standIns := [], harness := (true, "6c33dccaf2a5e22528528091c23ea00ea8d7ff9b534e7fea86bd948b260a913c"), looks := true }, kinds := [], alts := [], laidByText := true, laidKinds := [.handle], laidTests := true, laidLooks := .later }
def FedAsOneCardSaid : Prop := Claim7.holds Tryz.pinned (.plain (OpenSpec.ofChange fedAsOneSpec)) fedAsOneCard

/-- THE TIED CARD OF 'catacomblaw20.FedAlone'. -/
def fedAloneCard : Claim7 := { stood := { row := fedAloneRow, standIns := [], harness := (true, "6c33dccaf2a5e22528528091c23ea00ea8d7ff9b534e7fea86bd948b260a913c"), looks := true }, kinds := [], alts := [], laidByText := true, laidKinds := [.handle], laidTests := true, laidLooks := .later }
def FedAloneCardSaid : Prop := Claim7.holds Tryz.pinned (.plain (OpenSpec.ofChange fedAloneSpec)) fedAloneCard

/-- THE TIED CARD OF 'catacomblaw20.FedCross'. -/
def fedCrossCard : Claim7 := { stood := { row := fedCrossRow, standIns := [], harness := (true, "6c33dccaf2a5e22528528091c23ea00ea8d7ff9b534e7fea86bd948b260a913c"), looks := true }, kinds := [], alts := [], laidByText := true, laidKinds := [.handle], laidTests := true, laidLooks := .later }
def FedCrossCardSaid : Prop := Claim7.holds Tryz.pinned (.plain (OpenSpec.ofChange fedCrossSpec)) fedCrossCard

/-- THE TIED CARD OF 'catacomblaw20.FedAlike'. -/
def fedAlikeCard : Claim7 := { stood := { row := fedAlikeRow, standIns := [], harness := (true, "6c33dccaf2a5e22528528091c23ea00ea8d7ff9b534e7fea86bd948b260a913c"), looks := true }, kinds := [], alts := [], laidByText := true, laidKinds := [.handle], laidTests := true, laidLooks := .later }
def FedAlikeCardSaid : Prop := Claim7.holds Tryz.pinned (.plain (OpenSpec.ofChange fedAlikeSpec)) fedAlikeCard

/-- THE TIED CARD OF 'catacomblaw20.FedTells'. -/
def fedTellsCard : Claim7 := { stood := { row := fedTellsRow, standIns := [], harness := (true, "6c33dccaf2a5e22528528091c23ea00ea8d7ff9b534e7fea86bd948b260a913c"), looks := true }, kinds := [], alts := [], laidByText := true, laidKinds := [.handle], laidTests := true, laidLooks := .later }
def FedTellsCardSaid : Prop := Claim7.holds Tryz.pinned (.plain (OpenSpec.ofChange fedTellsSpec)) fedTellsCard

/-- THE TIED CARD OF 'catacomblaw20.FedRight'. -/
def fedRightCard : Claim7 := { stood := { row := fedRightRow, standIns := [], harness := (true, "6c33dccaf2a5e22528528091c23ea00ea8d7ff9b534e7fea86bd948b260a913c"), looks := true }, kinds := [], alts := [], laidByText := true, laidKinds := [.handle], laidTests := true, laidLooks := .later }
def FedRightCardSaid : Prop := Claim7.holds Tryz.pinned (.plain (OpenSpec.ofChange fedRightSpec)) fedRightCard

/-- THE TIED CARD OF 'catacomblaw20.FedMoved'. -/
def fedMovedCard : Claim7 := { stood := { row := fedMovedRow, standIns := [], harness := (true, "6c33dccaf2a5e22528528091c23ea00ea8d7ff9b534e7fea86bd948b260a913c"), looks := true }, kinds := [], alts := [], laidByText := true, laidKinds := [.handle], laidTests := true, laidLooks := .later }
def FedMovedCardSaid : Prop := Claim7.holds Tryz.pinned (.plain (OpenSpec.ofChange fedMovedSpec)) fedMovedCard

/-- THE TIED CARD OF 'catacomblaw20.FedRow'. -/
def fedRowCard : Claim7 := { stood := { row := fedRowRow, standIns := [], harness := (true, "6c33dccaf2a5e22528528091c23ea00ea8d7ff9b534e7fea86bd948b260a913c"), looks := true }, kinds := [], alts := [], laidByText := true, laidKinds := [.handle], laidTests := true, laidLooks := .later }
def FedRowCardSaid : Prop := Claim7.holds Tryz.pinned (.plain (OpenSpec.ofChange fedRowSpec)) fedRowCard

/-- THE SECOND FORM's CARD OF 'catacomblaw20.FedAsOne'. -/
def fedAsOneUptoCard : Claim7 := { stood := { row := fedAsOneUptoRow, standIns := [], harness := (true, "6c33dccaf2a5e22528528091c23ea00ea8d7ff9b534e7fea86bd948b260a913c"), looks := true }, kinds := [], alts := [], laidByText := true, laidKinds := [.handle], laidTests := true, laidLooks := .later }
def FedAsOneUptoCardSaid : Prop := Claim7.holds Tryz.pinned (.plain (OpenSpec.upto fedAsOneSpec)) fedAsOneUptoCard

/-- THE SECOND FORM's CARD OF 'catacomblaw20.FedAlone'. -/
def fedAloneUptoCard : Claim7 := { stood := { row := fedAloneUptoRow, standIns := [], harness := (true, "6c33dccaf2a5e22528528091c23ea00ea8d7ff9b534e7fea86bd948b260a913c"), looks := true }, kinds := [], alts := [], laidByText := true, laidKinds := [.handle], laidTests := true, laidLooks := .later }
def FedAloneUptoCardSaid : Prop := Claim7.holds Tryz.pinned (.plain (OpenSpec.upto fedAloneSpec)) fedAloneUptoCard

/-- THE SECOND FORM's CARD OF 'catacomblaw20.FedCross'. -/
def fedCrossUptoCard : Claim7 := { stood := { row := fedCrossUptoRow, standIns := [], harness := (true, "6c33dccaf2a5e22528528091c23ea00ea8d7ff9b534e7fea86bd948b260a913c"), looks := true }, kinds := [], alts := [], laidByText := true, laidKinds := [.handle], laidTests := true, laidLooks := .later }
def FedCrossUptoCardSaid : Prop := Claim7.holds Tryz.pinned (.plain (OpenSpec.upto fedCrossSpec)) fedCrossUptoCard

/-- THE SECOND FORM's CARD OF 'catacomblaw20.FedAlike'. -/
def fedAlikeUptoCard : Claim7 := { stood := { row := fedAlikeUptoRow, standIns := [], harness := (true, "6c33dccaf2a5e22528528091c23ea00ea8d7ff9b534e7fea86bd948b260a913c"), looks := true }, kinds := [], alts := [], laidByText := true, laidKinds := [.handle], laidTests := true, laidLooks := .later }
def FedAlikeUptoCardSaid : Prop := Claim7.holds Tryz.pinned (.plain (OpenSpec.upto fedAlikeSpec)) fedAlikeUptoCard

/-- THE SECOND FORM's CARD OF 'catacomblaw20.FedTells'. -/
def fedTellsUptoCard : Claim7 := { stood := { row := fedTellsUptoRow, standIns := [], harness := (true, "6c33dccaf2a5e22528528091c23ea00ea8d7ff9b534e7fea86bd948b260a913c"), looks := true }, kinds := [], alts := [], laidByText := true, laidKinds := [.handle], laidTests := true, laidLooks := .later }
def FedTellsUptoCardSaid : Prop := Claim7.holds Tryz.pinned (.plain (OpenSpec.upto fedTellsSpec)) fedTellsUptoCard

/-- THE SECOND FORM's CARD OF 'catacomblaw20.FedRight'. -/
def fedRightUptoCard : Claim7 := { stood := { row := fedRightUptoRow, standIns := [], harness := (true, "6c33dccaf2a5e22528528091c23ea00ea8d7ff9b534e7fea86bd948b260a913c"), looks := true }, kinds := [], alts := [], laidByText := true, laidKinds := [.handle], laidTests := true, laidLooks := .later }
def FedRightUptoCardSaid : Prop := Claim7.holds Tryz.pinned (.plain (OpenSpec.upto fedRightSpec)) fedRightUptoCard

/-- THE SECOND FORM's CARD OF 'catacomblaw20.FedMoved'. -/
def fedMovedUptoCard : Claim7 := { stood := { row := fedMovedUptoRow, standIns := [], harness := (true, "6c33dccaf2a5e22528528091c23ea00ea8d7ff9b534e7fea86bd948b260a913c"), looks := true }, kinds := [], alts := [], laidByText := true, laidKinds := [.handle], laidTests := true, laidLooks := .later }
def FedMovedUptoCardSaid : Prop := Claim7.holds Tryz.pinned (.plain (OpenSpec.upto fedMovedSpec)) fedMovedUptoCard

/-- THE SECOND FORM's CARD OF 'catacomblaw20.FedRow'. -/
def fedRowUptoCard : Claim7 := { stood := { row := fedRowUptoRow, standIns := [], harness := (true, "6c33dccaf2a5e22528528091c23ea00ea8d7ff9b534e7fea86bd948b260a913c"), looks := true }, kinds := [], alts := [], laidByText := true, laidKinds := [.handle], laidTests := true, laidLooks := .later }
def FedRowUptoCardSaid : Prop := Claim7.holds Tryz.pinned (.plain (OpenSpec.upto fedRowSpec)) fedRowUptoCard
end Rows
end Go.Proofs.YtcbopkblmebjiaaGreatDoor
