/-
  fedCross_card: proved of the given program, for every input that the row allows: see the last text of this claim. Conditions: none beside the row's own.
-/
import Derived.Test.YtcbopkblmebjiaaGreatDoorTie
import Derived.SevenTiedAt
import Derived.Test.YtcbopkblmebjiaaGreatDoorFdcF
set_option linter.unusedSimpArgs false
set_option linter.unusedVariables false
set_option linter.unusedSectionVars false
set_option linter.defProp false
open Go.Proofs.Tryz
namespace Go.Proofs.YtcbopkblmebjiaaGreatDoor
open Go Go.Abs
open Go.ChangeShapes Go.WideShapes Go.ChangeAt Go.RowKit Go.Lib
theorem fedCross_card:Rows.FedCrossCardSaid :=
 Claim7.holds_tied_plain_at .later [] [.handle] true (true,"6c33dccaf2a5e22528528091c23ea00ea8d7ff9b534e7fea86bd948b260a913c") true
  pE (fun _ h=>by cases h) rD (fun _ h=>by cases h) fedCross_row_tie rfl ⟨rfl,rfl⟩ rE rfl
  (fun f fn hf hfn=>by
   obtain rfl:f=5:=dP ((show Tryz.prog.funcNamed Tryz.f5.name=some 5 by kernel_rfl).symm.trans hf) |>.symm
   obtain rfl:fn=f5:=(dP (Tryz.func5.symm.trans hfn)).symm
   exact⟨rF,fun j t ht=>by
    have hw:∀t,t∈Tryz.f5.params.toList->Tryz.prog.wantsStandIn t=false:=by
     rw[show Tryz.f5.params.toList=[5,22,9,9] from rfl]
     intro t ht;simp at ht;rcases ht with rfl|rfl|rfl<;>kernel_rfl
    exact hw t (by simpa using Array.mem_of_getElem? ht)⟩)
  rG
end Go.Proofs.YtcbopkblmebjiaaGreatDoor
