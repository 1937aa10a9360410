/-
  fedTells_card: proved of the given program, for every input that the row allows: see the last text of this claim. Conditions: none beside the row's own.
-/
import Derived.Test.YtcbopkblmebjiaaGreatDoorTie
import Derived.Test.YtcbopkblmebjiaaGreatDoorFtbF
set_option linter.all false
open Go.Proofs.Tryz
namespace Go.Proofs.YtcbopkblmebjiaaGreatDoor
open Go Go.Abs
open Go.ChangeShapes Go.WideShapes Go.ChangeAt Go.RowKit Go.Lib
theorem fedTells_card:Rows.FedTellsCardSaid :=
 Claim7.holds_tied_plain_at .later [] [.handle] true (true,"6c33dccaf2a5e22528528091c23ea00ea8d7ff9b534e7fea86bd948b260a913c") true
  Wp (fun _ h=>by cases h) aaS (fun _ h=>by cases h) fedTells_row_tie rfl ⟨rfl,rfl⟩ aaT rfl
  (fun f fn hf hfn=>by
   obtain rfl:f=7:=ky ((show Tryz.prog.funcNamed Tryz.f7.name=some 7 by kernel_rfl).symm.trans hf) |>.symm
   obtain rfl:fn=f7:=(ky (Tryz.func7.symm.trans hfn)).symm
   exact⟨aaU,fun j t ht=>by
    have hw:∀t,t∈Tryz.f7.params.toList->Tryz.prog.wantsStandIn t=false:=by
     rw[show Tryz.f7.params.toList=[32,5,22] from rfl]
     intro t ht;simp at ht;rcases ht with rfl|rfl|rfl<;>kernel_rfl
    exact hw t (by simpa using Array.mem_of_getElem? ht)⟩)
  aaV
end Go.Proofs.YtcbopkblmebjiaaGreatDoor
