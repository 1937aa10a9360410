/-
  histOrders_card: proved of the given program, for every input that the row allows: see the last text of this claim. Conditions: none beside the row's own.
-/
import Derived.Test.YteoamaffclmdbaaGreatDoorTie
import Derived.SevenTiedAt
import Derived.Test.YteoamaffclmdbaaGreatDoorHobF
set_option linter.unusedSimpArgs false
set_option linter.unusedVariables false
set_option linter.unusedSectionVars false
set_option linter.defProp false
open Go.Proofs.Tryz
namespace Go.Proofs.YteoamaffclmdbaaGreatDoor
open Go Go.Abs
open Go.ChangeShapes Go.WideShapes Go.ChangeAt Go.RowKit Go.Lib
theorem histOrders_card:Rows.HistOrdersCardSaid :=
 Claim7.holds_tied_plain_at .later [] [.handle] true (true,"c52dd75b47802fb7970e546b1560b65d3c00f61f4388c30114fe71ebd6ecf951") true
  Y8 (fun _ h=>by cases h) aeF (fun _ h=>by cases h) histOrders_row_tie rfl ⟨rfl,rfl⟩ aeG rfl
  (fun f fn hf hfn=>by
   obtain rfl:f=4:=oI ((show Tryz.prog.funcNamed Tryz.f4.name=some 4 by kernel_rfl).symm.trans hf) |>.symm
   obtain rfl:fn=f4:=(oI (Tryz.func4.symm.trans hfn)).symm
   exact⟨aeH,fun j t ht=>by
    have hw:∀t,t∈Tryz.f4.params.toList->Tryz.prog.wantsStandIn t=false:=by
     rw[show Tryz.f4.params.toList=[22,23] from rfl]
     intro t ht;simp at ht;rcases ht with rfl|rfl<;>kernel_rfl
    exact hw t (by simpa using Array.mem_of_getElem? ht)⟩)
  aeI
end Go.Proofs.YteoamaffclmdbaaGreatDoor
