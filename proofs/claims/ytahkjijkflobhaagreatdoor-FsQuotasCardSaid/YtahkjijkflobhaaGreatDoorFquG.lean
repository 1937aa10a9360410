/-
  fsQuotas_card: proved of the given program, for every input that the row allows: see the last text of this claim. Conditions: none beside the row's own.
-/
import Derived.Test.YtahkjijkflobhaaGreatDoorTie
import Derived.SevenTiedAt
import Derived.Test.YtahkjijkflobhaaGreatDoorFquF
set_option linter.unusedSimpArgs false
set_option linter.unusedVariables false
set_option linter.unusedSectionVars false
set_option linter.defProp false
namespace Go.Proofs.YtahkjijkflobhaaGreatDoor
section
open Go Go.Abs Go.ChangeShapes Go.WideShapes Go.ChangeAt Go.RowKit Go.Lib
theorem fsQuotas_card:Rows.FsQuotasCardSaid :=
 Claim7.holds_tied_plain_at .later [] [.handle] true (true,"907fe175281b7afff96fb0530f051c82fd96d22bbb718d1815e4fee892fa8cb9") true
  Nl (fun _ h=>by cases h) QR (fun _ h=>by cases h) fsQuotas_row_tie rfl ⟨rfl,rfl⟩ QS rfl
  (fun f fn hf hfn=>by
   obtain rfl:f=8:=Option.some.inj ((show Tryz.prog.funcNamed Tryz.f8.name=some 8 by kernel_rfl).symm.trans hf) |>.symm
   obtain rfl:fn=Tryz.f8:=(Option.some.inj (Tryz.func8.symm.trans hfn)).symm
   exact ⟨QT,fun j t ht=>by
    have hw:∀t,t∈Tryz.f8.params.toList->Tryz.prog.wantsStandIn t=false:=by
     rw [show Tryz.f8.params.toList=[22] from rfl]
     intro t ht
     simp at ht
     subst ht; kernel_rfl
    exact hw t (by simpa using Array.mem_of_getElem? ht)⟩)
  QU
end
end Go.Proofs.YtahkjijkflobhaaGreatDoor
