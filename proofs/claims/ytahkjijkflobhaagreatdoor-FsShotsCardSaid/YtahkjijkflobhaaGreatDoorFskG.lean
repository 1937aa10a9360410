/-
  fsShots_card: proved of the given program, for every input that the row allows: see the last text of this claim. Conditions: none beside the row's own.
-/
import Derived.Test.YtahkjijkflobhaaGreatDoorTie
import Derived.SevenTiedAt
import Derived.Test.YtahkjijkflobhaaGreatDoorFskF
set_option linter.unusedSimpArgs false
set_option linter.unusedVariables false
set_option linter.unusedSectionVars false
set_option linter.defProp false
open Go.Proofs.Tryz
namespace Go.Proofs.YtahkjijkflobhaaGreatDoor
open Go Go.Abs
open Go.ChangeShapes Go.WideShapes Go.ChangeAt Go.RowKit Go.Lib
theorem fsShots_card:Rows.FsShotsCardSaid :=
 Claim7.holds_tied_plain_at .later [] [.handle] true (true,"907fe175281b7afff96fb0530f051c82fd96d22bbb718d1815e4fee892fa8cb9") true
  zP (fun _ h=>by cases h) CT (fun _ h=>by cases h) fsShots_row_tie rfl ⟨rfl,rfl⟩ CU rfl
  (fun f fn hf hfn=>by
   obtain rfl:f=6:=iH ((show Tryz.prog.funcNamed Tryz.f6.name=some 6 by kernel_rfl).symm.trans hf) |>.symm
   obtain rfl:fn=f6:=(iH (Tryz.func6.symm.trans hfn)).symm
   exact⟨CV,fun j t ht=>by
    have hw:∀t,t∈Tryz.f6.params.toList->Tryz.prog.wantsStandIn t=false:=by
     rw[show Tryz.f6.params.toList=[22,9,22,9] from rfl]
     intro t ht;simp at ht;rcases ht with rfl|rfl|rfl|rfl<;>kernel_rfl
    exact hw t (by simpa using Array.mem_of_getElem? ht)⟩)
  CW
end Go.Proofs.YtahkjijkflobhaaGreatDoor
