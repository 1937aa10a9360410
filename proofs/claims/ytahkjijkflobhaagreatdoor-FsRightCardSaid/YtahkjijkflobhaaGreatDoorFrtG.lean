/-
  fsRight_card: proved of the given program, for every input that the row allows: see the last text of this claim. Conditions: none beside the row's own.
-/
import Derived.Test.YtahkjijkflobhaaGreatDoorTie
import Derived.SevenTiedAt
import Derived.Test.YtahkjijkflobhaaGreatDoorFrtF
set_option linter.unusedSimpArgs false
set_option linter.unusedVariables false
set_option linter.unusedSectionVars false
set_option linter.defProp false
open Go.Proofs.Tryz
namespace Go.Proofs.YtahkjijkflobhaaGreatDoor
open Go Go.Abs
open Go.ChangeShapes Go.WideShapes Go.ChangeAt Go.RowKit Go.Lib
theorem fsRight_card:Rows.FsRightCardSaid :=
 Claim7.holds_tied_plain_at .later [] [.handle] true (true,"907fe175281b7afff96fb0530f051c82fd96d22bbb718d1815e4fee892fa8cb9") true
  WR (fun _ h=>by cases h) acV (fun _ h=>by cases h) fsRight_row_tie rfl ⟨rfl,rfl⟩ acW rfl
  (fun f fn hf hfn=>by
   obtain rfl:f=3:=nw ((show Tryz.prog.funcNamed Tryz.f3.name=some 3 by kernel_rfl).symm.trans hf) |>.symm
   obtain rfl:fn=f3:=(nw (Tryz.func3.symm.trans hfn)).symm
   exact⟨acX,fun j t ht=>by
    have hw:∀t,t∈Tryz.f3.params.toList->Tryz.prog.wantsStandIn t=false:=by
     rw[show Tryz.f3.params.toList=[22,25] from rfl]
     intro t ht;simp at ht;rcases ht with rfl|rfl<;>kernel_rfl
    exact hw t (by simpa using Array.mem_of_getElem? ht)⟩)
  acY
end Go.Proofs.YtahkjijkflobhaaGreatDoor
