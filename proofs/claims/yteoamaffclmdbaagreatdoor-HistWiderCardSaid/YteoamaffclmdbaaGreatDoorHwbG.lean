/-
  histWider_card: proved of the given program, for every input that the row allows: see the last text of this claim. Conditions: none beside the row's own.
-/
import Derived.Test.YteoamaffclmdbaaGreatDoorTie
import Derived.SevenTiedAt
import Derived.Test.YteoamaffclmdbaaGreatDoorHwbF
set_option linter.unusedSimpArgs false
set_option linter.unusedVariables false
set_option linter.unusedSectionVars false
set_option linter.defProp false
open Go.Proofs.Tryz
namespace Go.Proofs.YteoamaffclmdbaaGreatDoor
open Go Go.Abs
open Go.ChangeShapes Go.WideShapes Go.ChangeAt Go.RowKit Go.Lib
theorem histWider_card:Rows.HistWiderCardSaid :=
 Claim7.holds_tied_plain_at .later [] [.handle] true (true,"c52dd75b47802fb7970e546b1560b65d3c00f61f4388c30114fe71ebd6ecf951") true
  Zk (fun _ h=>by cases h) aeS (fun _ h=>by cases h) histWider_row_tie rfl ⟨rfl,rfl⟩ aeT rfl
  (fun f fn hf hfn=>by
   obtain rfl:f=8:=oT ((show Tryz.prog.funcNamed Tryz.f8.name=some 8 by kernel_rfl).symm.trans hf) |>.symm
   obtain rfl:fn=f8:=(oT (Tryz.func8.symm.trans hfn)).symm
   exact⟨aeU,fun j t ht=>by
    have hw:∀t,t∈Tryz.f8.params.toList->Tryz.prog.wantsStandIn t=false:=by
     rw[show Tryz.f8.params.toList=[22,23,61,5] from rfl]
     intro t ht;simp at ht;rcases ht with rfl|rfl|rfl|rfl<;>kernel_rfl
    exact hw t (by simpa using Array.mem_of_getElem? ht)⟩)
  aeV
end Go.Proofs.YteoamaffclmdbaaGreatDoor
