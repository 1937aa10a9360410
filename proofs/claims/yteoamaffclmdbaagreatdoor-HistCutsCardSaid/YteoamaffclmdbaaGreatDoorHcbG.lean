/-
  histCuts_card: proved of the given program, for every input that the row allows: see the last text of this claim. Conditions: none beside the row's own.
-/
import Derived.Test.YteoamaffclmdbaaGreatDoorTie
import Derived.SevenTiedAt
import Derived.Test.YteoamaffclmdbaaGreatDoorHcbF
set_option linter.unusedSimpArgs false
set_option linter.unusedVariables false
set_option linter.unusedSectionVars false
set_option linter.defProp false
open Go.Proofs.Tryz
namespace Go.Proofs.YteoamaffclmdbaaGreatDoor
open Go Go.Abs
open Go.ChangeShapes Go.WideShapes Go.ChangeAt Go.RowKit Go.Lib
theorem histCuts_card:Rows.HistCutsCardSaid :=
 Claim7.holds_tied_plain_at .later [] [.handle] true (true,"c52dd75b47802fb7970e546b1560b65d3c00f61f4388c30114fe71ebd6ecf951") true
  Zn (fun _ h=>by cases h) aeX (fun _ h=>by cases h) histCuts_row_tie rfl ⟨rfl,rfl⟩ aeY rfl
  (fun f fn hf hfn=>by
   obtain rfl:f=7:=oL ((show Tryz.prog.funcNamed Tryz.f7.name=some 7 by kernel_rfl).symm.trans hf) |>.symm
   obtain rfl:fn=f7:=(oL (Tryz.func7.symm.trans hfn)).symm
   exact⟨aeZ,fun j t ht=>by
    have hw:∀t,t∈Tryz.f7.params.toList->Tryz.prog.wantsStandIn t=false:=by
     rw[show Tryz.f7.params.toList=[22,23,61,5] from rfl]
     intro t ht;simp at ht;rcases ht with rfl|rfl|rfl|rfl<;>kernel_rfl
    exact hw t (by simpa using Array.mem_of_getElem? ht)⟩)
  ae0
end Go.Proofs.YteoamaffclmdbaaGreatDoor
