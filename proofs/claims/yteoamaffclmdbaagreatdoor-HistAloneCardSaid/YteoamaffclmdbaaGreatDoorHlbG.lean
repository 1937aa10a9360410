/-
  histAlone_card: proved of the given program, for every input that the row allows: see the last text of this claim. Conditions: none beside the row's own.
-/
import Derived.Test.YteoamaffclmdbaaGreatDoorTie
import Derived.Test.YteoamaffclmdbaaGreatDoorHlbF
set_option linter.all false
open Go.Proofs.Tryz
namespace Go.Proofs.YteoamaffclmdbaaGreatDoor
open Go Go.Abs
open Go.ChangeShapes Go.WideShapes Go.ChangeAt Go.RowKit Go.Lib
theorem histAlone_card:Rows.HistAloneCardSaid :=
 Claim7.holds_tied_plain_at .later [] [.handle] true (true,"c52dd75b47802fb7970e546b1560b65d3c00f61f4388c30114fe71ebd6ecf951") true
  ZZ (fun _ h=>by cases h) afw (fun _ h=>by cases h) histAlone_row_tie rfl ⟨rfl,rfl⟩ afx rfl
  (fun f fn hf hfn=>by
   obtain rfl:f=6:=oS ((show Tryz.prog.funcNamed Tryz.f6.name=some 6 by kernel_rfl).symm.trans hf) |>.symm
   obtain rfl:fn=f6:=(oS (Tryz.func6.symm.trans hfn)).symm
   exact⟨afy,fun j t ht=>by
    have hw:∀t,t∈Tryz.f6.params.toList->Tryz.prog.wantsStandIn t=false:=by
     rw[show Tryz.f6.params.toList=[22,23,5,47] from rfl]
     intro t ht;simp at ht;rcases ht with rfl|rfl|rfl|rfl<;>kernel_rfl
    exact hw t (by simpa using Array.mem_of_getElem? ht)⟩)
  afz
end Go.Proofs.YteoamaffclmdbaaGreatDoor
