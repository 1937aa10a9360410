/-
  histTurned_card: proved of the given program, for every input that the row allows: see the last text of this claim. Conditions: none beside the row's own.
-/
import Derived.Test.YteoamaffclmdbaaGreatDoorTie
import Derived.Test.YteoamaffclmdbaaGreatDoorHtbF
set_option linter.all false
open Go.Proofs.Tryz
namespace Go.Proofs.YteoamaffclmdbaaGreatDoor
open Go Go.Abs
open Go.ChangeShapes Go.WideShapes Go.ChangeAt Go.RowKit Go.Lib
theorem histTurned_card:Rows.HistTurnedCardSaid :=
 Claim7.holds_tied_plain_at .later [] [.handle] true (true,"c52dd75b47802fb7970e546b1560b65d3c00f61f4388c30114fe71ebd6ecf951") true
  Zv (fun _ h=>by cases h) ae2 (fun _ h=>by cases h) histTurned_row_tie rfl ⟨rfl,rfl⟩ ae3 rfl
  (fun f fn hf hfn=>by
   obtain rfl:f=5:=oQ ((show Tryz.prog.funcNamed Tryz.f5.name=some 5 by kernel_rfl).symm.trans hf) |>.symm
   obtain rfl:fn=f5:=(oQ (Tryz.func5.symm.trans hfn)).symm
   exact⟨ae4,fun j t ht=>by
    have hw:∀t,t∈Tryz.f5.params.toList->Tryz.prog.wantsStandIn t=false:=by
     rw[show Tryz.f5.params.toList=[22,23,5,47] from rfl]
     intro t ht;simp at ht;rcases ht with rfl|rfl|rfl|rfl<;>kernel_rfl
    exact hw t (by simpa using Array.mem_of_getElem? ht)⟩)
  ae5
end Go.Proofs.YteoamaffclmdbaaGreatDoor
