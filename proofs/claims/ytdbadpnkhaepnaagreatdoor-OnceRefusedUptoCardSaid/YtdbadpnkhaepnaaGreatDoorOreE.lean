/-
  onceRefusedUpto_card: proved of the given program, for every input that the row allows: see the last text of this claim. Conditions: none beside the row's own.
-/
import Derived.Test.YtdbadpnkhaepnaaGreatDoorTie
import Derived.SevenTiedAt
import Derived.Test.YtdbadpnkhaepnaaGreatDoorOreD
set_option linter.unusedSimpArgs false
set_option linter.unusedVariables false
set_option linter.unusedSectionVars false
set_option linter.defProp false
namespace Go.Proofs.YtdbadpnkhaepnaaGreatDoor
section
open Go Go.Abs Go.ChangeShapes Go.WideShapes Go.ChangeAt Go.RowKit Go.Lib
theorem iw:Rows.OnceRefusedUptoSaid :=
 OpenClaim.holds_of_cond 8 Tryz.f8 rfl rfl rfl rfl rfl rfl rfl ⟨rfl,rfl,rfl,rfl,rfl⟩ rfl rfl rfl rfl rfl (by kernel_rfl) Tryz.func8 Ou
  (of_decide_eq_true (by kernel_rfl)) (by unfold Func.isWrapper; rw [if_neg (of_decide_eq_false (by kernel_rfl))]; exact ⟨rfl,rfl⟩)
  (fun os started H enc _ F0=>by rw [OpenClaim.pre_eq_preRow]; exact eZ os started H enc F0)
theorem onceRefusedUpto_card:Rows.OnceRefusedUptoCardSaid :=
 Claim7.holds_tied_plain_at .later [] [.handle] true (true,"3f2c0b85edb8f03ef17bc4689efcc0a8294bd8aef25de7821e6c481db0e3dc3a") true
  iw (fun _ h=>by cases h) (by kernel_rfl) (fun _ h=>by cases h) onceRefusedUpto_row_tie rfl ⟨rfl,rfl⟩ (by kernel_rfl) rfl
  (fun f fn hf hfn=>by
   obtain rfl:f=8:=Option.some.inj ((show Tryz.prog.funcNamed Tryz.f8.name=some 8 by kernel_rfl).symm.trans hf) |>.symm
   obtain rfl:fn=Tryz.f8:=(Option.some.inj (Tryz.func8.symm.trans hfn)).symm
   exact ⟨by kernel_rfl,fun j t ht=>by
    have hw:∀t,t∈Tryz.f8.params.toList->Tryz.prog.wantsStandIn t=false:=by
     rw [show Tryz.f8.params.toList=[22,43] from rfl]
     intro t ht
     simp at ht
     rcases ht with rfl|rfl<;>kernel_rfl
    exact hw t (by simpa using Array.mem_of_getElem? ht)⟩)
  (by kernel_rfl)
end
end Go.Proofs.YtdbadpnkhaepnaaGreatDoor
