import Derived.Test.YteoamaffclmdbaaGreatDoorHwbD
set_option linter.unusedSimpArgs false
set_option linter.unusedVariables false
set_option linter.unusedSectionVars false
set_option linter.defProp false
open Go.Proofs.Tryz
namespace Go.Proofs.YteoamaffclmdbaaGreatDoor
open Go Go.Abs
open Go.ChangeShapes Go.WideShapes Go.ChangeAt Go.RowKit Go.Lib
theorem Zk:Rows.HistWiderSaid :=
 OpenClaim.holds_of_cond 8 f8 rfl rfl rfl rfl rfl rfl rfl ⟨rfl,rfl,rfl,rfl,rfl⟩ rfl rfl rfl rfl rfl fy func8 anT
  (jW fy) (by unfold Func.isWrapper; rw[aL (of_decide_eq_false fy)]; exact⟨rfl,rfl⟩)
  (fun os started H enc _ F0=>by rw[OpenClaim.pre_eq_preRow]; exact Mf os started H enc F0)
end Go.Proofs.YteoamaffclmdbaaGreatDoor
