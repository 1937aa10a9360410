import Derived.Test.YteoamaffclmdbaaGreatDoorHobD
set_option linter.unusedSimpArgs false
set_option linter.unusedVariables false
set_option linter.unusedSectionVars false
set_option linter.defProp false
open Go.Proofs.Tryz
namespace Go.Proofs.YteoamaffclmdbaaGreatDoor
open Go Go.Abs
open Go.ChangeShapes Go.WideShapes Go.ChangeAt Go.RowKit Go.Lib
theorem Y8:Rows.HistOrdersSaid :=
 OpenClaim.holds_of_cond 4 f4 rfl rfl rfl rfl rfl rfl rfl ⟨rfl,rfl,rfl,rfl,rfl⟩ rfl rfl rfl rfl rfl fA func4 anG
  (jT fA) (by unfold Func.isWrapper; rw[aP (of_decide_eq_false fA)]; exact⟨rfl,rfl⟩)
  (fun os started H enc _ F0=>by rw[OpenClaim.pre_eq_preRow]; exact L5 os started H enc F0)
end Go.Proofs.YteoamaffclmdbaaGreatDoor
