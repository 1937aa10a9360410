import Derived.Test.YteoamaffclmdbaaGreatDoorHlbD
set_option linter.all false
open Go.Proofs.Tryz
namespace Go.Proofs.YteoamaffclmdbaaGreatDoor
open Go Go.Abs
open Go.ChangeShapes Go.WideShapes Go.ChangeAt Go.RowKit Go.Lib
theorem ZZ:Rows.HistAloneSaid :=
 OpenClaim.holds_of_cond 6 f6 rfl rfl rfl rfl rfl rfl rfl ⟨rfl,rfl,rfl,rfl,rfl⟩ rfl rfl rfl rfl rfl ft func6 aoJ
  (jZ ft) (by unfold Func.isWrapper; rw[aQ (of_decide_eq_false ft)]; exact⟨rfl,rfl⟩)
  (fun os started H enc _ F0=>by rw[OpenClaim.pre_eq_preRow]; exact Mv os started H enc F0)
end Go.Proofs.YteoamaffclmdbaaGreatDoor
