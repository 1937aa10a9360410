import Derived.Test.YteoamaffclmdbaaGreatDoorHtbD
set_option linter.all false
open Go.Proofs.Tryz
namespace Go.Proofs.YteoamaffclmdbaaGreatDoor
open Go Go.Abs
open Go.ChangeShapes Go.WideShapes Go.ChangeAt Go.RowKit Go.Lib
theorem Zv:Rows.HistTurnedSaid :=
 OpenClaim.holds_of_cond 5 f5 rfl rfl rfl rfl rfl rfl rfl ⟨rfl,rfl,rfl,rfl,rfl⟩ rfl rfl rfl rfl rfl fu func5 an9
  (jV fu) (by unfold Func.isWrapper; rw[aR (of_decide_eq_false fu)]; exact⟨rfl,rfl⟩)
  (fun os started H enc _ F0=>by rw[OpenClaim.pre_eq_preRow]; exact Mg os started H enc F0)
end Go.Proofs.YteoamaffclmdbaaGreatDoor
