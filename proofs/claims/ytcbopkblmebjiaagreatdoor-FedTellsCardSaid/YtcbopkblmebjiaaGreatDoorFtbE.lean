import Derived.Test.YtcbopkblmebjiaaGreatDoorFtbD
set_option linter.all false
open Go.Proofs.Tryz
namespace Go.Proofs.YtcbopkblmebjiaaGreatDoor
open Go Go.Abs
open Go.ChangeShapes Go.WideShapes Go.ChangeAt Go.RowKit Go.Lib
theorem Wp:Rows.FedTellsSaid :=
 OpenClaim.holds_of_cond 7 f7 rfl rfl rfl rfl rfl rfl rfl ⟨rfl,rfl,rfl,rfl,rfl⟩ rfl rfl rfl rfl rfl gd func7 aiV
  (bN gd) (by unfold Func.isWrapper; rw[aj (aZ gd)]; exact⟨rfl,rfl⟩)
  (fun os started H enc _ F0=>by rw[OpenClaim.pre_eq_preRow]; exact Lc os started H enc F0)
end Go.Proofs.YtcbopkblmebjiaaGreatDoor
