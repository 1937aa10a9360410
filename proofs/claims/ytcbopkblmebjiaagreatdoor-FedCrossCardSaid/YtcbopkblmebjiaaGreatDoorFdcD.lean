import Derived.Test.YtcbopkblmebjiaaGreatDoorFdcC
set_option linter.unusedSimpArgs false
set_option linter.unusedVariables false
set_option linter.unusedSectionVars false
set_option linter.defProp false
open Go.Proofs.Tryz
namespace Go.Proofs.YtcbopkblmebjiaaGreatDoor
open Go Go.Abs
open Go.ChangeShapes Go.WideShapes Go.ChangeAt Go.RowKit Go.Lib
theorem u7:Tryz.prog.inPlace 5=Rows.fedCrossRow.inPlace:=by kernel_rfl
theorem u9:Tryz.prog.unfollowed 5=Rows.fedCrossRow.unfollowed:=by kernel_rfl
theorem va:Tryz.prog.recurses 5=Rows.fedCrossRow.recurses:=by kernel_rfl
theorem vd:Tryz.prog.varsNamed 5=Rows.fedCrossRow.named:=by kernel_rfl
theorem ve:mapsRowed Tryz.prog=true:=by kernel_rfl
theorem vf:joinedFacts Tryz.prog 5 f5 (OpenSpec.ofChange Rows.fedCrossSpec).bare Rows.fedCrossRow=true:=by
 unfold joinedFacts;rw[u7,u9,va,vd,laidOut,ve];kernel_rfl
end Go.Proofs.YtcbopkblmebjiaaGreatDoor
