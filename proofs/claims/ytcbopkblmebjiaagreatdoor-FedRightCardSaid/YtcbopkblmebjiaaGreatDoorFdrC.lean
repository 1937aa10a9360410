import Derived.Test.YtcbopkblmebjiaaGreatDoorFdrB
set_option linter.unusedSimpArgs false
set_option linter.unusedVariables false
set_option linter.unusedSectionVars false
set_option linter.defProp false
open Go.Proofs.Tryz
namespace Go.Proofs.YtcbopkblmebjiaaGreatDoor
open Go Go.Abs
open Go.ChangeShapes Go.WideShapes Go.ChangeAt Go.RowKit Go.Lib
theorem u7:Tryz.prog.inPlace 8=Rows.fedRightRow.inPlace:=by kernel_rfl
theorem u9:Tryz.prog.unfollowed 8=Rows.fedRightRow.unfollowed:=by kernel_rfl
theorem va:Tryz.prog.recurses 8=Rows.fedRightRow.recurses:=by kernel_rfl
theorem vd:Tryz.prog.varsNamed 8=Rows.fedRightRow.named:=by kernel_rfl
theorem ve:mapsRowed Tryz.prog=true:=by kernel_rfl
theorem vf:joinedFacts Tryz.prog 8 f8 (OpenSpec.ofChange Rows.fedRightSpec).bare Rows.fedRightRow=true:=by
 unfold joinedFacts;rw[u7,u9,va,vd,laidOut,ve];kernel_rfl
end Go.Proofs.YtcbopkblmebjiaaGreatDoor
