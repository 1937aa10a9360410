import Derived.Test.YtcbopkblmebjiaaGreatDoorFdrB
set_option linter.unusedSimpArgs false
set_option linter.unusedVariables false
set_option linter.unusedSectionVars false
set_option linter.defProp false
open Go.Proofs.Tryz
namespace Go.Proofs.YtcbopkblmebjiaaGreatDoor
open Go Go.Abs
open Go.ChangeShapes Go.WideShapes Go.ChangeAt Go.RowKit Go.Lib
theorem ve:Tryz.prog.inPlace 8=Rows.fedRightRow.inPlace:=by kernel_rfl
theorem vf:Tryz.prog.unfollowed 8=Rows.fedRightRow.unfollowed:=by kernel_rfl
theorem vg:Tryz.prog.recurses 8=Rows.fedRightRow.recurses:=by kernel_rfl
theorem vh:Tryz.prog.varsNamed 8=Rows.fedRightRow.named:=by kernel_rfl
theorem vi:mapsRowed Tryz.prog=true:=by kernel_rfl
theorem vj:joinedFacts Tryz.prog 8 f8 (OpenSpec.ofChange Rows.fedRightSpec).bare Rows.fedRightRow=true:=by
 unfold joinedFacts;rw[ve,vf,vg,vh,laidOut,vi];kernel_rfl
end Go.Proofs.YtcbopkblmebjiaaGreatDoor
