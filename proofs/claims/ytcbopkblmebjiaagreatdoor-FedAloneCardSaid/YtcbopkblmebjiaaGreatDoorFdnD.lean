import Derived.Test.YtcbopkblmebjiaaGreatDoorFdnC
set_option linter.unusedSimpArgs false
set_option linter.unusedVariables false
set_option linter.unusedSectionVars false
set_option linter.defProp false
open Go.Proofs.Tryz
namespace Go.Proofs.YtcbopkblmebjiaaGreatDoor
open Go Go.Abs
open Go.ChangeShapes Go.WideShapes Go.ChangeAt Go.RowKit Go.Lib
theorem u7:Tryz.prog.inPlace 4=Rows.fedAloneRow.inPlace:=by kernel_rfl
theorem u9:Tryz.prog.unfollowed 4=Rows.fedAloneRow.unfollowed:=by kernel_rfl
theorem va:Tryz.prog.recurses 4=Rows.fedAloneRow.recurses:=by kernel_rfl
theorem vd:Tryz.prog.varsNamed 4=Rows.fedAloneRow.named:=by kernel_rfl
theorem ve:mapsRowed Tryz.prog=true:=by kernel_rfl
theorem vf:joinedFacts Tryz.prog 4 f4 (OpenSpec.ofChange Rows.fedAloneSpec).bare Rows.fedAloneRow=true:=by
 unfold joinedFacts;rw[u7,u9,va,vd,laidOut,ve];kernel_rfl
end Go.Proofs.YtcbopkblmebjiaaGreatDoor
