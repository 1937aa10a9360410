import Derived.Test.YtahkjijkflobhaaGreatDoorFrtC
set_option linter.unusedSimpArgs false
set_option linter.unusedVariables false
set_option linter.unusedSectionVars false
set_option linter.defProp false
open Go.Proofs.Tryz
namespace Go.Proofs.YtahkjijkflobhaaGreatDoor
open Go Go.Abs
open Go.ChangeShapes Go.WideShapes Go.ChangeAt Go.RowKit Go.Lib
theorem amb:Tryz.prog.inPlace 3=Rows.fsRightRow.inPlace:=by kernel_rfl
theorem amc:Tryz.prog.unfollowed 3=Rows.fsRightRow.unfollowed:=by kernel_rfl
theorem amd:Tryz.prog.recurses 3=Rows.fsRightRow.recurses:=by kernel_rfl
theorem ame:Tryz.prog.varsNamed 3=Rows.fsRightRow.named:=by kernel_rfl
theorem amf:mapsRowed Tryz.prog=true:=by kernel_rfl
theorem amg:joinedFacts Tryz.prog 3 f3 (OpenSpec.ofChange Rows.fsRightSpec).bare Rows.fsRightRow=true:=by
 unfold joinedFacts;rw[amb,amc,amd,ame,laidOut,amf];kernel_rfl
end Go.Proofs.YtahkjijkflobhaaGreatDoor
