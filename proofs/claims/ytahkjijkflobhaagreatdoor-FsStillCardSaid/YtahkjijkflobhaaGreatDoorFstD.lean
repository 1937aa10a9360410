import Derived.Test.YtahkjijkflobhaaGreatDoorFstC
set_option linter.unusedSimpArgs false
set_option linter.unusedVariables false
set_option linter.unusedSectionVars false
set_option linter.defProp false
namespace Go.Proofs.YtahkjijkflobhaaGreatDoor
open Go Go.Abs
open Go.ChangeShapes Go.WideShapes Go.ChangeAt Go.RowKit Go.Lib
theorem PT:Tryz.prog.inPlace 4=Rows.fsStillRow.inPlace:=by kernel_rfl
theorem PU:Tryz.prog.unfollowed 4=Rows.fsStillRow.unfollowed:=by kernel_rfl
theorem PV:Tryz.prog.recurses 4=Rows.fsStillRow.recurses:=by kernel_rfl
theorem PW:Tryz.prog.varsNamed 4=Rows.fsStillRow.named:=by kernel_rfl
theorem PX:mapsRowed Tryz.prog=true:=by kernel_rfl
theorem PY:joinedFacts Tryz.prog 4 Tryz.f4 (OpenSpec.ofChange Rows.fsStillSpec).bare Rows.fsStillRow=true:=by
 unfold joinedFacts;rw[PT,PU,PV,PW,laidOut,PX];kernel_rfl
end Go.Proofs.YtahkjijkflobhaaGreatDoor
