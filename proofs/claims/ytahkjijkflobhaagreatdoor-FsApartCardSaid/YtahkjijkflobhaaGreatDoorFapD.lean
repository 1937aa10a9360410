import Derived.Test.YtahkjijkflobhaaGreatDoorFapC
set_option linter.unusedSimpArgs false
set_option linter.unusedVariables false
set_option linter.unusedSectionVars false
set_option linter.defProp false
namespace Go.Proofs.YtahkjijkflobhaaGreatDoor
open Go Go.Abs
open Go.ChangeShapes Go.WideShapes Go.ChangeAt Go.RowKit Go.Lib
theorem PT:Tryz.prog.inPlace 9=Rows.fsApartRow.inPlace:=by kernel_rfl
theorem PU:Tryz.prog.unfollowed 9=Rows.fsApartRow.unfollowed:=by kernel_rfl
theorem PV:Tryz.prog.recurses 9=Rows.fsApartRow.recurses:=by kernel_rfl
theorem PW:Tryz.prog.varsNamed 9=Rows.fsApartRow.named:=by kernel_rfl
theorem PX:mapsRowed Tryz.prog=true:=by kernel_rfl
theorem PY:joinedFacts Tryz.prog 9 Tryz.f9 (OpenSpec.ofChange Rows.fsApartSpec).bare Rows.fsApartRow=true:=by
 unfold joinedFacts;rw[PT,PU,PV,PW,laidOut,PX];kernel_rfl
end Go.Proofs.YtahkjijkflobhaaGreatDoor
