import Derived.Test.YtahkjijkflobhaaGreatDoorFrtE
set_option linter.unusedSimpArgs false
set_option linter.unusedVariables false
set_option linter.unusedSectionVars false
set_option linter.defProp false
namespace Go.Proofs.YtahkjijkflobhaaGreatDoor
open Go Go.Abs
open Go.ChangeShapes Go.WideShapes Go.ChangeAt Go.RowKit Go.Lib
theorem acV:Rows.fsRightRow.wfByText (OpenSpec.ofChange Rows.fsRightSpec)=true:=by kernel_rfl
theorem acW:Tryz.pinned.checked.prog.mainIs=some (true,"907fe175281b7afff96fb0530f051c82fd96d22bbb718d1815e4fee892fa8cb9".toList):=by kernel_rfl
theorem acX:true=Tryz.pinned.checked.prog.looks []:=by kernel_rfl
theorem acY:false=Rows.fsRightRow.goesBy Tryz.pinned.checked.prog:=by kernel_rfl
end Go.Proofs.YtahkjijkflobhaaGreatDoor
