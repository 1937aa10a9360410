import Derived.Test.YtahkjijkflobhaaGreatDoorFquE
set_option linter.unusedSimpArgs false
set_option linter.unusedVariables false
set_option linter.unusedSectionVars false
set_option linter.defProp false
namespace Go.Proofs.YtahkjijkflobhaaGreatDoor
section
open Go Go.Abs Go.ChangeShapes Go.WideShapes Go.ChangeAt Go.RowKit Go.Lib
theorem QR:Rows.fsQuotasRow.wfByText (OpenSpec.ofChange Rows.fsQuotasSpec)=true:=by kernel_rfl
theorem QS:Tryz.pinned.checked.prog.mainIs=some (true,"907fe175281b7afff96fb0530f051c82fd96d22bbb718d1815e4fee892fa8cb9".toList):=by kernel_rfl
theorem QT:true=Tryz.pinned.checked.prog.looks []:=by kernel_rfl
theorem QU:false=Rows.fsQuotasRow.goesBy Tryz.pinned.checked.prog:=by kernel_rfl
end
end Go.Proofs.YtahkjijkflobhaaGreatDoor
