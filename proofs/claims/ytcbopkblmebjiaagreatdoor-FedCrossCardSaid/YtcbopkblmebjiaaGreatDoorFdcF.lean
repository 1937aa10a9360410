import Derived.Test.YtcbopkblmebjiaaGreatDoorFdcE
set_option linter.unusedSimpArgs false
set_option linter.unusedVariables false
set_option linter.unusedSectionVars false
set_option linter.defProp false
namespace Go.Proofs.YtcbopkblmebjiaaGreatDoor
open Go Go.Abs
open Go.ChangeShapes Go.WideShapes Go.ChangeAt Go.RowKit Go.Lib
theorem rD:Rows.fedCrossRow.wfByText (OpenSpec.ofChange Rows.fedCrossSpec)=true:=by kernel_rfl
theorem rE:Tryz.pinned.checked.prog.mainIs=some (true,"6c33dccaf2a5e22528528091c23ea00ea8d7ff9b534e7fea86bd948b260a913c".toList):=by kernel_rfl
theorem rF:true=Tryz.pinned.checked.prog.looks []:=by kernel_rfl
theorem rG:false=Rows.fedCrossRow.goesBy Tryz.pinned.checked.prog:=by kernel_rfl
end Go.Proofs.YtcbopkblmebjiaaGreatDoor
