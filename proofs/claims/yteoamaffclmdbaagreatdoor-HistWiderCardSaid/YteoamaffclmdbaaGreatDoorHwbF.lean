import Derived.Test.YteoamaffclmdbaaGreatDoorHwbE
set_option linter.unusedSimpArgs false
set_option linter.unusedVariables false
set_option linter.unusedSectionVars false
set_option linter.defProp false
namespace Go.Proofs.YteoamaffclmdbaaGreatDoor
open Go Go.Abs
open Go.ChangeShapes Go.WideShapes Go.ChangeAt Go.RowKit Go.Lib
theorem aeS:Rows.histWiderRow.wfByText (OpenSpec.ofChange Rows.histWiderSpec)=true:=fy
theorem aeT:Tryz.pinned.checked.prog.mainIs=some (true,"c52dd75b47802fb7970e546b1560b65d3c00f61f4388c30114fe71ebd6ecf951".toList):=fy
theorem aeU:true=Tryz.pinned.checked.prog.looks []:=fy
theorem aeV:false=Rows.histWiderRow.goesBy Tryz.pinned.checked.prog:=fy
end Go.Proofs.YteoamaffclmdbaaGreatDoor
