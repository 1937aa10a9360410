import Derived.Test.YteoamaffclmdbaaGreatDoorHcbE
set_option linter.unusedSimpArgs false
set_option linter.unusedVariables false
set_option linter.unusedSectionVars false
set_option linter.defProp false
namespace Go.Proofs.YteoamaffclmdbaaGreatDoor
open Go Go.Abs
open Go.ChangeShapes Go.WideShapes Go.ChangeAt Go.RowKit Go.Lib
theorem aeX:Rows.histCutsRow.wfByText (OpenSpec.ofChange Rows.histCutsSpec)=true:=fz
theorem aeY:Tryz.pinned.checked.prog.mainIs=some (true,"c52dd75b47802fb7970e546b1560b65d3c00f61f4388c30114fe71ebd6ecf951".toList):=fz
theorem aeZ:true=Tryz.pinned.checked.prog.looks []:=fz
theorem ae0:false=Rows.histCutsRow.goesBy Tryz.pinned.checked.prog:=fz
end Go.Proofs.YteoamaffclmdbaaGreatDoor
