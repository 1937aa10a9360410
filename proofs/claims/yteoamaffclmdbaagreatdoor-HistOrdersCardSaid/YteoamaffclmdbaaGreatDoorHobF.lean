import Derived.Test.YteoamaffclmdbaaGreatDoorHobE
set_option linter.unusedSimpArgs false
set_option linter.unusedVariables false
set_option linter.unusedSectionVars false
set_option linter.defProp false
namespace Go.Proofs.YteoamaffclmdbaaGreatDoor
open Go Go.Abs
open Go.ChangeShapes Go.WideShapes Go.ChangeAt Go.RowKit Go.Lib
theorem aeF:Rows.histOrdersRow.wfByText (OpenSpec.ofChange Rows.histOrdersSpec)=true:=fA
theorem aeG:Tryz.pinned.checked.prog.mainIs=some (true,"c52dd75b47802fb7970e546b1560b65d3c00f61f4388c30114fe71ebd6ecf951".toList):=fA
theorem aeH:true=Tryz.pinned.checked.prog.looks []:=fA
theorem aeI:false=Rows.histOrdersRow.goesBy Tryz.pinned.checked.prog:=fA
end Go.Proofs.YteoamaffclmdbaaGreatDoor
