import Derived.Test.YteoamaffclmdbaaGreatDoorHtbE
set_option linter.all false
namespace Go.Proofs.YteoamaffclmdbaaGreatDoor
open Go Go.Abs
open Go.ChangeShapes Go.WideShapes Go.ChangeAt Go.RowKit Go.Lib
theorem ae2:Rows.histTurnedRow.wfByText (OpenSpec.ofChange Rows.histTurnedSpec)=true:=fu
theorem ae3:Tryz.pinned.checked.prog.mainIs=some (true,"c52dd75b47802fb7970e546b1560b65d3c00f61f4388c30114fe71ebd6ecf951".toList):=fu
theorem ae4:true=Tryz.pinned.checked.prog.looks []:=fu
theorem ae5:false=Rows.histTurnedRow.goesBy Tryz.pinned.checked.prog:=fu
end Go.Proofs.YteoamaffclmdbaaGreatDoor
