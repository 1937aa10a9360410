import Derived.Test.YteoamaffclmdbaaGreatDoorHlbE
set_option linter.all false
namespace Go.Proofs.YteoamaffclmdbaaGreatDoor
open Go Go.Abs
open Go.ChangeShapes Go.WideShapes Go.ChangeAt Go.RowKit Go.Lib
theorem afw:Rows.histAloneRow.wfByText (OpenSpec.ofChange Rows.histAloneSpec)=true:=ft
theorem afx:Tryz.pinned.checked.prog.mainIs=some (true,"c52dd75b47802fb7970e546b1560b65d3c00f61f4388c30114fe71ebd6ecf951".toList):=ft
theorem afy:true=Tryz.pinned.checked.prog.looks []:=ft
theorem afz:false=Rows.histAloneRow.goesBy Tryz.pinned.checked.prog:=ft
end Go.Proofs.YteoamaffclmdbaaGreatDoor
