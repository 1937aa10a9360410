import Derived.Test.YtcbopkblmebjiaaGreatDoorFtbE
set_option linter.all false
namespace Go.Proofs.YtcbopkblmebjiaaGreatDoor
open Go Go.Abs
open Go.ChangeShapes Go.WideShapes Go.ChangeAt Go.RowKit Go.Lib
theorem aaS:Rows.fedTellsRow.wfByText (OpenSpec.ofChange Rows.fedTellsSpec)=true:=gd
theorem aaT:Tryz.pinned.checked.prog.mainIs=some (true,"6c33dccaf2a5e22528528091c23ea00ea8d7ff9b534e7fea86bd948b260a913c".toList):=gd
theorem aaU:true=Tryz.pinned.checked.prog.looks []:=gd
theorem aaV:false=Rows.fedTellsRow.goesBy Tryz.pinned.checked.prog:=gd
end Go.Proofs.YtcbopkblmebjiaaGreatDoor
