import Derived.Test.YtcbopkblmebjiaaGreatDoorFtbC
set_option linter.all false
open Go.Proofs.Tryz
namespace Go.Proofs.YtcbopkblmebjiaaGreatDoor
open Go Go.Abs
open Go.ChangeShapes Go.WideShapes Go.ChangeAt Go.RowKit Go.Lib
theorem aiQ:Tryz.prog.inPlace 7=Rows.fedTellsRow.inPlace:=gd
theorem aiR:Tryz.prog.unfollowed 7=Rows.fedTellsRow.unfollowed:=gd
theorem aiS:Tryz.prog.recurses 7=Rows.fedTellsRow.recurses:=gd
theorem aiT:Tryz.prog.varsNamed 7=Rows.fedTellsRow.named:=gd
theorem aiU:mapsRowed Tryz.prog=true:=gd
theorem aiV:joinedFacts Tryz.prog 7 f7 (OpenSpec.ofChange Rows.fedTellsSpec).bare Rows.fedTellsRow=true:=by
 unfold joinedFacts;rw[aiQ,aiR,aiS,aiT,laidOut,aiU];kernel_rfl
end Go.Proofs.YtcbopkblmebjiaaGreatDoor
