import Derived.Test.YteoamaffclmdbaaGreatDoorHtbC
set_option linter.all false
open Go.Proofs.Tryz
namespace Go.Proofs.YteoamaffclmdbaaGreatDoor
open Go Go.Abs
open Go.ChangeShapes Go.WideShapes Go.ChangeAt Go.RowKit Go.Lib
theorem an4:Tryz.prog.inPlace 5=Rows.histTurnedRow.inPlace:=fu
theorem an5:Tryz.prog.unfollowed 5=Rows.histTurnedRow.unfollowed:=fu
theorem an6:Tryz.prog.recurses 5=Rows.histTurnedRow.recurses:=fu
theorem an7:Tryz.prog.varsNamed 5=Rows.histTurnedRow.named:=fu
theorem an8:mapsRowed Tryz.prog=true:=fu
theorem an9:joinedFacts Tryz.prog 5 f5 (OpenSpec.ofChange Rows.histTurnedSpec).bare Rows.histTurnedRow=true:=by
 unfold joinedFacts;rw[an4,an5,an6,an7,laidOut,an8];kernel_rfl
end Go.Proofs.YteoamaffclmdbaaGreatDoor
