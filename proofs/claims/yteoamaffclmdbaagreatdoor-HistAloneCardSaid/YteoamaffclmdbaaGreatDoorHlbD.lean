import Derived.Test.YteoamaffclmdbaaGreatDoorHlbC
set_option linter.all false
open Go.Proofs.Tryz
namespace Go.Proofs.YteoamaffclmdbaaGreatDoor
open Go Go.Abs
open Go.ChangeShapes Go.WideShapes Go.ChangeAt Go.RowKit Go.Lib
theorem aoE:Tryz.prog.inPlace 6=Rows.histAloneRow.inPlace:=ft
theorem aoF:Tryz.prog.unfollowed 6=Rows.histAloneRow.unfollowed:=ft
theorem aoG:Tryz.prog.recurses 6=Rows.histAloneRow.recurses:=ft
theorem aoH:Tryz.prog.varsNamed 6=Rows.histAloneRow.named:=ft
theorem aoI:mapsRowed Tryz.prog=true:=ft
theorem aoJ:joinedFacts Tryz.prog 6 f6 (OpenSpec.ofChange Rows.histAloneSpec).bare Rows.histAloneRow=true:=by
 unfold joinedFacts;rw[aoE,aoF,aoG,aoH,laidOut,aoI];kernel_rfl
end Go.Proofs.YteoamaffclmdbaaGreatDoor
