import Derived.Test.YteoamaffclmdbaaGreatDoorHcbC
set_option linter.unusedSimpArgs false
set_option linter.unusedVariables false
set_option linter.unusedSectionVars false
set_option linter.defProp false
open Go.Proofs.Tryz
namespace Go.Proofs.YteoamaffclmdbaaGreatDoor
open Go Go.Abs
open Go.ChangeShapes Go.WideShapes Go.ChangeAt Go.RowKit Go.Lib
theorem anW:Tryz.prog.inPlace 7=Rows.histCutsRow.inPlace:=fz
theorem anX:Tryz.prog.unfollowed 7=Rows.histCutsRow.unfollowed:=fz
theorem anZ:Tryz.prog.recurses 7=Rows.histCutsRow.recurses:=fz
theorem an0:Tryz.prog.varsNamed 7=Rows.histCutsRow.named:=fz
theorem an1:mapsRowed Tryz.prog=true:=fz
theorem an3:joinedFacts Tryz.prog 7 f7 (OpenSpec.ofChange Rows.histCutsSpec).bare Rows.histCutsRow=true:=by
 unfold joinedFacts;rw[anW,anX,anZ,an0,laidOut,an1];kernel_rfl
end Go.Proofs.YteoamaffclmdbaaGreatDoor
