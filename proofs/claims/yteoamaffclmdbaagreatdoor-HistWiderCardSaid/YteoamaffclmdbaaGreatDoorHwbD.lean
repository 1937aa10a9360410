import Derived.Test.YteoamaffclmdbaaGreatDoorHwbC
set_option linter.unusedSimpArgs false
set_option linter.unusedVariables false
set_option linter.unusedSectionVars false
set_option linter.defProp false
open Go.Proofs.Tryz
namespace Go.Proofs.YteoamaffclmdbaaGreatDoor
open Go Go.Abs
open Go.ChangeShapes Go.WideShapes Go.ChangeAt Go.RowKit Go.Lib
theorem anO:Tryz.prog.inPlace 8=Rows.histWiderRow.inPlace:=fy
theorem anP:Tryz.prog.unfollowed 8=Rows.histWiderRow.unfollowed:=fy
theorem anQ:Tryz.prog.recurses 8=Rows.histWiderRow.recurses:=fy
theorem anR:Tryz.prog.varsNamed 8=Rows.histWiderRow.named:=fy
theorem anS:mapsRowed Tryz.prog=true:=fy
theorem anT:joinedFacts Tryz.prog 8 f8 (OpenSpec.ofChange Rows.histWiderSpec).bare Rows.histWiderRow=true:=by
 unfold joinedFacts;rw[anO,anP,anQ,anR,laidOut,anS];kernel_rfl
end Go.Proofs.YteoamaffclmdbaaGreatDoor
