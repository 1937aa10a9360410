import Derived.Test.YteoamaffclmdbaaGreatDoorHobC
set_option linter.unusedSimpArgs false
set_option linter.unusedVariables false
set_option linter.unusedSectionVars false
set_option linter.defProp false
open Go.Proofs.Tryz
namespace Go.Proofs.YteoamaffclmdbaaGreatDoor
open Go Go.Abs
open Go.ChangeShapes Go.WideShapes Go.ChangeAt Go.RowKit Go.Lib
theorem anA:Tryz.prog.inPlace 4=Rows.histOrdersRow.inPlace:=fA
theorem anB:Tryz.prog.unfollowed 4=Rows.histOrdersRow.unfollowed:=fA
theorem anC:Tryz.prog.recurses 4=Rows.histOrdersRow.recurses:=fA
theorem anE:Tryz.prog.varsNamed 4=Rows.histOrdersRow.named:=fA
theorem anF:mapsRowed Tryz.prog=true:=fA
theorem anG:joinedFacts Tryz.prog 4 f4 (OpenSpec.ofChange Rows.histOrdersSpec).bare Rows.histOrdersRow=true:=by
 unfold joinedFacts;rw[anA,anB,anC,anE,laidOut,anF];kernel_rfl
end Go.Proofs.YteoamaffclmdbaaGreatDoor
