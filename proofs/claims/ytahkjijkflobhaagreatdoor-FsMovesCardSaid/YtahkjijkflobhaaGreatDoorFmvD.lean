import Derived.Test.YtahkjijkflobhaaGreatDoorFmvC
set_option linter.unusedSimpArgs false
set_option linter.unusedVariables false
set_option linter.unusedSectionVars false
set_option linter.defProp false
open Go.Proofs.Tryz
namespace Go.Proofs.YtahkjijkflobhaaGreatDoor
open Go Go.Abs
open Go.ChangeShapes Go.WideShapes Go.ChangeAt Go.RowKit Go.Lib
theorem Jf:Tryz.prog.inPlace 7=Rows.fsMovesRow.inPlace:=by kernel_rfl
theorem Jg:Tryz.prog.unfollowed 7=Rows.fsMovesRow.unfollowed:=by kernel_rfl
theorem Jh:Tryz.prog.recurses 7=Rows.fsMovesRow.recurses:=by kernel_rfl
theorem Jj:Tryz.prog.varsNamed 7=Rows.fsMovesRow.named:=by kernel_rfl
theorem Jk:mapsRowed Tryz.prog=true:=by kernel_rfl
theorem Jl:joinedFacts Tryz.prog 7 f7 (OpenSpec.ofChange Rows.fsMovesSpec).bare Rows.fsMovesRow=true:=by
 unfold joinedFacts;rw[Jf,Jg,Jh,Jj,laidOut,Jk];kernel_rfl
end Go.Proofs.YtahkjijkflobhaaGreatDoor
