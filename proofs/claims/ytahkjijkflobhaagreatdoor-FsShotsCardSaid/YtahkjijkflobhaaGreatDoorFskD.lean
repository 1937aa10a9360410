import Derived.Test.YtahkjijkflobhaaGreatDoorFskC
set_option linter.unusedSimpArgs false
set_option linter.unusedVariables false
set_option linter.unusedSectionVars false
set_option linter.defProp false
open Go.Proofs.Tryz
namespace Go.Proofs.YtahkjijkflobhaaGreatDoor
open Go Go.Abs
open Go.ChangeShapes Go.WideShapes Go.ChangeAt Go.RowKit Go.Lib
theorem Jf:Tryz.prog.inPlace 6=Rows.fsShotsRow.inPlace:=by kernel_rfl
theorem Jg:Tryz.prog.unfollowed 6=Rows.fsShotsRow.unfollowed:=by kernel_rfl
theorem Jh:Tryz.prog.recurses 6=Rows.fsShotsRow.recurses:=by kernel_rfl
theorem Jj:Tryz.prog.varsNamed 6=Rows.fsShotsRow.named:=by kernel_rfl
theorem Jk:mapsRowed Tryz.prog=true:=by kernel_rfl
theorem Jl:joinedFacts Tryz.prog 6 f6 (OpenSpec.ofChange Rows.fsShotsSpec).bare Rows.fsShotsRow=true:=by
 unfold joinedFacts;rw[Jf,Jg,Jh,Jj,laidOut,Jk];kernel_rfl
end Go.Proofs.YtahkjijkflobhaaGreatDoor
