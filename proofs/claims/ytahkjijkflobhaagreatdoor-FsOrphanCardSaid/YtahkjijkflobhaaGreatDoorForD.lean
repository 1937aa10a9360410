import Derived.Test.YtahkjijkflobhaaGreatDoorForC
set_option linter.unusedSimpArgs false
set_option linter.unusedVariables false
set_option linter.unusedSectionVars false
set_option linter.defProp false
open Go.Proofs.Tryz
namespace Go.Proofs.YtahkjijkflobhaaGreatDoor
open Go Go.Abs
open Go.ChangeShapes Go.WideShapes Go.ChangeAt Go.RowKit Go.Lib
theorem Jf:Tryz.prog.inPlace 5=Rows.fsOrphanRow.inPlace:=by kernel_rfl
theorem Jg:Tryz.prog.unfollowed 5=Rows.fsOrphanRow.unfollowed:=by kernel_rfl
theorem Jh:Tryz.prog.recurses 5=Rows.fsOrphanRow.recurses:=by kernel_rfl
theorem Jj:Tryz.prog.varsNamed 5=Rows.fsOrphanRow.named:=by kernel_rfl
theorem Jk:mapsRowed Tryz.prog=true:=by kernel_rfl
theorem Jl:joinedFacts Tryz.prog 5 f5 (OpenSpec.ofChange Rows.fsOrphanSpec).bare Rows.fsOrphanRow=true:=by
 unfold joinedFacts;rw[Jf,Jg,Jh,Jj,laidOut,Jk];kernel_rfl
end Go.Proofs.YtahkjijkflobhaaGreatDoor
