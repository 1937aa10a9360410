import Derived.Test.YtahkjijkflobhaaGreatDoorFquC
set_option linter.unusedSimpArgs false
set_option linter.unusedVariables false
set_option linter.unusedSectionVars false
set_option linter.defProp false
namespace Go.Proofs.YtahkjijkflobhaaGreatDoor
section
open Go Go.Abs Go.ChangeShapes Go.WideShapes Go.ChangeAt Go.RowKit Go.Lib
theorem Zw:Tryz.prog.inPlace 8=Rows.fsQuotasRow.inPlace:=by kernel_rfl
theorem Zx:Tryz.prog.unfollowed 8=Rows.fsQuotasRow.unfollowed:=by kernel_rfl
theorem Zy:Tryz.prog.recurses 8=Rows.fsQuotasRow.recurses:=by kernel_rfl
theorem Zz:Tryz.prog.varsNamed 8=Rows.fsQuotasRow.named:=by kernel_rfl
theorem ZA:mapsRowed Tryz.prog=true:=by kernel_rfl
theorem ZB:joinedFacts Tryz.prog 8 Tryz.f8 (OpenSpec.ofChange Rows.fsQuotasSpec).bare Rows.fsQuotasRow=true:=by
 unfold joinedFacts
 rw [Zw,Zx,Zy,Zz,laidOut,ZA]
 kernel_rfl
end
end Go.Proofs.YtahkjijkflobhaaGreatDoor
