import Derived.Test.YtdbadpnkhaepnaaGreatDoorOreC
set_option linter.unusedSimpArgs false
set_option linter.unusedVariables false
set_option linter.unusedSectionVars false
set_option linter.defProp false
namespace Go.Proofs.YtdbadpnkhaepnaaGreatDoor
section
open Go Go.Abs Go.ChangeShapes Go.WideShapes Go.ChangeAt Go.RowKit Go.Lib
theorem Om:Tryz.prog.inPlace 8=Rows.onceRefusedUptoRow.inPlace:=by kernel_rfl
theorem On:Tryz.prog.unfollowed 8=Rows.onceRefusedUptoRow.unfollowed:=by kernel_rfl
theorem Oo:Tryz.prog.recurses 8=Rows.onceRefusedUptoRow.recurses:=by kernel_rfl
theorem Oq:Tryz.prog.varsNamed 8=Rows.onceRefusedUptoRow.named:=by kernel_rfl
theorem Ot:mapsRowed Tryz.prog=true:=by kernel_rfl
theorem Ou:joinedFacts Tryz.prog 8 Tryz.f8 (Rows.OpenSpec.upto Rows.onceRefusedSpec).bare Rows.onceRefusedUptoRow=true:=by
 unfold joinedFacts
 rw [Om,On,Oo,Oq,laidOut,Ot]
 kernel_rfl
end
end Go.Proofs.YtdbadpnkhaepnaaGreatDoor
