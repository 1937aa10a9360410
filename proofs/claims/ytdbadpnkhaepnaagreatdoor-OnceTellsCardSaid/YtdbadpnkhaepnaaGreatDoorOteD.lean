import Derived.Test.YtdbadpnkhaepnaaGreatDoorOteC
set_option linter.unusedSimpArgs false
set_option linter.unusedVariables false
set_option linter.unusedSectionVars false
set_option linter.defProp false
namespace Go.Proofs.YtdbadpnkhaepnaaGreatDoor
section
open Go Go.Abs Go.ChangeShapes Go.WideShapes Go.ChangeAt Go.RowKit Go.Lib
theorem Om:Tryz.prog.inPlace 3=Rows.onceTellsRow.inPlace:=by kernel_rfl
theorem On:Tryz.prog.unfollowed 3=Rows.onceTellsRow.unfollowed:=by kernel_rfl
theorem Oo:Tryz.prog.recurses 3=Rows.onceTellsRow.recurses:=by kernel_rfl
theorem Oq:Tryz.prog.varsNamed 3=Rows.onceTellsRow.named:=by kernel_rfl
theorem Ot:mapsRowed Tryz.prog=true:=by kernel_rfl
theorem Ou:joinedFacts Tryz.prog 3 Tryz.f3 (OpenSpec.ofChange Rows.onceTellsSpec).bare Rows.onceTellsRow=true:=by
 unfold joinedFacts
 rw [Om,On,Oo,Oq,laidOut,Ot]
 kernel_rfl
end
end Go.Proofs.YtdbadpnkhaepnaaGreatDoor
