import Derived.Test.YtahkjijkflobhaaGreatDoorFskA
set_option linter.unusedSimpArgs false
set_option linter.unusedVariables false
set_option linter.unusedSectionVars false
set_option linter.defProp false
open Go.Proofs.Tryz
namespace Go.Proofs.YtahkjijkflobhaaGreatDoor
open Go Go.Abs
open Go.ChangeShapes Go.WideShapes Go.ChangeAt Go.RowKit Go.Lib
set_option maxRecDepth 100000 in
theorem r9(os:Os){H:Type}(enc:TypeId×Value->H) :
  (OpenSpec.ofChange Rows.fsShotsSpec).preRow enc Tryz.prog f6 Rows.fsShotsRow.domain false Rows.fsShotsRow.laid ((oe os).forCall (fun _ _=>0) ⟨#[],#[.slice none 0 0,.string ⟨#[]⟩,.slice none 0 0,.string ⟨#[]⟩],[]⟩).memory #[.slice none 0 0,.string ⟨#[]⟩,.slice none 0 0,.string ⟨#[]⟩]:=by
 have hw:(DataW.whole enc Tryz.prog ((oe os).forCall (fun _ _=>0) ⟨#[],#[.slice none 0 0,.string ⟨#[]⟩,.slice none 0 0,.string ⟨#[]⟩],[]⟩).memory Tryz.f6.params.toList (OpenSpec.ofChange Rows.fsShotsSpec).vars false (#[.slice none 0 0,.string ⟨#[]⟩,.slice none 0 0,.string ⟨#[]⟩]:Array Value).toList 8).map (fun x=>(x.1,x.2.1)) =
   some ([.nil,.lit (.string []),.nil,.lit (.string [])],[]):=by kernel_rfl
 obtain⟨⟨x1,x2,x3⟩,hx,hx1⟩:=aN.1 hw;simp only[Prod.mk.injEq] at hx1;obtain⟨rfl,rfl⟩:=hx1;exact OpenSpec.preRow_of_cond 8 hx (by kernel_rfl) (fun k hk=>by cases hk) (by kernel_rfl) (Dw os _)
end Go.Proofs.YtahkjijkflobhaaGreatDoor
