import Derived.Test.YtcbopkblmebjiaaGreatDoorFdcA
set_option linter.unusedSimpArgs false
set_option linter.unusedVariables false
set_option linter.unusedSectionVars false
set_option linter.defProp false
open Go.Proofs.Tryz
namespace Go.Proofs.YtcbopkblmebjiaaGreatDoor
open Go Go.Abs
open Go.ChangeShapes Go.WideShapes Go.ChangeAt Go.RowKit Go.Lib
set_option maxRecDepth 100000 in
theorem jt(os:Os){H:Type}(enc:TypeId×Value->H) :
  (OpenSpec.ofChange Rows.fedCrossSpec).preRow enc Tryz.prog f5 Rows.fedCrossRow.domain false Rows.fedCrossRow.laid ((gV os).forCall (fun _ _=>0) ⟨#[],#[.int .u8 0,.slice none 0 0,.string ⟨#[]⟩,.string ⟨#[]⟩],[]⟩).memory #[.int .u8 0,.slice none 0 0,.string ⟨#[]⟩,.string ⟨#[]⟩]:=by
 have hw:(DataW.whole enc Tryz.prog ((gV os).forCall (fun _ _=>0) ⟨#[],#[.int .u8 0,.slice none 0 0,.string ⟨#[]⟩,.string ⟨#[]⟩],[]⟩).memory Tryz.f5.params.toList (OpenSpec.ofChange Rows.fedCrossSpec).vars false (#[.int .u8 0,.slice none 0 0,.string ⟨#[]⟩,.string ⟨#[]⟩]:Array Value).toList 8).map (fun x=>(x.1,x.2.1)) =
   some ([.lit (.int .u8 0),.nil,.lit (.string []),.lit (.string [])],[]):=by kernel_rfl
 obtain⟨⟨x1,x2,x3⟩,hx,hx1⟩:=aN.1 hw;simp only[Prod.mk.injEq] at hx1;obtain⟨rfl,rfl⟩:=hx1;exact OpenSpec.preRow_of_cond 8 hx (by kernel_rfl) (fun k hk=>by cases hk) (by kernel_rfl) (tK os _)
end Go.Proofs.YtcbopkblmebjiaaGreatDoor
