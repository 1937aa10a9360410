import Derived.Test.YtcbopkblmebjiaaGreatDoorFdnA
set_option linter.unusedSimpArgs false
set_option linter.unusedVariables false
set_option linter.unusedSectionVars false
set_option linter.defProp false
open Go.Proofs.Tryz
namespace Go.Proofs.YtcbopkblmebjiaaGreatDoor
open Go Go.Abs
open Go.ChangeShapes Go.WideShapes Go.ChangeAt Go.RowKit Go.Lib
set_option maxRecDepth 100000 in
theorem jt(os:Os){H:Type}(enc:TypeId×Value->H) :
  (OpenSpec.ofChange Rows.fedAloneSpec).preRow enc Tryz.prog f4 Rows.fedAloneRow.domain false Rows.fedAloneRow.laid ((gV os).forCall (fun _ _=>0) ⟨#[],#[.int .u8 0,.slice none 0 0,.agg #[.int .i64 0,.int .i64 0,.string ⟨#[]⟩,.string ⟨#[]⟩,.int .i64 0,.int .i64 0,.int .i64 0,.slice none 0 0]],[]⟩).memory #[.int .u8 0,.slice none 0 0,.agg #[.int .i64 0,.int .i64 0,.string ⟨#[]⟩,.string ⟨#[]⟩,.int .i64 0,.int .i64 0,.int .i64 0,.slice none 0 0]]:=by
 have hw:(DataW.whole enc Tryz.prog ((gV os).forCall (fun _ _=>0) ⟨#[],#[.int .u8 0,.slice none 0 0,.agg #[.int .i64 0,.int .i64 0,.string ⟨#[]⟩,.string ⟨#[]⟩,.int .i64 0,.int .i64 0,.int .i64 0,.slice none 0 0]],[]⟩).memory Tryz.f4.params.toList (OpenSpec.ofChange Rows.fedAloneSpec).vars false (#[.int .u8 0,.slice none 0 0,.agg #[.int .i64 0,.int .i64 0,.string ⟨#[]⟩,.string ⟨#[]⟩,.int .i64 0,.int .i64 0,.int .i64 0,.slice none 0 0]]:Array Value).toList 8).map (fun x=>(x.1,x.2.1)) =
   some ([.lit (.int .u8 0),.nil,.agg [.lit (.int .i64 0),.lit (.int .i64 0),.lit (.string []),.lit (.string []),.lit (.int .i64 0),.lit (.int .i64 0),.lit (.int .i64 0),.nil]],[]):=by kernel_rfl
 obtain⟨⟨x1,x2,x3⟩,hx,hx1⟩:=aN.1 hw;simp only[Prod.mk.injEq] at hx1;obtain⟨rfl,rfl⟩:=hx1;exact OpenSpec.preRow_of_cond 8 hx (by kernel_rfl) (fun k hk=>by cases hk) (by kernel_rfl) (tK os _)
end Go.Proofs.YtcbopkblmebjiaaGreatDoor
