import Derived.Test.YtcbopkblmebjiaaGreatDoorFdlA
set_option linter.unusedSimpArgs false
set_option linter.unusedVariables false
set_option linter.unusedSectionVars false
set_option linter.defProp false
open Go.Proofs.Tryz
namespace Go.Proofs.YtcbopkblmebjiaaGreatDoor
open Go Go.Abs
open Go.ChangeShapes Go.WideShapes Go.ChangeAt Go.RowKit Go.Lib
set_option maxRecDepth 100000 in
theorem jt(os:Os){H:Type}(enc:TypeId×Value->H) :
  (OpenSpec.ofChange Rows.fedAlikeSpec).preRow enc Tryz.prog f6 Rows.fedAlikeRow.domain false Rows.fedAlikeRow.laid ((gV os).forCall (fun _ _=>0) ⟨#[],#[.int .u8 0,.slice none 0 0,.int .u8 0],[]⟩).memory #[.int .u8 0,.slice none 0 0,.int .u8 0]:=by
 have hw:(DataW.whole enc Tryz.prog ((gV os).forCall (fun _ _=>0) ⟨#[],#[.int .u8 0,.slice none 0 0,.int .u8 0],[]⟩).memory Tryz.f6.params.toList (OpenSpec.ofChange Rows.fedAlikeSpec).vars false (#[.int .u8 0,.slice none 0 0,.int .u8 0]:Array Value).toList 8).map (fun x=>(x.1,x.2.1)) =
   some ([.lit (.int .u8 0),.nil,.lit (.int .u8 0)],[]):=by kernel_rfl
 obtain⟨⟨x1,x2,x3⟩,hx,hx1⟩:=aN.1 hw;simp only[Prod.mk.injEq] at hx1;obtain⟨rfl,rfl⟩:=hx1;exact OpenSpec.preRow_of_cond 8 hx (by kernel_rfl) (fun k hk=>by cases hk) (by kernel_rfl) (tK os _)
end Go.Proofs.YtcbopkblmebjiaaGreatDoor
