import Derived.Test.YtcbopkblmebjiaaGreatDoorFtbA
set_option linter.all false
open Go.Proofs.Tryz
namespace Go.Proofs.YtcbopkblmebjiaaGreatDoor
open Go Go.Abs
open Go.ChangeShapes Go.WideShapes Go.ChangeAt Go.RowKit Go.Lib
set_option maxRecDepth 100000 in
theorem I5(os:Os){H:Type}(enc:TypeId×Value->H) :
  (OpenSpec.ofChange Rows.fedTellsSpec).preRow enc Tryz.prog f7 Rows.fedTellsRow.domain false Rows.fedTellsRow.laid ((xU os).forCall (fun _ _=>0) ⟨#[],#[.agg #[.slice none 0 0,.slice none 0 0,.int .i64 0,.int .i64 0],.int .u8 0,.slice none 0 0],[]⟩).memory #[.agg #[.slice none 0 0,.slice none 0 0,.int .i64 0,.int .i64 0],.int .u8 0,.slice none 0 0]:=by
 have hw:(DataW.whole enc Tryz.prog ((xU os).forCall (fun _ _=>0) ⟨#[],#[.agg #[.slice none 0 0,.slice none 0 0,.int .i64 0,.int .i64 0],.int .u8 0,.slice none 0 0],[]⟩).memory Tryz.f7.params.toList (OpenSpec.ofChange Rows.fedTellsSpec).vars false (#[.agg #[.slice none 0 0,.slice none 0 0,.int .i64 0,.int .i64 0],.int .u8 0,.slice none 0 0]:Array Value).toList 8).map (fun x=>(x.1,x.2.1)) =
   some ([.agg [.nil,.nil,.lit (.int .i64 0),.lit (.int .i64 0)],.lit (.int .u8 0),.nil],[]):=gd
 obtain⟨⟨x1,x2,x3⟩,hx,hx1⟩:=aW.1 hw;simp only[Prod.mk.injEq] at hx1;obtain⟨rfl,rfl⟩:=hx1;exact OpenSpec.preRow_of_cond 8 hx gd (fun k hk=>by cases hk) gd (Tm os _)
end Go.Proofs.YtcbopkblmebjiaaGreatDoor
