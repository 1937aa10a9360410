import Derived.Test.YteoamaffclmdbaaGreatDoorHtbA
set_option linter.all false
open Go.Proofs.Tryz
namespace Go.Proofs.YteoamaffclmdbaaGreatDoor
open Go Go.Abs
open Go.ChangeShapes Go.WideShapes Go.ChangeAt Go.RowKit Go.Lib
set_option maxRecDepth 100000 in
theorem JX(os:Os){H:Type}(enc:TypeId×Value->H) :
  (OpenSpec.ofChange Rows.histTurnedSpec).preRow enc Tryz.prog f5 Rows.histTurnedRow.domain false Rows.histTurnedRow.laid ((yc os).forCall (fun _ _=>0) ⟨#[],#[.slice none 0 0,.slice none 0 0,.int .u8 0,.agg #[.int .i64 0,.int .i64 0,.int .i64 0,.int .i64 0,.int .i64 0,.slice none 0 0,.slice none 0 0]],[]⟩).memory #[.slice none 0 0,.slice none 0 0,.int .u8 0,.agg #[.int .i64 0,.int .i64 0,.int .i64 0,.int .i64 0,.int .i64 0,.slice none 0 0,.slice none 0 0]]:=by
 have hw:(DataW.whole enc Tryz.prog ((yc os).forCall (fun _ _=>0) ⟨#[],#[.slice none 0 0,.slice none 0 0,.int .u8 0,.agg #[.int .i64 0,.int .i64 0,.int .i64 0,.int .i64 0,.int .i64 0,.slice none 0 0,.slice none 0 0]],[]⟩).memory Tryz.f5.params.toList (OpenSpec.ofChange Rows.histTurnedSpec).vars false (#[.slice none 0 0,.slice none 0 0,.int .u8 0,.agg #[.int .i64 0,.int .i64 0,.int .i64 0,.int .i64 0,.int .i64 0,.slice none 0 0,.slice none 0 0]]:Array Value).toList 8).map (fun x=>(x.1,x.2.1)) =
   some ([.nil,.nil,.lit (.int .u8 0),.agg [.lit (.int .i64 0),.lit (.int .i64 0),.lit (.int .i64 0),.lit (.int .i64 0),.lit (.int .i64 0),.nil,.nil]],[]):=fu
 obtain⟨⟨x1,x2,x3⟩,hx,hx1⟩:=aV.1 hw;simp only[jl] at hx1;obtain⟨rfl,rfl⟩:=hx1;exact OpenSpec.preRow_of_cond 8 hx fu (fun k hk=>by cases hk) fu (VB os _)
end Go.Proofs.YteoamaffclmdbaaGreatDoor
