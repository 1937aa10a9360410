import Derived.Test.YteoamaffclmdbaaGreatDoorHlbA
set_option linter.all false
open Go.Proofs.Tryz
namespace Go.Proofs.YteoamaffclmdbaaGreatDoor
open Go Go.Abs
open Go.ChangeShapes Go.WideShapes Go.ChangeAt Go.RowKit Go.Lib
set_option maxRecDepth 100000 in
theorem Kf(os:Os){H:Type}(enc:TypeId×Value->H) :
  (OpenSpec.ofChange Rows.histAloneSpec).preRow enc Tryz.prog f6 Rows.histAloneRow.domain false Rows.histAloneRow.laid ((yd os).forCall (fun _ _=>0) ⟨#[],#[.slice none 0 0,.slice none 0 0,.int .u8 0,.agg #[.int .i64 0,.int .i64 0,.int .i64 0,.int .i64 0,.int .i64 0,.slice none 0 0,.slice none 0 0]],[]⟩).memory #[.slice none 0 0,.slice none 0 0,.int .u8 0,.agg #[.int .i64 0,.int .i64 0,.int .i64 0,.int .i64 0,.int .i64 0,.slice none 0 0,.slice none 0 0]]:=by
 have hw:(DataW.whole enc Tryz.prog ((yd os).forCall (fun _ _=>0) ⟨#[],#[.slice none 0 0,.slice none 0 0,.int .u8 0,.agg #[.int .i64 0,.int .i64 0,.int .i64 0,.int .i64 0,.int .i64 0,.slice none 0 0,.slice none 0 0]],[]⟩).memory Tryz.f6.params.toList (OpenSpec.ofChange Rows.histAloneSpec).vars false (#[.slice none 0 0,.slice none 0 0,.int .u8 0,.agg #[.int .i64 0,.int .i64 0,.int .i64 0,.int .i64 0,.int .i64 0,.slice none 0 0,.slice none 0 0]]:Array Value).toList 8).map (fun x=>(x.1,x.2.1)) =
   some ([.nil,.nil,.lit (.int .u8 0),.agg [.lit (.int .i64 0),.lit (.int .i64 0),.lit (.int .i64 0),.lit (.int .i64 0),.lit (.int .i64 0),.nil,.nil]],[]):=ft
 obtain⟨⟨x1,x2,x3⟩,hx,hx1⟩:=aU.1 hw;simp only[jY] at hx1;obtain⟨rfl,rfl⟩:=hx1;exact OpenSpec.preRow_of_cond 8 hx ft (fun k hk=>by cases hk) ft (V4 os _)
end Go.Proofs.YteoamaffclmdbaaGreatDoor
