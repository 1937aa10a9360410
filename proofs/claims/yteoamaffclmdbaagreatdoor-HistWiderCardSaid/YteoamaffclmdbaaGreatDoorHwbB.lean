import Derived.Test.YteoamaffclmdbaaGreatDoorHwbA
set_option linter.unusedSimpArgs false
set_option linter.unusedVariables false
set_option linter.unusedSectionVars false
set_option linter.defProp false
open Go.Proofs.Tryz
namespace Go.Proofs.YteoamaffclmdbaaGreatDoor
open Go Go.Abs
open Go.ChangeShapes Go.WideShapes Go.ChangeAt Go.RowKit Go.Lib
set_option maxRecDepth 100000 in
theorem JW(os:Os){H:Type}(enc:TypeId×Value->H) :
  (OpenSpec.ofChange Rows.histWiderSpec).preRow enc Tryz.prog f8 Rows.histWiderRow.domain false Rows.histWiderRow.laid ((yb os).forCall (fun _ _=>0) ⟨#[],#[.slice none 0 0,.slice none 0 0,.agg #[.int .u8 0,.int .u8 0],.int .u8 0],[]⟩).memory #[.slice none 0 0,.slice none 0 0,.agg #[.int .u8 0,.int .u8 0],.int .u8 0]:=by
 have hw:(DataW.whole enc Tryz.prog ((yb os).forCall (fun _ _=>0) ⟨#[],#[.slice none 0 0,.slice none 0 0,.agg #[.int .u8 0,.int .u8 0],.int .u8 0],[]⟩).memory Tryz.f8.params.toList (OpenSpec.ofChange Rows.histWiderSpec).vars false (#[.slice none 0 0,.slice none 0 0,.agg #[.int .u8 0,.int .u8 0],.int .u8 0]:Array Value).toList 8).map (fun x=>(x.1,x.2.1)) =
   some ([.nil,.nil,.agg [.lit (.int .u8 0),.lit (.int .u8 0)],.lit (.int .u8 0)],[]):=fy
 obtain⟨⟨x1,x2,x3⟩,hx,hx1⟩:=aV.1 hw;simp only[iE] at hx1;obtain⟨rfl,rfl⟩:=hx1;exact OpenSpec.preRow_of_cond 8 hx fy (fun k hk=>by cases hk) fy (Vw os _)
end Go.Proofs.YteoamaffclmdbaaGreatDoor
