import Derived.Test.YteoamaffclmdbaaGreatDoorHcbA
set_option linter.unusedSimpArgs false
set_option linter.unusedVariables false
set_option linter.unusedSectionVars false
set_option linter.defProp false
open Go.Proofs.Tryz
namespace Go.Proofs.YteoamaffclmdbaaGreatDoor
open Go Go.Abs
open Go.ChangeShapes Go.WideShapes Go.ChangeAt Go.RowKit Go.Lib
set_option maxRecDepth 100000 in
theorem JY(os:Os){H:Type}(enc:TypeId×Value->H) :
  (OpenSpec.ofChange Rows.histCutsSpec).preRow enc Tryz.prog f7 Rows.histCutsRow.domain false Rows.histCutsRow.laid ((x8 os).forCall (fun _ _=>0) ⟨#[],#[.slice none 0 0,.slice none 0 0,.agg #[.int .u8 0,.int .u8 0],.int .u8 0],[]⟩).memory #[.slice none 0 0,.slice none 0 0,.agg #[.int .u8 0,.int .u8 0],.int .u8 0]:=by
 have hw:(DataW.whole enc Tryz.prog ((x8 os).forCall (fun _ _=>0) ⟨#[],#[.slice none 0 0,.slice none 0 0,.agg #[.int .u8 0,.int .u8 0],.int .u8 0],[]⟩).memory Tryz.f7.params.toList (OpenSpec.ofChange Rows.histCutsSpec).vars false (#[.slice none 0 0,.slice none 0 0,.agg #[.int .u8 0,.int .u8 0],.int .u8 0]:Array Value).toList 8).map (fun x=>(x.1,x.2.1)) =
   some ([.nil,.nil,.agg [.lit (.int .u8 0),.lit (.int .u8 0)],.lit (.int .u8 0)],[]):=fz
 obtain⟨⟨x1,x2,x3⟩,hx,hx1⟩:=aV.1 hw;simp only[jk] at hx1;obtain⟨rfl,rfl⟩:=hx1;exact OpenSpec.preRow_of_cond 8 hx fz (fun k hk=>by cases hk) fz (VC os _)
end Go.Proofs.YteoamaffclmdbaaGreatDoor
