import Derived.Test.YteoamaffclmdbaaGreatDoorHobA
set_option linter.unusedSimpArgs false
set_option linter.unusedVariables false
set_option linter.unusedSectionVars false
set_option linter.defProp false
open Go.Proofs.Tryz
namespace Go.Proofs.YteoamaffclmdbaaGreatDoor
open Go Go.Abs
open Go.ChangeShapes Go.WideShapes Go.ChangeAt Go.RowKit Go.Lib
set_option maxRecDepth 100000 in
theorem JO(os:Os){H:Type}(enc:TypeId×Value->H) :
  (OpenSpec.ofChange Rows.histOrdersSpec).preRow enc Tryz.prog f4 Rows.histOrdersRow.domain false Rows.histOrdersRow.laid ((xY os).forCall (fun _ _=>0) ⟨#[],#[.slice none 0 0,.slice none 0 0],[]⟩).memory #[.slice none 0 0,.slice none 0 0]:=by
 have hw:(DataW.whole enc Tryz.prog ((xY os).forCall (fun _ _=>0) ⟨#[],#[.slice none 0 0,.slice none 0 0],[]⟩).memory Tryz.f4.params.toList (OpenSpec.ofChange Rows.histOrdersSpec).vars false (#[.slice none 0 0,.slice none 0 0]:Array Value).toList 8).map (fun x=>(x.1,x.2.1)) =
   some ([.nil,.nil],[]):=fA
 obtain⟨⟨x1,x2,x3⟩,hx,hx1⟩:=aV.1 hw;simp only[pY] at hx1;obtain⟨rfl,rfl⟩:=hx1;exact OpenSpec.preRow_of_cond 8 hx fA (fun k hk=>by cases hk) fA (Vl os _)
end Go.Proofs.YteoamaffclmdbaaGreatDoor
