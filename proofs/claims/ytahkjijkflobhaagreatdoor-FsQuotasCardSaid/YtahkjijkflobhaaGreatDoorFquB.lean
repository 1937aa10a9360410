import Derived.Test.YtahkjijkflobhaaGreatDoorFquA
set_option linter.unusedSimpArgs false
set_option linter.unusedVariables false
set_option linter.unusedSectionVars false
set_option linter.defProp false
namespace Go.Proofs.YtahkjijkflobhaaGreatDoor
section
open Go Go.Abs Go.ChangeShapes Go.WideShapes Go.ChangeAt Go.RowKit Go.Lib
set_option maxRecDepth 100000 in
theorem A8 (os:Os) {H:Type} (enc:TypeId×Value->H) :
  (OpenSpec.ofChange Rows.fsQuotasSpec).preRow enc Tryz.prog Tryz.f8 Rows.fsQuotasRow.domain false Rows.fsQuotasRow.laid ((o6 os).forCall (fun _ _=>0) ⟨#[],#[.slice none 0 0],[]⟩).memory #[.slice none 0 0]:=by
 have hw:(DataW.whole enc Tryz.prog ((o6 os).forCall (fun _ _=>0) ⟨#[],#[.slice none 0 0],[]⟩).memory Tryz.f8.params.toList (OpenSpec.ofChange Rows.fsQuotasSpec).vars false (#[.slice none 0 0]:Array Value).toList 8).map (fun x=>(x.1,x.2.1)) =
   some ([.nil],[]):=by kernel_rfl
 obtain ⟨⟨x1,x2,x3⟩,hx,hx1⟩:=Option.map_eq_some_iff.1 hw
 simp only [Prod.mk.injEq] at hx1
 obtain ⟨rfl,rfl⟩:=hx1
 exact OpenSpec.preRow_of_cond 8 hx (by kernel_rfl) (fun k hk=>by cases hk) (by kernel_rfl) (Ky os _)
end
end Go.Proofs.YtahkjijkflobhaaGreatDoor
