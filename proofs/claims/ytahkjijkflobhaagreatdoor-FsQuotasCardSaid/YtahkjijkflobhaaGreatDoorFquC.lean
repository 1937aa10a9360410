import Derived.Test.YtahkjijkflobhaaGreatDoorFquB
set_option linter.unusedSimpArgs false
set_option linter.unusedVariables false
set_option linter.unusedSectionVars false
set_option linter.defProp false
namespace Go.Proofs.YtahkjijkflobhaaGreatDoor
section
open Go Go.Abs Go.ChangeShapes Go.WideShapes Go.ChangeAt Go.RowKit Go.Lib
set_option maxRecDepth 100000 in
set_option maxHeartbeats 2000000 in
theorem CT (os:Os) (started:os.Started) (H:Type) (enc:TypeId×Value->H) (F:Stop.Interp) :
  ReturnsInHanded {} Tryz.checked os 8 .any ((OpenSpec.ofChange Rows.fsQuotasSpec).preRow enc Tryz.prog Tryz.f8 Rows.fsQuotasRow.domain false Rows.fsQuotasRow.laid)
   (((OpenSpec.ofChange Rows.fsQuotasSpec).at F).post enc Tryz.prog Tryz.f8 false Rows.fsQuotasRow.fresh Rows.fsQuotasRow.handsOn Rows.fsQuotasRow.again):=by
 refine returnsInHanded_of_row (C:=Tryz.checked) (s:=(OpenSpec.ofChange Rows.fsQuotasSpec)) aez started (by kernel_rfl) Tryz.func8
  (witness_row_atRef (enc:=enc) (C:=Tryz.checked) false (o6 os) #[.slice none 0 0] rfl (by kernel_rfl) (by kernel_rfl) (by kernel_rfl) (A8 os enc)) ?_
 intro W base args ds gs before hval0 hW _ _ _ hL hsh _
 have hval:∀(j:Nat) t v,Tryz.f8.params[j]?=some t->args[j]?=some v->Value.okWide Tryz.prog W .any base t v:=hval0
 have hW':=hW
 have hlt0:=hW.lt
 obtain ⟨p,q,hA0,hV0,rfl,_,_⟩:=hW
 have hA:DataW.TrodAll enc Tryz.prog W 0 (fun _=>true) true Tryz.f8.params.toList args.toList ds p:=hA0
 have hpar:Tryz.f8.params = #[22]:=rfl
 have u4:Tryz.prog.underlying 4=some .bool:=by kernel_rfl
 have hA1:=hA
 rw [hpar] at hA hval
 obtain ⟨v0,vs1,d0,ds1,p0,q0,hvs0,rfl,rfl,h0,hA⟩:=trodAll_cons hA
 obtain ⟨rfl,rfl,rfl⟩:=trodAll_nil hA
 obtain rfl:=TU hvs0
 obtain ⟨rfl,rfl⟩:=trodVars_none hV0
 obtain ⟨m0,r0⟩:=OJ h0 (hval 0 22 _ rfl rfl)
 have hlt:∀x∈(p0++([]):List MemPlace),x.block<W.heap.size:=fun x hx=>hlt0 x (by simpa using hx)
 refine (C1 TM (Fk m0) W (WE hL hsh) _ rfl ?_).mono ?_
 ·intro i c v hc hv
  match i with
  |0=>cases hc; cases hv; exact r0
  |i+1=>cases hc
 ·rintro e W' ⟨rfl,hb⟩
  exact ⟨_,rfl,⟨_,_,_,[],_,[],hW',trodAll_mk1 (shut_bool u4 true),pG hb hA1 (by rw [hpar]; intro t ht; simp at ht; subst ht; exact ⟨by kernel_rfl,of_decide_eq_true (by kernel_rfl)⟩) hlt,rfl,hb.frame _,fun h=>by cases h⟩⟩
end
end Go.Proofs.YtahkjijkflobhaaGreatDoor
