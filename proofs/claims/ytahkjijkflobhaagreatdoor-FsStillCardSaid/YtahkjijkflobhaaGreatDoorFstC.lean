import Derived.Test.YtahkjijkflobhaaGreatDoorFstB
set_option linter.unusedSimpArgs false
set_option linter.unusedVariables false
set_option linter.unusedSectionVars false
set_option linter.defProp false
namespace Go.Proofs.YtahkjijkflobhaaGreatDoor
open Go Go.Abs
open Go.ChangeShapes Go.WideShapes Go.ChangeAt Go.RowKit Go.Lib
set_option maxRecDepth 100000 in
set_option maxHeartbeats 2000000 in
theorem ru(os:Os)(started:os.Started)(H:Type)(enc:TypeId×Value->H)(F:Stop.Interp) :
  ReturnsInHanded {} Tryz.checked os 4 .any ((OpenSpec.ofChange Rows.fsStillSpec).preRow enc Tryz.prog Tryz.f4 Rows.fsStillRow.domain false Rows.fsStillRow.laid)
   (((OpenSpec.ofChange Rows.fsStillSpec).at F).post enc Tryz.prog Tryz.f4 false Rows.fsStillRow.fresh Rows.fsStillRow.handsOn Rows.fsStillRow.again):=by
 refine returnsInHanded_of_row (C:=Tryz.checked) (s:=(OpenSpec.ofChange Rows.fsStillSpec)) ahg started (by kernel_rfl) Tryz.func4
  (witness_row_atRef (enc:=enc) (C:=Tryz.checked) false (jJ os) #[.slice none 0 0,.agg #[.int .i64 0,.int .i64 0,.string ⟨#[]⟩,.string ⟨#[]⟩,.int .i64 0,.int .i64 0,.int .i64 0,.slice none 0 0]] rfl (by kernel_rfl) (by kernel_rfl) (by kernel_rfl) (pa os enc)) ?_
 intro W base args ds gs before hval0 hW _ _ _ hL hsh _;have hval:∀(j:Nat) t v,Tryz.f4.params[j]?=some t->args[j]?=some v->Value.okWide Tryz.prog W .any base t v:=hval0;have hW':=hW;have hlt0:=hW.lt;obtain⟨p,q,hA0,hV0,rfl,_,_⟩:=hW;have hA:DataW.TrodAll enc Tryz.prog W 0 (fun _=>true) true Tryz.f4.params.toList args.toList ds p:=hA0
 have hpar:Tryz.f4.params = #[22,25]:=rfl;have u4:Tryz.prog.underlying 4=some .bool:=by kernel_rfl
 have hA1:=hA;rw[hpar] at hA hval;obtain⟨v0,vs1,d0,ds1,p0,q0,hvs0,rfl,rfl,h0,hA⟩:=trodAll_cons hA;obtain⟨v1,vs2,d1,ds2,p1,q1,rfl,rfl,rfl,h1,hA⟩:=trodAll_cons hA;obtain⟨rfl,rfl,rfl⟩:=trodAll_nil hA;obtain rfl:=Qi hvs0;obtain⟨rfl,rfl⟩:=trodVars_none hV0;obtain⟨m0,r0⟩:=FP h0 (hval 0 22 _ rfl rfl);obtain⟨m1,r1⟩:=Pm h1 (hval 1 25 _ rfl rfl);have hlt:∀x∈(p0++(p1++([])):List MemPlace),x.block<W.heap.size:=fun x hx=>hlt0 x (by simpa using hx)
 refine(xj Qd (Oh m0 m1) W (UR hL hsh) _ rfl ?_).mono ?_
 ·intro i c v hc hv
  match i with
  |0=>cases hc; cases hv; exact r0
  |1=>cases hc; cases hv; exact r1
  |i+2=>cases hc
 ·rintro e W' ⟨rfl,hb⟩;exact⟨_,rfl,⟨_,_,_,[],_,[],hW',trodAll_mk1 (shut_bool u4 true),mM hb hA1 (by rw[hpar]; intro t ht; simp at ht; rcases ht with rfl|rfl<;>exact⟨by kernel_rfl,of_decide_eq_true (by kernel_rfl)⟩) hlt,rfl,hb.frame _,fun h=>by cases h⟩⟩
end Go.Proofs.YtahkjijkflobhaaGreatDoor
