import Derived.Test.YtcbopkblmebjiaaGreatDoorFtbB
set_option linter.all false
open Go.Proofs.Tryz
namespace Go.Proofs.YtcbopkblmebjiaaGreatDoor
open Go Go.Abs
open Go.ChangeShapes Go.WideShapes Go.ChangeAt Go.RowKit Go.Lib
set_option maxRecDepth 100000 in
set_option maxHeartbeats 2000000 in
theorem Lc(os:Os)(started:os.Started)(H:Type)(enc:TypeId×Value->H)(F:Stop.Interp) :
  ReturnsInHanded {} Tryz.checked os 7 .any ((OpenSpec.ofChange Rows.fedTellsSpec).preRow enc Tryz.prog f7 Rows.fedTellsRow.domain false Rows.fedTellsRow.laid)
   (((OpenSpec.ofChange Rows.fedTellsSpec).at F).post enc Tryz.prog f7 false Rows.fedTellsRow.fresh Rows.fedTellsRow.handsOn Rows.fedTellsRow.again):=by
 refine returnsInHanded_of_row (C:=Tryz.checked) (s:=(OpenSpec.ofChange Rows.fedTellsSpec)) am9 started gd func7
  (witness_row_atRef (enc:=enc) (C:=Tryz.checked) false (xU os) #[.agg #[.slice none 0 0,.slice none 0 0,.int .i64 0,.int .i64 0],.int .u8 0,.slice none 0 0] rfl gd gd gd (I5 os enc)) ?_
 intro W bZ args ds gs before hval0 hW _ _ _ hL hsh _;have hval:∀(j:Nat) t v,Tryz.f7.params[j]?=some t->args[j]?=some v->Value.okWide Tryz.prog W .any bZ t v:=hval0;have hW':=hW;have hlt0:=hW.lt;obtain⟨p,q,hA0,hV0,rfl,_,_⟩:=hW;have hA:DataW.TrodAll enc Tryz.prog W 0 (fun _=>true) true Tryz.f7.params.toList args.toList ds p:=hA0
 have hpar:Tryz.f7.params = #[32,5,22]:=rfl;have u4:Tryz.prog.underlying 4=some .bool:=gd;have hA1:=hA;rw[hpar] at hA hval;obtain⟨v0,vs1,d0,ds1,p0,q0,hvs0,rfl,rfl,h0,hA⟩:=trodAll_cons hA;obtain⟨v1,vs2,d1,ds2,p1,q1,rfl,rfl,rfl,h1,hA⟩:=trodAll_cons hA;obtain⟨v2,vs3,d2,ds3,p2,q2,rfl,rfl,rfl,h2,hA⟩:=trodAll_cons hA;obtain⟨rfl,rfl,rfl⟩:=trodAll_nil hA;obtain rfl:=aeb hvs0;obtain⟨rfl,rfl⟩:=trodVars_none hV0;obtain⟨m0,r0⟩:=V0 h0 (hval 0 32 _ rfl rfl);obtain⟨m1,r1⟩:=aec h1 (hval 1 5 _ rfl rfl);obtain⟨m2,r2⟩:=O7 h2 (hval 2 22 _ rfl rfl);have cA:∀x∈(p0++(p1++(p2++([]))):List MemPlace),x.block<W.heap.size:=fun x hx=>hlt0 x (by simpa using hx)
 refine(Lo ad3 (Ik m0 m1 m2) W (ahC hL hsh) _ rfl ?_).mono ?_
 ·intro i c v hc hv
  match i with
  |0=>cases hc; cases hv; exact r0
  |1=>cases hc; cases hv; exact r1
  |2=>cases hc; cases hv; exact r2
  |i+3=>cases hc
 ·rintro e W' ⟨rfl,hb⟩;exact⟨_,rfl,⟨_,_,_,[],_,[],hW',trodAll_mk1 (shut_bool u4 true),yv hb hA1 (by rw[hpar]; intro t ht; simp at ht; rcases ht with rfl|rfl|rfl<;>exact⟨gd,bN gd⟩) cA,rfl,hb.frame _,fun h=>by cases h⟩⟩
end Go.Proofs.YtcbopkblmebjiaaGreatDoor
