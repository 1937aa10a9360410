import Derived.Test.YteoamaffclmdbaaGreatDoorHlbB
set_option linter.all false
open Go.Proofs.Tryz
namespace Go.Proofs.YteoamaffclmdbaaGreatDoor
open Go Go.Abs
open Go.ChangeShapes Go.WideShapes Go.ChangeAt Go.RowKit Go.Lib
set_option maxRecDepth 100000 in
set_option maxHeartbeats 2000000 in
theorem Mv(os:Os)(started:os.Started)(H:Type)(enc:TypeId×Value->H)(F:Stop.Interp) :
  ReturnsInHanded {} Tryz.checked os 6 .any ((OpenSpec.ofChange Rows.histAloneSpec).preRow enc Tryz.prog f6 Rows.histAloneRow.domain false Rows.histAloneRow.laid)
   (((OpenSpec.ofChange Rows.histAloneSpec).at F).post enc Tryz.prog f6 false Rows.histAloneRow.fresh Rows.histAloneRow.handsOn Rows.histAloneRow.again):=by
 refine returnsInHanded_of_row (C:=Tryz.checked) (s:=(OpenSpec.ofChange Rows.histAloneSpec)) auP started ft func6
  (witness_row_atRef (enc:=enc) (C:=Tryz.checked) false (yd os) #[.slice none 0 0,.slice none 0 0,.int .u8 0,.agg #[.int .i64 0,.int .i64 0,.int .i64 0,.int .i64 0,.int .i64 0,.slice none 0 0,.slice none 0 0]] rfl ft ft ft (Kf os enc)) ?_
 intro W bS args ds gs before hval0 hW _ _ _ hL hsh _;have hval:∀(j:Nat) t v,Tryz.f6.params[j]?=some t->args[j]?=some v->Value.okWide Tryz.prog W .any bS t v:=hval0;have hW':=hW;have hlt0:=hW.lt;obtain⟨p,q,hA0,hV0,rfl,_,_⟩:=hW;have hA:DataW.TrodAll enc Tryz.prog W 0 (fun _=>true) true Tryz.f6.params.toList args.toList ds p:=hA0
 have hpar:Tryz.f6.params = #[22,23,5,47]:=rfl;have u4:Tryz.prog.underlying 4=some .bool:=ft;have hA1:=hA;rw[hpar] at hA hval;obtain⟨v0,vs1,d0,ds1,p0,q0,hvs0,rfl,rfl,h0,hA⟩:=trodAll_cons hA;obtain⟨v1,vs2,d1,ds2,p1,q1,rfl,rfl,rfl,h1,hA⟩:=trodAll_cons hA;obtain⟨v2,vs3,d2,ds3,p2,q2,rfl,rfl,rfl,h2,hA⟩:=trodAll_cons hA;obtain⟨v3,vs4,d3,ds4,p3,q3,rfl,rfl,rfl,h3,hA⟩:=trodAll_cons hA;obtain⟨rfl,rfl,rfl⟩:=trodAll_nil hA;obtain rfl:=aiF hvs0;obtain⟨rfl,rfl⟩:=trodVars_none hV0;obtain⟨m0,r0⟩:=abD h0 (hval 0 22 _ rfl rfl);obtain⟨m1,r1⟩:=QO h1 (hval 1 23 _ rfl rfl);obtain⟨m2,r2⟩:=aiG h2 (hval 2 5 _ rfl rfl);obtain⟨m3,r3⟩:=YT h3 (hval 3 47 _ rfl rfl);have cQ:∀x∈(p0++(p1++(p2++(p3++([])))):List MemPlace),x.block<W.heap.size:=fun x hx=>hlt0 x (by simpa using hx)
 refine(MG aiu (Hx m0 m1 m2 m3) W (amO hL hsh) _ rfl ?_).mono ?_
 ·intro i c v hc hv
  match i with
  |0=>cases hc; cases hv; exact r0
  |1=>cases hc; cases hv; exact r1
  |2=>cases hc; cases hv; exact r2
  |3=>cases hc; cases hv; exact r3
  |i+4=>cases hc
 ·rintro e W' ⟨rfl,hb⟩;exact⟨_,rfl,⟨_,_,_,[],_,[],hW',trodAll_mk1 (shut_bool u4 true),yK hb hA1 (by rw[hpar]; intro t ht; simp at ht; rcases ht with rfl|rfl|rfl|rfl<;>exact⟨ft,jZ ft⟩) cQ,rfl,hb.frame _,fun h=>by cases h⟩⟩
end Go.Proofs.YteoamaffclmdbaaGreatDoor
