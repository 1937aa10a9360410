import Derived.Test.YtahkjijkflobhaaGreatDoorFskB
set_option linter.unusedSimpArgs false
set_option linter.unusedVariables false
set_option linter.unusedSectionVars false
set_option linter.defProp false
open Go.Proofs.Tryz
namespace Go.Proofs.YtahkjijkflobhaaGreatDoor
open Go Go.Abs
open Go.ChangeShapes Go.WideShapes Go.ChangeAt Go.RowKit Go.Lib
set_option maxRecDepth 100000 in
set_option maxHeartbeats 2000000 in
theorem tT(os:Os)(started:os.Started)(H:Type)(enc:TypeId×Value->H)(F:Stop.Interp) :
  ReturnsInHanded {} Tryz.checked os 6 .any ((OpenSpec.ofChange Rows.fsShotsSpec).preRow enc Tryz.prog f6 Rows.fsShotsRow.domain false Rows.fsShotsRow.laid)
   (((OpenSpec.ofChange Rows.fsShotsSpec).at F).post enc Tryz.prog f6 false Rows.fsShotsRow.fresh Rows.fsShotsRow.handsOn Rows.fsShotsRow.again):=by
 refine returnsInHanded_of_row (C:=Tryz.checked) (s:=(OpenSpec.ofChange Rows.fsShotsSpec)) af3 started (by kernel_rfl) func6
  (witness_row_atRef (enc:=enc) (C:=Tryz.checked) false (oe os) #[.slice none 0 0,.string ⟨#[]⟩,.slice none 0 0,.string ⟨#[]⟩] rfl (by kernel_rfl) (by kernel_rfl) (by kernel_rfl) (r9 os enc)) ?_
 intro W bL args ds gs before hval0 hW _ _ _ hL hsh _;have hval:∀(j:Nat) t v,Tryz.f6.params[j]?=some t->args[j]?=some v->Value.okWide Tryz.prog W .any bL t v:=hval0;have hW':=hW;have hlt0:=hW.lt;obtain⟨p,q,hA0,hV0,rfl,_,_⟩:=hW;have hA:DataW.TrodAll enc Tryz.prog W 0 (fun _=>true) true Tryz.f6.params.toList args.toList ds p:=hA0
 have hpar:Tryz.f6.params = #[22,9,22,9]:=rfl;have u4:Tryz.prog.underlying 4=some .bool:=by kernel_rfl
 have hA1:=hA;rw[hpar] at hA hval;obtain⟨v0,vs1,d0,ds1,p0,q0,hvs0,rfl,rfl,h0,hA⟩:=trodAll_cons hA;obtain⟨v1,vs2,d1,ds2,p1,q1,rfl,rfl,rfl,h1,hA⟩:=trodAll_cons hA;obtain⟨v2,vs3,d2,ds3,p2,q2,rfl,rfl,rfl,h2,hA⟩:=trodAll_cons hA;obtain⟨v3,vs4,d3,ds4,p3,q3,rfl,rfl,rfl,h3,hA⟩:=trodAll_cons hA;obtain⟨rfl,rfl,rfl⟩:=trodAll_nil hA;obtain rfl:=Lv hvs0;obtain⟨rfl,rfl⟩:=trodVars_none hV0;obtain⟨m0,r0⟩:=Ct h0 (hval 0 22 _ rfl rfl);obtain⟨m1,r1⟩:=xY h1 (hval 1 9 _ rfl rfl);obtain⟨m2,r2⟩:=Ct h2 (hval 2 22 _ rfl rfl);obtain⟨m3,r3⟩:=xY h3 (hval 3 9 _ rfl rfl);have cz:∀x∈(p0++(p1++(p2++(p3++([])))):List MemPlace),x.block<W.heap.size:=fun x hx=>hlt0 x (by simpa using hx)
 refine(zd Lp (Ub m0 m1 m2 m3) W (Rg hL hsh) _ rfl ?_).mono ?_
 ·intro i c v hc hv
  match i with
  |0=>cases hc; cases hv; exact r0
  |1=>cases hc; cases hv; exact r1
  |2=>cases hc; cases hv; exact r2
  |3=>cases hc; cases hv; exact r3
  |i+4=>cases hc
 ·rintro e W' ⟨rfl,hb⟩;exact⟨_,rfl,⟨_,_,_,[],_,[],hW',trodAll_mk1 (shut_bool u4 true),rI hb hA1 (by rw[hpar]; intro t ht; simp at ht; rcases ht with rfl|rfl|rfl|rfl<;>exact⟨by kernel_rfl,fA (by kernel_rfl)⟩) cz,rfl,hb.frame _,fun h=>by cases h⟩⟩
end Go.Proofs.YtahkjijkflobhaaGreatDoor
