import Derived.Test.YteoamaffclmdbaaGreatDoorHobB
set_option linter.unusedSimpArgs false
set_option linter.unusedVariables false
set_option linter.unusedSectionVars false
set_option linter.defProp false
open Go.Proofs.Tryz
namespace Go.Proofs.YteoamaffclmdbaaGreatDoor
open Go Go.Abs
open Go.ChangeShapes Go.WideShapes Go.ChangeAt Go.RowKit Go.Lib
set_option maxRecDepth 100000 in
set_option maxHeartbeats 2000000 in
theorem L5(os:Os)(started:os.Started)(H:Type)(enc:TypeId×Value->H)(F:Stop.Interp) :
  ReturnsInHanded {} Tryz.checked os 4 .any ((OpenSpec.ofChange Rows.histOrdersSpec).preRow enc Tryz.prog f4 Rows.histOrdersRow.domain false Rows.histOrdersRow.laid)
   (((OpenSpec.ofChange Rows.histOrdersSpec).at F).post enc Tryz.prog f4 false Rows.histOrdersRow.fresh Rows.histOrdersRow.handsOn Rows.histOrdersRow.again):=by
 refine returnsInHanded_of_row (C:=Tryz.checked) (s:=(OpenSpec.ofChange Rows.histOrdersSpec)) atF started fA func4
  (witness_row_atRef (enc:=enc) (C:=Tryz.checked) false (xY os) #[.slice none 0 0,.slice none 0 0] rfl fA fA fA (JO os enc)) ?_
 intro W bS args ds gs before hval0 hW _ _ _ hL hsh _;have hval:∀(j:Nat) t v,Tryz.f4.params[j]?=some t->args[j]?=some v->Value.okWide Tryz.prog W .any bS t v:=hval0;have hW':=hW;have hlt0:=hW.lt;obtain⟨p,q,hA0,hV0,rfl,_,_⟩:=hW;have hA:DataW.TrodAll enc Tryz.prog W 0 (fun _=>true) true Tryz.f4.params.toList args.toList ds p:=hA0
 have hpar:Tryz.f4.params = #[22,23]:=rfl;have u4:Tryz.prog.underlying 4=some .bool:=fA;have hA1:=hA;rw[hpar] at hA hval;obtain⟨v0,vs1,d0,ds1,p0,q0,hvs0,rfl,rfl,h0,hA⟩:=trodAll_cons hA;obtain⟨v1,vs2,d1,ds2,p1,q1,rfl,rfl,rfl,h1,hA⟩:=trodAll_cons hA;obtain⟨rfl,rfl,rfl⟩:=trodAll_nil hA;obtain rfl:=ahO hvs0;obtain⟨rfl,rfl⟩:=trodVars_none hV0;obtain⟨m0,r0⟩:=aaN h0 (hval 0 22 _ rfl rfl);obtain⟨m1,r1⟩:=Qb h1 (hval 1 23 _ rfl rfl);have cJ:∀x∈(p0++(p1++([])):List MemPlace),x.block<W.heap.size:=fun x hx=>hlt0 x (by simpa using hx)
 refine(Md ahF (E7 m0 m1) W (alP hL hsh) _ rfl ?_).mono ?_
 ·intro i c v hc hv
  match i with
  |0=>cases hc; cases hv; exact r0
  |1=>cases hc; cases hv; exact r1
  |i+2=>cases hc
 ·rintro e W' ⟨rfl,hb⟩;exact⟨_,rfl,⟨_,_,_,[],_,[],hW',trodAll_mk1 (shut_bool u4 true),yz hb hA1 (by rw[hpar]; intro t ht; simp at ht; rcases ht with rfl|rfl<;>exact⟨fA,jT fA⟩) cJ,rfl,hb.frame _,fun h=>by cases h⟩⟩
end Go.Proofs.YteoamaffclmdbaaGreatDoor
