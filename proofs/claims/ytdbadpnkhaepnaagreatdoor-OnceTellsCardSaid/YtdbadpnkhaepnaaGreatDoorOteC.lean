import Derived.Test.YtdbadpnkhaepnaaGreatDoorOteB
set_option linter.unusedSimpArgs false
set_option linter.unusedVariables false
set_option linter.unusedSectionVars false
set_option linter.defProp false
namespace Go.Proofs.YtdbadpnkhaepnaaGreatDoor
section
open Go Go.Abs Go.ChangeShapes Go.WideShapes Go.ChangeAt Go.RowKit Go.Lib
set_option maxRecDepth 100000 in
set_option maxHeartbeats 2000000 in
theorem eZ (os:Os) (started:os.Started) (H:Type) (enc:TypeId×Value->H) (F:Stop.Interp) :
  ReturnsInHanded {} Tryz.checked os 3 .any ((OpenSpec.ofChange Rows.onceTellsSpec).preRow enc Tryz.prog Tryz.f3 Rows.onceTellsRow.domain false Rows.onceTellsRow.laid)
   (((OpenSpec.ofChange Rows.onceTellsSpec).at F).post enc Tryz.prog Tryz.f3 false Rows.onceTellsRow.fresh Rows.onceTellsRow.handsOn Rows.onceTellsRow.again):=by
 refine returnsInHanded_of_row (C:=Tryz.checked) (s:=(OpenSpec.ofChange Rows.onceTellsSpec)) G8 started (by kernel_rfl) Tryz.func3
  (witness_row_atRef (enc:=enc) (C:=Tryz.checked) false (dz os) #[.slice none 0 0,.slice none 0 0] rfl (by kernel_rfl) (by kernel_rfl) (by kernel_rfl) (eo os enc)) ?_
 intro W base args ds gs before hval0 hW _ _ _ hL hsh _
 have hval:∀(j:Nat) t v,Tryz.f3.params[j]?=some t->args[j]?=some v->Value.okWide Tryz.prog W .any base t v:=hval0
 have hW':=hW
 have hlt0:=hW.lt
 obtain ⟨p,q,hA0,hV0,rfl,_,_⟩:=hW
 have hA:DataW.TrodAll enc Tryz.prog W 0 (fun _=>true) true Tryz.f3.params.toList args.toList ds p:=hA0
 have hpar:Tryz.f3.params = #[22,23]:=rfl
 have u4:Tryz.prog.underlying 4=some .bool:=by kernel_rfl
 have hA1:=hA
 rw [hpar] at hA hval
 obtain ⟨v0,vs1,d0,ds1,p0,q0,hvs0,rfl,rfl,h0,hA⟩:=trodAll_cons hA
 obtain ⟨v1,vs2,d1,ds2,p1,q1,rfl,rfl,rfl,h1,hA⟩:=trodAll_cons hA
 obtain ⟨rfl,rfl,rfl⟩:=trodAll_nil hA
 obtain rfl:=uB hvs0
 obtain ⟨rfl,rfl⟩:=trodVars_none hV0
 obtain ⟨m0,r0⟩:=nr h0 (hval 0 22 _ rfl rfl)
 obtain ⟨m1,r1⟩:=Ho h1 (hval 1 23 _ rfl rfl)
 have hlt:∀x∈(p0++(p1++([])):List MemPlace),x.block<W.heap.size:=fun x hx=>hlt0 x (by simpa using hx)
 refine (kh um (M4 m0 m1) W (ya hL hsh) _ rfl ?_).mono ?_
 ·intro i c v hc hv
  match i with
  |0=>cases hc; cases hv; exact r0
  |1=>cases hc; cases hv; exact r1
  |i+2=>cases hc
 ·rintro e W' ⟨rfl,hb⟩
  exact ⟨_,rfl,⟨_,_,_,[],_,[],hW',trodAll_mk1 (shut_bool u4 true),gq hb hA1 (by rw [hpar]; intro t ht; simp at ht; rcases ht with rfl|rfl<;>exact ⟨by kernel_rfl,of_decide_eq_true (by kernel_rfl)⟩) hlt,rfl,hb.frame _,fun h=>by cases h⟩⟩
end
end Go.Proofs.YtdbadpnkhaepnaaGreatDoor
