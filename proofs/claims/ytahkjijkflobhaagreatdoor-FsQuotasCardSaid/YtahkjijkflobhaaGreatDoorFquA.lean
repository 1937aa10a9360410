import Derived.Test.YtahkjijkflobhaaGreatDoorFsbF
set_option linter.unusedSimpArgs false
set_option linter.unusedVariables false
set_option linter.unusedSectionVars false
set_option linter.defProp false
namespace Go.Proofs.YtahkjijkflobhaaGreatDoor
open Go Go.Abs
section
attribute [local irreducible] cJ cE gD gK bG kr ai ak aV aF
def k21 {t:Tree} (h:Rt t) (ino:Int) (M:ag):ak (ai aQ) 21 [.agg [az t.nodes,.int .i64 t.next,.int .i64 t.af],.int .i64 ino] M=some (.tuple [.int .i64 (eN t.nodes ino).1,.int .i64 (eN t.nodes ino).2],M):=by
 rw [yW h]
 exact cO (c21 t ino h.sz.nodes (fun n hn=>⟨(h.nok hn).2,(h.nok hn).1⟩)) M
def SK {xs:List er} {f F:aa} {A:Gj} {i:Nat} (hf:nK f) (hq:zg f) {k:List K} {R:Option (ae×ag)}
  (hx:∀z,kr (ai jC) [.tmp 2] 0 k ⟨.exit 2,(0,wj xs)::(3,.bool true)::(4,.ptr 0 0)::(5,.int .i64 i)::(8,.int .i64 f.bJ.length)::z,[.cells (dB f),.cells (dB F),.cells (gq A)]⟩=R) :
  cJ (ai jC) [.tmp 2] 0 k (.loop [0,3,4,5,8] Xu) [(0,wj xs),(3,.bool true),(4,.ptr 0 0),(5,.int .i64 i),(8,.int .i64 0)] [.cells (dB f),.cells (dB F),.cells (gq A)]=R:=by
 have hql:=hf.pv
 refine uZ (xs:=f.bJ) (by omega) (fun _ (_:Unit)=>()) (fun _ j=>[(0,wj xs),(3,.bool true),(4,.ptr 0 0),(5,.int .i64 i),(8,.int .i64 j)]) (fun _=>[.cells (dB f),.cells (dB F),.cells (gq A)]) (fun _=>R) (fun _=>?_) (fun pre x post _ h hx' hlt hw h0 hm hi=>?_) ()
 ·simp only [dB,gq] at hx ⊢
  simp only [E8,Int.lt_irrefl,L8,EW,simprocAttr]
  exact hx _
 ·have q:=fun M=>lE (k21 hf.rt x.ino M)
  have ho:fp f.s.now x=false:=by simpa using List.any_eq_false.1 hq x hm
  have i1:=hi ()
  unfold fp at ho
  simp only [Bool.not_eq_eq_eq_not,Bool.not_false,Bool.and_eq_true,decide_eq_true_eq] at ho
  have o1:(x.nodes<(eN f.s.now.nodes x.ino).1)=False:=by simp only [eq_iff_iff,iff_false]; omega
  have o2:(x.bytes<(eN f.s.now.nodes x.ino).2)=False:=by simp only [eq_iff_iff,iff_false]; omega
  generalize eN f.s.now.nodes x.ino=u at q o1 o2
  simp only [dB,gq] at i1 ⊢
  simp only [E8,hlt,hx',h0,hw,q,o1,o2,bA,eL,L8,EW,simprocAttr]
  exact i1
def SL {xs:List er} (hn:xs.length<=50) (ho:∀o,o∈xs->uc o) {k:List K} {R:Option (ae×ag)}
  (hx:∀e M,kr (ai jC) [.tmp 2] 0 k ⟨.exit 0,(0,wj xs)::(3,.bool true)::e,M⟩=R) :
  ∀(l pre:List er) (f:aa),xs=pre++l->FB (200*pre.length) f->zg f->cJ (ai jC) [.tmp 2] 0 k (.loop [0,3,4,5] Xv) [(0,wj xs),(3,.bool true),(4,.ptr 0 0),(5,.int .i64 pre.length)] [.cells (dB f)]=R:=by
 intro l
 induction l with
 |nil =>
  intro pre f h _ _
  rw [aB]
  simp only [E8,c9 h,L8,EW,simprocAttr]
  exact hx _ _
 |cons o rest ih =>
  intro pre f h hb hq
  rw [aB]
  have hlen:pre.length+1<=50:=by rw [h] at hn; simp at hn; omega
  have hw:IntKind.i64.wrap ((pre.length:Int)+1)=((pre++[o]).length:Int):=by rw [bD (by omega) (by omega)]; exact bK
  have q14:=fun M=>DD f o hb.ok (ho o (by rw [h]; simp)) M
  have hb':=lO hb (by omega) o
  have hq':=MM hq hb.ok o
  have i1:=ih (pre++[o]) (pq f o).1 (by rw [h]; simp) (by simpa [Nat.mul_add] using hb') hq'
  have hl:=fun {k R} hx=>SK (xs:=xs) (i:=pre.length) (F:=(pq f o).1) (A:=(pq f o).2) hb'.ok hq' (k:=k) (R:=R) hx
  generalize pq f o=X at q14 i1 hl
  obtain ⟨F,A⟩:=X
  simp only [List.length_append,List.length_cons,List.length_nil,Nat.zero_add] at i1
  simp only [dB,gq,gM] at q14 i1 hl ⊢
  simp only [E8,cC h,cn h,q14,gM,L8,EW,simprocAttr]
  refine hl (fun z=>?_)
  simp only [E8,hw,L8,EW,simprocAttr]
  exact i1
def Fk (xs:List er):ai jC 8 [wj xs] []=some (.bool true,[]):=by
 refine aq ?_
 have q10:=fun M=>fj Nd rfl rfl rfl rfl rfl M
 have q11:=fun M=>lE (k11 xs M)
 have q20:=fun M=>lE (k20 M)
 cases hg:sn xs<;>rw [hg] at q11<;>simp only [fn8,E8,q10,q11,q20,dB,L8,EW,simprocAttr]
 obtain ⟨hn,ho⟩:=IB hg
 have hl:=fun {k R} hx=>SL hn ho (k:=k) (R:=R) hx xs [] f0 rfl fb0 aeD
 simp only [dB] at hl
 refine hl (fun e M=>?_)
 simp only [E8,L8,EW,simprocAttr]
end
end Go.Proofs.YtahkjijkflobhaaGreatDoor
