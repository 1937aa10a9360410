import Derived.Laws.RangeString
import Derived.RangeFuncBox
import Derived.RangeFuncFrom
import Derived.RangeFuncLeaves
import Derived.Shelf.Abstract
import Derived.WalkKit
import Derived.OwnWalkIn
import Derived.TacticsInMore
import Derived.LoopNIn
import Derived.LoopIn
import Derived.Maps.AppendAt
import Derived.RangeFuncNested
import Derived.Test.YtdbadpnkhaepnaaGreatDoorOnbC
set_option linter.unusedSimpArgs false
set_option linter.unusedVariables false
set_option linter.unusedSectionVars false
set_option linter.defProp false
namespace Go.Proofs.YtdbadpnkhaepnaaGreatDoor
section
open Go
-- What is decoded in the midst of a text: a byte below 128,or a rune from 128 on out of such bytes.
set_option maxRecDepth 100000 in
def Ev {s pre r:List UInt8} {n:UInt8} (h:s=pre++n::r) :
  (n.toNat<128/\Utf8.decode ⟨s.toArray⟩ pre.length=(n.toNat,1)) \/
  ∃c m r',n::r=m++r'/\m≠[]/\(∀b,b∈m->128<=b.toNat)/\128<=c/\c<2147483648/\Utf8.decode ⟨s.toArray⟩ pre.length=(c,m.length):=by
 have hg:∀k,(⟨s.toArray⟩:ByteArray).get! (pre.length+k)=(n::r).getD k 0:=fun k=>by
  subst h
  show ((pre++n::r).toArray)[pre.length+k]! = _
  simp only [List.getElem!_toArray,List.getElem!_eq_getElem?_getD,List.getD_eq_getElem?_getD]
  rw [List.getElem?_append_right (by omega),Nat.add_sub_cancel_left]
  rfl
 have hsz:(⟨s.toArray⟩:ByteArray).size=pre.length+(n::r).length:=by
  show s.toArray.size=_
  subst h; simp
 by_cases hn:n.toNat<128
 ·refine .inl ⟨hn,?_⟩
  have h0:=hg 0
  simp only [Nat.add_zero,List.getD_cons_zero] at h0
  simp [Utf8.decode,h0,hn]
 ·refine .inr ?_
  have hn':128<=n.toNat:=by omega
  have h0:=hg 0
  have h1:=hg 1
  have h2:=hg 2
  have h3:=hg 3
  simp only [Nat.add_zero,List.getD_cons_zero,List.getD_cons_succ] at h0 h1 h2 h3
  have one:∀c,128<=c->c<2147483648->Utf8.decode ⟨s.toArray⟩ pre.length=(c,1)->∃c m r',n::r=m++r'/\m≠[]/\(∀b,b∈m->128<=b.toNat)/\128<=c/\c<2147483648/\Utf8.decode ⟨s.toArray⟩ pre.length=(c,m.length) :=
   fun c hc hc2 hd=>⟨c,[n],r,rfl,by simp,by simpa using hn',hc,hc2,hd⟩
  have big:∀k,k<r.length->128<=(r.getD k 0).toNat->∃b,r[k]?=some b/\128<=b.toNat:=fun k hk hb=>by
   refine ⟨r[k],List.getElem?_eq_getElem hk,?_⟩
   simpa [List.getD_eq_getElem?_getD,List.getElem?_eq_getElem hk] using hb
  have hlt:¬n.toNat<0x80:=by omega
  have hN:n.toNat<256:=n.toNat_lt
  unfold Utf8.decode at one ⊢
  simp only [Nat.add_zero,h0,h1,h2,h3,hsz,List.length_cons,hlt,if_false] at one ⊢
  by_cases hA:(n.toNat / 32==6&&(decide (pre.length+1<pre.length+(r.length+1))&&(r.getD 0 0).toNat / 64==2))=true
  ·simp only [hA,if_true] at one ⊢
   simp only [Bool.and_eq_true,beq_iff_eq,decide_eq_true_eq] at hA
   obtain ⟨hA1,hA2,hA3⟩:=hA
   by_cases hc:n.toNat % 32*64+(r.getD 0 0).toNat % 64>=0x80
   ·simp only [hc,if_true] at one ⊢
    obtain ⟨b0,g0,g1⟩:=big 0 (by omega) (by omega)
    match r,g0 with
    |_::r',g0 =>
     injection g0 with g0; subst g0
     exact ⟨_,[n,_],r',rfl,by simp,by simp [hn',g1],hc,by omega,rfl⟩
   ·simp only [hc,if_false] at one ⊢
    exact one _ (by decide) (by decide) rfl
  ·simp only [hA,if_false] at one ⊢
   by_cases hB:(n.toNat / 16==14&&(decide (pre.length+1<pre.length+(r.length+1))&&(r.getD 0 0).toNat / 64==2)&&(decide (pre.length+2<pre.length+(r.length+1))&&(r.getD 1 0).toNat / 64==2))=true
   ·simp only [hB,if_true] at one ⊢
    simp only [Bool.and_eq_true,beq_iff_eq,decide_eq_true_eq] at hB
    obtain ⟨⟨hB1,hB2,hB3⟩,hB4,hB5⟩:=hB
    by_cases hc:((n.toNat % 16*4096+(r.getD 0 0).toNat % 64*64+(r.getD 1 0).toNat % 64>=0x800:Bool)&&Utf8.valid ((n.toNat % 16*4096+(r.getD 0 0).toNat % 64*64+(r.getD 1 0).toNat % 64:Nat):Int))=true
    ·simp only [hc,if_true] at one ⊢
     simp only [Bool.and_eq_true,decide_eq_true_eq] at hc
     obtain ⟨b0,g0,g1⟩:=big 0 (by omega) (by omega)
     obtain ⟨b1,k0,k1⟩:=big 1 (by omega) (by omega)
     match r,g0,k0 with
     |_::_::r',g0,k0 =>
      injection g0 with g0; subst g0
      injection k0 with k0; subst k0
      exact ⟨_,[n,_,_],r',rfl,by simp,by simp [hn',g1,k1],by omega,by omega,rfl⟩
    ·simp only [hc,if_false] at one ⊢
     exact one _ (by decide) (by decide) rfl
   ·simp only [hB,if_false] at one ⊢
    by_cases hC:(n.toNat / 8==30&&(decide (pre.length+1<pre.length+(r.length+1))&&(r.getD 0 0).toNat / 64==2)&&(decide (pre.length+2<pre.length+(r.length+1))&&(r.getD 1 0).toNat / 64==2)&&(decide (pre.length+3<pre.length+(r.length+1))&&(r.getD 2 0).toNat / 64==2))=true
    ·simp only [hC,if_true] at one ⊢
     simp only [Bool.and_eq_true,beq_iff_eq,decide_eq_true_eq] at hC
     obtain ⟨⟨⟨hB1,hB2,hB3⟩,hB4,hB5⟩,hB6,hB7⟩:=hC
     by_cases hc:((n.toNat % 8*262144+(r.getD 0 0).toNat % 64*4096+(r.getD 1 0).toNat % 64*64+(r.getD 2 0).toNat % 64>=0x10000:Bool)&&Utf8.valid ((n.toNat % 8*262144+(r.getD 0 0).toNat % 64*4096+(r.getD 1 0).toNat % 64*64+(r.getD 2 0).toNat % 64:Nat):Int))=true
     ·simp only [hc,if_true] at one ⊢
      simp only [Bool.and_eq_true,decide_eq_true_eq] at hc
      obtain ⟨b0,g0,g1⟩:=big 0 (by omega) (by omega)
      obtain ⟨b1,k0,k1⟩:=big 1 (by omega) (by omega)
      obtain ⟨b2,l0,l1⟩:=big 2 (by omega) (by omega)
      match r,g0,k0,l0 with
      |_::_::_::r',g0,k0,l0 =>
       injection g0 with g0; subst g0
       injection k0 with k0; subst k0
       injection l0 with l0; subst l0
       exact ⟨_,[n,_,_,_],r',rfl,by simp,by simp [hn',g1,k1,l1],by omega,by omega,rfl⟩
     ·simp only [hc,if_false] at one ⊢
      exact one _ (by decide) (by decide) rfl
    ·simp only [hC,if_false] at one ⊢
     exact one _ (by decide) (by decide) rfl
end
end Go.Proofs.YtdbadpnkhaepnaaGreatDoor
namespace Go.Proofs.YtdbadpnkhaepnaaGreatDoor
open Go Go.Abs
section
attribute [local irreducible] cT cR gz gK bR kr af an aZ aK
def gH (_:Bytes):Prop:=True
def all_true {m:Bytes} (h:∀b,b∈m->128<=b.toNat):m.all oz=true:=by
 rw [List.all_eq_true]
 intro b hb
 have:=h b hb
 have h1:¬((b.toNat:Int)<32):=by omega
 have h2:¬((b.toNat:Int)=47):=by omega
 simp [oz,h1,h2]
def QL {s:Bytes} (hs:s.length<=100000) (ha:gH s) {k:List K} {R:Bool->Option (ae×ai)}
  (hx:∀e p,kr (af aV) [.tmp 2] 0 k ⟨.exit 0,e,[.gA s p]⟩=R true) (hr:∀p,kr (af aV) [.tmp 2] 0 k ⟨.ret,[(2,.bool false)],[.gA s p]⟩=R false) :
  ∀(q:Nat) (l pre:Bytes),l.length<=q->s=pre++l->cT (af aV) [.tmp 2] 0 k (.loop [21] EP) [(21,.dW 0)] [.gA s pre.length]=R (l.all oz):=by
 intro q
 induction q with
 |zero =>
  intro l pre hq h
  have h0:l=[]:=List.eq_nil_of_length_eq_zero (by omega)
  subst h0
  rw [aE]
  have hlt:(pre.length<s.length)=False:=by rw [h]; simp
  simp only [oW,hlt,EN,simprocAttr]
  exact hx _ _
 |succ q ih =>
  intro l pre hq h
  cases l with
  |nil =>
   rw [aE]
   have hlt:(pre.length<s.length)=False:=by rw [h]; simp
   simp only [oW,hlt,EN,simprocAttr]
   exact hx _ _
  |cons n r =>
   rw [aE]
   have hlt:(pre.length<s.length)=True:=by rw [h]; simp
   rcases Ev h with ⟨hn,hd⟩|⟨c,m,r',hm,hne,hb,hc,hc2,hd⟩
   ·have hi:=ih r (pre++[n]) (by simp at hq; omega) (by rw [h]; simp)
    simp only [List.length_append,List.length_cons,List.length_nil,Nat.zero_add] at hi
    simp only [oW,hlt,hd,EN,simprocAttr]
    repeat' ((first|refine aH (fun hb=>?_) (fun hb=>?_)|refine bj (fun hb=>?_) (fun hb=>?_)|refine cj (fun hb=>?_) (fun hb=>?_))<;>simp only [hb,oW,hd,EV,simprocAttr])
    all_goals first
     |(refine (hr _).trans ?_; congr 1; symm; clear hi ih hx hr hd h; simp_all [oz]; done)
     |(refine hi.trans ?_; congr 1; symm; clear hi ih hx hr hd h; simp_all [oz]; done)
   ·have hml:0<m.length:=List.length_pos_iff.2 hne
    have hl2:(n::r).length=m.length+r'.length:=by rw [hm]; simp
    have hi:=ih r' (pre++m) (by simp at hq hl2; omega) (by rw [h,hm]; simp)
    simp only [List.length_append] at hi
    have h32:decide ((c:Int)<32)=false:=by simp; omega
    have h47:((c:Int)==47)=false:=by rw [beq_eq_false_iff_ne]; omega
    rw [hm,List.all_append,all_true hb,Bool.true_and]
    simp only [oW,hlt,hd,h32,h47,EN,simprocAttr]
    exact hi
def afS (s:Bytes) (hs:s.length<=100000) (ha:gH s):af aV 124 [.str s] []=some (.bool (c8 s),[]):=by
 refine aq rfl rfl rfl ?_
 simp only [x6,oW,EN,simprocAttr]
 have hl:=fun k hx hr=>QL (k:=k) (R:=fun b=>some (ae.bool b,[])) hs ha hx hr s.length s [] (Nat.le_refl _) rfl
 have he:(s==[])=decide ((s.length:Int)<1):=by cases s<;>simp; omega
 rw [he]
 repeat' ((first|refine aH (fun hb=>?_) (fun hb=>?_)|refine bj (fun hb=>?_) (fun hb=>?_)|refine cj (fun hb=>?_) (fun hb=>?_))<;>simp only [hb,EN,oW,simprocAttr])
 all_goals first
  |(clear hl he; simp_all [c8]; done)
  |(refine (hl _ (fun e p=>by simp only [oW,EN,simprocAttr]) (fun p=>by simp only [oW,EN,simprocAttr])).trans ?_; clear hl he; simp_all [c8]; done)
def VB (s:Bytes) (hs:s.length<=100000) (ha:gH s) (M:ai):an (af aV) 124 [.str s] M=some (.bool (c8 s),M):=cO (afS s hs ha) M
def ahA (a b:Bytes) (M:ai):an (af aV) 208 [.str a,.str b] M=some (.int .i64 (Lib.compareBytes a b),M) :=
 cO (bM (g:=sy) rfl rfl) M
def agu (a b:Bytes):af aV 174 [.str a,.str b] []=some (.int .i64 (Lib.compareBytes a b),[]):=by
 refine aq rfl rfl rfl ?_
 simp only [KL,aeR,ahA,EN,simprocAttr]
def aht (a b:Bytes) (M:ai):an (af aV) 174 [.str a,.str b] M=some (.int .i64 (Lib.compareBytes a b),M):=cO (agu a b) M
def Et:∀(a b:Bytes),(Lib.compareBytes a b<0)=(strLt a b=true)
 | [],[]=>by simp [Lib.compareBytes,strLt]
 | [],_::_=>by simp [Lib.compareBytes,strLt]
 |_::_,[]=>by simp [Lib.compareBytes,strLt]
 |a::x,b::y=>by
  rw [Lib.compareBytes,strLt]
  by_cases h1:a<b
  ·simp [h1]
  ·by_cases h2:b<a
   ·have h3:¬a=b:=by rintro rfl; exact UInt8.lt_irrefl _ h2
    simp [h1,h2,h3]
   ·have h3:a=b:=by rw [<-UInt8.toNat_inj]; simp only [UInt8.lt_iff_toNat_lt] at h1 h2; omega
    subst h3
    simp [h1,Et x y]
def Es:∀(a b:Bytes),(Lib.compareBytes a b==0)=(a==b)
 | [],[]=>by simp [Lib.compareBytes]
 | [],_::_=>by simp [Lib.compareBytes]
 |_::_,[]=>by simp [Lib.compareBytes]
 |a::x,b::y=>by
  rw [Lib.compareBytes]
  by_cases h1:a<b
  ·have h3:¬a=b:=by rintro rfl; exact UInt8.lt_irrefl _ h1
   simp [h1,h3]
  ·by_cases h2:b<a
   ·have h3:¬a=b:=by rintro rfl; exact UInt8.lt_irrefl _ h2
    simp [h1,h2,h3]
   ·have h3:a=b:=by rw [<-UInt8.toNat_inj]; simp only [UInt8.lt_iff_toNat_lt] at h1 h2; omega
    subst h3
    simp only [h1,if_false,Es x y]
    simp
def agt (e:cJ) (s:Bytes):af aV 173 [dw e,.str s] []=some (.int .i64 (Lib.compareBytes e.name s),[]):=by
 refine aq rfl rfl rfl ?_
 simp only [KK,aeQ,dw,dy,aht,EN,simprocAttr]
def abH (e:cJ) (s:Bytes) (M:ai):an (af aV) 173 [.agg (dy e),.str s] M=some (.int .i64 (Lib.compareBytes e.name s),M):=cO (agt e s) M
structure Aj (au:List cJ) (s:Bytes) (b:Nat):Prop where
 le:b<=au.length
 lt:∀h n,au[h]?=some n->(strLt n.name s=true↔h<b)
def QV {au:List cJ} {s:Bytes} {b:Nat} (hb:Aj au s b) (hn:au.length<=100000) {k:List K} {r:Option (ae×ai)}
  (hx:∀v q,kr (af aV) [.tmp 6,.tmp 7] 0 k ⟨.exit 0,[(0,fR au),(1,.str s),(2,.func 173 []),(8,.int .i64 au.length),(9,.int .i64 b),(10,v),(17,q)],[]⟩=r) :
  ∀(f i j:Nat),j-i<=f->i<=b->b<=j->j<=au.length->cT (af aV) [.tmp 6,.tmp 7] 0 k (.loop [0,1,2,8,9,10] Qy) [(0,fR au),(1,.str s),(2,.func 173 []),(8,.int .i64 au.length),(9,.int .i64 i),(10,.int .i64 j)] []=r:=by
 intro f
 induction f with
 |zero =>
  intro i j h1 h2 h3 h4
  obtain rfl:i=b:=by omega
  rw [aE]
  have hlt:((i:Int)<(j:Int))=False:=by simp; omega
  simp only [Ag,hlt,EN,simprocAttr]
  exact hx _ _
 |succ f ih =>
  intro i j h1 h2 h3 h4
  rw [aE]
  by_cases hij:i<j
  ·have hlt:((i:Int)<(j:Int))=True:=by simp; omega
   obtain ⟨m1,m2,m3,m4,m5⟩:=tY i j (by omega) (by omega)
   have hmid:(i+j) / 2<au.length:=by omega
   have hx:=List.getElem?_eq_getElem hmid
   have hl:=hb.lt _ _ hx
   simp only [Ag,hlt,m1,m2,m3,m4,hx,abH,Et,YD,Yx,EN,simprocAttr]
   refine aH (fun hq=>?_) (fun hq=>?_)
   ·have hq:strLt au[(i+j) / 2].name s=true:=by simpa using hq
    simp only [Ag,m5,EN,simprocAttr]
    exact ih ((i+j) / 2+1) j (by omega) (hl.1 hq) h3 h4
   ·have hq:¬strLt au[(i+j) / 2].name s=true:=by simpa using hq
    simp only [Ag,EN,simprocAttr]
    exact ih i ((i+j) / 2) (by omega) h2 (Nat.not_lt.1 fun h=>hq (hl.2 h)) (by omega)
  ·obtain rfl:i=b:=by omega
   have hlt:((i:Int)<(j:Int))=False:=by simp; omega
   simp only [Ag,hlt,EN,simprocAttr]
   exact hx _ _
def sn (au:List cJ) (s:Bytes) (b:Nat):Bool:=match au[b]? with
 |some n=>n.name==s
 |none=>false
def ags (au:List cJ) (s:Bytes) (b:Nat) (hb:Aj au s b) (hn:au.length<=100000):af aV 172 [fR au,.str s,.func 173 []] []=some (.tuple [.int .i64 b,.bool (sn au s b)],[]):=by
 refine aq rfl rfl rfl ?_
 simp only [KJ,Ag,EN,simprocAttr]
 refine QV hb hn (fun v q=>?_) au.length 0 au.length (by omega) (by omega) hb.le (by omega)
 unfold sn
 by_cases hlt:b<au.length
 ·have hx:=List.getElem?_eq_getElem hlt
  have h1:((b:Int)<(au.length:Int))=True:=by simp; omega
  simp only [Ag,hx,h1,abH,Es,YD,Yx,EN,simprocAttr]
 ·have hx:au[b]?=none:=List.getElem?_eq_none (by omega)
  have h1:((b:Int)<(au.length:Int))=False:=by simp; omega
  simp only [Ag,hx,h1,EN,simprocAttr]
def ahs (au:List cJ) (s:Bytes) (b:Nat) (hb:Aj au s b) (hn:au.length<=100000) (M:ai):an (af aV) 172 [fR au,.str s,.func 173 []] M=some (.tuple [.int .i64 b,.bool (sn au s b)],M) :=
 cO (ags au s b hb hn) M
def jv (l:List cJ):Prop:=l.Pairwise fun a b=>strLt a.name b.name=true
def fI (l:List cJ) (s:Bytes):Nat:=(l.takeWhile fun n=>strLt n.name s).length
def afT (n:Node) (s:Bytes) (b:Nat) (hb:Aj n.au s b) (hn:n.au.length<=100000):af aV 125 [bm n,.str s] []=some (.tuple [.int .i64 b,.bool (sn n.au s b)],[]):=by
 refine aq rfl rfl rfl ?_
 have hk:=ahs n.au s b hb hn
 simp only [Kf,aeC,bm,az,hk,EN,simprocAttr]
def Lu (a b c:Int) (d:Bytes) (e:List cJ) (u:Int) (s:Bytes) (i:Nat) (hb:Aj e s i) (hn:e.length<=100000) (M:ai):an (af aV) 125 [.agg [.int .i64 a,.int .i64 b,.int .i64 c,cY d,fR e,.int .i64 u],.str s] M=some (.tuple [.int .i64 i,.bool (sn e s i)],M) :=
 cO (afT ⟨a,b,c,d,e,u⟩ s i hb hn) M
end
end Go.Proofs.YtdbadpnkhaepnaaGreatDoor
namespace Go.Proofs.YtdbadpnkhaepnaaGreatDoor
section
open Go Go.Abs Go.RowKit Go.Shelf
def xL {α:Type} (b0:Nat) (F:Fence) (n:Nat) (P:Program) (g:Nat) (lb:Array Value) (encs:α->Array Value) (Kp:World->World->Prop) (S Sp:List α->Prop) (N:Nat) (w:World):Prop :=
 ∀(l:Nat) (J Jx:List α->World->Prop) (W:World),Below w.heap.size w W->AbidesFrom W.heap.size J->AbidesFrom W.heap.size Jx->(∀s A v,J s A->J s (A.setCell ⟨b0,0,none⟩ v)) ->
  (∀pre x W1,J pre W1->pre.length<N->YieldAt F (n-1) P l (encs x) W1 fun e W' =>
   (e = .returned (.bool true)/\J (pre++[x]) W'/\Kp W1 W')\/(e = .returned (.bool false)/\Jx (pre++[x]) W')) ->
  J [] W ->
  CallsIn F n P g (#[.func (.yield l) #[] #[]]++lb) W fun e W'=>(∃v,e = .returned v)/\((∃xs,S xs/\J xs W')\/(∃pre,Sp pre/\Jx pre W'))
def qq {F:Fence} {n:Nat} {P:Program} {b0:Nat} {α:Type} {g:Operand} {ps:Array Tmp} {assign body:Code} {Q:Exit->Act->World->Prop} {a:Act} {w:World} (hb0w:b0<w.heap.size)
  (hro:F.round=none) (h1:1<=n) {gf:Nat} {lb:Array Value} (hg:a.eval g = .func (.func gf) #[] lb) (hFg:F.fn gf) (eg:∀args w,(callFunc gf args).run P w = .ok (.enter gf args) w)
  {encs:α->Array Value} {Kp:World->World->Prop} {S Sp:List α->Prop} {N:Nat} {w0:World} (hseq:xL b0 F (n-1) P gf lb encs Kp S Sp N w0)
  (hKt:∀ {A B C:World},Kp A B->Kp B C->Kp A C) (hKb:∀(W:World) (l:Nat) (o o':Obj),w.heap.size<=l->W.heap[l]?=some o->o.isCells=false->o.isWalk=false->Kp W (W.putObj l o')) (hb0:Below w0.heap.size w0 w) (hps:∀x,(encs x).size=ps.size)
  (I:List α->World->Prop) (Ix:Code->List α->World->Prop) (hI:OwnFrom w.heap.size I) (hIx:∀c,OwnFrom w.heap.size (Ix c)) (hIc:∀s A v,I s A->I s (A.setCell ⟨b0,0,none⟩ v)) (h0:I [] w) (a₁:α->Act)
  (hassign:∀(l:Nat) (x:α) (W:World) (K:Act->World->Prop),K (a₁ x) W ->
   assign.wpIn (F.inRound l) (n-1-1) P (Exit.then K (fun _ _ _=>False)) { tmps:=(ps.zip (encs x)).foldl (fun t (p,v)=>t.setIfInBounds p v) a.tmps,defers:=[] } W)
  (hbody:∀(l:Nat) (pre:List α) (x:α) (W:World),I pre W->pre.length<N->body.wpIn (F.inRound l) (n-1-1) P (ownPostK Kp I Ix (pre++[x]) W) (a₁ x) W)
  (hdone:∀(D:Nat) (xs:List α) (W:World),w.heap.size<=D->S xs->I xs W->W.heap[D]?=some (.deferred (some []))->Q .normal { a with defers:={ target := .collected D,args := #[] }::a.defers } W)
  (hstop:∀(D:Nat) (c:Code) (pre:List α) (W:World),w.heap.size<=D->Sp pre->Ix c pre W->W.heap[D]?=some (.deferred (some []))->c.wpIn F n P Q { a with defers:={ target := .collected D,args := #[] }::a.defers } W) :
  (Code.rangeFunc g ps assign body).wpIn F n P Q a w:=by
 refine wpIn_rangeFunc ?_
 intro fn hfn
 rw [hro]
 obtain ⟨rec,hrec⟩:∃rec:LoopState->Option Code->Loop,rec=fun st pe=>{ state:=st,pending:=pe,fn,tmps:=a.tmps,params:=ps,assign,body,defers:=w.heap.size }:=⟨_,rfl⟩
 obtain ⟨W1,hW1⟩:∃W1,(w.alloc (.deferred (some []))).alloc (.loop (rec .ready none))=W1:=⟨_,rfl⟩
 have hL1:W1.heap[w.heap.size+1]?=some (.loop (rec .ready none)):=by
  rw [<-hW1]; have:=World.alloc_heap_new (w.alloc (.deferred (some []))) (.loop (rec .ready none)); rwa [World.size_alloc] at this
 have hK1:W1.heap[w.heap.size]?=some (.deferred (some [])):=by
  rw [<-hW1]; exact (Below.heap_alloc _ _ _ (by simp)).trans (World.alloc_heap_new w _)
 have hI1:I [] W1:=by rw [<-hW1]; exact hI.alloc _ (hI.alloc _ h0)
 have hb1:Below w0.heap.size w0 W1:=by
  rw [<-hW1]; exact hb0.trans ((((Below.refl _ w).alloc (Nat.le_refl _) _).alloc (by simp) _).mono hb0.size)
 refine ⟨w.heap.size+1,[{ target := .collected w.heap.size,args := #[] }],W1,{ target := .fn (.func gf) lb,args := #[.func (.yield (w.heap.size+1)) #[] #[]] },W1,gf,
  #[.func (.yield (w.heap.size+1)) #[] #[]]++lb,W1,?_,?_,?_,?_,fun _=>h1,?_⟩
 ·rw [<-hW1,hrec]; exact run_enterLoop_outer _ _ _ _ _
 ·simp only [resolve,hg]
  simp [go_sem]
 ·intro f' hf'; simp [Target.leads] at hf'; subst hf'; exact hFg
 ·simp [invoke,go_sem,eg]
 ·have hnw:∀ {A B:World} {row:Option Nat},(∀r,row=some r->W1.heap.size<=r/\∃o:Obj,A.heap[r]?=some o/\o.isWalk=true)->(∀r,row=some r->w.heap.size<=r/\∃o:Obj,A.heap[r]?=some o/\o.isCells=false) :=
   fun hr r e=>by obtain ⟨hB,o,ho,hw⟩:=hr r e; exact ⟨by rw [<-hW1] at hB; simp at hB; omega,o,ho,Obj.not_cells_of_walk hw⟩
  refine (hseq (w.heap.size+1)
   (fun pre W=>I pre W/\W.heap[w.heap.size+1]?=some (.loop (rec .ready none))/\W.heap[w.heap.size]?=some (.deferred (some [])))
   (fun pre W=>∃c,Ix c pre W/\W.heap[w.heap.size+1]?=some (.loop (rec .done (some c)))/\W.heap[w.heap.size]?=some (.deferred (some [])))
   W1 hb1
   (fun s A B row hs hg' hr=>⟨hI s A B row hs.1 hg' (hnw (B:=B) hr),(grownBy_keeps hg' (fun r e=>(hr r e).2) hs.2.1 rfl).trans hs.2.1,(grownBy_keeps hg' (fun r e=>(hr r e).2) hs.2.2 rfl).trans hs.2.2⟩)
   (fun s A B row hs hg' hr=>by
    obtain ⟨c,hc,hl,hk⟩:=hs
    exact ⟨c,hIx c s A B row hc hg' (hnw (B:=B) hr),(grownBy_keeps hg' (fun r e=>(hr r e).2) hl rfl).trans hl,(grownBy_keeps hg' (fun r e=>(hr r e).2) hk rfl).trans hk⟩)
   (fun s A v hs=>⟨hIc s A v hs.1,(Below.heap_setCell _ _ _ _ (by show _≠b0; omega)).trans hs.2.1,(Below.heap_setCell _ _ _ _ (by show _≠b0; omega)).trans hs.2.2⟩)
   ?_ ⟨hI1,hL1,hK1⟩).mono ?_
  ·rintro pre x W ⟨hi,hl,hk⟩ hlen
   have hlt:w.heap.size+1<W.heap.size:=(Array.getElem?_eq_some_iff.1 hl).1
   have hy:=run_yield (P:=P) (args:=encs x) hl (by rw [hrec]; exact hps x)
   rw [hrec] at hy
   refine ⟨fn,_,assign,body,hy,roundIn_of_wpIn hfn (hassign _ x W _ ⟨_,run_beginRound hl (by rw [hrec]),?_⟩)⟩
   have hl2:(W.putObj (w.heap.size+1) (.loop { rec .ready none with state := .busy })).heap[w.heap.size+1]?=some (.loop { rec .ready none with state := .busy }):=World.putObj_heap_same hlt
   have hk2:(W.putObj (w.heap.size+1) (.loop { rec .ready none with state := .busy })).heap[w.heap.size]?=some (.deferred (some [])):=(World.putObj_heap_other (by omega)).trans hk
   have hw2:Kp W (W.putObj (w.heap.size+1) (.loop { rec .ready none with state := .busy })):=hKb _ _ _ _ (by omega) hl rfl rfl
   refine wpIn_mono (hbody _ pre x _ (hI.putObj _ hi (by omega) hl rfl) hlen) ?_
   have fin:∀(jump:Option Code) (W3:World),KeepsOthers (W.putObj (w.heap.size+1) (.loop { rec .ready none with state := .busy })) W3 ->
     (Instr.endRound (w.heap.size+1) jump).run P W3 = .ok (.bool jump.isNone) (W3.putObj (w.heap.size+1) (.loop (rec (if jump.isNone then .ready else .done) jump))) /\
     W3.heap[w.heap.size+1]?=some (.loop { rec .ready none with state := .busy }) /\
     (W3.putObj (w.heap.size+1) (.loop (rec (if jump.isNone then .ready else .done) jump))).heap[w.heap.size+1]?=some (.loop (rec (if jump.isNone then .ready else .done) jump)) /\
     (W3.putObj (w.heap.size+1) (.loop (rec (if jump.isNone then .ready else .done) jump))).heap[w.heap.size]?=some (.deferred (some [])):=fun jump W3 hk3=>by
    have hl3:=hk3.same _ _ hl2 rfl
    have:=run_endRound (P:=P) jump hl3
    rw [hrec] at this ⊢
    exact ⟨this,by rw [hrec] at hl3; exact hl3,World.putObj_heap_same (Array.getElem?_eq_some_iff.1 hl3).1,(World.putObj_heap_other (by omega)).trans (hk3.same _ _ hk2 rfl)⟩
   rintro e a3 W3 hp
   cases e with
   |normal =>
    obtain ⟨hk3,hkp3,hi3⟩:=hp
    obtain ⟨hr,hl3,hl4,hk4⟩:=fin none W3 hk3
    exact ⟨_,_,hr,.inl ⟨rfl,⟨hI.putObj _ hi3 (by omega) hl3 rfl,hl4,hk4⟩,hKt (hKt hw2 hkp3) (hKb _ _ _ _ (by omega) hl3 rfl rfl)⟩⟩
   |ret =>
    obtain ⟨hk3,hi3⟩:=hp
    obtain ⟨hr,hl3,hl4,hk4⟩:=fin (some .ret) W3 hk3
    exact ⟨_,_,hr,.inr ⟨rfl,.ret,(hIx _).putObj _ hi3 (by omega) hl3 rfl,hl4,hk4⟩⟩
   |exit id =>
    obtain ⟨hk3,hi3⟩:=hp
    obtain ⟨hr,hl3,hl4,hk4⟩:=fin (some (.exit id)) W3 hk3
    exact ⟨_,_,hr,.inr ⟨rfl,.exit id,(hIx _).putObj _ hi3 (by omega) hl3 rfl,hl4,hk4⟩⟩
   |goto t =>
    obtain ⟨hk3,hi3⟩:=hp
    obtain ⟨hr,hl3,hl4,hk4⟩:=fin (some (.goto t)) W3 hk3
    exact ⟨_,_,hr,.inr ⟨rfl,.goto t,(hIx _).putObj _ hi3 (by omega) hl3 rfl,hl4,hk4⟩⟩
   |panic ch=>exact hp.elim
   |outgrown=>exact hp.elim
  ·rintro e W2 ⟨⟨v,rfl⟩,(⟨xs,hS,hi,hl,hk⟩|⟨pre,hSp,c,hi,hl,hk⟩)⟩
   ·exact ⟨none,_,by have:=run_endLoop (P:=P) hl (by rw [hrec]; simp); rw [hrec] at this; exact this,hdone _ xs _ (Nat.le_refl _) hS (hI.putObj _ hi (by omega) hl rfl) ((World.putObj_heap_other (by omega)).trans hk)⟩
   ·exact ⟨some c,_,by have:=run_endLoop (P:=P) hl (by rw [hrec]; simp); rw [hrec] at this; exact this,hstop _ c pre _ (Nat.le_refl _) hSp ((hIx c).putObj _ hi (by omega) hl rfl) ((World.putObj_heap_other (by omega)).trans hk)⟩
def EJ:J:=⟨fun _=>none,fun _ _=>False⟩
def Od (w:World):Rel EJ [] w where
 inj:=fun _ _ _ h=>by cases h
 lt:=fun _ _ h=>by cases h
 fix:=fun _ _ h=>by cases h
 tick:=fun _ _ _ _ h=>by cases h
 arr:=fun _ _ _ _ h=>by cases h
 nc:=fun _ _ h=>by cases h
 rD:=fun _ _ h=>h.elim
@[reducible] def G0:ew:={ g:=fun _=>none }
def XU:@aG G0 Tryz.prog Cw Tryz.f124=some x6:=by kernel_rfl
def XV:@aG G0 Tryz.prog Cx Tryz.f197=some Be:=by kernel_rfl
def XW:@aG G0 Tryz.prog Cy Tryz.f224=some Bf:=by kernel_rfl
def XX:@aG G0 Tryz.prog Cz Tryz.f247=some x7:=by kernel_rfl
def zL {α:Type} {x:α} {P:Prop} (h:(none:Option α)=some x):P:=by cases h
def abd (w:World):@kS G0 EJ [] w:=@kS.mk G0 _ _ _ (fun b vs k v h=>zL (show (none:Option (List Value))=some vs from h)) (fun b vs h=>zL (show (none:Option (List Value))=some vs from h)) (fun b p h=>zL (show (none:Option (Value->Prop))=some p from h))
def Tm:Nat->Option cL
 |124=>some x6
 |197=>some Be
 |224=>some Bf
 |247=>some x7
 |_=>none
noncomputable def uu:uF:=⟨Tm,fun _=>none⟩
def RF:@oH G0 Tryz.prog uu:=by
 refine @oH.mk G0 _ _ (fun f fn h=>?_) (fun f g h=>by cases h)
 simp only [uu] at h
 unfold Tm at h
 split at h
 ·injection h with h; subst h; exact ⟨_,_,Tryz.func124,XU⟩
 ·injection h with h; subst h; exact ⟨_,_,Tryz.func197,XV⟩
 ·injection h with h; subst h; exact ⟨_,_,Tryz.func224,XW⟩
 ·injection h with h; subst h; exact ⟨_,_,Tryz.func247,XX⟩
 ·cases h
def Yy:@iM G0 Tryz.prog (af uu):=@mD G0 _ (by kernel_rfl) _ RF
section
attribute [local irreducible] cT cR gz gK bR kr af an aZ aK
def Nc {s:Bytes} (hs:s.length<=100000) (ha:gH s) {k:List K} {R:Bool->Option (ae×ai)}
  (hx:∀e p,kr (af uu) [.tmp 2] 0 k ⟨.exit 0,e,[.gA s p]⟩=R true) (hr:∀p,kr (af uu) [.tmp 2] 0 k ⟨.ret,[(2,.bool false)],[.gA s p]⟩=R false) :
  ∀(q:Nat) (l pre:Bytes),l.length<=q->s=pre++l->cT (af uu) [.tmp 2] 0 k (.loop [21] EP) [(21,.dW 0)] [.gA s pre.length]=R (l.all oz):=by
 intro q
 induction q with
 |zero =>
  intro l pre hq h
  have h0:l=[]:=List.eq_nil_of_length_eq_zero (by omega)
  subst h0
  rw [aE]
  have hlt:(pre.length<s.length)=False:=by rw [h]; simp
  simp only [oW,hlt,EN,simprocAttr]
  exact hx _ _
 |succ q ih =>
  intro l pre hq h
  cases l with
  |nil =>
   rw [aE]
   have hlt:(pre.length<s.length)=False:=by rw [h]; simp
   simp only [oW,hlt,EN,simprocAttr]
   exact hx _ _
  |cons n r =>
   rw [aE]
   have hlt:(pre.length<s.length)=True:=by rw [h]; simp
   rcases Ev h with ⟨hn,hd⟩|⟨c,m,r',hm,hne,hb,hc,hc2,hd⟩
   ·have hi:=ih r (pre++[n]) (by simp at hq; omega) (by rw [h]; simp)
    simp only [List.length_append,List.length_cons,List.length_nil,Nat.zero_add] at hi
    simp only [oW,hlt,hd,EN,simprocAttr]
    repeat' ((first|refine aH (fun hb=>?_) (fun hb=>?_)|refine bj (fun hb=>?_) (fun hb=>?_)|refine cj (fun hb=>?_) (fun hb=>?_))<;>simp only [hb,oW,hd,EV,simprocAttr])
    all_goals first
     |(refine (hr _).trans ?_; congr 1; symm; clear hi ih hx hr hd h; simp_all [oz]; done)
     |(refine hi.trans ?_; congr 1; symm; clear hi ih hx hr hd h; simp_all [oz]; done)
   ·have hml:0<m.length:=List.length_pos_iff.2 hne
    have hl2:(n::r).length=m.length+r'.length:=by rw [hm]; simp
    have hi:=ih r' (pre++m) (by simp at hq hl2; omega) (by rw [h,hm]; simp)
    simp only [List.length_append] at hi
    have h32:decide ((c:Int)<32)=false:=by simp; omega
    have h47:((c:Int)==47)=false:=by rw [beq_eq_false_iff_ne]; omega
    rw [hm,List.all_append,all_true hb,Bool.true_and]
    simp only [oW,hlt,hd,h32,h47,EN,simprocAttr]
    exact hi
def aau (s:Bytes) (hs:s.length<=100000) (ha:gH s):af uu 124 [.str s] []=some (.bool (c8 s),[]):=by
 refine aq rfl rfl rfl ?_
 simp only [x6,oW,EN,simprocAttr]
 have hl:=fun k hx hr=>Nc (k:=k) (R:=fun b=>some (ae.bool b,[])) hs ha hx hr s.length s [] (Nat.le_refl _) rfl
 have he:(s==[])=decide ((s.length:Int)<1):=by cases s<;>simp; omega
 rw [he]
 repeat' ((first|refine aH (fun hb=>?_) (fun hb=>?_)|refine bj (fun hb=>?_) (fun hb=>?_)|refine cj (fun hb=>?_) (fun hb=>?_))<;>simp only [hb,EN,oW,simprocAttr])
 all_goals first
  |(clear hl he; simp_all [c8]; done)
  |(refine (hl _ (fun e p=>by simp only [oW,EN,simprocAttr]) (fun p=>by simp only [oW,EN,simprocAttr])).trans ?_; clear hl he; simp_all [c8]; done)
end
def wY {f:Nat} {args:List ae} {r:ae} (h:af uu f args []=some (r,[])) (hp:r.dK=false) (w:World) (vs:Array Value) (hl:args.length=vs.size) (hv:∀(i:Nat) (c:ae) (v:Value),args[i]?=some c->vs[i]?=some v->cm EJ [] w c v) :
  Calls Tryz.prog f vs w fun e w'=>∃v j',e = .returned v/\w.grownBy w' none/\cm j' [] w' r v:=by
 refine ((Yy f args [] _ h).2 EJ w vs (Od w) (abd w) hl hv).mono ?_
 intro e w' hce
 obtain ⟨v,rfl,j',_,hx,hr⟩:=hce.ret hp
 exact ⟨v,j',rfl,⟨hx.os,hx.tape,hx.output,hx.size,fun k hk _=>(hx.mw k hk fun i hi=>by cases hi).1⟩,hr⟩
def Ol (s:Bytes) (hs:s.length<=100000) (ha:gH s) (w:World):Calls Tryz.prog 124 #[.string (bs s)] w fun e w'=>e = .returned (.bool (c8 s))/\w.grownBy w' none:=by
 refine (wY (aau s hs ha) rfl w #[.string (bs s)] rfl ?_).mono ?_
 ·intro i c v h1 h2
  match i with
  |0=>cases h1; cases h2; exact .plain (.str _)
  |i+1=>cases h1
 ·rintro e w' ⟨v,j',rfl,hg,hr⟩
  rw [hr.dH]
  exact ⟨rfl,hg⟩
set_option maxHeartbeats 1000000 in
set_option maxRecDepth 100000 in
def Li (a:ByteArray) (c:Int) (w:World) :
  Calls Tryz.prog 225 #[.string a,.int .u8 c] w fun e w'=>e = .returned (.int .i64 (Lib.indexByte a.data.toList c.toNat.toUInt8))/\w'=w:=by
 go_enter Tryz.func225,Tryz.ntmps225
 go_wp2
 rw [run_callFunc_extern Tryz.func248 (by kernel_rfl) (by kernel_rfl) (by kernel_rfl) (e:=Extern.BytealgIndexByte.indexByte) (by kernel_rfl),Lib.run_indexByteString]
 simp only [Result.andThen]
 rw [Oper.upon_value]
 go_wp2
 go_ret
 exact ⟨rfl,rfl⟩
set_option maxHeartbeats 1000000 in
set_option maxRecDepth 100000 in
def Lh (a:ByteArray) (c:Int) (w:World) :
  Calls Tryz.prog 198 #[.string a,.int .u8 c] w fun e w'=>e = .returned (.int .i64 (Lib.indexByte a.data.toList c.toNat.toUInt8))/\w'=w:=by
 go_enter Tryz.func198,Tryz.ntmps198
 go_wp2_with (go_at_call 225; refine (Li _ _ _).mono ?_; rintro e w' ⟨rfl,rfl⟩)
 go_ret
 exact ⟨rfl,rfl⟩
section ev
attribute [local irreducible] cT cR gz gK bR kr af an aZ aK
def kV:Bytes->Bytes×Bool
 |b::r=>if b=47 then (r,true) else (b::r,false)
 | []=>([],false)
def Df:Bytes->Bool
 |b::_=>b==47
 | []=>false
def agM (s:Bytes):af uu 247 [.str s,.str [47]] []=some (.bool (Df s),[]):=by
 refine aq rfl rfl rfl ?_
 cases s with
 |nil =>
  have h0:decide (((1:Nat):Int)<=((0:Nat):Int))=false:=by decide
  simp only [x7,O8,h0,EN,simprocAttr]
  simp only [Df,O8,h0,EN,simprocAttr]
 |cons b r =>
  have h1:(1:Int)<=(r.length:Int)+1:=by omega
  simp only [x7,O8,EN,simprocAttr]
  simp [Df,h1,cS,O8,EN,simprocAttr]
  try (cases hb:(b==47)<;>simp_all)
def abN (s:Bytes) (M:ai):an (af uu) 247 [.str s,.str [47]] M=some (.bool (Df s),M):=cO (agM s) M
def agL (s:Bytes):af uu 224 [.str s,.str [47]] []=some (.tuple [.str (kV s).1,.bool (kV s).2],[]):=by
 refine aq rfl rfl rfl ?_
 simp only [Bf,O7,abN,EN,simprocAttr]
 cases s with
 |nil=>simp only [Df,O7,abN,EN,simprocAttr]; rfl
 |cons b r =>
  by_cases hb:b=47
  ·have h1:(1:Int)<=(r.length:Int)+1:=by omega
   have h2:(0:Int)<=(r.length:Int)+1:=by omega
   simp [Df,hb,O7,kV,cS,h1,h2,EN,simprocAttr]
  ·have hb':(b==47)=false:=by simpa using hb
   simp only [Df,hb',O7,EN,simprocAttr]
   simp [kV,hb]
def ahC (s:Bytes) (M:ai):an (af uu) 224 [.str s,.str [47]] M=some (.tuple [.str (kV s).1,.bool (kV s).2],M):=cO (agL s) M
def agG (s:Bytes):af uu 197 [.str s,.str [47]] []=some (.tuple [.str (kV s).1,.bool (kV s).2],[]):=by
 refine aq rfl rfl rfl ?_
 simp only [Be,aeY,ahC,EN,simprocAttr]
end ev
def UE (s:Bytes) (w:World):Calls Tryz.prog 197 #[.string (bs s),.string ⟨#[47]⟩] w fun e w'=>e = .returned (.tuple #[.string (bs (kV s).1),.bool (kV s).2])/\w.grownBy w' none:=by
 refine (wY (agG s) rfl w #[.string (bs s),.string ⟨#[47]⟩] rfl ?_).mono ?_
 ·intro i c v h1 h2
  match i with
  |0=>cases h1; cases h2; exact .plain (.str _)
  |1=>cases h1; cases h2; exact .plain (.str [47])
  |i+2=>cases h1
 ·rintro e w' ⟨v,j',rfl,hg,hr⟩
  obtain ⟨vs,rfl,hl,hv⟩:=hr.lI
  obtain ⟨l⟩:=vs
  match l,hl with
  | [u1,u2],_ =>
   rw [(hv 0 _ u1 rfl rfl).dS,(hv 1 _ u2 rfl rfl).dH]
   exact ⟨rfl,hg⟩
def AY (s:Bytes):Nat:=if Lib.indexByte s 47<0 then s.length else (Lib.indexByte s 47).toNat
def mc (s:Bytes):Bytes×Bool:=((kV s).1.take (AY (kV s).1),(kV s).2)
def kP (s:Bytes):Bytes:=(kV s).1.drop (AY (kV s).1)
def oA:Nat->Bytes->List (Bytes×Bool)
 |0,_=>[]
 |n+1,s=>match s with
  | []=>[]
  |b::r=>mc (b::r)::oA n (kP (b::r))
def index_le (l:Bytes) (c:UInt8):Lib.indexByte l c<=l.length:=by
 induction l with
 |nil=>simp [Lib.indexByte]
 |cons b r ih =>
  simp only [Lib.indexByte]
  split
  ·simp; omega
  ·split
   ·simp; omega
   ·simp; omega
def JF (s:Bytes):(kV s).1.length<=s.length:=by
 cases s with
 |nil=>simp [kV]
 |cons b r=>simp only [kV]; split<;>simp
def w7 {s:Bytes} (h:s≠[]):(kP s).length<s.length:=by
 cases s with
 |nil=>exact absurd rfl h
 |cons b r =>
  unfold kP
  rw [List.length_drop]
  by_cases hb:b=47
  ·have:kV (b::r)=(r,true):=by simp [kV,hb]
   rw [this]; simp; omega
  ·have e:kV (b::r)=(b::r,false):=by simp [kV,hb]
   rw [e]
   have:0<AY (b::r):=by
    unfold AY
    have hb':(b==47)=false:=by simpa using hb
    have hg:=Lib.indexByte_ge r 47
    split
    ·simp
    ·rename_i hn
     simp only [Lib.indexByte,hb',Bool.false_eq_true,if_false] at hn ⊢
     split
     ·rename_i he; simp [he] at hn
     ·rename_i he
      have:Lib.indexByte r 47 ≠ -1:=by simpa using he
      omega
   simp only [List.length_cons]
   omega
def zP:∀(n m:Nat) (s:Bytes),s.length<=n->s.length<=m->oA n s=oA m s:=by
 intro n
 induction n with
 |zero =>
  intro m s h _
  have:s=[]:=by cases s with|nil=>rfl|cons b r=>simp at h
  subst this
  cases m<;>rfl
 |succ n ih =>
  intro m s h h'
  cases s with
  |nil=>cases m<;>rfl
  |cons b r =>
   cases m with
   |zero=>simp at h'
   |succ m =>
    have:=w7 (s:=b::r) (by simp)
    simp only [oA]
    rw [ih m _ (by omega) (by omega)]
def gh (s:Bytes):List (Bytes×Bool):=oA s.length s
def sE {s:Bytes} (h:s≠[]):gh s=mc s::gh (kP s):=by
 cases s with
 |nil=>exact absurd rfl h
 |cons b r =>
  have:=w7 (s:=b::r) (by simp)
  unfold gh
  rw [show (b::r).length=r.length+1 from rfl,oA]
  rw [zP r.length (kP (b::r)).length _ (by simp at this; omega) (by omega)]
def uH {s:Bytes} (h:gH s):gH (mc s).1:=trivial
def vK {s:Bytes} (h:gH s):gH (kP s):=trivial
def Hc (s:Bytes):(mc s).1.length<=s.length:=by
 have:=JF s
 unfold mc
 rw [List.length_take]
 omega
abbrev PA:={ x:Bytes×Bool // gH x.1/\x.1.length<=100000 }
abbrev PN (x:PA):Array Value := #[.string (bs x.1.1),.bool x.1.2]
def zk (b0:Nat) (w:World):Nat:=match w.cell? ⟨b0,0,none⟩ with
 |some (.string s)=>s.size
 |_=>0
end
section
open Go Go.Abs Go.RowKit Go.Shelf
attribute [local go_sem] Oper.semAt_some
set_option maxHeartbeats 1000000 in
def He (n:Nat) (s:Bytes) (w:World) :
  CallsIn Fence.wide n Tryz.prog 156 #[.string (bs s)] w fun e w'=>e = .returned (.func (.func 196) #[] #[.pointer (some ⟨w.heap.size,0,none⟩)])/\w'=w.alloc (.cells #[.string (bs s)] 9):=by
 refine callsIn_of_wp Tryz.func156 rfl trivial ?_ rfl
 simp only [Tryz.ntmps156,List.size_toArray,List.length_cons,List.length_nil,Nat.reduceAdd,Nat.reduceSub,Array.replicate_succ,Array.replicate_zero,List.push_toArray,List.append_toArray,List.nil_append,List.cons_append]
 gi_wp2
 go_ret
 exact ⟨rfl,rfl⟩
def En (c:Bytes) (n:Nat):bs (c.drop n)=(bs c).extract n (bs c).size:=by
 rw [oo,show (bs c).size=c.length from rfl,List.take_length]
def oq {b0:Nat} {w:World} {s:Bytes} (h:Boxed w b0 9 (.string (bs s))):zk b0 w=s.length:=by
 unfold zk
 rw [h.cell]
 rfl
set_option maxRecDepth 100000 in
set_option maxHeartbeats 1000000 in
def P9 (n:Nat) (hn:3<=n) (l b0 N:Nat) (s0:Bytes) (ha:gH s0) (hs:s0.length<=100000) (hN:(gh s0).length<=N) (J Jx:List PA->World->Prop) (W:World) (hJ:AbidesFrom W.heap.size J) (hJc:∀s A v,J s A->J s (A.setCell ⟨b0,0,none⟩ v))
  (hY:∀pre x W1,J pre W1->pre.length<N->YieldAt Fence.wide (n-1) Tryz.prog l (PN x) W1 fun e W' =>
   (e = .returned (.bool true)/\J (pre++[x]) W'/\W'.heap[b0]?=W1.heap[b0]?)\/(e = .returned (.bool false)/\Jx (pre++[x]) W'))
  (hB:Boxed W b0 9 (.string (bs s0))) (h0:J [] W) :
  CallsIn Fence.wide n Tryz.prog 196 #[.func (.yield l) #[] #[],.pointer (some ⟨b0,0,none⟩)] W fun e W'=>(∃v,e = .returned v) /\
   ((∃xs:List PA,xs.map (·.1)=gh s0/\J xs W')\/(∃pre:List PA,pre.map (·.1) <+: gh s0/\Jx pre W')):=by
 refine callsIn_of_wp Tryz.func196 rfl trivial ?_ rfl
 simp only [Tryz.ntmps196,List.size_toArray,List.length_cons,List.length_nil,Nat.reduceAdd,Nat.reduceSub,Array.replicate_succ,Array.replicate_zero,List.push_toArray,List.append_toArray,List.nil_append,List.cons_append]
 gi_wp2
 gi_loopw [3] (fun _ wr=>∃(pre:List PA) (rest:Bytes),Boxed wr b0 9 (.string (bs rest))/\gH rest/\rest.length<=100000/\gh s0=pre.map (·.1)++gh rest/\J pre wr)
  (fun _ wr=>zk b0 wr)
 case atStart =>
  exact ⟨[],s0,hB,ha,hs,rfl,h0⟩
 case round =>
  obtain ⟨pre,rest,hb,hra,hrl,hp,hJs⟩:=hrel
  have hf:=hb.frozen
  cases rest with
  |nil =>
   have hc:wr.cell? ⟨b0,0,none⟩=some (.string ⟨#[]⟩):=hb.cell
   gi_wp2
   go_end0
   exact ⟨⟨_,rfl⟩,.inl ⟨pre,by rw [hp]; simp [gh,oA],hJs⟩⟩
  |cons x rest =>
   have hc:=hb.cell
   have hne:(!(bs (x::rest)).toList.isEmpty)=true:=by simp [bs]
   gi_wp2
   refine ⟨trivial,fun h=>(by cases h),(callsIn_wide.2 (UE _ _)).mono ?_⟩
   rintro e w1 ⟨rfl,hg⟩
   have hb1:Boxed w1 b0 9 (.string (bs (x::rest))):=hb.kept hg (by simp)
   have hJ1:J pre w1:=hJ pre wr w1 none hJs hg (fun r e=>by cases e)
   have hbr:=hb
   clear hb hc hf hJs
   have hc1:=hb1.cell
   have hf1:=hb1.frozen
   gi_wp2
   refine ⟨trivial,fun h=>(by cases h),(callsIn_wide.2 (Lh _ _ _)).mono ?_⟩
   rintro e w2 ⟨rfl,rfl⟩
   have hlen:pre.length<N:=by
    have:=congrArg List.length hp
    rw [sE (s:=x::rest) (by simp)] at this
    simp at this
    omega
   have hpl:=Hc (x::rest)
   have hrest:=w7 (s:=x::rest) (by simp)
   obtain ⟨fn,tmps,assign,body,hy,hR⟩:=hY pre ⟨mc (x::rest),uH hra,by omega⟩ w2 hJ1 hlen
   have hpn:gh s0=(pre++[⟨mc (x::rest),uH hra,by omega⟩]:List PA).map (·.1)++gh (kP (x::rest)):=by
    rw [hp,sE (by simp)]; simp
   obtain ⟨c,hc⟩:∃c,(kV (x::rest)).1=c:=⟨_,rfl⟩
   have hix:=index_le c 47
   by_cases hi:Lib.indexByte c 47<0
   ·have he:mc (x::rest)=(c,(kV (x::rest)).2):=by simp [mc,hc,AY,hi]
    have hre:kP (x::rest)=[]:=by simp [kP,hc,AY,hi]
    simp only [PN,he] at hy
    rw [hc]
    have hi':Lib.indexByte (bs c).data.toList 47<0:=hi
    gi_wp2
    refine ⟨fun h=>(by cases h),hR.mono ?_⟩
    rintro e W3 (⟨rfl,hJ3,hk3⟩|⟨rfl,hJx3⟩)
    ·have hb3:Boxed W3 b0 9 (.string (bs (x::rest))):=hk3.trans hb1
     have hc3:=hb3.cell
     have hf3:=hb3.frozen
     gi_wp2
     go_roundw
     case rel =>
      exact ⟨_,kP (x::rest),(by rw [hre]; exact (hb3.set _)),vK hra,by omega,hpn,hJc _ _ _ hJ3⟩
     case measure =>
      rw [oq (s:=kP (x::rest)) (by rw [hre]; exact (hb3.set _)),oq hbr]
      exact hrest
    ·gi_wp2
     refine bodyPost_ret (results_none rfl _ _ _) rfl ?_
     exact ⟨⟨_,rfl⟩,.inr ⟨_,⟨gh (kP (x::rest)),hpn.symm⟩,hJx3⟩⟩
   ·have hi0:0<=Lib.indexByte c 47:=by omega
    have he:mc (x::rest)=(c.take (Lib.indexByte c 47).toNat,(kV (x::rest)).2):=by simp [mc,hc,AY,hi]
    have hre:kP (x::rest)=c.drop (Lib.indexByte c 47).toNat:=by simp [kP,hc,AY,hi]
    simp only [PN,he] at hy
    rw [show bs (c.take (Lib.indexByte c 47).toNat)=(bs c).extract 0 (Lib.indexByte (bs c).data.toList 47).toNat by rw [oo]; rfl] at hy
    rw [hc]
    have hi':¬Lib.indexByte (bs c).data.toList 47<0:=hi
    have hi2:Lib.indexByte (bs c).data.toList 47<=(bs c).size:=hix
    gi_wp2
    refine ⟨fun h=>(by cases h),hR.mono ?_⟩
    rintro e W3 (⟨rfl,hJ3,hk3⟩|⟨rfl,hJx3⟩)
    ·have hb3:Boxed W3 b0 9 (.string (bs (x::rest))):=hk3.trans hb1
     have hc3:=hb3.cell
     have hf3:=hb3.frozen
     gi_wp2
     go_roundw
     case rel =>
      exact ⟨_,kP (x::rest),(by rw [hre,En]; exact (hb3.set _)),vK hra,by omega,hpn,hJc _ _ _ hJ3⟩
     case measure =>
      rw [oq (s:=kP (x::rest)) (by rw [hre,En]; exact (hb3.set _)),oq hbr]
      exact hrest
    ·gi_wp2
     refine bodyPost_ret (results_none rfl _ _ _) rfl ?_
     exact ⟨⟨_,rfl⟩,.inr ⟨_,⟨gh (kP (x::rest)),hpn.symm⟩,hJx3⟩⟩
def xn (x:Bytes×Bool) (n:Nat):Bool := !x.2 || !c8 x.1||n==12
def iZ:List (Bytes×Bool)->Nat->Option (List Bytes)
 | [],_=>some []
 |x::r,n=>if xn x n=true then none else (iZ r (n+1)).map (x.1 :: ·)
def uo:∀(a b:List (Bytes×Bool)) (n:Nat),iZ (a++b) n=(iZ a n).bind fun l=>(iZ b (n+a.length)).map (l ++ ·):=by
 intro a
 induction a with
 |nil=>intro b n; simp [iZ]
 |cons x r ih =>
  intro b n
  simp only [List.cons_append,iZ]
  split
  ·rfl
  ·rw [ih,show n+1+r.length=n+(x::r).length by simp; omega]
   cases iZ r (n+1) with
   |none=>rfl
   |some l=>simp; rfl
def cD (s:Bytes):List Bytes×Int:=if s=[47] then ([],0) else match iZ (gh s) 0 with
 |none=>([],60)
 |some []=>([],60)
 |some l=>(l,0)
def EE (pre:List PA):Prop:=iZ (pre.map (·.1)) 0=some (pre.map (·.1.1))/\pre.length<=12
def De {pre:List PA} {x:PA} (h:EE pre) (hb:xn x.1 pre.length=false):EE (pre++[x]):=by
 refine ⟨?_,?_⟩
 ·rw [List.map_append,uo,h.1]
  simp [iZ,hb]
 ·have:pre.length≠12:=by intro e; rw [e] at hb; simp [xn] at hb
  have:=h.2
  simp; omega
def tb {pre:List PA} {x:PA} (h:EE pre) (hb:xn x.1 pre.length=true):iZ ((pre++[x]).map (·.1)) 0=none:=by
 rw [List.map_append,uo,h.1]
 simp [iZ,hb]
def Hs {a l:List (Bytes×Bool)} (h:a <+: l) (hn:iZ a 0=none):iZ l 0=none:=by
 obtain ⟨b,rfl⟩:=h
 rw [uo,hn]; rfl
def abj:(Tryz.prog.info? 9).map (fun i=>(i.zero,i.size,i.bytes))=some (some (.string ⟨#[]⟩),1,16):=by kernel_rfl
abbrev zu (b:Bytes):Value := .string (bs b)
def appended {W w1:World} {n₀ B:Nat} {v v':Value} {k m:Nat} {xs ys:List Value} {tmp:Obj}
  (hv:Boxed W B 45 v) (hrow:W.ownsRow n₀ 9 1 v k xs) (hown':w1.ownsRow n₀ 9 1 v' m ys) (hgrow:(W.alloc tmp).grownBy w1 v.ownBlock) :
  Boxed w1 B 45 v/\Boxed (w1.setCell ⟨B,0,none⟩ v') B 45 v'/\(w1.setCell ⟨B,0,none⟩ v').ownsRow n₀ 9 1 v' m ys/\KeepsOthers W (w1.setCell ⟨B,0,none⟩ v') /\
  (w1.setCell ⟨B,0,none⟩ v').os=W.os/\(w1.setCell ⟨B,0,none⟩ v').tape=W.tape/\(w1.setCell ⟨B,0,none⟩ v').output=W.output/\W.heap.size<=(w1.setCell ⟨B,0,none⟩ v').heap.size /\
  ∀q,q<n₀->q<W.heap.size->q≠B->(w1.setCell ⟨B,0,none⟩ v').heap[q]?=W.heap[q]?:=by
 have hv1:Boxed w1 B 45 v:=(hv.alloc tmp).kept hgrow (hv.not_row (by decide) hrow)
 have hs:=grownBy_setCell' w1 B v'
 refine ⟨hv1,hv1.set v',hown'.kept hs (.inr (hv1.not_row (by decide) hown').symm),?_,?_,?_,?_,?_,?_⟩
 ·refine ((KeepsOthers.alloc W tmp).trans (KeepsOthers.of_grownBy hgrow fun j o ej hj=>?_)).trans (KeepsOthers.setCell _ _ _)
  rcases (hrow.alloc tmp).2 with ⟨rfl,_⟩|⟨g,cap,cur,rfl,_,hgb,_⟩
  ·simp [Value.ownBlock] at ej
  ·obtain rfl:g=j:=by simpa [Value.ownBlock] using ej
   rw [hgb] at hj; cases hj; rfl
 ·exact hs.os.trans hgrow.os
 ·exact hs.tape.trans hgrow.tape
 ·exact hs.output.trans hgrow.output
 ·have h1:=hgrow.size
  have h2:=hs.size
  simp at h1
  omega
 ·intro q hq hqw hqB
  have hlt:q<(W.alloc tmp).heap.size:=by simp; omega
  rw [hs.block q (Nat.lt_of_lt_of_le hlt hgrow.size) (fun e=>hqB (by cases e; rfl)),hgrow.block q hlt ?_]
  ·exact Below.heap_alloc _ _ _ hqw
  ·intro e
   rcases hrow.2 with ⟨rfl,_⟩|⟨g,cap,cur,rfl,hb,_,_⟩
   ·simp [Value.ownBlock] at e
   ·obtain rfl:q=g:=by simpa [Value.ownBlock] using e
    omega
structure xm (w:World) (pre:List PA) (W:World):Prop where
 zz:EE pre
 r0:Boxed W w.heap.size 45 (.slice none 0 0)
 r1:Boxed W (w.heap.size+1) 44 (.int .i64 0)
 row:∃v,Boxed W (w.heap.size+2) 45 v/\W.ownsRow (w.heap.size+4) 9 1 v pre.length (pre.map fun x=>zu x.1.1)
 below:Below w.heap.size w W
 sz:w.heap.size+4<=W.heap.size
structure zh (w:World) (c:Code) (pre:List PA) (W:World):Prop where
 ret:c = .ret
 bad:iZ (pre.map (·.1)) 0=none
 r0:Boxed W w.heap.size 45 (.slice none 0 0)
 r1:Boxed W (w.heap.size+1) 44 (.int .i64 60)
 below:Below w.heap.size w W
def lL {W W':World} {row:Option Nat} {B k:Nat} {t:TypeId} {v:Value} (h:Boxed W B t v) (hg:W.grownBy W' row) (hr:∀r,row=some r->k<=r/\∃o:Obj,W.heap[r]?=some o/\o.isCells=false):Boxed W' B t v :=
 h.kept hg fun e=>by obtain ⟨_,o,ho,hc⟩:=hr B e.symm; rw [show W.heap[B]?=_ from h] at ho; cases ho; cases hc
def xm.own {w:World}:OwnFrom (w.heap.size+4) (xm w):=fun s A B row hs hg hr=>by
 obtain ⟨v,hv,hrow⟩:=hs.row
 exact ⟨hs.zz,lL hs.r0 hg hr,lL hs.r1 hg hr,⟨v,lL hv hg hr,((holdsRow_own (β:=Unit) (w.heap.size+4) (w.heap.size+2) 45 9 1 (fun _=>s.length) (fun _=>s.map fun x=>zu x.1.1) (fun _ u=>u=v)) () A B row ⟨v,hv,hrow,rfl⟩ hg (fun r e=>(hr r e).2)).elim fun u hu=>hu.2.2▸hu.2.1⟩,ownFrom_below (β:=Unit) (Nat.le_refl _) (by omega) () A B row hs.below hg hr,Nat.le_trans hs.sz hg.size⟩
def zh.own {w:World} (c:Code):OwnFrom (w.heap.size+4) (zh w c):=fun s A B row hs hg hr =>
 ⟨hs.ret,hs.bad,lL hs.r0 hg hr,lL hs.r1 hg hr,ownFrom_below (β:=Unit) (Nat.le_refl _) (by omega) () A B row hs.below hg hr⟩
def xm.cell {w:World} (s:List PA) (A:World) (u:Value) (hs:xm w s A):xm w s (A.setCell ⟨w.heap.size+3,0,none⟩ u):=by
 obtain ⟨v,hv,hrow⟩:=hs.row
 have hg:=grownBy_setCell' A (w.heap.size+3) u
 refine ⟨hs.zz,hs.r0.other (by omega) _,hs.r1.other (by omega) _,⟨v,hv.other (by omega) _,hrow.kept hg ?_⟩,hs.below.setCell (p:=⟨w.heap.size+3,0,none⟩) (by simp) _,Nat.le_trans hs.sz hg.size⟩
 rcases hrow.2 with ⟨rfl,_⟩|⟨g,cap,cur,rfl,hb,_,_⟩
 ·exact .inl rfl
 ·refine .inr fun e=>?_
  have:g=w.heap.size+3:=by simpa [Value.ownBlock] using e
  omega
def zh.made {w W:World} {pre:List PA} (h0:Boxed W w.heap.size 45 (.slice none 0 0)) (h1:Boxed W (w.heap.size+1) 44 (.int .i64 0)) (hb:Below w.heap.size w W) (hbad:iZ (pre.map (·.1)) 0=none) :
  KeepsOthers W ((W.setCell ⟨w.heap.size,0,none⟩ (.slice none 0 0)).setCell ⟨w.heap.size+1,0,none⟩ (.int .i64 60))/\zh w .ret pre ((W.setCell ⟨w.heap.size,0,none⟩ (.slice none 0 0)).setCell ⟨w.heap.size+1,0,none⟩ (.int .i64 60)):=by
 refine ⟨(KeepsOthers.setCell _ _ _).trans (KeepsOthers.setCell _ _ _),rfl,hbad,(h0.set _).other (by omega) _,?_,(hb.setCell (p:=⟨w.heap.size,0,none⟩) (Nat.le_refl _) _).setCell (p:=⟨w.heap.size+1,0,none⟩) (by simp) _⟩
 exact (h1.other (by omega) _).set _
def uh {W:World} {n₀ k:Nat} {v:Value} {xs:List Value} (h:W.ownsRow n₀ 9 1 v k xs):∃p cap,v = .slice p k cap:=by
 rcases h.2 with ⟨rfl,rfl⟩|⟨g,cap,cur,rfl,_⟩
 ·exact ⟨_,_,rfl⟩
 ·exact ⟨_,_,rfl⟩
def RA {W:World} {n₀ n₁ k D:Nat} {v:Value} {xs:List Value} {x:Option (List Deferred)} {o:Obj} (h:W.ownsRow n₀ 9 1 v k xs) (hn:n₁<=n₀) (hD:W.heap[D]?=some (.deferred x)):(W.putObj D o).ownsRow n₁ 9 1 v k xs:=by
 refine ⟨h.1,?_⟩
 rcases h.2 with h0|⟨g,cap,cur,e,hb,hg,hr⟩
 ·exact .inl h0
 ·refine .inr ⟨g,cap,cur,e,by omega,?_,hr⟩
  exact (World.putObj_heap_other (fun e=>by subst e; rw [hD] at hg; cases hg)).trans hg
def BW {W:World} {n₀ k B:Nat} {v:Value} {xs:List Value} (h:W.ownsRow n₀ 9 1 v k xs) (hB:B<n₀) (u:Value):(W.setCell ⟨B,0,none⟩ u).ownsRow n₀ 9 1 v k xs:=by
 refine ⟨h.1,?_⟩
 rcases h.2 with h0|⟨g,cap,cur,e,hb,hg,hr⟩
 ·exact .inl h0
 ·exact .inr ⟨g,cap,cur,e,hb,(Below.heap_setCell _ _ _ _ (by show _≠B; omega)).trans hg,hr⟩
def lF {W:World} {B D:Nat} {t:TypeId} {v:Value} {x:Option (List Deferred)} {o:Obj} (h:Boxed W B t v) (hD:W.heap[D]?=some (.deferred x)):Boxed (W.putObj D o) B t v :=
 (World.putObj_heap_other (fun e=>by subst e; rw [show W.heap[B]?=_ from h] at hD; cases hD)).trans h
def tf {w W:World} {D:Nat} {o:Obj} (h:Below w.heap.size w W) (hD:w.heap.size<=D):Below w.heap.size w (W.putObj D o) :=
 ⟨h.os,h.tape,h.output,by simpa [World.putObj] using h.size,fun k hk=>(World.putObj_heap_other (by omega)).trans (h.block k hk)⟩
def p8 {W:World} {B D:Nat} {o:Obj} {u:Value} (h:W.heap[D]?=some o) (hB:D≠B):(W.setCell ⟨B,0,none⟩ u).heap[D]?=some o:=(Below.heap_setCell _ _ _ _ (by show _≠B; omega)).trans h
def results98 {W:World} {b:Nat} {v u:Value} {tmps:Array Value} (h2:tmps[2]?=some (.pointer (some ⟨b,0,none⟩))) (h3:tmps[3]?=some (.pointer (some ⟨b+1,0,none⟩))) (hv:Boxed W b 45 v) (hu:Boxed W (b+1) 44 u):(results Tryz.f98 tmps).run Tryz.prog W = .ok (.tuple #[v,u]) W:=by
 have c0:=hv.cell
 have c1:=hu.cell
 simp [results,Tryz.f98,go_sem,c0,c1,h2,h3]
def po {F:Fence} {n:Nat} {P:Program} {fn:Func} {tmps:Array Value} {R:Ending->World->Prop} {D:Nat} {W W':World} {v:Value} (hD:(Instr.takeDeferred D).run P W = .ok [] W') (hv:(results fn tmps).run P W' = .ok v W') (hR:R (.returned v) W') :
  LeavesInM F n P fn tmps R [{ target := .collected D,args := #[] }] .returning W :=
 ⟨by simp,.inl ⟨D,W',rfl,hD,⟨v,hv,hR⟩⟩⟩
set_option maxRecDepth 100000 in
set_option maxHeartbeats 2000000 in
def OH (n:Nat) (hn:6<=n) (s:Bytes) (ha:gH s) (hs:s.length<=100000) (w:World) :
  CallsIn Fence.wide n Tryz.prog 98 #[.string (bs s)] w fun e W'=>∃v,e = .returned (.tuple #[v,.int .i64 (cD s).2])/\W'.ownsRow w.heap.size 9 1 v (cD s).1.length ((cD s).1.map zu)/\Below w.heap.size w W':=by
 have h1:1<=n:=by omega
 obtain ⟨i0,hi,hz0,hz1,hz2⟩:=info_parts abj
 refine callsIn_of_wp_marks Tryz.func98 rfl trivial ?_ rfl
 simp only [Tryz.ntmps98,List.size_toArray,List.length_cons,List.length_nil,Nat.reduceAdd,Nat.reduceSub,Array.replicate_succ,Array.replicate_zero,List.push_toArray,List.append_toArray,List.nil_append,List.cons_append]
 have b0:=Boxed.new w 45 (.slice none 0 0)
 have b1:=Boxed.new (w.alloc (.cells #[.slice none 0 0] 45)) 44 (.int .i64 0)
 have b2:=Boxed.new ((w.alloc (.cells #[.slice none 0 0] 45)).alloc (.cells #[.int .i64 0] 44)) 45 (.slice none 0 0)
 have b3:=Boxed.new (((w.alloc (.cells #[.slice none 0 0] 45)).alloc (.cells #[.int .i64 0] 44)).alloc (.cells #[.slice none 0 0] 45)) 9 (.string (bs s))
 simp only [World.size_alloc] at b1 b2 b3
 have hB2:Below w.heap.size w ((w.alloc (.cells #[.slice none 0 0] 45)).alloc (.cells #[.int .i64 0] 44)):=((Below.refl _ w).alloc (Nat.le_refl _) _).alloc (by simp) _
 have hB4:=(hB2.alloc (by simp; omega) (.cells #[.slice none 0 0] 45)).alloc (by simp; omega) (.cells #[.string (bs s)] 9)
 by_cases hs47:s=[47]
 ·subst hs47
  have ht:((bs [47]).toList==[47])=true:=by rw [nk]; rfl
  gi_wp2
  have c0:=(b0.alloc (.cells #[.int .i64 0] 44)).cell
  have c1:=b1.cell
  refine ⟨.tuple #[.slice none 0 0,.int .i64 0],?_,_,rfl,World.ownsRow_nil _ _ _ _,hB2⟩
  simp [results,Tryz.f98,go_sem,c0,c1]
 have ht:((bs s).toList==[47])=false:=by rw [nk]; simpa using hs47
 gi_wp2
 refine ⟨trivial,(He _ s _).mono ?_⟩
 rintro e w' ⟨rfl,rfl⟩
 gi_wp2
 obtain ⟨W4,hW4⟩:∃W4,(((w.alloc (.cells #[.slice none 0 0] 45)).alloc (.cells #[.int .i64 0] 44)).alloc (.cells #[.slice none 0 0] 45)).alloc (.cells #[.string (bs s)] 9)=W4:=⟨_,rfl⟩
 have hsz:W4.heap.size=w.heap.size+4:=by rw [<-hW4]; simp
 have e0:Boxed W4 w.heap.size 45 (.slice none 0 0):=by rw [<-hW4]; exact ((b0.alloc _).alloc _).alloc _
 have e1:Boxed W4 (w.heap.size+1) 44 (.int .i64 0):=by rw [<-hW4]; exact (b1.alloc _).alloc _
 have e2:Boxed W4 (w.heap.size+2) 45 (.slice none 0 0):=by rw [<-hW4]; exact b2.alloc _
 rw [hW4] at b3 hB4 ⊢
 have hseq:xL (w.heap.size+3) Fence.wide (n-1) Tryz.prog 196 #[.pointer (some ⟨w.heap.size+3,0,none⟩)] PN (fun A B=>B.heap[w.heap.size+3]?=A.heap[w.heap.size+3]?) (fun xs=>xs.map (·.1)=gh s) (fun pre=>pre.map (·.1) <+: gh s) (gh s).length W4 :=
  fun l J Jx W hW hJ hJx hJc hY h0=>P9 (n-1) (by omega) l _ _ s ha hs (Nat.le_refl _) J Jx W hJ hJc hY ((hW.block _ (by omega)).trans b3) h0
 refine qq (b0:=w.heap.size+3) (by omega) rfl h1 (gf:=196) (lb := #[.pointer (some ⟨w.heap.size+3,0,none⟩)]) rfl trivial (enters_of Tryz.func196 (by kernel_rfl) rfl) hseq
  (fun h k=>k.trans h) (fun W l o o' hl _ _ _=>World.putObj_heap_other (by omega)) (Below.refl _ _) (fun _=>rfl)
  (xm w) (zh w) (by rw [hsz]; exact xm.own) (fun c=>by rw [hsz]; exact zh.own c) xm.cell
  ⟨⟨rfl,by simp⟩,e0,e1,⟨_,e2,World.ownsRow_nil _ _ _ _⟩,hB4,by omega⟩
  (fun x=>{ tmps := #[.string (bs s),undef,.pointer (some ⟨w.heap.size,0,none⟩),.pointer (some ⟨w.heap.size+1,0,none⟩),.pointer (some ⟨w.heap.size+1+1,0,none⟩),.string (bs x.1.1),.bool x.1.2,.string (bs s),.bool false,.string (bs s),.func (.func 196) #[] #[.pointer (some ⟨w.heap.size+1+1+1,0,none⟩)],.string (bs x.1.1),.bool x.1.2,
   undef,undef,undef,undef,undef,undef,undef,undef,undef,undef,undef,undef,undef,undef,undef,undef,undef,undef,undef,undef],defers:=[] }) ?assign ?body ?done ?stop
 case assign =>
  intro l x W K hK
  gi_wp2
  exact hK
 case body =>
  rintro l pre ⟨⟨nm,ok⟩,hxa,hxl⟩ W hInv hlt
  obtain ⟨v,hv,hrow⟩:=hInv.row
  have hc0:=hInv.r0.cell
  have hf0:=hInv.r0.frozen
  have hc1:=hInv.r1.cell
  have hf1:=hInv.r1.frozen
  cases ok with
  |false =>
   gi_wp2
   refine ⟨trivial,?_⟩
   gi_wp2
   exact zh.made hInv.r0 hInv.r1 hInv.below (tb hInv.zz (by simp [xn]))
  |true =>
   gi_wp2
   refine ⟨trivial,fun h=>(by cases h),(CallsIn.inRound l (callsIn_wide.2 (Ol nm hxl hxa W))).mono ?_⟩
   rintro e W5 ⟨rfl,hg5⟩
   have hInv5:xm w pre W5:=xm.own pre W W5 none hInv hg5 (fun r e=>by cases e)
   have hK5:KeepsOthers W W5:=KeepsOthers.of_grownBy hg5 (fun j o e=>by cases e)
   clear hc0 hf0 hc1 hf1 hrow hv v
   obtain ⟨v,hv,hrow⟩:=hInv5.row
   have hc0:=hInv5.r0.cell
   have hf0:=hInv5.r0.frozen
   have hc1:=hInv5.r1.cell
   have hf1:=hInv5.r1.frozen
   have hc2:W5.cell? ⟨w.heap.size+1+1,0,none⟩=some v:=hv.cell
   have hf2:W5.frozen? ⟨w.heap.size+1+1,0,none⟩=false:=hv.frozen
   cases hnm:c8 nm with
   |false =>
    gi_wp2
    have:=zh.made hInv5.r0 hInv5.r1 hInv5.below (tb (x:=⟨(nm,true),hxa,hxl⟩) hInv5.zz (by simp [xn,hnm]))
    exact ⟨hK5.trans this.1,this.2⟩
   |true =>
    obtain ⟨p,cap,rfl⟩:=uh hrow
    by_cases hl:pre.length=12
    ·have hl':((pre.length:Int)==12)=true:=by simp [hl]
     gi_wp2
     have:=zh.made hInv5.r0 hInv5.r1 hInv5.below (tb (x:=⟨(nm,true),hxa,hxl⟩) hInv5.zz (by simp [xn,hnm,hl]))
     exact ⟨hK5.trans this.1,this.2⟩
    ·have hl':((pre.length:Int)==12)=false:=by simp; omega
     gi_wp2_with (gi_at_builtin; generalize hX:wpListIn _ _ _ _ _ _ _ _=X)
     subst hX
     refine wpListIn_append_own _ rfl _ _ 45 rfl (w.heap.size+4) 9 i0 (.string ⟨#[]⟩) 1 16 Tryz.underlying45 hi hz0 hz1 hz2 rfl (by decide) _ _ _ rfl (hrow.alloc _) ⟨W5.heap.size,0,none⟩ 1 1 [zu nm] rfl rfl (cell_one_new _ _ _) (by simp [Value.oneCell']) (by have:=hInv5.zz.2; simp [maxLen]; omega) (by have:=hInv5.zz.2; omega) (by have:=hv.lt; simp; omega) ?_
     intro v' w1 hown' hgrow hiff
     obtain ⟨q0,q1,q2,q3,q4,q5,q6,q7,q8⟩:=appended hv hrow hown' hgrow
     have hc2':w1.cell? ⟨w.heap.size+1+1,0,none⟩=some (.slice p pre.length cap):=q0.cell
     have hf2':w1.frozen? ⟨w.heap.size+1+1,0,none⟩=false:=q0.frozen
     obtain ⟨p',cap',rfl⟩:=uh hown'
     gi_wp2
     refine ⟨hK5.trans q3,(q8 _ (by omega) (by have:=hInv5.sz; omega) (by omega)).trans (hg5.block _ (by have:=hInv.sz; omega) (by simp)),?_⟩
     refine ⟨De hInv5.zz (by simp [xn,hnm,hl]),(q8 _ (by omega) hInv5.r0.lt (by omega)).trans hInv5.r0,(q8 _ (by omega) hInv5.r1.lt (by omega)).trans hInv5.r1,⟨_,q1,by simpa using q2⟩,?_,Nat.le_trans hInv5.sz q7⟩
     exact hInv5.below.trans ⟨q4,q5,q6,q7,fun q hq=>q8 q (by omega) (by have:=hInv5.below.size; omega) (by omega)⟩
 case done =>
  rintro D ys W hD hys hInv hK
  obtain ⟨v,hv,hrow⟩:=hInv.row
  have hc0:=hInv.r0.cell
  have hf0:=hInv.r0.frozen
  have hc1:=hInv.r1.cell
  have hf1:=hInv.r1.frozen
  have hc2:W.cell? ⟨w.heap.size+1+1,0,none⟩=some v:=hv.cell
  have hf2:W.frozen? ⟨w.heap.size+1+1,0,none⟩=false:=hv.frozen
  obtain ⟨p,cap,rfl⟩:=uh hrow
  by_cases hl:ys.length=0
  ·have hl':((ys.length:Int)==0)=true:=by simp [hl]
   have hy:ys=[]:=List.length_eq_zero_iff.1 hl
   have hsp:cD s=([],60):=by
    rw [hy] at hys
    simp [cD,hs47,<-hys,iZ]
   gi_wp2
   have hm:=p8 (u := .int .i64 60) (p8 (u := .slice none 0 0) hK (B:=w.heap.size) (by omega)) (B:=w.heap.size+1) (by omega)
   have k0:Boxed ((W.setCell ⟨w.heap.size,0,none⟩ (.slice none 0 0)).setCell ⟨w.heap.size+1,0,none⟩ (.int .i64 60)) w.heap.size 45 (.slice none 0 0):=(hInv.r0.set _).other (by omega) _
   have k1:Boxed ((W.setCell ⟨w.heap.size,0,none⟩ (.slice none 0 0)).setCell ⟨w.heap.size+1,0,none⟩ (.int .i64 60)) (w.heap.size+1) 44 (.int .i64 60):=(hInv.r1.other (by omega) _).set _
   refine po (run_takeDeferred hm) (results98 rfl rfl (lF k0 hm) (lF k1 hm)) ⟨_,rfl,World.ownsRow_nil _ _ _ _,tf ((hInv.below.setCell (p:=⟨w.heap.size,0,none⟩) (Nat.le_refl _) _).setCell (p:=⟨w.heap.size+1,0,none⟩) (by simp) _) (by omega)⟩
  ·have hl':((ys.length:Int)==0)=false:=by rw [beq_eq_false_iff_ne]; omega
   have hsp:cD s=(ys.map (·.1.1),0):=by
    have h0:=hInv.zz.1
    rw [hys] at h0
    cases ys with
    |nil=>simp at hl
    |cons y ys=>simp [cD,hs47,h0]
   gi_wp2
   have hm:=p8 (u := .int .i64 0) (p8 (u := .slice p ys.length cap) hK (B:=w.heap.size) (by omega)) (B:=w.heap.size+1) (by omega)
   have k0:Boxed ((W.setCell ⟨w.heap.size,0,none⟩ (.slice p ys.length cap)).setCell ⟨w.heap.size+1,0,none⟩ (.int .i64 0)) w.heap.size 45 (.slice p ys.length cap):=(hInv.r0.set _).other (by omega) _
   have k1:Boxed ((W.setCell ⟨w.heap.size,0,none⟩ (.slice p ys.length cap)).setCell ⟨w.heap.size+1,0,none⟩ (.int .i64 0)) (w.heap.size+1) 44 (.int .i64 0):=(hInv.r1.other (by omega) _).set _
   refine po (run_takeDeferred hm) (results98 rfl rfl (lF k0 hm) (lF k1 hm)) ⟨_,rfl,?_,tf ((hInv.below.setCell (p:=⟨w.heap.size,0,none⟩) (Nat.le_refl _) _).setCell (p:=⟨w.heap.size+1,0,none⟩) (by simp) _) (by omega)⟩
   have:=RA (BW (BW hrow (by omega:w.heap.size<_) (.slice p ys.length cap)) (by omega:w.heap.size+1<_) (.int .i64 0)) (by omega:w.heap.size<=_) hm (o := .deferred none)
   simpa [Function.comp_def] using this
 case stop =>
  rintro D c pre W hD hpre hOut hK
  obtain rfl:=hOut.ret
  have hsp:cD s=([],60):=by simp [cD,hs47,Hs hpre hOut.bad]
  gi_wp2
  refine po (run_takeDeferred hK) (results98 rfl rfl (lF hOut.r0 hK) (lF hOut.r1 hK)) ⟨_,rfl,World.ownsRow_nil _ _ _ _,tf hOut.below (by omega)⟩
def RD (s:Bytes) (ha:gH s) (hs:s.length<=100000) (w:World) :
  Calls Tryz.prog 98 #[.string (bs s)] w fun e W'=>∃v,e = .returned (.tuple #[v,.int .i64 (cD s).2])/\W'.ownsRow w.heap.size 9 1 v (cD s).1.length ((cD s).1.map zu)/\Below w.heap.size w W' :=
 callsIn_wide.1 (OH 6 (by omega) s ha hs w)
end
end Go.Proofs.YtdbadpnkhaepnaaGreatDoor
namespace Go.Proofs.YtdbadpnkhaepnaaGreatDoor
open Go Go.Abs
instance (s:Bytes):Decidable (gH s):=inferInstanceAs (Decidable True)
def wT:List ae->ai->Option (ae×ai)
 | [.str s],M=>if gH s/\s.length<=100000 then some (.tuple [.slice .sh ((cD s).1.map .str),.int .i64 (cD s).2],M) else none
 |_,_=>none
def OI {args:List ae} {M:ai} {x:ae×ai} (h:wT args M=some x):bl Tryz.prog 98 args M x:=by
 unfold wT at h
 split at h
 ·rename_i s
  split at h
  ·rename_i hs
   injection h with h; subst h
   refine fZ.call ?_
   intro j w vs hr hG hl hv
   obtain ⟨u,rfl⟩:=vv hl
   have h1:=(hv 0 _ u rfl rfl).dS
   subst h1
   refine (RD s hs.1 hs.2 w).mono ?_
   rintro e w' ⟨v,rfl,⟨hlen,hown⟩,hb⟩
   refine ⟨_,j,rfl,hr.grow hb.size hb.os hb.tape hb.output hb.block,Ext.grow hb.size hb.os hb.tape hb.output hb.block,.tuple rfl ?_⟩
   intro i c v' hi hv'
   match i with
   |0 =>
    cases hi; cases hv'
    refine .plain ?_
    rcases hown with ⟨rfl,h0⟩|⟨g,cap,cur,rfl,hg,hg',hn1,_,hcs,htk⟩
    ·rw [List.length_eq_zero_iff.1 h0]
     exact bX.nil _ _ _
    ·refine .slice _ _ _ _ g 0 1 (fun k=>zu ((cD s).1.getD k [])) (by simp) (by simpa using hn1) (fun _=>rfl) ?_ ?_ ?_
     ·intro x hx
      obtain ⟨b,_,rfl⟩:=List.mem_map.1 hx
      rfl
     ·intro i x k c hx hc
      rw [List.getElem?_map] at hx
      obtain ⟨b,hb',rfl⟩:=Option.map_eq_some_iff.1 hx
      match k with
      |0 =>
       have hi:i<(cD s).1.length:=(List.getElem?_eq_some_iff.1 hb').1
       refine ⟨?_,?_,?_,?_⟩
       ·have h1:cur.toList[i]?=some (zu b):=by
         have:(cur.toList.take ((cD s).1.length*1))[i]?=some (zu b):=by rw [htk,List.getElem?_map,hb']; rfl
         rwa [List.getElem?_take_of_lt (by omega)] at this
        have h2:cur[i]?=some (zu b):=by simpa using h1
        have h3:(cD s).1.getD i []=b:=by simp [List.getD,hb']
        simp only [Nat.mul_one,Nat.add_zero,Nat.zero_add]
        rw [h3]
        simp [World.cell?,hg',h2]
       ·exact lt_of_block hg'
       ·intro id hid hji
        have:=hr.lt id g hid hji; omega
       ·intro hx; have:=hr.rD g _ hx; omega
      |k+1=>cases hc
     ·intro i x k c hx hc
      rw [List.getElem?_map] at hx
      obtain ⟨b,hb',rfl⟩:=Option.map_eq_some_iff.1 hx
      match k with
      |0 =>
       cases hc
       have h3:(cD s).1.getD i []=b:=by simp [List.getD,hb']
       simp only [Nat.mul_one,Nat.add_zero]
       rw [h3]
       exact .str _
      |k+1=>cases hc
   |1=>cases hi; cases hv'; exact .plain (.int _ _)
   |i+2=>cases hi
  ·cases h
 ·cases h
section
attribute [local irreducible] cT cR gz gK bR kr af an aZ aK
def jO:∀a:Bytes,strLt a a=false
 | []=>rfl
 |a::x=>by simp [strLt,jO x,UInt8.lt_irrefl]
def pF:∀ {a b c:Bytes},strLt a b=true->strLt b c=true->strLt a c=true
 | [],b,[],_,h2=>by cases b<;>simp [strLt] at h2
 | [],_,_::_,_,_=>rfl
 |_::_,[],_,h1,_=>by simp [strLt] at h1
 |_::_,_::_,[],_,h2=>by simp [strLt] at h2
 |a::x,b::y,c::z,h1,h2=>by
  simp only [strLt,Bool.or_eq_true,Bool.and_eq_true,decide_eq_true_eq,beq_iff_eq] at h1 h2 ⊢
  simp only [UInt8.lt_iff_toNat_lt] at h1 h2 ⊢
  rcases h1 with h1|⟨h1,h1'⟩
  ·rcases h2 with h2|⟨h2,_⟩
   ·left; omega
   ·left; rw [<-h2]; exact h1
  ·rcases h2 with h2|⟨h2,h2'⟩
   ·left; rw [h1]; exact h2
   ·right; exact ⟨h1.trans h2,pF h1' h2'⟩
def kl {l:List cJ} (h:jv l) (s:Bytes):Aj l s (fI l s):=by
 unfold fI
 induction l with
 |nil=>exact ⟨by simp,fun h n hn=>by simp at hn⟩
 |cons a r ih =>
  obtain ⟨h1,h2⟩:=List.pairwise_cons.1 h
  obtain ⟨i1,i2⟩:=ih h2
  by_cases ha:strLt a.name s=true
  ·rw [List.takeWhile_cons,if_pos ha]
   refine ⟨by simpa using i1,fun k n hn=>?_⟩
   cases k with
   |zero=>simp at hn; subst hn; simp [ha]
   |succ k=>rw [i2 k n (by simpa using hn)]; simp
  ·rw [List.takeWhile_cons,if_neg ha]
   refine ⟨by simp,fun k n hn=>?_⟩
   simp only [List.length_nil,Nat.not_lt_zero,iff_false]
   cases k with
   |zero=>simp at hn; subst hn; exact ha
   |succ k=>exact fun hc=>ha (pF (h1 n (List.mem_of_getElem? (by simpa using hn))) hc)
def dR {l:List cJ} {s:Bytes} {e:cJ} (h:cN l s=some e):e∈l/\e.name=s:=by
 unfold cN at h
 exact ⟨List.mem_of_find?_eq_some h,by simpa using List.find?_some h⟩
def o9 {l:List cJ} (h:jv l) (s:Bytes):(sn l s (fI l s)=true/\∃n,l[fI l s]?=some n/\cN l s=some n/\n.name=s)\/(sn l s (fI l s)=false/\cN l s=none):=by
 obtain ⟨l1,l2⟩:=kl h s
 cases hf:cN l s with
 |some n =>
  left
  obtain ⟨hm,he⟩:=dR hf
  obtain ⟨k,hk⟩:=List.getElem?_of_mem hm
  have hkb:¬k<fI l s:=fun hc=>by have:=(l2 k n hk).2 hc; rw [he,jO] at this; cases this
  have hb:fI l s<l.length:=by have:=(List.getElem?_eq_some_iff.1 hk).1; omega
  have hx:=List.getElem?_eq_getElem hb
  have hnl:¬strLt l[fI l s].name s=true:=fun hc=>Nat.lt_irrefl _ ((l2 _ _ hx).1 hc)
  have hke:k=fI l s:=by
   rcases Nat.lt_or_ge (fI l s) k with hlt|hge
   ·have hkl:=(List.getElem?_eq_some_iff.1 hk).1
    have h3:=List.pairwise_iff_getElem.1 h _ _ hb hkl hlt
    have h4:l[k]=n:=by rw [List.getElem?_eq_getElem hkl] at hk; injection hk
    rw [h4,he] at h3
    exact absurd h3 hnl
   ·omega
  subst hke
  exact ⟨by unfold sn; rw [hk]; simp [he],n,hk,rfl,he⟩
 |none =>
  right
  refine ⟨?_,rfl⟩
  unfold sn
  split
  ·rename_i n hn
   have:=List.find?_eq_none.1 hf n (List.mem_of_getElem? hn)
   simpa using this
  ·rfl
structure jS (t:Tree):Prop where
 fh:hU t.nodes
 au:∀n,n∈t.nodes->jv n.au
def jS.dir {t:Tree} (h:jS t) (ino:Int):jv (dj t.nodes ino).1.au:=by
 unfold dj
 split
 ·exact List.Pairwise.nil
 ·rename_i n hn
  split
  ·exact h.au n (bH hn).1
  ·exact List.Pairwise.nil
def c84 (t:Tree) (ino:Int) (s:Bytes) (ht:Small t) (hr:jS t) (hs:s.length<=100000) (ha:gH s):af aV 84 [bI t,.int .i64 ino,.str s] []=some (.tuple [.int .i64 (cA t.nodes ino s).1,.int .i64 (cA t.nodes ino s).2],[]):=by
 obtain ⟨nodes,next,ag⟩:=t
 have hn:nodes.length<=100000:=ht.nodes
 have hd:(dj nodes ino).1.au.length<=100000:=tr ht ino
 have hE:jv (dj nodes ino).1.au:=hr.dir ino
 have hk:=fun b M=>Qb nodes next ag ino hr.fh hn 1 (b :: .cells [aF nodes,.int .i64 next,.int .i64 ag]::M) rfl
 refine aq rfl rfl rfl ?_
 simp only [Vp,T9,bI,aw,hk,bm,az,EN,simprocAttr]
 unfold cA
 refine aH (fun hb=>?_) (fun hb=>?_)
 ·simp only [T9,EN,simprocAttr]
  clear hk
  simp_all
 ·simp only [T9,VB,hs,ha,EN,simprocAttr]
  refine aH (fun hb'=>?_) (fun hb'=>?_)
  ·simp only [T9,EN,simprocAttr]
   clear hk
   simp_all
  ·have hk2:=fun a b c d u M=>Lu a b c d (dj nodes ino).1.au u s _ (kl hE s) hd M
   simp only [T9,hk2,EN,simprocAttr]
   rcases o9 hE s with ⟨h1,e,h2,h3,_⟩|⟨h1,h2⟩
   ·simp only [T9,h1,h2,dy,EN,simprocAttr]
    clear hk hk2
    simp_all
   ·simp only [T9,h1,EN,simprocAttr]
    clear hk hk2
    simp_all
def k84 (nodes:List Node) (next ag ino:Int) (s:Bytes) (ht:Small ⟨nodes,next,ag⟩) (hr:jS ⟨nodes,next,ag⟩) (hs:s.length<=100000) (ha:gH s) (M:ai):an (af aV) 84 [.agg [aF nodes,.int .i64 next,.int .i64 ag],.int .i64 ino,.str s] M =
  some (.tuple [.int .i64 (cA nodes ino s).1,.int .i64 (cA nodes ino s).2],M):=cO (c84 ⟨nodes,next,ag⟩ ino s ht hr hs ha) M
def afM (t:Tree) (ino:Int) (ht:Small t) (hr:jS t):af aV 117 [bI t,.int .i64 ino] []=some (.tuple [bm (aJ t.nodes ino),.bool (find t.nodes ino).isSome],[]):=by
 obtain ⟨nodes,next,ag⟩:=t
 have hn:nodes.length<=100000:=ht.nodes
 have hk:=fun b c M=>xE nodes next ag ino hr.fh hn 2 (b::c :: .cells [aF nodes,.int .i64 next,.int .i64 ag]::M) rfl
 refine aq rfl rfl rfl ?_
 simp only [J8,aeB,bI,aw,hk,bm,az,EN,simprocAttr]
abbrev pg (n:Int):ae := .int .i64 n
def sR (l:List Int):wid (l.map pg) 1=True:=by
 simp only [eq_iff_iff,iff_true]
 intro x hx
 obtain ⟨n,_,rfl⟩:=List.mem_map.1 hx
 rfl
def mi (nodes:List Node):Nat->Int->List Int->List Int
 |0,_,out=>out
 |m+1,ino,out=>if (ino != 1)=true then (if (!(find nodes ino).isSome||(aJ nodes ino).kind != 2)=true then out else mi nodes m (aJ nodes ino).up (out++[(aJ nodes ino).up])) else out
def ly (nodes:List Node) (ino:Int):List Int:=mi nodes nodes.length ino [ino]
def QM {nodes:List Node} {next ag:Int} (h:hU nodes) (hn:nodes.length<=100000) {k:List K} {R:List Int->Option (ae×ai)}
  (hx:∀(out:List Int) v q,kr (af aV) [.tmp 4] 1 k ⟨.exit 0,[(0,.ptr 0 0),(1,v),(5,.slice (.own 1) (out.map pg)),(22,q)],[.cells [aF nodes,.int .i64 next,.int .i64 ag],.tick 1 out.length]⟩=R out)
  (hr:∀(out:List Int) b,kr (af aV) [.tmp 4] 1 k ⟨.ret,[(4,.slice (.own 1) (out.map pg))],[.cells [aF nodes,.int .i64 next,.int .i64 ag],.tick 1 out.length,b]⟩=R out) :
  ∀(m:Nat) (ino:Int) (out:List Int),out.length+m=nodes.length+1->cT (af aV) [.tmp 4] 1 k (.loop [0,1,5] Qp) [(0,.ptr 0 0),(1,.int .i64 ino),(5,.slice (.own 1) (out.map pg))] [.cells [aF nodes,.int .i64 next,.int .i64 ag],.tick 1 out.length]=R (mi nodes m ino out):=by
 intro m
 induction m with
 |zero =>
  intro ino out ho
  rw [aE]
  have hd':((out.length:Int)<=(nodes.length:Int))=False:=by simp; omega
  simp only [vg,EN,simprocAttr]
  repeat' ((first|refine aH (fun hb=>?_) (fun hb=>?_)|refine bj (fun hb=>?_) (fun hb=>?_)|refine cj (fun hb=>?_) (fun hb=>?_))<;>simp only [hb,EN,vg,hd',simprocAttr])
  all_goals exact hx _ _ _
 |succ m ih =>
  intro ino out ho
  rw [aE]
  have hd':((out.length:Int)<=(nodes.length:Int))=True:=by simp; omega
  have r1:bP (out.length+1) 8=True:=dv (by omega) (by omega)
  have hk:=fun M=>xE nodes next ag ino h hn 0 (.cells [aF nodes,.int .i64 next,.int .i64 ag]::M) rfl
  have hi:=ih (aJ nodes ino).up (out++[(aJ nodes ino).up]) (by simp; omega)
  simp only [List.map_append,List.map_cons,List.map_nil,List.length_append,List.length_cons,List.length_nil,Nat.zero_add] at hi
  rw [mi]
  simp only [vg,EN,simprocAttr]
  refine bj (fun hb=>?_) (fun hb=>?_)
  ·simp only [vg,hb,hd',hk,bm,az,EN,simprocAttr]
   refine bj (fun hb1=>?_) (fun hb1=>?_)
   ·simp only [vg,hb1,EN,simprocAttr]
    refine aH (fun hb2=>?_) (fun hb2=>?_)
    ·simp only [vg,hb2,hb1,Bool.or_true,Bool.false_or,EN,simprocAttr]
     exact hr _ _
    ·simp only [vg,hb2,hb1,r1,sR,Bool.or_false,Bool.false_eq_true,EN,simprocAttr]
     exact hi
   ·simp only [vg,hb1,Bool.not_false,Bool.true_or,EN,simprocAttr]
    exact hr _ _
  ·simp only [vg,hb,Bool.not_true,Bool.false_eq_true,EN,simprocAttr]
   exact hx _ _ _
def afU (nodes:List Node) (next ag ino:Int) (h:hU nodes) (hn:nodes.length<=100000):af aV 126 [.ptr 0 0,.int .i64 ino] [.cells [aF nodes,.int .i64 next,.int .i64 ag]] =
  some (.slice .sh ((ly nodes ino).map pg),[.cells [aF nodes,.int .i64 next,.int .i64 ag]]):=by
 refine aq rfl rfl rfl ?_
 simp only [Kg,vg,EN,simprocAttr]
 exact QM (R:=fun out=>some (.slice .sh (out.map pg),[.cells [aF nodes,.int .i64 next,.int .i64 ag]])) h hn (fun out v q=>by simp only [vg,EN,simprocAttr]) (fun out b=>by simp only [vg,EN,simprocAttr]) nodes.length ino [ino] (by simp; omega)
def VC (nodes:List Node) (next ag ino:Int) (h:hU nodes) (hn:nodes.length<=100000) (p:Nat) (M:ai) (hM:nth M p=some (.cells [aF nodes,.int .i64 next,.int .i64 ag])) :
  an (af aV) 126 [.ptr p 0,.int .i64 ino] M=some (.slice .sh ((ly nodes ino).map pg),M):=by
 have:=gN hM (afU nodes next ag ino h hn) rfl rfl rfl rfl rfl rfl rfl rfl rfl rfl
 rwa [ij hM] at this
def qe (nodes:List Node):∀(m:Nat) (ino:Int) (out:List Int),out.length<=(mi nodes m ino out).length/\(mi nodes m ino out).length<=out.length+m
 |0,_,out=>⟨Nat.le_refl _,Nat.le_refl _⟩
 |m+1,ino,out=>by
  rw [mi]
  split
  ·split
   ·exact ⟨Nat.le_refl _,by omega⟩
   ·have:=qe nodes m (aJ nodes ino).up (out++[(aJ nodes ino).up])
    simp at this
    omega
  ·exact ⟨Nat.le_refl _,by omega⟩
def mj (nodes:List Node) (ino:Int):1<=(ly nodes ino).length/\(ly nodes ino).length<=nodes.length+1:=by
 have:=qe nodes nodes.length ino [ino]
 simp at this
 unfold ly
 omega
def agm (nodes:List Node) (next ag ino:Int) (h:hU nodes) (hn:nodes.length<=100000):af aV 162 [.ptr 0 0,.int .i64 ino] [.cells [aF nodes,.int .i64 next,.int .i64 ag]] =
  some (.int .i64 (((ly nodes ino).length-1:Nat):Int),[.cells [aF nodes,.int .i64 next,.int .i64 ag]]):=by
 refine aq rfl rfl rfl ?_
 have hk:=fun M=>VC nodes next ag ino h hn 0 (.cells [aF nodes,.int .i64 next,.int .i64 ag]::M) rfl
 have hl:=mj nodes ino
 have hw:IntKind.i64.wrap (((ly nodes ino).length:Int)-1)=(((ly nodes ino).length-1:Nat):Int):=by rw [bw (by omega) (by omega)]; omega
 simp only [KE,aeN,hk,hw,EN,simprocAttr]
def abF (nodes:List Node) (next ag ino:Int) (h:hU nodes) (hn:nodes.length<=100000) (p:Nat) (M:ai) (hM:nth M p=some (.cells [aF nodes,.int .i64 next,.int .i64 ag])) :
  an (af aV) 162 [.ptr p 0,.int .i64 ino] M=some (.int .i64 (((ly nodes ino).length-1:Nat):Int),M):=by
 have:=gN hM (agm nodes next ag ino h hn) rfl rfl rfl rfl rfl rfl rfl rfl rfl rfl
 rwa [ij hM] at this
def uE (n:Node) (rest:List Node):∀(pre out:List Node),(∀m,m∈pre->m.ino<n.ino)->iy n (pre++rest) out false=iy n rest (out++pre) false
 | [],out,_=>by simp
 |m::r,out,h=>by
  have hm:=h m (List.mem_cons_self ..)
  have h1:¬n.ino<=m.ino:=by omega
  have h2:¬m.ino=n.ino:=by omega
  rw [List.cons_append,iy]
  simp only [ge_iff_le,h1,h2,decide_false,Bool.and_false,Bool.or_false,Bool.false_eq_true,if_false]
  rw [uE n rest r _ fun x hx=>h x (List.mem_cons_of_mem _ hx)]
  simp
def rB (n:Node):∀(rest out:List Node),(∀m,m∈rest->n.ino<m.ino)->iy n rest out true=(out++rest,true)
 | [],out,_=>by simp [iy]
 |m::r,out,h=>by
  have hm:=h m (List.mem_cons_self ..)
  have h2:¬m.ino=n.ino:=by omega
  rw [iy]
  simp only [Bool.not_true,Bool.false_and,h2,Bool.true_or,Bool.false_eq_true,if_false]
  rw [rB n r _ fun x hx=>h x (List.mem_cons_of_mem _ hx)]
  simp
def nT {nodes:List Node} {ino:Int} {b:Nat} (h:FC nodes ino b):∀m,m∈nodes.take b->m.ino<ino:=fun m hm=>by
 obtain ⟨k,hk⟩:=List.getElem?_of_mem hm
 rw [List.getElem?_take] at hk
 split at hk
 ·rename_i hlt; exact (h.lt k m hk).2 hlt
 ·cases hk
def x4 {nodes:List Node} {ino:Int} {b:Nat} (h:FC nodes ino b):∀m,m∈nodes.drop b->ino<=m.ino:=fun m hm=>by
 obtain ⟨k,hk⟩:=List.getElem?_of_mem hm
 rw [List.getElem?_drop] at hk
 have:=h.lt _ m hk
 have hn:¬b+k<b:=by omega
 have:=fun hc=>hn (this.1 hc)
 omega
def qf {nodes:List Node} (h:hU nodes) {n:Node} (hf:find nodes n.ino=none):ck nodes n=nodes.take (fm nodes n.ino)++n::nodes.drop (fm nodes n.ino):=by
 have hl:=mL h n.ino
 have hd:∀m,m∈nodes.drop (fm nodes n.ino)->n.ino<m.ino:=fun m hm=>by
  have h1:=x4 hl m hm
  have h2:=List.find?_eq_none.1 hf m (List.mem_of_mem_drop hm)
  have:¬m.ino=n.ino:=by simpa using h2
  omega
 unfold ck
 rw [show iy n nodes [] false=iy n (nodes.take (fm nodes n.ino)++nodes.drop (fm nodes n.ino)) [] false by rw [List.take_append_drop]]
 rw [uE n _ _ _ (nT hl)]
 generalize nodes.drop (fm nodes n.ino)=rest at hd
 cases rest with
 |nil=>simp [iy]
 |cons m r =>
  have hm:=hd m (List.mem_cons_self ..)
  have h1:n.ino<=m.ino:=by omega
  have h2:¬m.ino=n.ino:=by omega
  rw [iy]
  simp only [ge_iff_le,h1,h2,decide_true,Bool.not_false,Bool.and_true,Bool.or_true,if_true,if_false]
  rw [rB n r _ fun x hx=>hd x (List.mem_cons_of_mem _ hx)]
  simp
def lJ {nodes:List Node} (h:hU nodes) {n o:Node} (ho:nodes[fm nodes n.ino]?=some o) (he:o.ino=n.ino):ck nodes n=nodes.set (fm nodes n.ino) n:=by
 have hl:=mL h n.ino
 have hlt:=(List.getElem?_eq_some_iff.1 ho).1
 have hdr:nodes.drop (fm nodes n.ino)=o::nodes.drop (fm nodes n.ino+1):=by
  rw [List.drop_eq_getElem_cons hlt]
  rw [List.getElem?_eq_getElem hlt] at ho; injection ho with ho; rw [ho]
 have hd:∀m,m∈nodes.drop (fm nodes n.ino+1)->n.ino<m.ino:=fun m hm=>by
  obtain ⟨k,hk⟩:=List.getElem?_of_mem hm
  rw [List.getElem?_drop] at hk
  have hkl:=(List.getElem?_eq_some_iff.1 hk).1
  have h3:=List.pairwise_iff_getElem.1 h _ _ hlt hkl (by omega)
  have h4:nodes[fm nodes n.ino+1+k]=m:=by rw [List.getElem?_eq_getElem hkl] at hk; injection hk
  have h5:nodes[fm nodes n.ino]=o:=by rw [List.getElem?_eq_getElem hlt] at ho; injection ho
  rw [h4,h5] at h3
  omega
 unfold ck
 rw [show iy n nodes [] false=iy n (nodes.take (fm nodes n.ino)++nodes.drop (fm nodes n.ino)) [] false by rw [List.take_append_drop]]
 rw [uE n _ _ _ (nT hl),hdr,iy]
 simp only [ge_iff_le,he,Int.le_refl,decide_true,Bool.not_false,Bool.and_true,Bool.or_true,if_true,List.append_nil]
 rw [rB n _ _ hd,List.set_eq_take_append_cons_drop,if_pos hlt]
 simp
def p85 {nodes:List Node} (h0:nodes≠[]) (hn:nodes.length<=100000) (M:ai):af aV 164 [aF nodes] M=some (.bu M.length 0 6 0 nodes.length,M++[.arr 6 0 (nodes.map bm)]):=by
 refine bM (g:=fp 6 80) rfl ?_
 obtain ⟨a,r,rfl⟩:=List.exists_cons_of_ne_nil h0
 have hw:wid ((a::r).map bm) 6:=by have:=yX (a::r); simpa using this
 have hr:bP ((a::r).map bm).length 80:=by have:=dv (a:=(a::r).length) (b:=80) (by omega) (by omega); simpa using this
 unfold fp
 simp only [List.map_cons] at hw hr ⊢
 rw [a8 ⟨hw,hr⟩]
 simp
def p86 {nodes:List Node} {b:Nat} (hb:b<=nodes.length) (hn:nodes.length<=100000) (n:Node) (c0 c1:aQ) :
  af aV 165 [.bu 2 0 6 0 nodes.length,.int .i64 b,.slice .sh [.agg (az n)]] [c0,c1,.arr 6 0 (nodes.map bm)]=some (.bu 2 1 6 0 (nodes.length+1),[c0,c1,.arr 6 1 ((nodes.take b++n::nodes.drop b).map bm)]):=by
 refine bM (g:=ep 6 80) rfl ?_
 have hr:bP ((nodes.map bm).length+1) 80:=by have:=dv (a:=nodes.length+1) (b:=80) (by omega) (by omega); simpa using this
 unfold ep
 simp only [nth]
 rw [a8 ⟨trivial,trivial,trivial,by simp,by omega,by simpa using hb,rfl,hr⟩]
 simp [dG,bm]
def OB (nodes:List Node) (b:Nat) (o n:Node) (h:nodes[b]?=some o):(dG (nodes.map bm) b (putCells (bm o) 0 (az n)))=(nodes.set b n).map bm:=by
 have:putCells (bm o) 0 (az n)=bm n:=rfl
 rw [this,cF,List.map_set]
def afF (nodes:List Node) (next ag:Int) (n:Node) (h:hU nodes) (h0:nodes≠[]) (hn:nodes.length<=100000):af aV 108 [.ptr 0 0,bm n] [.cells [aF nodes,.int .i64 next,.int .i64 ag]] =
  some (.tuple [],[.cells [aF (ck nodes n),.int .i64 next,.int .i64 ag]]):=by
 refine aq rfl rfl rfl ?_
 have hk:=fun M=>VE nodes next ag n.ino h hn 0 (.cells [aF nodes,.int .i64 next,.int .i64 ag]::M) rfl
 have hp:=fun M=>p85 h0 hn M
 have hle:=(mL h n.ino).le
 simp only [J2,TZ,bm,az,hk,hp,EN,simprocAttr]
 rcases lj h n.ino with ⟨h1,o,h2,h3,h4⟩|⟨h1,h2⟩
 ·have hlt:((fm nodes n.ino:Int)<(nodes.length:Int))=True:=by have:=(List.getElem?_eq_some_iff.1 h2).1; simp; omega
  simp only [TZ,h1,h2,hlt,Nat.sub_zero,List.getElem?_cons_zero,List.getElem?_cons_succ,EN,simprocAttr]
  have e:=OB nodes _ o n h2
  simp only [az] at e
  rw [e,lJ h h2 h4,List.take_of_length_le (by simp)]
 ·have hi:=fun c0 c1=>p86 hle hn n c0 c1
  simp only [az] at hi
  simp only [TZ,h1,hi,List.getElem?_cons_zero,List.getElem?_cons_succ,EN,simprocAttr]
  rw [qf h h2,List.take_of_length_le (by simp; omega)]
def Dk (nodes:List Node) (next ag a b c:Int) (d:Bytes) (e:List cJ) (u:Int) (h:hU nodes) (h0:nodes≠[]) (hn:nodes.length<=100000) (p:Nat) (M:ai) (hM:nth M p=some (.cells [aF nodes,.int .i64 next,.int .i64 ag])) :
  an (af aV) 108 [.ptr p 0,.agg [.int .i64 a,.int .i64 b,.int .i64 c,cY d,fR e,.int .i64 u]] M=some (.tuple [],dG M p (.cells [aF (ck nodes ⟨a,b,c,d,e,u⟩),.int .i64 next,.int .i64 ag])) :=
 gN hM (afF nodes next ag ⟨a,b,c,d,e,u⟩ h h0 hn) rfl rfl rfl rfl rfl rfl rfl rfl rfl rfl
def FZ:(∀M cs,ae.ou M (.agg cs) = .agg (cs.map (ae.gY M)))/\(∀M i o,ae.ou M (.ptr i o) = .ptr i o)/\(∀M k n,ae.ou M (.int k n) = .int k n)/\(∀M s,ae.ou M (.str s) = .str s) /\
  (∀M k n,ae.gY M (.int k n) = .int k n)/\(∀M s,ae.gY M (.str s) = .str s)/\(∀M tk xs,ae.gY M (.slice tk xs) = .slice tk xs)/\(∀M b,ae.gY M (.bool b) = .bool b) /\
  (∀M id ver sz lo hi,ae.gY M (.bu id ver sz lo hi)=match nth M id with
   |some (.arr _ v xs)=>if v=ver then .slice .sh ((xs.take hi).drop lo) else .any
   |_ => .any)/\(∀i a b c d,ae.fV (.bu i a b c d)=[i]):=by
 refine ⟨?_,?_,?_,?_,?_,?_,?_,?_,?_,?_⟩<;>intros<;>rfl
def sV {nodes:List Node} (h:hU nodes) {ino:Int} {o:Node} (ho:nodes[fm nodes ino]?=some o) (he:o.ino=ino):fz nodes ino=nodes.take (fm nodes ino)++nodes.drop (fm nodes ino+1):=by
 have hl:=mL h ino
 have hlt:=(List.getElem?_eq_some_iff.1 ho).1
 have hd:∀m,m∈nodes.drop (fm nodes ino+1)->ino<m.ino:=fun m hm=>by
  obtain ⟨k,hk⟩:=List.getElem?_of_mem hm
  rw [List.getElem?_drop] at hk
  have hkl:=(List.getElem?_eq_some_iff.1 hk).1
  have h3:=List.pairwise_iff_getElem.1 h _ _ hlt hkl (by omega)
  have h4:nodes[fm nodes ino+1+k]=m:=by rw [List.getElem?_eq_getElem hkl] at hk; injection hk
  have h5:nodes[fm nodes ino]=o:=by rw [List.getElem?_eq_getElem hlt] at ho; injection ho
  rw [h4,h5] at h3
  omega
 have hdr:nodes.drop (fm nodes ino)=o::nodes.drop (fm nodes ino+1):=by
  rw [List.drop_eq_getElem_cons hlt]
  rw [List.getElem?_eq_getElem hlt] at ho; injection ho with ho; rw [ho]
 unfold fz
 rw [show nodes.filter (fun n=>n.ino != ino)=(nodes.take (fm nodes ino)++nodes.drop (fm nodes ino)).filter (fun n=>n.ino != ino) by rw [List.take_append_drop]]
 rw [List.filter_append,hdr,List.filter_cons]
 simp only [he,bne_self_eq_false,Bool.false_eq_true,if_false]
 rw [List.filter_eq_self.2 fun m hm=>by have:=nT hl m hm; simp; omega,List.filter_eq_self.2 fun m hm=>by have:=hd m hm; simp; omega]
def qU {nodes:List Node} {ino:Int} (hf:find nodes ino=none):fz nodes ino=nodes :=
 List.filter_eq_self.2 fun m hm=>by simpa using List.find?_eq_none.1 hf m hm
def ajd {nodes:List Node} {b:Nat} (hb:b<nodes.length) (hn:nodes.length<=100000) (c0:aQ) :
  af aV 205 [.bu 1 0 6 0 nodes.length,.int .i64 b,.int .i64 ((b+1:Nat):Int)] [c0,.arr 6 0 (nodes.map bm)]=some (.bu 1 1 6 0 (nodes.length-1),[c0,.arr 6 1 ((nodes.take b++nodes.drop (b+1)).map bm)]):=by
 refine bM (g:=fg 6) rfl ?_
 unfold fg
 simp only [nth]
 rw [a8 ⟨trivial,trivial,trivial,by simp,by omega,by simpa using hb,by omega,by simp; omega⟩]
 simp [dG]
def ago (nodes:List Node) (next ag ino:Int) (h:hU nodes) (hn:nodes.length<=100000):af aV 167 [.ptr 0 0,.int .i64 ino] [.cells [aF nodes,.int .i64 next,.int .i64 ag]] =
  some (.tuple [],[.cells [aF (fz nodes ino),.int .i64 next,.int .i64 ag]]):=by
 refine aq rfl rfl rfl ?_
 have hk:=fun M=>VE nodes next ag ino h hn 0 (.cells [aF nodes,.int .i64 next,.int .i64 ag]::M) rfl
 simp only [KG,T6,hk,EN,simprocAttr]
 rcases lj h ino with ⟨h1,o,h2,h3,h4⟩|⟨h1,h2⟩
 ·have hlt:=(List.getElem?_eq_some_iff.1 h2).1
  have h0:nodes≠[]:=by rintro rfl; simp at h2
  have hp:=fun M=>p85 h0 hn M
  have hd:=fun c0=>ajd hlt hn c0
  have hw:IntKind.i64.wrap ((fm nodes ino:Int)+1)=((fm nodes ino+1:Nat):Int):=by rw [bw (by omega) (by omega)]; rfl
  simp only [T6,h1,hp,hd,hw,List.getElem?_cons_zero,List.getElem?_cons_succ,EN,simprocAttr]
  rw [sV h h2 h4,List.take_of_length_le (by simp; omega)]
 ·simp only [T6,h1,EN,simprocAttr]
  rw [qU h2]
def abG (nodes:List Node) (next ag ino:Int) (h:hU nodes) (hn:nodes.length<=100000) (p:Nat) (M:ai) (hM:nth M p=some (.cells [aF nodes,.int .i64 next,.int .i64 ag])) :
  an (af aV) 167 [.ptr p 0,.int .i64 ino] M=some (.tuple [],dG M p (.cells [aF (fz nodes ino),.int .i64 next,.int .i64 ag])) :=
 gN hM (ago nodes next ag ino h hn) rfl rfl rfl rfl rfl rfl rfl rfl rfl rfl
def D4 {a b:Bytes} (h:strLt a b=true):strLt b a=false:=by
 cases hb:strLt b a with
 |false=>rfl
 |true=>have:=pF h hb; rw [jO] at this; cases this
def pE:∀(a b:Bytes),strLt a b=true\/a=b\/strLt b a=true
 | [],[] => .inr (.inl rfl)
 | [],_::_ => .inl rfl
 |_::_,[] => .inr (.inr rfl)
 |a::x,b::y=>by
  simp only [strLt,Bool.or_eq_true,Bool.and_eq_true,decide_eq_true_eq,beq_iff_eq,List.cons.injEq,UInt8.lt_iff_toNat_lt]
  rcases pE x y with h|h|h
  ·rcases Nat.lt_trichotomy a.toNat b.toNat with h1|h1|h1
   ·exact .inl (.inl h1)
   ·exact .inl (.inr ⟨UInt8.toNat_inj.1 h1,h⟩)
   ·exact .inr (.inr (.inl h1))
  ·rcases Nat.lt_trichotomy a.toNat b.toNat with h1|h1|h1
   ·exact .inl (.inl h1)
   ·exact .inr (.inl ⟨UInt8.toNat_inj.1 h1,h⟩)
   ·exact .inr (.inr (.inl h1))
  ·rcases Nat.lt_trichotomy a.toNat b.toNat with h1|h1|h1
   ·exact .inl (.inl h1)
   ·exact .inr (.inr (.inr ⟨(UInt8.toNat_inj.1 h1).symm,h⟩))
   ·exact .inr (.inr (.inl h1))
def Gs {a b:Bytes} (h:strLt a b=true):Vx a b=false:=by simp [Vx,h]
def Gr {a b:Bytes} (h:strLt b a=true):Vx a b=true:=by
 have h1:=D4 h
 have h2:¬a=b:=by rintro rfl; rw [jO] at h; cases h
 simp [Vx,h1,h2]
def Bp (e:cJ) (rest:List cJ):∀(pre out:List cJ),(∀m,m∈pre->strLt m.name e.name=true)->pk e (pre++rest) out false=pk e rest (out++pre) false
 | [],out,_=>by simp
 |m::r,out,h=>by
  rw [List.cons_append,pk,Gs (h m (List.mem_cons_self ..))]
  simp only [Bool.and_false,Bool.or_false,Bool.false_eq_true,if_false]
  rw [Bp e rest r _ fun x hx=>h x (List.mem_cons_of_mem _ hx)]
  simp
def yn (e:cJ):∀(rest out:List cJ),pk e rest out true=(out++rest,true)
 | [],out=>by simp [pk]
 |m::r,out=>by
  rw [pk]
  simp only [Bool.not_true,Bool.false_and,Bool.true_or,Bool.false_eq_true,if_false]
  rw [yn e r]
  simp
def uA {l:List cJ} {s:Bytes} {b:Nat} (h:Aj l s b):∀m,m∈l.take b->strLt m.name s=true:=fun m hm=>by
 obtain ⟨k,hk⟩:=List.getElem?_of_mem hm
 rw [List.getElem?_take] at hk
 split at hk
 ·rename_i hlt; exact (h.lt k m hk).2 hlt
 ·cases hk
def vY {l:List cJ} {s:Bytes} {b:Nat} (h:Aj l s b):∀m,m∈l.drop b->strLt m.name s=false:=fun m hm=>by
 obtain ⟨k,hk⟩:=List.getElem?_of_mem hm
 rw [List.getElem?_drop] at hk
 have:=h.lt _ m hk
 have hn:¬b+k<b:=by omega
 cases hc:strLt m.name s with
 |false=>rfl
 |true=>exact absurd (this.1 hc) hn
def nH {l:List cJ} (h:jv l) {e:cJ} (hf:cN l e.name=none):si l e=l.take (fI l e.name)++e::l.drop (fI l e.name):=by
 have hl:=kl h e.name
 have hd:∀m,m∈l.drop (fI l e.name)->strLt e.name m.name=true:=fun m hm=>by
  have h1:=vY hl m hm
  have h2:=List.find?_eq_none.1 hf m (List.mem_of_mem_drop hm)
  have h3:¬m.name=e.name:=by simpa using h2
  rcases pE m.name e.name with h4|h4|h4
  ·rw [h1] at h4; cases h4
  ·exact absurd h4 h3
  ·exact h4
 unfold si
 rw [show pk e l [] false=pk e (l.take (fI l e.name)++l.drop (fI l e.name)) [] false by rw [List.take_append_drop]]
 rw [Bp e _ _ _ (uA hl)]
 generalize l.drop (fI l e.name)=rest at hd
 cases rest with
 |nil=>simp [pk]
 |cons m r =>
  rw [pk,Gr (hd m (List.mem_cons_self ..))]
  simp only [Bool.not_false,Bool.and_true,Bool.or_true,if_true]
  rw [yn]
  simp
def xZ {l:List cJ} (h:jv l) {s:Bytes} {o:cJ} (ho:l[fI l s]?=some o) (he:o.name=s):eA l s=l.take (fI l s)++l.drop (fI l s+1):=by
 have hl:=kl h s
 have hlt:=(List.getElem?_eq_some_iff.1 ho).1
 have hdr:l.drop (fI l s)=o::l.drop (fI l s+1):=by
  rw [List.drop_eq_getElem_cons hlt]
  rw [List.getElem?_eq_getElem hlt] at ho; injection ho with ho; rw [ho]
 have hd:∀m,m∈l.drop (fI l s+1)->strLt s m.name=true:=fun m hm=>by
  obtain ⟨k,hk⟩:=List.getElem?_of_mem hm
  rw [List.getElem?_drop] at hk
  have hkl:=(List.getElem?_eq_some_iff.1 hk).1
  have h3:=List.pairwise_iff_getElem.1 h _ _ hlt hkl (by omega)
  have h4:l[fI l s+1+k]=m:=by rw [List.getElem?_eq_getElem hkl] at hk; injection hk
  have h5:l[fI l s]=o:=by rw [List.getElem?_eq_getElem hlt] at ho; injection ho
  rw [h4,h5,he] at h3
  exact h3
 have ne:∀ {a b:Bytes},strLt a b=true->¬a=b:=fun {a b} h=>by rintro rfl; rw [jO] at h; cases h
 unfold eA
 rw [show l.filter (fun n=>n.name != s)=(l.take (fI l s)++l.drop (fI l s)).filter (fun n=>n.name != s) by rw [List.take_append_drop]]
 rw [List.filter_append,hdr,List.filter_cons]
 simp only [he,bne_self_eq_false,Bool.false_eq_true,if_false]
 rw [List.filter_eq_self.2 fun m hm=>by simpa using ne (uA hl m hm),List.filter_eq_self.2 fun m hm=>by simpa using fun hc=>ne (hd m hm) hc.symm]
def CZ {l:List cJ} {s:Bytes} (hf:cN l s=none):eA l s=l :=
 List.filter_eq_self.2 fun m hm=>by simpa using List.find?_eq_none.1 hf m hm
def p58 {l:List cJ} (h0:l≠[]) (hn:l.length<=100000) (M:ai):af aV 131 [fR l] M=some (.bu M.length 0 3 0 l.length,M++[.arr 3 0 (l.map dw)]):=by
 refine bM (g:=fp 3 32) rfl ?_
 obtain ⟨a,r,rfl⟩:=List.exists_cons_of_ne_nil h0
 have hw:wid ((a::r).map dw) 3:=by have:=Cd (a::r); simpa using this
 have hr:bP ((a::r).map dw).length 32:=by have:=dv (a:=(a::r).length) (b:=32) (by omega) (by omega); simpa using this
 unfold fp
 simp only [List.map_cons] at hw hr ⊢
 rw [a8 ⟨hw,hr⟩]
 simp
def adH (M:ai):af aV 131 [.slice .sh []] M=some (.slice .c0 [],M):=bM (g:=fp 3 32) rfl rfl
def p87 {l:List cJ} {b:Nat} (hb:b<=l.length) (hn:l.length<=100000) (e:cJ) (c0 c1:aQ) :
  af aV 166 [.bu 2 0 3 0 l.length,.int .i64 b,.slice .sh [.agg (dy e)]] [c0,c1,.arr 3 0 (l.map dw)]=some (.bu 2 1 3 0 (l.length+1),[c0,c1,.arr 3 1 ((l.take b++e::l.drop b).map dw)]):=by
 refine bM (g:=ep 3 32) rfl ?_
 have hr:bP ((l.map dw).length+1) 32:=by have:=dv (a:=l.length+1) (b:=32) (by omega) (by omega); simpa using this
 unfold ep
 simp only [nth]
 rw [a8 ⟨trivial,trivial,trivial,by simp,by omega,by simpa using hb,rfl,hr⟩]
 simp [dG,dw]
def ajf (e:cJ) (M:ai):af aV 166 [.slice .c0 [],.int .i64 0,.slice .sh [.agg (dy e)]] M=some (.bu M.length 0 3 0 1,M++[.arr 3 0 [.agg (dy e)]]):=by
 refine bM (g:=ep 3 32) rfl ?_
 show aZ ((0:Int)=0/\(ae.agg (dy e)).cells.length=3) _=_
 exact a8 ⟨rfl,rfl⟩
def p84 {l:List cJ} {b:Nat} (hb:b<l.length) (hn:l.length<=100000) (c0 c1:aQ) :
  af aV 171 [.bu 2 0 3 0 l.length,.int .i64 b,.int .i64 ((b+1:Nat):Int)] [c0,c1,.arr 3 0 (l.map dw)]=some (.bu 2 1 3 0 (l.length-1),[c0,c1,.arr 3 1 ((l.take b++l.drop (b+1)).map dw)]):=by
 refine bM (g:=fg 3) rfl ?_
 unfold fg
 simp only [nth]
 rw [a8 ⟨trivial,trivial,trivial,by simp,by omega,by simpa using hb,by omega,by simp; omega⟩]
 simp [dG]
def Ea {nodes:List Node} (h:hU nodes) {n:Node} (hf:find nodes n.ino=some n):ck nodes n=nodes:=by
 rcases lj h n.ino with ⟨_,o,h2,h3,h4⟩|⟨_,h2⟩
 ·rw [hf] at h3; injection h3 with h3; subst h3
  rw [lJ h h2 rfl]
  apply List.ext_getElem?
  intro i
  by_cases e:fm nodes n.ino=i
  ·subst e; rw [List.getElem?_set_self (List.getElem?_eq_some_iff.1 h2).1,h2]
  ·rw [List.getElem?_set_ne e]
 ·rw [hf] at h2; cases h2
def afG (nodes:List Node) (next ag dir:Int) (s:Bytes) (ino:Int) (h:hU nodes) (hn:nodes.length<=100000) {n:Node} (hf:find nodes dir=some n) (hE:jv n.au) (hl:n.au.length<=99999) (hs:cN n.au s=none) :
  af aV 109 [.ptr 0 0,.int .i64 dir,.str s,.int .i64 ino] [.cells [aF nodes,.int .i64 next,.int .i64 ag]]=some (.tuple [],[.cells (aw (dI ⟨nodes,next,ag⟩ dir s ino))]):=by
 refine aq rfl rfl rfl ?_
 have h0:nodes≠[]:=by rintro rfl; simp [find] at hf
 have hnn:aJ nodes dir=n:=by simp [aJ,hf]
 have hk:=fun M=>xE nodes next ag dir h hn 0 (.cells [aF nodes,.int .i64 next,.int .i64 ag]::M) rfl
 have hk2:=fun a b c d u M=>Lu a b c d n.au u s _ (kl hE s) (by omega) M
 have hle:=(kl hE s).le
 have hres:dI ⟨nodes,next,ag⟩ dir s ino=⟨ck nodes { n with au:=n.au.take (fI n.au s)++⟨s,ino,ag⟩::n.au.drop (fI n.au s) },next,gG (ag+1)⟩:=by
  have:=nH hE (e:=⟨s,ino,ag⟩) hs
  simp only [dI,hf,Option.getD_some,this]
 rw [hres,aw]
 have hp:=fun a b c d e u M=>Dk nodes next (gG (ag+1)) a b c d e u h h0 hn 0 (.cells [aF nodes,.int .i64 next,.int .i64 (gG (ag+1))]::M) rfl
 simp only [J3,HL,hk,hnn,bm,az,hk2,EN,simprocAttr]
 by_cases hne:n.au=[]
 ·have hlow:fI n.au s=0:=by rw [hne]; rfl
  have hi:=fun M=>ajf ⟨s,ino,ag⟩ M
  simp only [dy] at hi
  have hlow0:fI [] s=0:=rfl
  have hc0:((0:Nat):Int)=0:=rfl
  simp only [HL,hne,hlow0,hc0,fR,List.map_nil,adH,hi,FZ,lr,List.take_nil,List.drop_nil,List.nil_append,EN,simprocAttr]
  rw [show ae.slice .sh [ae.agg [.str s,.int .i64 ino,.int .i64 ag]]=fR [⟨s,ino,ag⟩] from rfl]
  simp only [HL,hp,EN,simprocAttr]
 ·have hc:=fun M=>p58 hne (show n.au.length<=100000 by omega) M
  have hi:=fun c0 c1=>p87 hle (show n.au.length<=100000 by omega) ⟨s,ino,ag⟩ c0 c1
  simp only [dy] at hi
  simp only [HL,hc,hi,FZ,lr,EN,simprocAttr]
  have ht:List.take (n.au.length+1) (List.map dw (List.take (fI n.au s) n.au++⟨s,ino,ag⟩::List.drop (fI n.au s) n.au))=List.map dw (List.take (fI n.au s) n.au++⟨s,ino,ag⟩::List.drop (fI n.au s) n.au):=List.take_of_length_le (by simp; omega)
  rw [ht]
  simp only [HL,hp,EN,simprocAttr]
def Qa (nodes:List Node) (next ag dir:Int) (s:Bytes) (ino:Int) (h:hU nodes) (hn:nodes.length<=100000) {n:Node} (hf:find nodes dir=some n) (hE:jv n.au) (hl:n.au.length<=99999) (hs:cN n.au s=none) (p:Nat) (M:ai) (hM:nth M p=some (.cells [aF nodes,.int .i64 next,.int .i64 ag])) :
  an (af aV) 109 [.ptr p 0,.int .i64 dir,.str s,.int .i64 ino] M=some (.tuple [],dG M p (.cells (aw (dI ⟨nodes,next,ag⟩ dir s ino)))) :=
 gN hM (afG nodes next ag dir s ino h hn hf hE hl hs) rfl rfl rfl rfl rfl rfl rfl rfl rfl rfl
def afP (nodes:List Node) (next ag dir:Int) (s:Bytes) (h:hU nodes) (hn:nodes.length<=100000) {n:Node} (hf:find nodes dir=some n) (hE:jv n.au) (hl:n.au.length<=99999) :
  af aV 121 [.ptr 0 0,.int .i64 dir,.str s] [.cells [aF nodes,.int .i64 next,.int .i64 ag]]=some (.tuple [],[.cells [aF (bQ nodes dir s),.int .i64 next,.int .i64 ag]]):=by
 refine aq rfl rfl rfl ?_
 have h0:nodes≠[]:=by rintro rfl; simp [find] at hf
 have hnn:aJ nodes dir=n:=by simp [aJ,hf]
 have hino:n.ino=dir:=(bH hf).2
 have hk:=fun M=>xE nodes next ag dir h hn 0 (.cells [aF nodes,.int .i64 next,.int .i64 ag]::M) rfl
 have hk2:=fun a b c d u M=>Lu a b c d n.au u s _ (kl hE s) (by omega) M
 have hp:=fun a b c d e u M=>Dk nodes next ag a b c d e u h h0 hn 0 (.cells [aF nodes,.int .i64 next,.int .i64 ag]::M) rfl
 have hres:bQ nodes dir s=ck nodes { n with au:=eA n.au s }:=by simp only [bQ,hf,Option.getD_some]
 rw [hres]
 simp only [Kc,O2,hk,hnn,bm,az,hk2,EN,simprocAttr]
 rcases o9 hE s with ⟨h1,o,h2,h3,h4⟩|⟨h1,h2⟩
 ·have hlt:=(List.getElem?_eq_some_iff.1 h2).1
  have hne:n.au≠[]:=by intro hc; rw [hc] at h2; simp at h2
  have hc:=fun M=>p58 hne (show n.au.length<=100000 by omega) M
  have hd:=fun c0 c1=>p84 hlt (show n.au.length<=100000 by omega) c0 c1
  have hw:IntKind.i64.wrap ((fI n.au s:Int)+1)=((fI n.au s+1:Nat):Int):=by rw [bw (by omega) (by omega)]; rfl
  simp only [O2,h1,hc,hd,hw,FZ,lr,EN,simprocAttr]
  have ht:List.take (n.au.length-1) (List.map dw (List.take (fI n.au s) n.au++List.drop (fI n.au s+1) n.au))=List.map dw (List.take (fI n.au s) n.au++List.drop (fI n.au s+1) n.au):=List.take_of_length_le (by simp; omega)
  rw [ht]
  simp only [O2,hp,EN,simprocAttr]
  rw [xZ hE h2 h4]
 ·simp only [O2,h1,EN,simprocAttr]
  rw [CZ h2]
  have:ck nodes n=nodes:=Ea h (by rw [hino]; exact hf)
  rw [show ({ n with au:=n.au }:Node)=n from rfl,this]
def VA (nodes:List Node) (next ag dir:Int) (s:Bytes) (h:hU nodes) (hn:nodes.length<=100000) {n:Node} (hf:find nodes dir=some n) (hE:jv n.au) (hl:n.au.length<=99999) (p:Nat) (M:ai) (hM:nth M p=some (.cells [aF nodes,.int .i64 next,.int .i64 ag])) :
  an (af aV) 121 [.ptr p 0,.int .i64 dir,.str s] M=some (.tuple [],dG M p (.cells [aF (bQ nodes dir s),.int .i64 next,.int .i64 ag])) :=
 gN hM (afP nodes next ag dir s h hn hf hE hl) rfl rfl rfl rfl rfl rfl rfl rfl rfl rfl
def eN (nodes:List Node) (n:Node):List Node:=if (n.kind==2)=true then fz nodes n.ino else ck nodes { n with bS:=gG (n.bS-1) }
def afQ (nodes:List Node) (next ag:Int) (n:Node) (h:hU nodes) (h0:nodes≠[]) (hn:nodes.length<=100000) :
  af aV 122 [.ptr 0 0,bm n] [.cells [aF nodes,.int .i64 next,.int .i64 ag]]=some (.tuple [],[.cells [aF (eN nodes n),.int .i64 next,.int .i64 ag]]):=by
 refine aq rfl rfl rfl ?_
 have hp:=fun a b c d e u M=>Dk nodes next ag a b c d e u h h0 hn 0 (.cells [aF nodes,.int .i64 next,.int .i64 ag]::M) rfl
 have hd:=fun M=>abG nodes next ag n.ino h hn 0 (.cells [aF nodes,.int .i64 next,.int .i64 ag]::M) rfl
 simp only [Kd,T1,bm,az,EN,simprocAttr]
 unfold eN
 refine aH (fun hb=>?_) (fun hb=>?_)
 ·simp only [T1,hb,hd,EN,simprocAttr]
 ·simp only [T1,hb,hp,Bool.false_eq_true,EN,simprocAttr]
def abt (nodes:List Node) (next ag a b c:Int) (d:Bytes) (e:List cJ) (u:Int) (h:hU nodes) (h0:nodes≠[]) (hn:nodes.length<=100000) (p:Nat) (M:ai) (hM:nth M p=some (.cells [aF nodes,.int .i64 next,.int .i64 ag])) :
  an (af aV) 122 [.ptr p 0,.agg [.int .i64 a,.int .i64 b,.int .i64 c,cY d,fR e,.int .i64 u]] M=some (.tuple [],dG M p (.cells [aF (eN nodes ⟨a,b,c,d,e,u⟩),.int .i64 next,.int .i64 ag])) :=
 gN hM (afQ nodes next ag ⟨a,b,c,d,e,u⟩ h h0 hn) rfl rfl rfl rfl rfl rfl rfl rfl rfl rfl
def kx (nodes:List Node) (ino:Int):Nat:=(ly nodes ino).length-1
def gS (t:Tree) (dir:Int) (s:Bytes):Int :=
 if ((dj t.nodes dir).2 != 0)=true then (dj t.nodes dir).2 else if (!c8 s)=true then 60 else if (cN (dj t.nodes dir).1.au s).isSome=true then 71 else
 if (decide ((64:Int)<=(dj t.nodes dir).1.au.length)||(decide ((12:Int)<=kx t.nodes dir)||decide ((1099511627776:Int)<=t.ag)))=true then 76 else 0
def afE (nodes:List Node) (next ag dir:Int) (s:Bytes) (ht:Small ⟨nodes,next,ag⟩) (hr:jS ⟨nodes,next,ag⟩) (hs:s.length<=100000) (ha:gH s) :
  af aV 107 [.ptr 0 0,.int .i64 dir,.str s] [.cells [aF nodes,.int .i64 next,.int .i64 ag]]=some (.int .i64 (gS ⟨nodes,next,ag⟩ dir s),[.cells [aF nodes,.int .i64 next,.int .i64 ag]]):=by
 have hn:nodes.length<=100000:=ht.nodes
 have hd:(dj nodes dir).1.au.length<=100000:=tr ht dir
 have hE:jv (dj nodes dir).1.au:=hr.dir dir
 have hk:=fun M=>Qb nodes next ag dir hr.fh hn 0 (.cells [aF nodes,.int .i64 next,.int .i64 ag]::M) rfl
 have hk2:=fun a b c d u M=>Lu a b c d (dj nodes dir).1.au u s _ (kl hE s) hd M
 have hk3:∀M,an (af aV) 162 [.ptr 0 0,.int .i64 dir] (.cells [aF nodes,.int .i64 next,.int .i64 ag]::M)=some (.int .i64 (kx nodes dir),.cells [aF nodes,.int .i64 next,.int .i64 ag]::M):=fun M=>abF nodes next ag dir hr.fh hn 0 (.cells [aF nodes,.int .i64 next,.int .i64 ag]::M) rfl
 refine aq rfl rfl rfl ?_
 simp only [J1,Ae,hk,bm,az,EN,simprocAttr]
 refine aH (fun hb=>?_) (fun hb=>?_)
 ·simp only [Ae,hb,EN,simprocAttr]
  clear hk hk2 hk3
  simp_all only [gS,jZ,↓reduceIte,reduceCtorEq,bne_self_eq_false]
 simp only [Ae,hb,VB,hs,ha,EN,simprocAttr]
 refine aH (fun hb1=>?_) (fun hb1=>?_)
 ·simp only [Ae,hb1,EN,simprocAttr]
  clear hk hk2 hk3
  simp_all only [gS,jZ,↓reduceIte,reduceCtorEq,bne_self_eq_false]
 simp only [Ae,hb1,hk2,EN,simprocAttr]
 rcases o9 hE s with ⟨h1,o,h2,h3,h4⟩|⟨h1,h2⟩
 ·simp only [Ae,h1,EN,simprocAttr]
  clear hk hk2 hk3
  simp_all only [gS,Option.isSome_some,jZ,↓reduceIte,reduceCtorEq,bne_self_eq_false]
 ·simp only [Ae,h1,EN,simprocAttr]
  repeat' ((first|refine aH (fun hb=>?_) (fun hb=>?_)|refine bj (fun hb=>?_) (fun hb=>?_)|refine cj (fun hb=>?_) (fun hb=>?_))<;>simp only [hb,EN,Ae,hk3,simprocAttr])
  all_goals (clear hk hk2 hk3; simp_all only [gS,Option.isSome_none,jZ,↓reduceIte,reduceCtorEq,bne_self_eq_false]; done)
def abo (nodes:List Node) (next ag dir:Int) (s:Bytes) (ht:Small ⟨nodes,next,ag⟩) (hr:jS ⟨nodes,next,ag⟩) (hs:s.length<=100000) (ha:gH s) (p:Nat) (M:ai) (hM:nth M p=some (.cells [aF nodes,.int .i64 next,.int .i64 ag])) :
  an (af aV) 107 [.ptr p 0,.int .i64 dir,.str s] M=some (.int .i64 (gS ⟨nodes,next,ag⟩ dir s),M):=by
 have:=gN hM (afE nodes next ag dir s ht hr hs ha) rfl rfl rfl rfl rfl rfl rfl rfl rfl rfl
 rwa [ij hM] at this
def sx (x y:Node):Int:=if (x.kind==2&&y.kind != 2)=true then 73 else if (x.kind != 2&&y.kind==2)=true then 72 else if decide ((0:Int)<y.au.length)=true then 74 else 0
def afW (x y:Node):af aV 128 [bm x,bm y] []=some (.int .i64 (sx x y),[]):=by
 refine aq rfl rfl rfl ?_
 simp only [Ki,Y7,bm,az,EN,simprocAttr]
 repeat' ((first|refine aH (fun hb=>?_) (fun hb=>?_)|refine bj (fun hb=>?_) (fun hb=>?_)|refine cj (fun hb=>?_) (fun hb=>?_))<;>simp only [hb,EN,Y7,simprocAttr])
 all_goals (simp_all only [sx,jZ,↓reduceIte,reduceCtorEq,bne_self_eq_false]; done)
def afJ (t:Tree) (ino:Int) (ht:Small t) (hr:jS t):af aV 113 [bI t,.int .i64 ino] []=some (.tuple [bI (lf t ino).1,.int .i64 (lf t ino).2],[]):=by
 obtain ⟨nodes,next,ag⟩:=t
 have hn:nodes.length<=100000:=ht.nodes
 refine aq rfl rfl rfl ?_
 have hk:=fun b c M=>xE nodes next ag ino hr.fh hn 2 (b::c :: .cells [aF nodes,.int .i64 next,.int .i64 ag]::M) rfl
 have hd:=fun b c M=>abG nodes next ag ino hr.fh hn 2 (b::c :: .cells [aF nodes,.int .i64 next,.int .i64 ag]::M) rfl
 simp only [J6,Y6,bI,aw,hk,bm,az,EN,simprocAttr]
 repeat' ((first|refine aH (fun hb=>?_) (fun hb=>?_)|refine bj (fun hb=>?_) (fun hb=>?_)|refine cj (fun hb=>?_) (fun hb=>?_))<;>simp only [hb,EN,Y6,hd,simprocAttr])
 all_goals (clear hk hd; simp_all only [lf,bI,aw,jZ,↓reduceIte,reduceCtorEq,bne_self_eq_false]; done)
def k93 (data:Bytes) (hd:data.length<=100000) (M:ai):an (af aV) 93 [cY data] M=some (cY data,M):=by
 refine cO (bM (g:=X7 1 1) rfl ?_) M
 have hw:wid (data.map jt) 1:=by have:=ki data; simpa using this
 have hr:bP (data.map jt).length 1:=by have:=dv (a:=data.length) (b:=1) (by omega) (by omega); simpa using this
 exact a8 ⟨hw,hr⟩
def agd (t:Tree) (ino:Int) (data:Bytes) (ht:Small t) (hr:jS t) (hd:data.length<=100000):af aV 150 [bI t,.int .i64 ino,cY data] []=some (.tuple [bI (oC t ino data).1,.int .i64 (oC t ino data).2],[]):=by
 obtain ⟨nodes,next,ag⟩:=t
 have hn:nodes.length<=100000:=ht.nodes
 refine aq rfl rfl rfl ?_
 have hk:=fun b c M=>xE nodes next ag ino hr.fh hn 2 (b::c :: .cells [aF nodes,.int .i64 next,.int .i64 ag]::M) rfl
 simp only [Kw,O4,bI,aw,hk,bm,az,EN,simprocAttr]
 cases hf:find nodes ino with
 |none =>
  simp only [O4,Option.isSome_none,EN,simprocAttr]
  clear hk
  simp_all only [oC,bI,aw,Option.isSome_none,jZ,↓reduceIte,reduceCtorEq,bne_self_eq_false]
 |some n =>
  have h0:nodes≠[]:=by rintro rfl; simp [find] at hf
  have hp:=fun x y a b c d e u M=>Dk nodes next ag a b c d e u hr.fh h0 hn 2 (x::y :: .cells [aF nodes,.int .i64 next,.int .i64 ag]::M) rfl
  have hc:=fun M=>k93 data hd M
  simp only [O4,Option.isSome_some,EN,simprocAttr]
  repeat' ((first|refine aH (fun hb=>?_) (fun hb=>?_)|refine bj (fun hb=>?_) (fun hb=>?_)|refine cj (fun hb=>?_) (fun hb=>?_))<;>simp only [hb,EN,O4,hp,hc,simprocAttr])
  all_goals (clear hk hp hc; simp_all only [oC,bI,aw,Option.isSome_some,jZ,↓reduceIte,reduceCtorEq,bne_self_eq_false]; done)
end
def CA {nodes:List Node} (h:hU nodes) {a b:Node} (ha:a∈nodes) (hb:b∈nodes) (he:a.ino=b.ino):a=b:=by
 obtain ⟨i,hi⟩:=List.getElem?_of_mem ha
 obtain ⟨k,hk⟩:=List.getElem?_of_mem hb
 have hil:=(List.getElem?_eq_some_iff.1 hi).1
 have hkl:=(List.getElem?_eq_some_iff.1 hk).1
 have e1:nodes[i]=a:=by rw [List.getElem?_eq_getElem hil] at hi; injection hi
 have e2:nodes[k]=b:=by rw [List.getElem?_eq_getElem hkl] at hk; injection hk
 rcases Nat.lt_trichotomy i k with hlt|heq|hgt
 ·have:=List.pairwise_iff_getElem.1 h _ _ hil hkl hlt
  rw [e1,e2] at this; omega
 ·subst heq; rw [<-e1,<-e2]
 ·have:=List.pairwise_iff_getElem.1 h _ _ hkl hil hgt
  rw [e1,e2] at this; omega
def ga {nodes:List Node} (h:hU nodes) {i:Int} {m:Node}:find nodes i=some m↔m∈nodes/\m.ino=i:=by
 refine ⟨bH,fun ⟨h1,h2⟩=>?_⟩
 cases hf:find nodes i with
 |none =>
  have:=List.find?_eq_none.1 hf m h1
  simp [h2] at this
 |some k =>
  obtain ⟨k1,k2⟩:=bH hf
  rw [CA h h1 k1 (by omega)]
def iT {nodes:List Node} {i:Int}:find nodes i=none↔∀m,m∈nodes->m.ino≠i:=by
 unfold find
 rw [List.find?_eq_none]
 simp
def qc {nodes:List Node} {b:Nat} {o n:Node} (ho:nodes[b]?=some o):nodes=nodes.take b++o::nodes.drop (b+1)/\nodes.set b n=nodes.take b++n::nodes.drop (b+1):=by
 have hlt:=(List.getElem?_eq_some_iff.1 ho).1
 constructor
 ·rw [List.getElem?_eq_getElem hlt] at ho; injection ho with ho
  conv=>lhs; rw [<-List.take_append_drop b nodes]
  rw [List.drop_eq_getElem_cons hlt,ho]
 ·rw [List.set_eq_take_append_cons_drop,if_pos hlt]
def nK {nodes:List Node} (h:hU nodes) {n m:Node}:m∈ck nodes n↔m=n\/(m∈nodes/\m.ino≠n.ino):=by
 rcases lj h n.ino with ⟨_,o,h2,h3,h4⟩|⟨_,h2⟩
 ·rw [lJ h h2 h4]
  obtain ⟨s1,s2⟩:=qc (n:=n) h2
  have hon:o∈nodes:=(bH h3).1
  constructor
  ·intro hm
   rw [s2] at hm
   rcases List.mem_append.1 hm with hm|hm
   ·have hmn:=List.mem_of_mem_take hm
    have:=nT (mL h n.ino) m hm
    exact .inr ⟨hmn,by omega⟩
   ·rcases List.mem_cons.1 hm with rfl|hm
    ·exact .inl rfl
    ·refine .inr ⟨List.mem_of_mem_drop hm,fun he=>?_⟩
     have hp:=h
     unfold hU at hp
     rw [s1,List.pairwise_append] at hp
     have:=(List.pairwise_cons.1 hp.2.1).1 m hm
     omega
  ·rintro (rfl|⟨hm,hne⟩)
   ·rw [s2]; simp
   ·rw [s1] at hm
    rw [s2]
    rcases List.mem_append.1 hm with hm|hm
    ·exact List.mem_append_left _ hm
    ·rcases List.mem_cons.1 hm with rfl|hm
     ·exact absurd h4 hne
     ·exact List.mem_append_right _ (List.mem_cons_of_mem _ hm)
 ·rw [qf h h2]
  rw [iT] at h2
  constructor
  ·intro hm
   rcases List.mem_append.1 hm with hm|hm
   ·have:=List.mem_of_mem_take hm
    exact .inr ⟨this,h2 m this⟩
   ·rcases List.mem_cons.1 hm with rfl|hm
    ·exact .inl rfl
    ·have:=List.mem_of_mem_drop hm
     exact .inr ⟨this,h2 m this⟩
  ·rintro (rfl|⟨hm,_⟩)
   ·simp
   ·rw [<-List.take_append_drop (fm nodes n.ino) nodes] at hm
    rcases List.mem_append.1 hm with hm|hm
    ·exact List.mem_append_left _ hm
    ·exact List.mem_append_right _ (List.mem_cons_of_mem _ hm)
def iJ {nodes:List Node} (h:hU nodes) (n:Node):hU (ck nodes n):=by
 have hl:=mL h n.ino
 rcases lj h n.ino with ⟨_,o,h2,h3,h4⟩|⟨_,h2⟩
 ·rw [lJ h h2 h4]
  obtain ⟨s1,s2⟩:=qc (n:=n) h2
  have hp:=h
  unfold hU at hp ⊢
  rw [s1,List.pairwise_append] at hp
  obtain ⟨p1,p2,p3⟩:=hp
  obtain ⟨p4,p5⟩:=List.pairwise_cons.1 p2
  rw [s2,List.pairwise_append]
  refine ⟨p1,List.pairwise_cons.2 ⟨fun m hm=>by have:=p4 m hm; omega,p5⟩,fun a ha c hc=>?_⟩
  rcases List.mem_cons.1 hc with rfl|hc
  ·exact nT hl a ha
  ·exact p3 a ha c (List.mem_cons_of_mem _ hc)
 ·rw [qf h h2]
  have hp:=h
  unfold hU at hp ⊢
  rw [<-List.take_append_drop (fm nodes n.ino) nodes,List.pairwise_append] at hp
  obtain ⟨p1,p2,p3⟩:=hp
  rw [iT] at h2
  rw [List.pairwise_append]
  refine ⟨p1,List.pairwise_cons.2 ⟨fun m hm=>?_,p2⟩,fun a ha c hc=>?_⟩
  ·have k1:=x4 hl m hm
   have k2:=h2 m (List.mem_of_mem_drop hm)
   omega
  ·rcases List.mem_cons.1 hc with rfl|hc
   ·exact nT hl a ha
   ·exact p3 a ha c hc
def dQ {nodes:List Node} (h:hU nodes) (n:Node) (i:Int):find (ck nodes n) i=if i=n.ino then some n else find nodes i:=by
 split
 ·rename_i he
  exact (ga (iJ h n)).2 ⟨(nK h).2 (.inl rfl),he.symm⟩
 ·rename_i hne
  cases hf:find nodes i with
  |none =>
   rw [iT] at hf ⊢
   intro m hm
   rcases (nK h).1 hm with rfl|⟨hm,_⟩
   ·exact fun he=>hne he.symm
   ·exact hf m hm
  |some m =>
   obtain ⟨h1,h2⟩:=bH hf
   exact (ga (iJ h n)).2 ⟨(nK h).2 (.inr ⟨h1,by omega⟩),h2⟩
def lB {nodes:List Node} (h:hU nodes) (i:Int):hU (fz nodes i):=List.Pairwise.filter _ h
def mX {nodes:List Node} (h:hU nodes) (k i:Int):find (fz nodes k) i=if i=k then none else find nodes i:=by
 split
 ·rename_i he
  rw [iT]
  intro m hm
  have:=(List.mem_filter.1 hm).2
  simp at this
  omega
 ·rename_i hne
  cases hf:find nodes i with
  |none =>
   rw [iT] at hf ⊢
   exact fun m hm=>hf m (List.mem_filter.1 hm).1
  |some m =>
   obtain ⟨h1,h2⟩:=bH hf
   exact (ga (lB h k)).2 ⟨List.mem_filter.2 ⟨h1,by simp; omega⟩,h2⟩
def Lj {l:List cJ} (h:jv l) {e:cJ} (hf:cN l e.name=none):jv (si l e):=by
 rw [nH h hf]
 have hl:=kl h e.name
 have hp:=h
 unfold jv at hp ⊢
 rw [<-List.take_append_drop (fI l e.name) l,List.pairwise_append] at hp
 obtain ⟨p1,p2,p3⟩:=hp
 rw [List.pairwise_append]
 refine ⟨p1,List.pairwise_cons.2 ⟨fun m hm=>?_,p2⟩,fun a ha c hc=>?_⟩
 ·have k1:=vY hl m hm
  have k2:¬m.name=e.name:=by simpa using List.find?_eq_none.1 hf m (List.mem_of_mem_drop hm)
  rcases pE m.name e.name with h4|h4|h4
  ·rw [k1] at h4; cases h4
  ·exact absurd h4 k2
  ·exact h4
 ·rcases List.mem_cons.1 hc with rfl|hc
  ·exact uA hl a ha
  ·exact p3 a ha c hc
def tu {l:List cJ} (h:jv l) (s:Bytes):jv (eA l s):=List.Pairwise.filter _ h
def jS.with {t:Tree} (h:jS t) {n:Node} (hn:jv n.au) (next ag:Int):jS ⟨ck t.nodes n,next,ag⟩ :=
 ⟨iJ h.fh n,fun m hm=>by
  rcases (nK h.fh).1 hm with rfl|⟨hm,_⟩
  ·exact hn
  ·exact h.au m hm⟩
def jS.sU {t:Tree} (h:jS t) (i next ag:Int):jS ⟨fz t.nodes i,next,ag⟩ :=
 ⟨lB h.fh i,fun m hm=>h.au m (List.mem_filter.1 hm).1⟩
def jS.node {t:Tree} (h:jS t) (i:Int):jv (aJ t.nodes i).au:=by
 cases hf:find t.nodes i with
 |none=>simp [aJ,hf,Node.zero]; exact List.Pairwise.nil
 |some n=>simp [aJ,hf]; exact h.au n (bH hf).1
def jS.left {t:Tree} (h:jS t) (i:Int) (s:Bytes) (next ag:Int):jS ⟨bQ t.nodes i s,next,ag⟩ :=
 h.with (n:={ aJ t.nodes i with au:=eA (aJ t.nodes i).au s }) (tu (h.node i) s) next ag
def jS.jE {t:Tree} (h:jS t) (i:Int) (s:Bytes) (of:Int) (hf:cN (aJ t.nodes i).au s=none):jS (dI t i s of) :=
 h.with (n:={ aJ t.nodes i with au:=si (aJ t.nodes i).au ⟨s,of,t.ag⟩ }) (Lj (h.node i) hf) t.next (gG (t.ag+1))
section
attribute [local irreducible] cT cR gz gK bR kr af an aZ aK
def rb {nodes:List Node} {dir:Int} (h:(dj nodes dir).2=0):∃d,find nodes dir=some d/\d.kind=2/\dj nodes dir=(d,0):=by
 unfold dj at h ⊢
 split at h
 ·cases h
 ·rename_i d hd
  split at h
  ·rename_i hk; exact ⟨d,hd,hk,by simp [hd,hk]⟩
  ·cases h
def Ns {t:Tree} {dir:Int} {s:Bytes} (h:(gS t dir s != 0)=false):∃d,find t.nodes dir=some d/\d.kind=2/\c8 s=true/\cN d.au s=none/\d.au.length<64/\kx t.nodes dir<12/\t.ag<1099511627776:=by
 have h:gS t dir s=0:=by simpa using h
 unfold gS at h
 split at h
 ·rename_i hc
  rw [h] at hc; cases hc
 ·rename_i hc
  obtain ⟨d,h1,h2,h3⟩:=rb (by simpa using hc)
  rw [h3] at h
  split at h
  ·cases h
  ·rename_i hk
   split at h
   ·cases h
   ·rename_i hf
    split at h
    ·cases h
    ·rename_i hm
     simp at hk hf hm
     exact ⟨d,h1,h2,hk,hf,by omega,by omega,by omega⟩
def Ct (t:Tree) (ino:Int) (s:Bytes) (kind:Int):Tree×Int×Int :=
 if (kind != 1&&kind != 2)=true then (t,0,1) else if (gS t ino s != 0)=true then (t,0,gS t ino s) else
 if (decide ((200:Int)<=t.nodes.length)||decide ((1099511627776:Int)<=t.next))=true then (t,0,76) else
 (dI ⟨ck t.nodes ⟨t.next,kind,1,[],[],if (kind==2)=true then ino else 0⟩,gG (t.next+1),t.ag⟩ ino s t.next,t.next,0)
def c80 (t:Tree) (dir:Int) (s:Bytes) (kind:Int) (hz:Sz 1000 t) (hr:jS t) (hs:s.length<=100000) (ha:gH s) (ec:∀m,m∈t.nodes->m.ino<t.next) :
  af aV 80 [bI t,.int .i64 dir,.str s,.int .i64 kind] []=some (.tuple [bI (Ct t dir s kind).1,.int .i64 (Ct t dir s kind).2.1,.int .i64 (Ct t dir s kind).2.2],[]):=by
 obtain ⟨nodes,next,ag⟩:=t
 have ht:Small ⟨nodes,next,ag⟩:=hz.small (by omega)
 have hn:nodes.length<=100000:=ht.nodes
 have hk:=fun b c M=>abo nodes next ag dir s ht hr hs ha 2 (b::c :: .cells [aF nodes,.int .i64 next,.int .i64 ag]::M) rfl
 have last:(gS ⟨nodes,next,ag⟩ dir s != 0)=false->∀u,nodes≠[]/\∀b c M,an (af aV) 109 [.ptr 2 0,.int .i64 dir,.str s,.int .i64 next] (b::c :: .cells [aF (ck nodes ⟨next,kind,1,[],[],u⟩),.int .i64 (gG (next+1)),.int .i64 ag]::M) =
   some (.tuple [],b::c :: .cells (aw (dI ⟨ck nodes ⟨next,kind,1,[],[],u⟩,gG (next+1),ag⟩ dir s next))::M):=fun hm u=>by
  obtain ⟨d,d1,d2,d3,d4,d5,d6,d7⟩:=Ns hm
  have dm:=bH d1
  have hlt:=ec d dm.1
  simp only at hlt
  refine ⟨by rintro rfl; simp [find] at d1,fun b c M=>?_⟩
  have hz1:Sz 1001 ⟨ck nodes ⟨next,kind,1,[],[],u⟩,gG (next+1),ag⟩:=hz.with (n:=⟨next,kind,1,[],[],u⟩) (by simp) (by simp) (gG (next+1)) ag
  have hf:find (ck nodes ⟨next,kind,1,[],[],u⟩) dir=some d:=by rw [dQ hr.fh,if_neg (by simp; omega)]; exact d1
  exact Qa (ck nodes ⟨next,kind,1,[],[],u⟩) (gG (next+1)) ag dir s next (iJ hr.fh _) (hz1.small (by omega)).nodes hf (hr.au d dm.1) (by omega) d4 2 (b::c :: .cells [aF (ck nodes ⟨next,kind,1,[],[],u⟩),.int .i64 (gG (next+1)),.int .i64 ag]::M) rfl
 refine aq rfl rfl rfl ?_
 simp only [Vl,E80,bI,aw,hk,EN,simprocAttr]
 repeat' ((first|refine aH (fun hb=>?_) (fun hb=>?_)|refine bj (fun hb=>?_) (fun hb=>?_)|refine cj (fun hb=>?_) (fun hb=>?_))<;>simp only [hb,EN,E80,hk,simprocAttr])
 all_goals try (clear hk last; simp_all only [Ct,bI,aw,jZ,↓reduceIte,reduceCtorEq,bne_self_eq_false]; done)
 all_goals
  have hm:(gS ⟨nodes,next,ag⟩ dir s != 0)=false:=by assumption
  have h0:=(last hm 0).1
  have hp:∀u b c M,an (af aV) 108 [.ptr 2 0,.agg [.int .i64 next,.int .i64 kind,.int .i64 1,.slice .sh [],.slice .sh [],.int .i64 u]] (b::c :: .cells [aF nodes,.int .i64 (gG (next+1)),.int .i64 ag]::M) =
    some (.tuple [],b::c :: .cells [aF (ck nodes ⟨next,kind,1,[],[],u⟩),.int .i64 (gG (next+1)),.int .i64 ag]::M):=fun u b c M=>Dk nodes (gG (next+1)) ag next kind 1 [] [] u hr.fh h0 hn 2 (b::c :: .cells [aF nodes,.int .i64 (gG (next+1)),.int .i64 ag]::M) rfl
  have hl:=fun u=>(last hm u).2
  simp only [E80,hp,hl,aw,EN,simprocAttr]
  clear hk last hp hl
  simp_all only [Ct,bI,aw,jZ,↓reduceIte,reduceCtorEq,bne_self_eq_false]
def Y0 (t:Tree) (ino to:Int) (s:Bytes):Tree×Int :=
 if (!(find t.nodes ino).isSome||((aJ t.nodes ino).kind==1&&(aJ t.nodes ino).bS==0))=true then (t,70) else if ((aJ t.nodes ino).kind==2)=true then (t,72) else
 if (gS t to s != 0)=true then (t,gS t to s) else
 (dI ⟨ck t.nodes { aJ t.nodes ino with bS:=gG ((aJ t.nodes ino).bS+1) },t.next,t.ag⟩ to s ino,0)
def c82 (t:Tree) (ino dir:Int) (s:Bytes) (hz:Sz 1000 t) (hr:jS t) (hs:s.length<=100000) (ha:gH s) :
  af aV 82 [bI t,.int .i64 ino,.int .i64 dir,.str s] []=some (.tuple [bI (Y0 t ino dir s).1,.int .i64 (Y0 t ino dir s).2],[]):=by
 obtain ⟨nodes,next,ag⟩:=t
 have ht:Small ⟨nodes,next,ag⟩:=hz.small (by omega)
 have hn:nodes.length<=100000:=ht.nodes
 have hg:=fun b c M=>xE nodes next ag ino hr.fh hn 2 (b::c :: .cells [aF nodes,.int .i64 next,.int .i64 ag]::M) rfl
 have hk:=fun b c M=>abo nodes next ag dir s ht hr hs ha 2 (b::c :: .cells [aF nodes,.int .i64 next,.int .i64 ag]::M) rfl
 have last:(gS ⟨nodes,next,ag⟩ dir s != 0)=false->(find nodes ino).isSome=true->((aJ nodes ino).kind==2)=false->∀l,nodes≠[]/\∀b c M,an (af aV) 109 [.ptr 2 0,.int .i64 dir,.str s,.int .i64 ino] (b::c :: .cells [aF (ck nodes { aJ nodes ino with bS:=l }),.int .i64 next,.int .i64 ag]::M) =
   some (.tuple [],b::c :: .cells (aw (dI ⟨ck nodes { aJ nodes ino with bS:=l },next,ag⟩ dir s ino))::M):=fun hm hi hkd l=>by
  obtain ⟨d,d1,d2,d3,d4,d5,d6,d7⟩:=Ns hm
  have dm:=bH d1
  refine ⟨by rintro rfl; simp [find] at d1,fun b c M=>?_⟩
  have hfd:=hz.find ino
  have hz1:Sz 1001 ⟨ck nodes { aJ nodes ino with bS:=l },next,ag⟩:=hz.with (n:={ aJ nodes ino with bS:=l }) (Nat.le_succ_of_le hfd.1) hfd.2 next ag
  obtain ⟨n,hfn⟩:=Option.isSome_iff_exists.1 hi
  have hnn:aJ nodes ino=n:=by simp [aJ,hfn]
  have hne:¬dir=(aJ nodes ino).ino:=fun he=>by
   rw [hnn] at he hkd
   have h1:=(bH hfn).2
   rw [he,h1,hfn] at d1
   injection d1 with d1
   subst d1
   simp [d2] at hkd
  have hf:find (ck nodes { aJ nodes ino with bS:=l }) dir=some d:=by rw [dQ hr.fh,if_neg hne]; exact d1
  exact Qa (ck nodes { aJ nodes ino with bS:=l }) next ag dir s ino (iJ hr.fh _) (hz1.small (by omega)).nodes hf (hr.au d dm.1) (by omega) d4 2 (b::c :: .cells [aF (ck nodes { aJ nodes ino with bS:=l }),.int .i64 next,.int .i64 ag]::M) rfl
 refine aq rfl rfl rfl ?_
 simp only [Vn,E82,bI,aw,hg,bm,az,EN,simprocAttr]
 repeat' ((first|refine aH (fun hb=>?_) (fun hb=>?_)|refine bj (fun hb=>?_) (fun hb=>?_)|refine cj (fun hb=>?_) (fun hb=>?_))<;>simp only [hb,EN,E82,hk,simprocAttr])
 all_goals try (clear hk hg last; simp_all only [Y0,bI,aw,jZ,↓reduceIte,reduceCtorEq,bne_self_eq_false]; done)
 all_goals
  have hm:(gS ⟨nodes,next,ag⟩ dir s != 0)=false:=by assumption
  have h2:((aJ nodes ino).kind==2)=false:=by assumption
  have h3:(!(find nodes ino).isSome)=false:=by assumption
  have h3:(find nodes ino).isSome=true:=by simpa using h3
  have h0:=(last hm h3 h2 0).1
  have hp:=fun a b c d e u x y M=>Dk nodes next ag a b c d e u hr.fh h0 hn 2 (x::y :: .cells [aF nodes,.int .i64 next,.int .i64 ag]::M) rfl
  have hl:=fun l=>(last hm h3 h2 l).2
  simp only [E82,hp,hl,aw,EN,simprocAttr]
  clear hk hg last hp hl
  simp_all only [Y0,bI,aw,jZ,↓reduceIte,reduceCtorEq,bne_self_eq_false]
def look_ok {nodes:List Node} {dir:Int} {s:Bytes} (h:((cA nodes dir s).2 != 0)=false):∃d e,find nodes dir=some d/\d.kind=2/\c8 s=true/\cN d.au s=some e/\cA nodes dir s=(e.ino,0):=by
 have h:(cA nodes dir s).2=0:=by simpa using h
 have h':=h
 unfold cA at h
 split at h
 ·rename_i hc; exact absurd h hc
 ·rename_i hc
  obtain ⟨d,h1,h2,h3⟩:=rb (by simpa using hc)
  rw [h3] at h
  split at h
  ·cases h
  ·rename_i hk
   split at h
   ·cases h
   ·rename_i e he
    have hk:c8 s=true:=by simpa using hk
    refine ⟨d,e,h1,h2,hk,he,?_⟩
    unfold cA
    rw [h3]
    simp [hk,he]
def TY (t:Tree) (dir:Int) (s:Bytes):Tree×Int×Int :=
 if ((cA t.nodes dir s).2 != 0)=true then (t,0,(cA t.nodes dir s).2) else if decide ((0:Int)<(aJ t.nodes (cA t.nodes dir s).1).au.length)=true then (t,0,74) else
 (⟨eN (bQ t.nodes dir s) (aJ t.nodes (cA t.nodes dir s).1),t.next,t.ag⟩,(cA t.nodes dir s).1,0)
def Bx {nodes:List Node} (h:hU nodes) {dir:Int} {s:Bytes} {d:Node} (hf:find nodes dir=some d):bQ nodes dir s≠[]:=by
 intro hc
 have:({ d with au:=eA d.au s }:Node)∈bQ nodes dir s:=by
  unfold bQ
  rw [hf]
  exact (nK h).2 (.inl rfl)
 rw [hc] at this
 cases this
def c83 (t:Tree) (dir:Int) (s:Bytes) (hz:Sz 1000 t) (hr:jS t) (hs:s.length<=100000) (ha:gH s) :
  af aV 83 [bI t,.int .i64 dir,.str s] []=some (.tuple [bI (TY t dir s).1,.int .i64 (TY t dir s).2.1,.int .i64 (TY t dir s).2.2],[]):=by
 obtain ⟨nodes,next,ag⟩:=t
 have ht:Small ⟨nodes,next,ag⟩:=hz.small (by omega)
 have hn:nodes.length<=100000:=ht.nodes
 have hg:=fun b c M=>xE nodes next ag (cA nodes dir s).1 hr.fh hn 2 (b::c :: .cells [aF nodes,.int .i64 next,.int .i64 ag]::M) rfl
 have hl:=fun M=>k84 nodes next ag dir s ht hr hs ha M
 refine aq rfl rfl rfl ?_
 simp only [Vo,Zh,bI,aw,hl,EN,simprocAttr]
 refine aH (fun hb=>?_) (fun hb=>?_)
 ·simp only [Zh,hb,EN,simprocAttr]
  clear hg hl
  simp_all only [TY,bI,aw,jZ,↓reduceIte,reduceCtorEq,bne_self_eq_false]
 obtain ⟨d,e,d1,d2,d3,d4,d5⟩:=look_ok hb
 have dm:=bH d1
 have hde:d.au.length<=1000:=hz.au d dm.1
 have hsz:Sz 1001 ⟨bQ nodes dir s,next,ag⟩:=hz.left dir s next ag
 have hv:=fun x y M=>VA nodes next ag dir s hr.fh hn d1 (hr.au d dm.1) (by omega) 2 (x::y :: .cells [aF nodes,.int .i64 next,.int .i64 ag]::M) rfl
 have hu:=fun a b c d' e' u x y M=>abt (bQ nodes dir s) next ag a b c d' e' u (hr.left dir s next ag).fh (Bx hr.fh d1) (hsz.small (by omega)).nodes 2 (x::y :: .cells [aF (bQ nodes dir s),.int .i64 next,.int .i64 ag]::M) rfl
 simp only [Zh,hb,hg,bm,az,EN,simprocAttr]
 refine aH (fun hb1=>?_) (fun hb1=>?_)
 ·simp only [Zh,hb1,EN,simprocAttr]
  clear hg hl hv hu
  simp_all only [TY,bI,aw,jZ,↓reduceIte,reduceCtorEq,bne_self_eq_false]
 ·simp only [Zh,hb1,hv,hu,EN,simprocAttr]
  clear hg hl hv hu d5
  simp_all only [TY,bI,aw,jZ,↓reduceIte,reduceCtorEq,bne_self_eq_false]
end
section
attribute [local irreducible] cT cR gz gK bR kr af an aZ aK
def Bl (x:Int):List Int->Nat->Int
 | [],_ => -1
 |n::r,i=>if (x==n)=true then i else Bl x r (i+1)
def EG (x:Int):∀(l:List Int) (i:Nat),decide ((0:Int)<=Bl x l i)=l.contains x
 | [],i=>by simp [Bl]
 |n::r,i=>by
  unfold Bl
  by_cases h:x=n
  ·simp [h]
  ·simp only [beq_iff_eq,h,if_false,EG x r (i+1),List.contains_cons]
   simp [h]
def QW {l0:List Int} {x:Int} (hl:l0.length<=100000) {k:List K} {R:Int->Option (ae×ai)}
  (hx:∀e,kr (af aV) [.tmp 4] 0 k ⟨.exit 0,e,[]⟩=R (-1)) (hr:∀(i:Nat),kr (af aV) [.tmp 4] 0 k ⟨.ret,[(4,.int .i64 i)],[]⟩=R i) :
  ∀(l pre:List Int),l0=pre++l->cT (af aV) [.tmp 4] 0 k (.loop [0,1,7,8] Qz) [(0,.slice .sh (l0.map pg)),(1,.int .i64 x),(7,.int .i64 l0.length),(8,.int .i64 pre.length)] []=R (Bl x l pre.length):=by
 intro l
 induction l with
 |nil =>
  intro pre h
  rw [aE]
  simp only [Ck,bZ h,EN,simprocAttr]
  exact hx _
 |cons n r ih =>
  intro pre h
  rw [aE]
  have hlen:pre.length+1<=100000:=by rw [h] at hl; simp at hl; omega
  have hw:IntKind.i64.wrap ((pre.length:Int)+1)=((pre++[n]).length:Int):=by rw [bw (by omega) (by omega)]; exact bp
  have hi:=ih (pre++[n]) (by rw [h]; simp)
  simp only [List.length_append,List.length_cons,List.length_nil,Nat.zero_add] at hi
  rw [Bl]
  simp only [Ck,aY h,aW h,EN,simprocAttr]
  refine aH (fun hb=>?_) (fun hb=>?_)
  ·simp only [Ck,hb,EN,simprocAttr]
   exact hr _
  ·simp only [Ck,hb,hw,Bool.false_eq_true,EN,simprocAttr]
   exact hi
def agv (l:List Int) (x:Int) (hl:l.length<=100000):af aV 175 [.slice .sh (l.map pg),.int .i64 x] []=some (.int .i64 (Bl x l 0),[]):=by
 refine aq rfl rfl rfl ?_
 simp only [KM,Ck,EN,simprocAttr]
 exact QW (R:=fun z=>some (.int .i64 z,[])) hl (fun e=>by simp only [Ck,EN,simprocAttr]) (fun i=>by simp only [Ck,EN,simprocAttr]) l [] rfl
def ahu (l:List Int) (x:Int) (hl:l.length<=100000) (M:ai):an (af aV) 175 [.slice .sh (l.map pg),.int .i64 x] M=some (.int .i64 (Bl x l 0),M):=cO (agv l x hl) M
def afV (l:List Int) (x:Int) (hl:l.length<=100000):af aV 127 [.slice .sh (l.map pg),.int .i64 x] []=some (.bool (l.contains x),[]):=by
 refine aq rfl rfl rfl ?_
 simp only [Kh,aeD,ahu,hl,EG,EN,simprocAttr]
def abu (l:List Int) (x:Int) (hl:l.length<=100000) (M:ai):an (af aV) 127 [.slice .sh (l.map pg),.int .i64 x] M=some (.bool (l.contains x),M):=cO (afV l x hl) M
def lM (nodes:List Node) (at' own ino:Int) (n:Node):Bool :=
 n.kind==2&&((ly nodes n.ino).contains ino&&(decide ((12:Int)<gG (gG (gG (at'+(ly nodes n.ino).length)-1)-own))||(gG (gG (gG (at'+(ly nodes n.ino).length)-1)-own)==12&&decide ((0:Int)<n.au.length))))
abbrev gX (nodes:List Node) (next ag at' own ino:Int):ai:=[.cells [.ptr 4 0],.cells [.int .i64 at'],.cells [.int .i64 own],.cells [.int .i64 ino],.cells [aF nodes,.int .i64 next,.int .i64 ag]]
def agx (nodes:List Node) (next ag at' own ino:Int) (n:Node) (h:hU nodes) (hn:nodes.length<=99999) :
  af aV 177 [bm n,.ptr 0 0,.ptr 1 0,.ptr 2 0,.ptr 3 0] (gX nodes next ag at' own ino)=some (.bool (lM nodes at' own ino n),gX nodes next ag at' own ino):=by
 refine aq rfl rfl rfl ?_
 have hk:=fun a b c d M=>VC nodes next ag n.ino h (by omega) 4 (a::b::c::d :: .cells [aF nodes,.int .i64 next,.int .i64 ag]::M) rfl
 have hl:=mj nodes n.ino
 have hc:=fun M=>abu (ly nodes n.ino) ino (by omega) M
 simp only [KO,Zc,gX,bm,az,EN,simprocAttr]
 repeat' ((first|refine aH (fun hb=>?_) (fun hb=>?_)|refine bj (fun hb=>?_) (fun hb=>?_)|refine cj (fun hb=>?_) (fun hb=>?_))<;>simp only [hb,EN,Zc,hk,hc,simprocAttr])
 all_goals (clear hk hc; simp_all only [lM,gG,bne,Bool.not_eq_true',Bool.not_eq_false',jZ,↓reduceIte,reduceCtorEq,bne_self_eq_false]; done)
end
def eL {C:cu} {f:Nat} {args args':List ae} {M B:ai} {ids:List Nat} {r r':ae} {B' M':ai} (h1:args.all ae.flat=true) (h2:reach M (args.flatMap ae.ids)=ids) (h3:dN M (dh ids) ids=some B) (h4:fa M ids=ids)
  (h5:args.map (ae.iY (dh ids))=args') (h:C f args' B=some (r,B')) (h6:B'.length=B.length) (h7:r.qz=true) (h8:B'.all aQ.flat=true) (h9:r.vl (qk ids)=r') (h10:fy ids M ids B'=M'):an C f args M=some (r',M'):=by
 unfold an
 rw [if_pos h1,h2,h3]
 simp only [aL]
 rw [if_pos h4,h5,h]
 simp only [aL]
 rw [if_pos ⟨h6,h7,h8⟩,h9,h10]
def TP (nodes:List Node) (next ag at' own ino:Int):dN (gX nodes next ag at' own ino) (dh [0,1,2,3,4]) [0,1,2,3,4]=some (gX nodes next ag at' own ino):=rfl
def adL (nodes:List Node) (next ag at' own ino:Int):dN [.cells [aF nodes,.int .i64 next,.int .i64 ag],.cells [.ptr 0 0],.cells [.int .i64 ino],.cells [.int .i64 at'],.cells [.int .i64 own]] (dh [1,3,4,2,0]) [1,3,4,2,0]=some (gX nodes next ag at' own ino):=rfl
section
attribute [local irreducible] cT cR gz gK bR kr af an aZ aK
def ahw (nodes:List Node) (next ag at' own ino:Int) (n:Node) (h:hU nodes) (hn:nodes.length<=99999) :
  an (af aV) 177 [.agg (az n),.ptr 0 0,.ptr 1 0,.ptr 2 0,.ptr 3 0] (gX nodes next ag at' own ino)=some (.bool (lM nodes at' own ino n),gX nodes next ag at' own ino) :=
 eL (ids:=[0,1,2,3,4]) rfl rfl (TP ..) rfl rfl (agx nodes next ag at' own ino n h hn) rfl rfl rfl rfl rfl
def Bk (p:Node->Bool):List Node->Nat->Int
 | [],_ => -1
 |n::r,i=>if p n=true then i else Bk p r (i+1)
def EF (p:Node->Bool):∀(l:List Node) (i:Nat),decide ((0:Int)<=Bk p l i)=l.any p
 | [],i=>by simp [Bk]
 |n::r,i=>by
  unfold Bk
  cases h:p n with
  |true=>simp [h]
  |false=>simp only [Bool.false_eq_true,if_false,EF p r (i+1),List.any_cons,h,Bool.false_or]
def Q1 {nodes:List Node} {next ag at' own ino:Int} (h:hU nodes) (hn:nodes.length<=99999) {k:List K} {R:Int->Option (ae×ai)}
  (hx:∀e,kr (af aV) [.tmp 4] 5 k ⟨.exit 0,e,gX nodes next ag at' own ino⟩=R (-1)) (hr:∀(i:Nat),kr (af aV) [.tmp 4] 5 k ⟨.ret,[(4,.int .i64 i)],gX nodes next ag at' own ino⟩=R i) :
  ∀(l pre:List Node),nodes=pre++l->cT (af aV) [.tmp 4] 5 k (.loop [0,1,7,8] QD) [(0,aF nodes),(1,.func 177 [.ptr 0 0,.ptr 1 0,.ptr 2 0,.ptr 3 0]),(7,.int .i64 nodes.length),(8,.int .i64 pre.length)] (gX nodes next ag at' own ino)=R (Bk (lM nodes at' own ino) l pre.length):=by
 intro l
 induction l with
 |nil =>
  intro pre h
  rw [aE]
  simp only [Cl,bZ h,EN,simprocAttr]
  exact hx _
 |cons n r ih =>
  intro pre hp
  rw [aE]
  have hlen:pre.length+1<=100000:=by rw [hp] at hn; simp at hn; omega
  have hw:IntKind.i64.wrap ((pre.length:Int)+1)=((pre++[n]).length:Int):=by rw [bw (by omega) (by omega)]; exact bp
  have hi:=ih (pre++[n]) (by rw [hp]; simp)
  have hk:=ahw nodes next ag at' own ino n h hn
  simp only [List.length_append,List.length_cons,List.length_nil,Nat.zero_add,gX] at hi
  simp only [gX] at hk
  rw [Bk]
  simp only [Cl,gX,aY hp,aW hp,hk,tkN,shN,EN,simprocAttr]
  refine aH (fun hb=>?_) (fun hb=>?_)
  ·simp only [Cl,hb,EN,simprocAttr]
   exact hr _
  ·simp only [Cl,hb,hw,Bool.false_eq_true,EN,simprocAttr]
   exact hi
def agK (nodes:List Node) (next ag at' own ino:Int) (h:hU nodes) (hn:nodes.length<=99999):af aV 209 [aF nodes,.func 177 [.ptr 0 0,.ptr 1 0,.ptr 2 0,.ptr 3 0]] (gX nodes next ag at' own ino) =
  some (.int .i64 (Bk (lM nodes at' own ino) nodes 0),gX nodes next ag at' own ino):=by
 refine aq rfl rfl rfl ?_
 simp only [K0,Cl,EN,simprocAttr]
 exact Q1 (R:=fun z=>some (.int .i64 z,gX nodes next ag at' own ino)) h hn (fun e=>by simp only [Cl,gX,EN,simprocAttr]) (fun i=>by simp only [Cl,gX,EN,simprocAttr]) nodes [] rfl
def ahB (nodes:List Node) (next ag at' own ino:Int) (h:hU nodes) (hn:nodes.length<=99999):an (af aV) 209 [aF nodes,.func 177 [.ptr 0 0,.ptr 1 0,.ptr 2 0,.ptr 3 0]] (gX nodes next ag at' own ino) =
  some (.int .i64 (Bk (lM nodes at' own ino) nodes 0),gX nodes next ag at' own ino) :=
 eL (ids:=[0,1,2,3,4]) rfl rfl (TP ..) rfl rfl (agK nodes next ag at' own ino h hn) rfl rfl rfl rfl rfl
def agw (nodes:List Node) (next ag at' own ino:Int) (h:hU nodes) (hn:nodes.length<=99999):af aV 176 [aF nodes,.func 177 [.ptr 0 0,.ptr 1 0,.ptr 2 0,.ptr 3 0]] (gX nodes next ag at' own ino) =
  some (.bool (nodes.any (lM nodes at' own ino)),gX nodes next ag at' own ino):=by
 refine aq rfl rfl rfl ?_
 have hk:=ahB nodes next ag at' own ino h hn
 simp only [gX] at hk
 simp only [KN,aeS,gX,hk,EF,EN,simprocAttr]
def ahv (nodes:List Node) (next ag at' own ino:Int) (h:hU nodes) (hn:nodes.length<=99999) :
  an (af aV) 176 [aF nodes,.func 177 [.ptr 1 0,.ptr 3 0,.ptr 4 0,.ptr 2 0]] [.cells [aF nodes,.int .i64 next,.int .i64 ag],.cells [.ptr 0 0],.cells [.int .i64 ino],.cells [.int .i64 at'],.cells [.int .i64 own]] =
  some (.bool (nodes.any (lM nodes at' own ino)),[.cells [aF nodes,.int .i64 next,.int .i64 ag],.cells [.ptr 0 0],.cells [.int .i64 ino],.cells [.int .i64 at'],.cells [.int .i64 own]]) :=
 eL (ids:=[1,3,4,2,0]) rfl rfl (adL ..) rfl rfl (agw nodes next ag at' own ino h hn) rfl rfl rfl rfl rfl
def xX (nodes:List Node) (ino at':Int):Bool:=nodes.any (lM nodes at' (kx nodes ino) ino)
def afX (nodes:List Node) (next ag ino at':Int) (h:hU nodes) (hn:nodes.length<=99999):af aV 129 [.ptr 0 0,.int .i64 ino,.int .i64 at'] [.cells [aF nodes,.int .i64 next,.int .i64 ag]] =
  some (.bool (xX nodes ino at'),[.cells [aF nodes,.int .i64 next,.int .i64 ag]]):=by
 refine aq rfl rfl rfl ?_
 have hk:∀M,an (af aV) 162 [.ptr 0 0,.int .i64 ino] (.cells [aF nodes,.int .i64 next,.int .i64 ag]::M)=some (.int .i64 (kx nodes ino),.cells [aF nodes,.int .i64 next,.int .i64 ag]::M):=fun M=>abF nodes next ag ino h (by omega) 0 (.cells [aF nodes,.int .i64 next,.int .i64 ag]::M) rfl
 have hd:=ahv nodes next ag at' (kx nodes ino) ino h hn
 unfold xX
 simp only [Kj,aeE,hk,hd,EN,simprocAttr]
def ahg (nodes:List Node) (next ag ino at':Int) (h:hU nodes) (hn:nodes.length<=99999) (p:Nat) (M:ai) (hM:nth M p=some (.cells [aF nodes,.int .i64 next,.int .i64 ag])) :
  an (af aV) 129 [.ptr p 0,.int .i64 ino,.int .i64 at'] M=some (.bool (xX nodes ino at'),M):=by
 have:=gN hM (afX nodes next ag ino at' h hn) rfl rfl rfl rfl rfl rfl rfl rfl rfl rfl
 rwa [ij hM] at this
end
section
attribute [local irreducible] cT cR gz gK bR kr af an aZ aK
def uQ (l:List cJ) (s:Bytes):cN (eA l s) s=none:=by
 unfold cN eA
 rw [List.find?_eq_none]
 intro e he
 have:=(List.mem_filter.1 he).2
 simpa using this
def nA {l:List cJ} {s r:Bytes} (h:cN l r=none):cN (eA l s) r=none:=by
 unfold cN eA at *
 rw [List.find?_eq_none] at *
 exact fun e he=>h e (List.mem_filter.1 he).1
def eP {nodes:List Node} (h:hU nodes) {dir:Int} {s:Bytes} {d:Node} (hf:find nodes dir=some d) (i:Int):find (bQ nodes dir s) i=if i=dir then some { d with au:=eA d.au s } else find nodes i:=by
 have hd:=(bH hf).2
 unfold bQ
 rw [hf]
 simp only [Option.getD_some]
 rw [dQ h,show ({ d with au:=eA d.au s }:Node).ino=dir from hd]
def Aa {nodes:List Node} (h:hU nodes) (n:Node):hU (eN nodes n):=by
 unfold eN
 split
 ·exact lB h _
 ·exact iJ h _
def xz {nodes:List Node} (h:hU nodes) (n:Node) {i:Int} (hi:i≠n.ino):find (eN nodes n) i=find nodes i:=by
 unfold eN
 split
 ·rw [mX h,if_neg hi]
 ·rw [dQ h,if_neg hi]
def Sz.eN {b:Nat} {t:Tree} (h:Sz b t) {n:Node} (h1:n.au.length<=b+1) (h2:n.data.length<=100000) (next ag:Int):Sz (b+1) ⟨eN t.nodes n,next,ag⟩:=by
 unfold Go.Proofs.YtdbadpnkhaepnaaGreatDoor.eN
 split
 ·exact (h.sU _ next ag).up (by omega)
 ·exact h.with (n:={ n with bS:=gG (n.bS-1) }) h1 h2 next ag
def qJ (t:Tree) (dir:Int) (s:Bytes) (to:Int) (nm:Bytes) (ino:Int) (x y:Node) (there:Bool):Tree :=
 dI ⟨if (x.kind==2)=true then ck (if there=true then eN (bQ (bQ t.nodes dir s) to nm) y else bQ t.nodes dir s) { x with up:=to }
  else if there=true then eN (bQ (bQ t.nodes dir s) to nm) y else bQ t.nodes dir s,t.next,t.ag⟩ to nm ino
set_option maxHeartbeats 1000000 in
def YC (nodes:List Node) (next ag dir:Int) (s:Bytes) (to:Int) (nm:Bytes) (ino:Int) (x y:Node) (there:Bool) (v5 v140:ae) (B0 Bd:aQ) (yr:List ae) (hyr:there=true->ae.int .i64 y.ino::yr=az y) (hz:Sz 1000 ⟨nodes,next,ag⟩) (hr:jS ⟨nodes,next,ag⟩) {dd dt:Node} (hdir:find nodes dir=some dd) (hto:find nodes to=some dt)
  (hth:there=false->cN dt.au nm=none) (hx:(x.kind==2)=true->x.ino≠to) (hy:there=true->y.ino≠to) (hx1:x.au.length<=1000) (hx2:x.data.length<=100000) (hy1:y.au.length<=1000) (hy2:y.data.length<=100000) :
  cT (af aV) [.eW 10 3,.tmp 11,.tmp 12] 0 [] Oa [(1,.int .i64 dir),(2,.str s),(3,.int .i64 to),(4,.str nm),(5,v5),(10,.ptr 1 0),(13,.int .i64 ino),(15,.ptr 2 0),(17,.ptr 4 0),(19,.ptr 5 0),(21,.bool there),(140,v140)]
   [B0,.cells zT,.cells [aF nodes,.int .i64 next,.int .i64 ag],Bd,.cells (az x),.cells (.int .i64 y.ino::yr)]=some (.tuple [bI (qJ ⟨nodes,next,ag⟩ dir s to nm ino x y there),.int .i64 y.ino,.int .i64 0],[]):=by
 have hasc:hU nodes:=hr.fh
 have n1:=hz.left dir s next ag
 have a1:hU (bQ nodes dir s):=(hr.left dir s next ag).fh
 have e1:jv dd.au:=hr.au dd (bH hdir).1
 have e2:jv dt.au:=hr.au dt (bH hto).1
 have l1:dd.au.length<=1000:=hz.au dd (bH hdir).1
 have l2:dt.au.length<=1000:=hz.au dt (bH hto).1
 obtain ⟨d1,f1,g1,m1,q1⟩:∃d1,find (bQ nodes dir s) to=some d1/\jv d1.au/\d1.au.length<=1000/\(cN dt.au nm=none->cN d1.au nm=none):=by
  rw [eP hasc hdir]
  split
  ·rename_i he
   subst he
   rw [hdir] at hto; injection hto with hto; subst hto
   exact ⟨_,rfl,tu e1 s,Nat.le_trans (tv _ _) l1,nA⟩
  ·exact ⟨dt,hto,e2,l2,id⟩
 have hv1:=fun a b M=>VA nodes next ag dir s hasc (hz.small (by omega)).nodes hdir e1 (by omega) 2 (a::b :: .cells [aF nodes,.int .i64 next,.int .i64 ag]::M) rfl
 have fin:∀(n3:List Node) (d3:Node),hU n3->Sz 1003 ⟨n3,next,ag⟩->find n3 to=some d3->jv d3.au->d3.au.length<=1000->cN d3.au nm=none ->
   (∀a b M,an (af aV) 109 [.ptr 2 0,.int .i64 to,.str nm,.int .i64 ino] (a::b :: .cells [aF n3,.int .i64 next,.int .i64 ag]::M)=some (.tuple [],a::b :: .cells (aw (dI ⟨n3,next,ag⟩ to nm ino))::M)) /\
   ((x.kind==2)=true->(∀a b M,an (af aV) 108 [.ptr 2 0,.agg [.int .i64 x.ino,.int .i64 x.kind,.int .i64 x.bS,cY x.data,fR x.au,.int .i64 to]] (a::b :: .cells [aF n3,.int .i64 next,.int .i64 ag]::M) =
     some (.tuple [],a::b :: .cells [aF (ck n3 { x with up:=to }),.int .i64 next,.int .i64 ag]::M)) /\
    ∀a b M,an (af aV) 109 [.ptr 2 0,.int .i64 to,.str nm,.int .i64 ino] (a::b :: .cells [aF (ck n3 { x with up:=to }),.int .i64 next,.int .i64 ag]::M)=some (.tuple [],a::b :: .cells (aw (dI ⟨ck n3 { x with up:=to },next,ag⟩ to nm ino))::M)):=by
  intro n3 d3 b1 b2 b3 b4 b5 b6
  have h0:n3≠[]:=by rintro rfl; simp [find] at b3
  refine ⟨fun a b M=>Qa n3 next ag to nm ino b1 (b2.small (by omega)).nodes b3 b4 (by omega) b6 2 (a::b :: .cells [aF n3,.int .i64 next,.int .i64 ag]::M) rfl,fun hk=>⟨fun a b M=>Dk n3 next ag x.ino x.kind x.bS x.data x.au to b1 h0 (b2.small (by omega)).nodes 2 (a::b :: .cells [aF n3,.int .i64 next,.int .i64 ag]::M) rfl,fun a b M=>?_⟩⟩
  have b7:Sz 1004 ⟨ck n3 { x with up:=to },next,ag⟩:=b2.with (n:={ x with up:=to }) (Nat.le_trans hx1 (by omega)) hx2 next ag
  have b8:find (ck n3 { x with up:=to }) to=some d3:=by rw [dQ b1,if_neg (fun he=>hx hk he.symm)]; exact b3
  exact Qa (ck n3 { x with up:=to }) next ag to nm ino (iJ b1 _) (b7.small (by omega)).nodes b8 b4 (by omega) b6 2 (a::b :: .cells [aF (ck n3 { x with up:=to }),.int .i64 next,.int .i64 ag]::M) rfl
 cases hth':there with
 |false =>
  obtain ⟨w1,w2⟩:=fin (bQ nodes dir s) d1 a1 (n1.up (by omega)) f1 g1 m1 (q1 (hth hth'))
  cases hkx:(x.kind==2) with
  |false =>
   simp only [Cp,hv1,zT,az,hkx,w1,aw,EN,simprocAttr]
   simp only [qJ,hkx,bI,aw,jZ,↓reduceIte,reduceCtorEq,bne_self_eq_false]
  |true =>
   obtain ⟨w3,w4⟩:=w2 hkx
   simp only [Cp,hv1,zT,az,hkx,w3,w4,aw,EN,simprocAttr]
   simp only [qJ,hkx,bI,aw,jZ,↓reduceIte,reduceCtorEq,bne_self_eq_false]
 |true =>
  have hyr':yr=[.int .i64 y.kind,.int .i64 y.bS,cY y.data,fR y.au,.int .i64 y.up]:=by have:=hyr hth'; simpa [az] using this
  subst hyr'
  have a2:hU (bQ (bQ nodes dir s) to nm):=(jS.left (t:=⟨bQ nodes dir s,next,ag⟩) (hr.left dir s next ag) to nm next ag).fh
  have n2:=n1.left to nm next ag
  have f2:find (bQ (bQ nodes dir s) to nm) to=some { d1 with au:=eA d1.au nm }:=by rw [eP a1 f1,if_pos rfl]
  have hv2:=fun a b M=>VA (bQ nodes dir s) next ag to nm a1 (n1.small (by omega)).nodes f1 g1 (by omega) 2 (a::b :: .cells [aF (bQ nodes dir s),.int .i64 next,.int .i64 ag]::M) rfl
  have hu:=fun a b M=>abt (bQ (bQ nodes dir s) to nm) next ag y.ino y.kind y.bS y.data y.au y.up a2 (Bx a1 f1) (n2.small (by omega)).nodes 2 (a::b :: .cells [aF (bQ (bQ nodes dir s) to nm),.int .i64 next,.int .i64 ag]::M) rfl
  have f3:find (eN (bQ (bQ nodes dir s) to nm) y) to=some { d1 with au:=eA d1.au nm }:=by rw [xz a2 y (fun he=>hy hth' he.symm)]; exact f2
  obtain ⟨w1,w2⟩:=fin (eN (bQ (bQ nodes dir s) to nm) y) { d1 with au:=eA d1.au nm } (Aa a2 y) (n2.eN (Nat.le_trans hy1 (by omega)) hy2 next ag) f3 (tu g1 nm) (Nat.le_trans (tv _ _) m1) (uQ _ _)
  cases hkx:(x.kind==2) with
  |false =>
   simp only [Cp,hv1,hv2,hu,zT,az,hkx,w1,aw,EN,simprocAttr]
   simp only [qJ,hkx,bI,aw,jZ,↓reduceIte,reduceCtorEq,bne_self_eq_false]
  |true =>
   obtain ⟨w3,w4⟩:=w2 hkx
   simp only [Cp,hv1,hv2,hu,zT,az,hkx,w3,w4,aw,EN,simprocAttr]
   simp only [qJ,hkx,bI,aw,jZ,↓reduceIte,reduceCtorEq,bne_self_eq_false]
def fJ (nodes:List Node) (l:List cJ) (s:Bytes):Node:=match cN l s with
 |none=>Node.zero
 |some e=>aJ nodes e.ino
def wH (t:Tree) (dir to:Int) (au:List cJ) (there:Bool) (kind ino:Int):Bool :=
 ((!there&&to != dir)&&decide ((64:Int)<=au.length))||(decide ((12:Int)<(ly t.nodes to).length)||((kind==2&&xX t.nodes ino (ly t.nodes to).length)||decide ((1099511627776:Int)<=t.ag)))
def EY (t:Tree) (dir:Int) (s:Bytes) (to:Int) (nm:Bytes):Tree×Int×Int :=
 if ((cA t.nodes dir s).2 != 0)=true then (t,0,(cA t.nodes dir s).2) else
 if ((dj t.nodes to).2 != 0)=true then (t,0,(dj t.nodes to).2) else
 if (!c8 nm)=true then (t,0,60) else
 if ((fJ t.nodes (dj t.nodes to).1.au nm).ino==(cA t.nodes dir s).1)=true then (t,0,0) else
 if ((aJ t.nodes (cA t.nodes dir s).1).kind==2&&(ly t.nodes to).contains (cA t.nodes dir s).1)=true then (t,0,75) else
 if ((cN (dj t.nodes to).1.au nm).isSome&&sx (aJ t.nodes (cA t.nodes dir s).1) (fJ t.nodes (dj t.nodes to).1.au nm) != 0)=true then (t,0,sx (aJ t.nodes (cA t.nodes dir s).1) (fJ t.nodes (dj t.nodes to).1.au nm)) else
 if wH t dir to (dj t.nodes to).1.au (cN (dj t.nodes to).1.au nm).isSome (aJ t.nodes (cA t.nodes dir s).1).kind (cA t.nodes dir s).1=true then (t,0,76) else
 (qJ t dir s to nm (cA t.nodes dir s).1 (aJ t.nodes (cA t.nodes dir s).1) (fJ t.nodes (dj t.nodes to).1.au nm) (cN (dj t.nodes to).1.au nm).isSome,(fJ t.nodes (dj t.nodes to).1.au nm).ino,0)
def abv (a b c:Int) (d:Bytes) (e:List cJ) (u:Int) (a' b' c':Int) (d':Bytes) (e':List cJ) (u':Int) (M:ai):an (af aV) 128 [.agg [.int .i64 a,.int .i64 b,.int .i64 c,cY d,fR e,.int .i64 u],.agg [.int .i64 a',.int .i64 b',.int .i64 c',cY d',fR e',.int .i64 u']] M=some (.int .i64 (sx ⟨a,b,c,d,e,u⟩ ⟨a',b',c',d',e',u'⟩),M) :=
 cO (afW ⟨a,b,c,d,e,u⟩ ⟨a',b',c',d',e',u'⟩) M
def OU (nodes:List Node) (to:Int):(ly nodes to).contains to=true:=by
 have key:∀(m:Nat) (ino:Int) (out:List Int),out.contains to=true->(mi nodes m ino out).contains to=true:=by
  intro m
  induction m with
  |zero=>intro ino out h; exact h
  |succ m ih =>
   intro ino out h
   rw [mi]
   split
   ·split
    ·exact h
    ·exact ih _ _ (by simp at h ⊢; exact .inl h)
   ·exact h
 exact key _ _ _ (by simp)
def Nx {nodes:List Node} {i:Int} (h:(aJ nodes i).kind=2):(aJ nodes i).ino=i:=by
 cases hf:find nodes i with
 |none=>simp [aJ,hf,Node.zero] at h
 |some n=>simp [aJ,hf]; exact (bH hf).2
set_option maxHeartbeats 4000000 in
def c85 (t:Tree) (dir:Int) (s:Bytes) (to:Int) (nm:Bytes) (hz:Sz 1000 t) (hr:jS t) (hs:s.length<=100000) (ha:gH s) (hs':nm.length<=100000) (ha':gH nm)
  (O0:∀e,cN (dj t.nodes to).1.au nm=some e->(aJ t.nodes e.ino).ino≠to) :
  af aV 85 [bI t,.int .i64 dir,.str s,.int .i64 to,.str nm] []=some (.tuple [bI (EY t dir s to nm).1,.int .i64 (EY t dir s to nm).2.1,.int .i64 (EY t dir s to nm).2.2],[]):=by
 obtain ⟨Q,hQ⟩:∃Q,Oa=Q:=⟨_,rfl⟩
 obtain ⟨nodes,next,ag⟩:=t
 have ht:Small ⟨nodes,next,ag⟩:=hz.small (by omega)
 have hn:nodes.length<=100000:=ht.nodes
 have hasc:hU nodes:=hr.fh
 have hl:=fun M=>k84 nodes next ag dir s ht hr hs ha M
 have hg:=fun i b c M=>xE nodes next ag i hasc hn 2 (b::c :: .cells [aF nodes,.int .i64 next,.int .i64 ag]::M) rfl
 have hd:=fun b c M=>Qb nodes next ag to hasc hn 2 (b::c :: .cells [aF nodes,.int .i64 next,.int .i64 ag]::M) rfl
 have hup:=fun b c M=>VC nodes next ag to hasc hn 2 (b::c :: .cells [aF nodes,.int .i64 next,.int .i64 ag]::M) rfl
 have hul:=mj nodes to
 have hn1:nodes.length<=1000:=hz.nodes
 have hc:=fun x M=>abu (ly nodes to) x (by omega) M
 have hdp:=fun i a b c M=>ahg nodes next ag i a hasc (by omega) 2 (b::c :: .cells [aF nodes,.int .i64 next,.int .i64 ag]::M) rfl
 have hE:jv (dj nodes to).1.au:=hr.dir to
 have hde:(dj nodes to).1.au.length<=100000:=tr ht to
 have hen:=fun a b c d u M=>Lu a b c d (dj nodes to).1.au u nm _ (kl hE nm) hde M
 refine aq rfl rfl rfl ?_
 simp only [Vq,Cp,hQ,bI,aw,hl,EN,simprocAttr]
 refine aH (fun hb0=>?_) (fun hb0=>?_)
 ·simp only [Cp,hQ,hb0,EN,simprocAttr]
  clear hl hg hd hup hc hdp hen O0
  simp_all only [EY,bI,aw,jZ,↓reduceIte,reduceCtorEq,bne_self_eq_false]
 simp only [Cp,hQ,hb0,hd,bm,az,EN,simprocAttr]
 refine aH (fun hb1=>?_) (fun hb1=>?_)
 ·simp only [Cp,hQ,hb1,EN,simprocAttr]
  clear hl hg hd hup hc hdp hen O0
  simp_all only [EY,bI,aw,jZ,↓reduceIte,reduceCtorEq,bne_self_eq_false]
 simp only [Cp,hQ,hb1,VB,hs',ha',EN,simprocAttr]
 refine aH (fun hb2=>?_) (fun hb2=>?_)
 ·simp only [Cp,hQ,hb2,EN,simprocAttr]
  clear hl hg hd hup hc hdp hen O0
  simp_all only [EY,bI,aw,jZ,↓reduceIte,reduceCtorEq,bne_self_eq_false]
 simp only [Cp,hQ,hb2,hg,hen,bm,az,EN,simprocAttr]
 obtain ⟨dd,de,e1,e2,e3,e4,e5⟩:=look_ok hb0
 obtain ⟨dt,g1,g2,g3⟩:=rb (show (dj nodes to).2=0 by simpa using hb1)
 have hx0:=hz.find (cA nodes dir s).1
 have tail:=fun there y yr hyr hth hy hy1 hy2 v5 v140 B0 Bd hxx=>YC nodes next ag dir s to nm (cA nodes dir s).1 (aJ nodes (cA nodes dir s).1) y there v5 v140 B0 Bd yr hyr hz hr e1 g1 hth hxx hy hx0.1 hx0.2 hy1 hy2
 have hxne:((aJ nodes (cA nodes dir s).1).kind==2)=true->(ly nodes to).contains (cA nodes dir s).1=false->(aJ nodes (cA nodes dir s).1).ino≠to:=fun h1 h2 h3=>by
  rw [Nx (by simpa using h1)] at h3
  rw [h3,OU] at h2; cases h2
 have hdte:dt.au=(dj nodes to).1.au:=by rw [g3]
 rcases o9 hE nm with ⟨h1,o,h2,h3,h4⟩|⟨h1,h2⟩
 ·have hnu:fJ nodes (dj nodes to).1.au nm=aJ nodes o.ino:=by simp [fJ,h3]
  have hy0:=hz.find o.ino
  have tl:=tail true (aJ nodes o.ino) _ (fun _=>rfl) (by simp) (fun _=>O0 o h3) hy0.1 hy0.2
  simp only [az,zT] at tl
  simp only [Cp,hQ,h1,h2,hg,bm,az,dy,EN,simprocAttr]
  repeat' ((first|refine aH (fun hb=>?_) (fun hb=>?_)|refine bj (fun hb=>?_) (fun hb=>?_)|refine cj (fun hb=>?_) (fun hb=>?_))<;>simp only [hb,EN,Cp,hQ,hup,hc,hdp,abv,simprocAttr])
  all_goals try (clear hl hg hd hup hc hdp hen O0 tail tl hxne e5 g3; simp_all only [EY,wH,bI,aw,Option.isSome_some,jZ,↓reduceIte,reduceCtorEq,bne_self_eq_false]; done)
  all_goals
   subst hQ
   refine (tl _ _ _ _ (fun hk=>by first|exact hxne hk (by assumption)|(exfalso; simp_all; done))).trans ?_
   have hmv:EY ⟨nodes,next,ag⟩ dir s to nm=(qJ ⟨nodes,next,ag⟩ dir s to nm (cA nodes dir s).1 (aJ nodes (cA nodes dir s).1) (aJ nodes o.ino) true,(aJ nodes o.ino).ino,0):=by
    clear hl hg hd hup hc hdp hen O0 tail tl hxne e5 g3
    simp_all only [EY,wH,Option.isSome_some,jZ,↓reduceIte,reduceCtorEq,bne_self_eq_false]
   rw [hmv]
   rfl
 ·have hnu:fJ nodes (dj nodes to).1.au nm=Node.zero:=by simp [fJ,h2]
  have tl:=tail false Node.zero [.int .i64 0,.int .i64 0,.slice .c0 [],.slice .c0 [],.int .i64 0] (by simp) (fun _=>by rw [hdte]; exact h2) (by simp) (by simp [Node.zero]) (by simp [Node.zero])
  have hz0:Node.zero.ino=0:=rfl
  simp only [az,zT,hz0] at tl
  simp only [Cp,hQ,h1,EN,simprocAttr]
  repeat' ((first|refine aH (fun hb=>?_) (fun hb=>?_)|refine bj (fun hb=>?_) (fun hb=>?_)|refine cj (fun hb=>?_) (fun hb=>?_))<;>simp only [hb,EN,Cp,hQ,hup,hc,hdp,abv,simprocAttr])
  all_goals try (clear hl hg hd hup hc hdp hen O0 tail tl hxne e5 g3; simp_all only [EY,wH,bI,aw,Option.isSome_none,jZ,↓reduceIte,reduceCtorEq,bne_self_eq_false]; done)
  all_goals
   subst hQ
   refine (tl _ _ _ _ (fun hk=>by first|exact hxne hk (by assumption)|(exfalso; simp_all; done))).trans ?_
   have hmv:EY ⟨nodes,next,ag⟩ dir s to nm=(qJ ⟨nodes,next,ag⟩ dir s to nm (cA nodes dir s).1 (aJ nodes (cA nodes dir s).1) Node.zero false,0,0):=by
    clear hl hg hd hup hc hdp hen O0 tail tl hxne e5 g3
    simp_all only [EY,wH,Option.isSome_none,jZ,↓reduceIte,reduceCtorEq,bne_self_eq_false]
   rw [hmv]
   rfl
end
def jA (l:List cJ) (i:Int):Nat:=l.countP fun e=>e.ino==i
def mV (ns:List Node) (i:Int):Nat:=(ns.map fun n=>jA n.au i).sum
def rX (i:Int):jA [] i=0:=rfl
def rV (a b:List cJ) (i:Int):jA (a++b) i=jA a i+jA b i:=List.countP_append
def xV (e:cJ) (l:List cJ) (i:Int):jA (e::l) i=jA l i+(if e.ino=i then 1 else 0):=by simp [jA,List.countP_cons]
def pR (a b:List Node) (i:Int):mV (a++b) i=mV a i+mV b i:=by simp [mV]
def nv (n:Node) (l:List Node) (i:Int):mV (n::l) i=jA n.au i+mV l i:=by simp [mV]
def nw {ns:List Node} (h:hU ns) (n:Node) (i:Int):mV (ck ns n) i+jA (aJ ns n.ino).au i=mV ns i+jA n.au i:=by
 rcases lj h n.ino with ⟨_,o,h2,h3,h4⟩|⟨_,h2⟩
 ·rw [lJ h h2 h4]
  obtain ⟨s1,s2⟩:=qc (n:=n) h2
  have e1:mV ns i=mV (ns.take (fm ns n.ino)) i+(jA o.au i+mV (ns.drop (fm ns n.ino+1)) i):=by
   rw [<-nv,<-pR,<-s1]
  rw [s2,pR,nv,e1]
  simp only [aJ,h3,Option.getD_some]
  omega
 ·rw [qf h h2]
  have e1:mV ns i=mV (ns.take (fm ns n.ino)) i+mV (ns.drop (fm ns n.ino)) i:=by
   rw [<-pR,List.take_append_drop]
  rw [pR,nv,e1]
  simp only [aJ,h2,Option.getD_none,Node.zero,rX]
  omega
def zm {ns:List Node} (h:hU ns) (k i:Int):mV (fz ns k) i+jA (aJ ns k).au i=mV ns i:=by
 rcases lj h k with ⟨_,o,h2,h3,h4⟩|⟨_,h2⟩
 ·rw [sV h h2 h4]
  obtain ⟨s1,_⟩:=qc (n:=o) h2
  have e1:mV ns i=mV (ns.take (fm ns k)) i+(jA o.au i+mV (ns.drop (fm ns k+1)) i):=by
   rw [<-nv,<-pR,<-s1]
  rw [pR,e1]
  simp only [aJ,h3,Option.getD_some]
  omega
 ·rw [qU h2]
  simp only [aJ,h2,Option.getD_none,Node.zero,rX]
  omega
def AQ {l:List cJ} {i:Int}:0<jA l i↔∃e,e∈l/\e.ino=i:=by simp [jA,List.countP_pos_iff]
def pS {i:Int}:∀ {ns:List Node},0<mV ns i↔∃n e,n∈ns/\e∈n.au/\e.ino=i
 | []=>by simp [mV]
 |n::ns=>by
  rw [nv]
  constructor
  ·intro h
   rcases Nat.eq_zero_or_pos (jA n.au i) with h0|h0
   ·obtain ⟨m,e,h1,h2,h3⟩:=(pS (i:=i) (ns:=ns)).1 (by omega)
    exact ⟨m,e,List.mem_cons_of_mem _ h1,h2,h3⟩
   ·obtain ⟨e,h1,h2⟩:=AQ.1 h0
    exact ⟨n,e,List.mem_cons_self,h1,h2⟩
  ·rintro ⟨m,e,h1,h2,h3⟩
   rcases List.mem_cons.1 h1 with rfl|h1
   ·have:=AQ.2 ⟨e,h2,h3⟩; omega
   ·have:=(pS (i:=i) (ns:=ns)).2 ⟨m,e,h1,h2,h3⟩; omega
def Nt {l:List cJ} (h:jv l) {e:cJ} (hf:cN l e.name=none) {x:cJ}:x∈si l e↔x=e\/x∈l:=by
 rw [nH h hf]
 have:x∈l↔x∈l.take (fI l e.name)\/x∈l.drop (fI l e.name):=by rw [<-List.mem_append,List.take_append_drop]
 rw [this,List.mem_append,List.mem_cons]
 constructor
 ·rintro (h|h|h)
  ·exact .inr (.inl h)
  ·exact .inl h
  ·exact .inr (.inr h)
 ·rintro (h|h|h)
  ·exact .inr (.inl h)
  ·exact .inl h
  ·exact .inr (.inr h)
def F7 {l:List cJ} (h:jv l) {e:cJ} (hf:cN l e.name=none) (i:Int):jA (si l e) i=jA l i+(if e.ino=i then 1 else 0):=by
 rw [nH h hf,rV,xV]
 have:jA l i=jA (l.take (fI l e.name)) i+jA (l.drop (fI l e.name)) i:=by rw [<-rV,List.take_append_drop]
 omega
def GK {l:List cJ} {s:Bytes} {x:cJ}:x∈eA l s↔x∈l/\x.name≠s:=by simp [eA,List.mem_filter]
def DZ {l:List cJ} {b:Nat} {o:cJ} (ho:l[b]?=some o):l=l.take b++o::l.drop (b+1):=by
 have hlt:=(List.getElem?_eq_some_iff.1 ho).1
 rw [List.getElem?_eq_getElem hlt] at ho; injection ho with ho
 conv=>lhs; rw [<-List.take_append_drop b l]
 rw [List.drop_eq_getElem_cons hlt,ho]
def CR {l:List cJ} (h:jv l) {s:Bytes} {o:cJ} (hf:cN l s=some o) (i:Int):jA (eA l s) i+(if o.ino=i then 1 else 0)=jA l i:=by
 rcases o9 h s with ⟨_,o',h2,h3,h4⟩|⟨_,h2⟩
 ·rw [hf] at h3; injection h3 with h3; subst h3
  rw [xZ h h2 h4]
  have e1:jA l i=jA (l.take (fI l s)) i+(jA (l.drop (fI l s+1)) i+(if o.ino=i then 1 else 0)):=by
   rw [<-xV,<-rV,<-DZ h2]
  rw [rV,e1]
  omega
 ·rw [hf] at h2; cases h2
def p7 {ns:List Node} (h:hU ns) {n o:Node} (hf:find ns n.ino=some o):(ck ns n).length=ns.length:=by
 rcases lj h n.ino with ⟨_,o,h2,h3,h4⟩|⟨_,h2⟩
 ·rw [lJ h h2 h4,List.length_set]
 ·rw [hf] at h2; cases h2
def Nm (s:Bytes):Prop:=c8 s=true
structure bN (t:Tree) (dep:Int->Nat) (x:Int):Prop where
 gx:jS t
 root:∃r,find t.nodes 1=some r/\r.kind=2/\r.up=1
 num:∀i n,find t.nodes i=some n->1<=i/\i<t.next
 kind:∀i n,find t.nodes i=some n->n.kind=1\/n.kind=2
 file:∀i n,find t.nodes i=some n->n.kind=1->n.au=[]/\n.up=0/\n.data.length<=4096
 dir:∀i n,find t.nodes i=some n->n.kind=2->n.data=[]
 vZ:∀i n e,find t.nodes i=some n->e∈n.au->1<=e.ag/\e.ag<t.ag/\e.ino≠1/\Nm e.name/\∃m,find t.nodes e.ino=some m/\(m.kind=2->m.up=i)
 qm:∀i n,find t.nodes i=some n->(n.au.Pairwise fun a b=>a.ag≠b.ag)/\n.au.length<=64
 bS:∀i n,find t.nodes i=some n->n.bS=(mV t.nodes i:Int)+(if i=x then 1 else 0)
 one:∀i n,find t.nodes i=some n->n.kind=2->i≠1->n.bS=1
 AW:dep 1=0
 oX:∀i n,find t.nodes i=some n->n.kind=2->i≠1->dep i=dep n.up+1/\∃p,find t.nodes n.up=some p/\p.kind=2
 deep:∀i n,find t.nodes i=some n->n.kind=2->dep i<=12/\(dep i=12->n.au=[])
 nodes:t.nodes.length<=200
 next:t.next<=1099511627776
 ag:1<=t.ag/\t.ag<=1099511627776
def bN.ino {t:Tree} {dep:Int->Nat} {x:Int} (_:bN t dep x) {i:Int} {n:Node} (hf:find t.nodes i=some n):n.ino=i:=(bH hf).2
def bN.cH {t t':Tree} {dep:Int->Nat} {x x' d:Int} {n n':Node} (h:bN t dep x) (hs:jS t') (hd:find t.nodes d=some n)
  (hf:∀i,find t'.nodes i=if i=d then some n' else find t.nodes i) (hk:n'.kind=n.kind) (hu:n'.up=n.up)
  (hfile:n.kind=1->n'.au=[]/\n'.data.length<=4096) (hdir:n.kind=2->n'.data=[])
  (hent:∀e,e∈n'.au->1<=e.ag/\e.ag<t'.ag/\e.ino≠1/\Nm e.name/\∃m,find t.nodes e.ino=some m/\(m.kind=2->m.up=d))
  (hcook:(n'.au.Pairwise fun a b=>a.ag≠b.ag)/\n'.au.length<=64)
  (hc:∀i,1<=i->(mV t'.nodes i:Int)+(if i=x' then 1 else 0)=mV t.nodes i+(if i=x then 1 else 0)+(if i=d then n'.bS-n.bS else 0))
  (h1:n.kind=2->n'.bS=n.bS) (hdeep:dep d=12->n'.au=[]) (hn:t'.nodes.length<=200) (hnx:t'.next=t.next) (hck:t.ag<=t'.ag) (hck':t'.ag<=1099511627776):bN t' dep x':=by
 have jI:∀j m,find t.nodes j=some m->∃m',find t'.nodes j=some m'/\m'.kind=m.kind/\m'.up=m.up:=by
  intro j m hm
  rw [hf]
  split
  ·rename_i he
   subst he
   rw [hd] at hm; injection hm with hm; subst hm
   exact ⟨n',rfl,hk,hu⟩
  ·exact ⟨m,hm,rfl,rfl⟩
 have back:∀j m',find t'.nodes j=some m'->(j=d/\m'=n')\/(j≠d/\find t.nodes j=some m'):=by
  intro j m' hm
  rw [hf] at hm
  split at hm
  ·rename_i he; injection hm with hm; exact .inl ⟨he,hm.symm⟩
  ·rename_i he; exact .inr ⟨he,hm⟩
 refine ⟨hs,?_,?_,?_,?_,?_,?_,?_,?_,?_,h.AW,?_,?_,hn,by rw [hnx]; exact h.next,⟨by have:=h.ag.1; omega,hck'⟩⟩
 ·obtain ⟨r,h1,h2,h3⟩:=h.root
  obtain ⟨r',k1,k2,k3⟩:=jI _ _ h1
  exact ⟨r',k1,by omega,by omega⟩
 ·intro i m hm
  rw [hnx]
  rcases back i m hm with ⟨rfl,rfl⟩|⟨_,hm⟩
  ·exact h.num _ _ hd
  ·exact h.num _ _ hm
 ·intro i m hm
  rcases back i m hm with ⟨rfl,rfl⟩|⟨_,hm⟩
  ·rw [hk]; exact h.kind _ _ hd
  ·exact h.kind _ _ hm
 ·intro i m hm hk1
  rcases back i m hm with ⟨rfl,rfl⟩|⟨_,hm⟩
  ·rw [hk] at hk1
   exact ⟨(hfile hk1).1,by rw [hu]; exact (h.file _ _ hd hk1).2.1,(hfile hk1).2⟩
  ·exact h.file _ _ hm hk1
 ·intro i m hm hk1
  rcases back i m hm with ⟨rfl,rfl⟩|⟨_,hm⟩
  ·rw [hk] at hk1
   exact hdir hk1
  ·exact h.dir _ _ hm hk1
 ·intro i m e hm he
  have key:∀m,find t.nodes e.ino=some m/\(m.kind=2->m.up=i)->∃m,find t'.nodes e.ino=some m/\(m.kind=2->m.up=i):=by
   rintro m ⟨k1,k2⟩
   obtain ⟨m',j1,j2,j3⟩:=jI _ _ k1
   exact ⟨m',j1,fun hk=>by rw [j3]; exact k2 (by omega)⟩
  rcases back i m hm with ⟨rfl,rfl⟩|⟨_,hm⟩
  ·obtain ⟨a1,a2,a3,a4,k,a5⟩:=hent e he
   exact ⟨a1,a2,a3,a4,key k a5⟩
  ·obtain ⟨a1,a2,a3,a4,k,a5⟩:=h.vZ _ _ e hm he
   exact ⟨a1,by omega,a3,a4,key k a5⟩
 ·intro i m hm
  rcases back i m hm with ⟨rfl,rfl⟩|⟨_,hm⟩
  ·exact hcook
  ·exact h.qm _ _ hm
 ·intro i m hm
  rcases back i m hm with ⟨rfl,rfl⟩|⟨hne,hm⟩
  ·have:=hc i (h.num _ _ hd).1
   have:=h.bS _ _ hd
   simp only [↓reduceIte] at *
   omega
  ·have:=hc i (h.num _ _ hm).1
   have:=h.bS _ _ hm
   simp only [hne,↓reduceIte] at *
   omega
 ·intro i m hm hk1 hi
  rcases back i m hm with ⟨rfl,rfl⟩|⟨_,hm⟩
  ·rw [hk] at hk1
   rw [h1 hk1]; exact h.one _ _ hd hk1 hi
  ·exact h.one _ _ hm hk1 hi
 ·intro i m hm hk1 hi
  rcases back i m hm with ⟨rfl,rfl⟩|⟨_,hm⟩
  ·rw [hk] at hk1
   obtain ⟨a,p,b,c⟩:=h.oX _ _ hd hk1 hi
   obtain ⟨p',k1,k2,_⟩:=jI _ _ b
   rw [hu]; exact ⟨a,p',k1,by omega⟩
  ·obtain ⟨a,p,b,c⟩:=h.oX _ _ hm hk1 hi
   obtain ⟨p',k1,k2,_⟩:=jI _ _ b
   exact ⟨a,p',k1,by omega⟩
 ·intro i m hm hk1
  rcases back i m hm with ⟨rfl,rfl⟩|⟨_,hm⟩
  ·rw [hk] at hk1
   exact ⟨(h.deep _ _ hd hk1).1,hdeep⟩
  ·exact h.deep _ _ hm hk1
def bN.left {t:Tree} {dep:Int->Nat} {d:Int} {n:Node} {s:Bytes} {e:cJ} (h:bN t dep 0) (hd:find t.nodes d=some n) (he:cN n.au s=some e):bN ⟨bQ t.nodes d s,t.next,t.ag⟩ dep e.ino:=by
 have hE:jv n.au:=h.gx.au n (bH hd).1
 have hi:n.ino=d:=h.ino hd
 have hem:=dR he
 have hw:bQ t.nodes d s=ck t.nodes { n with au:=eA n.au s }:=by simp [bQ,hd]
 have hc:∀i,mV (bQ t.nodes d s) i+(if e.ino=i then 1 else 0)=mV t.nodes i:=by
  intro i
  have h1:=nw h.gx.fh { n with au:=eA n.au s } i
  have h2:=CR hE he i
  rw [hw]
  have h3:aJ t.nodes n.ino=n:=by simp only [aJ,hi,hd,Option.getD_some]
  simp only [h3] at h1
  omega
 refine h.cH (h.gx.left d s t.next t.ag) hd (eP h.gx.fh hd) rfl rfl ?_ ?_ ?_ ?_ ?_ (fun _=>rfl) ?_ ?_ rfl (Int.le_refl _) h.ag.2
 ·intro hk
  obtain ⟨h1,_,h3⟩:=h.file _ _ hd hk
  exact ⟨by simp [h1,eA],h3⟩
 ·exact h.dir _ _ hd
 ·intro x hx
  exact h.vZ _ _ x hd (GK.1 hx).1
 ·exact ⟨List.Pairwise.filter _ (h.qm _ _ hd).1,Nat.le_trans (List.length_filter_le _ _) (h.qm _ _ hd).2⟩
 ·intro i h0
  have h1:=hc i
  rw [if_neg (show i≠0 by omega)]
  have e1:(if i=d then (n.bS-n.bS:Int) else 0)=0:=by split<;>omega
  simp only [e1]
  by_cases h0:i=e.ino
  ·subst h0
   simp only [↓reduceIte] at h1 ⊢
   omega
  ·rw [if_neg (fun hh=>h0 hh.symm)] at h1
   rw [if_neg h0]
   omega
 ·intro h12
  have:=(h.deep _ _ hd ?_).2 h12
  ·simp [this,eA]
  ·rcases h.kind _ _ hd with hk|hk
   ·have:=(h.file _ _ hd hk).1
    rw [this] at hem; cases hem.1
   ·exact hk
 ·show (bQ t.nodes d s).length<=200
  rw [hw,p7 h.gx.fh (o:=n) (by simp only [hi]; exact hd)]
  exact h.nodes
def bN.jE {t:Tree} {dep:Int->Nat} {x d:Int} {n m:Node} {s:Bytes} (h:bN t dep x) (hd:find t.nodes d=some n) (hk:n.kind=2) (he:cN n.au s=none) (h64:n.au.length<64) (hnm:Nm s)
  (hx:find t.nodes x=some m) (hx1:x≠1) (hup:m.kind=2->m.up=d) (hdp:dep d<12) (hck:t.ag<1099511627776):bN (dI t d s x) dep 0:=by
 have hE:jv n.au:=h.gx.au n (bH hd).1
 have hi:n.ino=d:=h.ino hd
 have hcw:gG (t.ag+1)=t.ag+1:=bw (by have:=h.ag; omega) (by omega)
 have hw:dI t d s x=⟨ck t.nodes { n with au:=si n.au ⟨s,x,t.ag⟩ },t.next,t.ag+1⟩:=by simp only [dI,hd,Option.getD_some,hcw]
 have hfn:cN n.au (cJ.mk s x t.ag).name=none:=he
 have hc:∀i,mV (dI t d s x).nodes i=mV t.nodes i+(if x=i then 1 else 0):=by
  intro i
  have h1:=nw h.gx.fh { n with au:=si n.au ⟨s,x,t.ag⟩ } i
  have h2:=F7 hE hfn i
  rw [hw]
  have h3:aJ t.nodes n.ino=n:=by simp only [aJ,hi,hd,Option.getD_some]
  simp only [h3] at h1 h2 ⊢
  omega
 have hff:∀i,find (dI t d s x).nodes i=if i=d then some { n with au:=si n.au ⟨s,x,t.ag⟩ } else find t.nodes i:=by
  intro i
  rw [hw]
  have:=dQ h.gx.fh { n with au:=si n.au ⟨s,x,t.ag⟩ } i
  rw [this]
  simp only [hi]
 refine h.cH (h.gx.jE d s x (by simp [aJ,hd,he])) hd hff rfl rfl ?_ ?_ ?_ ?_ ?_ (fun _=>rfl) ?_ ?_ ?_ ?_ ?_
 ·intro hk1; omega
 ·exact h.dir _ _ hd
 ·intro e hem
  rw [hw]
  rcases (Nt hE hfn).1 hem with rfl|hem
  ·exact ⟨h.ag.1,by simp only; omega,hx1,hnm,m,hx,hup⟩
  ·obtain ⟨a1,a2,a3,a4,a5⟩:=h.vZ _ _ e hd hem
   exact ⟨a1,by simp only; omega,a3,a4,a5⟩
 ·refine ⟨?_,by simp only [nH hE hfn,List.length_append,List.length_cons,List.length_take,List.length_drop]; omega⟩
  rw [nH hE hfn]
  have hp:=(h.qm _ _ hd).1
  rw [<-List.take_append_drop (fI n.au s) n.au,List.pairwise_append] at hp
  obtain ⟨p1,p2,p3⟩:=hp
  rw [List.pairwise_append]
  refine ⟨p1,List.pairwise_cons.2 ⟨fun a ha=>?_,p2⟩,fun a ha c hc=>?_⟩
  ·have:=(h.vZ _ _ a hd (List.mem_of_mem_drop ha)).2.1
   simp only; omega
  ·rcases List.mem_cons.1 hc with rfl|hc
   ·have:=(h.vZ _ _ a hd (List.mem_of_mem_take ha)).2.1
    simp only; omega
   ·exact p3 a ha c hc
 ·intro i h0
  have h1:=hc i
  rw [if_neg (show i≠0 by omega)]
  have e1:(if i=d then (n.bS-n.bS:Int) else 0)=0:=by split<;>omega
  simp only [e1]
  by_cases h0:i=x
  ·subst h0
   simp only [↓reduceIte] at h1 ⊢
   omega
  ·rw [if_neg (fun hh=>h0 hh.symm)] at h1
   rw [if_neg h0]
   omega
 ·intro h12; omega
 ·rw [hw]
  simp only
  rw [p7 h.gx.fh (o:=n) (by simp only [hi]; exact hd)]
  exact h.nodes
 ·rw [hw]
 ·rw [hw]; simp only; omega
 ·rw [hw]; simp only; omega
def bN.JP {t:Tree} {dep:Int->Nat} {x x' d:Int} {n n':Node} (h:bN t dep x) (hd:find t.nodes d=some n) (hk:n.kind=1) (hi':n'.ino=d) (hk':n'.kind=1) (hu:n'.up=n.up) (he:n'.au=n.au) (hda:n'.data.length<=4096)
  (hx:∀i:Int,1<=i->(if i=x' then 1 else 0:Int)=(if i=x then 1 else 0)+(if i=d then n'.bS-n.bS else 0)):bN ⟨ck t.nodes n',t.next,t.ag⟩ dep x':=by
 have hi:n.ino=d:=h.ino hd
 have hE:jv n'.au:=by rw [he]; exact h.gx.au n (bH hd).1
 have hff:∀i,find (ck t.nodes n') i=if i=d then some n' else find t.nodes i:=by
  intro i
  rw [dQ h.gx.fh n' i,hi']
 obtain ⟨f1,f2,f3⟩:=h.file _ _ hd hk
 refine h.cH (h.gx.with hE t.next t.ag) hd hff (by omega) hu ?_ ?_ ?_ ?_ ?_ ?_ ?_ ?_ rfl (Int.le_refl _) h.ag.2
 ·intro _; exact ⟨by rw [he]; exact f1,hda⟩
 ·intro h2; omega
 ·intro e hem; rw [he,f1] at hem; cases hem
 ·rw [he,f1]; exact ⟨List.Pairwise.nil,by simp⟩
 ·intro i h0
  have h1:=nw h.gx.fh n' i
  have h2:=hx i h0
  simp only [aJ,hi',hd,Option.getD_some,he] at h1
  simp only
  omega
 ·intro h2; omega
 ·intro _; rw [he,f1]
 ·simp only
  rw [p7 h.gx.fh (o:=n) (by simp only [hi']; exact hd)]
  exact h.nodes
def bN.named {t:Tree} {dep:Int->Nat} {x:Int} (h:bN t dep x) {i:Int} {n:Node} (hi:find t.nodes i=some n) (hk:n.kind=2) (h1:i≠1) (hx:i≠x):∃p e,find t.nodes n.up=some p/\p.kind=2/\e∈p.au/\e.ino=i:=by
 have a:=h.bS _ _ hi
 have b:=h.one _ _ hi hk h1
 rw [if_neg hx] at a
 obtain ⟨m,e,e1,e2,e3⟩:=pS.1 (show 0<mV t.nodes i by omega)
 have hm:find t.nodes m.ino=some m:=(ga h.gx.fh).2 ⟨e1,rfl⟩
 obtain ⟨_,_,_,_,k,k1,k2⟩:=h.vZ _ _ e hm e2
 rw [e3,hi] at k1; injection k1 with k1; subst k1
 obtain ⟨_,p,p1,p2⟩:=h.oX _ _ hi hk h1
 rw [k2 hk] at p1 ⊢
 rw [hm] at p1; injection p1 with p1; subst p1
 exact ⟨m,e,hm,p2,e2,e3⟩
def bN.drop {t:Tree} {dep:Int->Nat} {x k:Int} {n:Node} (h:bN t dep x) (hx:x=k\/x=0) (hk:find t.nodes k=some n) (he:n.au=[]) (h1:k≠1) (hc:mV t.nodes k=0):bN ⟨fz t.nodes k,t.next,t.ag⟩ dep 0:=by
 have hff:∀i m,find (fz t.nodes k) i=some m↔i≠k/\find t.nodes i=some m:=by
  intro i m
  rw [mX h.gx.fh]
  split<;>simp_all
 have hcn:∀i,mV (fz t.nodes k) i=mV t.nodes i:=by
  intro i
  have:=zm h.gx.fh k i
  simp only [aJ,hk,Option.getD_some,he,rX] at this
  omega
 have hno:∀i m e,find t.nodes i=some m->e∈m.au->e.ino≠k:=by
  intro i m e hm hem hh
  have:=pS.2 ⟨m,e,(bH hm).1,hem,hh⟩
  omega
 refine ⟨h.gx.sU k t.next t.ag,?_,?_,?_,?_,?_,?_,?_,?_,?_,h.AW,?_,?_,?_,h.next,h.ag⟩
 ·obtain ⟨r,r1,r2⟩:=h.root
  exact ⟨r,(hff _ _).2 ⟨fun hh=>h1 hh.symm,r1⟩,r2⟩
 ·intro i m hm; exact h.num _ _ ((hff _ _).1 hm).2
 ·intro i m hm; exact h.kind _ _ ((hff _ _).1 hm).2
 ·intro i m hm; exact h.file _ _ ((hff _ _).1 hm).2
 ·intro i m hm; exact h.dir _ _ ((hff _ _).1 hm).2
 ·intro i m e hm hem
  have hm':=((hff _ _).1 hm).2
  obtain ⟨a1,a2,a3,a4,q,a5,a6⟩:=h.vZ _ _ e hm' hem
  exact ⟨a1,a2,a3,a4,q,(hff _ _).2 ⟨hno _ _ e hm' hem,a5⟩,a6⟩
 ·intro i m hm; exact h.qm _ _ ((hff _ _).1 hm).2
 ·intro i m hm
  obtain ⟨m1,m2⟩:=(hff _ _).1 hm
  have:=h.bS _ _ m2
  have h0:=(h.num _ _ m2).1
  rw [if_neg (show i≠0 by omega)]
  rw [if_neg (by rcases hx with rfl|rfl<;>omega)] at this
  simp only [hcn]
  exact this
 ·intro i m hm; exact h.one _ _ ((hff _ _).1 hm).2
 ·intro i m hm hk2 hi1
  obtain ⟨m1,m2⟩:=(hff _ _).1 hm
  obtain ⟨a,p,b,c⟩:=h.oX _ _ m2 hk2 hi1
  refine ⟨a,p,(hff _ _).2 ⟨fun hh=>?_,b⟩,c⟩
  have h0:=(h.num _ _ m2).1
  obtain ⟨q,e,q1,_,q3,_⟩:=h.named m2 hk2 hi1 (by rcases hx with rfl|rfl<;>omega)
  rw [hh,hk] at q1; injection q1 with q1; subst q1
  rw [he] at q3; cases q3
 ·intro i m hm; exact h.deep _ _ ((hff _ _).1 hm).2
 ·exact Nat.le_trans (List.length_filter_le _ _) h.nodes
def bN.adZ {t:Tree} {dep dep':Int->Nat} {x to:Int} {n p:Node} (h:bN t dep x) (hx:find t.nodes x=some n) (hk:n.kind=2) (hx1:x≠1) (hp:find t.nodes to=some p) (hpk:p.kind=2)
  (h1:dep' 1=0) (hds:∀i m,find t.nodes i=some m->m.kind=2->i≠1->i≠x->dep' i=dep' m.up+1) (hdx:dep' x=dep' to+1)
  (hdeep:∀i m,find t.nodes i=some m->m.kind=2->dep' i<=12/\(dep' i=12->m.au=[])):bN ⟨ck t.nodes { n with up:=to },t.next,t.ag⟩ dep' x:=by
 have hi:n.ino=x:=h.ino hx
 have hff:∀i,find (ck t.nodes { n with up:=to }) i=if i=x then some { n with up:=to } else find t.nodes i:=by
  intro i
  rw [dQ h.gx.fh { n with up:=to } i]
  simp only [hi]
 have jI:∀j m,find t.nodes j=some m->∃m',find (ck t.nodes { n with up:=to }) j=some m'/\m'.kind=m.kind/\(j≠x->m'.up=m.up):=by
  intro j m hm
  rw [hff]
  split
  ·rename_i he
   subst he
   rw [hx] at hm; injection hm with hm; subst hm
   exact ⟨_,rfl,rfl,fun hh=>absurd rfl hh⟩
  ·exact ⟨m,hm,rfl,fun _=>rfl⟩
 have back:∀j m',find (ck t.nodes { n with up:=to }) j=some m'->(j=x/\m'={ n with up:=to })\/(j≠x/\find t.nodes j=some m'):=by
  intro j m' hm
  rw [hff] at hm
  split at hm
  ·rename_i he; injection hm with hm; exact .inl ⟨he,hm.symm⟩
  ·rename_i he; exact .inr ⟨he,hm⟩
 have hcn:∀i,mV (ck t.nodes { n with up:=to }) i=mV t.nodes i:=by
  intro i
  have:=nw h.gx.fh { n with up:=to } i
  have h3:aJ t.nodes n.ino=n:=by simp only [aJ,hi,hx,Option.getD_some]
  simp only [h3] at this
  omega
 have hc0:mV t.nodes x=0:=by
  have a:=h.bS _ n hx
  have b:=h.one _ n hx hk hx1
  simp only [↓reduceIte] at a
  omega
 have hno:∀i m e,find t.nodes i=some m->e∈m.au->e.ino≠x:=by
  intro i m e hm hem hh
  have:=pS.2 ⟨m,e,(bH hm).1,hem,hh⟩
  omega
 have hent:∀i m e,find t.nodes i=some m->e∈m.au->1<=e.ag/\e.ag<t.ag/\e.ino≠1/\Nm e.name/\∃m,find (ck t.nodes { n with up:=to }) e.ino=some m/\(m.kind=2->m.up=i):=by
  intro i m e hm hem
  obtain ⟨a1,a2,a3,a4,q,a5,a6⟩:=h.vZ _ _ e hm hem
  obtain ⟨q',j1,j2,j3⟩:=jI _ _ a5
  exact ⟨a1,a2,a3,a4,q',j1,fun hk=>by rw [j3 (hno _ _ e hm hem)]; exact a6 (by omega)⟩
 refine ⟨h.gx.with (n:={ n with up:=to }) (h.gx.au n (bH hx).1) t.next t.ag,?_,?_,?_,?_,?_,?_,?_,?_,?_,h1,?_,?_,?_,h.next,h.ag⟩
 ·obtain ⟨r,r1,r2,r3⟩:=h.root
  obtain ⟨r',k1,k2,k3⟩:=jI _ _ r1
  exact ⟨r',k1,by omega,by rw [k3 (fun hh=>hx1 hh.symm)]; exact r3⟩
 ·intro i m hm
  rcases back i m hm with ⟨rfl,rfl⟩|⟨_,hm⟩
  ·exact h.num _ n hx
  ·exact h.num _ _ hm
 ·intro i m hm
  rcases back i m hm with ⟨rfl,rfl⟩|⟨_,hm⟩
  ·exact h.kind _ n hx
  ·exact h.kind _ _ hm
 ·intro i m hm hk1
  rcases back i m hm with ⟨rfl,rfl⟩|⟨_,hm⟩
  ·simp only at hk1; omega
  ·exact h.file _ _ hm hk1
 ·intro i m hm hk1
  rcases back i m hm with ⟨rfl,rfl⟩|⟨_,hm⟩
  ·exact h.dir _ n hx hk
  ·exact h.dir _ _ hm hk1
 ·intro i m e hm hem
  rcases back i m hm with ⟨rfl,rfl⟩|⟨_,hm⟩
  ·exact hent _ n e hx hem
  ·exact hent _ _ e hm hem
 ·intro i m hm
  rcases back i m hm with ⟨rfl,rfl⟩|⟨_,hm⟩
  ·exact h.qm _ n hx
  ·exact h.qm _ _ hm
 ·intro i m hm
  simp only [hcn]
  rcases back i m hm with ⟨rfl,rfl⟩|⟨_,hm⟩
  ·exact h.bS _ n hx
  ·exact h.bS _ _ hm
 ·intro i m hm hk1 hi1
  rcases back i m hm with ⟨rfl,rfl⟩|⟨_,hm⟩
  ·exact h.one _ n hx hk hi1
  ·exact h.one _ _ hm hk1 hi1
 ·intro i m hm hk1 hi1
  rcases back i m hm with ⟨rfl,rfl⟩|⟨hne,hm⟩
  ·obtain ⟨p',k1,k2,_⟩:=jI _ _ hp
   exact ⟨hdx,p',k1,by omega⟩
  ·obtain ⟨_,q,b,c⟩:=h.oX _ _ hm hk1 hi1
   obtain ⟨q',k1,k2,_⟩:=jI _ _ b
   exact ⟨hds _ _ hm hk1 hi1 hne,q',k1,by omega⟩
 ·intro i m hm hk1
  rcases back i m hm with ⟨rfl,rfl⟩|⟨_,hm⟩
  ·exact hdeep _ n hx hk
  ·exact hdeep _ _ hm hk1
 ·simp only
  rw [p7 h.gx.fh (o:=n) (by simp only [hi]; exact hx)]
  exact h.nodes
def bN.made {t:Tree} {dep:Int->Nat} {d kind:Int} {p:Node} (h:bN t dep 0) (hp:find t.nodes d=some p) (hpk:p.kind=2) (hk:kind=1\/kind=2) (hdp:dep d<12) (hl:t.nodes.length<200) (hn:t.next<1099511627776) :
  bN ⟨ck t.nodes ⟨t.next,kind,1,[],[],if (kind==2)=true then d else 0⟩,t.next+1,t.ag⟩ (fun i=>if i=t.next then dep d+1 else dep i) t.next:=by
 have ec:find t.nodes t.next=none:=by
  cases hz:find t.nodes t.next with
  |none=>rfl
  |some m=>have:=h.num _ _ hz; omega
 have hnx:2<=t.next:=by
  obtain ⟨r,r1,_⟩:=h.root
  have:=(h.num _ _ r1).2; omega
 generalize hn':Node.mk t.next kind 1 [] [] (if (kind==2)=true then d else 0)=n'
 have i1:n'.ino=t.next:=by rw [<-hn']
 have i2:n'.kind=kind:=by rw [<-hn']
 have i3:n'.bS=1:=by rw [<-hn']
 have i4:n'.data=[]:=by rw [<-hn']
 have i5:n'.au=[]:=by rw [<-hn']
 have i6:n'.up=if (kind==2)=true then d else 0:=by rw [<-hn']
 have hff:∀i,find (ck t.nodes n') i=if i=t.next then some n' else find t.nodes i:=by
  intro i
  rw [dQ h.gx.fh n' i,i1]
 have jI:∀j m,find t.nodes j=some m->find (ck t.nodes n') j=some m/\j≠t.next:=by
  intro j m hm
  have:=(h.num _ _ hm).2
  rw [hff,if_neg (by omega)]
  exact ⟨hm,by omega⟩
 have back:∀j m',find (ck t.nodes n') j=some m'->(j=t.next/\m'=n')\/(j≠t.next/\find t.nodes j=some m'):=by
  intro j m' hm
  rw [hff] at hm
  split at hm
  ·rename_i he; injection hm with hm; exact .inl ⟨he,hm.symm⟩
  ·rename_i he; exact .inr ⟨he,hm⟩
 have hcn:∀i,mV (ck t.nodes n') i=mV t.nodes i:=by
  intro i
  have:=nw h.gx.fh n' i
  simp only [aJ,i1,ec,Option.getD_none,Node.zero,i5,rX] at this
  omega
 have hc0:mV t.nodes t.next=0:=by
  rcases Nat.eq_zero_or_pos (mV t.nodes t.next) with h0|h0
  ·exact h0
  ·obtain ⟨m,e,e1,e2,e3⟩:=pS.1 h0
   obtain ⟨_,_,_,_,k,k1,_⟩:=h.vZ _ _ e ((ga h.gx.fh).2 ⟨e1,rfl⟩) e2
   rw [e3,ec] at k1; cases k1
 refine ⟨h.gx.with (n:=n') (by rw [i5]; exact List.Pairwise.nil) _ _,?_,?_,?_,?_,?_,?_,?_,?_,?_,?_,?_,?_,?_,?_,h.ag⟩
 ·obtain ⟨r,r1,r2⟩:=h.root
  exact ⟨r,(jI _ _ r1).1,r2⟩
 ·intro i m hm
  simp only
  rcases back i m hm with ⟨rfl,rfl⟩|⟨_,hm⟩
  ·omega
  ·have:=h.num _ _ hm; omega
 ·intro i m hm
  rcases back i m hm with ⟨rfl,rfl⟩|⟨_,hm⟩
  ·rw [i2]; exact hk
  ·exact h.kind _ _ hm
 ·intro i m hm hk1
  rcases back i m hm with ⟨rfl,rfl⟩|⟨_,hm⟩
  ·rw [i2] at hk1
   exact ⟨i5,by rw [i6,hk1]; rfl,by rw [i4]; simp⟩
  ·exact h.file _ _ hm hk1
 ·intro i m hm hk1
  rcases back i m hm with ⟨rfl,rfl⟩|⟨_,hm⟩
  ·exact i4
  ·exact h.dir _ _ hm hk1
 ·intro i m e hm hem
  rcases back i m hm with ⟨rfl,rfl⟩|⟨_,hm⟩
  ·rw [i5] at hem; cases hem
  ·obtain ⟨a1,a2,a3,a4,q,a5,a6⟩:=h.vZ _ _ e hm hem
   exact ⟨a1,a2,a3,a4,q,(jI _ _ a5).1,a6⟩
 ·intro i m hm
  rcases back i m hm with ⟨rfl,rfl⟩|⟨_,hm⟩
  ·rw [i5]; exact ⟨List.Pairwise.nil,by simp⟩
  ·exact h.qm _ _ hm
 ·intro i m hm
  simp only [hcn]
  rcases back i m hm with ⟨rfl,rfl⟩|⟨hne,hm⟩
  ·rw [hc0,i3]; simp
  ·rw [if_neg hne]
   have:=h.bS _ _ hm
   rw [if_neg (by have:=(h.num _ _ hm).1; omega)] at this
   exact this
 ·intro i m hm hk1 hi1
  rcases back i m hm with ⟨rfl,rfl⟩|⟨_,hm⟩
  ·exact i3
  ·exact h.one _ _ hm hk1 hi1
 ·show (if (1:Int)=t.next then dep d+1 else dep 1)=0
  rw [if_neg (by omega)]; exact h.AW
 ·intro i m hm hk1 hi1
  show (if i=t.next then dep d+1 else dep i)=(if m.up=t.next then dep d+1 else dep m.up)+1/\_
  rcases back i m hm with ⟨rfl,rfl⟩|⟨hne,hm⟩
  ·rw [i2] at hk1
   have hu:m.up=d:=by rw [i6,hk1]; rfl
   rw [hu,if_pos rfl,if_neg (jI _ _ hp).2]
   exact ⟨rfl,p,(jI _ _ hp).1,hpk⟩
  ·obtain ⟨a,q,b,c⟩:=h.oX _ _ hm hk1 hi1
   rw [if_neg hne,if_neg (jI _ _ b).2]
   exact ⟨a,q,(jI _ _ b).1,c⟩
 ·intro i m hm hk1
  show (if i=t.next then dep d+1 else dep i)<=12/\((if i=t.next then dep d+1 else dep i)=12->_)
  rcases back i m hm with ⟨rfl,rfl⟩|⟨hne,hm⟩
  ·rw [if_pos rfl]; exact ⟨by omega,fun _=>i5⟩
  ·rw [if_neg hne]; exact h.deep _ _ hm hk1
 ·have:=y8 t.nodes n'
  simp only; omega
 ·simp only; omega
def cover:∀(k:Nat) (l:List Nat),(∀j,j<k->j∈l)->k<=l.length
 |0,_,_=>Nat.zero_le _
 |k+1,l,h=>by
  have hk:=h k (by omega)
  have:=cover k (l.erase k) (fun j hj=>(List.mem_erase_of_ne (by omega)).2 (h j (by omega)))
  rw [List.length_erase_of_mem hk] at this
  have:=List.length_pos_of_mem hk
  omega
def bN.ad9 {t:Tree} {dep:Int->Nat} {x:Int} (h:bN t dep x):∀(m:Nat) (i:Int) (n:Node),find t.nodes i=some n->n.kind=2->dep i=m->∀k,k<=m->∃j p,find t.nodes j=some p/\dep j=k:=by
 intro m
 induction m with
 |zero=>intro i n hi _ hm k hk; exact ⟨i,n,hi,by omega⟩
 |succ m ih =>
  intro i n hi hk2 hm k hk
  rcases Nat.eq_or_lt_of_le hk with rfl|hlt
  ·exact ⟨i,n,hi,hm⟩
  ·have h1:i≠1:=fun hh=>by subst hh; have:=h.AW; omega
   obtain ⟨a,p,b,c⟩:=h.oX _ _ hi hk2 h1
   exact ih _ p b c (by omega) k (by omega)
def bN.zo {t:Tree} {dep:Int->Nat} {x:Int} (h:bN t dep x) {i:Int} {n:Node} (hi:find t.nodes i=some n) (hk:n.kind=2):dep i<t.nodes.length:=by
 have:=cover (dep i+1) (t.nodes.map fun n=>dep n.ino) (fun j hj=>by
  obtain ⟨a,p,h1,h2⟩:=h.ad9 _ _ _ hi hk rfl j (by omega)
  rw [List.mem_map]
  exact ⟨p,(bH h1).1,by rw [(bH h1).2,h2]⟩)
 rw [List.length_map] at this
 omega
def bN.CX {t:Tree} {dep:Int->Nat} {x:Int} (h:bN t dep x):∀(m:Nat) (i:Int) (d:Nat) (n:Node),find t.nodes i=some n->n.kind=2->dep i<=m->rY t.nodes m i d=d+dep i:=by
 intro m
 induction m with
 |zero=>intro i d n _ _ hd; simp only [rY]; omega
 |succ m ih =>
  intro i d n hi hk hd
  simp only [rY]
  split
  ·rename_i h1; subst h1; have:=h.AW; omega
  ·rename_i h1
   obtain ⟨a,p,b,c⟩:=h.oX _ _ hi hk h1
   have hu:Hv t.nodes i=n.up:=by simp [Hv,hi]
   rw [hu,ih _ _ p b c (by omega)]
   omega
def bN.iB {t:Tree} {dep:Int->Nat} {x:Int} (h:bN t dep x) {i:Int} {n:Node} (hi:find t.nodes i=some n) (hk:n.kind=2):je t.nodes i=dep i:=by
 have:=h.CX 201 i 0 n hi hk (by have:=(h.deep _ _ hi hk).1; omega)
 simp only [je,this]; omega
def bN.qe {t:Tree} {dep:Int->Nat} {x:Int} (h:bN t dep x):∀(m:Nat) (i:Int) (out:List Int) (n:Node),find t.nodes i=some n->n.kind=2->dep i<=m->(mi t.nodes m i out).length=out.length+dep i:=by
 intro m
 induction m with
 |zero=>intro i out n _ _ hd; simp only [mi]; omega
 |succ m ih =>
  intro i out n hi hk hd
  simp only [mi]
  by_cases h1:i=1
  ·subst h1; have:=h.AW; simp; omega
  ·obtain ⟨a,p,b,c⟩:=h.oX _ _ hi hk h1
   simp only [bne_iff_ne,ne_eq,h1,not_false_eq_true,↓reduceIte,aJ,hi,Option.isSome_some,Bool.not_true,Option.getD_some,hk,bne_self_eq_false,Bool.or_self,Bool.false_eq_true]
   rw [ih _ _ p b c (by omega)]
   simp only [List.length_append,List.length_cons,List.length_nil]
   omega
def bN.mj {t:Tree} {dep:Int->Nat} {x:Int} (h:bN t dep x) {i:Int} {n:Node} (hi:find t.nodes i=some n) (hk:n.kind=2):(ly t.nodes i).length=dep i+1:=by
 have:=h.qe t.nodes.length i [i] n hi hk (by have:=h.zo hi hk; omega)
 simp only [ly,this,List.length_cons,List.length_nil]; omega
def bN.OT {t:Tree} {dep:Int->Nat} {x:Int} (_:bN t dep x) {i:Int} {n:Node} (hi:find t.nodes i=some n):Hv t.nodes i=n.up:=by simp [Hv,hi]
def bN.vP {t:Tree} {dep:Int->Nat} {x:Int} (h:bN t dep x) (of:Int):∀(m:Nat) (i:Int) (n:Node),find t.nodes i=some n->n.kind=2->dep i<m->gM t.nodes of m i=gM t.nodes of (dep i+1) i:=by
 intro m
 induction m with
 |zero=>intro i n _ _ hd; omega
 |succ m ih =>
  intro i n hi hk hd
  by_cases h1:i=1
  ·subst h1; simp only [gM]; split<;>rfl
  ·obtain ⟨a,p,b,c⟩:=h.oX _ _ hi hk h1
   simp only [gM,h1,↓reduceIte,h.OT hi]
   rw [ih _ p b c (by omega),a]
def bN.qX {t:Tree} (i:Int):fi t.nodes i i=true:=by simp [fi,gM]
def bN.vQ {t:Tree} {of:Int} (h1:of≠1):fi t.nodes 1 of=false:=by
 simp only [fi,gM]
 rw [if_neg (fun hh=>h1 hh.symm)]
 rfl
def bN.Ay {t:Tree} {dep:Int->Nat} {x:Int} (h:bN t dep x) {of i:Int} {n:Node} (hi:find t.nodes i=some n) (hk:n.kind=2) (h1:i≠1) (ho:i≠of):fi t.nodes i of=fi t.nodes n.up of:=by
 obtain ⟨a,p,b,c⟩:=h.oX _ _ hi hk h1
 have d1:=h.zo b c
 have d2:=h.zo hi hk
 simp only [fi]
 rw [h.vP of _ _ p b c (by omega)]
 rw [h.vP of _ _ n hi hk (by omega)]
 conv=>lhs; rw [gM]
 simp only [ho,h1,↓reduceIte,h.OT hi]
 rw [a]
def bN.td {t:Tree} {dep:Int->Nat} {x:Int} (h:bN t dep x) {of:Int}:∀(m:Nat) (i:Int) (n:Node),find t.nodes i=some n->n.kind=2->dep i=m->fi t.nodes i of=true->dep of<=dep i:=by
 intro m
 induction m with
 |zero =>
  intro i n hi hk hm hb
  by_cases h1:i=1
  ·by_cases h2:of=1
   ·subst h1; subst h2; exact Nat.le_refl _
   ·subst h1; rw [bN.vQ h2] at hb; cases hb
  ·obtain ⟨a,_⟩:=h.oX _ _ hi hk h1
   omega
 |succ m ih =>
  intro i n hi hk hm hb
  have h1:i≠1:=fun hh=>by subst hh; have:=h.AW; omega
  obtain ⟨a,p,b,c⟩:=h.oX _ _ hi hk h1
  by_cases ho:i=of
  ·subst ho; exact Nat.le_refl _
  ·rw [h.Ay hi hk h1 ho] at hb
   have:=ih _ p b c (by omega) hb
   omega
def bN.few {t:Tree} {dep:Int->Nat} {x:Int} (h:bN t dep x) {i:Int} {n:Node} (hi:find t.nodes i=some n):n.au.length<=64:=(h.qm _ _ hi).2
def JD (i:Int):∀(ns:List Node),(∀n,n∈ns->n.au.length<=64)->mV ns i<=64*ns.length
 | [],_=>Nat.zero_le _
 |n::ns,h=>by
  have h1:=JD i ns (fun m hm=>h m (List.mem_cons_of_mem _ hm))
  have h2:jA n.au i<=n.au.length:=List.countP_le_length
  have h3:=h n List.mem_cons_self
  rw [nv,List.length_cons]
  omega
def bN.JE {t:Tree} {dep:Int->Nat} {x:Int} (h:bN t dep x) (i:Int):mV t.nodes i<=12800:=by
 have:=JD i t.nodes (fun n hn=>h.few ((ga h.gx.fh).2 ⟨hn,rfl⟩))
 have:=h.nodes
 omega
def bN.ph {t:Tree} {dep:Int->Nat} {x:Int} (h:bN t dep x) {i:Int} {n:Node} (hi:find t.nodes i=some n) {e:cJ} (he:e∈n.au):e.ino≠i:=by
 intro hh
 obtain ⟨_,_,h1,_,m,hm,hu⟩:=h.vZ _ _ e hi he
 rw [hh,hi] at hm; injection hm with hm; subst hm
 have hk:n.kind=2:=by
  rcases h.kind _ _ hi with hk|hk
  ·rw [(h.file _ _ hi hk).1] at he; cases he
  ·exact hk
 have:=(h.oX _ _ hi hk (by omega)).1
 rw [hu hk] at this
 omega
def AZ {t:Tree} {ino:Int} {s:Bytes} (h:(ir t ino s != 0)=false):∃d,find t.nodes ino=some d/\d.kind=2/\c8 s=true/\cN d.au s=none/\d.au.length<64/\je t.nodes ino<12/\t.ag<1099511627776:=by
 have h0:ir t ino s=0:=by simpa using h
 unfold ir at h0
 split at h0
 ·rename_i h1; exact absurd h0 h1
 ·rename_i h1
  obtain ⟨d,d1,d2,d3⟩:=rb (show (dj t.nodes ino).2=0 by omega)
  rw [d3] at h0
  split at h0
  ·cases h0
  ·rename_i h2
   split at h0
   ·cases h0
   ·rename_i h3
    split at h0
    ·cases h0
    ·rename_i h4
     simp only [ED,(bH d1).2,Bool.or_eq_true,decide_eq_true_eq,not_or] at h4
     refine ⟨d,d1,d2,by simpa using h2,by simpa using h3,by omega,by omega,by omega⟩
def bN.cw {t:Tree} {dep:Int->Nat} {x:Int} (h:bN t dep x) (hn:t.next<1099511627776):gG (t.next+1)=t.next+1:=bw (by
 obtain ⟨r,r1,_⟩:=h.root
 have:=h.num _ _ r1; omega) (by omega)
def HS {t:Tree} {dep:Int->Nat} (h:bN t dep 0) (ino:Int) (s:Bytes) (kind:Int) (hs:c8 s=true->Nm s):∃dep',bN (o8 t ino s kind).1 dep' 0:=by
 unfold o8
 split
 ·exact ⟨dep,h⟩
 ·rename_i hk
  split
  ·exact ⟨dep,h⟩
  ·rename_i he
   split
   ·exact ⟨dep,h⟩
   ·rename_i hb
    obtain ⟨d,d1,d2,d3,d4,d5,d6,d7⟩:=AZ (by simpa using he)
    simp only [Bool.or_eq_true,decide_eq_true_eq,not_or] at hb
    have hn:t.next<1099511627776:=by omega
    rw [h.iB d1 d2] at d6
    have hk':kind=1\/kind=2:=by
     simp only [Bool.and_eq_true,bne_iff_ne,ne_eq,not_and,Decidable.not_not] at hk
     by_cases h1:kind=1
     ·exact .inl h1
     ·exact .inr (hk h1)
    have hm:=h.made d1 d2 hk' d6 (by omega) hn
    rw [h.cw hn]
    have hlt:=(h.num _ _ d1).2
    have hne:ino≠t.next:=by omega
    refine ⟨_,hm.jE (d:=ino) (n:=d) (m:=⟨t.next,kind,1,[],[],if (kind==2)=true then ino else 0⟩) ?_ d2 d4 (by simpa using d5) (hs d3) ?_ ?_ ?_ ?_ d7⟩
    ·simp only; rw [dQ h.gx.fh]; simp only [hne,↓reduceIte]; exact d1
    ·simp only; rw [dQ h.gx.fh]; simp only [↓reduceIte]
    ·have:=(h.num _ _ d1).1; omega
    ·intro h2
     simp only at h2
     simp [h2]
    ·simp only [hne,↓reduceIte]; exact d6
def QG {t:Tree} {dep:Int->Nat} (h:bN t dep 0) (ino to:Int) (s:Bytes) (hs:c8 s=true->Nm s):bN (BC t ino to s).1 dep 0:=by
 unfold BC
 split
 ·exact h
 ·rename_i hf
  split
  ·exact h
  ·rename_i hk
   split
   ·exact h
   ·rename_i he
    obtain ⟨d,d1,d2,d3,d4,d5,d6,d7⟩:=AZ (by simpa using he)
    rw [h.iB d1 d2] at d6
    cases hi:find t.nodes ino with
    |none=>simp [hi] at hf
    |some n =>
     simp only [aJ,hi,Option.getD_some] at hk ⊢
     have hk1:n.kind=1:=by
      rcases h.kind _ _ hi with h1|h1
      ·exact h1
      ·simp [h1] at hk
     have hlk:=h.bS _ _ hi
     rw [if_neg (by have:=(h.num _ _ hi).1; omega)] at hlk
     have hcl:=h.JE ino
     have hw:gG (n.bS+1)=n.bS+1:=bw (by omega) (by omega)
     rw [hw]
     obtain ⟨f1,f2,f3⟩:=h.file _ _ hi hk1
     have hg:=h.JP (n':={ n with bS:=n.bS+1 }) (x':=ino) hi hk1 (bH hi).2 hk1 rfl rfl f3 (fun i h0=>by
      simp only
      rw [if_neg (show i≠0 by omega)]
      split<;>omega)
     have hne:to≠ino:=fun hh=>by subst hh; rw [hi] at d1; injection d1 with d1; subst d1; omega
     refine hg.jE (d:=to) (n:=d) (m:={ n with bS:=n.bS+1 }) ?_ d2 d4 (by simpa using d5) (hs d3) ?_ ?_ ?_ d6 d7
     ·simp only; rw [dQ h.gx.fh]; simp only [h.ino hi,hne,↓reduceIte]; exact d1
     ·simp only; rw [dQ h.gx.fh]; simp only [h.ino hi,↓reduceIte]
     ·intro hh; subst hh
      obtain ⟨r,r1,r2,_⟩:=h.root
      rw [hi] at r1; injection r1 with r1; subst r1; omega
     ·intro h2; simp only at h2; omega
def bN.unnamed {t:Tree} {dep:Int->Nat} {k:Int} {n:Node} (h:bN t dep k) (hk:find t.nodes k=some n) (he:n.au=[]) (h1:k≠1):bN ⟨dx t.nodes k,t.next,t.ag⟩ dep 0:=by
 unfold dx
 simp only [aJ,hk,Option.getD_some]
 have hl:=h.bS _ _ hk
 simp only [↓reduceIte] at hl
 split
 ·rename_i h2
  have:=h.one _ _ hk (by simpa using h2) h1
  exact h.drop (.inl rfl) hk he h1 (by omega)
 ·rename_i h2
  have hk1:n.kind=1:=by
   rcases h.kind _ _ hk with h1|h1
   ·exact h1
   ·simp [h1] at h2
  have hcl:=h.JE k
  have hw:gG (n.bS-1)=n.bS-1:=bw (by omega) (by omega)
  rw [hw]
  obtain ⟨f1,f2,f3⟩:=h.file _ _ hk hk1
  exact h.JP (n':={ n with bS:=n.bS-1 }) (x':=0) hk hk1 (bH hk).2 hk1 rfl rfl f3 (fun i h0=>by
   simp only
   rw [if_neg (show i≠0 by omega)]
   split<;>omega)
def bN.un {t:Tree} {dep:Int->Nat} (h:bN t dep 0) {d:Int} {n m:Node} {s:Bytes} {e:cJ} (hd:find t.nodes d=some n) (he:cN n.au s=some e) (hm:find t.nodes e.ino=some m) (hm0:m.au=[]):bN ⟨dx (bQ t.nodes d s) e.ino,t.next,t.ag⟩ dep 0:=by
 have hem:=(dR he).1
 have hl:=h.left hd he
 refine hl.unnamed (n:=m) ?_ hm0 (h.vZ _ _ e hd hem).2.2.1
 simp only
 rw [eP h.gx.fh hd,if_neg (h.ph hd hem)]
 exact hm
def RQ {t:Tree} {dep:Int->Nat} (h:bN t dep 0) (ino:Int) (s:Bytes):bN (Cc t ino s).1 dep 0:=by
 unfold Cc
 split
 ·exact h
 ·rename_i hl
  obtain ⟨d,e,d1,d2,d3,d4,d5⟩:=look_ok (by simpa using hl)
  rw [d5]
  split
  ·exact h
  ·rename_i h0
   obtain ⟨_,_,_,_,m,hm,_⟩:=h.vZ _ _ e d1 (dR d4).1
   simp only [aJ,hm,Option.getD_some,decide_eq_true_eq] at h0
   exact h.un d1 d4 hm (List.length_eq_zero_iff.1 (by omega))
def N7 {t:Tree} {dep:Int->Nat} (h:bN t dep 0) (ino:Int) (data:Bytes):bN (oC t ino data).1 dep 0:=by
 unfold oC
 split
 ·exact h
 ·rename_i hf
  split
  ·exact h
  ·rename_i hk
   split
   ·exact h
   ·rename_i hd
    cases hi:find t.nodes ino with
    |none=>simp [hi] at hf
    |some n =>
     simp only [aJ,hi,Option.getD_some] at hk ⊢
     have hk1:n.kind=1:=by
      rcases h.kind _ _ hi with h1|h1
      ·exact h1
      ·simp [h1] at hk
     simp only [decide_eq_true_eq] at hd
     exact h.JP (n':={ n with data:=data }) (x':=0) hi hk1 (bH hi).2 hk1 rfl rfl (by simp only; omega) (fun i h0=>by
      simp only
      rw [if_neg (show i≠0 by omega)]
      split<;>omega)
def Gq {t:Tree} {dep:Int->Nat} (h:bN t dep 0) (ino:Int):bN (lf t ino).1 dep 0:=by
 unfold lf
 split
 ·exact h
 ·rename_i hf
  split
  ·exact h
  ·rename_i hk
   split
   ·exact h
   ·rename_i hd
    cases hi:find t.nodes ino with
    |none=>simp [hi] at hf
    |some n =>
     simp only [aJ,hi,Option.getD_some] at hk hd
     have hk1:n.kind=1:=by
      rcases h.kind _ _ hi with h1|h1
      ·exact h1
      ·simp [h1] at hk
     simp only [decide_eq_true_eq] at hd
     have hl:=h.bS _ _ hi
     rw [if_neg (by have:=(h.num _ _ hi).1; omega)] at hl
     refine h.drop (.inr rfl) hi (h.file _ _ hi hk1).1 ?_ (by omega)
     intro hh; subst hh
     obtain ⟨r,r1,r2,_⟩:=h.root
     rw [hi] at r1; injection r1 with r1; subst r1; omega
def Ei:∀ {a b:List Node},hU a->hU b->(∀m,m∈a↔m∈b)->a=b
 | [],[],_,_,_=>rfl
 | [],y::b,_,_,h=>by have:=(h y).2 List.mem_cons_self; cases this
 |x::a,[],_,_,h=>by have:=(h x).1 List.mem_cons_self; cases this
 |x::a,y::b,ha,hb,h=>by
  obtain ⟨a1,a2⟩:=List.pairwise_cons.1 ha
  obtain ⟨b1,b2⟩:=List.pairwise_cons.1 hb
  have hxy:x=y:=by
   rcases List.mem_cons.1 ((h x).1 List.mem_cons_self) with h1|h1
   ·exact h1
   ·rcases List.mem_cons.1 ((h y).2 List.mem_cons_self) with h2|h2
    ·exact h2.symm
    ·have:=b1 x h1; have:=a1 y h2; omega
  subst hxy
  rw [Ei a2 b2 (fun m=>?_)]
  constructor
  ·intro hm
   rcases List.mem_cons.1 ((h m).1 (List.mem_cons_of_mem _ hm)) with h1|h1
   ·subst h1; have:=a1 m hm; omega
   ·exact h1
  ·intro hm
   rcases List.mem_cons.1 ((h m).2 (List.mem_cons_of_mem _ hm)) with h1|h1
   ·subst h1; have:=b1 m hm; omega
   ·exact h1
def JT {a b:List Node} (ha:hU a) (hb:hU b) (h:∀i,find a i=find b i):a=b :=
 Ei ha hb fun m=>by
  constructor
  ·intro hm
   have:=(ga ha).2 ⟨hm,rfl⟩
   rw [h] at this
   exact (bH this).1
  ·intro hm
   have:=(ga hb).2 ⟨hm,rfl⟩
   rw [<-h] at this
   exact (bH this).1
def sQ {nodes:List Node} (h:hU nodes) (k:Int):hU (dx nodes k):=by
 unfold dx
 split
 ·exact lB h _
 ·exact iJ h _
def kc {nodes:List Node} (h:hU nodes) (k:Int) (s:Bytes):hU (bQ nodes k s):=iJ h _
def ES (n:Node):Option Node:=if (n.kind==2)=true then none else some { n with bS:=gG (n.bS-1) }
def mW {nodes:List Node} (h:hU nodes) {k:Int} {n:Node} (hk:find nodes k=some n) (i:Int):find (dx nodes k) i=if i=k then ES n else find nodes i:=by
 unfold dx ES
 simp only [aJ,hk,Option.getD_some]
 split
 ·rw [mX h]
 ·rw [dQ h]
  simp only [(bH hk).2]
def CY (l:List cJ) (a b:Bytes):eA (eA l a) b=eA (eA l b) a:=by
 simp only [eA,List.filter_filter]
 congr 1
 funext e
 rw [Bool.and_comm]
def OS {nodes:List Node} (h:hU nodes) {f to y:Int} {s nm:Bytes} {dF dT m:Node} (hF:find nodes f=some dF) (hT:find nodes to=some dT) (hy:find nodes y=some m) (h1:y≠f) (h2:y≠to) :
  dx (bQ (bQ nodes f s) to nm) y=bQ (dx (bQ nodes to nm) y) f s:=by
 have a1:=kc h f s
 have a2:=kc h to nm
 have a3:=kc a1 to nm
 have a4:=sQ a2 y
 have f1:=eP h hF (s:=s)
 have f2:=eP h hT (s:=nm)
 have hy1:find (bQ nodes to nm) y=some m:=by rw [f2,if_neg h2]; exact hy
 have f4:=mW a2 hy1
 obtain ⟨dT',hT'⟩:∃dT',find (bQ nodes f s) to=some dT':=by rw [f1]; split<;>simp_all
 have f3:=eP a1 hT' (s:=nm)
 have hy3:find (bQ (bQ nodes f s) to nm) y=some m:=by rw [f3,if_neg h2,f1,if_neg h1]; exact hy
 have f5:=mW a3 hy3
 obtain ⟨dF',hF'⟩:∃dF',find (dx (bQ nodes to nm) y) f=some dF':=by rw [f4,if_neg (fun hh=>h1 hh.symm),f2]; split<;>simp_all
 have f6:=eP a4 hF' (s:=s)
 refine JT (sQ a3 y) (kc a4 f s) (fun i=>?_)
 rw [f5,f6,f4,f3]
 rw [f1] at hT'
 rw [f4,if_neg (fun hh=>h1 hh.symm),f2] at hF'
 by_cases i1:i=y
 ·subst i1; simp [h1]
 ·simp only [i1,↓reduceIte]
  by_cases i2:i=to
  ·subst i2
   simp only [↓reduceIte]
   by_cases i3:i=f
   ·subst i3
    simp only [↓reduceIte] at hT' hF' ⊢
    injection hT' with hT'; injection hF' with hF'
    rw [<-hT',<-hF']
    rw [hF] at hT; injection hT with hT; subst hT
    simp only [CY]
   ·simp only [i3,↓reduceIte] at hT' ⊢
    rw [f2]; simp only [↓reduceIte]
    rw [hT] at hT'; injection hT' with hT'; rw [hT']
  ·simp only [i2,↓reduceIte]
   rw [f1,f2]
   by_cases i3:i=f
   ·subst i3
    simp only [↓reduceIte,i2] at hF' ⊢
    rw [hF] at hF'; injection hF' with hF'; rw [hF']
   ·simp only [i3,i2,↓reduceIte]
def AX {l:List cJ} {s:Bytes} {e:cJ} (h:cN l s=some e):(eA l s).length<l.length:=by
 obtain ⟨h1,h2⟩:=dR h
 refine Nat.lt_of_le_of_ne (List.length_filter_le _ _) fun hh=>?_
 have:=List.length_filter_eq_length_iff.1 hh e h1
 simp [h2] at this
def bN.TI {t:Tree} {dep dep':Int->Nat} {f to:Int} {s nm:Bytes} {dF dT m:Node} {e:cJ} (h:bN t dep 0) (hF:find t.nodes f=some dF) (he:cN dF.au s=some e) (hT:find t.nodes to=some dT) (hTk:dT.kind=2) (hfree:cN dT.au nm=none) (hroom:to≠f->dT.au.length<64) (hnm:Nm nm)
  (hm:find t.nodes e.ino=some m) (hne:e.ino≠to) (hd12:dep' to<12) (hck:t.ag<1099511627776)
  (hcase:(m.kind=1/\dep'=dep)\/(m.kind=2/\dep' 1=0/\(∀i n,find t.nodes i=some n->n.kind=2->i≠1->i≠e.ino->dep' i=dep' n.up+1)/\dep' e.ino=dep' to+1 /\
   ∀i n,find t.nodes i=some n->n.kind=2->dep' i<=12/\(dep' i=12->n.au=[]))):bN (oS t f s to nm e.ino 0) dep' 0:=by
 have hem:=(dR he).1
 have hnf:e.ino≠f:=h.ph hF hem
 have h1:e.ino≠1:=(h.vZ _ _ e hF hem).2.2.1
 have hl:=h.left hF he
 have fl:=eP h.gx.fh hF (s:=s)
 have hmx:find (bQ t.nodes f s) e.ino=some m:=by rw [fl,if_neg hnf]; exact hm
 obtain ⟨d1,g1,g2,g3,g4⟩:∃d1,find (bQ t.nodes f s) to=some d1/\d1.kind=2/\cN d1.au nm=none/\d1.au.length<64:=by
  rw [fl]
  split
  ·rename_i hh
   subst hh
   rw [hF] at hT; injection hT with hT; subst hT
   exact ⟨_,rfl,hTk,nA hfree,Nat.lt_of_lt_of_le (AX he) (h.few hF)⟩
  ·rename_i hh
   exact ⟨dT,hT,hTk,hfree,hroom hh⟩
 have hnode:aJ t.nodes e.ino=m:=by simp [aJ,hm]
 unfold oS
 simp only [hnode,bne_self_eq_false,Bool.false_eq_true,↓reduceIte]
 rcases hcase with ⟨hk,rfl⟩|⟨hk,c1,c2,c3,c4⟩
 ·rw [if_neg (by simp [hk])]
  exact hl.jE g1 g2 g3 g4 hnm hmx h1 (fun h2=>by omega) hd12 hck
 ·rw [if_pos (by simp [hk])]
  have hs:=hl.adZ (dep':=dep') hmx hk h1 g1 g2 c1 (fun i n hi hk2 hi1 hie=>by
    simp only [fl] at hi
    split at hi
    ·rename_i hh; subst hh
     injection hi with hi; subst hi
     exact c2 i dF hF hk2 hi1 hie
    ·exact c2 _ _ hi hk2 hi1 hie) c3 (fun i n hi hk2=>by
    simp only [fl] at hi
    split at hi
    ·rename_i hh; subst hh
     injection hi with hi; subst hi
     obtain ⟨q1,q2⟩:=c4 i dF hF hk2
     exact ⟨q1,fun h12=>by simp [q2 h12,eA]⟩
    ·exact c4 _ _ hi hk2)
  have hmi:m.ino=e.ino:=(bH hm).2
  have fw:=dQ (kc h.gx.fh f s) { m with up:=to }
  refine hs.jE (n:=d1) (m:={ m with up:=to }) ?_ g2 g3 g4 hnm ?_ h1 (fun _=>rfl) hd12 hck
  ·simp only
   rw [fw]
   rw [if_neg (show ¬to=m.ino from fun hh=>hne (by omega))]
   exact g1
  ·simp only
   rw [fw]
   simp only [hmi,↓reduceIte]
def mY (nodes:List Node) (at' d:Int) (n:Node):Int :=
 if decide ((0:Int)<n.au.length)=true then gG (gG (gG (at'+je nodes n.ino)-d)+1) else gG (gG (at'+je nodes n.ino)-d)
def Bj (nodes:List Node) (ino at' d:Int) (n:Node) (most:Int):most<=nG nodes ino at' d n most/\((n.kind==2&&fi nodes n.ino ino)=true->mY nodes at' d n<=nG nodes ino at' d n most):=by
 have e:nG nodes ino at' d n most=if (n.kind==2&&fi nodes n.ino ino)=true then (if mY nodes at' d n>most then mY nodes at' d n else most) else most:=rfl
 rw [e]
 split
 ·split
  ·exact ⟨by omega,fun _=>Int.le_refl _⟩
  ·exact ⟨Int.le_refl _,fun _=>by omega⟩
 ·rename_i h; exact ⟨Int.le_refl _,fun hh=>absurd hh h⟩
def tI (nodes:List Node) (ino at' d:Int):∀(l:List Node) (most:Int),most<=rh nodes ino at' d l most/\∀n,n∈l->(n.kind==2&&fi nodes n.ino ino)=true->mY nodes at' d n<=rh nodes ino at' d l most
 | [],most=>⟨Int.le_refl _,fun n hn=>by cases hn⟩
 |m::l,most=>by
  obtain ⟨h1,h2⟩:=tI nodes ino at' d l (nG nodes ino at' d m most)
  obtain ⟨h3,h4⟩:=Bj nodes ino at' d m most
  rw [rh]
  refine ⟨by omega,fun n hn hb=>?_⟩
  rcases List.mem_cons.1 hn with rfl|hn
  ·have:=h4 hb; omega
  ·exact h2 n hn hb
def jN (nodes:List Node) (dep:Int->Nat) (x to:Int):Int->Nat:=fun i=>if fi nodes i x=true then dep i+(dep to+1)-dep x else dep i
def bN.yc {t:Tree} {dep:Int->Nat} (h:bN t dep 0) {x to i:Int} {m n:Node} (hx:find t.nodes x=some m) (hk:m.kind=2) (hd:dep to<12) (hi:find t.nodes i=some n) (hk2:n.kind=2) (hb:fi t.nodes i x=true) :
  mY t.nodes (((dep to+1:Nat):Int)) (dep x) n=((jN t.nodes dep x to i+(if 0<n.au.length then 1 else 0):Nat):Int):=by
 have d1:=(h.deep _ _ hi hk2).1
 have d2:=(h.deep _ _ hx hk).1
 have d3:=h.td _ i n hi hk2 rfl hb
 have hdn:je t.nodes n.ino=dep i:=by rw [h.ino hi]; exact h.iB hi hk2
 have w1:gG ((((dep to+1:Nat):Int))+(dep i:Nat))=(((dep to+1:Nat):Int))+(dep i:Nat):=bw (by omega) (by omega)
 have w2:gG ((((dep to+1:Nat):Int))+(dep i:Nat)-(dep x:Nat))=(((dep to+1:Nat):Int))+(dep i:Nat)-(dep x:Nat):=bw (by omega) (by omega)
 have w3:gG ((((dep to+1:Nat):Int))+(dep i:Nat)-(dep x:Nat)+1)=(((dep to+1:Nat):Int))+(dep i:Nat)-(dep x:Nat)+1:=bw (by omega) (by omega)
 unfold mY jN
 rw [if_pos hb,hdn,w1,w2,w3]
 by_cases hl:0<n.au.length
 ·rw [if_pos (by simpa using hl),if_pos hl]; omega
 ·rw [if_neg (by simpa using hl),if_neg hl]; omega
def bN.Yp {t:Tree} {dep:Int->Nat} (h:bN t dep 0) {x to:Int} {m dT:Node} (hx:find t.nodes x=some m) (hk:m.kind=2) (hx1:x≠1) (hT:find t.nodes to=some dT) (hTk:dT.kind=2) (hnb:fi t.nodes to x=false) (hd:dep to<12)
  (hh:ye t.nodes x (((dep to+1:Nat):Int))<=12) :
  jN t.nodes dep x to 1=0/\(∀i n,find t.nodes i=some n->n.kind=2->i≠1->i≠x->jN t.nodes dep x to i=jN t.nodes dep x to n.up+1)/\jN t.nodes dep x to x=jN t.nodes dep x to to+1 /\
   (∀i n,find t.nodes i=some n->n.kind=2->jN t.nodes dep x to i<=12/\(jN t.nodes dep x to i=12->n.au=[]))/\jN t.nodes dep x to to=dep to:=by
 have hto:jN t.nodes dep x to to=dep to:=by unfold jN; rw [if_neg (by simp [hnb])]
 refine ⟨?_,?_,?_,?_,hto⟩
 ·unfold jN
  rw [if_neg (by simp [bN.vQ hx1])]
  exact h.AW
 ·intro i n hi hk2 hi1 hix
  obtain ⟨a,p,b,c⟩:=h.oX _ _ hi hk2 hi1
  have hb:=h.Ay hi hk2 hi1 hix
  unfold jN
  rw [hb]
  split
  ·rename_i hb2
   have:=h.td _ _ p b c rfl hb2
   omega
  ·exact a
 ·rw [hto]
  unfold jN
  rw [if_pos (bN.qX x)]
  omega
 ·intro i n hi hk2
  by_cases hb:fi t.nodes i x=true
  ·have h1:=(tI t.nodes x (((dep to+1:Nat):Int)) (je t.nodes x) t.nodes 0).2 n (bH hi).1 (by rw [hk2,h.ino hi,hb]; rfl)
   rw [h.iB hx hk,h.yc hx hk hd hi hk2 hb] at h1
   unfold ye at hh
   rw [h.iB hx hk] at hh
   have h2:=Int.le_trans h1 hh
   split at h2
   ·rename_i hl
    exact ⟨by omega,fun h12=>by omega⟩
   ·rename_i hl
    exact ⟨by omega,fun _=>List.length_eq_zero_iff.1 (by omega)⟩
  ·have:jN t.nodes dep x to i=dep i:=by unfold jN; rw [if_neg hb]
   rw [this]
   exact h.deep _ _ hi hk2
def wg {l:List cJ} {s r:Bytes} (h:r≠s):cN (eA l s) r=cN l r:=by
 unfold cN eA
 rw [List.find?_filter]
 congr 1
 funext e
 by_cases he:e.name=r
 ·have hn:e.name≠s:=he▸h
  simp [he,h]
 ·simp [he]
structure Zi (t:Tree) (dep:Int->Nat) (f:Int) (s:Bytes) (to:Int) (nm:Bytes) (dF dT m:Node) (e:cJ):Prop where
 hF:find t.nodes f=some dF
 kF:dF.kind=2
 he:cN dF.au s=some e
 hT:find t.nodes to=some dT
 kT:dT.kind=2
 hn:c8 nm=true
 hm:find t.nodes e.ino=some m
 ne:e.ino≠to
 nf:e.ino≠f
 loop:m.kind=2->fi t.nodes to e.ino=false
 deep:dep to<12
 high:m.kind=2->ye t.nodes e.ino (((dep to+1:Nat):Int))<=12
 ag:t.ag<1099511627776
 room:cN dT.au nm=none->to≠f->dT.au.length<64
 ajb:∀e2,cN dT.au nm=some e2->e2.ino≠e.ino/\∃y,find t.nodes e2.ino=some y/\y.au=[]/\(m.kind=2↔y.kind=2)/\e2.ino≠f/\e2.ino≠to
def bN.mv {t:Tree} {dep:Int->Nat} (h:bN t dep 0) {f:Int} {s:Bytes} {to:Int} {nm:Bytes} {dF dT m:Node} {e:cJ} (hs:c8 nm=true->Nm nm) (k:Zi t dep f s to nm dF dT m e):∃dep',bN (oS t f s to nm e.ino (er dT.au nm)) dep' 0:=by
 have hem:=(dR k.he).1
 have hx1:=(h.vZ _ _ e k.hF hem).2.2.1
 have hcase:∃dep':Int->Nat,dep' to<12/\((m.kind=1/\dep'=dep)\/(m.kind=2/\dep' 1=0/\(∀i n,find t.nodes i=some n->n.kind=2->i≠1->i≠e.ino->dep' i=dep' n.up+1)/\dep' e.ino=dep' to+1 /\
   ∀i n,find t.nodes i=some n->n.kind=2->dep' i<=12/\(dep' i=12->n.au=[]))):=by
  rcases h.kind _ _ k.hm with hk|hk
  ·exact ⟨dep,k.deep,.inl ⟨hk,rfl⟩⟩
  ·obtain ⟨c1,c2,c3,c4,c5⟩:=h.Yp k.hm hk hx1 k.hT k.kT (k.loop hk) k.deep (k.high hk)
   exact ⟨jN t.nodes dep e.ino to,by rw [c5]; exact k.deep,.inr ⟨hk,c1,c2,c3,c4⟩⟩
 obtain ⟨dep',hd12,hcase⟩:=hcase
 refine ⟨dep',?_⟩
 cases hfr:cN dT.au nm with
 |none =>
  have hu:er dT.au nm=0:=by simp [er,hfr]
  rw [hu]
  exact h.TI k.hF k.he k.hT k.kT hfr (k.room hfr) (hs k.hn) k.hm k.ne hd12 k.ag hcase
 |some e2 =>
  have hu:er dT.au nm=e2.ino:=by simp [er,hfr]
  rw [hu]
  obtain ⟨q1,y,q2,q3,q4,q5,q6⟩:=k.ajb e2 hfr
  have h1:=h.un k.hT hfr q2 q3
  have a2:=kc h.gx.fh to nm
  have f2:=eP h.gx.fh k.hT (s:=nm)
  have hy1:find (bQ t.nodes to nm) e2.ino=some y:=by rw [f2,if_neg q6]; exact q2
  have f4:∀i,find (dx (bQ t.nodes to nm) e2.ino) i=if i=e2.ino then ES y else if i=to then some { dT with au:=eA dT.au nm } else find t.nodes i:=by
   intro i
   rw [mW a2 hy1,f2]
  have hnn:aJ (dx (bQ t.nodes to nm) e2.ino) e.ino=aJ t.nodes e.ino:=by
   simp only [aJ]
   rw [f4,if_neg (fun hh=>q1 hh.symm),if_neg k.ne]
  have hy0:=(h.num _ _ q2).1
  have hmv:oS t f s to nm e.ino e2.ino=oS ⟨dx (bQ t.nodes to nm) e2.ino,t.next,t.ag⟩ f s to nm e.ino 0:=by
   unfold oS
   simp only [hnn]
   rw [OS h.gx.fh k.hF k.hT q2 q5 q6]
   have e1:(e2.ino != 0)=true:=by simp; omega
   simp only [e1,bne_self_eq_false,Bool.false_eq_true,↓reduceIte]
  rw [hmv]
  have hsn:to=f->s≠nm:=fun hh hsn=>by
   subst hh; subst hsn
   have:=k.hF; rw [k.hT] at this; injection this with this; subst this
   have:=k.he; rw [hfr] at this; injection this with this; subst this
   exact q1 rfl
  obtain ⟨dF',g1,g2⟩:∃dF',find (dx (bQ t.nodes to nm) e2.ino) f=some dF'/\cN dF'.au s=some e:=by
   rw [f4,if_neg (fun hh=>q5 hh.symm)]
   split
   ·rename_i hh
    refine ⟨_,rfl,?_⟩
    rw [wg (hsn hh.symm)]
    subst hh
    have:=k.hF; rw [k.hT] at this; injection this with this; subst this
    exact k.he
   ·exact ⟨dF,k.hF,k.he⟩
  have back:∀i n,find (dx (bQ t.nodes to nm) e2.ino) i=some n->n.kind=2->∃n0,find t.nodes i=some n0/\n0.kind=2/\n0.up=n.up/\(n0.au=[]->n.au=[]):=by
   intro i n hi hk
   rw [f4] at hi
   split at hi
   ·unfold ES at hi
    split at hi
    ·cases hi
    ·rename_i hh
     injection hi with hi; subst hi
     simp only at hk
     simp [hk] at hh
   ·split at hi
    ·rename_i hh; subst hh
     injection hi with hi; subst hi
     exact ⟨dT,k.hT,hk,rfl,fun h0=>by simp [h0,eA]⟩
    ·exact ⟨n,hi,hk,rfl,fun h0=>h0⟩
  refine h1.TI (dep':=dep') g1 g2 (dT:={ dT with au:=eA dT.au nm }) ?_ k.kT (uQ _ _) (fun _=>Nat.lt_of_lt_of_le (AX hfr) (h.few k.hT)) (hs k.hn) (m:=m) ?_ k.ne hd12 k.ag ?_
  ·simp only; rw [f4,if_neg (fun hh=>q6 hh.symm),if_pos rfl]
  ·simp only; rw [f4,if_neg (fun hh=>q1 hh.symm),if_neg k.ne]; exact k.hm
  ·rcases hcase with hc|⟨hk,c1,c2,c3,c4⟩
   ·exact .inl hc
   ·refine .inr ⟨hk,c1,?_,c3,?_⟩
    ·intro i n hi hk2 hi1 hie
     obtain ⟨n0,b1,b2,b3,_⟩:=back i n hi hk2
     rw [<-b3]; exact c2 i n0 b1 b2 hi1 hie
    ·intro i n hi hk2
     obtain ⟨n0,b1,b2,_,b4⟩:=back i n hi hk2
     exact ⟨(c4 i n0 b1 b2).1,fun h12=>b4 ((c4 i n0 b1 b2).2 h12)⟩
def bN.zero {t:Tree} {dep:Int->Nat} {x:Int} (h:bN t dep x):find t.nodes 0=none:=by
 cases hz:find t.nodes 0 with
 |none=>rfl
 |some m=>have:=h.num _ _ hz; omega
def GN {t:Tree} {dep:Int->Nat} (h:bN t dep 0) (f:Int) (s:Bytes) (to:Int) (nm:Bytes) :
  ((xk t f s to nm).1=t/\(xk t f s to nm).2.1=0/\(xk t f s to nm).2.2≠0) \/
  (xk t f s to nm=(t,0,0)/\∃dF dT e e2,find t.nodes f=some dF/\dF.kind=2/\c8 s=true/\cN dF.au s=some e/\cA t.nodes f s=(e.ino,0)/\find t.nodes to=some dT/\dT.kind=2/\c8 nm=true/\cN dT.au nm=some e2/\e2.ino=e.ino) \/
  ∃dF dT m e,Zi t dep f s to nm dF dT m e/\c8 s=true/\cA t.nodes f s=(e.ino,0)/\xk t f s to nm=(oS t f s to nm e.ino (er dT.au nm),er dT.au nm,0):=by
 unfold xk
 split
 ·rename_i c1; exact .inl ⟨rfl,rfl,by simpa using c1⟩
 rename_i c1
 split
 ·rename_i c2; exact .inl ⟨rfl,rfl,by simpa using c2⟩
 rename_i c2
 split
 ·exact .inl ⟨rfl,rfl,by simp⟩
 rename_i c3
 obtain ⟨dF,e,e1,e2,e3,e4,e5⟩:=look_ok (by simpa using c1)
 obtain ⟨dT,g1,g2,g3⟩:=rb (show (dj t.nodes to).2=0 by simpa using c2)
 have hem:=(dR e4).1
 obtain ⟨_,_,x1,_,m,hm,hup⟩:=h.vZ _ _ e e1 hem
 have hnode:aJ t.nodes e.ino=m:=by simp [aJ,hm]
 simp only [e5,g3,hnode]
 split
 ·rename_i c4
  right; left
  refine ⟨rfl,dF,dT,e,?_⟩
  have c4':er dT.au nm=e.ino:=by simpa using c4
  cases hfr:cN dT.au nm with
  |none=>simp only [er,hfr] at c4'; have:=(h.num _ _ hm).1; omega
  |some e2'=>simp only [er,hfr] at c4'; exact ⟨e2',e1,e2,e3,e4,rfl,g1,g2,by simpa using c3,rfl,c4'⟩
 rename_i c4
 split
 ·exact .inl ⟨rfl,rfl,by simp⟩
 rename_i c5
 split
 ·rename_i c6; exact .inl ⟨rfl,rfl,by simpa using c6⟩
 rename_i c6
 split
 ·exact .inl ⟨rfl,rfl,by simp⟩
 rename_i c7
 right; right
 have hdt:=h.iB g1 g2
 simp only [manyN,hdt,Bool.or_eq_true,Bool.and_eq_true,beq_iff_eq,decide_eq_true_eq,not_or,not_and,bne_iff_ne] at c7
 obtain ⟨r1,r2,r3,r4⟩:=c7
 have hw:gG (((dep to:Nat):Int)+1)=((dep to+1:Nat):Int):=by
  have:=(h.deep _ _ g1 g2).1
  rw [show (((dep to:Nat):Int)+1)=((dep to+1:Nat):Int) by omega]
  exact bw (by omega) (by omega)
 rw [hw] at r3
 have hnf:=h.ph e1 hem
 have hne:e.ino≠to:=fun hh=>by
  rw [hh,g1] at hm; injection hm with hm; subst hm
  simp only [g2,beq_self_eq_true,Bool.true_and] at c5
  rw [hh,bN.qX] at c5
  exact c5 rfl
 refine ⟨dF,dT,m,e,⟨e1,e2,e4,g1,g2,by simpa using c3,hm,hne,hnf,?_,by omega,?_,by omega,?_,?_⟩,e3,rfl,rfl⟩
 ·intro hk
  simpa [hk] using c5
 ·intro hk
  have:=r3 hk; omega
 ·intro hfr hne
  have hu:er dT.au nm=0:=by simp [er,hfr]
  have:=r1 ⟨hu,hne⟩
  omega
 ·intro e2' hfr
  have hu:er dT.au nm=e2'.ino:=by simp [er,hfr]
  rw [hu] at c4 c6
  obtain ⟨_,_,_,_,y,hy,_⟩:=h.vZ _ _ e2' g1 (dR hfr).1
  have hny:aJ t.nodes e2'.ino=y:=by simp [aJ,hy]
  have hto:=h.ph g1 (dR hfr).1
  simp only [ot,hy,Option.isSome_some,Bool.not_true,Bool.false_eq_true,↓reduceIte,hny,bne_iff_ne,ne_eq,Decidable.not_not] at c6
  split at c6
  ·cases c6
  ·rename_i k1
   split at c6
   ·cases c6
   ·rename_i k2
    split at c6
    ·cases c6
    ·rename_i k3
     have hy0:y.au=[]:=List.length_eq_zero_iff.1 (by simpa using k3)
     refine ⟨by simpa using c4,y,hy,hy0,?_,?_,hto⟩
     ·simp at k1 k2
      constructor
      ·exact k1
      ·intro hy2
       rcases h.kind _ _ hm with hk|hk
       ·exact absurd hy2 (k2 (by omega))
       ·exact hk
     ·intro hh
      rw [hh,e1] at hy; injection hy with hy; subst hy
      rw [hy0] at hem; cases hem
def Q9 {t:Tree} {dep:Int->Nat} (h:bN t dep 0) (f:Int) (s:Bytes) (to:Int) (nm:Bytes) (hs:c8 nm=true->Nm nm):∃dep',bN (xk t f s to nm).1 dep' 0:=by
 rcases GN h f s to nm with ⟨h1,_⟩|⟨h1,_⟩|⟨dF,dT,m,e,k,_,_,hk⟩
 ·rw [h1]; exact ⟨dep,h⟩
 ·rw [h1]; exact ⟨dep,h⟩
 ·rw [hk]; exact h.mv hs k
def Nw:bN xH (fun _=>0) 0:=by
 have hf:∀i n,find xH.nodes i=some n->i=1/\n=⟨1,2,0,[],[],1⟩:=by
  intro i n hi
  obtain ⟨h1,h2⟩:=bH hi
  simp [xH] at h1
  subst h1
  exact ⟨h2.symm,rfl⟩
 refine ⟨⟨?_,?_⟩,⟨_,rfl,rfl,rfl⟩,?_,?_,?_,?_,?_,?_,?_,?_,rfl,?_,?_,by simp [xH],by simp [xH],by simp [xH]⟩
 ·simp [xH,hU]
 ·intro n hn; simp [xH] at hn; subst hn; exact List.Pairwise.nil
 ·intro i n hi; obtain ⟨rfl,rfl⟩:=hf i n hi; simp [xH]
 ·intro i n hi; obtain ⟨rfl,rfl⟩:=hf i n hi; simp
 ·intro i n hi; obtain ⟨rfl,rfl⟩:=hf i n hi; simp
 ·intro i n hi; obtain ⟨rfl,rfl⟩:=hf i n hi; simp
 ·intro i n e hi he; obtain ⟨rfl,rfl⟩:=hf i n hi; cases he
 ·intro i n hi; obtain ⟨rfl,rfl⟩:=hf i n hi; exact ⟨List.Pairwise.nil,by simp⟩
 ·intro i n hi; obtain ⟨rfl,rfl⟩:=hf i n hi; simp [xH,mV,jA]
 ·intro i n hi _ h1; exact absurd (hf i n hi).1 h1
 ·intro i n hi _ h1; exact absurd (hf i n hi).1 h1
 ·intro i n hi; obtain ⟨rfl,rfl⟩:=hf i n hi; simp
section
attribute [local irreducible] cT cR gz gK bR kr af an aZ aK
def rR:∀(d:Bytes),bytesOf (d.map jt)=some d
 | []=>rfl
 |b::d=>by
  rw [List.map_cons]
  show aK (bytesOf (d.map jt)) (fun l=>some (UInt8.ofNat ((b.toNat:Int)).toNat::l))=some (b::d)
  rw [rR d,aL]
  simp
def c52 (a b:Bytes):af aV 52 [cY a,cY b] []=some (.bool (a==b),[]):=by
 refine aq rfl rfl rfl ?_
 simp only [Vd,E52,rR,EN,simprocAttr]
def k52 (a b:Bytes) (M:ai):an (af aV) 52 [cY a,cY b] M=some (.bool (a==b),M):=cO (c52 a b) M
def agV (x y:cJ):decide (x=y)=(x.name==y.name&&(x.ino==y.ino&&(x.ag==y.ag&&true))):=by
 cases x; cases y
 simp only [cJ.mk.injEq,Bool.and_true]
 rw [Bool.eq_iff_iff]
 simp
def aa0 (x y:cJ):eV [.s,.i,.i] (dy x) (dy y)=some (decide (x=y)):=by
 rw [agV]
 simp only [dy,eV,fW,aL,↓reduceIte]
def Ua (x:cJ):(dy x).all ae.cZ=true:=rfl
def afd (x:Node):(az x).all ae.cZ=true:=rfl
def XF {a b:List cJ} (ha:a.length<=100000) {k:List K} {R:Bool->Option (ae×ai)}
  (hx:∀e,kr (af aV) [.tmp 4] 0 k ⟨.exit 0,e,[]⟩=R true) (hr:kr (af aV) [.tmp 4] 0 k ⟨.ret,[(4,.bool false)],[]⟩=R false) :
  ∀(l m pre pre':List cJ),a=pre++l->b=pre'++m->pre.length=pre'.length->l.length=m.length->cT (af aV) [.tmp 4] 0 k (.loop [0,1,12,13] Xg) [(0,fR a),(1,fR b),(12,.int .i64 a.length),(13,.int .i64 pre.length)] []=R (decide (l=m)):=by
 intro l
 induction l with
 |nil =>
  intro m pre pre' h h' hp hl
  have hm:m=[]:=List.length_eq_zero_iff.1 hl.symm
  subst hm
  rw [aE]
  simp only [Pe,bZ h,EN,simprocAttr]
  exact hx _
 |cons n r ih =>
  intro m pre pre' h h' hp hl
  cases m with
  |nil=>cases hl
  |cons n' m =>
  rw [aE]
  have hlen:pre.length+1<=100000:=by rw [h] at ha; simp at ha; omega
  have hw:IntKind.i64.wrap ((pre.length:Int)+1)=((pre++[n]).length:Int):=by rw [bw (by omega) (by omega)]; exact bp
  have hi:=ih m (pre++[n]) (pre'++[n']) (by rw [h]; simp) (by rw [h']; simp) (by simp [hp]) (by simpa using hl)
  have ha2:b[pre.length]?=some n':=by rw [hp]; exact aW h'
  have hdc:decide (n::r=n'::m)=(decide (n=n')&&decide (r=m)):=by
   rw [Bool.eq_iff_iff]; simp
  rw [hdc]
  simp only [List.length_append,List.length_cons,List.length_nil] at hi
  simp only [Pe,aY h,aW h,ha2,YD,Yx,aa0,Ua,EN,simprocAttr]
  refine aH (fun hb=>?_) (fun hb=>?_)
  ·have hb':decide (n=n')=false:=by simpa using hb
   simp only [Pe,hb',Bool.false_and,EN,simprocAttr]
   exact hr
  ·have hb':decide (n=n')=true:=by simpa using hb
   simp only [Pe,hb',Bool.true_and,hw,EN,simprocAttr]
   exact hi
def c53 (a b:List cJ) (ha:a.length<=100000):af aV 53 [fR a,fR b] []=some (.bool (decide (a=b)),[]):=by
 refine aq rfl rfl rfl ?_
 simp only [Ve,Pe,EN,simprocAttr]
 refine aH (fun hb=>?_) (fun hb=>?_)
 ·have:decide (a=b)=false:=by
   simp at hb ⊢
   rintro rfl; exact hb rfl
  simp only [Pe,this,EN,simprocAttr]
 ·simp only [Pe,EN,simprocAttr]
  exact XF (R:=fun z=>some (.bool z,[])) ha (fun e=>by simp only [Pe,EN,simprocAttr]) (by simp only [Pe,EN,simprocAttr]) a b [] [] rfl rfl rfl (by simp at hb; omega)
def k53 (a b:List cJ) (ha:a.length<=100000) (M:ai):an (af aV) 53 [fR a,fR b] M=some (.bool (decide (a=b)),M):=cO (c53 a b ha) M
def ace (x y:Node):decide (x=y)=(x.ino==y.ino&&(x.kind==y.kind&&(x.bS==y.bS&&(x.up==y.up&&(x.data==y.data&&decide (x.au=y.au)))))):=by
 cases x; cases y
 simp only [Node.mk.injEq]
 rw [Bool.eq_iff_iff]
 simp only [decide_eq_true_eq,Bool.and_eq_true,beq_iff_eq]
 constructor
 ·rintro ⟨h1,h2,h3,h4,h5,h6⟩; exact ⟨h1,h2,h3,h6,h4,h5⟩
 ·rintro ⟨h1,h2,h3,h6,h4,h5⟩; exact ⟨h1,h2,h3,h4,h5,h6⟩
def c51 (x y:Node) (hx:x.au.length<=100000):af aV 51 [bm x,bm y] []=some (.bool (decide (x=y)),[]):=by
 rw [ace]
 refine aq rfl rfl rfl ?_
 simp only [Vc,E51,bm,az,EN,simprocAttr]
 repeat' ((first|refine aH (fun hb=>?_) (fun hb=>?_)|refine bj (fun hb=>?_) (fun hb=>?_)|refine cj (fun hb=>?_) (fun hb=>?_))<;>simp only [hb,EN,E51,k52,k53,hx,simprocAttr])
 all_goals simp_all only [jZ,↓reduceIte,reduceCtorEq,bne_self_eq_false]
def k51 (x y:Node) (hx:x.au.length<=100000) (M:ai):an (af aV) 51 [.agg (az x),.agg (az y)] M=some (.bool (decide (x=y)),M):=cO (c51 x y hx) M
def XG {a b:List Node} (ha:a.length<=100000) (he:∀n,n∈a->n.au.length<=100000) {k:List K} {R:Bool->Option (ae×ai)}
  (hx:∀e,kr (af aV) [.tmp 6] 0 k ⟨.exit 0,e,[]⟩=R true) (hr:∀M,kr (af aV) [.tmp 6] 0 k ⟨.ret,[(6,.bool false)],M⟩=R false) :
  ∀(l m pre pre':List Node),a=pre++l->b=pre'++m->pre.length=pre'.length->l.length=m.length->cT (af aV) [.tmp 6] 0 k (.loop [1,2,15,16,17] Xh) [(1,aF b),(2,.func 51 []),(15,aF a),(16,.int .i64 a.length),(17,.int .i64 pre.length)] []=R (decide (l=m)):=by
 intro l
 induction l with
 |nil =>
  intro m pre pre' h h' hp hl
  have hm:m=[]:=List.length_eq_zero_iff.1 hl.symm
  subst hm
  rw [aE]
  simp only [Pf,bZ h,EN,simprocAttr]
  exact hx _
 |cons n r ih =>
  intro m pre pre' h h' hp hl
  cases m with
  |nil=>cases hl
  |cons n' m =>
  rw [aE]
  have hlen:pre.length+1<=100000:=by rw [h] at ha; simp at ha; omega
  have hw:IntKind.i64.wrap ((pre.length:Int)+1)=((pre++[n]).length:Int):=by rw [bw (by omega) (by omega)]; exact bp
  have hi:=ih m (pre++[n]) (pre'++[n']) (by rw [h]; simp) (by rw [h']; simp) (by simp [hp]) (by simpa using hl)
  have ha2:b[pre.length]?=some n':=by rw [hp]; exact aW h'
  have hen:=he n (by rw [h]; simp)
  have hdc:decide (n::r=n'::m)=(decide (n=n')&&decide (r=m)):=by
   rw [Bool.eq_iff_iff]; simp
  have hfl:List.flatMap ae.fV (az n)=[]:=rfl
  have hfl':List.flatMap ae.fV (az n')=[]:=rfl
  rw [hdc]
  simp only [List.length_append,List.length_cons,List.length_nil] at hi
  simp only [Pf,aY h,aW h,ha2,tkN,shN,afd,k51,hen,hfl,hfl',EN,simprocAttr]
  refine aH (fun hb=>?_) (fun hb=>?_)
  ·have hb':decide (n=n')=false:=by simpa using hb
   simp only [Pf,hb',Bool.false_and,EN,simprocAttr]
   exact hr _
  ·have hb':decide (n=n')=true:=by simpa using hb
   simp only [Pf,hb',Bool.true_and,hw,EN,simprocAttr]
   exact hi
def c54 (a b:List Node) (ha:a.length<=100000) (he:∀n,n∈a->n.au.length<=100000):af aV 54 [aF a,aF b,.func 51 []] []=some (.bool (decide (a=b)),[]):=by
 refine aq rfl rfl rfl ?_
 simp only [Vf,Pf,EN,simprocAttr]
 refine aH (fun hb=>?_) (fun hb=>?_)
 ·have:decide (a=b)=false:=by
   simp at hb ⊢
   rintro rfl; exact hb rfl
  simp only [Pf,this,EN,simprocAttr]
 ·simp only [Pf,EN,simprocAttr]
  exact XG (R:=fun z=>some (.bool z,[])) ha he (fun e=>by simp only [Pf,EN,simprocAttr]) (fun M=>by simp only [Pf,EN,simprocAttr]) a b [] [] rfl rfl rfl (by simp at hb; omega)
def k54 (a b:List Node) (ha:a.length<=100000) (he:∀n,n∈a->n.au.length<=100000) (M:ai):an (af aV) 54 [aF a,aF b,.func 51 []] M=some (.bool (decide (a=b)),M):=cO (c54 a b ha he) M
def ad8 (x y:Tree):decide (x=y)=(x.next==y.next&&(x.ag==y.ag&&decide (x.nodes=y.nodes))):=by
 cases x; cases y
 simp only [Tree.mk.injEq]
 rw [Bool.eq_iff_iff]
 simp only [decide_eq_true_eq,Bool.and_eq_true,beq_iff_eq]
 constructor
 ·rintro ⟨h1,h2,h3⟩; exact ⟨h2,h3,h1⟩
 ·rintro ⟨h2,h3,h1⟩; exact ⟨h1,h2,h3⟩
def c33 (a b:Tree) (ha:Small a):af aV 33 [bI a,bI b] []=some (.bool (decide (a=b)),[]):=by
 rw [ad8]
 have h1:=ha.nodes
 have h2:=ha.au
 refine aq rfl rfl rfl ?_
 simp only [U1,E33,bI,aw,EN,simprocAttr]
 repeat' ((first|refine aH (fun hb=>?_) (fun hb=>?_)|refine bj (fun hb=>?_) (fun hb=>?_)|refine cj (fun hb=>?_) (fun hb=>?_))<;>simp only [hb,EN,E33,k54 _ _ h1 h2,simprocAttr])
 all_goals simp_all only [jZ,↓reduceIte,reduceCtorEq,bne_self_eq_false]
def bN.ec {t:Tree} {dep:Int->Nat} {x:Int} (h:bN t dep x):∀m,m∈t.nodes->m.ino<t.next:=fun m hm=>(h.num _ _ ((ga h.gx.fh).2 ⟨hm,rfl⟩)).2
end
def bN.xi {t:Tree} {dep:Int->Nat} {x:Int} (h:bN t dep x) {i:Int} {n:Node} (hi:find t.nodes i=some n) (hk:n.kind=2):kx t.nodes i=dep i:=by
 simp only [kx,h.mj hi hk]; omega
def bN.Hw {t:Tree} {dep:Int->Nat} {x:Int} (h:bN t dep x) (of:Int):∀(m:Nat) (i:Int) (out:List Int) (n:Node),find t.nodes i=some n->n.kind=2->dep i<=m->out.contains i=true->(mi t.nodes m i out).contains of=(out.contains of||gM t.nodes of (m+1) i):=by
 intro m
 induction m with
 |zero =>
  intro i out n hi hk hd ho
  simp only [mi,gM]
  by_cases h1:i=of
  ·subst h1; rw [ho]; rfl
  ·simp [h1]
 |succ m ih =>
  intro i out n hi hk hd ho
  simp only [mi]
  rw [gM]
  by_cases h1:i=1
  ·by_cases h2:i=of
   ·subst h2; simp [h1] at ho ⊢; exact ho
   ·simp [h1,h2]
    intro h3; exact absurd (h1.trans h3) h2
  ·obtain ⟨a,p,b,c⟩:=h.oX _ _ hi hk h1
   simp only [bne_iff_ne,ne_eq,h1,not_false_eq_true,↓reduceIte,aJ,hi,Option.isSome_some,Bool.not_true,Option.getD_some,hk,bne_self_eq_false,Bool.or_self,Bool.false_eq_true]
   rw [ih _ _ p b c (by omega) (by simp),h.OT hi]
   by_cases h2:i=of
   ·subst h2
    have:(out++[n.up]).contains i=true:=by simp at ho ⊢; exact .inl ho
    rw [this,ho]; simp
   ·rw [if_neg h2]
    by_cases h3:n.up=of
    ·have:gM t.nodes of (m+1) n.up=true:=by simp [gM,h3]
     rw [this]; simp
    ·have:(out++[n.up]).contains of=out.contains of:=by
      simp
      intro hh; exact absurd hh.symm h3
     rw [this]
def bN.qO {t:Tree} {dep:Int->Nat} {x:Int} (h:bN t dep x) (of:Int) {i:Int} {n:Node} (hi:find t.nodes i=some n) (hk:n.kind=2):(ly t.nodes i).contains of=fi t.nodes i of:=by
 have:=h.Hw of t.nodes.length i [i] n hi hk (by have:=h.zo hi hk; omega) (by simp)
 simp only [ly,this,fi]
 by_cases h2:i=of
 ·subst h2; simp [gM]
 ·have:([i]:List Int).contains of=false:=by simp; exact fun hh=>h2 hh.symm
  rw [this]; rfl
def bN.under {t:Tree} {dep:Int->Nat} (h:bN t dep 0) {to:Int} {nm:Bytes} {dT:Node} (hT:find t.nodes to=some dT):(fJ t.nodes dT.au nm).ino=er dT.au nm:=by
 unfold fJ er
 cases he:cN dT.au nm with
 |none=>rfl
 |some e =>
  obtain ⟨_,_,_,_,m,hm,_⟩:=h.vZ _ _ e hT (dR he).1
  simp [aJ,hm,(bH hm).2]
def Nr {t:Tree} {dep:Int->Nat} (h:bN t dep 0) (dir:Int) (s:Bytes):gS t dir s=ir t dir s:=by
 unfold gS ir
 by_cases h0:(dj t.nodes dir).2=0
 ·obtain ⟨d,d1,d2,d3⟩:=rb h0
  have hf:ED t d=(decide ((64:Int)<=d.au.length)||(decide ((12:Int)<=kx t.nodes dir)||decide ((1099511627776:Int)<=t.ag))):=by
   unfold ED
   rw [(bH d1).2,h.iB d1 d2,h.xi d1 d2]
  simp only [d3,hf,bne_self_eq_false,Bool.false_eq_true,↓reduceIte,ne_eq,not_true_eq_false]
  cases c8 s<;>simp
 ·rw [if_pos (by simpa using h0),if_pos h0]
def Pk {t:Tree} {dep:Int->Nat} (h:bN t dep 0) (dir:Int) (s:Bytes) (kind:Int):Ct t dir s kind=o8 t dir s kind:=by
 unfold Ct o8
 rw [Nr h]
def Xq {t:Tree} {dep:Int->Nat} (h:bN t dep 0) (ino dir:Int) (s:Bytes):Y0 t ino dir s=BC t ino dir s:=by
 unfold Y0 BC
 rw [Nr h]
def vf {nodes:List Node} {x:Int} {m:Node} (hx:find nodes x=some m):eN nodes m=dx nodes x:=by
 unfold eN dx
 simp only [aJ,hx,Option.getD_some,(bH hx).2]
def YI {t:Tree} {dep:Int->Nat} (h:bN t dep 0) (dir:Int) (s:Bytes):TY t dir s=Cc t dir s:=by
 unfold TY Cc
 split
 ·rfl
 ·rename_i hl
  obtain ⟨d,e,d1,d2,d3,d4,d5⟩:=look_ok (by simpa using hl)
  simp only [d5]
  obtain ⟨_,_,_,_,m,hm,_⟩:=h.vZ _ _ e d1 (dR d4).1
  have hm':find (bQ t.nodes dir s) e.ino=some m:=by
   rw [eP h.gx.fh d1,if_neg (h.ph d1 (dR d4).1)]; exact hm
  have hn:aJ t.nodes e.ino=m:=by simp [aJ,hm]
  rw [hn,vf hm']
def yd (nodes:List Node) (ino at' d:Int) (b:Int):∀(l:List Node) (most:Int),b<rh nodes ino at' d l most->b<most\/∃n,n∈l/\(n.kind==2&&fi nodes n.ino ino)=true/\b<mY nodes at' d n
 | [],most,h => .inl h
 |m::l,most,h=>by
  rw [rh] at h
  rcases yd nodes ino at' d b l _ h with h1|⟨n,h1,h2,h3⟩
  ·have e:nG nodes ino at' d m most=if (m.kind==2&&fi nodes m.ino ino)=true then (if mY nodes at' d m>most then mY nodes at' d m else most) else most:=rfl
   rw [e] at h1
   split at h1
   ·rename_i hb
    split at h1
    ·exact .inr ⟨m,List.mem_cons_self,hb,h1⟩
    ·exact .inl h1
   ·exact .inl h1
  ·exact .inr ⟨n,List.mem_cons_of_mem _ h1,h2,h3⟩
def bN.PG {t:Tree} {dep:Int->Nat} (h:bN t dep 0) {x to:Int} {m:Node} (hx:find t.nodes x=some m) (hk:m.kind=2) (hd:dep to<12) :
  xX t.nodes x (((dep to+1:Nat):Int))=decide ((12:Int)<ye t.nodes x (((dep to+1:Nat):Int))):=by
 have key:∀n,n∈t.nodes->lM t.nodes (((dep to+1:Nat):Int)) ((dep x:Nat):Int) x n=((n.kind==2&&fi t.nodes n.ino x)&&decide ((12:Int)<mY t.nodes (((dep to+1:Nat):Int)) ((dep x:Nat):Int) n)):=by
  intro n hn
  have hi:find t.nodes n.ino=some n:=(ga h.gx.fh).2 ⟨hn,rfl⟩
  unfold lM
  by_cases hk2:n.kind=2
  ·rw [h.qO x hi hk2,h.mj hi hk2]
   by_cases hb:fi t.nodes n.ino x=true
   ·rw [h.yc hx hk hd hi hk2 hb]
    have d1:=(h.deep _ _ hi hk2).1
    have d2:=(h.deep _ _ hx hk).1
    have d3:=h.td _ _ n hi hk2 rfl hb
    have w1:gG ((((dep to+1:Nat):Int))+((dep n.ino+1:Nat):Int))=(((dep to+1:Nat):Int))+((dep n.ino+1:Nat):Int):=bw (by omega) (by omega)
    have w2:gG ((((dep to+1:Nat):Int))+((dep n.ino+1:Nat):Int)-1)=(((dep to+1:Nat):Int))+((dep n.ino+1:Nat):Int)-1:=bw (by omega) (by omega)
    have w3:gG ((((dep to+1:Nat):Int))+((dep n.ino+1:Nat):Int)-1-(dep x:Nat))=(((dep to+1:Nat):Int))+((dep n.ino+1:Nat):Int)-1-(dep x:Nat):=bw (by omega) (by omega)
    rw [w1,w2,w3]
    unfold jN
    rw [if_pos hb,hb]
    simp only [hk2,beq_self_eq_true,Bool.true_and]
    rw [Bool.eq_iff_iff]
    simp only [Bool.or_eq_true,Bool.and_eq_true,decide_eq_true_eq,beq_iff_eq]
    split<;>omega
   ·have:fi t.nodes n.ino x=false:=by simpa using hb
    simp [this]
  ·have:(n.kind==2)=false:=by simpa using hk2
   simp [this]
 have hdx:(kx t.nodes x:Int)=((dep x:Nat):Int):=by rw [h.xi hx hk]
 unfold xX ye
 rw [h.iB hx hk,hdx]
 rw [Bool.eq_iff_iff]
 simp only [List.any_eq_true,decide_eq_true_eq]
 constructor
 ·rintro ⟨n,hn,hp⟩
  rw [key n hn] at hp
  simp only [Bool.and_eq_true,decide_eq_true_eq] at hp
  have:=(tI t.nodes x (((dep to+1:Nat):Int)) ((dep x:Nat):Int) t.nodes 0).2 n hn (by simp [hp.1.1,hp.1.2])
  omega
 ·intro hh
  rcases yd t.nodes x _ _ 12 t.nodes 0 hh with h1|⟨n,h1,h2,h3⟩
  ·omega
  ·exact ⟨n,h1,by rw [key n h1,h2]; simpa using h3⟩
def XP {t:Tree} {dep:Int->Nat} (h:bN t dep 0) (f:Int) (s:Bytes) (to:Int) (nm:Bytes):EY t f s to nm=xk t f s to nm:=by
 unfold EY xk
 split
 ·rfl
 rename_i c1
 split
 ·rfl
 rename_i c2
 split
 ·rfl
 obtain ⟨dF,e,e1,e2,e3,e4,e5⟩:=look_ok (by simpa using c1)
 obtain ⟨dT,g1,g2,g3⟩:=rb (show (dj t.nodes to).2=0 by simpa using c2)
 have hem:=(dR e4).1
 obtain ⟨_,_,x1,_,m,hm,hup⟩:=h.vZ _ _ e e1 hem
 have hnode:aJ t.nodes e.ino=m:=by simp [aJ,hm]
 simp only [e5,g3,hnode,h.under g1,h.qO e.ino g1 g2]
 split
 ·rfl
 rename_i c4
 split
 ·rfl
 rename_i c5
 have hup':er dT.au nm≠e.ino:=by simpa using c4
 have hnf:=h.ph e1 hem
 have hne:e.ino≠to:=fun hh=>by
  rw [hh,g1] at hm; injection hm with hm; subst hm
  simp only [g2,beq_self_eq_true,Bool.true_and] at c5
  rw [hh,bN.qX] at c5
  exact c5 rfl
 have hmany:∀there:Bool,(er dT.au nm==0) = !there->wH t f to dT.au there m.kind e.ino=manyN t f to dT.au m.kind (er dT.au nm) e.ino:=by
  intro there hth
  unfold wH manyN
  rw [hth,h.mj g1 g2,h.iB g1 g2]
  by_cases hd:dep to<12
  ·have hw:gG (((dep to:Nat):Int)+1)=((dep to+1:Nat):Int):=by
    rw [show (((dep to:Nat):Int)+1)=((dep to+1:Nat):Int) by omega]
    exact bw (by omega) (by omega)
   rw [hw]
   have hdd:decide ((12:Int)<((dep to+1:Nat):Int))=decide ((12:Int)<=((dep to:Nat):Int)):=by
    rw [decide_eq_decide]; omega
   rw [hdd]
   rcases h.kind _ _ hm with hk|hk
   ·simp [hk]
   ·rw [h.PG hm hk hd]
  ·have h1:decide ((12:Int)<((dep to+1:Nat):Int))=true:=by rw [decide_eq_true_eq]; omega
   have h2:decide ((12:Int)<=((dep to:Nat):Int))=true:=by rw [decide_eq_true_eq]; omega
   rw [h1,h2]; simp
 cases hfr:cN dT.au nm with
 |none =>
  have hu:er dT.au nm=0:=by simp [er,hfr]
  have hm1:=hmany false (by rw [hu]; rfl)
  rw [hu] at hm1 ⊢
  have hcl:ot t.nodes m.kind 0=0:=by simp [ot,h.zero]
  simp only [Option.isSome_none,Bool.false_and,Bool.false_eq_true,↓reduceIte,hcl,bne_self_eq_false,hm1]
  split
  ·rfl
  ·unfold qJ oS
   simp only [hnode,Bool.false_eq_true,↓reduceIte,bne_self_eq_false]
 |some e2 =>
  have hu:er dT.au nm=e2.ino:=by simp [er,hfr]
  obtain ⟨_,_,_,_,y,hy,_⟩:=h.vZ _ _ e2 g1 (dR hfr).1
  have hny:aJ t.nodes e2.ino=y:=by simp [aJ,hy]
  have hto:=h.ph g1 (dR hfr).1
  have hy0:=(h.num _ _ hy).1
  have hm1:=hmany true (by rw [hu]; simp; omega)
  have hnu:fJ t.nodes dT.au nm=y:=by simp [fJ,hfr,hny]
  rw [hu] at hm1 ⊢
  have hcl:ot t.nodes m.kind e2.ino=sx m y:=by
   unfold ot sx
   simp only [hy,Option.isSome_some,Bool.not_true,Bool.false_eq_true,↓reduceIte,hny]
  rw [hnu,hcl]
  simp only [Option.isSome_some,Bool.true_and,hm1]
  split
  ·rfl
  rename_i c6
  split
  ·rfl
  have hy00:y.au=[]:=by
   have:sx m y=0:=by simpa using c6
   unfold sx at this
   split at this
   ·cases this
   split at this
   ·cases this
   split at this
   ·cases this
   ·rename_i k3; exact List.length_eq_zero_iff.1 (by simpa using k3)
  have hnf2:e2.ino≠f:=fun hh=>by
   rw [hh,e1] at hy; injection hy with hy; subst hy
   rw [hy00] at hem; cases hem
  have hyl:find (bQ (bQ t.nodes f s) to nm) e2.ino=some y:=by
   have f1:=eP h.gx.fh e1 (s:=s)
   obtain ⟨dT',hT'⟩:∃dT',find (bQ t.nodes f s) to=some dT':=by rw [f1]; split<;>simp_all
   rw [eP (kc h.gx.fh f s) hT',if_neg hto,f1,if_neg hnf2]
   exact hy
  have hb:(e2.ino != 0)=true:=by simp; omega
  unfold qJ oS
  simp only [hnode,↓reduceIte,hb,vf hyl]
def PF {C:cu} {f p:Nat} {x:cJ} {r:ae} {M:ai} {z:Int} (hM:nth M p=some (.cells [.int .i64 z])) (h:C f [.agg (dy x),.ptr 0 0] [.cells [.int .i64 z]]=some (r,[.cells [.int .i64 z]])) (h3:r.qz=true) (h5:r.vl (qk [p])=r) :
  an C f [.agg (dy x),.ptr p 0] M=some (r,M):=by
 have hids:[ae.agg (dy x),.ptr p 0].flatMap ae.ids=[p]:=rfl
 have hi:jm M [p]=[]:=by simp [jm,hM,aQ.ids,ae.fV,ae.cQ]
 have e0:fa M [p]=[p]:=by simp [fa,hi,eE]
 have e1:reach M [p]=[p]:=by
  have ea:eE [] [p]=[p]:=rfl
  simp only [reach,ea,e0]
 have hfl:[ae.agg (dy x),.ptr p 0].all ae.flat=true:=rfl
 unfold an
 rw [if_pos hfl,hids,e1]
 have hpk:dN M (dh [p]) [p]=some [.cells [.int .i64 z]]:=by simp [dN,hM,aQ.flat,aQ.iY,ae.lu,ae.kO,ae.oN,ae.x5]
 rw [hpk]
 simp only [aL]
 rw [if_pos e0]
 have hrn:[ae.agg (dy x),.ptr p 0].map (ae.iY (dh [p]))=[ae.agg (dy x),.ptr 0 0]:=by
  simp [ae.iY,ae.lu,ae.kO,dh,dy]
 rw [hrn,h]
 simp only [aL]
 rw [if_pos ⟨by trivial,h3,rfl⟩,h5]
 have hs:fy [p] M [p] [.cells [.int .i64 z]]=M:=by
  simp only [fy,aQ.iY,List.map_cons,List.map_nil,ae.lu,ae.kO]
  exact ij hM
 rw [hs]
def adM (xs:List ae) (z:Int):dN [.arr 3 0 xs,.cells [.int .i64 z]] (dh [0,1]) [0,1]=some [.arr 3 0 xs,.cells [.int .i64 z]]:=rfl
section
attribute [local irreducible] cT cR gz gK bR kr af an aZ aK
def af3 (e:cJ) (z:Int):af aV 132 [dw e,.ptr 0 0] [.cells [.int .i64 z]]=some (.bool (decide (e.ag<z)),[.cells [.int .i64 z]]):=by
 refine aq rfl rfl rfl ?_
 simp only [Kk,aeF,dw,dy,EN,simprocAttr]
def aby (e:cJ) (z:Int) (p:Nat) (M:ai) (hM:nth M p=some (.cells [.int .i64 z])):an (af aV) 132 [.agg (dy e),.ptr p 0] M=some (.bool (decide (e.ag<z)),M) :=
 PF hM (af3 e z) rfl rfl
def tK (z:Int):List cJ->Nat->Int
 | [],_ => -1
 |e::r,i=>if decide (e.ag<z)=true then (i:Int) else tK z r (i+1)
def XL {xs:List cJ} {z:Int} (hn:xs.length<=100000) {k:List K} {R:Int->Option (ae×ai)}
  (hx:∀e,kr (af aV) [.tmp 4] 2 k ⟨.exit 0,e,[.arr 3 0 (xs.map dw),.cells [.int .i64 z]]⟩=R (-1)) (hr:∀(i:Nat),kr (af aV) [.tmp 4] 2 k ⟨.ret,[(4,.int .i64 i)],[.arr 3 0 (xs.map dw),.cells [.int .i64 z]]⟩=R i) :
  ∀(l pre:List cJ),xs=pre++l->cT (af aV) [.tmp 4] 2 k (.loop [0,1,7,8] M6) [(0,.bu 0 0 3 0 xs.length),(1,.func 132 [.ptr 1 0]),(7,.int .i64 xs.length),(8,.int .i64 pre.length)] [.arr 3 0 (xs.map dw),.cells [.int .i64 z]]=R (tK z l pre.length):=by
 intro l
 induction l with
 |nil =>
  intro pre h
  rw [aE]
  simp only [Ci,bZ h,EN,simprocAttr]
  exact hx _
 |cons n rest ih =>
  intro pre h
  rw [aE]
  have hlen:pre.length+1<=100000:=by rw [h] at hn; simp at hn; omega
  have hw:IntKind.i64.wrap ((pre.length:Int)+1)=((pre++[n]).length:Int):=by rw [bw (by omega) (by omega)]; exact bp
  have hi:=ih (pre++[n]) (by rw [h]; simp)
  simp only [List.length_append,List.length_cons,List.length_nil] at hi
  have q59:=fun e=>aby e z 1 [.arr 3 0 (xs.map dw),.cells [.int .i64 z]] rfl
  have hlt:((pre.length:Int)<((xs.length-0:Nat):Int))=True:=by simp only [eq_iff_iff,iff_true]; rw [h]; simp; omega
  rw [tK]
  simp only [Ci,aY h,aW h,YD,Yx,q59,hlt,EN,simprocAttr]
  refine aH (fun hb=>?_) (fun hb=>?_)
  ·simp only [Ci,hb,EN,simprocAttr]
   exact hr _
  ·simp only [Ci,hb,hw,Bool.false_eq_true,EN,simprocAttr]
   exact hi
def c99 (xs:List cJ) (z:Int) (hn:xs.length<=100000):af aV 99 [.bu 0 0 3 0 xs.length,.func 132 [.ptr 1 0]] [.arr 3 0 (xs.map dw),.cells [.int .i64 z]]=some (.int .i64 (tK z xs 0),[.arr 3 0 (xs.map dw),.cells [.int .i64 z]]):=by
 refine aq rfl rfl rfl ?_
 simp only [La,Ci,Nat.sub_zero,EN,simprocAttr]
 exact XL (R:=fun i=>some (.int .i64 i,[.arr 3 0 (xs.map dw),.cells [.int .i64 z]])) hn (fun e=>by simp only [Ci,EN,simprocAttr]) (fun i=>by simp only [Ci,EN,simprocAttr]) xs [] rfl
def k99 (xs:List cJ) (z:Int) (hn:xs.length<=100000):an (af aV) 99 [.bu 0 0 3 0 xs.length,.func 132 [.ptr 1 0]] [.arr 3 0 (xs.map dw),.cells [.int .i64 z]]=some (.int .i64 (tK z xs 0),[.arr 3 0 (xs.map dw),.cells [.int .i64 z]]) :=
 eL (ids:=[0,1]) rfl rfl (adM ..) rfl rfl (c99 xs z hn) rfl rfl rfl rfl rfl
def ft (z:Int) (l:List cJ):List cJ:=l.filter fun e => !decide (e.ag<z)
def ri (z:Int) (x:cJ) (l:List cJ):ft z (x::l)=if decide (x.ag<z)=true then ft z l else x::ft z l:=by
 unfold ft
 rw [List.filter_cons]
 cases decide (x.ag<z)<;>rfl
def OA (xs:List cJ) (b:Nat) (o n:cJ) (h:xs[b]?=some o):(dG (xs.map dw) b (putCells (dw o) 0 (dy n)))=(xs.set b n).map dw:=by
 have:putCells (dw o) 0 (dy n)=dw n:=rfl
 rw [this,cF,List.map_set]
def Ye (x:cJ):(dy x).all ae.plainCell=true:=rfl
def QN {z:Int} {N:Nat} (hN:N<=100000) {k:List K} {R:List cJ->Nat->Option (ae×ai)}
  (hx:∀(A G:List cJ) v q,A.length+G.length=N->G≠[]->kr (af aV) [.tmp 4] 2 k ⟨.exit 0,[(0,.bu 0 0 3 0 N),(1,.func 132 [.ptr 1 0]),(5,.int .i64 A.length),(6,v),(19,q)],[.arr 3 0 ((A++G).map dw),.cells [.int .i64 z]]⟩=R A G.length) :
  ∀(T A G:List cJ),A.length+G.length+T.length=N->G≠[]->cT (af aV) [.tmp 4] 2 k (.loop [0,1,5,6] Qq) [(0,.bu 0 0 3 0 N),(1,.func 132 [.ptr 1 0]),(5,.int .i64 A.length),(6,.int .i64 ((A.length+G.length:Nat):Int))] [.arr 3 0 ((A++G++T).map dw),.cells [.int .i64 z]]=R (A++ft z T) (N-(A++ft z T).length):=by
 intro T
 induction T with
 |nil =>
  intro A G hl hg
  have hlt:(((A.length+G.length:Nat):Int)<((N-0:Nat):Int))=False:=by simp only [eq_iff_iff,iff_false]; simp at hl ⊢; omega
  have hk:ft z []=[]:=rfl
  have hgl:N-(A++ft z []).length=G.length:=by rw [hk]; simp at hl ⊢; omega
  rw [hgl,hk,List.append_nil,List.append_nil]
  rw [aE]
  simp only [zd,hlt,EN,simprocAttr]
  exact hx A G _ _ (by simpa using hl) hg
 |cons x T ih =>
  intro A G hl hg
  simp only [List.length_cons] at hl
  have hlt:(((A.length+G.length:Nat):Int)<((N-0:Nat):Int))=True:=by simp only [eq_iff_iff,iff_true]; omega
  have hnn:((0:Int)<=((A.length+G.length:Nat):Int))=True:=by simp only [eq_iff_iff,iff_true]; omega
  have hat:(A++G++x::T)[A.length+G.length]?=some x:=by
   rw [List.getElem?_append_right (by simp)]; simp
  have hw:IntKind.i64.wrap (((A.length+G.length:Nat):Int)+1)=((A.length+G.length+1:Nat):Int):=by rw [bw (by omega) (by omega)]; omega
  have hw1:IntKind.i64.wrap ((A.length:Int)+1)=((A.length+1:Nat):Int):=by rw [bw (by omega) (by omega)]; omega
  have q59:=fun e a b M=>aby e z 1 (a :: .cells [.int .i64 z]::b::M) rfl
  obtain ⟨g,G',hG⟩:=List.exists_cons_of_ne_nil hg
  have hga:(A++G++x::T)[A.length]?=some g:=by rw [hG]; simp
  have hset:(A++G++x::T).set A.length x=(A++[x])++(G'++[x])++T:=by rw [hG]; simp
  have hlt2:((A.length:Int)<((N-0:Nat):Int))=True:=by simp only [eq_iff_iff,iff_true]; omega
  have h1:=ih (A++[x]) (G'++[x]) (by rw [hG] at hl; simp at hl ⊢; omega) (by simp)
  have h2:=ih A (G++[x]) (by simp; omega) (by simp)
  have hl1:(((A++[x]).length+(G'++[x]).length:Nat):Int)=((A.length+G.length+1:Nat):Int):=by rw [hG]; simp; omega
  have hl2:((A.length+(G++[x]).length:Nat):Int)=((A.length+G.length+1:Nat):Int):=by simp; omega
  have hl3:((A++[x]).length:Int)=((A.length+1:Nat):Int):=by simp
  have e2:A++(G++[x])++T=A++G++x::T:=by simp
  have e1:A++[x]++ft z T=A++x::ft z T:=by simp
  rw [hl1,hl3,e1] at h1
  rw [hl2,e2] at h2
  simp only [List.length_append,List.length_cons] at h1 h2
  have hput:=OA (A++G++x::T) A.length g x hga
  rw [hset] at hput
  rw [ri]
  rw [aE]
  simp only [zd,hlt,hnn,hat,YD,Yx,Ua,q59,EN,simprocAttr]
  refine aH (fun hb=>?_) (fun hb=>?_)
  ·have hb':decide (x.ag<z)=false:=by simpa using hb
   simp only [zd,hb',hlt2,hga,hput,YD,Yx,Ye,hw,hw1,Bool.false_eq_true,EN,simprocAttr]
   exact h1
  ·have hb':decide (x.ag<z)=true:=by simpa using hb
   simp only [zd,hb',hw,EN,simprocAttr]
   exact h2
def Cg:cJ:=⟨[],0,0⟩
def yf (z:Int):∀(l:List cJ) (i:Nat),tK z l i = -1->ft z l=l
 | [],_,_=>rfl
 |x::l,i,h=>by
  rw [tK] at h
  split at h
  ·omega
  ·rename_i hx
   rw [ri,if_neg hx,yf z l _ h]
def yg (z:Int):∀(l:List cJ) (i:Nat),tK z l i ≠ -1->∃A x T,l=A++x::T/\tK z l i=((i+A.length:Nat):Int)/\ft z l=A++ft z T
 | [],_,h=>absurd rfl h
 |x::l,i,h=>by
  rw [tK] at h ⊢
  rw [ri]
  split
  ·rename_i hx; exact ⟨[],x,l,rfl,rfl,rfl⟩
  ·rename_i hx
   rw [if_neg hx] at h
   obtain ⟨A,y,T,h1,h2,h3⟩:=yg z l (i+1) h
   exact ⟨x::A,y,T,by rw [h1]; rfl,by rw [h2]; simp; omega,by rw [h3]; rfl⟩
def zV (m:Nat):ae:=if m=0 then .slice .sh [] else .bu 0 0 3 0 m
def FX (A G:List cJ):((A++G).map dw).take A.length++(List.replicate G.length (ae.agg [.str [],.int .i64 0,.int .i64 0])++((A++G).map dw).drop (A++G).length)=(A++List.replicate G.length Cg).map dw:=by
 have h1:((A++G).map dw).take A.length=A.map dw:=by simp [List.take_append_of_le_length]
 have h2:((A++G).map dw).drop (A++G).length=[]:=by rw [List.drop_eq_nil_iff]; simp
 rw [h1,h2]
 simp [List.map_replicate]
 exact .inr rfl
def aaw (xs:List cJ) (z:Int) (hn:xs.length<=100000) (h0:xs≠[]):af aV 130 [.bu 0 0 3 0 xs.length,.func 132 [.ptr 1 0]] [.arr 3 0 (xs.map dw),.cells [.int .i64 z]] =
  some (zV (ft z xs).length,[.arr 3 0 ((ft z xs++List.replicate (xs.length-(ft z xs).length) Cg).map dw),.cells [.int .i64 z]]):=by
 have q89:=k99 xs z hn
 refine aq rfl rfl rfl ?_
 by_cases hi:tK z xs 0 = -1
 ·have hk:=yf z xs 0 hi
  have hb:(tK z xs 0 == -1)=true:=by simpa using hi
  have hl:xs.length≠0:=fun hh=>h0 (List.length_eq_zero_iff.1 hh)
  rw [hk]
  simp only [Ba,zd,q89,hb,EN,simprocAttr]
  simp [zV,hl]
 ·obtain ⟨A,x,T,h1,h2,h3⟩:=yg z xs 0 hi
  have hb:(tK z xs 0 == -1)=false:=by simpa using hi
  simp only [Nat.zero_add] at h2
  have hlen:xs.length=A.length+(T.length+1):=by rw [h1]; simp
  have hw:IntKind.i64.wrap ((A.length:Int)+1)=((A.length+[x].length:Nat):Int):=by rw [bw (by omega) (by omega)]; simp
  have hlp:=fun k R hx=>QN (z:=z) hn (k:=k) (R:=R) hx T A [x] (by simp; omega) (by simp)
  have e1:A++[x]++T=xs:=by rw [h1]; simp
  rw [e1] at hlp
  rw [h2] at hb q89
  rw [h3]
  simp only [Ba,zd,q89,hb,hw,EN,simprocAttr]
  refine (hlp _ (fun A' g=>some (zV A'.length,[.arr 3 0 ((A'++List.replicate g Cg).map dw),.cells [.int .i64 z]])) (fun A' G v q hl hg=>?_)).trans (by simp only [List.length_append])
  have hgl:G.length≠0:=fun hh=>hg (List.length_eq_zero_iff.1 hh)
  have b1:(((A'.length:Nat):Int)<=(xs.length:Int))=True:=by simp only [eq_iff_iff,iff_true]; omega
  have b2:(((A'.length:Nat):Int)==(xs.length:Int))=false:=by simp; omega
  have hcl:=FX A' G
  have hN:(A'++G).length=xs.length:=by simp; omega
  have hd:xs.length-A'.length=G.length:=by omega
  rw [hN] at hcl
  have hz0:Int.toNat ((0:Nat):Int)=0:=rfl
  have hb0:((0:Int)<=((A'.length:Nat):Int))=True:=by simp
  by_cases hA:A'.length=0
  ·have b3:((0:Int)==((A'.length:Nat):Int))=true:=by simp [hA]
   simp only [zd,cS,Nat.sub_zero,Int.le_refl,b1,b2,hd,hcl,b3,hz0,hb0,EN,simprocAttr]
   simp [zV,hA]
  ·have b3:((0:Int)==((A'.length:Nat):Int))=false:=by simp; omega
   simp only [zd,cS,Nat.sub_zero,Int.le_refl,b1,b2,hd,hcl,b3,hz0,hb0,EN,simprocAttr]
   simp [zV,hA]
end
structure cf where
 aj:Int
 handle:Int
 ino:Int
 deriving DecidableEq,Inhabited
structure bE where
 ino:Int
 nodes:Int
 bytes:Int
 deriving DecidableEq,Inhabited
structure il where
 oY:Int
 z7:Int
 node:Node
 deriving DecidableEq,Inhabited
structure fq where
 id:Int
 ino:Int
 at':Int
 deriving DecidableEq,Inhabited
structure eK where
 now:Tree
 tick:Int
 since:List Int
 cP:List il
 taken:List fq
 next:Int
 deriving DecidableEq,Inhabited
structure aa where
 s:eK
 holds:List cf
 ct:List bE
 deriving DecidableEq,Inhabited
structure dL where
 kind:Int
 aj:Int
 path:Bytes
 ng:Bytes
 n:Int
 m:Int
 handle:Int
 data:Bytes
 deriving DecidableEq,Inhabited
structure oV where
 err:Int
 ino:Int
 kind:Int
 n:Int
 m:Int
 names:List Bytes
 data:Bytes
 deriving DecidableEq,Inhabited
structure bq where
 aj:Int
 seq:Int
 nj:oV
 deriving DecidableEq,Inhabited
def fj (h:cf):List ae:=[.int .i64 h.aj,.int .i64 h.handle,.int .i64 h.ino]
def fe (h:cf):ae := .agg (fj h)
abbrev dn (l:List cf):ae := .slice .sh (l.map fe)
def eJ (q:bE):List ae:=[.int .i64 q.ino,.int .i64 q.nodes,.int .i64 q.bytes]
def bT (q:bE):ae := .agg (eJ q)
abbrev bL (l:List bE):ae := .slice .sh (l.map bT)
def gm (p:il):List ae := .int .i64 p.oY :: .int .i64 p.z7::az p.node
def jl (p:il):ae := .agg (gm p)
abbrev jf (l:List il):ae := .slice .sh (l.map jl)
def dB (s:fq):List ae:=[.int .i64 s.id,.int .i64 s.ino,.int .i64 s.at']
def iK (s:fq):ae := .agg (dB s)
abbrev ei (l:List fq):ae := .slice .sh (l.map iK)
abbrev kE (l:List Int):ae := .slice .sh (l.map pg)
abbrev fC (l:List Bytes):ae := .slice .sh (l.map ae.str)
def bo (s:eK):List ae:=[aF s.now.nodes,.int .i64 s.now.next,.int .i64 s.now.ag,.int .i64 s.tick,kE s.since,jf s.cP,ei s.taken,.int .i64 s.next]
def jg (s:eK):ae := .agg (bo s)
def bB (f:aa):List ae:=[aF f.s.now.nodes,.int .i64 f.s.now.next,.int .i64 f.s.now.ag,.int .i64 f.s.tick,kE f.s.since,jf f.s.cP,ei f.s.taken,.int .i64 f.s.next,dn f.holds,bL f.ct]
def cz (o:dL):List ae:=[.int .i64 o.kind,.int .i64 o.aj,.str o.path,.str o.ng,.int .i64 o.n,.int .i64 o.m,.int .i64 o.handle,cY o.data]
def ba (a:oV):List ae:=[.int .i64 a.err,.int .i64 a.ino,.int .i64 a.kind,.int .i64 a.n,.int .i64 a.m,fC a.names,cY a.data]
def bU (s:bq):List ae := .int .i64 s.aj :: .int .i64 s.seq::ba s.nj
def bK (s:bq):ae := .agg (bU s)
abbrev bt (l:List bq):ae := .slice .sh (l.map bK)
def AJ (n:cf):(fe n).cells=fj n:=rfl
def zl (n:bE):(bT n).cells=eJ n:=rfl
def AL (n:il):(jl n).cells=gm n:=rfl
def AO (n:fq):(iK n).cells=dB n:=rfl
def AN (n:bq):(bK n).cells=bU n:=rfl
def Ds (n:cf):(fj n).length=3:=rfl
def BA (n:bE):(eJ n).length=3:=rfl
def Du (n:il):(gm n).length=8:=rfl
def Dw (n:fq):(dB n).length=3:=rfl
def Dv (n:bq):(bU n).length=9:=rfl
def lA {α:Type} (f:α->ae) (k:Nat) (h:∀a,(f a).cells.length=k) (l:List α):wid (l.map f) k=True:=by
 simp only [eq_iff_iff,iff_true]
 intro x hx
 obtain ⟨n,_,rfl⟩:=List.mem_map.1 hx
 exact h n
def HA (l:List cf):wid (l.map fe) 3=True:=lA fe _ (fun _=>rfl) l
def D8 (l:List bE):wid (l.map bT) 3=True:=lA bT _ (fun _=>rfl) l
def HB (l:List il):wid (l.map jl) 8=True:=lA jl _ (fun _=>rfl) l
def HD (l:List fq):wid (l.map iK) 3=True:=lA iK _ (fun _=>rfl) l
def HC (l:List bq):wid (l.map bK) 9=True:=lA bK _ (fun _=>rfl) l
def OW (l:List Bytes):wid (l.map ae.str) 1=True:=lA ae.str _ (fun _=>rfl) l
def tkH (n:cf):List.take 3 (fj n)=fj n:=rfl
def shH (n:cf):List.map ae.shut (fj n)=fj n:=rfl
def tkQ (n:bE):List.take 3 (eJ n)=eJ n:=rfl
def shQ (n:bE):List.map ae.shut (eJ n)=eJ n:=rfl
def tkP (n:il):List.take 8 (gm n)=gm n:=rfl
def shP (n:il):List.map ae.shut (gm n)=gm n:=rfl
def tkS (n:fq):List.take 3 (dB n)=dB n:=rfl
def shS (n:fq):List.map ae.shut (dB n)=dB n:=rfl
def tkU (n:bq):List.take 9 (bU n)=bU n:=rfl
def shU (n:bq):List.map ae.shut (bU n)=bU n:=rfl
def aaH:((2:Nat):Int)=2:=rfl
def D7:Int.toNat 0=0:=rfl
def YE:Int.toNat 1=1:=rfl
def agW (a b c d:Int):eV [FK.i,FK.i] [.int .i64 a,.int .i64 b] [.int .i64 c,.int .i64 d]=some (a==c&&b==d):=by
 simp [eV,fW]
def PO (a b c a' b' c':Int):eV [FK.i,FK.i,FK.i] [.int .i64 a,.int .i64 b,.int .i64 c] [.int .i64 a',.int .i64 b',.int .i64 c']=some (a==a'&&(b==b'&&c==c')):=by
 simp [eV,fW]
set_option linter.defProp false in
def EVF:=And.intro @agW (And.intro @PO (And.intro @List.getElem?_cons_zero.{0} (And.intro @List.getElem?_cons_succ.{0} (And.intro @aaH (And.intro @D7 (And.intro @YE (And.intro @Nat.zero_mul (And.intro @Nat.one_mul (And.intro @AJ (And.intro @zl (And.intro @AL (And.intro @AO (And.intro @AN (And.intro @Ds (And.intro @BA (And.intro @Du (And.intro @Dw (And.intro @Dv (And.intro @HA (And.intro @D8 (And.intro @HB (And.intro @HD (And.intro @HC (And.intro @OW (And.intro @tkH (And.intro @shH (And.intro @tkQ (And.intro @shQ (And.intro @tkP (And.intro @shP (And.intro @tkS (And.intro @shS (And.intro @tkU (And.intro @shU (And.intro @tkN (And.intro @shN (And.intro @YD (@Yx))))))))))))))))))))))))))))))))))))))
set_option linter.defProp false in
def EW:=And.intro EVF EN
section
attribute [local irreducible] cT cR gz gK bR kr af an aZ aK
def agy (h:cf):af aV 180 [fe h] []=some (.agg [.int .i64 h.aj,.int .i64 h.handle],[]):=by
 refine aq rfl rfl rfl ?_
 simp only [KQ,aeT,fe,fj,EW,simprocAttr]
def abI (h:cf) (M:ai):an (af aV) 180 [.agg (fj h)] M=some (.agg [.int .i64 h.aj,.int .i64 h.handle],M):=cO (agy h) M
def mN (n:Node):Bool:=n.kind==1&&n.bS==0
def c138 (n:Node):af aV 138 [bm n] []=some (.bool (mN n),[]):=by
 refine aq rfl rfl rfl ?_
 simp only [Ko,Y9,bm,az,EW,simprocAttr]
 repeat' ((first|refine aH (fun hb=>?_) (fun hb=>?_)|refine bj (fun hb=>?_) (fun hb=>?_)|refine cj (fun hb=>?_) (fun hb=>?_))<;>simp only [hb,EW,Y9,simprocAttr])
 all_goals (simp_all only [mN,jZ,↓reduceIte,reduceCtorEq,bne_self_eq_false]; done)
def VD (n:Node) (M:ai):an (af aV) 138 [.agg (az n)] M=some (.bool (mN n),M):=cO (c138 n) M
def EK (c h:Int):Bool:=decide (0<=c)&&decide (c<16)&&decide (0<=h)&&decide (h<100)
def af4 (c h:Int):af aV 135 [.agg [.int .i64 c,.int .i64 h]] []=some (.bool (EK c h),[]):=by
 refine aq rfl rfl rfl ?_
 simp only [Kl,Y8,EW,simprocAttr]
 repeat' ((first|refine aH (fun hb=>?_) (fun hb=>?_)|refine bj (fun hb=>?_) (fun hb=>?_)|refine cj (fun hb=>?_) (fun hb=>?_))<;>simp only [hb,EW,Y8,simprocAttr])
 all_goals (simp_all only [EK,jZ,↓reduceIte,reduceCtorEq,bne_self_eq_false]; done)
def ahj (c h:Int) (M:ai):an (af aV) 135 [.agg [.int .i64 c,.int .i64 h]] M=some (.bool (EK c h),M):=cO (af4 c h) M
def TL (a b:Int):Int:=if (a != 0)=true then a else b
def ajc (a b:Int) (ha:(a != 0)=false):TL a b=b:=by simp [TL,ha]
def agz (a b:Int):af aV 181 [.slice .sh [.int .i64 a,.int .i64 b]] []=some (.int .i64 (TL a b),[]):=by
 refine aq rfl rfl rfl ?_
 simp only [EB,Ah,EW,simprocAttr]
 rw [aE]
 simp only [EB,Ah,EW,simprocAttr]
 refine aH (fun hb=>?_) (fun hb=>?_)
 ·simp only [Ah,hb,TL,EW,simprocAttr]
 ·have w1:IntKind.i64.wrap 1=1:=bw (by decide) (by decide)
  have w2:IntKind.i64.wrap 2=2:=bw (by decide) (by decide)
  simp only [Ah,hb,ajc a b hb,w1,EW,simprocAttr]
  rw [aE]
  simp only [Ah,EW,simprocAttr]
  refine aH (fun hc=>?_) (fun hc=>?_)
  ·simp only [Ah,hc,EW,simprocAttr]
  ·simp only [Ah,hc,w2,EW,simprocAttr]
   rw [aE]
   simp only [Ah,EW,simprocAttr]
   have:b=0:=by simpa using hc
   rw [this]
def ahx (a b:Int) (M:ai):an (af aV) 181 [.slice .sh [.int .i64 a,.int .i64 b]] M=some (.int .i64 (TL a b),M):=cO (agz a b) M
def da (x:cf) (c h:Int):Int:=TL (eF x.aj c) (eF x.handle h)
def af6 (c h a b:Int) (x:cf):af aV 137 [.agg [.int .i64 c,.int .i64 h],fe x,.agg [.int .i64 a,.int .i64 b]] []=some (.int .i64 (da x c h),[]):=by
 refine aq rfl rfl rfl ?_
 simp only [Kn,aeG,fe,abI,k44,ahx,da,EW,simprocAttr]
def abz (c h a b:Int) (x:cf) (M:ai):an (af aV) 137 [.agg [.int .i64 c,.int .i64 h],.agg (fj x),.agg [.int .i64 a,.int .i64 b]] M=some (.int .i64 (da x c h),M):=cO (af6 c h a b x) M
def jh (c h:Int) (x:cf):Bool:=x.aj==c&&x.handle==h
def af7 (c h:Int) (x:cf):af aV 142 [.agg [.int .i64 c,.int .i64 h],fe x] []=some (.bool (jh c h x),[]):=by
 refine aq rfl rfl rfl ?_
 simp only [Kq,aeH,fe,abI,jh,EW,simprocAttr]
def ahl (c h:Int) (x:cf) (M:ai):an (af aV) 142 [.agg [.int .i64 c,.int .i64 h],.agg (fj x)] M=some (.bool (jh c h x),M):=cO (af7 c h x) M
end
section
def ka {α:Type} (p:α->Bool):List α->Nat->Int
 | [],_ => -1
 |x::r,i=>if p x=true then (i:Int) else ka p r (i+1)
def yh {α:Type} (p:α->Bool):∀(l:List α) (i:Nat),decide (0<=ka p l i)=l.any p
 | [],_=>rfl
 |x::r,i=>by
  rw [ka,List.any_cons]
  by_cases h:p x=true
  ·simp [h]
  ·simp only [h,Bool.false_eq_true,if_false,Bool.false_or]
   exact yh p r (i+1)
def wx {α:Type} (p:α->Bool) (l:List α):decide (0<=ka p l 0)=l.any p:=yh p l 0
def pZ {α:Type} (p:α->Bool):∀(l:List α) (i:Nat),(ka p l i = -1/\l.find? p=none)\/∃(m:Nat) (x:α),ka p l i=((i+m:Nat):Int)/\l[m]?=some x/\l.find? p=some x/\l.eraseIdx m=l.eraseP p
 | [],i => .inl ⟨rfl,rfl⟩
 |x::r,i=>by
  rw [ka]
  by_cases h:p x=true
  ·exact .inr ⟨0,x,by simp [h],rfl,by simp [h],by simp [h]⟩
  ·rcases pZ p r (i+1) with ⟨h1,h2⟩|⟨m,y,h1,h2,h3,h4⟩
   ·exact .inl ⟨by simp [h,h1],by simp [h,h2]⟩
   ·exact .inr ⟨m+1,y,by simp only [h,Bool.false_eq_true,if_false,h1]; simp; omega,by simpa using h2,by simp [h,h3],by simp [h,h4]⟩
structure vD {α:Type} (lt:α->Bool) (l:List α) (b:Nat):Prop where
 le:b<=l.length
 lt:∀h n,l[h]?=some n->(lt n=true↔h<b)
def iW {α:Type} (lt:α->Bool) (l:List α):Nat:=(l.takeWhile lt).length
def wG {α:Type} {lt:α->Bool}:∀ {l:List α},l.Pairwise (fun a b=>lt b=true->lt a=true)->vD lt l (iW lt l)
 | [],_=>⟨Nat.le_refl _,fun h n hn=>by simp at hn⟩
 |a::r,h=>by
  obtain ⟨h1,h2⟩:=List.pairwise_cons.1 h
  obtain ⟨i1,i2⟩:=wG h2
  unfold iW at i1 i2 ⊢
  by_cases ha:lt a=true
  ·rw [List.takeWhile_cons,if_pos ha]
   refine ⟨by simpa using i1,fun k n hn=>?_⟩
   cases k with
   |zero=>simp at hn; subst hn; simp [ha]
   |succ k=>rw [i2 k n (by simpa using hn)]; simp
  ·rw [List.takeWhile_cons,if_neg ha]
   refine ⟨by simp,fun k n hn=>?_⟩
   simp only [List.length_nil,Nat.not_lt_zero,iff_false]
   cases k with
   |zero=>simp at hn; subst hn; exact ha
   |succ k=>exact fun hc=>ha (h1 n (List.mem_of_getElem? (by simpa using hn)) hc)
def gb {α:Type} (eq:α->Bool) (l:List α) (b:Nat):Bool:=match l[b]? with
 |some n=>eq n
 |none=>false
def pQ {C:cu} {f p:Nat} {vs:List ae} {r:ae} {M:ai} {cs:List ae} (hM:nth M p=some (.cells cs)) (h:C f (vs++[.ptr 0 0]) [.cells cs]=some (r,[.cells cs])) (h1:vs.all ae.flat=true) (h2:vs.flatMap ae.ids=[]) (h3:r.qz=true)
  (h4:vs.map (ae.iY (dh [p]))=vs) (h5:r.vl (qk [p])=r) (h6:cs.all ae.oN=true) (h7:cs.flatMap ae.fV=[]) (h8:cs.map (ae.lu (dh [p]))=cs) (h10:cs.map (ae.lu (qk [p]))=cs) :
  an C f (vs++[.ptr p 0]) M=some (r,M):=by
 have hids:(vs++[ae.ptr p 0]).flatMap ae.ids=[p]:=by simp [ae.ids,ae.fV,ae.cQ,h2]
 have hi:jm M [p]=[]:=by simp [jm,hM,aQ.ids,h7]
 have e0:fa M [p]=[p]:=by simp [fa,hi,eE]
 have e1:reach M [p]=[p]:=by
  have ea:eE [] [p]=[p]:=rfl
  simp only [reach,ea,e0]
 have hfl:(vs++[ae.ptr p 0]).all ae.flat=true:=by rw [List.all_append,h1]; rfl
 unfold an
 rw [if_pos hfl,hids,e1]
 have hpk:dN M (dh [p]) [p]=some [.cells cs]:=by simp [dN,hM,aQ.flat,h6,aQ.iY,h8]
 rw [hpk]
 simp only [aL]
 rw [if_pos e0]
 have hrn:(vs++[ae.ptr p 0]).map (ae.iY (dh [p]))=vs++[.ptr 0 0]:=by
  rw [List.map_append,h4]
  simp [ae.iY,ae.lu,ae.kO,dh]
 rw [hrn,h]
 simp only [aL]
 rw [if_pos ⟨by trivial,h3,by simp [aQ.flat,h6]⟩,h5]
 simp only [fy,aQ.iY,h10]
 rw [ij hM]
def N2 (z:Int):dN [.cells [.int .i64 z]] (dh [0]) [0]=some [.cells [.int .i64 z]]:=rfl
def DS (u v:Int):dN [.cells [.int .i64 u],.cells [.int .i64 v]] (dh [0,1]) [0,1]=some [.cells [.int .i64 u],.cells [.int .i64 v]]:=rfl
attribute [local irreducible] cT cR gz gK bR kr af an aZ aK
def agA (x:cf) (z:Int):af aV 184 [fe x,.ptr 0 0] [.cells [.int .i64 z]]=some (.bool (x.ino==z),[.cells [.int .i64 z]]):=by
 refine aq rfl rfl rfl ?_
 simp only [KR,aeU,fe,fj,EW,simprocAttr]
def afI (x:cf) (z:Int):af aV 112 [fe x,.ptr 0 0] [.cells [.int .i64 z]]=some (.bool (x.ino==z),[.cells [.int .i64 z]]):=by
 refine aq rfl rfl rfl ?_
 simp only [J5,aez,fe,fj,EW,simprocAttr]
def agF (q:bE) (ino:Int):af aV 190 [bT q,.int .i64 ino] []=some (.int .i64 (eF q.ino ino),[]):=by
 refine aq rfl rfl rfl ?_
 simp only [KW,aeX,bT,eJ,k44,EW,simprocAttr]
def abL (n:bE) (ino:Int) (M:ai):an (af aV) 190 [.agg (eJ n),.int .i64 ino] M=some (.int .i64 (eF n.ino ino),M):=cO (agF n ino) M
def agC (n:Node) (ino:Int):af aV 186 [bm n,.int .i64 ino] []=some (.int .i64 (eF n.ino ino),[]):=by
 refine aq rfl rfl rfl ?_
 simp only [KS,aeV,bm,az,k44,EW,simprocAttr]
def abJ (n:Node) (ino:Int) (M:ai):an (af aV) 186 [.agg (az n),.int .i64 ino] M=some (.int .i64 (eF n.ino ino),M):=cO (agC n ino) M
def c43 (n:bq) (ino:Int):af aV 43 [bK n,.int .i64 ino] []=some (.int .i64 (eF n.aj ino),[]):=by
 refine aq rfl rfl rfl ?_
 simp only [Va,E43,bK,bU,k44,EW,simprocAttr]
def k43 (n:bq) (ino:Int) (M:ai):an (af aV) 43 [.agg (bU n),.int .i64 ino] M=some (.int .i64 (eF n.aj ino),M):=cO (c43 n ino) M
def pC (oY z7:Int) (x:fq):Bool:=decide (oY<=x.at')&&decide (x.at'<z7)
def agD (x:fq) (a b:Int):af aV 188 [iK x,.ptr 0 0,.ptr 1 0] [.cells [.int .i64 a],.cells [.int .i64 b]]=some (.bool (pC a b x),[.cells [.int .i64 a],.cells [.int .i64 b]]):=by
 refine aq rfl rfl rfl ?_
 simp only [KU,Ze,iK,dB,EW,simprocAttr]
 repeat' ((first|refine aH (fun hb=>?_) (fun hb=>?_)|refine bj (fun hb=>?_) (fun hb=>?_)|refine cj (fun hb=>?_) (fun hb=>?_))<;>simp only [hb,EW,Ze,simprocAttr])
 all_goals (simp_all only [pC,jZ,↓reduceIte,reduceCtorEq,bne_self_eq_false]; done)
def Ng {xs:List cf} {c g:Int} (hn:xs.length<=100000) {k:List K} {R:Int->Option (ae×ai)}
  (hx:∀e,kr (af aV) [.tmp 4] 0 k ⟨.exit 0,e,[]⟩=R (-1)) (hr:∀(i:Nat),kr (af aV) [.tmp 4] 0 k ⟨.ret,[(4,.int .i64 i)],[]⟩=R i) :
  ∀(l pre:List cf),xs=pre++l->cT (af aV) [.tmp 4] 0 k (.loop [0,1,7,8] zG) [(0,.slice .sh (xs.map fe)),(1,.jx 142 [.agg [.int .i64 c,.int .i64 g]]),(7,.int .i64 xs.length),(8,.int .i64 pre.length)] []=R (ka (jh c g) l pre.length):=by
 intro l
 induction l with
 |nil =>
  intro pre h
  rw [aE]
  simp only [mS,bZ h,EW,simprocAttr]
  exact hx _
 |cons n rest ih =>
  intro pre h
  rw [aE]
  have hlen:pre.length+1<=100000:=by rw [h] at hn; simp at hn; omega
  have hw:IntKind.i64.wrap ((pre.length:Int)+1)=((pre++[n]).length:Int):=by rw [bw (by omega) (by omega)]; exact bp
  have hi:=ih (pre++[n]) (by rw [h]; simp)
  simp only [List.length_append,List.length_cons,List.length_nil] at hi
  have hk:∀x:cf,an (af aV) 142 [.agg [.int .i64 c,.int .i64 g],.agg (fj x)] []=some (.bool ((jh c g) x),[]):=fun x=>ahl c g x []
  rw [ka]
  simp only [mS,aY h,aW h,hk,EW,simprocAttr]
  refine aH (fun hb=>?_) (fun hb=>?_)
  ·simp only [mS,hb,EW,simprocAttr]
   exact hr _
  ·simp only [mS,hb,hw,Bool.false_eq_true,EW,simprocAttr]
   exact hi
def aaA (xs:List cf) (c g:Int) (hn:xs.length<=100000):af aV 141 [.slice .sh (xs.map fe),.jx 142 [.agg [.int .i64 c,.int .i64 g]]] []=some (.int .i64 (ka (jh c g) xs 0),[]):=by
 refine aq rfl rfl rfl ?_
 simp only [Bb,mS,EW,simprocAttr]
 exact Ng (R:=fun i=>some (.int .i64 i,[])) hn (fun e=>by simp only [mS,EW,simprocAttr]) (fun i=>by simp only [mS,EW,simprocAttr]) xs [] rfl
def TF (xs:List cf) (c g:Int) (hn:xs.length<=100000) (M:ai):an (af aV) 141 [.slice .sh (xs.map fe),.jx 142 [.agg [.int .i64 c,.int .i64 g]]] M=some (.int .i64 (ka (jh c g) xs 0),M):=cO (aaA xs c g hn) M
def Nd {xs:List cf} {z:Int} (hn:xs.length<=100000) {k:List K} {R:Int->Option (ae×ai)}
  (hx:∀e,kr (af aV) [.tmp 4] 1 k ⟨.exit 0,e,[aQ.cells [.int .i64 z]]⟩=R (-1)) (hr:∀(i:Nat),kr (af aV) [.tmp 4] 1 k ⟨.ret,[(4,.int .i64 i)],[aQ.cells [.int .i64 z]]⟩=R i) :
  ∀(l pre:List cf),xs=pre++l->cT (af aV) [.tmp 4] 1 k (.loop [0,1,7,8] zG) [(0,.slice .sh (xs.map fe)),(1,.func 184 [.ptr 0 0]),(7,.int .i64 xs.length),(8,.int .i64 pre.length)] [aQ.cells [.int .i64 z]]=R (ka (fun x:cf=>x.ino==z) l pre.length):=by
 intro l
 induction l with
 |nil =>
  intro pre h
  rw [aE]
  simp only [mS,bZ h,EW,simprocAttr]
  exact hx _
 |cons n rest ih =>
  intro pre h
  rw [aE]
  have hlen:pre.length+1<=100000:=by rw [h] at hn; simp at hn; omega
  have hw:IntKind.i64.wrap ((pre.length:Int)+1)=((pre++[n]).length:Int):=by rw [bw (by omega) (by omega)]; exact bp
  have hi:=ih (pre++[n]) (by rw [h]; simp)
  simp only [List.length_append,List.length_cons,List.length_nil] at hi
  have hk:∀x:cf,an (af aV) 184 [.agg (fj x),.ptr 0 0] [aQ.cells [.int .i64 z]]=some (.bool ((fun x:cf=>x.ino==z) x),[aQ.cells [.int .i64 z]]):=fun x=>pQ (f:=184) (p:=0) (vs:=[.agg (fj x)]) (M:=[aQ.cells [.int .i64 z]]) rfl (agA x z) rfl rfl rfl rfl rfl rfl rfl rfl rfl
  rw [ka]
  simp only [mS,aY h,aW h,hk,EW,simprocAttr]
  refine aH (fun hb=>?_) (fun hb=>?_)
  ·simp only [mS,hb,EW,simprocAttr]
   exact hr _
  ·simp only [mS,hb,hw,Bool.false_eq_true,EW,simprocAttr]
   exact hi
def aay (xs:List cf) (z:Int) (hn:xs.length<=100000):af aV 141 [.slice .sh (xs.map fe),.func 184 [.ptr 0 0]] [aQ.cells [.int .i64 z]]=some (.int .i64 (ka (fun x:cf=>x.ino==z) xs 0),[aQ.cells [.int .i64 z]]):=by
 refine aq rfl rfl rfl ?_
 simp only [Bb,mS,EW,simprocAttr]
 exact Nd (R:=fun i=>some (.int .i64 i,[aQ.cells [.int .i64 z]])) hn (fun e=>by simp only [mS,EW,simprocAttr]) (fun i=>by simp only [mS,EW,simprocAttr]) xs [] rfl
def aar (xs:List cf) (z:Int) (hn:xs.length<=100000):af aV 111 [.slice .sh (xs.map fe),.func 184 [.ptr 0 0]] [aQ.cells [.int .i64 z]]=some (.bool (xs.any (fun x:cf=>x.ino==z)),[aQ.cells [.int .i64 z]]):=by
 refine aq rfl rfl rfl ?_
 have hk:an (af aV) 141 [.slice .sh (xs.map fe),.func 184 [.ptr 0 0]] [aQ.cells [.int .i64 z]]=some (.int .i64 (ka (fun x:cf=>x.ino==z) xs 0),[aQ.cells [.int .i64 z]]):=eL (ids:=[0]) rfl rfl (N2 z) rfl rfl (aay xs z hn) rfl rfl rfl rfl rfl
 simp only [Ez,Y5,hk,wx,EW,simprocAttr]
def Nf {xs:List cf} {z:Int} (hn:xs.length<=100000) {k:List K} {R:Int->Option (ae×ai)}
  (hx:∀e,kr (af aV) [.tmp 4] 1 k ⟨.exit 0,e,[aQ.cells [.int .i64 z]]⟩=R (-1)) (hr:∀(i:Nat),kr (af aV) [.tmp 4] 1 k ⟨.ret,[(4,.int .i64 i)],[aQ.cells [.int .i64 z]]⟩=R i) :
  ∀(l pre:List cf),xs=pre++l->cT (af aV) [.tmp 4] 1 k (.loop [0,1,7,8] zG) [(0,.slice .sh (xs.map fe)),(1,.func 112 [.ptr 0 0]),(7,.int .i64 xs.length),(8,.int .i64 pre.length)] [aQ.cells [.int .i64 z]]=R (ka (fun x:cf=>x.ino==z) l pre.length):=by
 intro l
 induction l with
 |nil =>
  intro pre h
  rw [aE]
  simp only [mS,bZ h,EW,simprocAttr]
  exact hx _
 |cons n rest ih =>
  intro pre h
  rw [aE]
  have hlen:pre.length+1<=100000:=by rw [h] at hn; simp at hn; omega
  have hw:IntKind.i64.wrap ((pre.length:Int)+1)=((pre++[n]).length:Int):=by rw [bw (by omega) (by omega)]; exact bp
  have hi:=ih (pre++[n]) (by rw [h]; simp)
  simp only [List.length_append,List.length_cons,List.length_nil] at hi
  have hk:∀x:cf,an (af aV) 112 [.agg (fj x),.ptr 0 0] [aQ.cells [.int .i64 z]]=some (.bool ((fun x:cf=>x.ino==z) x),[aQ.cells [.int .i64 z]]):=fun x=>pQ (f:=112) (p:=0) (vs:=[.agg (fj x)]) (M:=[aQ.cells [.int .i64 z]]) rfl (afI x z) rfl rfl rfl rfl rfl rfl rfl rfl rfl
  rw [ka]
  simp only [mS,aY h,aW h,hk,EW,simprocAttr]
  refine aH (fun hb=>?_) (fun hb=>?_)
  ·simp only [mS,hb,EW,simprocAttr]
   exact hr _
  ·simp only [mS,hb,hw,Bool.false_eq_true,EW,simprocAttr]
   exact hi
def aaz (xs:List cf) (z:Int) (hn:xs.length<=100000):af aV 141 [.slice .sh (xs.map fe),.func 112 [.ptr 0 0]] [aQ.cells [.int .i64 z]]=some (.int .i64 (ka (fun x:cf=>x.ino==z) xs 0),[aQ.cells [.int .i64 z]]):=by
 refine aq rfl rfl rfl ?_
 simp only [Bb,mS,EW,simprocAttr]
 exact Nf (R:=fun i=>some (.int .i64 i,[aQ.cells [.int .i64 z]])) hn (fun e=>by simp only [mS,EW,simprocAttr]) (fun i=>by simp only [mS,EW,simprocAttr]) xs [] rfl
def aas (xs:List cf) (z:Int) (hn:xs.length<=100000):af aV 111 [.slice .sh (xs.map fe),.func 112 [.ptr 0 0]] [aQ.cells [.int .i64 z]]=some (.bool (xs.any (fun x:cf=>x.ino==z)),[aQ.cells [.int .i64 z]]):=by
 refine aq rfl rfl rfl ?_
 have hk:an (af aV) 141 [.slice .sh (xs.map fe),.func 112 [.ptr 0 0]] [aQ.cells [.int .i64 z]]=some (.int .i64 (ka (fun x:cf=>x.ino==z) xs 0),[aQ.cells [.int .i64 z]]):=eL (ids:=[0]) rfl rfl (N2 z) rfl rfl (aaz xs z hn) rfl rfl rfl rfl rfl
 simp only [Ez,Y5,hk,wx,EW,simprocAttr]
def Nk {xs:List fq} {u v:Int} (hn:xs.length<=100000) {k:List K} {R:Int->Option (ae×ai)}
  (hx:∀e,kr (af aV) [.tmp 4] 2 k ⟨.exit 0,e,[aQ.cells [.int .i64 u],aQ.cells [.int .i64 v]]⟩=R (-1)) (hr:∀(i:Nat),kr (af aV) [.tmp 4] 2 k ⟨.ret,[(4,.int .i64 i)],[aQ.cells [.int .i64 u],aQ.cells [.int .i64 v]]⟩=R i) :
  ∀(l pre:List fq),xs=pre++l->cT (af aV) [.tmp 4] 2 k (.loop [0,1,7,8] QE) [(0,.slice .sh (xs.map iK)),(1,.func 188 [.ptr 0 0,.ptr 1 0]),(7,.int .i64 xs.length),(8,.int .i64 pre.length)] [aQ.cells [.int .i64 u],aQ.cells [.int .i64 v]]=R (ka (pC u v) l pre.length):=by
 intro l
 induction l with
 |nil =>
  intro pre h
  rw [aE]
  simp only [Co,bZ h,EW,simprocAttr]
  exact hx _
 |cons n rest ih =>
  intro pre h
  rw [aE]
  have hlen:pre.length+1<=100000:=by rw [h] at hn; simp at hn; omega
  have hw:IntKind.i64.wrap ((pre.length:Int)+1)=((pre++[n]).length:Int):=by rw [bw (by omega) (by omega)]; exact bp
  have hi:=ih (pre++[n]) (by rw [h]; simp)
  simp only [List.length_append,List.length_cons,List.length_nil] at hi
  have hk:∀x:fq,an (af aV) 188 [.agg (dB x),.ptr 0 0,.ptr 1 0] [aQ.cells [.int .i64 u],aQ.cells [.int .i64 v]]=some (.bool ((pC u v) x),[aQ.cells [.int .i64 u],aQ.cells [.int .i64 v]]):=fun x=>eL (ids:=[0,1]) rfl rfl (DS u v) rfl rfl (agD x u v) rfl rfl rfl rfl rfl
  rw [ka]
  simp only [Co,aY h,aW h,hk,EW,simprocAttr]
  refine aH (fun hb=>?_) (fun hb=>?_)
  ·simp only [Co,hb,EW,simprocAttr]
   exact hr _
  ·simp only [Co,hb,hw,Bool.false_eq_true,EW,simprocAttr]
   exact hi
def aaE (xs:List fq) (u v:Int) (hn:xs.length<=100000):af aV 221 [.slice .sh (xs.map iK),.func 188 [.ptr 0 0,.ptr 1 0]] [aQ.cells [.int .i64 u],aQ.cells [.int .i64 v]]=some (.int .i64 (ka (pC u v) xs 0),[aQ.cells [.int .i64 u],aQ.cells [.int .i64 v]]):=by
 refine aq rfl rfl rfl ?_
 simp only [K1,Co,EW,simprocAttr]
 exact Nk (R:=fun i=>some (.int .i64 i,[aQ.cells [.int .i64 u],aQ.cells [.int .i64 v]])) hn (fun e=>by simp only [Co,EW,simprocAttr]) (fun i=>by simp only [Co,EW,simprocAttr]) xs [] rfl
def aaD (xs:List fq) (u v:Int) (hn:xs.length<=100000):af aV 187 [.slice .sh (xs.map iK),.func 188 [.ptr 0 0,.ptr 1 0]] [aQ.cells [.int .i64 u],aQ.cells [.int .i64 v]]=some (.bool (xs.any (pC u v)),[aQ.cells [.int .i64 u],aQ.cells [.int .i64 v]]):=by
 refine aq rfl rfl rfl ?_
 have hk:an (af aV) 221 [.slice .sh (xs.map iK),.func 188 [.ptr 0 0,.ptr 1 0]] [aQ.cells [.int .i64 u],aQ.cells [.int .i64 v]]=some (.int .i64 (ka (pC u v) xs 0),[aQ.cells [.int .i64 u],aQ.cells [.int .i64 v]]):=eL (ids:=[0,1]) rfl rfl (DS u v) rfl rfl (aaE xs u v hn) rfl rfl rfl rfl rfl
 simp only [KT,aeW,hk,wx,EW,simprocAttr]
def QY {xs:List bE} {ino:Int} {b:Nat} (hb:vD (fun x=>decide (eF x.ino ino<0)) xs b) (hn:xs.length<=100000) {k:List K} {r:Option (ae×ai)}
  (hx:∀v q,kr (af aV) [.tmp 6,.tmp 7] 0 k ⟨.exit 0,[(0,.slice .sh (xs.map bT)),(1,.int .i64 ino),(2,.func 190 []),(8,.int .i64 xs.length),(9,.int .i64 b),(10,v),(17,q)],[]⟩=r) :
  ∀(f i j:Nat),j-i<=f->i<=b->b<=j->j<=xs.length->cT (af aV) [.tmp 6,.tmp 7] 0 k (.loop [0,1,2,8,9,10] QA) [(0,.slice .sh (xs.map bT)),(1,.int .i64 ino),(2,.func 190 []),(8,.int .i64 xs.length),(9,.int .i64 i),(10,.int .i64 j)] []=r:=by
 intro f
 induction f with
 |zero =>
  intro i j h1 h2 h3 h4
  obtain rfl:i=b:=by omega
  rw [aE]
  have hlt:((i:Int)<(j:Int))=False:=by simp; omega
  simp only [Ai,hlt,EW,simprocAttr]
  exact hx _ _
 |succ f ih =>
  intro i j h1 h2 h3 h4
  rw [aE]
  by_cases hij:i<j
  ·have hlt:((i:Int)<(j:Int))=True:=by simp; omega
   obtain ⟨m1,m2,m3,m4,m5⟩:=tY i j (by omega) (by omega)
   have hmid:(i+j) / 2<xs.length:=by omega
   have hx:=List.getElem?_eq_getElem hmid
   have hl:=hb.lt _ _ hx
   have hk:=fun x:bE=>abL x ino []
   simp only [Ai,hlt,m1,m2,m3,m4,hx,hk,EW,simprocAttr]
   refine aH (fun hq=>?_) (fun hq=>?_)
   ·simp only [Ai,m5,EW,simprocAttr]
    exact ih ((i+j) / 2+1) j (by omega) (hl.1 hq) h3 h4
   ·simp only [Ai,EW,simprocAttr]
    exact ih i ((i+j) / 2) (by omega) h2 (Nat.not_lt.1 fun h=>by rw [hl.2 h] at hq; cases hq) (by omega)
  ·obtain rfl:i=b:=by omega
   have hlt:((i:Int)<(j:Int))=False:=by simp; omega
   simp only [Ai,hlt,EW,simprocAttr]
   exact hx _ _
def agE (xs:List bE) (ino:Int) (b:Nat) (hb:vD (fun x=>decide (eF x.ino ino<0)) xs b) (hn:xs.length<=100000):af aV 189 [.slice .sh (xs.map bT),.int .i64 ino,.func 190 []] []=some (.tuple [.int .i64 b,.bool (gb (fun x=>eF x.ino ino==0) xs b)],[]):=by
 refine aq rfl rfl rfl ?_
 simp only [KV,Ai,EW,simprocAttr]
 refine QY hb hn (fun v q=>?_) xs.length 0 xs.length (by omega) (by omega) hb.le (by omega)
 have hk:=fun x:bE=>abL x ino []
 unfold gb
 by_cases hlt:b<xs.length
 ·have hx:=List.getElem?_eq_getElem hlt
  have h1:((b:Int)<(xs.length:Int))=True:=by simp; omega
  simp only [Ai,hx,h1,hk,EW,simprocAttr]
 ·have hx:xs[b]?=none:=List.getElem?_eq_none (by omega)
  have h1:((b:Int)<(xs.length:Int))=False:=by simp; omega
  simp only [Ai,hx,h1,EW,simprocAttr]
def Nj {xs:List Node} {ino:Int} {b:Nat} (hb:vD (fun x=>decide (eF x.ino ino<0)) xs b) (hn:xs.length<=100000) {k:List K} {r:Option (ae×ai)}
  (hx:∀v q,kr (af aV) [.tmp 6,.tmp 7] 0 k ⟨.exit 0,[(0,.slice .sh (xs.map bm)),(1,.int .i64 ino),(2,.func 186 []),(8,.int .i64 xs.length),(9,.int .i64 b),(10,v),(17,q)],[]⟩=r) :
  ∀(f i j:Nat),j-i<=f->i<=b->b<=j->j<=xs.length->cT (af aV) [.tmp 6,.tmp 7] 0 k (.loop [0,1,2,8,9,10] ER) [(0,.slice .sh (xs.map bm)),(1,.int .i64 ino),(2,.func 186 []),(8,.int .i64 xs.length),(9,.int .i64 i),(10,.int .i64 j)] []=r:=by
 intro f
 induction f with
 |zero =>
  intro i j h1 h2 h3 h4
  obtain rfl:i=b:=by omega
  rw [aE]
  have hlt:((i:Int)<(j:Int))=False:=by simp; omega
  simp only [qi,hlt,EW,simprocAttr]
  exact hx _ _
 |succ f ih =>
  intro i j h1 h2 h3 h4
  rw [aE]
  by_cases hij:i<j
  ·have hlt:((i:Int)<(j:Int))=True:=by simp; omega
   obtain ⟨m1,m2,m3,m4,m5⟩:=tY i j (by omega) (by omega)
   have hmid:(i+j) / 2<xs.length:=by omega
   have hx:=List.getElem?_eq_getElem hmid
   have hl:=hb.lt _ _ hx
   have hk:=fun x:Node=>abJ x ino []
   simp only [qi,hlt,m1,m2,m3,m4,hx,hk,EW,simprocAttr]
   refine aH (fun hq=>?_) (fun hq=>?_)
   ·simp only [qi,m5,EW,simprocAttr]
    exact ih ((i+j) / 2+1) j (by omega) (hl.1 hq) h3 h4
   ·simp only [qi,EW,simprocAttr]
    exact ih i ((i+j) / 2) (by omega) h2 (Nat.not_lt.1 fun h=>by rw [hl.2 h] at hq; cases hq) (by omega)
  ·obtain rfl:i=b:=by omega
   have hlt:((i:Int)<(j:Int))=False:=by simp; omega
   simp only [qi,hlt,EW,simprocAttr]
   exact hx _ _
def aaC (xs:List Node) (ino:Int) (b:Nat) (hb:vD (fun x=>decide (eF x.ino ino<0)) xs b) (hn:xs.length<=100000):af aV 185 [.slice .sh (xs.map bm),.int .i64 ino,.func 186 []] []=some (.tuple [.int .i64 b,.bool (gb (fun x=>eF x.ino ino==0) xs b)],[]):=by
 refine aq rfl rfl rfl ?_
 simp only [EC,qi,EW,simprocAttr]
 refine Nj hb hn (fun v q=>?_) xs.length 0 xs.length (by omega) (by omega) hb.le (by omega)
 have hk:=fun x:Node=>abJ x ino []
 unfold gb
 by_cases hlt:b<xs.length
 ·have hx:=List.getElem?_eq_getElem hlt
  have h1:((b:Int)<(xs.length:Int))=True:=by simp; omega
  simp only [qi,hx,h1,hk,EW,simprocAttr]
 ·have hx:xs[b]?=none:=List.getElem?_eq_none (by omega)
  have h1:((b:Int)<(xs.length:Int))=False:=by simp; omega
  simp only [qi,hx,h1,EW,simprocAttr]
def XE {xs:List bq} {ino:Int} {b:Nat} (hb:vD (fun x=>decide (eF x.aj ino<0)) xs b) (hn:xs.length<=100000) {k:List K} {r:Option (ae×ai)}
  (hx:∀v q,kr (af aV) [.tmp 6,.tmp 7] 0 k ⟨.exit 0,[(0,.slice .sh (xs.map bK)),(1,.int .i64 ino),(2,.func 43 []),(8,.int .i64 xs.length),(9,.int .i64 b),(10,v),(17,q)],[]⟩=r) :
  ∀(f i j:Nat),j-i<=f->i<=b->b<=j->j<=xs.length->cT (af aV) [.tmp 6,.tmp 7] 0 k (.loop [0,1,2,8,9,10] Xf) [(0,.slice .sh (xs.map bK)),(1,.int .i64 ino),(2,.func 43 []),(8,.int .i64 xs.length),(9,.int .i64 i),(10,.int .i64 j)] []=r:=by
 intro f
 induction f with
 |zero =>
  intro i j h1 h2 h3 h4
  obtain rfl:i=b:=by omega
  rw [aE]
  have hlt:((i:Int)<(j:Int))=False:=by simp; omega
  simp only [RX,hlt,EW,simprocAttr]
  exact hx _ _
 |succ f ih =>
  intro i j h1 h2 h3 h4
  rw [aE]
  by_cases hij:i<j
  ·have hlt:((i:Int)<(j:Int))=True:=by simp; omega
   obtain ⟨m1,m2,m3,m4,m5⟩:=tY i j (by omega) (by omega)
   have hmid:(i+j) / 2<xs.length:=by omega
   have hx:=List.getElem?_eq_getElem hmid
   have hl:=hb.lt _ _ hx
   have hk:=fun x:bq=>k43 x ino []
   simp only [RX,hlt,m1,m2,m3,m4,hx,hk,EW,simprocAttr]
   refine aH (fun hq=>?_) (fun hq=>?_)
   ·simp only [RX,m5,EW,simprocAttr]
    exact ih ((i+j) / 2+1) j (by omega) (hl.1 hq) h3 h4
   ·simp only [RX,EW,simprocAttr]
    exact ih i ((i+j) / 2) (by omega) h2 (Nat.not_lt.1 fun h=>by rw [hl.2 h] at hq; cases hq) (by omega)
  ·obtain rfl:i=b:=by omega
   have hlt:((i:Int)<(j:Int))=False:=by simp; omega
   simp only [RX,hlt,EW,simprocAttr]
   exact hx _ _
def c42 (xs:List bq) (ino:Int) (b:Nat) (hb:vD (fun x=>decide (eF x.aj ino<0)) xs b) (hn:xs.length<=100000):af aV 42 [.slice .sh (xs.map bK),.int .i64 ino,.func 43 []] []=some (.tuple [.int .i64 b,.bool (gb (fun x=>eF x.aj ino==0) xs b)],[]):=by
 refine aq rfl rfl rfl ?_
 simp only [U9,RX,EW,simprocAttr]
 refine XE hb hn (fun v q=>?_) xs.length 0 xs.length (by omega) (by omega) hb.le (by omega)
 have hk:=fun x:bq=>k43 x ino []
 unfold gb
 by_cases hlt:b<xs.length
 ·have hx:=List.getElem?_eq_getElem hlt
  have h1:((b:Int)<(xs.length:Int))=True:=by simp; omega
  simp only [RX,hx,h1,hk,EW,simprocAttr]
 ·have hx:xs[b]?=none:=List.getElem?_eq_none (by omega)
  have h1:((b:Int)<(xs.length:Int))=False:=by simp; omega
  simp only [RX,hx,h1,EW,simprocAttr]
def QO {xs:List cf} {c g:Int} {b:Nat} (hb:vD (fun x=>decide (da x c g<0)) xs b) (hn:xs.length<=100000) {k:List K} {r:Option (ae×ai)}
  (hx:∀v q,kr (af aV) [.tmp 6,.tmp 7] 0 k ⟨.exit 0,[(0,.slice .sh (xs.map fe)),(2,.jx 137 [.agg [.int .i64 c,.int .i64 g]]),(4,.ptr 0 0),(8,.int .i64 xs.length),(9,.int .i64 b),(10,v),(17,q)],[.cells [.int .i64 c,.int .i64 g]]⟩=r) :
  ∀(f i j:Nat),j-i<=f->i<=b->b<=j->j<=xs.length->cT (af aV) [.tmp 6,.tmp 7] 0 k (.loop [0,2,4,8,9,10] Qr) [(0,.slice .sh (xs.map fe)),(2,.jx 137 [.agg [.int .i64 c,.int .i64 g]]),(4,.ptr 0 0),(8,.int .i64 xs.length),(9,.int .i64 i),(10,.int .i64 j)] [.cells [.int .i64 c,.int .i64 g]]=r:=by
 intro f
 induction f with
 |zero =>
  intro i j h1 h2 h3 h4
  obtain rfl:i=b:=by omega
  rw [aE]
  have hlt:((i:Int)<(j:Int))=False:=by simp; omega
  simp only [Af,hlt,EW,simprocAttr]
  exact hx _ _
 |succ f ih =>
  intro i j h1 h2 h3 h4
  rw [aE]
  by_cases hij:i<j
  ·have hlt:((i:Int)<(j:Int))=True:=by simp; omega
   obtain ⟨m1,m2,m3,m4,m5⟩:=tY i j (by omega) (by omega)
   have hmid:(i+j) / 2<xs.length:=by omega
   have hx:=List.getElem?_eq_getElem hmid
   have hl:=hb.lt _ _ hx
   have hk:=fun x:cf=>abz c g c g x [.cells [.int .i64 c,.int .i64 g]]
   simp only [Af,hlt,m1,m2,m3,m4,hx,hk,EW,simprocAttr]
   refine aH (fun hq=>?_) (fun hq=>?_)
   ·simp only [Af,m5,EW,simprocAttr]
    exact ih ((i+j) / 2+1) j (by omega) (hl.1 hq) h3 h4
   ·simp only [Af,EW,simprocAttr]
    exact ih i ((i+j) / 2) (by omega) h2 (Nat.not_lt.1 fun h=>by rw [hl.2 h] at hq; cases hq) (by omega)
  ·obtain rfl:i=b:=by omega
   have hlt:((i:Int)<(j:Int))=False:=by simp; omega
   simp only [Af,hlt,EW,simprocAttr]
   exact hx _ _
def af5 (xs:List cf) (c g:Int) (b:Nat) (hb:vD (fun x=>decide (da x c g<0)) xs b) (hn:xs.length<=100000):af aV 136 [.slice .sh (xs.map fe),.agg [.int .i64 c,.int .i64 g],.jx 137 [.agg [.int .i64 c,.int .i64 g]]] []=some (.tuple [.int .i64 b,.bool (gb (fun x=>da x c g==0) xs b)],[]):=by
 refine aq rfl rfl rfl ?_
 simp only [Km,Af,EW,simprocAttr]
 refine QO hb hn (fun v q=>?_) xs.length 0 xs.length (by omega) (by omega) hb.le (by omega)
 have hk:=fun x:cf=>abz c g c g x [.cells [.int .i64 c,.int .i64 g]]
 unfold gb
 by_cases hlt:b<xs.length
 ·have hx:=List.getElem?_eq_getElem hlt
  have h1:((b:Int)<(xs.length:Int))=True:=by simp; omega
  simp only [Af,hx,h1,hk,EW,simprocAttr]
 ·have hx:xs[b]?=none:=List.getElem?_eq_none (by omega)
  have h1:((b:Int)<(xs.length:Int))=False:=by simp; omega
  simp only [Af,hx,h1,EW,simprocAttr]
end
section
section
variable {α:Type} (enc:α->ae) {f sz bytes:Nat}
def pW (hp:aV.iX f=some (fp sz bytes)) (hw:∀a,(enc a).cells.length=sz) (hb:bytes<=1000) {l:List α} (h0:l≠[]) (hn:l.length<=100000) (M:ai) :
  af aV f [.slice .sh (l.map enc)] M=some (.bu M.length 0 sz 0 l.length,M++[.arr sz 0 (l.map enc)]):=by
 refine bM (g:=fp sz bytes) hp ?_
 obtain ⟨a,r,rfl⟩:=List.exists_cons_of_ne_nil h0
 have hw:wid ((a::r).map enc) sz:=by have:=lA enc sz hw (a::r); simpa using this
 have hr:bP ((a::r).map enc).length bytes:=by have:=dv (a:=(a::r).length) (b:=bytes) (by omega) (by omega); simpa using this
 unfold fp
 simp only [List.map_cons] at hw hr ⊢
 rw [a8 ⟨hw,hr⟩]
 simp
def sd (hp:aV.iX f=some (fp sz bytes)) {l:List α} (h0:l=[]) (M:ai):af aV f [.slice .sh (l.map enc)] M=some (.slice .c0 [],M):=by
 subst h0; exact bM (g:=fp sz bytes) hp rfl
def wi (hp:aV.iX f=some (ep sz bytes)) (hb:bytes<=1000) {l:List α} {b id v:Nat} (h:b<=l.length) (hn:l.length<=100000) (x:ae) (hx:x.cells.length=sz) (M:ai) (hM:nth M id=some (.arr sz v (l.map enc))) :
  af aV f [.bu id v sz 0 l.length,.int .i64 b,.slice .sh [x]] M=some (.bu id (v+1) sz 0 (l.length+1),dG M id (.arr sz (v+1) ((l.map enc).take b++x::(l.map enc).drop b))):=by
 refine bM (g:=ep sz bytes) hp ?_
 have hr:bP ((l.map enc).length+1) bytes:=by have:=dv (a:=l.length+1) (b:=bytes) (by omega) (by omega); simpa using this
 unfold ep
 simp only [hM]
 rw [a8 ⟨trivial,trivial,trivial,by simp,by omega,by simpa using h,hx,hr⟩]
 simp
def tE (hp:aV.iX f=some (ep sz bytes)) {b:Nat} (h0:b=0) (x:ae) (hx:x.cells.length=sz) (M:ai) :
  af aV f [.slice .c0 [],.int .i64 (b:Int),.slice .sh [x]] M=some (.bu M.length 0 sz 0 1,M++[.arr sz 0 [x]]):=by
 subst h0
 refine bM (g:=ep sz bytes) hp ?_
 unfold ep
 simp only []
 rw [a8 ⟨rfl,hx⟩]
def abc (hp:aV.iX f=some (fg sz)) {l:List α} {b id v:Nat} (h:b<l.length) (hn:l.length<=100000) (M:ai) (hM:nth M id=some (.arr sz v (l.map enc))) :
  af aV f [.bu id v sz 0 l.length,.int .i64 b,.int .i64 ((b+1:Nat):Int)] M=some (.bu id (v+1) sz 0 (l.length-1),dG M id (.arr sz (v+1) ((l.map enc).take b++(l.map enc).drop (b+1)))):=by
 refine bM (g:=fg sz) hp ?_
 unfold fg
 simp only [hM]
 rw [a8 ⟨trivial,trivial,trivial,by simp,by omega,by simpa using h,by omega,by simp; omega⟩]
 simp
def Hq {M:ai} (i:Nat) (a b:aQ):dG (dG M i a) i b=dG M i b:=by
 induction M generalizing i with
 |nil=>rfl
 |cons x r ih =>
  cases i with
  |zero=>rfl
  |succ i=>simp only [dG,ih]
def PH {l:List α} {b:Nat} (h:b<l.length):List.take (l.length-1) ((l.map enc).take b++(l.map enc).drop (b+1))=(l.eraseIdx b).map enc:=by
 rw [List.take_of_length_le (by simp; omega),List.eraseIdx_eq_take_drop_succ]
 simp
def x9 (hp:aV.iX f=some (kN sz)) {l:List α} {b id v:Nat} (h:b<l.length) (hn:l.length<=100000) (M:ai) (hM:nth M id=some (.arr sz v (l.map enc))) :
  af aV f [.bu id v sz 0 l.length,.int .i64 b,.int .i64 ((b+1:Nat):Int)] M=some (.slice .sh ((l.eraseIdx b).map enc),dG M id (.tick sz (l.length-1))):=by
 refine bM (g:=kN sz) hp ?_
 unfold kN fg
 simp only [hM]
 rw [a8 ⟨trivial,trivial,trivial,by simp,by omega,by simpa using h,by omega,by simp; omega⟩]
 simp only [aL,ae.ou,ae.gY,zW hM,ae.ids,ae.fV,ae.cQ,lr,Hq,if_true,List.drop_zero,Int.toNat_natCast,List.length_map]
 rw [PH enc h]
 have:(List.take b (l.map enc)++List.drop (b+1) (l.map enc)).length=l.length-1:=by simp; omega
 rw [this]
def zB {l:List α} {b:Nat} (h:b<=l.length) (x:α):List.take (l.length+1) ((l.map enc).take b++enc x::(l.map enc).drop b)=(l.take b++x::l.drop b).map enc:=by
 rw [List.take_of_length_le (by simp; omega)]
 simp
end
attribute [local irreducible] cT cR gz gK bR kr af an aZ aK
def xD (t:Tree) (ino:Int) (ht:Small t) (hr:jS t) (M:ai):an (af aV) 117 [.agg [aF t.nodes,.int .i64 t.next,.int .i64 t.ag],.int .i64 ino] M=some (.tuple [.agg (az (aJ t.nodes ino)),.bool (find t.nodes ino).isSome],M) :=
 cO (afM t ino ht hr) M
def abp (t:Tree) (ino:Int) (ht:Small t) (hr:jS t) (M:ai):an (af aV) 113 [.agg [aF t.nodes,.int .i64 t.next,.int .i64 t.ag],.int .i64 ino] M=some (.tuple [.agg (aw (lf t ino).1),.int .i64 (lf t ino).2],M) :=
 cO (afJ t ino ht hr) M
end
section
attribute [local irreducible] cT cR gz gK bR kr af an aZ aK
def wy (l:List cf) (c h:Int):Int×Int:=match l.find? (jh c h) with
 |some x=>(x.ino,0)
 |none=>(0,80)
def agc (l:List cf) (c h:Int) (hn:l.length<=100000):af aV 149 [dn l,.int .i64 c,.int .i64 h] []=some (.tuple [.int .i64 (wy l c h).1,.int .i64 (wy l c h).2],[]):=by
 refine aq rfl rfl rfl ?_
 have hk:=TF l c h hn
 simp only [Kv,T4,hk,EW,simprocAttr]
 unfold wy
 rcases pZ (jh c h) l 0 with ⟨h1,h2⟩|⟨m,x,h1,h2,h3,_⟩
 ·simp only [T4,h1,h2,EW,simprocAttr]
 ·have hlt:(((0+m:Nat):Int)<0)=False:=by simp
  simp only [T4,h1,h2,h3,hlt,fj,Nat.zero_add,EW,simprocAttr]
def ahn (l:List cf) (c h:Int) (hn:l.length<=100000) (M:ai):an (af aV) 149 [dn l,.int .i64 c,.int .i64 h] M=some (.tuple [.int .i64 (wy l c h).1,.int .i64 (wy l c h).2],M):=cO (agc l c h hn) M
def wv (l:List cf) (ino:Int):Bool:=l.any fun x=>x.ino==ino
def af8 (l:List cf) (ino:Int) (hn:l.length<=100000):af aV 144 [dn l,.int .i64 ino] []=some (.bool (wv l ino),[]):=by
 refine aq rfl rfl rfl ?_
 have hk:an (af aV) 111 [dn l,.func 184 [.ptr 0 0]] [.cells [.int .i64 ino]]=some (.bool (wv l ino),[.cells [.int .i64 ino]]):=eL (ids:=[0]) rfl rfl (N2 ino) rfl rfl (aar l ino hn) rfl rfl rfl rfl rfl
 simp only [Kr,aeI,hk,EW,simprocAttr]
def fT (t:Tree):List Int:=(t.nodes.filter mN).map Node.ino
def mM (t:Tree) (l:List cf) (c h ino:Int):List cf×Int :=
 if (!EK c h)=true then (l,1)
 else if (!(find t.nodes ino).isSome||mN (aJ t.nodes ino))=true then (l,70)
 else if ((aJ t.nodes ino).kind==2)=true then (l,72)
 else if gb (fun x=>da x c h==0) l (iW (fun x=>decide (da x c h<0)) l)=true then (l,71)
 else if decide (64<=(l.length:Int))=true then (l,76)
 else (l.take (iW (fun x=>decide (da x c h<0)) l)++⟨c,h,ino⟩::l.drop (iW (fun x=>decide (da x c h<0)) l),0)
def pj (a b:cf):Prop:=a.aj<b.aj\/(a.aj=b.aj/\a.handle<b.handle)
abbrev rF (l:List cf):Prop:=l.Pairwise pj
def lU (x:cf) (c h:Int):(da x c h<0)↔(x.aj<c\/(x.aj=c/\x.handle<h)):=by
 unfold da TL eF
 by_cases h1:x.aj<c
 ·simp [h1]
 ·by_cases h2:c<x.aj
  ·simp [h1,h2]; omega
  ·have:x.aj=c:=by omega
   by_cases h3:x.handle<h
   ·simp [h3,this]
   ·by_cases h4:h<x.handle
    ·simp [h3,h4,this]
    ·simp [h3,h4,this]
def Dh (x:cf) (c h:Int):(da x c h=0)↔(x.aj=c/\x.handle=h):=by
 unfold da TL eF
 by_cases h1:x.aj<c
 ·simp [h1]; omega
 ·by_cases h2:c<x.aj
  ·simp [h1,h2]; omega
  ·have:x.aj=c:=by omega
   by_cases h3:x.handle<h
   ·simp [h3,this]; omega
   ·by_cases h4:h<x.handle
    ·simp [h3,h4,this]; omega
    ·simp [h3,h4,this]; omega
def wF {l:List cf} (h:rF l) (c g:Int):vD (fun x=>decide (da x c g<0)) l (iW (fun x=>decide (da x c g<0)) l):=by
 refine wG (h.imp ?_)
 intro a b hab hb
 simp only [decide_eq_true_eq,lU] at hb ⊢
 unfold pj at hab
 omega
def ahk (l:List cf) (c g:Int) (hl:rF l) (hn:l.length<=100000) (M:ai):an (af aV) 136 [dn l,.agg [.int .i64 c,.int .i64 g],.jx 137 [.agg [.int .i64 c,.int .i64 g]]] M =
  some (.tuple [.int .i64 (iW (fun x=>decide (da x c g<0)) l),.bool (gb (fun x=>da x c g==0) l (iW (fun x=>decide (da x c g<0)) l))],M) :=
 cO (af5 l c g _ (wF hl c g) hn) M
def c89 (t:Tree) (l:List cf) (c h ino:Int) (ht:Small t) (hr:jS t) (hl:rF l) (hn:l.length<=64):af aV 89 [bI t,dn l,.int .i64 c,.int .i64 h,.int .i64 ino] []=some (.tuple [dn (mM t l c h ino).1,.int .i64 (mM t l c h ino).2],[]):=by
 refine aq rfl rfl rfl ?_
 have q1:=xD t ino ht hr
 have q2:=ahk l c h hl (by omega)
 have hb:=(wF hl c h).le
 unfold mM
 generalize iW (fun x=>decide (da x c h<0)) l=b at q2 hb ⊢
 generalize gb (fun x=>da x c h==0) l b=e at q2 ⊢
 simp only [Vt,YN,bI,aw,ahj,q1,q2,EW,simprocAttr]
 refine aH (fun h1=>?_) (fun h1=>?_)
 ·simp only [YN,h1,EW,simprocAttr]
 ·have q3:=fun M=>VD (aJ t.nodes ino) M
  simp only [az] at q3
  by_cases h0:l=[]
  ·have hb0:b=0:=by subst h0; simpa using hb
   have p1:=fun M=>sd fe (f:=140) (sz:=3) (bytes:=24) rfl h0 M
   have p2:=fun M=>tE (f:=139) (sz:=3) (bytes:=24) rfl hb0 (.agg [.int .i64 c,.int .i64 h,.int .i64 ino]) rfl M
   simp only [YN,h1,q1,q2,q3,az,EW,simprocAttr]
   repeat' ((first|refine aH (fun hb=>?_) (fun hb=>?_)|refine bj (fun hb=>?_) (fun hb=>?_)|refine cj (fun hb=>?_) (fun hb=>?_))<;>simp only [hb,EW,YN,q3,p1,p2,az,simprocAttr])
   all_goals clear q1 q2 q3 p1 p2
   all_goals first|(simp_all only [jZ,↓reduceIte,reduceCtorEq,bne_self_eq_false]; done)|(simp_all only [jZ,↓reduceIte,reduceCtorEq,bne_self_eq_false]; rfl)
  ·have hb0:=hb
   have p1:=fun M=>pW fe (f:=140) (sz:=3) (bytes:=24) rfl (fun _=>rfl) (by omega) h0 (by omega) M
   have p2:=fun M=>wi fe (f:=139) (sz:=3) (bytes:=24) (v:=0) (id:=3) rfl (by omega) hb (by omega) (.agg [.int .i64 c,.int .i64 h,.int .i64 ino]) rfl M
   simp only [YN,h1,q1,q2,q3,az,EW,simprocAttr]
   repeat' ((first|refine aH (fun hb=>?_) (fun hb=>?_)|refine bj (fun hb=>?_) (fun hb=>?_)|refine cj (fun hb=>?_) (fun hb=>?_))<;>simp only [hb,EW,YN,q3,p1,p2,az,simprocAttr])
   all_goals clear q1 q2 q3 p1 p2
   all_goals first|(simp_all only [jZ,↓reduceIte,reduceCtorEq,bne_self_eq_false]; done)|(simp_all only [jZ,↓reduceIte,reduceCtorEq,bne_self_eq_false]; exact congrArg (fun z=>some (ae.tuple [ae.slice .sh z,ae.int .i64 0],([]:ai))) (zB fe hb0 ⟨c,h,ino⟩))
def k89 (t:Tree) (l:List cf) (c h ino:Int) (ht:Small t) (hr:jS t) (hl:rF l) (hn:l.length<=64) (M:ai):an (af aV) 89 [.agg [aF t.nodes,.int .i64 t.next,.int .i64 t.ag],dn l,.int .i64 c,.int .i64 h,.int .i64 ino] M=some (.tuple [dn (mM t l c h ino).1,.int .i64 (mM t l c h ino).2],M) :=
 cO (c89 t l c h ino ht hr hl hn) M
end
end Go.Proofs.YtdbadpnkhaepnaaGreatDoor
