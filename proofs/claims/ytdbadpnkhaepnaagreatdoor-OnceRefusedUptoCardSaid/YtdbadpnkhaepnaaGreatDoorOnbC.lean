import Derived.Orders
import Derived.LoopN
import Derived.Laws.AppendOwn
import Derived.Laws.IdiomCopy
import Derived.Test.YtdbadpnkhaepnaaGreatDoorProg
import Derived.Shelf.RegionOpenPlain
import Derived.WalkKit
import Derived.Below
import Derived.Deep.LoopGhost
import Derived.Deep.RegionLaw
import Derived.Deep.AppendSrc
import Derived.Lib.Walk
import Derived.Lib.SliceRun
import Derived.Lib.AppendZeros
import Derived.Lib.AppendZerosOnto
import Derived.Laws.NewBlocks
import Derived.Laws.Externs
import Derived.KernelRfl
import Derived.Shelf.SlSortCmp.WholeK
import Derived.Shelf.SlSortCmp.NoneTotal
import Derived.Shelf.SlicesG.Cmp
import Derived.Ground.SlsfProg
import Derived.Ground.SlgcProg
import Derived.Lib.Strings
import Derived.Lib.Slices
import Derived.Lib.Bytealg
import Derived.Shelf.Strings.Builder1
import Derived.Shelf.Strings.Builder2
import Derived.Shelf.Strings.OnBuilder
import Derived.Shelf.Small.Bits
import Derived.Shelf.Small.Strs
import Derived.Shelf.Strconv.Itoa0
import Derived.Shelf.Strings.Search1
import Derived.Test.YtdbadpnkhaepnaaGreatDoorOnbB
set_option linter.unusedSimpArgs false
set_option linter.unusedVariables false
set_option linter.unusedSectionVars false
set_option linter.defProp false
namespace Go.Abs
section
open Go Go.RowKit
variable [ew]
section
variable {P:Program} {C:cu} {A:cI}
def Cr (C:cu) (o:bg) (env:Env) (M:ai) (v:ae) (M':ai):Prop :=
 ((∀t want,o.guard=some (t,want)->dr env t = .bool want)/\ic C o env M=some (v,M')) \/
 (∃t want,o.guard=some (t,want)/\(dr env t = .bool (!want)\/dr env t = .tuple [])/\v = .tuple []/\M'=M)
def gP (env:Env) (l:List bg) (vals:Nat->ae) (L:Nat->Bool):Nat->Env
 |0=>env
 |k+1=>match l[k]? with
  |some o=>if L k then jM (gP env l vals L k) o.dst (vals k) else gP env l vals L k
  |none=>gP env l vals L k
def tw (env:Env) (o:bg) (r:List bg) (vals:Nat->ae):∀k,gP env (o::r) vals (fun _=>true) (k+1)=gP (jM env o.dst (vals 0)) r (fun i=>vals (i+1)) (fun _=>true) k
 |0=>rfl
 |k+1=>by
  rw [gP,tw env o r vals k]
  simp only [List.getElem?_cons_succ,gP]
def R0 (l:List bg) (env:Env) (vals:Nat->ae) (mems:Nat->ai) (N:Nat) (x:Out):Prop :=
 (N=l.length/\(∀k,k<N->(vals k).dK=false)/\x=⟨.normal,gP env l vals (fun _=>true) N,mems N⟩) \/
 ∃n y v,N=n+1/\l[n]?=some y/\y.lets=true/\vals n = .gw v/\(∀k,k<n->(vals k).dK=false)/\x=⟨.gw v,[],mems N⟩
def trace:∀ {l:List bg} {env:Env} {M:ai} {x:Out},cE C l env M=some x->∃(N:Nat) (vals:Nat->ae) (mems:Nat->ai),N<=l.length/\mems 0=M /\
  (∀(k:Nat) (o:bg),k<N->l[k]?=some o->Cr C o (gP env l vals (fun _=>true) k) (mems k) (vals k) (mems (k+1)))/\R0 l env vals mems N x
 | [],env,M,x,h=>by
  simp only [cE] at h; injection h with h
  exact ⟨0,fun _ => .any,fun _=>M,Nat.le_refl _,rfl,fun k o hk=>by omega,.inl ⟨rfl,fun k hk=>by omega,h.symm⟩⟩
 |o::r,env,M,x,h=>by
  have key:∀(v:ae) (M':ai),Cr C o env M v M'->v.dK=false->cE C r (jM env o.dst v) M'=some x->∃(N:Nat) (vals:Nat->ae) (mems:Nat->ai),N<=(o::r).length/\mems 0=M /\
    (∀(k:Nat) (p:bg),k<N->(o::r)[k]?=some p->Cr C p (gP env (o::r) vals (fun _=>true) k) (mems k) (vals k) (mems (k+1)))/\R0 (o::r) env vals mems N x:=by
   intro v M' hs hnp hr
   obtain ⟨N,vals,mems,h0,h1,h2,h3⟩:=trace hr
   refine ⟨N+1,fun i=>match i with|0=>v|i+1=>vals i,fun i=>match i with|0=>M|i+1=>mems i,by simpa using h0,rfl,fun k p hk hp=>?_,?_⟩
   ·cases k with
    |zero =>
     simp at hp; subst hp
     simp only [gP,h1]
     exact hs
    |succ k =>
     rw [tw]
     exact h2 k p (by omega) (by simpa using hp)
   ·have np:∀n,(∀k,k<n->(vals k).dK=false)->∀k,k<n+1->((fun i=>match i with|0=>v|i+1=>vals i:Nat->ae) k).dK=false:=by
     intro n h k hk
     cases k with
     |zero=>exact hnp
     |succ k=>exact h k (by omega)
    rcases h3 with ⟨e1,e2,e3⟩|⟨n,y,u,e1,e2,e3,e4,e5,e6⟩
    ·refine .inl ⟨by simp [e1],np N e2,?_⟩
     rw [tw]; exact e3
    ·exact .inr ⟨n+1,y,u,by rw [e1],by simpa using e2,e3,e4,np n e5,e6⟩
  rcases iA h with ⟨y,h1,h2,⟨h3,h4⟩|⟨v,h3,h4,rfl⟩⟩|⟨t,want,h1,h2,h3⟩
  ·exact key y.1 y.2 (.inl ⟨h1,h2⟩) h3 h4
  ·refine ⟨1,fun _=>y.1,fun i=>match i with|0=>M|_=>y.2,by simp,rfl,fun k p hk hp=>?_,.inr ⟨0,o,v,rfl,rfl,h3,h4,fun k hk=>by omega,rfl⟩⟩
   have:k=0:=by omega
   subst this
   simp at hp; subst hp
   exact .inl ⟨h1,h2⟩
  ·exact key (.tuple []) M (.inr ⟨t,want,h1,h2,rfl,rfl⟩) rfl h3
section
variable {env:Env} {l:List bg} {vals:Nat->ae} {L L':Nat->Bool} {t:Nat}
def wr (l:List bg) (k t:Nat):Prop:=∃o,l[k]?=some o/\o.dst=some t
def zw (k:Nat) (h:wr l k t) (hL:L k=true):dr (gP env l vals L (k+1)) t=vals k:=by
 obtain ⟨o,h1,h2⟩:=h
 rw [gP,h1]
 simp only [hL,if_true,jM,h2,dr]
def ny (k:Nat) (h:¬(wr l k t/\L k=true)):dr (gP env l vals L (k+1)) t=dr (gP env l vals L k) t:=by
 rw [gP]
 split
 ·rename_i o ho
  split
  ·rename_i hk
   unfold jM
   split
   ·rename_i d hd
    rw [dr,if_neg]
    rintro rfl
    exact h ⟨⟨o,ho,hd⟩,hk⟩
   ·rfl
  ·rfl
 ·rfl
def nz {i:Nat}:∀n,i<=n->(∀k,i<=k->k<n->¬(wr l k t/\L k=true))->dr (gP env l vals L n) t=dr (gP env l vals L i) t
 |0,hi,_=>by rw [show i=0 by omega]
 |n+1,hi,h=>by
  by_cases he:i=n+1
  ·rw [he]
  ·rw [ny n (h n (by omega) (by omega))]
   exact nz n (by omega) fun k h1 h2=>h k h1 (by omega)
def pT:∀n,(∀k,k<n->wr l k t->L k=L' k)->dr (gP env l vals L n) t=dr (gP env l vals L' n) t
 |0,_=>rfl
 |n+1,h=>by
  have ih:=pT n fun k hk=>h k (by omega)
  by_cases hw:wr l n t
  ·have e:=h n (by omega) hw
   cases hL:L n with
   |true=>rw [zw n hw hL,zw n hw (by rw [<-e]; exact hL)]
   |false=>rw [ny n (by simp [hL]),ny n (by rw [<-e]; simp [hL])]; exact ih
  ·rw [ny n (fun h=>hw h.1),ny n (fun h=>hw h.1)]; exact ih
end
def left (L:Nat->Bool):Nat->Nat
 |0=>0
 |k+1=>left L k+if L k then 0 else 1
def yu {L:Nat->Bool}:∀ {n},left L n=0->∀k,k<n->L k=true
 |0,_,k,hk=>by omega
 |n+1,h,k,hk=>by
  rw [left] at h
  by_cases he:k=n
  ·subst he
   cases hL:L k with
   |true=>rfl
   |false=>rw [hL] at h; simp at h
  ·exact yu (n:=n) (by omega) k (by omega)
def Bz {L L':Nat->Bool} {i:Nat} (hi:L i=false) (hi':L' i=true) (hne:∀k,k≠i->L' k=L k):∀n,left L n=left L' n+if i<n then 1 else 0
 |0=>by simp [left]
 |n+1=>by
  have ih:=Bz hi hi' hne n
  rw [left,left,ih]
  by_cases he:n=i
  ·subst he
   simp [hi,hi']
  ·rw [hne n he]
   by_cases h:i<n
   ·simp [h,show i<n+1 by omega]; omega
   ·simp [h,show ¬i<n+1 by omega]
def qS {bs:List Nat} {l:List bg}:∀(r:List bg) (k m:Nat) (y:bg),(iI bs l k r)[m]?=some y->∃x,r[m]?=some x/\y.dst=x.dst/\y.op=x.op/\y.guard=x.guard
 | [],k,m,y,h=>by simp [iI] at h
 |x::r,k,m,y,h=>by
  rw [iI] at h
  cases m with
  |zero=>simp at h; subst h; exact ⟨x,rfl,rfl,rfl,rfl⟩
  |succ m =>
   obtain ⟨z,h1,h2⟩:=qS r (k+1) m y (by simpa using h)
   exact ⟨z,by simpa using h1,h2⟩
def qT {bs:List Nat} {l:List bg}:∀(r:List bg) (k:Nat),(iI bs l k r).length=r.length
 | [],_=>rfl
 |x::r,k=>by rw [iI,List.length_cons,qT r (k+1),List.length_cons]
def vS {ops:Array Oper}:∀ {r:List Oper} {g:List Bool} {l:List bg},kU P A ops g r=some l->l.length=r.length/\∀(k:Nat) (o:Oper),r[k]?=some o->∃x b,l[k]?=some x/\AF P A ops b o=some x
 | [],g,l,h=>by simp [kU] at h; subst h; exact ⟨rfl,fun k o h=>by simp at h⟩
 |o::r,g,l,h=>by
  simp only [kU] at h
  obtain ⟨x,hx,h⟩:=ar h
  obtain ⟨l',hl,h⟩:=ar h
  injection h with h; subst h
  obtain ⟨h1,h2⟩:=vS hl
  refine ⟨by simp [h1],fun k p hp=>?_⟩
  cases k with
  |zero=>simp at hp; subst hp; exact ⟨x,_,rfl,hx⟩
  |succ k =>
   obtain ⟨y,b,g1,g2⟩:=h2 k p (by simpa using hp)
   exact ⟨y,b,by simpa using g1,g2⟩
structure Ord (ops:Array Oper) (l:List bg):Prop where
 len:l.length=ops.size
 PJ:∀(k:Nat) (o:Oper) (e:Edge),ops[k]?=some o->e∈o.after.toList->Region.binds .any e=true->e.on<k
 alone:∀(k:Nat) (y:bg),l[k]?=some y->y.pt=true->y.op.pn=true
 opl:∀(k:Nat) (y:bg),l[k]?=some y->DH y.op=true
 Ty:∀(k i:Nat) (y x:bg),l[k]?=some y->y.mr=true->y.grow=false->l[i]?=some x->x.op.HH=true->(i<k->ahead (jw ops.toList) i k=true)/\(k<i->ahead (jw ops.toList) k i=true)
 sep:∀(k i:Nat) (y x:bg),l[k]?=some y->y.sep≠[]->l[i]?=some x->x.op.HH=true->(k<i->ahead (jw ops.toList) k i=true)/\(i<k->ahead (jw ops.toList) i k=true\/∃z,x.op.Fl=some z/\z∈y.sep/\acd l i k z=true)
 meet:∀(i k:Nat) (x y:bg),i<k->l[i]?=some x->l[k]?=some y->meet x y=true->ahead (jw ops.toList) i k=true
 stop:∀(i k:Nat) (y:bg),l[k]?=some y->y.lets=true->i<l.length->(k<i->ahead (jw ops.toList) k i=true)/\(i<k->ahead (jw ops.toList) i k=true\/∀x,l[i]?=some x->x.op.Lo=false)
 eff:∀(i k:Nat) (x y:bg),i<k->l[i]?=some x->l[k]?=some y->x.mr=true->y.mr=true->ahead (jw ops.toList) i k=true\/(uS ops l i=true/\uS ops l k=true)
def X6 {ops:Array Oper} {l:List bg} (hlen:l.length=ops.size) (h:zN ops (jw ops.toList) l=true):Ord ops l:=by
 unfold zN at h
 have hk:∀(k:Nat) (y:bg) (o:Oper),l[k]?=some y->ops[k]?=some o->(o.after.toList.all (fun e => !Region.binds .any e||decide (e.on<k))=true/\((!y.pt||y.op.pn)&&DH y.op)=true/\((!(y.mr && !y.grow)||fenced (jw ops.toList) l k)&&(y.sep.isEmpty||vy (jw ops.toList) l k y.sep))=true/\(!y.lets||D3 (jw ops.toList) l k)=true) /\
   ∀(i:Nat) (x:bg),i<k->l[i]?=some x->(!Go.Abs.meet x y||ahead (jw ops.toList) i k)=true/\(!(x.mr&&y.mr)||(ahead (jw ops.toList) i k||(uS ops l i&&uS ops l k)))=true:=by
  intro k y o hy ho
  have h1:=List.all_eq_true.1 h k (List.mem_range.2 (ak hy))
  rw [bW,hy,ho] at h1
  rw [Bool.and_eq_true,Bool.and_eq_true,Bool.and_eq_true] at h1
  obtain ⟨⟨⟨a1,a2⟩,a3⟩,a45⟩:=h1
  rw [Bool.and_eq_true] at a45
  obtain ⟨a5,a4⟩:=a45
  refine ⟨⟨a1,a2,a3,a5⟩,fun i x hi hx=>?_⟩
  have h2:=List.all_eq_true.1 a4 i (List.mem_range.2 hi)
  rw [bW,hx] at h2
  simpa [Bool.and_eq_true] using h2
 have hop:∀k,k<l.length->∃o,ops[k]?=some o:=fun k hk=>⟨ops[k]'(by omega),Array.getElem?_eq_getElem (by omega)⟩
 refine ⟨hlen,fun k o e ho he hb=>?_,fun k y hy hn=>?_,fun k y hy=>?_,fun k i y x hy hE hg hx hl=>?_,fun k i y x hy hsp hx hl=>?_,fun i k x y hi hx hy hm=>?_,fun i k y hy hl hi=>?_,fun i k x y hi hx hy hE hE'=>?_⟩
 ·have hkl:k<l.length:=by rw [hlen]; exact (Array.getElem?_eq_some_iff.1 ho).1
  have:=List.all_eq_true.1 (hk k _ o (List.getElem?_eq_getElem hkl) ho).1.1 e he
  simpa [hb] using this
 ·obtain ⟨o,ho⟩:=hop k (ak hy)
  have:=(hk k y o hy ho).1.2.1
  rw [Bool.and_eq_true] at this
  simpa [hn] using this.1
 ·obtain ⟨o,ho⟩:=hop k (ak hy)
  have:=(hk k y o hy ho).1.2.1
  rw [Bool.and_eq_true] at this
  exact this.2
 ·obtain ⟨o,ho⟩:=hop k (ak hy)
  have h1:=(Bool.and_eq_true _ _▸(hk k y o hy ho).1.2.2.1:_/\_).1
  have h2:fenced (jw ops.toList) l k=true:=by simpa [hE,hg] using h1
  have h3:=List.all_eq_true.1 h2 i (List.mem_range.2 (ak hx))
  rw [bW,hx] at h3
  simp only [hl,Bool.not_true,Bool.false_or] at h3
  refine ⟨fun hik=>by rw [if_pos hik] at h3; exact h3,fun hki=>?_⟩
  rw [if_neg (by omega)] at h3
  have:¬i=k:=by omega
  simpa [this] using h3
 ·obtain ⟨o,ho⟩:=hop k (ak hy)
  have h1:=(Bool.and_eq_true _ _▸(hk k y o hy ho).1.2.2.1:_/\_).2
  have h2:vy (jw ops.toList) l k y.sep=true:=by
   have:y.sep.isEmpty=false:=by cases he:y.sep with
    |nil=>exact absurd he hsp
    |cons=>rfl
   simpa [this] using h1
  have h3:=List.all_eq_true.1 h2 i (List.mem_range.2 (ak hx))
  rw [bW,hx] at h3
  simp only [hl,Bool.not_true,Bool.false_or] at h3
  refine ⟨fun hki=>?_,fun hik=>?_⟩
  ·have hne:(i==k)=false:=by simp; omega
   rw [hne,if_neg (by omega),Bool.false_or] at h3
   exact h3
  ·have hne:(i==k)=false:=by simp; omega
   rw [hne,if_pos hik,Bool.false_or,Bool.or_eq_true] at h3
   rcases h3 with h3|h3
   ·exact .inl h3
   ·right
    split at h3
    ·rename_i z hz
     rw [Bool.and_eq_true] at h3
     exact ⟨z,hz,by simpa using h3.1,h3.2⟩
    ·cases h3
 ·obtain ⟨o,ho⟩:=hop k (ak hy)
  have:=((hk k y o hy ho).2 i x hi hx).1
  simpa [hm] using this
 ·obtain ⟨o,ho⟩:=hop k (ak hy)
  have h1:=(hk k y o hy ho).1.2.2.2
  rw [hl,Bool.not_true,Bool.false_or] at h1
  have h2:=List.all_eq_true.1 h1 i (List.mem_range.2 hi)
  refine ⟨fun hki=>?_,fun hik=>?_⟩
  ·have hne:(i==k)=false:=by simp; omega
   rw [hne,if_neg (by omega),Bool.false_or] at h2
   exact h2
  ·have hne:(i==k)=false:=by simp; omega
   rw [hne,if_pos hik,Bool.false_or,Bool.or_eq_true] at h2
   refine h2.imp id fun h3 x hx=>?_
   rw [bW,hx] at h3
   simpa using h3
 ·obtain ⟨o,ho⟩:=hop k (ak hy)
  have:=((hk k y o hy ho).2 i x hi hx).2
  simpa [hE,hE'] using this
structure zg (n:Nat) (mems:Nat->ai) (E A:Nat->Bool) (L:Nat->Bool) (q:Nat) (G:ai):Prop where
 qn:q<=n
 last:q=0\/∃p,q=p+1/\E p=true/\L p=true
 rest:∀k,q<=k->k<n->E k=true->L k=false
 len:G.length=(mems q).length
 at':∀id:Nat,G[id]?=(mems q)[id]?\/(G[id]?=some .n9/\∃k,k<q/\A k=true/\L k=false/\(mems k).length=id)
 un:∀k,k<q->A k=true->L k=false->G[(mems k).length]?=some .n9
def zg.full {n:Nat} {mems:Nat->ai} {E A L:Nat->Bool} {q:Nat} {G:ai} (g:zg n mems E A L q G) (h:∀k,k<q->A k=true->L k=true):G=mems q:=by
 apply List.ext_getElem?
 intro id
 rcases g.at' id with h1|⟨_,k,h1,h2,h3,_⟩
 ·exact h1
 ·rw [h k h1 h2] at h3; cases h3
def cm.XR {j:J} {M:ai} {w:World} {x:ae} {v:Value} (h:cm j M w x v) {id:Nat} (hid:id∈x.cQ):M[id]?≠some .n9:=by
 intro hg
 cases h with
 |plain h=>cases h<;>simp [ae.cQ] at hid
 |c0=>simp [ae.cQ] at hid
 |own hk=>simp [ae.cQ] at hid; subst hid; rw [hk] at hg; cases hg
 |agg=>simp [ae.cQ] at hid
 |tuple=>simp [ae.cQ] at hid
 |ptr _ hc=>simp [ae.cQ] at hid; subst hid; obtain ⟨cs,hc⟩:=hc; rw [hc] at hg; cases hg
 |dM=>simp [ae.cQ] at hid
 |func=>simp [ae.cQ] at hid
 |df hc=>simp [ae.cQ] at hid; subst hid; obtain ⟨_,_,hc⟩:=hc; rw [hc] at hg; cases hg
 |dW hc=>simp [ae.cQ] at hid; subst hid; obtain ⟨_,_,hc⟩:=hc; rw [hc] at hg; cases hg
 |eb=>simp [ae.cQ] at hid
 |bu _ _ hM=>simp [ae.cQ] at hid; subst hid; cases hM _ hg
 |dC _ _ hM=>simp [ae.cQ] at hid; subst hid; cases hM _ hg
 |jx=>simp [ae.cQ] at hid
 |cv hc=>simp [ae.cQ] at hid; subst hid; obtain ⟨cs,hc⟩:=hc; rw [hc] at hg; cases hg
 |dJ hc=>simp [ae.cQ] at hid; subst hid; obtain ⟨cs,hc⟩:=hc; rw [hc] at hg; cases hg
 |du hk=>simp [ae.cQ] at hid; subst hid; rw [hk] at hg; cases hg
 |any=>simp [ae.cQ] at hid
def oB {mems:Nat->ai} {i:Nat}:∀n,i<=n->(∀k,i<=k->k<n->mems k <+: mems (k+1))->mems i <+: mems n
 |0,hi,_=>by rw [show i=0 by omega]; exact List.prefix_refl _
 |n+1,hi,h=>by
  by_cases he:i=n+1
  ·rw [he]; exact List.prefix_refl _
  ·exact (oB n (by omega) fun k h1 h2=>h k h1 (by omega)).trans (h n (by omega) (by omega))
def aU.wP {j:J} {M:ai} {w:World} {env env':Env} {a:Act} (h:aU j M w env a) (he:∀t,dr env' t=dr env t):aU j M w env' a:=⟨fun t=>by rw [he t]; exact h.at' t,h.gl⟩
def BR (hmix:P.follows .mixedOrders=true) (hC:iM P C) {rd:Option Nat} {nd:Nat} {id:Nat} {ops:Array Oper} {l0 l:List bg} (hl0:kU P A ops [] ops.toList=some l0) (hg:ub ops l0=some l)
  {env:Env} {M:ai} {x:Out} (hx:cE C l env M=some x) {j:J} {w:World} {a:Act} (hr:Rel j M w) (hG:kS j M w) (he:aU j M w env a) (hs:a.tmps.size=A.n) {Q:Exit->Act->World->Prop}
  (hQ:∀a' w' j',Rel j' x.mem w'->aU j' x.mem w' x.env a'->Ext j M w j' x.mem w'->a'.tmps.size=A.n->a'.defers=a.defers->Q (jT x.e) a' w'):(Code.region id ops true).wpIn (Wd rd) nd P Q a w:=by
 obtain ⟨c1,c2⟩:=vS hl0
 have hlen0:l0.length=ops.size:=by simpa using c1
 unfold ub at hg
 split at hg
 case isFalse=>cases hg
 rename_i hok
 injection hg with hg
 rw [hg] at hok
 have hlen:l.length=ops.size:=by rw [<-hg,qT]; exact hlen0
 have od:=X6 hlen hok
 have hop:∀(k:Nat) (y:bg),l[k]?=some y->∃o x0 b,ops[k]?=some o/\AF P A ops b o=some x0/\y.dst=x0.dst/\y.op=x0.op/\y.guard=x0.guard:=by
  intro k y hy
  rw [<-hg] at hy
  obtain ⟨x0,h1,h2,h3,h4⟩:=qS _ _ _ _ hy
  have hk:k<ops.size:=by rw [<-hlen0]; exact ak h1
  have ho:ops[k]?=some ops[k]:=Array.getElem?_eq_getElem hk
  obtain ⟨x1,b,h5,h6⟩:=c2 k ops[k] (by simp [hk])
  rw [h1] at h5; injection h5 with h5; subst h5
  exact ⟨_,x0,b,ho,h6,h2,h3,h4⟩
 obtain ⟨N,vals,mems,hN,m0,st,hxe⟩:=trace hx
 let E:Nat->Bool:=fun k=>match l[k]? with|some y=>y.mr|none=>false
 have hE:∀ {k:Nat} {y:bg},l[k]?=some y->E k=y.mr:=fun {k y} h=>by simp only [E,h]
 have hEs:∀ {k:Nat},E k=true->∃y,l[k]?=some y/\y.mr=true:=fun {k} h=>by
  simp only [E] at h
  split at h
  ·exact ⟨_,by assumption,h⟩
  ·cases h
 -- memory stays at what is no effect,and grows at what may
 have stays:∀k,k<N->E k=false->mems (k+1)=mems k:=by
  intro k hkN hEk
  have hk:k<l.length:=by omega
  have hy:=List.getElem?_eq_getElem hk
  rw [hE hy] at hEk
  rcases st k _ hkN hy with ⟨_,h⟩|⟨_,_,_,_,_,h⟩
  ·rcases j7 h with ⟨hn,hi,h1⟩|⟨hn,_,h1⟩|⟨hn,_,_,h1⟩
   ·exact (Av (od.alone k _ hy hn) h1 hi).1
   all_goals
    have hE0:l[k].op.Lo=false:=by simpa [bg.mr,hn] using hEk
    cases hl:l[k].op.HH with
    |true=>exact (BD hl h1).1
    |false=>exact (Ff hE0 hl h1).1
  ·exact h
 have grows:∀k (y:bg),k<N->l[k]?=some y->y.mr=true->y.grow=true->mems k <+: mems (k+1)\/(y.sep≠[]/\rz (gP env l vals (fun _=>true) k) (mems k) (mems (k+1)) y.sep):=by
  intro k y hkN hy hEy hgr
  rcases st k y hkN hy with ⟨_,h⟩|⟨_,_,_,_,_,h⟩
  ·rcases j7 h with ⟨hn,_,_⟩|⟨_,hg',_⟩|⟨_,_,hp,_⟩
   ·simp [bg.mr,hn] at hEy
   ·rw [hgr] at hg'; cases hg'
   ·exact hp
  ·rw [h]; exact .inl (List.prefix_refl _)
 let A0:Nat->Bool:=uS ops l
 have hA:∀k,k<N->A0 k=true->∃(y:bg) (o:Oper) (V:Nat->ae) (B:aQ),l[k]?=some y/\ops[k]?=some o/\y.guard=none/\E k=true/\vals k=V (mems k).length/\mems (k+1)=mems k++[B]/\(V (mems k).length).dK=false /\
   ∀ {env':Env} {j:J} {G:ai} {w:World} {a:Act} {p:Nat} {K:Act->World->Prop} {KP:Value->World->Prop},(∀t,t∈y.op.fu->dr env' t=dr (gP env l vals (fun _=>true) k) t)->Rel j G w->kS j G w->aU j G w env' a->G[p]?=some .n9 ->
    (∀v w',db j G w (V p,G.set p B) v w'->K (a.put o.dst v) w')->lK P o a w K KP:=by
  intro k hkN hAk
  have hk:k<l.length:=by omega
  obtain ⟨y,hy⟩:∃y,l[k]?=some y:=⟨_,List.getElem?_eq_getElem hk⟩
  obtain ⟨o,ho⟩:∃o,ops[k]?=some o:=⟨_,Array.getElem?_eq_getElem (by omega)⟩
  obtain ⟨o',x0,b,ho',hco,f1,f2,f3⟩:=hop k _ hy
  rw [ho] at ho'; injection ho' with ho'; subst ho'
  obtain ⟨g1,_⟩:=th hco
  rw [<-f2] at g1
  simp only [A0,uS,ho,bW,hy,Bool.and_eq_true,Option.isNone_iff_eq_none] at hAk
  obtain ⟨k2,k3⟩:=hAk
  have h1:bD C (gP env l vals (fun _=>true) k) (mems k) y.op=some (vals k,mems (k+1)):=by
   rcases st k y hkN hy with ⟨_,h⟩|⟨t',want,h,_⟩
   ·rcases j7 h with ⟨_,_,h1⟩|⟨_,_,h1⟩|⟨_,_,_,h1⟩<;>exact h1
   ·rw [k3] at h; cases h
  have hnm:y.op.pn=false->y.pt=false:=fun hc=>by
   cases hn:y.pt with
   |false=>rfl
   |true=>have:=od.alone k y hy hn; rw [hc] at this; cases this
  split at k2
  ·rename_i cs hcs
   split at k2
   case h_2=>cases k2
   rename_i t hot
   have hn:=hnm (by rw [hcs]; rfl)
   rw [hcs] at h1 g1
   simp only [bD] at h1
   injection h1 with h1
   refine ⟨y,o,fun p => .ptr p 0,.cells cs,hy,ho,k3,by rw [hE hy]; simp [bg.mr,hn,hcs,eT.Lo],(congrArg Prod.fst h1).symm,(congrArg Prod.snd h1).symm,rfl,fun {env' j G w a p K KP} _ hr hG he hp hK=>?_⟩
   obtain ⟨us,tt,hRC,hRan⟩:=FG hot g1 a w
   exact .inl ⟨_,_,hRan,hK _ _ (JR hr hp (hRC _ _ _) tt)⟩
  ·rename_i f args hcs
   split at k2
   case h_2=>cases k2
   rename_i c hot
   split at k2
   case h_2=>cases k2
   rename_i f0 hcal
   have hn:=hnm (by rw [hcs]; rfl)
   rw [hcs] at h1 g1
   obtain ⟨xs,sz,n,hx0,_⟩:=qZ hC hot hcal g1 h1
   refine ⟨y,o,fun p => .slice (.own p) xs,.tick sz n,hy,ho,k3,by rw [hE hy]; simp [bg.mr,hn,hcs,eT.Lo],congrArg Prod.fst hx0,congrArg Prod.snd hx0,rfl,fun {env' j G w a p K KP} hag hr hG he hp hK=>?_⟩
   have h2:bD C env' (mems k) (.oJ f args)=some (vals k,mems (k+1)):=by
    rw [(xM (C:=C) (M:=mems k) (op := .oJ f args) fun t ht=>hag t (by rw [hcs]; exact ht)).1]
    exact h1
   obtain ⟨xs',sz',n',hx1,hrun⟩:=qZ hC hot hcal g1 h2
   rw [hx0] at hx1
   injection hx1 with e1 e2
   injection e1 with _ e1
   have e3:=List.append_cancel_left e2
   injection e3 with e3 _
   injection e3 with e3 e4
   subst e1; subst e3; subst e4
   exact hrun hr hG he hp hK
  ·cases k2
 have hAE:∀k,k<N->A0 k=true->E k=true:=fun k hk h=>by
  obtain ⟨y,o,V,B,_,_,_,h1,_⟩:=hA k hk h
  exact h1
 -- where nothing but boxes is made memory grows
 have pref:∀a b,a<=b->b<=N->(∀k,a<=k->k<b->E k=true->A0 k=true)->mems a <+: mems b:=fun a b hab hb hk=>oB b hab fun k h1 h2=>by
  cases hEk:E k with
  |false=>rw [stays k (by omega) hEk]; exact List.prefix_refl _
  |true =>
   obtain ⟨y,o,V,B,_,_,_,_,_,h3,_⟩:=hA k (by omega) (hk k h1 h2 hEk)
   rw [h3]; exact List.prefix_append _ _
 have same:∀a b,a<=b->b<=N->(∀k,a<=k->k<b->E k=false)->mems b=mems a:=by
  intro a b hab
  induction b with
  |zero=>intro _ _; rw [show a=0 by omega]
  |succ b ih =>
   intro hb hk
   by_cases he:a=b+1
   ·rw [he]
   ·rw [stays b (by omega) (hk b (by omega) (by omega)),ih (by omega) (by omega) fun k h1 h2=>hk k h1 (by omega)]
 -- where a box of that length is made
 have posn:∀a b,a<=b->b<=N->(∀k,a<=k->k<b->E k=true->A0 k=true)->∀id,(mems a).length<=id->id<(mems b).length->∃k,a<=k/\k<b/\A0 k=true/\(mems k).length=id:=by
  intro a b hab
  induction b with
  |zero=>intro _ _ id h1 h2; rw [show a=0 by omega] at h1; omega
  |succ b ih =>
   intro hb hk id h1 h2
   by_cases he:a=b+1
   ·rw [he] at h1; omega
   ·cases hEb:E b with
    |false =>
     rw [stays b (by omega) hEb] at h2
     obtain ⟨k,g1,g2,g3⟩:=ih (by omega) (by omega) (fun k h1 h2=>hk k h1 (by omega)) id h1 h2
     exact ⟨k,g1,by omega,g3⟩
    |true =>
     have hAb:=hk b (by omega) (by omega) hEb
     obtain ⟨y,o,V,B,_,_,_,_,_,h3,_⟩:=hA b (by omega) hAb
     rw [h3] at h2
     simp only [List.length_append,List.length_cons,List.length_nil] at h2
     by_cases hid:id<(mems b).length
     ·obtain ⟨k,g1,g2,g3⟩:=ih (by omega) (by omega) (fun k h1 h2=>hk k h1 (by omega)) id h1 hid
      exact ⟨k,g1,by omega,g3⟩
     ·exact ⟨b,by omega,by omega,hAb,by omega⟩
 refine wpIn_region_any hmix ?_
 have key:∀(fuel:Nat) (listed:Array Bool) (a1:Act) (w1:World),listed.size=ops.size->left (fun k=>listed.getD k false) l.length=fuel->Down ops (fun k=>listed.getD k false)->(∀k,k<l.length->listed.getD k false=true->k<N/\(vals k).dK=false) ->
   (∃j1 q G,zg l.length mems E A0 (fun k=>listed.getD k false) q G/\Rel j1 G w1/\aU j1 G w1 (gP env l vals (fun k=>listed.getD k false) l.length) a1 /\
    Ext j M w j1 G w1/\a1.tmps.size=A.n/\a1.defers=a.defers)->wpAnyIn (Wd rd) nd P .any ops Q fuel listed a1 w1:=by
  have ends:∀(listed:Array Bool) (a1:Act) (w1:World),(∀k,k<l.length->listed.getD k false=true) ->
    (∃j1 q G,zg l.length mems E A0 (fun k=>listed.getD k false) q G/\Rel j1 G w1/\aU j1 G w1 (gP env l vals (fun k=>listed.getD k false) l.length) a1 /\
    Ext j M w j1 G w1/\a1.tmps.size=A.n/\a1.defers=a.defers)->(∀k,k<l.length->listed.getD k false=true->k<N/\(vals k).dK=false)->Q .normal a1 w1:=by
   intro listed a1 w1 hall hI hin
   obtain ⟨j1,q,G,gp,r1,e1,x1,s1,d1⟩:=hI
   rcases hxe with ⟨n1,_,n3⟩|⟨n,y,v,n1,n2,_,n4,_,_⟩
   ·have hm:G=mems l.length:=by
     have hqn:=gp.qn
     rw [gp.full fun k hk _=>hall k (by omega),same q l.length gp.qn (by omega) fun k h1 h2=>?_]
     cases hEk:E k with
     |false=>rfl
     |true =>
      have:=gp.rest k h1 h2 hEk
      rw [hall k h2] at this; cases this
    rw [hm] at r1 e1 x1
    rw [n3,n1] at hQ
    exact hQ a1 w1 j1 r1 (e1.wP fun t=>pT _ fun k hk _=>(hall k hk).symm) x1 s1 d1
   ·have hnl:=ak n2
    have:=(hin n hnl (hall n hnl)).2
    rw [n4] at this; cases this
  intro fuel
  induction fuel with
  |zero =>
   intro listed a1 w1 hsz hleft hd hin hI
   have hall:=yu hleft
   refine ⟨?_,ends listed a1 w1 hall hI hin⟩
   apply List.eq_nil_iff_forall_not_mem.2
   intro i hi
   obtain ⟨h1,oi,h2,_⟩:=mem_ready.1 hi
   have hil:i<l.length:=by rw [hlen]; exact (Array.getElem?_eq_some_iff.1 h2).1
   have h3:=hall i hil
   simp only [Array.getD_eq_getD_getElem?] at h1 h3
   have:i<listed.size:=by omega
   rw [Array.getElem?_eq_getElem this] at h1 h3
   simp at h1 h3
   rw [h1] at h3; cases h3
  |succ fuel ih =>
   intro listed a1 w1 hsz hleft hd hin hI
   refine ⟨fun hnil=>?_,fun i hi=>?_⟩
   ·refine ends listed a1 w1 ?_ hI hin
    intro k
    induction k using Nat.strongRecOn with
    |_ k ihk =>
     intro hk
     cases hL:listed.getD k false with
     |true=>rfl
     |false =>
      exfalso
      have hks:k<ops.size:=by omega
      have ho:ops[k]?=some ops[k]:=Array.getElem?_eq_getElem hks
      have:k∈Region.ready .any ops listed:=by
       refine mem_ready.2 ⟨?_,_,ho,fun e he hb=>?_⟩
       ·simp only [Array.getD_eq_getD_getElem?] at hL ⊢
        have hkl:k<listed.size:=by omega
        rw [Array.getElem?_eq_getElem hkl] at hL ⊢
        simpa using hL
       ·have:=od.PJ k _ e ho (by simpa using he) hb
        exact ihk e.on this (by omega)
      rw [hnil] at this
      cases this
   ·obtain ⟨hun0,o,ho,hall⟩:=mem_ready.1 hi
    obtain ⟨j1,q,G,gp,r1,e1,x1,s1,d1⟩:=hI
    have his:i<ops.size:=(Array.getElem?_eq_some_iff.1 ho).1
    have hil:i<l.length:=by omega
    have hils:i<listed.size:=by omega
    have hLi:listed.getD i false=false:=by
     simp only [Array.getD_eq_getD_getElem?] at hun0 ⊢
     rw [Array.getElem?_eq_getElem hils] at hun0 ⊢
     simpa using hun0
    have hL'i:(listed.setIfInBounds i true).getD i false=true:=by
     simp only [Array.getD_eq_getD_getElem?,Array.getElem?_setIfInBounds_self,hils,if_true]
     rfl
    have hL'ne:∀k,k≠i->(listed.setIfInBounds i true).getD k false=listed.getD k false:=fun k hk=>by
     simp only [Array.getD_eq_getD_getElem?,Array.getElem?_setIfInBounds_ne (Ne.symm hk)]
    have hy:=List.getElem?_eq_getElem hil
    obtain ⟨o',x0,b,ho',hco,f1,f2,f3⟩:=hop i _ hy
    rw [ho] at ho'; injection ho' with ho'; subst ho'
    obtain ⟨g1,g2,_,g4,g5⟩:=th hco
    rw [<-f2] at g1
    rw [<-f1] at g2
    rw [<-f3] at g5
    generalize hyy:l[i]=y at *
    have hall':∀e,e∈o.after.toList->Region.binds .any e=true->listed.getD e.on false=true:=fun e h1 h2=>hall e (by simpa using h1) h2
    have rdy:∀k,ahead (jw ops.toList) k i=true->listed.getD k false=true:=fun k h=>Au (L:=fun k=>listed.getD k false) hd od.PJ ho hall' h
    have nol:∀k,k<l.length->ahead (jw ops.toList) i k=true->listed.getD k false=false:=fun k hk h=>by
     cases hL:listed.getD k false with
     |false=>rfl
     |true =>
      have:=vH (L:=fun k=>listed.getD k false) hd od.PJ k h (by omega) hL
      rw [hLi] at this; cases this
    have hiN:i<N:=by
     rcases Nat.lt_or_ge i N with h|h
     ·exact h
     rcases hxe with ⟨n1,_,_⟩|⟨n,y',v,n1,n2,n3,n4,_,_⟩
     ·omega
     ·have h5:=rdy n ((od.stop i n y' n2 n3 hil).1 (by omega))
      have:=(hin n (ak n2) h5).2
      rw [n4] at this; cases this
    have agree:∀t,t∈y.reads->dr (gP env l vals (fun k=>listed.getD k false) l.length) t=dr (gP env l vals (fun _=>true) i) t:=by
     intro t ht
     refine (nz l.length (Nat.le_of_lt hil) fun k h1 h2=>?_).trans (pT i fun k hk hw=>?_)
     ·rintro ⟨⟨x',hx',hdx⟩,hLk⟩
      by_cases hki:k=i
      ·subst hki; rw [hLi] at hLk; cases hLk
      ·have hm:meet y x'=true:=by simp [meet,hdx,ht]
       rw [nol k h2 (od.meet i k y x' (by omega) hy hx' hm)] at hLk
       cases hLk
     ·obtain ⟨x',hx',hdx⟩:=hw
      have hm:meet x' y=true:=by simp [meet,hdx,ht]
      exact rdy k (od.meet k i x' y hk hx' hy hm)
    have newEnv:∀t,dr (gP env l vals (fun k=>(listed.setIfInBounds i true).getD k false) l.length) t=dr (jM (gP env l vals (fun k=>listed.getD k false) l.length) y.dst (vals i)) t:=by
     intro t
     by_cases hdt:y.dst=some t
     ·rw [hdt]
      simp only [jM,dr,if_true]
      rw [nz (i:=i+1) l.length (by omega) fun k h1 h2=>?_]
      ·exact zw i ⟨y,hy,hdt⟩ hL'i
      ·rintro ⟨⟨x',hx',hdx⟩,hLk⟩
       rw [hL'ne k (by omega)] at hLk
       have hm:meet y x'=true:=by simp [meet,hdt,hdx]
       rw [nol k h2 (od.meet i k y x' (by omega) hy hx' hm)] at hLk
       cases hLk
     ·have e2:dr (jM (gP env l vals (fun k=>listed.getD k false) l.length) y.dst (vals i)) t=dr (gP env l vals (fun k=>listed.getD k false) l.length) t:=by
       unfold jM
       split
       ·rename_i d hd'
        rw [dr,if_neg]
        rintro rfl
        exact hdt hd'
       ·rfl
      rw [e2]
      refine pT _ fun k _ hw=>hL'ne k ?_
      rintro rfl
      obtain ⟨x',hx',hdx⟩:=hw
      rw [hy] at hx'; injection hx' with hx'; subst hx'
      exact hdt hdx
    have hqN:q<=N:=by
     rcases gp.last with h|⟨p,hp1,hp2,hp3⟩
     ·omega
     ·obtain ⟨z0,hz0,_⟩:=hEs hp2
      have:=(hin p (ak hz0) hp3).1
      omega
    -- effects that are ordered
    have effA:∀a b,a<b->E a=true->E b=true->(A0 a=false\/A0 b=false)->ahead (jw ops.toList) a b=true:=by
     intro a b hab ha hb hn
     obtain ⟨x',hx',hE'⟩:=hEs ha
     obtain ⟨y',hy',hE2⟩:=hEs hb
     rcases od.eff a b x' y' hab hx' hy' hE' hE2 with h|⟨h1,h2⟩
     ·exact h
     ·rcases hn with hn|hn
      ·rw [show A0 a=true from h1] at hn; cases hn
      ·rw [show A0 b=true from h2] at hn; cases hn
    have inL:∀a b,b<l.length->ahead (jw ops.toList) a b=true->listed.getD b false=true->listed.getD a false=true:=fun a b hb h1 h2=>vH (L:=fun k=>listed.getD k false) hd od.PJ b h1 (by omega) h2
    -- what is between one that is not done and the last that is
    have betw:∀k,k<q->E k=true->A0 k=true->listed.getD k false=false->∀m,k<=m->m<q->E m=true->A0 m=true:=by
     intro k hkq hEk hAk hLk m h1 h2 hEm
     cases hAm:A0 m with
     |true=>rfl
     |false =>
      exfalso
      rcases gp.last with h|⟨p,hp1,hp2,hp3⟩
      ·omega
      have hqn:=gp.qn
      have hkm:k<m:=by
       rcases Nat.lt_or_ge k m with h|h
       ·exact h
       ·have:k=m:=by omega
        subst this; rw [hAk] at hAm; cases hAm
      have a1:=effA k m hkm hEk hEm (.inr hAm)
      have hLm:listed.getD m false=true:=by
       by_cases hmp:m=p
       ·rw [hmp]; exact hp3
       ·exact inL m p (by omega) (effA m p (by omega) hEm hp2 (.inl hAm)) hp3
      rw [inL k m (by omega) a1 hLm] at hLk; cases hLk
    have gC:E i=false->zg l.length mems E A0 (fun k=>(listed.setIfInBounds i true).getD k false) q G:=by
     intro hEi
     have hne:∀k,E k=true->(listed.setIfInBounds i true).getD k false=listed.getD k false:=fun k hk=>hL'ne k (by rintro rfl; rw [hEi] at hk; cases hk)
     refine ⟨gp.qn,gp.last.imp (fun h=>h) fun ⟨p,h1,h2,h3⟩=>⟨p,h1,h2,by simp only [hne p h2]; exact h3⟩,fun k h1 h2 h3=>by simp only [hne k h3]; exact gp.rest k h1 h2 h3,gp.len,fun id=>?_,fun k h1 h2 h3=>?_⟩
     ·rcases gp.at' id with h|⟨h,k,h1,h2,h3,h4⟩
      ·exact .inl h
      ·exact .inr ⟨h,k,h1,h2,by simp only [hne k (hAE k (by omega) h2)]; exact h3,h4⟩
     ·simp only [hne k (hAE k (by omega) h2)] at h3
      exact gp.un k h1 h2 h3
    have gB:E i=true->A0 i=false->G=mems i/\zg l.length mems E A0 (fun k=>(listed.setIfInBounds i true).getD k false) (i+1) (mems (i+1)):=by
     intro hEi hAi
     have hqi:q<=i:=by
      rcases gp.last with h|⟨p,hp1,hp2,hp3⟩
      ·omega
      ·have hqn:=gp.qn
       rcases Nat.lt_or_ge i p with h|h
       ·rw [inL i p (by omega) (effA i p h hEi hp2 (.inl hAi)) hp3] at hLi; cases hLi
       ·by_cases hip:i=p
        ·subst hip; simp only [hLi] at hp3; cases hp3
        ·omega
     have done:∀k,k<i->E k=true->listed.getD k false=true:=fun k hk hEk=>rdy k (effA k i hk hEk hEi (.inr hAi))
     refine ⟨?_,by omega,.inr ⟨i,rfl,hEi,hL'i⟩,fun k h1 h2 h3=>by simp only [hL'ne k (show k≠i by omega)]; exact gp.rest k (by omega) h2 h3,rfl,fun id => .inl rfl,fun k h1 h2 h3=>?_⟩
     ·rw [gp.full fun k hk hAk=>done k (by omega) (hAE k (by omega) hAk)]
      refine (same q i hqi (by omega) fun k h1 h2=>?_).symm
      cases hEk:E k with
      |false=>rfl
      |true =>
       have:=gp.rest k h1 (by omega) hEk
       simp only [done k h2 hEk] at this; cases this
     ·have hki:k≠i:=by rintro rfl; rw [hAi] at h2; cases h2
      simp only [hL'ne k hki,done k (by omega) (hAE k (by omega) h2)] at h3
      cases h3
    have down':Down ops (fun k=>(listed.setIfInBounds i true).getD k false):=by
     intro k p e hp hL he' hb
     have hsome:listed.getD e.on false=true:=by
      by_cases hki:k=i
      ·subst hki
       rw [ho] at hp; injection hp with hp; subst hp
       exact hall' e he' hb
      ·exact hd k p e hp (by show listed.getD k false=true; rw [<-hL'ne k hki]; exact hL) he' hb
     show (listed.setIfInBounds i true).getD e.on false=true
     by_cases hei:e.on=i
     ·rw [hei]; exact hL'i
     ·rw [hL'ne _ hei]; exact hsome
    have left':left (fun k=>(listed.setIfInBounds i true).getD k false) l.length=fuel:=by
     have:=Bz (L:=fun k=>listed.getD k false) (L':=fun k=>(listed.setIfInBounds i true).getD k false) (i:=i) hLi hL'i (fun k hk=>hL'ne k hk) l.length
     rw [if_pos hil] at this
     omega
    have hin':(vals i).dK=false->∀k,k<l.length->(listed.setIfInBounds i true).getD k false=true->k<N/\(vals k).dK=false:=by
     intro hnp k hk hL
     by_cases hki:k=i
     ·rw [hki]; exact ⟨hiN,hnp⟩
     ·rw [hL'ne k hki] at hL; exact hin k hk hL
    have hgslot:∀t want,y.guard=some (t,want)->t∈y.reads:=fun t want h=>by simp [bg.reads,h]
    have hopslot:∀t,t∈y.op.fu->t∈y.reads:=fun t h=>by simp [bg.reads,h]
    unfold wpOpIn
    rw [ho]
    simp only
    rcases st i y hiN hy with ⟨hgd,hstep⟩|⟨t,want,hgt,hgv,hv0,hm0⟩
    ·rw [if_pos (rA e1 s1 g5 fun t want h=>by rw [agree t (hgslot t want h)]; exact hgd t want h)]
     cases hAi:A0 i with
     |true =>
      obtain ⟨y',o',V,B,n1,n2,n3,hEi,n6,n7,npan,hruns⟩:=hA i hiN hAi
      rw [hy] at n1; injection n1 with n1; subst n1
      rw [ho] at n2; injection n2 with n2; subst n2
      have hag:∀t,t∈y.op.fu->dr (gP env l vals (fun k=>listed.getD k false) l.length) t=dr (gP env l vals (fun _=>true) i) t:=fun t ht=>agree t (hopslot t ht)
      have fin:∀q' G' G1 j1' p,zg l.length mems E A0 (fun k=>(listed.setIfInBounds i true).getD k false) q' G'->Rel j1' G1 w1->Ext j1 G w1 j1' G1 w1->G1[p]?=some .n9->p=(mems i).length->G'=G1.set p B ->
        o.wpIn (Wd rd) nd P a1 w1 (wpAnyIn (Wd rd) nd P .any ops Q fuel (listed.setIfInBounds i true)) Q:=by
       intro q' G' G1 j1' p hG' hr1 hx1 hp hpe hGe
       refine lK.wpIn (KP:=fun _ _=>False) (su g1) (hruns hag hr1 ((hG.mono x1).mono hx1) (e1.mono hx1) hp ?_) fun u w' h=>h.elim
       rintro v w' ⟨j',p1,p2,p3⟩
       rw [<-hGe] at p1 p2 p3
       simp only at p1 p2 p3
       refine ih (listed.setIfInBounds i true) _ _ (by simpa using hsz) left' down' (hin' (by rw [n6]; exact npan)) ⟨j',q',G',hG',p1,?_,x1.trans (hx1.trans p2),by rw [pA]; exact s1,by rw [put_defers]; exact d1⟩
       refine aU.wP ?_ newEnv
       rw [g2,n6,<-hpe]
       exact (e1.mono (hx1.trans p2)).put s1 g4 p3
      rcases Nat.lt_or_ge i q with hiq|hqi
      ·-- its place is there
       have hu:=gp.un i hiq hAi hLi
       have hpi:=pref (i+1) q (by omega) hqN fun k h1 h2=>betw i hiq hEi hAi hLi k (by omega) h2
       have hat:(mems q)[(mems i).length]?=some B:=by
        obtain ⟨t',ht'⟩:=hpi
        rw [<-ht',n7,List.append_assoc,List.getElem?_append_right (Nat.le_refl _)]
        simp
       refine fin q (G.set (mems i).length B) G j1 (mems i).length ⟨gp.qn,?_,fun k h1 h2 h3=>by simp only [hL'ne k (show k≠i by omega)]; exact gp.rest k h1 h2 h3,by simpa using gp.len,fun id=>?_,fun k h1 h2 h3=>?_⟩ r1 (Ext.refl _ _ _) hu rfl rfl
       ·refine gp.last.imp (fun h=>h) fun ⟨p,h1,h2,h3⟩=>⟨p,h1,h2,?_⟩
        have hpi:p≠i:=by rintro rfl; simp only [hLi] at h3; cases h3
        simp only [hL'ne p hpi]; exact h3
       ·by_cases hid:(mems i).length=id
        ·subst hid
         rw [bf (ak hu)]
         exact .inl hat.symm
        ·rw [aO hid]
         rcases gp.at' id with h|⟨h,k,h1,h2,h3,h4⟩
         ·exact .inl h
         ·have hki:k≠i:=by rintro rfl; exact hid h4
          refine .inr ⟨h,k,h1,h2,?_,h4⟩
          simp only [hL'ne k hki]; exact h3
       ·have hki:k≠i:=by rintro rfl; simp only [hL'i] at h3; cases h3
        simp only [hL'ne k hki] at h3
        have hne:(mems i).length≠(mems k).length:=by
         rcases Nat.lt_or_ge k i with h|h
         ·obtain ⟨_,_,_,_,_,_,_,hEk,_,m7,_⟩:=hA k (by omega) h2
          have:=(pref (k+1) i (by omega) (by omega) fun m g1 g2=>betw k h1 hEk h2 h3 m (by omega) (by omega)).length_le
          rw [m7] at this
          simp at this; omega
         ·have:=(pref (i+1) k (by omega) (by omega) fun m g1 g2=>betw i hiq hEi hAi hLi m (by omega) (by omega)).length_le
          rw [n7] at this
          simp at this; omega
        rw [aO hne]
        exact gp.un k h1 h2 h3
      ·-- behind all that is made
       have allA:∀k,q<=k->k<i->E k=true->A0 k=true:=fun k h1 h2 h3=>by
        cases hAk:A0 k with
        |true=>rfl
        |false =>
         have:=gp.rest k h1 (by omega) h3
         simp only [rdy k (effA k i h2 h3 hEi (.inl hAk))] at this; cases this
       have hpi:=pref q i hqi (by omega) allA
       have hle:=hpi.length_le
       have hln:=gp.len
       have hsum:G.length+((mems i).length-(mems q).length)=(mems i).length:=by omega
       obtain ⟨j1',hr1,hx1⟩:=ug r1 ((mems i).length-(mems q).length+1)
       have hgl:(G++List.replicate ((mems i).length-(mems q).length) aQ.n9).length=(mems i).length:=by simp; omega
       have hG1:G++List.replicate ((mems i).length-(mems q).length+1) aQ.n9=(G++List.replicate ((mems i).length-(mems q).length) aQ.n9)++[aQ.n9]:=by rw [List.replicate_succ',<-List.append_assoc]
       have hg1:(G++List.replicate ((mems i).length-(mems q).length+1) aQ.n9)[(mems i).length]?=some .n9:=by
        rw [List.getElem?_append_right (by omega),List.getElem?_replicate,if_pos (by omega)]
       have hset:∀(A:ai) (m:Nat),A.length=m->A++[B]=(A++[aQ.n9]).set m B:=fun A m h=>by subst h; simp
       have hg2:G++List.replicate ((mems i).length-(mems q).length) aQ.n9++[B]=(G++List.replicate ((mems i).length-(mems q).length+1) aQ.n9).set (mems i).length B:=by
        rw [hG1]; exact hset _ _ hgl
       refine fin (i+1) (G++List.replicate ((mems i).length-(mems q).length) aQ.n9++[B]) _ j1' (mems i).length ⟨by omega,.inr ⟨i,rfl,hEi,hL'i⟩,fun k h1 h2 h3=>by simp only [hL'ne k (show k≠i by omega)]; exact gp.rest k (by omega) h2 h3,by rw [n7]; simp; omega,fun id=>?_,fun k h1 h2 h3=>?_⟩ hr1 hx1 hg1 rfl hg2
       ·rcases Nat.lt_or_ge id G.length with h|h
        ·have e1:(G++List.replicate ((mems i).length-(mems q).length) aQ.n9++[B])[id]?=G[id]?:=by
          rw [List.append_assoc,List.getElem?_append_left h]
         have e2:(mems (i+1))[id]?=(mems q)[id]?:=by
          obtain ⟨t',ht'⟩:=hpi
          rw [n7,<-ht',List.append_assoc,List.getElem?_append_left (by omega)]
         rw [e1,e2]
         rcases gp.at' id with h|⟨h,k,h1,h2,h3,h4⟩
         ·exact .inl h
         ·exact .inr ⟨h,k,by omega,h2,by simp only [hL'ne k (show k≠i by omega)]; exact h3,h4⟩
        ·rcases Nat.lt_or_ge id (mems i).length with h'|h'
         ·refine .inr ⟨?_,?_⟩
          ·rw [List.getElem?_append_left (by simp; omega),List.getElem?_append_right h,List.getElem?_replicate,if_pos (by omega)]
          ·obtain ⟨k,k1,k2,k3,k4⟩:=posn q i hqi (by omega) allA id (by omega) h'
           exact ⟨k,by omega,k3,by simp only [hL'ne k (show k≠i by omega)]; exact gp.rest k k1 (by omega) (hAE k (by omega) k3),k4⟩
         ·left
          rw [n7,List.getElem?_append_right (by simp; omega),List.getElem?_append_right h']
          congr 1
          simp; omega
       ·have hki:k≠i:=by rintro rfl; simp only [hL'i] at h3; cases h3
        simp only [hL'ne k hki] at h3
        rcases Nat.lt_or_ge k q with h|h
        ·have hu:=gp.un k h h2 h3
         rw [List.append_assoc,List.getElem?_append_left (ak hu)]
         exact hu
        ·obtain ⟨_,_,_,_,_,_,_,hEk,_,m7,_⟩:=hA k (by omega) h2
         have b1:=(pref (k+1) i (by omega) (by omega) fun m g1 g2=>allA m (by omega) g2).length_le
         have b2:=(pref q k h (by omega) fun m g1 g2=>allA m g1 (by omega)).length_le
         rw [m7] at b1
         simp at b1
         rw [List.getElem?_append_left (by simp; omega),List.getElem?_append_right (by omega),List.getElem?_replicate,if_pos (by omega)]
     |false =>
     have hex:∃q' G',bD C (gP env l vals (fun k=>listed.getD k false) l.length) G y.op=some (vals i,G')/\zg l.length mems E A0 (fun k=>(listed.setIfInBounds i true).getD k false) q' G'/\(y.lets=true->G'=mems (i+1)):=by
      have pan0:E i=false->y.lets=true->G=mems (i+1):=by
       intro hEi hlt
       have hqi:q<=i:=by
        rcases gp.last with h|⟨p,hp1,hp2,hp3⟩
        ·omega
        ·have hqn:=gp.qn
         rcases Nat.lt_or_ge i p with h|h
         ·rw [inL i p (by omega) ((od.stop p i y hy hlt (by omega)).1 h) hp3] at hLi; cases hLi
         ·by_cases hip:i=p
          ·subst hip; simp only [hLi] at hp3; cases hp3
          ·omega
       have done:∀k,k<i->E k=true->listed.getD k false=true:=fun k hk hEk=>by
        obtain ⟨x',hx',hE'⟩:=hEs hEk
        rcases (od.stop k i y hy hlt (by omega)).2 hk with h4|h4
        ·exact rdy k h4
        ·have:=h4 x' hx'
         simp [bg.mr,this] at hE'
       rw [stays i hiN hEi,gp.full fun k hk hAk=>done k (by omega) (hAE k (by omega) hAk)]
       refine (same q i hqi (by omega) fun k h1 h2=>?_).symm
       cases hEk:E k with
       |false=>rfl
       |true =>
        have:=gp.rest k h1 (by omega) hEk
        simp only [done k h2 hEk] at this; cases this
      obtain ⟨q1,q2⟩:=xM (C:=C) (M:=G) (op:=y.op) fun t ht=>agree t (hopslot t ht)
      rw [q1]
      rcases j7 hstep with ⟨hn,hids,h1⟩|⟨hn,hgr,h1⟩|⟨hn,hgr,hp,h1⟩
      ·have hEi:E i=false:=by rw [hE hy]; simp [bg.mr,hn]
       exact ⟨q,G,(Av (od.alone i y hy hn) h1 hids).2 _,gC hEi,pan0 hEi⟩
      all_goals
       cases hEo:y.op.Lo with
       |true =>
        have hEi:E i=true:=by rw [hE hy]; simp [bg.mr,hn,hEo]
        obtain ⟨k1,k2⟩:=gB hEi hAi
        exact ⟨i+1,mems (i+1),by rw [k1]; exact h1,k2,fun _=>rfl⟩
       |false =>
        have hEi:E i=false:=by rw [hE hy]; simp [bg.mr,hEo]
        refine ⟨q,G,?_,gC hEi,pan0 hEi⟩
        cases hlo:y.op.HH with
        |false=>exact (Ff hEo hlo h1).2 _
        |true =>
         -- a load: the memory of the moment and that of the text agree at its box
         have hz:∃z,(y.op = .iL z\/(∃n,y.op = .kK n z)\/∃fk zr ok k,y.op = .look fk zr ok z k)/\∀t,t∈z.fu->t∈y.op.fu:=by
          generalize y.op=op at hlo
          cases op<;>simp only [eT.HH,Bool.false_eq_true] at hlo
          case kK n z=>exact ⟨z,.inr (.inl ⟨n,rfl⟩),fun t h=>h⟩
          case look fk zr ok z k=>exact ⟨z,.inr (.inr ⟨fk,zr,ok,k,rfl⟩),fun t h=>by simp [eT.fu,h]⟩
          case iL z=>exact ⟨z,.inl rfl,fun t h=>h⟩
         obtain ⟨z,hz1,hz2⟩:=hz
         have hrep:∃v,cm j1 G w1 (z.ev (gP env l vals (fun _=>true) i)) v:=by
          rw [<-aR (x:=z) fun t ht=>agree t (hopslot t (hz2 t ht))]
          cases z with
          |tmp t=>exact ⟨_,e1.at' t⟩
          |pf c =>
           have:=od.opl i y hy
           rcases hz1 with hz1|⟨n,hz1⟩|⟨_,_,_,_,hz1⟩<;>(rw [hz1] at this; cases this)
         obtain ⟨v,hv⟩:=hrep
         have hsame:∀id b,id∈(z.ev (gP env l vals (fun _=>true) i)).cQ->id<G.length->nth (mems i) id=some b->nth G id=some b:=by
          intro id bx hidz hidl hbx
          have hq3:=gp.rest
          have hq4:=gp.last
          have hqn:=gp.qn
          rw [gp.len] at hidl
          have hG0:nth G id=nth (mems q) id:=by
           rw [bW,bW]
           rcases gp.at' id with h|⟨h,_⟩
           ·exact h
           ·exact absurd h (hv.XR hidz)
          rw [hG0]
          have hni:E i=false:=by rw [hE hy]; simp [bg.mr,hEo]
          by_cases hqi:q<=i
          ·refine BQ (.inr (oB i hqi fun k h2 h3=>?_)) hidl hbx
           cases hEk:E k with
           |false=>rw [stays k (by omega) hEk]; exact List.prefix_refl _
           |true =>
            obtain ⟨y',hz1',hz2'⟩:=hEs hEk
            have hunl:¬listed.getD k false=true:=by
             have h5:=hq3 k h2 (by omega) hEk
             rw [h5]; simp
            cases hzg:y'.grow with
            |false=>exact absurd (rdy k ((od.Ty k i y' y hz1' hz2' hzg hy hlo).2 h3)) hunl
            |true =>
             rcases grows k y' (by omega) hz1' hz2' hzg with hg'|⟨hsp,_⟩
             ·exact hg'
             ·exact absurd (rdy k ((od.sep k i y' y hz1' hsp hy hlo).1 h3)) hunl
          ·have chain:∀n,i<=n->n<=q->nth (mems n) id=some bx:=by
            intro n
            induction n with
            |zero=>intro h0 _; rw [show 0=i by omega]; exact hbx
            |succ n ihn =>
             intro h0 h0'
             by_cases he:i=n+1
             ·rw [<-he]; exact hbx
             ·have hb':=ihn (by omega) (by omega)
              cases hEk:E n with
              |false=>rw [stays n (by omega) hEk]; exact hb'
              |true =>
               obtain ⟨y',hz1',hz2'⟩:=hEs hEk
               cases hAn:A0 n with
               |true =>
                obtain ⟨_,_,_,_,_,_,_,_,_,m7,_⟩:=hA n (by omega) hAn
                rw [bW] at hb' ⊢
                rw [m7,List.getElem?_append_left (ak hb')]
                exact hb'
               |false =>
               have hkni:n≠i:=by rintro rfl; rw [hEk] at hni; cases hni
               have hdone:listed.getD n false=true:=by
                rcases hq4 with h0|⟨p,hp1,hp2,hp3⟩
                ·omega
                ·by_cases hkp:n=p
                 ·subst hkp; exact hp3
                 ·exact inL n p (by omega) (effA n p (by omega) hEk hp2 (.inl hAn)) hp3
               have hnol:ahead (jw ops.toList) i n=true->False:=fun ha=>by
                have:=nol n (by omega) ha
                rw [this] at hdone; cases hdone
               cases hzg:y'.grow with
               |false=>exact absurd ((od.Ty n i y' y hz1' hz2' hzg hy hlo).1 (by omega)) hnol
               |true =>
                rcases grows n y' (by omega) hz1' hz2' hzg with hg'|⟨hsp,hsa⟩
                ·obtain ⟨t,ht⟩:=hg'
                 rw [bW] at hb' ⊢
                 rw [<-ht,List.getElem?_append_left (ak hb')]
                 exact hb'
                ·rcases (od.sep n i y' y hz1' hsp hy hlo).2 (by omega) with ha|⟨zs,hzs,hmem,hnw⟩
                 ·exact (hnol ha).elim
                 ·have hslot:z = .tmp zs:=by
                   rcases hz1 with hz1|⟨m,hz1⟩|⟨_,_,_,_,hz1⟩<;>(rw [hz1] at hzs; cases z<;>simp [eT.Fl] at hzs; rw [hzs])
                  subst hslot
                  have hsame0:dr (gP env l vals (fun _=>true) n) zs=dr (gP env l vals (fun _=>true) i) zs:=by
                   refine nz n (by omega) fun p hp1 hp2=>?_
                   rintro ⟨⟨x',hx',hdx⟩,_⟩
                   have:=List.all_eq_true.1 hnw p (List.mem_range.2 hp2)
                   rw [bW,hx'] at this
                   simp [hdx,Nat.not_lt.2 hp1] at this
                  have hat:∀ {sl:List Nat},rz (gP env l vals (fun _=>true) n) (mems n) (mems (n+1)) sl->zs∈sl->nth (mems (n+1)) id=nth (mems n) id:=by
                   intro sl
                   induction sl with
                   |nil=>intro _ h; cases h
                   |cons z0 r0 ih0 =>
                    intro hs hm
                    rcases List.mem_cons.1 hm with rfl|hm
                    ·have h6:=hs.1
                     rw [hsame0] at h6
                     simp only [cM.ev] at hidz
                     split at h6
                     ·rename_i id' off' he'
                      rw [he'] at hidz
                      simp [ae.cQ] at hidz
                      subst hidz
                      exact h6
                     ·exact h6.elim
                    ·exact ih0 hs.2 hm
                  rw [hat hsa hmem]; exact hb'
           exact chain q (by omega) (Nat.le_refl _)
         exact (BD hlo h1).2 z hsame hz1 hv
     obtain ⟨q',G',haop,hG',hpan⟩:=hex
     refine lK.wpIn (KP:=fun u w'=>Ak j1 G w1 (vals i,G') u w') (su g1) (wQ hC g1 haop r1 (hG.mono x1) e1 ?_ fun u w' h=>h) ?_
     ·rintro v w' ⟨j',p1,p2,p3⟩
      have hnp:(vals i).dK=false:=by
       cases hvi:vals i<;>first|rfl|(rw [hvi] at p3; exact p3.DG.elim)
      refine ih (listed.setIfInBounds i true) _ w' (by simpa using hsz) left' down' (hin' hnp) ⟨j',q',G',hG',p1,?_,x1.trans p2,by rw [pA]; exact s1,by rw [put_defers]; exact d1⟩
      refine aU.wP ?_ newEnv
      rw [g2]
      exact (e1.mono p2).put s1 g4 p3
     ·rintro u w' ⟨hu,j',p1,p2⟩
      simp only at hu
      rcases hxe with ⟨n1,n2,_⟩|⟨n,y',v,n1,n2,n3,n4,n5,n6⟩
      ·have:=n2 i hiN; rw [hu] at this; cases this
      ·have hin0:i=n:=by
        rcases Nat.lt_or_ge i n with h|h
        ·have:=n5 i h; rw [hu] at this; cases this
        ·omega
       subst hin0
       rw [hy] at n2; injection n2 with n2; subst n2
       rw [hu] at n4; injection n4 with n4; subst n4
       have hmem:G'=mems N:=by rw [hpan n3,n1]
       rw [hmem] at p1 p2
       rw [n6] at hQ
       exact hQ a1 w' j' p1 (e1.nil p2) (x1.trans p2) s1 d1
    ·rw [if_neg (by rw [yW e1 s1 g5 hgt (by rw [agree t (hgslot t want hgt)]; exact hgv)]; simp)]
     have hmem:∃q',zg l.length mems E A0 (fun k=>(listed.setIfInBounds i true).getD k false) q' G:=by
      cases hEi:E i with
      |true =>
       have hAi:A0 i=false:=by
        cases hAi:A0 i with
        |false=>rfl
        |true =>
         obtain ⟨y',_,_,_,n1,_,n5,_⟩:=hA i hiN hAi
         rw [hy] at n1; injection n1 with n1; subst n1
         rw [n5] at hgt; cases hgt
       obtain ⟨k1,k2⟩:=gB hEi hAi
       rw [hm0,<-k1] at k2
       exact ⟨_,k2⟩
      |false=>exact ⟨_,gC hEi⟩
     obtain ⟨q',hG'⟩:=hmem
     refine ⟨fun _ _=>trivial,?_⟩
     refine ih (listed.setIfInBounds i true) _ w1 (by simpa using hsz) left' down' (hin' (by rw [hv0]; rfl)) ⟨j1,q',G,hG',r1,?_,x1,by rw [pA]; exact s1,by rw [put_defers]; exact d1⟩
     refine aU.wP ?_ newEnv
     rw [g2,hv0]
     exact e1.put s1 g4 (.tuple (vs := #[]) rfl fun i c v h=>by simp at h)
 have q:Quiet w { w with drawn:=w.drawn+1 }:=⟨Nat.le_refl _,rfl,rfl,rfl⟩
 have hrep:∀k,(Array.replicate ops.size false).getD k false=false:=fun k=>by
  simp only [Array.getD_eq_getD_getElem?,Array.getElem?_replicate]
  split<;>rfl
 have hleft:left (fun k=>(Array.replicate ops.size false).getD k false) l.length=ops.size:=by
  have:∀n,left (fun k=>(Array.replicate ops.size false).getD k false) n=n:=by
   intro n
   induction n with
   |zero=>rfl
   |succ n ihn=>rw [left,ihn,hrep n]; rfl
  rw [this,hlen]
 refine key ops.size _ a _ (by simp) hleft (fun k o e _ hL=>by rw [show (fun k=>(Array.replicate ops.size false).getD k false) k=false from hrep k] at hL; cases hL) (fun k _ hL=>by rw [hrep k] at hL; cases hL) ⟨j,0,M,⟨Nat.zero_le _,.inl rfl,fun k _ _ _=>hrep k,by rw [m0],fun id => .inl (by rw [m0]),fun k h=>by omega⟩,?_,?_,?_,hs,rfl⟩
 ·exact hr.grow q.size rfl rfl rfl fun _ _=>rfl
 ·refine aU.wP (aU.mono he (Ext.grow q.size rfl rfl rfl fun _ _=>rfl)) fun t=>?_
  exact nz (i:=0) l.length (Nat.zero_le _) fun k _ _ hc=>by have h2:=hc.2; rw [hrep k] at h2; cases h2
 ·exact Ext.grow q.size rfl rfl rfl fun _ _=>rfl
end
def BV {F:Fence} {nd:Nat} {P:Program} {c:Code} {Q Q':Exit->Act->World->Prop} {n:Nat} {a:Act} {w:World} (h:Code.roundsIn F nd P c Q n a w) (hq:∀e a w,Q e a w->Q' e a w):Code.roundsIn F nd P c Q' n a w:=by
 induction n generalizing a w with
 |zero=>exact h
 |succ n ih =>
  rw [roundsIn_succ] at *
  refine wpIn_mono h fun e a' w' h'=>?_
  cases e<;>simp only [Exit.then] at h' ⊢ <;> first|exact ih h'|exact hq _ _ _ h'
def hV {base:Nat} {M:ai} (hb:base<=M.length):(fN base M).length=base:=by simp [fN]; omega
def eu {base:Nat} {M:ai} {i:Nat} (hi:i<base):(fN base M)[i]?=(M[i]?).map (aQ.back base M):=by
 simp [fN,List.getElem?_map,List.getElem?_take_of_lt hi]
def Jt (base:Nat) (M:ai) (b:aQ):(b.back base M).tag=b.tag:=by cases b<;>rfl
def CE (base:Nat) (M:ai) (b:aQ):(b.back base M).fixed=b.fixed:=by cases b<;>rfl
def CG {base:Nat} {M:ai} {b:aQ} (h:b.loose=true):b.back base M=b:=by cases b<;>first|rfl|cases h
section
variable {base:Nat} {M:ai} {j:J} {w:World} (hb:base<=M.length)
include hb
def pb {b off:Nat} (h:gv j M w b off):gv j (fN base M) w b off:=by
 refine ⟨h.lt,fun id hid hj=>?_,h.nx⟩
 rw [hV hb] at hid
 obtain ⟨sz,n,h1,h2⟩:=h.ids id (by omega) hj
 exact ⟨sz,n,by rw [eu hid,h1]; rfl,h2⟩
def fG:∀b off,gv j M w b off->gv j (fN base M) w b off/\w.cell? ⟨b,off,none⟩=w.cell? ⟨b,off,none⟩:=fun b off hs=>⟨pb hb hs,rfl⟩
def Em {id:Nat} (hlt:id<base) (hM:∀bx,M[id]?=some bx->bx.loose=true):(fN base M)[id]?=M[id]?:=by
 have h0:=List.getElem?_eq_getElem (show id<M.length by omega)
 rw [eu hlt,h0,Option.map_some,CG (hM _ h0)]
variable (hr:Rel j M w)
include hr
def sY {x:ae} {v:Value} (h:cm j M w x v):cm j (fN base M) w (x.dD base M) v:=by
 cases h with
 |plain h =>
  have:x.dD base M=x:=by cases h<;>rfl
  rw [this]
  exact .plain (h.mono (fG hb))
 |c0 A=>exact .c0 A
 | @own k xs v sz n hk hn hp ht =>
  simp only [ae.dD]
  split
  ·rename_i hlt
   exact .own (sz:=sz) (n:=n) (by rw [eu hlt,hk]; rfl) hn (hp.mono (fG hb)) ht
  ·exact .plain (hp.mono (fG hb))
 |agg=>exact .any _
 |tuple=>exact .any _
 | @ptr id off b hid hc hj =>
  simp only [ae.dD]
  split
  ·rename_i hlt
   obtain ⟨cs,hc⟩:=hc
   exact .ptr (by rw [hV hb]; exact hlt) ⟨_,by rw [eu hlt,hc]; rfl⟩ hj
  ·exact .any _
 |dM h=>exact .dM fun k c hk=>⟨(h k c hk).1,pb hb (h k c hk).2.1,(h k c hk).2.2.mono (fG hb)⟩
 |func=>exact .any _
 | @df id b hc hj =>
  simp only [ae.dD]
  split
  ·rename_i hlt
   obtain ⟨ks,vs,hc⟩:=hc
   exact .df ⟨_,_,by rw [eu hlt,hc]; rfl⟩ hj
  ·exact .any _
 | @dW id b hc hj =>
  simp only [ae.dD]
  split
  ·rename_i hlt
   obtain ⟨ks,vs,hc⟩:=hc
   exact .dW ⟨_,_,by rw [eu hlt,hc]; rfl⟩ hj
  ·exact .any _
 |eb hlt hf hx hw hk hv hks hvs =>
  exact .eb hlt (fun i hi=>hf i (by rw [hV hb] at hi; omega)) hx hw hk hv (fun i k e h1 h2=>(hks i k e h1 h2).mono (fG hb)) (fun i k e h1 h2=>(hvs i k e h1 h2).mono (fG hb))
 | @cv id t b v hc hj hk hv =>
  simp only [ae.dD]
  split
  ·rename_i hlt
   obtain ⟨cs,hc⟩:=hc
   exact .cv ⟨_,by rw [eu hlt,hc]; rfl⟩ hj hk hv
  ·exact .any _
 | @dJ t id off b hc hj =>
  simp only [ae.dD]
  split
  ·rename_i hlt
   obtain ⟨cs,hc⟩:=hc
   exact .dJ ⟨_,by rw [eu hlt,hc]; rfl⟩ hj
  ·exact .any _
 | @du k t n x l v hk hn hp ht =>
  simp only [ae.dD]
  split
  ·rename_i hlt
   exact .du (n:=n) (by rw [eu hlt,hk]; rfl) hn (hp.mono (fG hb)) ht
  ·exact .any _
 |jx hl hd=>exact .jx hl fun i c v h1 h2=>(hd i c v h1 h2).mono (fG hb)
 | @bu id ver sz0 lo hi v h0 hid hM hv =>
  simp only [ae.dD]
  split
  ·rename_i hlt
   have e:=Em hb hlt hM
   exact .bu h0 (by rw [hV hb]; exact hlt) (fun bx hbx=>hM bx (e▸hbx)) fun sz v' xs h=>hv sz v' xs (e▸h)
  ·rename_i hge
   split
   ·rename_i sz v' xs hMi
    split
    ·rename_i he
     subst he
     obtain ⟨_,k2⟩:=hv sz v' xs hMi
     obtain ⟨rfl,l1,l2,⟨rfl,_,A,rfl⟩|⟨b,cap,vs,t,l3,rfl,l5,l6,l7⟩⟩:=k2 rfl
     ·simp only [List.take_nil,List.drop_nil]
      exact .plain (bX.nil _ _ _)
     obtain ⟨b',vs',t',g1,g2,g3,g4,g5⟩:=hr.rL hMi l3
     rw [l3] at g1; injection g1 with g1; subst g1
     refine .plain (pO g2 g4 g5 (fun b off h=>pb hb h) (fun off _=>⟨hr.lt id b hid l3,fun id' hid' hj'=>?_,hr.nc id b hid l3 off⟩) l1 l2 l5)
     rw [hV hb] at hid'
     have:=hr.inj id' id b (by omega) hid hj' l3
     omega
    ·exact .any _
   ·exact .any _
 | @dC id ver i off v h0 hid hM hv =>
  simp only [ae.dD]
  split
  ·rename_i hlt
   have e:=Em hb hlt hM
   exact .dC h0 (by rw [hV hb]; exact hlt) (fun bx hbx=>hM bx (e▸hbx)) fun sz v' xs h=>hv sz v' xs (e▸h)
  ·exact .any _
 |any v=>exact .any v
def dq {x:ae} {v:Value} (h:cm j M w x v):cm j (fN base M) w (x.fc base M) v:=by
 by_cases hag:∃f cs,x = .func f cs
 ·obtain ⟨f,caps,rfl⟩:=hag
  obtain ⟨vs,rfl,hl,hc⟩:=h.kI
  refine .func (by simpa using hl) fun i c u hi hu=>?_
  rw [List.getElem?_map,Option.map_eq_some_iff] at hi
  obtain ⟨c0,hc0,rfl⟩:=hi
  exact sY hb hr (hc i c0 u hc0 hu)
 ·have e1:x.fc base M=x.dD base M:=by cases x<;>first|rfl|exact absurd ⟨_,_,rfl⟩ hag
  rw [e1]; exact sY hb hr h
def sZ {x:ae} {v:Value} (h:cm j M w x v):cm j (fN base M) w (x.eS base M) v:=by
 by_cases hag:∃cs,x = .agg cs
 ·obtain ⟨cs,rfl⟩:=hag
  obtain ⟨vs,rfl,hl,hc⟩:=h.fA
  refine .agg (by simpa using hl) fun i c u hi hu=>?_
  rw [List.getElem?_map,Option.map_eq_some_iff] at hi
  obtain ⟨c0,hc0,rfl⟩:=hi
  exact dq hb hr (hc i c0 u hc0 hu)
 ·have e1:x.eS base M=x.fc base M:=by cases x<;>first|rfl|exact absurd ⟨_,rfl⟩ hag
  rw [e1]; exact dq hb hr h
def FL {x:ae} {v:Value} (h:cm j M w x v):cm j (fN base M) w (x.gu base M) v:=by
 by_cases hag:∃cs,x = .tuple cs
 ·obtain ⟨cs,rfl⟩:=hag
  obtain ⟨vs,rfl,hl,hc⟩:=h.lI
  refine .tuple (by simpa using hl) fun i c u hi hu=>?_
  rw [List.getElem?_map,Option.map_eq_some_iff] at hi
  obtain ⟨c0,hc0,rfl⟩:=hi
  exact sZ hb hr (hc i c0 u hc0 hu)
 ·have e1:x.gu base M=x.eS base M:=by cases x<;>first|rfl|exact absurd ⟨_,rfl⟩ hag
  rw [e1]; exact sZ hb hr h
def FJ {env:Env} {a:Act} (h:aU j M w env a):aU j (fN base M) w (rN base M env) a:=by
 refine ⟨fun t=>?_,h.gl.cW fun b off hs=>pb hb hs⟩
 have:dr (rN base M env) t=(dr env t).gu base M:=by
  clear h hr hb
  induction env with
  |nil=>rfl
  |cons p r ih =>
   obtain ⟨k,v⟩:=p
   simp only [rN,List.map_cons,dr] at *
   split
   ·rfl
   ·exact ih
 rw [this]
 exact FL hb hr (h.at' t)
def vM {x:ae} {v:Value} (h:cm j M w x v):cm j (fN base M) w (x.dV base M) v:=by
 cases x with
 |slice tk xs=>exact .plain (h.bA.mono (fG hb))
 |df id =>
  simp only [ae.dV]
  split
  ·rename_i hlt
   have:=sY hb hr h
   simpa only [ae.dD,hlt,if_true] using this
  ·rename_i hge
   split
   ·rename_i ks vs hM
    split
    ·rename_i hp
     simp only [Bool.and_eq_true,List.all_eq_true] at hp
     obtain ⟨b,_,hj,rfl⟩:=h.nM
     obtain ⟨b',hj',es,clock,g1,g2,g3,g4,g5⟩:=hr.fix id _ hM rfl
     have:b'=b:=by rw [hj] at hj'; injection hj' with h; exact h.symm
     subst this
     have hid:id<M.length:=ak hM
     exact .eb (hr.lt id _ hid hj) (fun i hi he=>by
      rw [hV hb] at hi
      have:=hr.inj i id _ (by omega) hid he hj
      omega) (hr.nc id _ hid hj) g1 g2 g3 (fun i k e h1 h2=>(g4 i k e h1 h2).mono (fG hb))
      fun i u e h1 h2=>(vh.pv (g5 i u e h1 h2) (hp.1 u (List.mem_of_getElem? h1))).mono (fG hb)
    ·exact .any _
   ·exact .any _
 |func f caps=>exact dq hb hr h
 |agg cs=>exact dq hb hr h
 |tuple cs=>exact dq hb hr h
 |bool b=>exact dq hb hr h
 |int k n=>exact dq hb hr h
 |str s=>exact dq hb hr h
 |ptr id off=>exact dq hb hr h
 |dM cs=>exact dq hb hr h
 |dW id=>exact dq hb hr h
 |bu id v sz lo hi=>exact dq hb hr h
 |dC id v i off=>exact dq hb hr h
 |jx f fs=>exact dq hb hr h
 |cv id t=>exact dq hb hr h
 |dJ t id off=>exact dq hb hr h
 |du k t x l=>exact dq hb hr h
 |eb ks vs=>exact dq hb hr h
 |raw v=>exact dq hb hr h
 |gw v=>exact h.DG.elim
 |any=>exact .any _
def vN {x:ae} {v:Value} (h:cm j M w x v):cm j (fN base M) w (x.ef base M) v:=by
 by_cases hag:∃cs,x = .agg cs
 ·obtain ⟨cs,rfl⟩:=hag
  obtain ⟨vs,rfl,hl,hc⟩:=h.fA
  refine .agg (by simpa using hl) fun i c u hi hu=>?_
  rw [List.getElem?_map,Option.map_eq_some_iff] at hi
  obtain ⟨c0,hc0,rfl⟩:=hi
  exact vM hb hr (hc i c0 u hc0 hu)
 ·have e1:x.ef base M=x.dV base M:=by cases x<;>first|rfl|exact absurd ⟨_,rfl⟩ hag
  rw [e1]; exact vM hb hr h
def xP {x:ae} {v:Value} (h:cm j M w x v):cm j (fN base M) w (x.fO base M) v:=by
 by_cases hag:∃cs,x = .tuple cs
 ·obtain ⟨cs,rfl⟩:=hag
  obtain ⟨vs,rfl,hl,hc⟩:=h.lI
  refine .tuple (by simpa using hl) fun i c u hi hu=>?_
  rw [List.getElem?_map,Option.map_eq_some_iff] at hi
  obtain ⟨c0,hc0,rfl⟩:=hi
  exact vN hb hr (hc i c0 u hc0 hu)
 ·have e1:x.fO base M=x.ef base M:=by cases x<;>first|rfl|exact absurd ⟨_,rfl⟩ hag
  rw [e1]; exact vN hb hr h
def CF {b:Nat} {bx:aQ} (h:Holds j M w b bx):Holds j (fN base M) w b (bx.back base M):=by
 cases bx with
 |cells cs =>
  obtain ⟨vs,t,h1,h2,h3⟩:=h
  refine ⟨vs,t,h1,by simpa using h2,fun q c v hc hv=>?_⟩
  rw [List.getElem?_map,Option.map_eq_some_iff] at hc
  obtain ⟨c0,hc0,rfl⟩:=hc
  exact dq hb hr (h3 q c0 v hc0 hv)
 |tick=>trivial
 |map ks vs =>
  obtain ⟨es,clock,h1,h2,h3,h4,h5⟩:=h
  refine ⟨es,clock,h1,h2,by simpa using h3,fun i k e hk he=>(h4 i k e hk he).mono (fG hb),fun i k e hk he=>?_⟩
  rw [List.getElem?_map,Option.map_eq_some_iff] at hk
  obtain ⟨c0,hc0,rfl⟩:=hk
  exact sZ hb hr (h5 i c0 e hc0 he)
 |gA s pos=>exact h
 |n9=>trivial
 |arr=>trivial
def rO:Rel j (fN base M) w:=by
 have ln:=hV hb
 refine ⟨fun i i' b hi hi'=>hr.inj i i' b (by omega) (by omega),fun i b hi=>hr.lt i b (by omega),fun i bx h hf=>?_,fun i sz n b h hj=>?_,fun i sz ver xs h=>?_,fun i b hi=>hr.nc i b (by omega),hr.rD⟩
 ·have hi:i<base:=by rw [<-ln]; exact ak h
  rw [eu hi,Option.map_eq_some_iff] at h
  obtain ⟨bx0,h1,rfl⟩:=h
  obtain ⟨b,g1,g2⟩:=hr.fix i bx0 h1 (by rw [<-CE base M]; exact hf)
  exact ⟨b,g1,CF hb hr g2⟩
 ·have hi:i<base:=by rw [<-ln]; exact ak h
  rw [eu hi,Option.map_eq_some_iff] at h
  obtain ⟨bx,h1,h2⟩:=h
  cases bx with
  |tick sz0 n0=>exact hr.tick i sz0 n0 b h1 hj
  |cells cs=>cases h2
  |map ks vs=>cases h2
  |gA s p=>cases h2
  |n9=>cases h2
  |arr sz v xs=>cases h2
 ·have hi:i<base:=by rw [<-ln]; exact ak h
  rw [eu hi,Option.map_eq_some_iff] at h
  obtain ⟨bx,h1,h2⟩:=h
  cases bx with
  |arr sz0 v0 xs0 =>
   injection h2 with e1 e2 e3
   subst e1; subst e2; subst e3
   obtain ⟨g0,g1⟩|⟨b,vs,t,g1,g2,g3,g4,g5⟩:=hr.arr i _ _ _ h1
   ·exact .inl ⟨g0,g1⟩
   exact .inr ⟨b,vs,t,g1,g2,g3,g4,fun q x k c hx hk=>(g5 q x k c hx hk).imp fun u hu=>⟨hu.1,hu.2.mono (fG hb)⟩⟩
  |cells cs=>cases h2
  |map ks vs=>cases h2
  |gA s p=>cases h2
  |n9=>cases h2
  |tick sz n=>cases h2
omit hr in
def pa {j0:J} {M0:ai} {w0:World} (h0:M0.length=base) (hx:Ext j0 M0 w0 j M w):Ext j0 M0 w0 j (fN base M) w where
 len:=by rw [hV hb]; omega
 size:=hx.size
 os:=hx.os
 tape:=hx.tape
 output:=hx.output
 X:=hx.X
 fix:=fun i bx h hf=>by
  obtain ⟨h1,bx',h2,h3⟩:=hx.fix i bx h hf
  have hi:i<base:=by rw [<-h0]; exact ak h
  exact ⟨h1,_,by rw [eu hi,h2]; rfl,(Jt base M bx').trans h3⟩
 tick:=fun i sz n h=>by
  obtain ⟨n',h1,h2,h3⟩:=hx.tick i sz n h
  have hi:i<base:=by rw [<-h0]; exact ak h
  exact ⟨n',h1,by rw [eu hi,h2]; rfl,h3⟩
 arr:=fun i sz v xs h=>by
  have hi:i<base:=by rw [<-h0]; exact ak h
  rcases hx.arr i sz v xs h with ⟨n',g⟩|⟨v',xs',g1,g2⟩
  ·exact .inl ⟨n',by rw [eu hi,g]; rfl⟩
  ·exact .inr ⟨v',xs',by rw [eu hi,g1]; rfl,g2⟩
 tags:=hx.tags
 cW:=fun b off h=>⟨pb hb (hx.cW b off h).1,(hx.cW b off h).2⟩
 mw:=fun b hlt h=>⟨(hx.mw b hlt h).1,fun i hi=>(hx.mw b hlt h).2 i (by rw [hV hb] at hi; omega)⟩
end
def Ph (A:cI) (j:J) (M:ai) (w:World) (a:Act) (o:Out):Exit->Act->World->Prop:=fun e a' w' =>
 e=jT o.e/\a'.tmps.size=A.n/\a'.defers=a.defers/\∃j',Rel j' o.mem w'/\aU j' o.mem w' o.env a'/\Ext j M w j' o.mem w'
def ue {A:cI} {j:J} {M:ai} {w:World} {a:Act} {o:Out} {live:List Nat} {a':Act} {w':World} {j':J} (h1:Rel j' o.mem w') (h2:aU j' o.mem w' o.env a') (h3:Ext j M w j' o.mem w') (h4:a'.tmps.size=A.n)
  (h5:a'.defers=a.defers):Ph A j M w a (o.jI live) (jT o.e) a' w':=by
 obtain ⟨e,env,M'⟩:=o
 cases e
 case normal=>exact ⟨rfl,h4,h5,j',h1,h2.jI _,h3⟩
 all_goals exact ⟨rfl,h4,h5,j',h1,h2,h3⟩
section
variable {P:Program} {C:cu} {A:cI}
def fQ (hmix:P.follows .mixedOrders=true) (hC:iM P C) {rd:Option Nat} {nd:Nat}:∀(c:Code) {ac:br},comp P A c=some ac->∀ {env:Env} {M:ai} {o:Out},bV C ac env M=some o->∀ {j:J} {w:World} {a:Act},Rel j M w->kS j M w->aU j M w env a ->
  a.tmps.size=A.n->c.wpIn (Wd rd) nd P (Ph A j M w a o) a w
 | .skip,ac,hc,env,M,o,h,j,w,a,hr,hG,he,hs=>by
  simp only [comp] at hc; injection hc with hc; subst hc
  simp only [bV] at h; injection h with h; subst h
  exact wpIn_skip ⟨rfl,hs,rfl,j,hr,he,Ext.refl j M w⟩
 | .exit id,ac,hc,env,M,o,h,j,w,a,hr,hG,he,hs=>by
  simp only [comp] at hc; injection hc with hc; subst hc
  simp only [bV] at h; injection h with h; subst h
  exact wpIn_exit ⟨rfl,hs,rfl,j,hr,he,Ext.refl j M w⟩
 | .ret,ac,hc,env,M,o,h,j,w,a,hr,hG,he,hs=>by
  simp only [comp] at hc; injection hc with hc; subst hc
  simp only [bV] at h; injection h with h; subst h
  exact wpIn_ret ⟨rfl,hs,rfl,j,hr,he,Ext.refl j M w⟩
 | .region id ops draw,ac,hc,env,M,o,h,j,w,a,hr,hG,he,hs=>by
  simp only [comp] at hc
  cases draw with
  |true =>
   simp only [if_true] at hc
   obtain ⟨l0,hl0,hc⟩:=ar hc
   obtain ⟨l,hl,hc⟩:=ar hc
   injection hc with hc; subst hc
   simp only [bV] at h
   obtain ⟨x,hx,h⟩:=av h
   injection h with h; subst h
   exact BR (A:={ A with own:=A.own.filter (1000000 <= ·) }) hmix hC hl0 hl hx hr hG he hs fun a' w' j' h1 h2 h3 h4 h5=>ue h1 h2 h3 h4 h5
  |false =>
   simp only [Bool.false_eq_true,if_false] at hc
   obtain ⟨l,hl,hc⟩:=ar hc
   injection hc with hc; subst hc
   simp only [bV] at h
   obtain ⟨x,hx,h⟩:=av h
   injection h with h; subst h
   refine wpIn_region ?_
   rw [List.range_eq_range']
   exact p9 hC (grow:=[]) ops.toList 0 (by simp) hl hx hr hG he hs fun a' w' j' h1 h2 h3 h4 h5=>ue h1 h2 h3 h4 h5
 | .seq x y,ac,hc,env,M,o,h,j,w,a,hr,hG,he,hs=>by
  simp only [comp] at hc
  obtain ⟨ax,hx,hc⟩:=ar hc
  obtain ⟨ay,hy,hc⟩:=ar hc
  injection hc with hc; subst hc
  simp only [bV] at h
  obtain ⟨o1,h1,h⟩:=av h
  refine wpIn_seq (wpIn_mono (fQ hmix hC x hx h1 hr hG he hs) ?_)
  rintro e a1 w1 ⟨he1,hs1,hd1,j1,r1,e1,x1⟩
  rcases lQ h with ⟨hn,h2⟩|⟨hn,h2⟩
  ·rw [hn] at he1
   subst he1
   refine wpIn_mono (fQ hmix hC y hy h2 r1 (hG.mono x1) e1 hs1) ?_
   rintro e a2 w2 ⟨he2,hs2,hd2,j2,r2,e2,x2⟩
   exact ⟨he2,hs2,hd2.trans hd1,j2,r2,e2,x1.trans x2⟩
  ·subst h2
   have:jT o.e ≠ .normal:=by cases ho:o.e<;>simp_all [jT]
   subst he1
   cases hx:jT o.e<;>first
    |exact absurd hx this
    |(simp only [Exit.then]; exact ⟨hx.symm,hs1,hd1,j1,r1,e1,x1⟩)
 | .cond c x y,ac,hc,env,M,o,h,j,w,a,hr,hG,he,hs=>by
  simp only [comp] at hc
  obtain ⟨cc,hcc,hc⟩:=ar hc
  obtain ⟨ax,hx,hc⟩:=ar hc
  obtain ⟨ay,hy,hc⟩:=ar hc
  injection hc with hc; subst hc
  simp only [bV] at h
  have h1:=aX he hcc
  split at h
  ·rename_i t ht
   rw [ht] at h1
   rcases fE h with ⟨rfl,h⟩|⟨rfl,h⟩
   ·exact wpIn_cond_true h1.dH (fQ hmix hC x hx h hr hG he hs)
   ·exact wpIn_cond_false h1.dH (fQ hmix hC y hy h hr hG he hs)
  ·cases h
 | .block id c,ac,hc,env,M,o,h,j,w,a,hr,hG,he,hs=>by
  simp only [comp] at hc
  obtain ⟨ax,hx,hc⟩:=ar hc
  injection hc with hc; subst hc
  simp only [bV] at h
  obtain ⟨o1,h1,h⟩:=av h
  injection h with h; subst h
  refine wpIn_block (wpIn_mono (fQ hmix hC c hx h1 hr hG he hs) ?_)
  rintro e a1 w1 ⟨he1,hs1,hd1,j1,r1,e1,x1⟩
  subst he1
  cases ho:o1.e with
  |normal=>simp only [jT,Exit.inBlock]; refine ⟨?_,hs1,hd1,j1,?_⟩<;>simp [pw,ho,jT,r1,e1,x1]
  |ret=>simp only [jT,Exit.inBlock]; refine ⟨?_,hs1,hd1,j1,?_⟩<;>simp [pw,ho,jT,r1,e1,x1]
  |gw v=>simp only [jT,Exit.inBlock]; refine ⟨?_,hs1,hd1,j1,?_⟩<;>simp [pw,ho,jT,r1,e1,x1]
  |exit i =>
   simp only [jT,Exit.inBlock]
   by_cases hi:i=id
   ·rw [if_pos hi]; refine ⟨?_,hs1,hd1,j1,?_⟩<;>simp [pw,ho,jT,hi,r1,e1,x1]
   ·rw [if_neg hi]; refine ⟨?_,hs1,hd1,j1,?_⟩<;>simp [pw,ho,jT,hi,r1,e1,x1]
 | .loop c,ac,hc,env,M,o,h,j,w,a,hr,hG,he,hs=>by
  simp only [comp] at hc
  obtain ⟨ax,hx,hc⟩:=ar hc
  injection hc with hc; subst hc
  simp only [bV] at h
  obtain ⟨n,hn⟩:=ov h
  refine wpIn_loop_rounds n ?_
  have key:∀n env M j1 w1 a1,iter (bV C ax) (find A.lp (iu c)) n env M=some o->Rel j1 M w1->kS j1 M w1->aU j1 M w1 env a1->a1.tmps.size=A.n ->
    Code.roundsIn (Wd rd) nd P c (Ph A j1 M w1 a1 o) n a1 w1:=by
   intro n
   induction n with
   |zero=>intro env M j1 w1 a1 h; cases h
   |succ n ih =>
    intro env M j1 w1 a1 h r1 hG1 e1 s1
    rw [iter] at h
    obtain ⟨o1,h1,h⟩:=av h
    rw [roundsIn_succ]
    refine wpIn_mono (fQ hmix hC c hx h1 r1 hG1 (e1.jI _) s1) ?_
    rintro e a2 w2 ⟨he2,hs2,hd2,j2,r2,e2,x2⟩
    rcases lQ h with ⟨hn,h2⟩|⟨hn,h2⟩
    ·rw [hn] at he2
     subst he2
     have:=ih _ _ j2 w2 a2 h2 (rO x2.len r2) (hG1.mono (pa x2.len rfl x2)) (FJ x2.len r2 (e2.jI _)) hs2
     simp only [jT,Exit.then]
     exact BV this fun e a3 w3 ⟨g1,g2,g3,j3,g4,g5,g6⟩=>⟨g1,g2,g3.trans hd2,j3,g4,g5,(pa x2.len rfl x2).trans g6⟩
    ·subst h2
     have:jT o.e ≠ .normal:=by cases ho:o.e<;>simp_all [jT]
     subst he2
     cases hx:jT o.e<;>first
      |exact absurd hx this
      |(simp only [Exit.then]; exact ⟨hx.symm,hs2,hd2,j2,r2,e2,x2⟩)
  exact key n env M j w a hn hr hG he hs
 | .rangeFunc ..,ac,hc,env,M,o,h,j,w,a,hr,hG,he,hs=>by simp [comp] at hc
 | .scope _,ac,hc,env,M,o,h,j,w,a,hr,hG,he,hs=>by simp [comp] at hc
 | .label _,ac,hc,env,M,o,h,j,w,a,hr,hG,he,hs=>by simp [comp] at hc
 | .goto _,ac,hc,env,M,o,h,j,w,a,hr,hG,he,hs=>by simp [comp] at hc
 | .refuse _,ac,hc,env,M,o,h,j,w,a,hr,hG,he,hs=>by simp [comp] at hc
def vx {env:Env} {M:ai} {j:J} {w:World} {a:Act} (hr:Rel j M w) (he:aU j M w env a):∀ {rs:List ResultVar} {ars:List nh} {l:List ae},AG P rs=some ars->k7 env M ars=some l ->
  ∃vs:List Value,(rs.mapM fun r=>(match r with | .tmp t=>pure (a.tmps.getD t undef) | .cell q t=>do loadVar t (<-asAddr (a.tmps.getD q undef)):Sem Value)).run P w = .ok vs w/\l.length=vs.length /\
   ∀(i:Nat) (c:ae) (v:Value),l[i]?=some c->vs[i]?=some v->cm j M w c v
 | [],ars,l,h1,h2=>by
  simp [AG] at h1; subst h1
  simp [k7] at h2; subst h2
  exact ⟨[],by simp,rfl,fun i c v h=>by simp at h⟩
 | .tmp t::rs,ars,l,h1,h2=>by
  simp only [AG] at h1
  obtain ⟨ars',h3,h1⟩:=ar h1
  injection h1 with h1; subst h1
  simp only [k7,w6,aL] at h2
  obtain ⟨l',h4,h2⟩:=av h2
  injection h2 with h2; subst h2
  obtain ⟨vs,g1,g2,g3⟩:=vx hr he h3 h4
  refine ⟨a.tmps.getD t undef::vs,by
   rw [List.mapM_cons,Sem.run_bind]
   simp only [Sem.run_pure,Result.andThen_ok,Sem.run_bind,g1],by simp [g2],fun i c v hc hv=>?_⟩
  cases i with
  |zero=>simp only [List.getElem?_cons_zero,Option.some.injEq] at hc hv; subst hc; subst hv; exact he.at' t
  |succ i=>exact g3 i c v (by simpa using hc) (by simpa using hv)
 | .cell q t::rs,ars,l,h1,h2=>by
  simp only [AG] at h1
  obtain ⟨g,hg,h1⟩:=ar h1
  obtain ⟨n,hn,h1⟩:=ar h1
  obtain ⟨ars',h3,h1⟩:=ar h1
  injection h1 with h1; subst h1
  simp only [k7] at h2
  obtain ⟨c0,hc0,h2⟩:=av h2
  obtain ⟨l',h4,h2⟩:=av h2
  injection h2 with h2; subst h2
  obtain ⟨vs,g1,g2,g3⟩:=vx hr he h3 h4
  have hq:=he.at' q
  have hload:∃v,(do loadVar t (<-asAddr (a.tmps.getD q undef)):Sem Value).run P w = .ok v w/\cm j M w c0 v:=by
   cases g with
   |true =>
    simp only [if_true,w6] at hc0
    split at hc0
    ·rename_i id off e
     rw [e] at hq
     obtain ⟨b,_,_,hj,hv⟩:=hq.iG
     rw [bW] at hc0
     split at hc0
     ·rename_i cs hM
      split at hc0
      ·rename_i hle
       injection hc0 with hc0; subst hc0
       obtain ⟨us,t0,hw,hl,hcs,hcell⟩:=pc hr hM hj
       have hrun:=iV (P:=P) (w:=w) b off n (fun k=>(us[off+k]?).getD undef) fun k hk=>by
        rw [hcell,Array.getElem?_eq_getElem (by omega)]; simp
       refine ⟨_,by simp only [hv,asAddr,Sem.run_bind,Sem.run_pure,Result.andThen_ok,loadVar,eR hg,if_true,dA hn,hrun]; rfl,.agg (by simp; omega) fun p c u hc hu=>?_⟩
       have hp:p<n:=by have:=ak hc; simp at this; omega
       rw [List.getElem?_take_of_lt hp,List.getElem?_drop] at hc
       have hu':u=(us[off+p]?).getD undef:=by simp [hp] at hu; exact hu.symm
       have hs:us[off+p]?=some (us[off+p]'(by omega)):=Array.getElem?_eq_getElem (by omega)
       rw [hs] at hu'
       subst hu'
       exact hcs _ c _ hc hs
      ·cases hc0
     ·cases hc0
    ·cases hc0
   |false =>
    simp only [Bool.false_eq_true,if_false,w6] at hc0
    split at hc0
    ·rename_i id off e
     rw [e] at hq
     obtain ⟨b,_,_,hj,hv⟩:=hq.iG
     rw [bW] at hc0
     split at hc0
     ·rename_i cs hM
      rw [bW] at hc0
      obtain ⟨us,t0,hw,hl,hcs,hcell⟩:=pc hr hM hj
      have hlt:=ak hc0
      have hu:us[off]?=some (us[off]'(by omega)):=Array.getElem?_eq_getElem (by omega)
      exact ⟨_,by simp [hv,asAddr,loadVar,eR hg,hcell,hu],hcs _ _ _ hc0 hu⟩
     ·cases hc0
    ·cases hc0
  obtain ⟨v0,hv0,hr0⟩:=hload
  refine ⟨v0::vs,?_,by simp [g2],fun i c v hc hv=>?_⟩
  ·rw [List.mapM_cons,Sem.run_bind,hv0]
   simp only [Result.andThen_ok,Sem.run_bind,g1,Sem.run_pure]
  ·cases i with
   |zero=>simp at hc hv; subst hc; subst hv; exact hr0
   |succ i=>exact g3 i c v (by simpa using hc) (by simpa using hv)
def tF:∀(args:List ae) (i t:Nat),dr (gd i args) t=if i<=t then (args[t-i]?).getD .any else .any
 | [],i,t=>by simp [gd,dr]
 |v::r,i,t=>by
  rw [gd,dr,tF r (i+1) t]
  by_cases h:i=t
  ·subst h; simp
  ·rw [if_neg h]
   by_cases h2:i<=t
   ·rw [if_pos (by omega),if_pos h2,show t-i=(t-(i+1))+1 by omega]; simp
   ·rw [if_neg (by omega),if_neg h2]
def E0 {j:J} {M:ai} {w:World}:∀ {l:List ae} {us:List Value},l.length=us.length->(∀(i:Nat) (c:ae) (v:Value),l[i]?=some c->us[i]?=some v->cm j M w c v) ->
  cm j M w (one l) (if h:us.toArray.size=1 then us.toArray[0] else .tuple us.toArray)
 | [c0],[v0],_,h=>by simpa [one] using h 0 c0 v0 rfl rfl
 | [],[],_,_=>by simpa [one] using (cm.tuple (j:=j) (M:=M) (w:=w) (cs:=[]) (vs := #[]) rfl fun i c v h=>by simp at h)
 |c0::c1::r,v0::v1::s,hl,h=>by
  have:¬(v0::v1::s).toArray.size=1:=by simp
  rw [dif_neg this]
  exact .tuple (by simpa using hl) fun i c v h1 h2=>h i c v h1 (by simpa using h2)
 | [],_::_,hl,_=>by simp at hl
 | [_],[],hl,_=>by simp at hl
 | [_],_::_::_,hl,_=>by simp at hl
 |_::_::_,[],hl,_=>by simp at hl
 |_::_::_,[_],hl,_=>by simp at hl
def Lb (hmix:P.follows .mixedOrders=true) (hC:iM P C) {f:Nat} {fn:cL} {A:cI} {func:Func} (hf:P.funcs[f]?=some func) (hc:aG P A func=some fn) {args:List ae} {M:ai} {x:ae×ai}
  (hl:args.length=fn.nparams) (h:aK (bV C fn.body (gd 0 args) M) (finish fn.results M.length)=some x):fX P f=true/\bl P f args M x:=by
 unfold aG at hc
 split at hc
 ·cases hc
 ·rename_i c hbody
  split at hc
  ·rename_i hcond
   obtain ⟨hname,hn,hle⟩:=hcond
   obtain ⟨b,hb,hc⟩:=ar hc
   obtain ⟨rs,hrs,hc⟩:=ar hc
   injection hc with hc; subst hc
   refine ⟨by simp [fX,hf,hbody,hname],fun j w vs hr hG hlen hv=>?_⟩
   obtain ⟨o,ho,hfin⟩:=av h
   simp only at hl
   refine calls_of_wp hf hbody ?_
   have hsz:(vs++Array.replicate (func.ntmps-vs.size) undef).size=A.n:=by simp; omega
   have he:aU j M w (gd 0 args) { tmps:=vs++Array.replicate (func.ntmps-vs.size) undef,defers:=[] }:=by
    refine ⟨fun t=>?_,hG⟩
    rw [tF,if_pos (Nat.zero_le _),Nat.sub_zero]
    rcases Nat.lt_or_ge t args.length with ht|ht
    ·have h1:=List.getElem?_eq_getElem ht
     have hlt:t<vs.size:=by omega
     have h2:=Array.getElem?_eq_getElem hlt
     rw [h1]
     have h3:=hv t _ _ h1 h2
     have:(vs++Array.replicate (func.ntmps-vs.size) undef).getD t undef=vs[t]:=by
      simp [Array.getD_eq_getD_getElem?,Array.getElem?_append_left hlt,h2]
     rw [this]
     exact h3
    ·rw [List.getElem?_eq_none ht]; exact .any _
   refine wp_mono (wpIn_wide.1 (fQ (rd:=none) (nd:=0) hmix hC c hb ho hr hG he hsz)) ?_
   rintro e a' w' ⟨he1,hs1,hd1,j1,r1,e1,x1⟩
   by_cases hpan:∃u,o.e = .gw u
   ·obtain ⟨u,hu⟩:=hpan
    rw [hu] at he1; subst he1
    simp only [finish,hu] at hfin
    injection hfin with hfin; subst hfin
    exact ⟨hd1,.inr ⟨u,rfl,rfl,j1,rO x1.len r1,pa x1.len rfl x1⟩⟩
   have hno:∀i,o.e ≠ .exit i:=by
    intro i hi
    simp [finish,hi] at hfin
   have hfin':aK (k7 o.env o.mem rs) (fun l=>some ((one l).fO M.length o.mem,fN M.length o.mem))=some x:=by
    unfold finish at hfin
    split at hfin
    ·rename_i i hi; exact absurd hi (hno i)
    ·rename_i u hu; exact absurd ⟨u,hu⟩ hpan
    ·exact hfin
   obtain ⟨l,hl',hfin'⟩:=av hfin'
   injection hfin' with hfin'; subst hfin'
   obtain ⟨us,u1,u2,u3⟩:=vx (P:=P) r1 e1 hrs hl'
   have hbase:M.length<=o.mem.length:=x1.len
   have hres:(results func a'.tmps).run P w' = .ok (if h:us.toArray.size=1 then us.toArray[0] else .tuple us.toArray) w':=by
    unfold results
    rw [Array.mapM_eq_mapM_toList,Sem.run_bind,Sem.run_map]
    refine Eq.trans (congrArg (fun r:Result (List Value)=>Result.andThen (r.andThen fun a w' => .ok a.toArray w') _) (Eq.trans ?_ u1)) rfl
    rfl
   have hone:cm j1 o.mem w' (one l) (if h:us.toArray.size=1 then us.toArray[0] else .tuple us.toArray):=by
    exact E0 u2 u3
   have hfinal:∃v,(results func a'.tmps).run P w' = .ok v w'/\oa j M w ((one l).fO M.length o.mem,fN M.length o.mem) (.returned v) w' :=
    ⟨_,hres,.inl ⟨_,rfl,j1,rO hbase r1,pa hbase rfl x1,xP hbase r1 hone⟩⟩
   cases hoe:o.e with
   |exit i=>exact absurd hoe (hno i)
   |gw u=>exact absurd ⟨u,hoe⟩ hpan
   |normal=>rw [hoe] at he1; subst he1; exact ⟨hd1,hfinal⟩
   |ret=>rw [hoe] at he1; subst he1; exact ⟨hd1,hfinal⟩
  ·cases hc
structure oH (P:Program) (T:uF):Prop where
 code:∀f fn,T.code f=some fn->∃A func,P.funcs[f]?=some func/\aG P A func=some fn
 iX:∀f g,T.iX f=some g->∀args M x,g args M=some x->fX P f=true/\bl P f args M x
def rI (hmix:P.follows .mixedOrders=true) {T:uF} (hT:oH P T):∀n,iM P (eD T n)
 |0,f,args,M,x,h=>by
  unfold eD at h
  split at h
  ·rename_i g hg; exact hT.iX f g hg args M x h
  ·cases h
 |n+1,f,args,M,x,h=>by
  rw [eD] at h
  split at h
  ·rename_i g hg; exact hT.iX f g hg args M x h
  ·split at h
   ·cases h
   ·rename_i fn hfn
    split at h
    ·rename_i hl
     obtain ⟨A,func,h1,h2⟩:=hT.code f fn hfn
     exact Lb hmix (rI hmix hT n) h1 h2 hl h
    ·cases h
def mD (hmix:P.follows .mixedOrders=true) {T:uF} (hT:oH P T):iM P (af T):=fun f args M x h=>by
 obtain ⟨n,hn⟩:=ov h
 exact rI hmix hT n f args M x hn
end
section
variable {j:J} {M:ai} {w w':World}
def gJ (b:Nat):∀(l:List Value) (o:Nat) (w:World),w.setCells b o l=ib w b o l
 | [],_,_=>rfl
 |v::r,o,w=>by rw [World.setCells,ib,gJ b r]
end
noncomputable def fp (sz bytes:Nat):List ae->ai->Option (ae×ai)
 | [.slice _ xs],M=>match xs with
  | []=>some (.slice .c0 [],M)
  |x::r=>aZ (wid (x::r) sz/\bP (x::r).length bytes) (some (.bu M.length 0 sz 0 (x::r).length,M++[.arr sz 0 (x::r)]))
 |_,_=>none
noncomputable def BM (sz bytes:Nat):List ae->ai->Option (ae×ai)
 | [.slice _ xs],M=>aZ (wid xs sz/\bP xs.length bytes) (some (.slice .sh xs,M))
 |_,_=>none
noncomputable def km (sz bytes:Nat):List ae->ai->Option (ae×ai)
 | [.slice _ xs],M=>aZ (wid xs sz/\bP xs.length bytes) (some (.slice (.own M.length) xs,M++[.tick sz xs.length]))
 |_,_=>none
noncomputable def fg (sz:Nat):List ae->ai->Option (ae×ai)
 | [.bu id ver sz' lo hi,.int .i64 i,.int .i64 i'],M=>match nth M id with
  |some (.arr sz0 v xs)=>aZ (v=ver/\sz'=sz/\lo=0/\hi=xs.length/\0<=i/\i.toNat<xs.length/\i'=i+1/\xs.length<=2 ^ 44)
    (some (.bu id (ver+1) sz 0 (xs.length-1),dG M id (.arr sz0 (ver+1) (xs.take i.toNat++xs.drop (i.toNat+1)))))
  |_=>none
 |_,_=>none
noncomputable def ep (sz bytes:Nat):List ae->ai->Option (ae×ai)
 | [.bu id ver sz' lo hi,.int .i64 i,.slice _ [e]],M=>match nth M id with
  |some (.arr sz0 v xs)=>aZ (v=ver/\sz'=sz/\lo=0/\hi=xs.length/\0<=i/\i.toNat<=xs.length/\e.cells.length=sz/\bP (xs.length+1) bytes)
    (some (.bu id (ver+1) sz 0 (xs.length+1),dG M id (.arr sz0 (ver+1) (xs.take i.toNat++e::xs.drop i.toNat))))
  |_=>none
 | [.slice .c0 [],.int .i64 i,.slice _ [e]],M=>aZ (i=0/\e.cells.length=sz) (some (.bu M.length 0 sz 0 1,M++[.arr sz 0 [e]]))
 |_,_=>none
def rG (P:Program) (f:Nat) (E:TypeId) (sz bytes:Nat):Prop:=∀(b off n c:Nat) (news:List Value) (w:World),news.length=n*sz->n<=maxLen->n*bytes<=140737488355328->(∀j u,news[j]?=some u->w.cell? ⟨b,off+j,none⟩=some u)->(∀u∈news,u.oneCell'=true) ->
 Calls P f #[.slice (some ⟨b,off,none⟩) n c] w fun e w'=>∃v',e = .returned v'/\w'.ownsRow w.heap.size E sz v' n news/\v' ≠ .slice none 0 0/\Below w.heap.size w w'
def o7 (P:Program) (f:Nat):Prop:=∀(A:Option Addr) (c:Nat) (w:World),Calls P f #[.slice A 0 c] w fun e w'=>(∃B,e = .returned (.slice B 0 0))/\Below w.heap.size w w'
def RV (P:Program) (f sz:Nat) (z:List Value):Prop:=∀(blk cap i i' n:Nat) (cs:List Value) (w:World),cs.length=n*sz->n<=cap->n<=9223372036854775807->i<n->i'=i+1 ->
 (∀p v,cs[p]?=some v->w.cell? ⟨blk,p,none⟩=some v/\w.frozen? ⟨blk,p,none⟩=false/\v.oneCell'=true) ->
 Calls P f #[.slice (some ⟨blk,0,none⟩) n cap,.int .i64 i,.int .i64 i'] w fun e w'=>e = .returned (.slice (some ⟨blk,0,none⟩) (n-1) cap) /\
  w'=(w.drew.setCells blk (i*sz) (cs.drop (i'*sz))).setCells blk ((n-1)*sz) z
def pJ (sz:Nat) (w:World) (b:Nat) (row:Array Value) (t:TypeId) (n i:Nat) (cs vs:List Value) (e:Ending) (w':World):Prop :=
 ∃b' cap' row' t',e = .returned (.slice (some ⟨b',0,none⟩) (n+1) cap')/\n+1<=cap'/\w'.heap[b']?=some (.cells row' t' (0,0))/\cap'*sz<=row'.size /\
  (∀p,p<(n+1)*sz->row'[p]?=(cs.take (i*sz)++(vs++cs.drop (i*sz)))[p]?)/\Quiet w w' /\
  ((b'=b/\t'=t/\row'.size=row.size/\∀b0,b0≠b->b0<w.heap.size->w'.heap[b0]?=w.heap[b0]?)\/(w.heap.size<=b'/\∀b0,b0<w.heap.size->w'.heap[b0]?=w.heap[b0]?))
def HN (P:Program) (f sz bytes:Nat):Prop:=∀(b n c i vb voff vc:Nat) (cs vs:List Value) (w:World) (row:Array Value) (t:TypeId),i<=n->n<=c->(n+1)*bytes<=140737488355328->n+1<=9223372036854775807->vb≠b->cs.length=n*sz->vs.length=sz->w.heap[b]?=some (.cells row t (0,0))->c*sz<=row.size ->
 (∀(p:Nat) (v:Value),cs[p]?=some v->row[p]?=some v)->(∀(p:Nat) (v:Value),vs[p]?=some v->w.cell? ⟨vb,voff+p,none⟩=some v)->(∀v∈cs,v.oneCell'=true)->(∀v∈vs,v.oneCell'=true) ->
 Calls P f #[.slice (some ⟨b,0,none⟩) n c,.int .i64 i,.slice (some ⟨vb,voff,none⟩) 1 vc] w (pJ sz w b row t n i cs vs)
def HO (P:Program) (f sz:Nat):Prop:=∀(A:Option Addr) (vb voff vc:Nat) (vs:List Value) (w:World) (row:Array Value),vs.length=sz->(∀(p:Nat) (v:Value),vs[p]?=some v->w.cell? ⟨vb,voff+p,none⟩=some v)->(∀v∈vs,v.oneCell'=true) ->
 Calls P f #[.slice A 0 0,.int .i64 0,.slice (some ⟨vb,voff,none⟩) 1 vc] w fun e w'=>pJ sz w w.heap.size row 0 0 0 [] vs e w'
section
variable {P:Program} {f:Nat} {sz bytes:Nat} {E:TypeId}
def xh {α:Type} {vs:Array α} {p q r:ae} (h:[p,q,r].length=vs.size):∃a b c,vs = #[a,b,c]:=by
 obtain ⟨l⟩:=vs
 match l,h with
 | [a,b,c],_=>exact ⟨a,b,c,rfl⟩
def vv {α:Type} {vs:Array α} {p:ae} (h:[p].length=vs.size):∃a,vs = #[a]:=by
 obtain ⟨l⟩:=vs
 match l,h with
 | [a],_=>exact ⟨a,rfl⟩
def cm.pD {j:J} {M:ai} {w:World} {tk:Tk} {xs:List ae} {v:Value} (h:cm j M w (.slice tk xs) v):bX w (gv j M w) (.slice .sh xs) v:=h.bA
def jk (hsz:0<sz) (hby:bytes*8<=2 ^ 20/\0<bytes)
  (hC:rG P f E sz bytes) (h0:o7 P f)
  {args:List ae} {M:ai} {x:ae×ai} (h:fp sz bytes args M=some x):bl P f args M x:=by
 unfold fp at h
 split at h
 ·refine fZ.call ?_
  intro j w vs hr hG hl hv
  obtain ⟨u,rfl⟩:=vv hl
  have h1:=(hv 0 _ u rfl rfl).pD
  split at h
  ·injection h with h; subst h
   obtain ⟨A,cap,rfl,_,_⟩:=ia (size:=sz) h1 (fun y hy=>by cases hy)
   refine (h0 A cap w).mono ?_
   rintro e w' ⟨⟨B,rfl⟩,hb⟩
   exact ⟨_,j,rfl,hr.grow hb.size hb.os hb.tape hb.output hb.block,Ext.grow hb.size hb.os hb.tape hb.output hb.block,.c0 _⟩
  ·rename_i y r
   obtain ⟨⟨hw,hroom⟩,h⟩:=bc h
   injection h with h; subst h
   obtain ⟨A,cap,rfl,hcap,h2⟩:=ia h1 hw
   obtain ⟨b,off,rfl,us,hrl,hul,hone,hcell⟩:=h2.resolve_left (by simp)
   unfold bP at hroom
   have hle:(y::r).length<=2 ^ 44:=Nat.le_trans (Nat.le_mul_of_pos_right _ hby.2) hroom
   refine (hC b off (y::r).length cap us w hul (by unfold maxLen; omega) (by omega) (fun p u hp=>(hcell p u hp).1) hone).mono ?_
   rintro e w' ⟨v',rfl,⟨_,hown⟩,hnn,hb⟩
   obtain ⟨g,cap',cur,rfl,hg,hg',hn1,_,hcs,htk⟩:=hown.resolve_left (fun h=>hnn h.1)
   have q:Quiet w w':=⟨hb.size,hb.os,hb.tape,hb.output⟩
   have hob:∀b,some g=some b->w.heap.size<=b/\b<w'.heap.size:=fun b h=>by injection h with h; subst h; exact ⟨hg,lt_of_block hg'⟩
   have hcl:∀p,p<us.length->cur[p]?=us[p]?:=fun p hp=>by
    rw [<-htk,List.getElem?_take_of_lt (by rw [<-hul]; exact hp)]; simp
   have ext:Ext j M w (cH j M.length (some g)) (M++[.arr sz 0 (y::r)]) w':=Ext.push (fun b h=>(hob b h).1) q hb.block
   refine ⟨_,cH j M.length (some g),rfl,hr.push hob q hb.block (fun h=>by cases h) (fun sz n b h _=>by cases h) (fun sz0 v0 xs0 he=>?_),ext,?_⟩
   ·injection he with e1 e2 e3
    subst e1; subst e3
    have hat:∀j' M',Ext j M w j' M' w'->Ad j' M' w' g sz (y::r):=fun j' M' hx=>gk hg' hw (hrl.mono hx.cW) hcl
    refine .inr ⟨g,cur,E,rfl,hg',by rw [hcs]; exact Nat.mul_le_mul_right _ hn1,hw,fun j' M' hx q x k c hx' hk=>?_⟩
    obtain ⟨vs,t,a1,a2,a3,a4⟩:=hat j' M' hx
    rw [hg'] at a1; injection a1 with a1; injection a1 with a1 a1'
    subst a1
    exact a4 q x k c hx' hk
   ·refine .bu (.inl ⟨g,0,cap',rfl,by omega⟩) (by simp) (fun bx hbx=>by rw [gL] at hbx; injection hbx with hbx; subst hbx; rfl) fun sz' v' xs hx=>?_
    rw [gL] at hx; injection hx with hx; injection hx with e1 e2 e3
    subst e1; subst e2; subst e3
    exact ⟨Nat.le_refl _,fun _=>⟨rfl,Nat.zero_le _,Nat.le_refl _,.inr ⟨g,cap',cur,E,by simp [cH],by simp,by omega,hg',by rw [Nat.zero_add]; omega⟩⟩⟩
 ·cases h
def CT (hsz:0<sz) (hby:bytes*8<=2 ^ 20/\0<bytes)
  (hC:rG P f E sz bytes) (h0:o7 P f)
  {args:List ae} {M:ai} {x:ae×ai} (h:BM sz bytes args M=some x):bl P f args M x:=by
 unfold BM at h
 split at h
 ·rename_i tk xs
  refine fZ.call ?_
  intro j w vs hr hG hl hv
  obtain ⟨u,rfl⟩:=vv hl
  have h1:=(hv 0 _ u rfl rfl).pD
  obtain ⟨⟨hw,hroom⟩,h⟩:=bc h
  injection h with h; subst h
  obtain ⟨A,cap,rfl,hcap,h2⟩:=ia h1 hw
  rcases h2 with rfl|⟨b,off,rfl,us,hrl,hul,hone,hcell⟩
  ·refine (h0 A cap w).mono ?_
   rintro e w' ⟨⟨B,rfl⟩,hb⟩
   exact ⟨_,j,rfl,hr.grow hb.size hb.os hb.tape hb.output hb.block,Ext.grow hb.size hb.os hb.tape hb.output hb.block,.plain (bX.nil _ _ _)⟩
  ·unfold bP at hroom
   have hle:xs.length<=2 ^ 44:=Nat.le_trans (Nat.le_mul_of_pos_right _ hby.2) hroom
   refine (hC b off xs.length cap us w hul (by unfold maxLen; omega) (by omega) (fun p u hp=>(hcell p u hp).1) hone).mono ?_
   rintro e w' ⟨v',rfl,⟨_,hown⟩,hnn,hb⟩
   obtain ⟨g,cap',cur,rfl,hg,hg',hn1,_,hcs,htk⟩:=hown.resolve_left (fun h=>hnn h.1)
   have ext:Ext j M w j M w':=Ext.grow hb.size hb.os hb.tape hb.output hb.block
   refine ⟨_,j,rfl,hr.grow hb.size hb.os hb.tape hb.output hb.block,ext,.plain ?_⟩
   have hcl:∀p,p<us.length->cur[p]?=us[p]?:=fun p hp=>by
    rw [<-htk,List.getElem?_take_of_lt (by rw [<-hul]; exact hp)]; simp
   obtain ⟨vs,t,a1,a2,a3,a4⟩:=gk (j':=j) (M':=M) hg' hw (hrl.mono ext.cW) hcl
   rw [hg'] at a1; injection a1 with a1; injection a1 with a1 a1'
   subst a1
   have:=pO (lo:=0) (hi:=xs.length) (cap:=cap') (saf':=gv j M w') hg' a3 a4 (fun b off h=>h) (fun off ho=>⟨lt_of_block hg',fun id hid hji=>by have:=hr.lt id g hid hji; omega,fun hx=>by have:=hr.rD g off hx; omega⟩) (Nat.zero_le _) (Nat.le_refl _) (by omega)
   simpa using this
 ·cases h
def rT (hsz:0<sz) (hby:bytes*8<=2 ^ 20/\0<bytes)
  (hC:rG P f E sz bytes) (h0:o7 P f)
  {args:List ae} {M:ai} {x:ae×ai} (h:km sz bytes args M=some x):bl P f args M x:=by
 unfold km at h
 split at h
 ·rename_i tk xs
  refine fZ.call ?_
  intro j w vs hr hG hl hv
  obtain ⟨u,rfl⟩:=vv hl
  have h1:=(hv 0 _ u rfl rfl).pD
  obtain ⟨⟨hw,hroom⟩,h⟩:=bc h
  injection h with h; subst h
  obtain ⟨A,cap,rfl,hcap,h2⟩:=ia h1 hw
  rcases h2 with rfl|⟨b,off,rfl,us,hrl,hul,hone,hcell⟩
  ·refine (h0 A cap w).mono ?_
   rintro e w' ⟨⟨B,rfl⟩,hb⟩
   have q:Quiet w w':=⟨hb.size,hb.os,hb.tape,hb.output⟩
   refine ⟨_,cH j M.length none,rfl,hr.push (fun b h=>by cases h) q hb.block (fun h=>by cases h) (fun _ _ _ _ h=>by cases h),Ext.push (fun b h=>by cases h) q hb.block,?_⟩
   refine .own (gL ..) (Nat.le_refl _) (bX.nil _ _ _) fun _ => .inl ⟨by simp [cH],rfl,B,rfl⟩
  ·unfold bP at hroom
   have hle:xs.length<=2 ^ 44:=Nat.le_trans (Nat.le_mul_of_pos_right _ hby.2) hroom
   refine (hC b off xs.length cap us w hul (by unfold maxLen; omega) (by omega) (fun p u hp=>(hcell p u hp).1) hone).mono ?_
   rintro e w' ⟨v',rfl,⟨_,hown⟩,hnn,hb⟩
   obtain ⟨g,cap',cur,rfl,hg,hg',hn1,_,hcs,htk⟩:=hown.resolve_left (fun h=>hnn h.1)
   have q:Quiet w w':=⟨hb.size,hb.os,hb.tape,hb.output⟩
   have hob:∀b,some g=some b->w.heap.size<=b/\b<w'.heap.size:=fun b h=>by injection h with h; subst h; exact ⟨hg,lt_of_block hg'⟩
   have ext:Ext j M w (cH j M.length (some g)) (M++[.tick sz xs.length]) w':=Ext.push (fun b h=>(hob b h).1) q hb.block
   refine ⟨_,cH j M.length (some g),rfl,hr.push hob q hb.block (fun h=>by cases h) (fun _ _ b _ h=>by injection h with h; subst h; exact ⟨_,_,hg'⟩),ext,?_⟩
   have hcl:∀p,p<us.length->cur[p]?=us[p]?:=fun p hp=>by
    rw [<-htk,List.getElem?_take_of_lt (by rw [<-hul]; exact hp)]; simp
   obtain ⟨vs,t,a1,a2,a3,a4⟩:=gk (j':=cH j M.length (some g)) (M':=M++[.tick sz xs.length]) hg' hw (hrl.mono ext.cW) hcl
   rw [hg'] at a1; injection a1 with a1; injection a1 with a1 a1'
   subst a1
   have:=pO (lo:=0) (hi:=xs.length) (cap:=cap') (saf':=gv (cH j M.length (some g)) (M++[.tick sz xs.length]) w') hg' a3 a4 (fun b off h=>h) (fun off ho=>⟨lt_of_block hg',fun id hid hji=>by
    rcases Nat.lt_or_ge id M.length with hid'|hid'
    ·have hj:j id=some g:=by simpa [cH,Nat.ne_of_lt hid'] using hji
     have:=hr.lt id g hid' hj; omega
    ·have e:id=M.length:=by simp at hid; omega
     subst e
     exact ⟨sz,xs.length,gL ..,ho⟩,fun hx=>by have:=hr.rD g off hx; omega⟩) (Nat.zero_le _) (Nat.le_refl _) (by omega)
   refine .own (gL ..) (Nat.le_refl _) (by simpa using this) fun _ => .inr ⟨g,cap',cur,E,by simp [cH],by simp,hg',by omega,by omega⟩
 ·cases h
noncomputable def X7 (sz bytes:Nat) (args:List ae):ai->Option (ae×ai)
 | []=>BM sz bytes args []
 |b::M=>fp sz bytes args (b::M)
def JA (hsz:0<sz) (hby:bytes*8<=2 ^ 20/\0<bytes)
  (hC:rG P f E sz bytes) (h0:o7 P f)
  {args:List ae} {M:ai} {x:ae×ai} (h:X7 sz bytes args M=some x):bl P f args M x:=by
 cases M with
 |nil=>exact CT hsz hby hC h0 h
 |cons b M=>exact jk hsz hby hC h0 h
def lq (hsz:0<sz) {z:List Value} (hz:z.length=sz)
  (hD:RV P f sz z)
  {args:List ae} {M:ai} {x:ae×ai} (h:fg sz args M=some x):bl P f args M x:=by
 unfold fg at h
 split at h
 ·rename_i id ver sz' lo hi i i'
  rw [bW] at h
  split at h
  ·rename_i sz0 v0 xs hM
   obtain ⟨hc,h⟩:=bc h
   injection h with h; subst h
   obtain ⟨rfl,rfl,rfl,rfl,hi0,hin,rfl,hbig⟩:=hc
   refine fZ.call ?_
   intro j w vs hr hG hl hv
   obtain ⟨u1,u2,u3,rfl⟩:=xh hl
   have h2:=(hv 1 _ u2 rfl rfl).cg
   have h3:=(hv 2 _ u3 rfl rfl).cg
   subst h2; subst h3
   obtain ⟨_,hid,_,g⟩:=(hv 0 _ u1 rfl rfl).gW
   obtain ⟨e1,_,_,⟨rfl,l3,B,rfl⟩|⟨b,cap,row,t0,l3,l4,l5,l6,l7⟩⟩:=(g sz0 v0 xs hM).2 rfl
   ·exact absurd hin (by simp)
   subst e1; subst l4
   obtain ⟨b',row',t',k1,k2,k3,k4,k5⟩:=hr.rL hM l3
   rw [l3] at k1; injection k1 with k1; subst k1
   rw [l6] at k2; injection k2 with k2; injection k2 with k2 k2'
   subst k2; subst k2'
   have hrow:=pN (b:=b) k3 k4 k5
   rw [Nat.sub_zero] at l5
   rw [Nat.zero_add] at l7
   generalize hcs:row.toList.take (xs.length*sz0)=cs at hrow
   have hcl:cs.length=xs.length*sz0:=by rw [<-hcs]; simp; omega
   have hat:∀p v,cs[p]?=some v->row[p]?=some v:=fun p v hp=>by
    have hlt:p<xs.length*sz0:=by rw [<-hcl]; exact ak hp
    rw [<-hcs,List.getElem?_take_of_lt hlt] at hp; simpa using hp
   obtain ⟨m,rfl⟩:∃m:Nat,i=m:=⟨i.toNat,(Int.toNat_of_nonneg (by assumption)).symm⟩
   simp only [Int.toNat_natCast] at hin ⊢
   have e0:((m:Int)+1)=((m+1:Nat):Int):=rfl
   rw [Nat.sub_zero,Nat.zero_mul,e0]
   refine (hD b cap m (m+1) xs.length cs w hcl l5 (by omega) hin rfl (fun p v hp=>⟨by simp [World.cell?,l6,hat p v hp],by simp [World.frozen?,l6],?_⟩)).mono ?_
   ·have hp':p<(dX xs).length:=by rw [hrow.1]; exact ak hp
    exact bX.one (hrow.2 p _ v (List.getElem?_eq_getElem hp') hp)
   ·rintro e w' ⟨rfl,hw'⟩
    rw [gJ,gJ] at hw'
    have hl1:(cs.drop ((m+1)*sz0)).length=(xs.length-(m+1))*sz0:=by rw [List.length_drop,hcl,Nat.sub_mul]
    have ha1:(m+1)*sz0=m*sz0+sz0:=by rw [Nat.add_mul,Nat.one_mul]
    have ha2:(xs.length-(m+1))*sz0=xs.length*sz0-(m*sz0+sz0):=by rw [Nat.sub_mul,ha1]
    have ha3:(xs.length-1)*sz0=xs.length*sz0-sz0:=by rw [Nat.sub_mul,Nat.one_mul]
    have ha4:m*sz0+sz0<=xs.length*sz0:=by rw [<-ha1]; exact Nat.mul_le_mul_right _ hin
    have hd:w.drew.heap=w.heap:=rfl
    obtain ⟨s1,s2,s3,s4,s5,r1,s6,s7,s8,s9⟩:=fK (t:=t0) (cs.drop ((m+1)*sz0)) w.drew (m*sz0) row (by rw [hd]; exact l6) (by rw [hl1]; omega)
    obtain ⟨q1,q2,q3,q4,q5,r2,q6,q7,q8,q9⟩:=fK (t:=t0) z _ ((xs.length-1)*sz0) r1 s6 (by rw [hz,s7]; omega)
    rw [<-hw'] at q1 q2 q3 q4 q5 q6
    have hwd:wid (xs.take m++xs.drop (m+1)) sz0:=gr (nY k4) (nW k4)
    have ec:RL w (gv j M w) (dX (xs.take m++xs.drop (m+1))) (cs.take (m*sz0)++cs.drop ((m+1)*sz0)):=by
     rw [gQ,j9 m k4,lP (m+1) k4]
     exact (hrow.take _).append (hrow.drop _)
    have htk:(cs.take (m*sz0)).length=m*sz0:=by rw [List.length_take,hcl]; omega
    have hput:=pM (ver':=v0+1) (xs':=xs.take m++xs.drop (m+1)) hr hM l3 (w':=w') ⟨by rw [q1,s1]; exact Nat.le_refl _,q2.trans s2,q3.trans s3,q4.trans s4⟩ (fun b' hb' _=>(q5 b' hb').trans (s5 b' hb')) l6 q6 (q7.trans s7) (by omega) (fun h=>by omega) hwd ec (fun p hp=>by
     rw [List.length_append,htk,hl1] at hp
     rw [q8 p (.inl (by omega))]
     rcases Nat.lt_or_ge p (m*sz0) with c1|c1
     ·rw [s8 p (.inl c1),List.getElem?_append_left (by rw [htk]; exact c1),List.getElem?_take_of_lt c1]
      have hp1:p<cs.length:=by omega
      rw [hat p _ (List.getElem?_eq_getElem hp1),List.getElem?_eq_getElem hp1]
     ·rw [List.getElem?_append_right (by rw [htk]; exact c1),htk]
      have:=s9 (p-m*sz0) (by rw [hl1]; omega)
      rw [Nat.add_sub_cancel' c1] at this
      exact this)
    rw [cF]
    refine ⟨_,j,rfl,hput.1,hput.2,.bu (.inl ⟨b,0,cap,rfl,by omega⟩) (by simpa using hid) (fun bx hbx=>by rw [bf (ak hM)] at hbx; injection hbx with hbx; subst hbx; rfl) fun sz' v' ys hx=>?_⟩
    rw [bf (ak hM)] at hx; injection hx with hx; injection hx with e1 e2 e3
    subst e1; subst e2; subst e3
    exact ⟨Nat.le_refl _,fun _=>⟨rfl,Nat.zero_le _,by simp; omega,.inr ⟨b,cap,r2,t0,l3,by simp,by omega,q6,by rw [Nat.zero_add,q7,s7]; exact l7⟩⟩⟩
  ·cases h
 ·cases h
end
section
variable {sz:Nat} {w:World} {b n c i:Nat} {row:Array Value} {t:TypeId} {cs vs:List Value} {e:Ending} {w':World}
def j5 (w:World) (o:Obj):(w.alloc o).heap=w.heap.push o:=rfl
def lG (w:World):w.drew.heap=w.heap:=rfl
def ve {A B C:List Value} {p:Nat}:(A++(B++C))[p]?=if p<A.length then A[p]? else if p<A.length+B.length then B[p-A.length]? else C[p-A.length-B.length]?:=by
 split
 ·rw [List.getElem?_append_left (by assumption)]
 ·rw [List.getElem?_append_right (by omega)]
  split
  ·rw [List.getElem?_append_left (by omega)]
  ·rw [List.getElem?_append_right (by omega)]
def Gw (hi:i<n) (hroom:n+1<=c) (hcl:cs.length=n*sz) (hvl:vs.length=sz) (hw:w.heap[b]?=some (.cells row t (0,0))) (hrow:c*sz<=row.size) (hat:∀(p:Nat) (v:Value),cs[p]?=some v->row[p]?=some v)
  (he:e = .returned (.slice (some ⟨b,0,none⟩) (n+1) c)) (hw':w'=(w.drew.setCells b ((i+1)*sz) (cs.drop (i*sz))).setCells b (i*sz) vs):pJ sz w b row t n i cs vs e w':=by
 have a1:(i+1)*sz=i*sz+sz:=by rw [Nat.add_mul,Nat.one_mul]
 have a2:(n+1)*sz=n*sz+sz:=by rw [Nat.add_mul,Nat.one_mul]
 have a3:i*sz+sz<=n*sz:=by rw [<-a1]; exact Nat.mul_le_mul_right _ hi
 have a4:(n+1)*sz<=row.size:=Nat.le_trans (Nat.mul_le_mul_right _ hroom) hrow
 have hdl:(cs.drop (i*sz)).length=n*sz-i*sz:=by rw [List.length_drop,hcl]
 rw [gJ,gJ] at hw'
 obtain ⟨s1,s2,s3,s4,s5,r1,s6,s7,s8,s9⟩:=fK (t:=t) (cs.drop (i*sz)) w.drew ((i+1)*sz) row hw (by omega)
 obtain ⟨q1,q2,q3,q4,q5,r2,q6,q7,q8,q9⟩:=fK (t:=t) vs _ (i*sz) r1 s6 (by omega)
 rw [<-hw'] at q1 q2 q3 q4 q5 q6
 have htk:(cs.take (i*sz)).length=i*sz:=by rw [List.length_take,hcl]; omega
 refine ⟨b,c,r2,t,he,hroom,q6,by rw [q7,s7]; exact hrow,fun p hp=>?_,⟨by rw [q1,s1]; exact Nat.le_refl _,q2.trans s2,q3.trans s3,q4.trans s4⟩,.inl ⟨rfl,rfl,q7.trans s7,fun b0 h0 _=>(q5 b0 h0).trans (s5 b0 h0)⟩⟩
 rw [ve,htk,hvl]
 split
 ·rename_i c1
  rw [q8 p (.inl c1),s8 p (.inl (by omega)),List.getElem?_take_of_lt c1]
  have hp1:p<cs.length:=by omega
  rw [hat p _ (List.getElem?_eq_getElem hp1),List.getElem?_eq_getElem hp1]
 ·rename_i c1
  split
  ·have:=q9 (p-i*sz) (by omega)
   rwa [Nat.add_sub_cancel' (by omega)] at this
  ·rw [q8 p (.inr (by omega))]
   have:=s9 (p-(i+1)*sz) (by omega)
   rw [Nat.add_sub_cancel' (by omega)] at this
   rw [this]; congr 1; omega
def Lm (hroom:n+1<=c) (hcl:cs.length=n*sz) (hvl:vs.length=sz) (hw:w.heap[b]?=some (.cells row t (0,0))) (hrow:c*sz<=row.size) (hat:∀(p:Nat) (v:Value),cs[p]?=some v->row[p]?=some v)
  (he:e = .returned (.slice (some ⟨b,0,none⟩) (n+1) c)) (hw':w'=w.setCells b (n*sz) vs):pJ sz w b row t n n cs vs e w':=by
 have a2:(n+1)*sz=n*sz+sz:=by rw [Nat.add_mul,Nat.one_mul]
 have a4:(n+1)*sz<=row.size:=Nat.le_trans (Nat.mul_le_mul_right _ hroom) hrow
 rw [gJ] at hw'
 obtain ⟨q1,q2,q3,q4,q5,r2,q6,q7,q8,q9⟩:=fK (t:=t) vs w (n*sz) row hw (by omega)
 rw [<-hw'] at q1 q2 q3 q4 q5 q6
 refine ⟨b,c,r2,t,he,hroom,q6,by rw [q7]; exact hrow,fun p hp=>?_,⟨by rw [q1]; exact Nat.le_refl _,q2,q3,q4⟩,.inl ⟨rfl,rfl,q7,fun b0 h0 _=>q5 b0 h0⟩⟩
 rw [<-hcl,List.take_length,List.drop_length,List.append_nil]
 rcases Nat.lt_or_ge p cs.length with c1|c1
 ·rw [q8 p (.inl (by omega)),List.getElem?_append_left c1,hat p _ (List.getElem?_eq_getElem c1),List.getElem?_eq_getElem c1]
 ·rw [List.getElem?_append_right c1]
  have:=q9 (p-n*sz) (by omega)
  rw [Nat.add_sub_cancel' (by omega)] at this
  rw [this,hcl]
def sk {z:Value} {E:TypeId} (hsz:0<sz) (hz:z.cells.size=sz) (hcl:cs.length=n*sz) (hvl:vs.length=sz) (hG:n+1<=c)
  (he:e = .returned (.slice (some ⟨w.heap.size,0,none⟩) (n+1) c)) (hw':w'=w.drew.alloc (.cells ((cs++vs).toArray++Builtin.zeroCells z.cells (c-(n+1))) E)):pJ sz w b row t n n cs vs e w':=by
 have a2:(n+1)*sz=n*sz+sz:=by rw [Nat.add_mul,Nat.one_mul]
 have hzl:(Builtin.zeroCells z.cells (c-(n+1))).size=(c-(n+1))*sz:=by simp [Builtin.zeroCells,hz]
 have a3:c*sz=(n+1)*sz+(c-(n+1))*sz:=by rw [<-Nat.add_mul,Nat.add_sub_cancel' hG]
 subst hw'
 refine ⟨w.heap.size,c,(cs++vs).toArray++Builtin.zeroCells z.cells (c-(n+1)),E,he,hG,by rw [j5,lG]; simp,by simp [hzl,hcl,hvl]; omega,fun p hp=>?_,⟨by rw [j5,lG]; simp,rfl,rfl,rfl⟩,.inr ⟨Nat.le_refl _,fun b0 h0=>by rw [j5,lG]; simp [Array.getElem?_push,Nat.ne_of_lt h0]⟩⟩
 rw [Array.getElem?_append_left (by simp; omega),<-hcl,List.take_length,List.drop_length,List.append_nil]
 simp
def Ll {z:Value} {E:TypeId} (hsz:0<sz) (hz:z.cells.size=sz) (hi:i<n) (hcl:cs.length=n*sz) (hvl:vs.length=sz) (hG:n+1<=c)
  (he:e = .returned (.slice (some ⟨w.heap.size,0,none⟩) (n+1) c))
  (hw':w'=(((w.alloc (.cells ((cs.take (i*sz)).toArray++Builtin.zeroCells z.cells (n+1-i)++Builtin.zeroCells z.cells (c-(n+1))) E)).drew.setCells w.heap.size (i*sz) vs).drew).setCells w.heap.size ((i+1)*sz) (cs.drop (i*sz))):pJ sz w b row t n i cs vs e w':=by
 have a1:(i+1)*sz=i*sz+sz:=by rw [Nat.add_mul,Nat.one_mul]
 have a2:(n+1)*sz=n*sz+sz:=by rw [Nat.add_mul,Nat.one_mul]
 have a3:i*sz+sz<=n*sz:=by rw [<-a1]; exact Nat.mul_le_mul_right _ hi
 have hz1:(Builtin.zeroCells z.cells (n+1-i)).size=(n+1-i)*sz:=by simp [Builtin.zeroCells,hz]
 have hz2:(Builtin.zeroCells z.cells (c-(n+1))).size=(c-(n+1))*sz:=by simp [Builtin.zeroCells,hz]
 have a4:c*sz=(n+1)*sz+(c-(n+1))*sz:=by rw [<-Nat.add_mul,Nat.add_sub_cancel' hG]
 have a5:(n+1)*sz=i*sz+(n+1-i)*sz:=by rw [<-Nat.add_mul,Nat.add_sub_cancel' (by omega)]
 have htk:(cs.take (i*sz)).length=i*sz:=by rw [List.length_take,hcl]; omega
 have hdl:(cs.drop (i*sz)).length=n*sz-i*sz:=by rw [List.length_drop,hcl]
 generalize hR:(cs.take (i*sz)).toArray++Builtin.zeroCells z.cells (n+1-i)++Builtin.zeroCells z.cells (c-(n+1))=ROW at hw'
 have hRs:ROW.size=c*sz:=by rw [<-hR]; simp only [Array.size_append,hz1,hz2,List.size_toArray,htk]; omega
 have hR0:∀p,p<i*sz->ROW[p]?=cs[p]?:=fun p hp=>by
  rw [<-hR,Array.getElem?_append_left (by simp only [Array.size_append,hz1,List.size_toArray,htk]; omega),Array.getElem?_append_left (by simp only [List.size_toArray,htk]; exact hp)]
  simp [List.getElem?_take_of_lt hp]
 rw [gJ,gJ] at hw'
 have h0:((w.alloc (.cells ROW E)).drew).heap[w.heap.size]?=some (.cells ROW E (0,0)):=by rw [lG,j5]; simp
 obtain ⟨s1,s2,s3,s4,s5,r1,s6,s7,s8,s9⟩:=fK (t:=E) vs _ (i*sz) ROW h0 (by omega)
 obtain ⟨q1,q2,q3,q4,q5,r2,q6,q7,q8,q9⟩:=fK (t:=E) (cs.drop (i*sz)) (ib ((w.alloc (.cells ROW E)).drew) w.heap.size (i*sz) vs).drew ((i+1)*sz) r1 s6 (by omega)
 rw [<-hw'] at q1 q2 q3 q4 q5 q6
 have hpush:((w.alloc (.cells ROW E)).drew).heap.size=w.heap.size+1:=by rw [lG,j5]; simp
 refine ⟨w.heap.size,c,r2,E,he,hG,q6,by omega,fun p hp=>?_,⟨?_,q2.trans s2,q3.trans s3,q4.trans s4⟩,.inr ⟨Nat.le_refl _,fun b0 hb0=>?_⟩⟩
 ·rw [ve,htk,hvl]
  split
  ·rename_i c1
   rw [q8 p (.inl (by omega)),s8 p (.inl c1),hR0 p c1,List.getElem?_take_of_lt c1]
  ·rename_i c1
   split
   ·rw [q8 p (.inl (by omega))]
    have:=s9 (p-i*sz) (by omega)
    rwa [Nat.add_sub_cancel' (by omega)] at this
   ·have:=q9 (p-(i+1)*sz) (by omega)
    rw [Nat.add_sub_cancel' (by omega)] at this
    rw [this]; congr 1; omega
 ·have e1:(ib ((w.alloc (.cells ROW E)).drew) w.heap.size (i*sz) vs).drew.heap.size=(ib ((w.alloc (.cells ROW E)).drew) w.heap.size (i*sz) vs).heap.size:=rfl
  omega
 ·rw [q5 b0 (by omega)]
  refine (s5 b0 (by omega)).trans ?_
  rw [lG,j5]; simp [Array.getElem?_push,Nat.ne_of_lt hb0]
end
def jH {P:Program} {f sz bytes:Nat} (hsz:0<sz) (hby:0<bytes)
  (hI:HN P f sz bytes) (h0:HO P f sz)
  {args:List ae} {M:ai} {x:ae×ai} (h:ep sz bytes args M=some x):bl P f args M x:=by
 unfold ep at h
 split at h
 ·rename_i id ver sz' lo hi i tk el
  rw [bW] at h
  split at h
  ·rename_i sz0 v0 xs hM
   obtain ⟨hc,h⟩:=bc h
   injection h with h; subst h
   obtain ⟨rfl,rfl,rfl,rfl,hi0,hin,hel,hroom⟩:=hc
   refine fZ.call ?_
   intro j w vs hr hG hl hv
   obtain ⟨u1,u2,u3,rfl⟩:=xh hl
   have h2:=(hv 1 _ u2 rfl rfl).cg
   subst h2
   have h3:=(hv 2 _ u3 rfl rfl).pD
   have hwe:wid [el] sz':=fun y hy=>by rw [List.mem_singleton.1 hy]; exact hel
   obtain ⟨A,vc,rfl,_,h4⟩:=ia h3 hwe
   obtain ⟨vb,voff,rfl,us,hrl,hul,hone,hcell⟩:=h4.resolve_left (by simp)
   obtain ⟨_,hid,_,g⟩:=(hv 0 _ u1 rfl rfl).gW
   obtain ⟨e1,_,_,⟨rfl,l3,B,rfl⟩|⟨b,cap,row,t0,l3,l4,l5,l6,l7⟩⟩:=(g sz0 v0 xs hM).2 rfl
   ·subst e1
    have hm0:i=0:=by simp at hin; omega
    subst hm0
    have hvl:us.length=sz0:=by simpa using hul
    refine (h0 B vb voff vc us w #[] hvl (fun p v hp=>(hcell p v hp).1) hone).mono ?_
    rintro e w' ⟨b',cap',row',t',rfl,d1,d2,d3,d4,q,d5⟩
    have hbk:w.heap.size<=b'/\∀b0,b0<w.heap.size->w'.heap[b0]?=w.heap[b0]?:=by
     rcases d5 with ⟨rfl,_,_,d7⟩|d5
     ·exact ⟨Nat.le_refl _,fun b0 hb0=>d7 b0 (Nat.ne_of_lt hb0) hb0⟩
     ·exact d5
    have hrel:=Rel.mT (ver':=v0+1) (xs':=[el]) hM hr q hbk.2 hbk.1 (lt_of_block d2) (by omega) (fun j' M' hx=>gk d2 hwe (hrl.mono hx.cW) (fun p hp=>by have:=d4 p (by omega); simpa using this))
    have hext:=Ext.mT (j:=j) (ver':=v0+1) (xs':=[el]) hM q hbk.2 hbk.1 (by omega)
    rw [cF]
    refine ⟨_,_,rfl,by simpa using hrel,by simpa using hext,.bu (.inl ⟨b',0,cap',rfl,by simpa using d1⟩) (by simpa using hid) (fun bx hbx=>by rw [bf (ak hM)] at hbx; injection hbx with hbx; subst hbx; rfl) fun sz' v' ys hx=>?_⟩
    rw [bf (ak hM)] at hx; injection hx with hx; injection hx with e1 e2 e3
    subst e1; subst e2; subst e3
    exact ⟨Nat.le_refl _,fun _=>⟨rfl,Nat.zero_le _,by simp,.inr ⟨b',cap',row',t',by simp [cH],by simp,by simpa using d1,d2,by rw [Nat.zero_add]; exact d3⟩⟩⟩
   subst e1; subst l4
   obtain ⟨b',row',t',k1,k2,k3,k4,k5⟩:=hr.rL hM l3
   rw [l3] at k1; injection k1 with k1; subst k1
   rw [l6] at k2; injection k2 with k2; injection k2 with k2 k2'
   subst k2; subst k2'
   have hrow:=pN (b:=b) k3 k4 k5
   rw [Nat.sub_zero] at l5
   rw [Nat.zero_add] at l7
   generalize hcs:row.toList.take (xs.length*sz0)=cs at hrow
   have hcl:cs.length=xs.length*sz0:=by rw [<-hcs]; simp; omega
   have hat:∀p v,cs[p]?=some v->row[p]?=some v:=fun p v hp=>by
    have hlt:p<xs.length*sz0:=by rw [<-hcl]; exact ak hp
    rw [<-hcs,List.getElem?_take_of_lt hlt] at hp; simpa using hp
   obtain ⟨m,rfl⟩:∃m:Nat,i=m:=⟨i.toNat,(Int.toNat_of_nonneg (by assumption)).symm⟩
   simp only [Int.toNat_natCast] at hin ⊢
   unfold bP at hroom
   have hbig:xs.length+1<=2 ^ 44:=Nat.le_trans (Nat.le_mul_of_pos_right _ hby) hroom
   have hvl:us.length=sz0:=by simpa using hul
   have hvb:vb≠b:=by
    rintro rfl
    obtain ⟨s,n,hs1,_⟩:=(hcell 0 _ (List.getElem?_eq_getElem (by omega))).2.ids id hid l3
    rw [hM] at hs1; cases hs1
   rw [Nat.sub_zero,Nat.zero_mul]
   refine (hI b xs.length cap m vb voff vc cs us w row t0 hin l5 (by omega) (by omega) hvb hcl hvl l6 l7 hat (fun p v hp=>(hcell p v hp).1) (fun v hv=>?_) hone).mono ?_
   ·obtain ⟨p,hp⟩:=List.getElem?_of_mem hv
    have hp':p<(dX xs).length:=by rw [hrow.1]; exact ak hp
    exact bX.one (hrow.2 p _ v (List.getElem?_eq_getElem hp') hp)
   ·rintro e w' ⟨b',cap',row',t',rfl,d1,d2,d3,d4,q,d5⟩
    have hwd:wid (xs.take m++el::xs.drop m) sz0:=gr (nY k4) (fun y hy=>by
     rcases List.mem_cons.1 hy with rfl|hy
     ·exact hel
     ·exact nW k4 y hy)
    have ec:RL w (gv j M w) (dX (xs.take m++el::xs.drop m)) (cs.take (m*sz0)++(us++cs.drop (m*sz0))):=by
     rw [gQ,gR,j9 m k4,lP m k4]
     have hrl':RL w (gv j M w) el.cells us:=by simpa [dX] using hrl
     exact (hrow.take _).append (hrl'.append (hrow.drop _))
    have hlen:(xs.take m++el::xs.drop m).length=xs.length+1:=by simp; omega
    have hpl:(cs.take (m*sz0)++(us++cs.drop (m*sz0))).length=(xs.length+1)*sz0:=by rw [<-ec.1,dk hwd,hlen]
    rw [cF]
    rcases d5 with ⟨rfl,rfl,d6,d7⟩|⟨d6,d7⟩
    ·have hput:=pM (ver':=v0+1) (xs':=xs.take m++el::xs.drop m) hr hM l3 q d7 l6 d2 d6 (by omega) (fun h=>by omega) hwd ec (fun p hp=>d4 p (by rw [<-hpl]; exact hp))
     refine ⟨_,j,rfl,hput.1,hput.2,.bu (.inl ⟨b',0,cap',rfl,by omega⟩) (by simpa using hid) (fun bx hbx=>by rw [bf (ak hM)] at hbx; injection hbx with hbx; subst hbx; rfl) fun sz' v' ys hx=>?_⟩
     rw [bf (ak hM)] at hx; injection hx with hx; injection hx with e1 e2 e3
     subst e1; subst e2; subst e3
     exact ⟨Nat.le_refl _,fun _=>⟨rfl,Nat.zero_le _,by omega,.inr ⟨b',cap',row',t',l3,by simp,by omega,d2,by rw [Nat.zero_add]; exact d3⟩⟩⟩
    ·have hrel:=Rel.mT (ver':=v0+1) (xs':=xs.take m++el::xs.drop m) hM hr q d7 d6 (lt_of_block d2) (by omega) (fun j' M' hx=>gk d2 hwd (ec.mono hx.cW) (fun p hp=>d4 p (by rw [<-hpl]; exact hp)))
     have hext:=Ext.mT (j:=j) (ver':=v0+1) (xs':=xs.take m++el::xs.drop m) hM q d7 d6 (by omega)
     refine ⟨_,_,rfl,hrel,hext,.bu (.inl ⟨b',0,cap',rfl,by omega⟩) (by simpa using hid) (fun bx hbx=>by rw [bf (ak hM)] at hbx; injection hbx with hbx; subst hbx; rfl) fun sz' v' ys hx=>?_⟩
     rw [bf (ak hM)] at hx; injection hx with hx; injection hx with e1 e2 e3
     subst e1; subst e2; subst e3
     exact ⟨Nat.le_refl _,fun _=>⟨rfl,Nat.zero_le _,by omega,.inr ⟨b',cap',row',t',by simp [cH],by simp,by omega,d2,by rw [Nat.zero_add]; exact d3⟩⟩⟩
  ·cases h
 ·rename_i i tk el
  obtain ⟨hc,h⟩:=bc h
  injection h with h; subst h
  obtain ⟨rfl,hel⟩:=hc
  refine fZ.call ?_
  intro j w vs hr hG hl hv
  obtain ⟨u1,u2,u3,rfl⟩:=xh hl
  have h2:=(hv 1 _ u2 rfl rfl).cg
  subst h2
  have h3:=(hv 2 _ u3 rfl rfl).pD
  have hwe:wid [el] sz:=fun y hy=>by rw [List.mem_singleton.1 hy]; exact hel
  obtain ⟨A,vc,rfl,_,h4⟩:=ia h3 hwe
  obtain ⟨vb,voff,rfl,us,hrl,hul,hone,hcell⟩:=h4.resolve_left (by simp)
  obtain ⟨B,rfl⟩:=(hv 0 _ u1 rfl rfl).vR
  have hvl:us.length=sz:=by simpa using hul
  refine (h0 B vb voff vc us w #[] hvl (fun p v hp=>(hcell p v hp).1) hone).mono ?_
  rintro e w' ⟨b',cap',row',t',rfl,d1,d2,d3,d4,q,d5⟩
  have hbk:w.heap.size<=b'/\∀b0,b0<w.heap.size->w'.heap[b0]?=w.heap[b0]?:=by
   rcases d5 with ⟨rfl,_,_,d7⟩|d5
   ·exact ⟨Nat.le_refl _,fun b0 hb0=>d7 b0 (Nat.ne_of_lt hb0) hb0⟩
   ·exact d5
  have hob:∀b,some b'=some b->w.heap.size<=b/\b<w'.heap.size:=fun b h=>by injection h with h; subst h; exact ⟨hbk.1,lt_of_block d2⟩
  have ext:Ext j M w (cH j M.length (some b')) (M++[.arr sz 0 [el]]) w':=Ext.push (fun b h=>(hob b h).1) q hbk.2
  refine ⟨_,cH j M.length (some b'),rfl,hr.push hob q hbk.2 (fun h=>by cases h) (fun sz n b h _=>by cases h) (fun sz0 v0 xs0 he=>?_),ext,?_⟩
  ·injection he with e1 e2 e3
   subst e1; subst e3
   refine .inr ⟨b',row',t',rfl,d2,by simp at d1 d3 ⊢; exact Nat.le_trans (Nat.le_mul_of_pos_left _ (by omega)) d3,hwe,fun j' M' hx q x k c hx' hk=>?_⟩
   obtain ⟨vs,t,a1,a2,a3,a4⟩:=gk (j':=j') (M':=M') d2 hwe (hrl.mono hx.cW) (fun p hp=>by have:=d4 p (by omega); simpa using this)
   rw [d2] at a1; injection a1 with a1; injection a1 with a1 a1'
   subst a1
   exact a4 q x k c hx' hk
  ·refine .bu (.inl ⟨b',0,cap',rfl,by omega⟩) (by simp) (fun bx hbx=>by rw [gL] at hbx; injection hbx with hbx; subst hbx; rfl) fun sz' v' xs hx=>?_
   rw [gL] at hx; injection hx with hx; injection hx with e1 e2 e3
   subst e1; subst e2; subst e3
   exact ⟨Nat.le_refl _,fun _=>⟨rfl,Nat.zero_le _,Nat.le_refl _,.inr ⟨b',cap',row',t',by simp [cH],by simp,by omega,d2,by rw [Nat.zero_add]; exact d3⟩⟩⟩
 ·cases h
end
end Go.Abs
namespace Go.Proofs.YtdbadpnkhaepnaaGreatDoor
section
open Go Go.Abs Go.RowKit Go.Lib
def zb {P:Program} (w:World) {o:Oper} {a:Act} {K:Act->World->Prop} {Q:Exit->Act->World->Prop} (d s:Operand) (t t':TypeId)
  (ho:o.op = .call { callee := .builtin .copy,args := #[d,s],argTypes := #[t,t'] }) (v u:Value) (hd:a.eval d=v) (hs:a.eval s=u) {v':Value} {w':World}
  (hr:(Builtin.copy_ #[t,t'] o.type #[v,u]).run P w = .ok v' w') (h:K (a.put o.dst v') w'):o.wp P a w K Q:=by
 unfold Oper.wp execOp
 simp only [ho,resolve,invoke,builtin,Sem.run_bind,Sem.run_pure,Result.andThen_ok,List.map_toArray,List.map_cons,List.map_nil,hd,hs,hr]
 exact h
def cK {P:Program} (w:World) {ops:Array Oper} {rest:List Oper} {o:Oper} {a:Act} {Q:Exit->Act->World->Prop} (hgd:o.guard=none) (d s:Operand) (t t':TypeId)
  (ho:o.op = .call { callee := .builtin .copy,args := #[d,s],argTypes := #[t,t'] }) (v u:Value) (hd:a.eval d=v) (hs:a.eval s=u) {v':Value} {w':World}
  (hr:(Builtin.copy_ #[t,t'] o.type #[v,u]).run P w = .ok v' w') (h:wpList P ops Q rest (a.put o.dst v') w'):wpList P ops Q (o::rest) a w :=
 wpList_plain hgd fun _ hK=>zb w d s t t' ho v u hd hs hr (hK _ _ h)
def fF {P:Program} {ops:Array Oper} {o:Oper} {a:Act} {w:World} {K:Act->World->Prop} {Q:Exit->Act->World->Prop} {E:Prop}
  (hg:o.guard=none) (d x:Operand) (dT sT:TypeId) (hop:o.op=Op.call { callee:=Callee.builtin Builtin.copy,args := #[d,x],argTypes := #[dT,sT] })
  (v u:Value) (hd:a.eval d=v) (hx:a.eval x=u) {v':Value} {w':World} (hr:(Builtin.copy_ #[dT,sT] o.type #[v,u]).run P w = .ok v' w') (hK:K (a.put o.dst v') w') :
  if Region.wanted o (yielded ops a.tmps)=true then Oper.wp P o a w K Q else E:=by
 rw [if_pos (show Region.wanted o (yielded ops a.tmps)=true by simp [Region.wanted,hg])]
 exact zb w d x dT sT hop v u hd hx hr hK
def ku {P:Program} {ops:Array Oper} {o:Oper} {a:Act} {w:World} {K:Act->World->Prop} {Q:Exit->Act->World->Prop} {E:Prop}
  (hg:o.guard=none) (d x:Operand) (dT sT:TypeId) (hop:o.op=Op.call { callee:=Callee.builtin Builtin.append,args := #[d,x],argTypes := #[dT,sT] })
  (v u:Value) (hd:a.eval d=v) (hx:a.eval x=u) {v':Value} {w':World} (hr:(Builtin.append_ #[dT,sT] o.type #[v,u]).run P w = .ok v' w') (hK:K (a.put o.dst v') w') :
  if Region.wanted o (yielded ops a.tmps)=true then Oper.wp P o a w K Q else E:=by
 rw [if_pos (show Region.wanted o (yielded ops a.tmps)=true by simp [Region.wanted,hg])]
 exact wp_append_run w d x dT sT hop v u hd hx v' w' hr hK
section
variable {P:Program} {S E:TypeId} {k by' f fo:Nat} {z:Value}
def qb (w:World) (dT sT ty elem:TypeId) (k b o dLen dCap:Nat) (a:Addr) (sLen sCap:Nat) (cs:List Value) (m:Nat)
  (hu:P.underlying dT=some (.slice elem)) (hs:(P.info? elem).map (·.size)=some k) (hm:m=Nat.min sLen dLen) (hn:cs.length=m*k)
  (hsrc:∀j v,cs[j]?=some v->w.cell? (a.add j)=some v) (hc:∀j,j<cs.length->(w.cell? ⟨b,o+j,none⟩).isSome=true) (hf:∀j,j<cs.length->w.frozen? ⟨b,o+j,none⟩=false) (h1:∀v∈cs,v.oneCell'=true) :
  (Builtin.copy_ #[dT,sT] ty #[.slice (some ⟨b,o,none⟩) dLen dCap,.slice (some a) sLen sCap]).run P w = .ok (goInt m) (w.setCells b o cs):=by
 have hl:=run_loadCells_list (P:=P) w a cs hsrc
 have hst:=run_storeCells_cells (P:=P) b o cs 0 w (by simpa using hc) (by simpa using hf) h1
 cases hq:P.info? elem with
 |none=>simp [hq] at hs
 |some i =>
  have hi:i.size=k:=by simpa [hq] using hs
  simp only [Nat.add_zero] at hst
  rw [hn] at hl
  subst hm
  simp [Builtin.copy_,run_underlying hu,Builtin.lenOf,Builtin.firstCells,sizeOf,typeInfo,hq,hi,hl,hst]
def w9 (w:World) (tS tR e:TypeId) (ht:P.underlying tS=some (.slice e)) (size:Nat) (hz:∀w,(Go.sizeOf e).run P w = .ok size w)
  (a b:Addr) (la ca lb cb:Nat) (hne:a.block≠b.block) (tA tB:TypeId) (kA:Nat) (vs:Array Value) (hsa:w.shape? a.block=some (tA,kA+1)) (hb:w.heap[b.block]?=some (.cells vs tB (0,0))) :
  (Extern.SlicesOverlaps.overlaps #[tS,tS] #[tR] #[.slice (some a) la ca,.slice (some b) lb cb]).run P w = .ok (.bool false) w:=by
 have hnb:(a.block != b.block)=true:=by simpa using hne
 have hnb':(a.block==b.block)=false:=by simpa using hne
 have hsb:w.shape? b.block=some (tB,vs.size):=by simp [World.shape?,hb]
 have hfb:∀o s,w.frozen? ⟨b.block,o,s⟩=false:=fun o s=>by simp [World.frozen?,hb]
 have hfb':w.frozen? b=false:=by simp [World.frozen?,hb]
 rw [show Extern.SlicesOverlaps.overlaps #[tS,tS] #[tR] #[.slice (some a) la ca,.slice (some b) lb cb]=(underlying tS >>= _) from rfl]
 by_cases h0:la=0\/lb=0\/size=0
 ·simp [run_underlying ht,hz,h0]
 ·cases hfa:w.frozen? a with
  |true=>simp [run_underlying ht,hz,h0,hnb,hnb',frozen,noView,viewAt,mayBeOne,stringish,shape,Sem.run,hsa,hsb,hfa,hfb,hfb']
  |false =>
   cases hfe:w.frozen? { block:=a.block,off:=kA+1 } <;>
   simp [run_underlying ht,hz,h0,hnb,hnb',frozen,noView,viewAt,mayBeOne,stringish,shape,Sem.run,hsa,hsb,hfa,hfb,hfb',hfe]
def vm (w:World) (t e ty:TypeId) (ht:P.underlying t=some (.slice e)) {i:TypeInfo} (hi:P.info? e=some i) {z:Value} (hz:i.zero=some z) (b o n c:Nat) (hn:0<n)
  (zs:List Value) (hzs:zs=(Builtin.zeroCells z.cells n).toList) (hc:∀j,j<zs.length->(w.cell? ⟨b,o+j,none⟩).isSome=true) (hf:∀j,j<zs.length->w.frozen? ⟨b,o+j,none⟩=false) (h1:∀v∈zs,v.oneCell'=true) :
  (Builtin.clear_ #[t] ty #[.slice (some ⟨b,o,none⟩) n c]).run P w = .ok (.tuple #[]) (w.setCells b o zs):=by
 have hst:=run_storeCells_cells (P:=P) b o zs 0 w (by simpa using hc) (by simpa using hf) h1
 simp only [Nat.add_zero] at hst
 rw [hzs] at hst
 obtain ⟨m,rfl⟩:∃m,n=m+1:=⟨n-1,by omega⟩
 rw [hzs]
 simp [Builtin.clear_,run_underlying ht,zeroValue,typeInfo,hi,hz,hst]
def jd (b:Nat) (vs:List Value) (o:Nat) (w:World) (h:∀j,j<vs.length->(w.cell? ⟨b,o+j,none⟩).isSome=true) (k:Nat) (hk:(w.cell? ⟨b,k,none⟩).isSome=true):((w.setCells b o vs).cell? ⟨b,k,none⟩).isSome=true:=by
 by_cases hin:o<=k/\k<o+vs.length
 ·have:=World.cell?_setCells_in b vs o w h (k-o) (by omega)
  rw [show o+(k-o)=k by omega] at this
  rw [this]
  simp
 ·rw [World.cell?_setCells_out b vs o w ⟨b,k,none⟩ (fun _ _=>by show k<o\/o+vs.length<=k; omega)]
  exact hk
structure El (P:Program) (S E:TypeId) (k by':Nat) (z:Value):Prop where
 u:P.underlying S=some (.slice E)
 i:∃i0,P.info? E=some i0/\i0.size=k/\i0.zero=some z/\i0.bytes=by'
 c:z.cells.size=k
 o:∀v∈z.cells.toList,v.oneCell'=true
 p:0<k
 b:0<by'
def El.of (hu:P.underlying S=some (.slice E)) (hi:(P.info? E).map (fun i=>(i.size,i.zero,i.bytes))=some (k,some z,by')) (hc:z.cells.size=k/\z.cells.toList.all (·.oneCell')=true) (hp:0<k) (hb:0<by'):El P S E k by' z:=by
 obtain ⟨i0,h1,h2⟩:=Option.map_eq_some_iff.1 hi
 injection h2 with h2 h3
 injection h3 with h3 h4
 exact ⟨hu,⟨i0,h1,h2,h3,h4⟩,hc.1,List.all_eq_true.1 hc.2,hp,hb⟩
def El.s (h:El P S E k by' z):(P.info? E).map (·.size)=some k:=by
 obtain ⟨i0,h1,h2,_⟩:=h.i
 rw [h1]; simp [h2]
def El.so (h:El P S E k by' z) (w:World):(Go.sizeOf E).run P w = .ok k w:=by
 obtain ⟨i0,h1,h2,_⟩:=h.i
 simp [sizeOf,typeInfo,h1,h2]
def El.q (h:El P S E k by' z):(∀(w:World) (a:Option Addr) (n c n' c':Nat),(binOp .eql S (.slice a n c) (.slice none n' c')).run P w = .ok (.bool a.isNone) w)/\∀w,Sem.run P (underlying S) w = .ok (TypeDesc.slice E) w :=
 ⟨fun w a n c n' c'=>Lib.run_eql_slice_nil w _ _ a n c n' c' h.u,run_underlying h.u⟩
def oe (P:Program) (f:Nat) (S E:TypeId):Prop:=∀(b off n c:Nat) (w:World) (K:Value->World->Prop),
 (∀ {ops:Array Oper} {rest:List Oper} {o:Oper} {a:Act} {Q:Exit->Act->World->Prop},o.guard=none->∀s x,o.op = .call { callee := .builtin .append,args := #[s,x],argTypes := #[S,S] }->a.eval s = .slice (some ⟨w.heap.size,0,none⟩) 0 0 ->
  a.eval x = .slice (some ⟨b,off,none⟩) n c->(∀v' w1,K v' w1->wpList P ops Q rest (a.put o.dst v') w1)->wpList P ops Q (o::rest) a (w.alloc (.cells #[] E))) ->
 Calls P f #[.slice (some ⟨b,off,none⟩) n c] w fun e w'=>∃v',e = .returned v'/\K v' w'
def oc (P:Program) (f:Nat) (S E:TypeId):Prop:=∀(A:Option Addr) (c:Nat) (w:World),
 (∀ty a,(Builtin.append_ #[S,S] ty #[.slice (some ⟨w.heap.size,0,none⟩) 0 0,.slice (some a) 0 c]).run P (w.alloc (.cells #[] E)) = .ok (.slice (some ⟨w.heap.size,0,none⟩) 0 0) (w.alloc (.cells #[] E))) ->
 Calls P f #[.slice A 0 c] w fun e w'=>(∃B,e = .returned (.slice B 0 0))/\(w'=w\/w'=w.alloc (.cells #[] E))
def kD (h:El P S E k by' z) (hw:oe P f S E):rG P f E k by':=by
 intro b off n c news w hl hn hbig hc h1
 obtain ⟨i0,g1,g2,g3,g4⟩:=h.i
 refine (hw b off n c w (fun v' w'=>w'.ownsRow w.heap.size E k v' n news/\v' ≠ .slice none 0 0/\Below w.heap.size w w') ?_).mono fun e w' ⟨v',e1,e2⟩=>⟨v',e1,e2⟩
 intro ops rest o a Q hg s x ho hs hx hK
 refine wpList_append_own _ hg s x S ho w.heap.size E i0 z k by' h.u g1 g3 g2 g4 h.c h.p _ _ _ hs (World.ownsRow_made w #[] 0 (Nat.le_refl _) (Nat.zero_le _) (by simp)) ⟨b,off,none⟩ n c news hx hl (fun j u hj=>?_) h1 (by rw [Nat.zero_add]; exact hn) (by rw [Nat.zero_add]; exact hbig) (by simp) ?_
 ·rw [Addr.add_lit]
  exact Lib.cell?_alloc_some _ (hc j u hj)
 ·intro v' w1 hown hgrow hnil
  refine hK v' w1 ⟨by simpa using hown,by simpa using hnil,?_⟩
  exact ((Below.refl _ w).alloc (Nat.le_refl _) _).grown hgrow (by simp) (by intro k hk; simp [Value.ownBlock] at hk; omega)
def jj (h:El P S E k by' z) (hw:oc P f S E):o7 P f:=by
 intro A c w
 refine (hw A c w fun ty a=>?_).mono fun e w' ⟨h1,h2⟩=>⟨h1,?_⟩
 ·simp [Builtin.append_,run_underlying h.u,h.so,Builtin.lenOf,Builtin.firstCells,loadCells,loadCellsFrom,storeCells]
 ·rcases h2 with rfl|rfl
  ·exact Below.refl _ _
  ·exact (Below.refl _ w).alloc (Nat.le_refl _) _
def HK (P:Program) (f:Nat) (S:TypeId) (k:Nat):Prop:=∀(blk cap i j n:Nat) (A:Addr) (w W1 W2:World),(if cap=j then some (⟨blk,0,none⟩:Addr) else some ⟨blk,j*k,none⟩)=some A ->
 (∀ty,(Builtin.append_ #[S,S] ty #[.slice (some ⟨blk,0,none⟩) i cap,.slice (some A) (n-j) (cap-j)]).run P w.drew = .ok (.slice (some ⟨blk,0,none⟩) (i+(n-j)) cap) W1) ->
 (∀ty,(Builtin.clear_ #[S] ty #[.slice (some ⟨blk,(i+(n-j))*k,none⟩) (n-(i+(n-j))) (cap-(i+(n-j)))]).run P W1 = .ok (.tuple #[]) W2) ->
 n<=cap->n<=9223372036854775807->i<n->i<=cap->i<j->j<=cap->j<=n ->
 Calls P f #[.slice (some ⟨blk,0,none⟩) n cap,.int .i64 i,.int .i64 j] w fun e w'=>e = .returned (.slice (some ⟨blk,0,none⟩) (i+(n-j)) cap)/\w'=W2
def zn (h:El P S E k by' z) (hw:HK P f S k):RV P f k z.cells.toList:=by
 intro blk cap i j n cs w hl hcap hm hi hj hH
 obtain ⟨i0,g1,g2,g3,g4⟩:=h.i
 have a1:j*k=i*k+k:=by rw [hj,Nat.succ_mul]
 have a2:j*k<=n*k:=Nat.mul_le_mul_right _ (by omega)
 have a3:(n-j)*k=n*k-j*k:=Nat.sub_mul ..
 have a4:(n-1)*k=n*k-k:=by rw [Nat.sub_mul,Nat.one_mul]
 obtain ⟨news,hnews⟩:∃news,news=cs.drop (j*k):=⟨_,rfl⟩
 have hlen:news.length=(n-j)*k:=by rw [hnews,List.length_drop,hl,a3]
 have hsome:∀p,p<n*k->(w.cell? ⟨blk,p,none⟩).isSome=true/\w.frozen? ⟨blk,p,none⟩=false:=fun p hp=>by
  obtain ⟨h1,h2,_⟩:=hH p _ (List.getElem?_eq_getElem (by omega))
  exact ⟨by rw [h1]; rfl,h2⟩
 obtain ⟨A,hA,hsrc⟩:∃A:Addr,(if cap=j then some (⟨blk,0,none⟩:Addr) else some ⟨blk,j*k,none⟩)=some A/\∀t u,news[t]?=some u->w.drew.cell? (A.add t)=some u:=by
  by_cases hc:cap=j
  ·refine ⟨⟨blk,0,none⟩,by simp [hc],fun t u hu=>?_⟩
   have e0:n-j=0:=by omega
   have h0:news.length=0:=by rw [hlen,e0,Nat.zero_mul]
   rw [List.length_eq_zero_iff.1 h0] at hu
   simp at hu
  ·refine ⟨⟨blk,j*k,none⟩,by simp [hc],fun t u hu=>?_⟩
   rw [hnews,List.getElem?_drop] at hu
   rw [Addr.add_lit]
   exact (hH _ _ hu).1
 have s2:∀u∈news,u.oneCell'=true:=by
  intro u hu
  rw [hnews] at hu
  obtain ⟨p,hp⟩:=List.getElem?_of_mem (List.mem_of_mem_drop hu)
  exact (hH p u hp).2.2
 have hW1c:∀p,p<n*k->((w.drew.setCells blk (i*k) news).cell? ⟨blk,p,none⟩).isSome=true:=fun p hp =>
  jd blk news _ w.drew (fun q hq=>(hsome (i*k+q) (by rw [hlen] at hq; omega)).1) p (hsome p hp).1
 have hW1f:∀p,p<n*k->(w.drew.setCells blk (i*k) news).frozen? ⟨blk,p,none⟩=false:=fun p hp=>by
  rw [World.frozen?_setCells]
  exact (hsome p hp).2
 have hin:i+(n-j)=n-1:=by omega
 have hzl:z.cells.toList.length=k:=by simp [h.c]
 have hzz:∀q,q<z.cells.toList.length->(n-1)*k+q<n*k:=fun q hq=>by
  have:k<=n*k:=Nat.le_mul_of_pos_left _ (by omega)
  omega
 refine (hw blk cap i j n A w (w.drew.setCells blk (i*k) news) ((w.drew.setCells blk (i*k) news).setCells blk ((n-1)*k) z.cells.toList) hA (fun ty=>?_) (fun ty=>?_) hcap hm hi (by omega) (by omega) (by omega) (by omega)).mono ?_
 ·have hr:=run_append_room_cells (P:=P) w.drew S ty E i0 h.u g1 blk 0 i cap A (n-j) (cap-j) news (by rw [g2,hlen]) hsrc s2 (by omega) (fun q hq=>by rw [g2,Nat.zero_add]; exact (hsome _ (by omega)).1) (fun q hq=>by rw [g2,Nat.zero_add]; exact (hsome _ (by omega)).2)
  rw [g2,Nat.zero_add] at hr
  exact hr
 ·rw [hin]
  exact vm _ _ _ ty h.u g1 g3 blk _ _ _ (by omega) _ (by rw [show n-(n-1)=1 by omega,iz]; simp) (fun q hq=>hW1c _ (hzz q hq)) (fun q hq=>hW1f _ (hzz q hq)) h.o
 ·rintro e w' ⟨rfl,rfl⟩
  exact ⟨by rw [hin],by rw [hnews]⟩
def sW (P:Program) (f fo:Nat) (S:TypeId) (k:Nat):Prop:=∀(b n c i vb voff vc:Nat) (vs:List Value) (w W1:World),
 (∀lb cb,(callFunc fo #[.slice (some ⟨vb,voff,none⟩) 1 vc,.slice (some ⟨b,(i+1)*k,none⟩) lb cb]).run P w = .ok (.value (.bool false)) w) ->
 (∀ty dc sc,(Builtin.copy_ #[S,S] ty #[.slice (some ⟨b,(i+1)*k,none⟩) (n-i) dc,.slice (some ⟨b,i*k,none⟩) (n+1-i) sc]).run P w.drew = .ok (goInt ((n-i:Nat):Int)) W1) ->
 (∀W:World,(∀x,W.cell? x=W1.cell? x)->(∀x,W.frozen? x=W1.frozen? x)->∀ty dc,(Builtin.copy_ #[S,S] ty #[.slice (some ⟨b,i*k,none⟩) (n+1-i) dc,.slice (some ⟨vb,voff,none⟩) 1 vc]).run P W = .ok (goInt 1) (W.setCells b (i*k) vs)) ->
 i<n->n+1<=c->n+1<=9223372036854775807->¬((i:Int)=(n:Int))->IntKind.i64.wrap ((i:Int)+1)=(i:Int)+1->(0:Int)<=(i:Int)+1->i<=n->((i:Int)+1).toNat=i+1->¬(c=i+1)->(i:Int)<=(n:Int)+1->¬(c=i) ->
 Calls P f #[.slice (some ⟨b,0,none⟩) n c,.int .i64 i,.slice (some ⟨vb,voff,none⟩) 1 vc] w fun e w'=>e = .returned (.slice (some ⟨b,0,none⟩) (n+1) c)/\w'=W1.setCells b (i*k) vs
def Cq (P:Program) (f:Nat) (S:TypeId):Prop:=∀(base:Option Addr) (n c vb voff vc:Nat) (V:Value) (w W:World),
 (∀ty,(Builtin.append_ #[S,S] ty #[.slice base n c,.slice (some ⟨vb,voff,none⟩) 1 vc]).run P w = .ok V W)->n<=c->n+1<=9223372036854775807->(base=none->n=0) ->
 Calls P f #[.slice base n c,.int .i64 n,.slice (some ⟨vb,voff,none⟩) 1 vc] w fun e w'=>e = .returned V/\w'=W
def xK (P:Program) (f:Nat) (S E:TypeId) (k:Nat):Prop:=∀(b n c i G vb voff vc:Nat) (ROW:Array Value) (vs ds:List Value) (w:World),
 (∀ty,(Builtin.append_ #[S,3] ty #[.slice (some ⟨b,0,none⟩) i c,.int .i64 ((n:Int)+1-(i:Int))]).run P w = .ok (.slice (some ⟨w.heap.size,0,none⟩) (n+1) G) (w.drew.alloc (.cells ROW E))) ->
 (∀W:World,(∀x,W.cell? x=(w.drew.alloc (.cells ROW E)).cell? x)->(∀x,W.frozen? x=(w.drew.alloc (.cells ROW E)).frozen? x)->∀ty dc,(Builtin.copy_ #[S,S] ty #[.slice (some ⟨w.heap.size,i*k,none⟩) (n+1-i) dc,.slice (some ⟨vb,voff,none⟩) 1 vc]).run P W = .ok (goInt 1) (W.setCells w.heap.size (i*k) vs)) ->
 (∀W:World,(∀x,W.cell? x=((w.drew.alloc (.cells ROW E)).setCells w.heap.size (i*k) vs).cell? x)->(∀x,W.frozen? x=((w.drew.alloc (.cells ROW E)).setCells w.heap.size (i*k) vs).frozen? x)->∀ty dc sc,
  (Builtin.copy_ #[S,S] ty #[.slice (some ⟨w.heap.size,(i+1)*k,none⟩) (n+1-(i+1)) dc,.slice (some ⟨b,i*k,none⟩) (n-i) sc]).run P W = .ok (goInt ((n-i:Nat):Int)) (W.setCells w.heap.size ((i+1)*k) ds)) ->
 (∀x,((w.alloc (.cells ROW E)).drew).cell? x=(w.drew.alloc (.cells ROW E)).cell? x)->(∀x,((w.alloc (.cells ROW E)).drew).frozen? x=(w.drew.alloc (.cells ROW E)).frozen? x) ->
 (∀x,(((w.alloc (.cells ROW E)).drew.setCells w.heap.size (i*k) vs).drew).cell? x=((w.drew.alloc (.cells ROW E)).setCells w.heap.size (i*k) vs).cell? x) ->
 (∀x,(((w.alloc (.cells ROW E)).drew.setCells w.heap.size (i*k) vs).drew).frozen? x=((w.drew.alloc (.cells ROW E)).setCells w.heap.size (i*k) vs).frozen? x) ->
 i<n->n<=c->c<n+1->¬((i:Int)=(n:Int))->(c:Int)<(n:Int)+1->n+1<=G->G<=9223372036854775807->¬(G=i)->¬(G=i+1)->¬(c=i)->IntKind.i64.wrap ((i:Int)+1)=(i:Int)+1->(0:Int)<=(i:Int)+1->i<=n->((i:Int)+1).toNat=i+1->(i:Int)<=(n:Int)->n+1<=140737488355328 ->
 Calls P f #[.slice (some ⟨b,0,none⟩) n c,.int .i64 i,.slice (some ⟨vb,voff,none⟩) 1 vc] w fun e w'=>e = .returned (.slice (some ⟨w.heap.size,0,none⟩) (n+1) G) /\
  w'=(((w.alloc (.cells ROW E)).drew.setCells w.heap.size (i*k) vs).drew).setCells w.heap.size ((i+1)*k) ds
def OD {w:World} {vb voff:Nat} {v:Value} (h0:w.cell? ⟨vb,voff,none⟩=some v):∃tA kA,w.shape? vb=some (tA,kA+1):=by
 unfold World.cell? at h0
 unfold World.shape?
 split at h0
 ·rename_i cc ee ff hb
  simp only [hb]
  simp at h0
  have:=(Array.getElem?_eq_some_iff.1 h0).1
  exact ⟨ee,cc.size-1,by simp; omega⟩
 ·cases h0
def sj (h:El P S E k by' z) (h3:P.underlying 3=some (.int .i64)) (ho:∀args w,(callFunc fo args).run P w=((Extern.SlicesOverlaps.overlaps #[S,S] #[4] args).run P w).andThen fun v w' => .ok (.value v) w')
  (hS:sW P f fo S k) (hE:Cq P f S) (hG:xK P f S E k):HN P f k by':=by
 intro b n c i vb voff vc cs vs w row tB hi hnc hbig h63 hvb hcl hvl hw hrow hat hvs h1c h1v
 obtain ⟨i0,hi0,hzs,hz0,hzb⟩:=h.i
 have hk:=h.p
 have hcs:∀(p:Nat) (v:Value),cs[p]?=some v->w.cell? ⟨b,p,none⟩=some v:=fun p v hp=>by simp [World.cell?,hw,hat p v hp]
 have hfz:∀j,w.frozen? ⟨b,j,none⟩=false:=fun j=>by simp [World.frozen?,hw]
 have a1:(n+1)*k=n*k+k:=Nat.succ_mul ..
 have a2:(i+1)*k=i*k+k:=Nat.succ_mul ..
 have a3:(n-i)*k=n*k-i*k:=Nat.sub_mul ..
 have a4:i*k<=n*k:=Nat.mul_le_mul_right _ hi
 have hdl:(cs.drop (i*k)).length=(n-i)*k:=by rw [List.length_drop,hcl,a3]
 have hv0:=hvs 0 _ (List.getElem?_eq_getElem (by omega))
 have hle:n+1<=140737488355328:=Nat.le_trans (Nat.le_mul_of_pos_right _ h.b) hbig
 have hw1:IntKind.i64.wrap ((i:Int)+1)=(i:Int)+1:=by rw [IntKind.wrap_i64]; omega
 have hmin:1=Nat.min 1 (n+1-i):=by simp only [Nat.min_def]; split<;>omega
 by_cases hroom:n+1<=c
 ·have hr0:(n+1)*k<=row.size:=Nat.le_trans (Nat.mul_le_mul_right _ hroom) hrow
  have hsp:∀j,j<(n+1)*k->(w.cell? ⟨b,j,none⟩).isSome=true:=fun j hj=>by
   simp [World.cell?,hw,Array.getElem?_eq_getElem (show j<row.size by omega)]
  by_cases hin:i<n
  ·have a5:(i+1)*k<=n*k:=Nat.mul_le_mul_right _ hin
   obtain ⟨tA,kA,hsa⟩:=OD hv0
   refine (hS b n c i vb voff vc vs w (w.drew.setCells b ((i+1)*k) (cs.drop (i*k))) (fun lb cb=>?_) (fun ty dc sc=>?_) (fun W hWc hWf ty dc=>?_) hin hroom h63 (by omega) hw1 (by omega) (by omega) (by omega) (by omega) (by omega) (by omega)).mono ?_
   ·rw [ho,w9 w S 4 E h.u k h.so ⟨vb,voff,none⟩ ⟨b,(i+1)*k,none⟩ 1 vc lb cb hvb tA tB kA row hsa hw]
    rfl
   ·exact qb w.drew _ _ ty E k b ((i+1)*k) (n-i) dc ⟨b,i*k,none⟩ (n+1-i) sc (cs.drop (i*k)) (n-i) h.u h.s (by simp only [Nat.min_def]; split<;>omega) hdl
     (fun j v hj=>by rw [Addr.add_lit]; exact hcs (i*k+j) v (by rwa [List.getElem?_drop] at hj))
     (fun j hj=>hsp ((i+1)*k+j) (by omega)) (fun j hj=>hfz _) (fun v hv=>h1c v (List.mem_of_mem_drop hv))
   ·exact qb W _ _ ty E k b (i*k) (n+1-i) dc ⟨vb,voff,none⟩ 1 vc vs 1 h.u h.s hmin (by rw [hvl,Nat.one_mul])
     (fun j v hj=>by
      rw [Addr.add_lit,hWc,World.cell?_setCells_out b _ _ _ _ (fun h _=>absurd h hvb)]
      exact hvs j v hj)
     (fun j hj=>by rw [hWc]; exact jd b _ _ w.drew (fun j hj=>hsp ((i+1)*k+j) (by omega)) _ (hsp (i*k+j) (by omega)))
     (fun j hj=>by rw [hWf,World.frozen?_setCells]; exact hfz _) h1v
   ·rintro e w' ⟨he,hw'⟩
    exact Gw hin hroom hcl hvl hw hrow hat he hw'
  ·obtain rfl:i=n:=by omega
   refine (hE (some ⟨b,0,none⟩) i c vb voff vc (.slice (some ⟨b,0,none⟩) (i+1) c) w (w.setCells b (i*k) vs) (fun ty=>?_) hnc h63 (by simp)).mono ?_
   ·have hr:=run_append_room_cells (P:=P) w S ty E i0 h.u hi0 b 0 i c ⟨vb,voff,none⟩ 1 vc vs (by rw [hzs,hvl,Nat.one_mul]) (fun j u hj=>by rw [Addr.add_lit]; exact hvs j u hj) h1v hroom
     (fun j hj=>by rw [hzs,Nat.zero_add]; exact hsp _ (by omega)) (fun j hj=>hfz _)
    rw [hzs,Nat.zero_add] at hr
    exact hr
   ·rintro e w' ⟨he,hw'⟩
    exact Lm hroom hcl hvl hw hrow hat he hw'
 ·have hGc:=grownCap_ge w (n+1) c E
  by_cases hin:i<n
  ·have a5:(i+1)*k<=n*k:=Nat.mul_le_mul_right _ hin
   have hbw:b<w.heap.size:=lt_of_block hw
   have hvw:vb<w.heap.size:=block_lt_of_cell hv0
   have hik:i+(n+1-i)=n+1:=by omega
   have hold:(Builtin.firstCells i0.size i (.slice (some ⟨b,0,none⟩) i c)).run P w.drew = .ok (cs.take (i*k)).toArray w.drew:=by
    rw [hzs]
    exact run_firstCells_some w.drew k i ⟨b,0,none⟩ i c (cs.take (i*k)) (by rw [List.length_take]; omega) (fun j v hj=>by
     rw [Addr.add_lit,Nat.zero_add]
     rw [List.getElem?_take] at hj
     split at hj
     ·exact hcs j v hj
     ·cases hj)
   obtain ⟨ROW,hROW⟩:∃ROW:Array Value,ROW=(cs.take (i*k)).toArray++Builtin.zeroCells z.cells (n+1-i)++Builtin.zeroCells z.cells (grownCap w (n+1) c E-(n+1)):=⟨_,rfl⟩
   have hRl:(n+1)*k<=ROW.size:=by
    have e1:(n+1-i)*k=(n+1)*k-i*k:=Nat.sub_mul ..
    rw [hROW]
    simp only [Builtin.zeroCells,Array.size_append,Array.size_map,Array.size_range,h.c,List.size_toArray,List.length_take,hcl]
    omega
   have hN:∀j,j<(n+1)*k->((w.drew.alloc (.cells ROW E)).cell? ⟨w.heap.size,j,none⟩).isSome=true:=fun j hj=>by
    rw [World.cell?_alloc_at (w:=w.drew) ROW _ w.heap.size j rfl,Array.getElem?_eq_getElem (by omega)]; rfl
   have hNf:∀j,(w.drew.alloc (.cells ROW E)).frozen? ⟨w.heap.size,j,none⟩=false:=fun j=>World.frozen?_alloc_at (w:=w.drew) ROW _ w.heap.size j rfl
   have hG63:grownCap w (n+1) c E<=9223372036854775807:=by
    have:=grownCap_le_maxLen w (n+1) c E (by unfold maxLen; omega)
    unfold maxLen at this
    omega
   refine (hG b n c i (grownCap w (n+1) c E) vb voff vc ROW vs (cs.drop (i*k)) w (fun ty=>?_) (fun W hWc hWf ty dc=>?_) (fun W hWc hWf ty dc sc=>?_) (fun _=>rfl) (fun _=>rfl) (fun _=>rfl) (fun _=>rfl)
    hin hnc (by omega) (by omega) (by omega) hGc hG63 (by omega) (by omega) (by omega) hw1 (by omega) (by omega) (by omega) (by omega) hle).mono ?_
   ·have hr:=Lib.run_append_grow_zeros w S 3 ty E i0 _ .i64 .i64 h.u h3 hi0 hz0 (some ⟨b,0,none⟩) i c (cs.take (i*k)) hold (n+1-i) (by omega) (by omega) (by omega) (by omega)
     (by rw [hzb]; exact Nat.le_trans (Nat.mul_le_mul_right _ (by omega:n+1-i<=n+1)) (by omega)) (by rw [hzb,hik]; exact growslice_fits (by omega) hbig)
    rw [hik] at hr
    rw [show (n:Int)+1-(i:Int)=((n+1-i:Nat):Int) by omega,hROW]
    exact hr
   ·exact qb W _ _ ty E k w.heap.size (i*k) (n+1-i) dc ⟨vb,voff,none⟩ 1 vc vs 1 h.u h.s hmin (by rw [hvl,Nat.one_mul])
     (fun j v hj=>by rw [Addr.add_lit,hWc,World.cell?_alloc_past (w:=w.drew) _ vb _ hvw]; exact hvs j v hj)
     (fun j hj=>by rw [hWc]; exact hN (i*k+j) (by omega)) (fun j hj=>by rw [hWf]; exact hNf _) h1v
   ·exact qb W _ _ ty E k w.heap.size ((i+1)*k) (n+1-(i+1)) dc ⟨b,i*k,none⟩ (n-i) sc (cs.drop (i*k)) (n-i) h.u h.s (by simp only [Nat.min_def]; split<;>omega) hdl
     (fun j v hj=>by
      rw [Addr.add_lit,hWc,World.cell?_setCells_out _ _ _ _ _ (fun h _=>absurd h (by show b≠w.heap.size; omega)),World.cell?_alloc_past (w:=w.drew) _ b _ hbw]
      exact hcs (i*k+j) v (by rwa [List.getElem?_drop] at hj))
     (fun j hj=>by rw [hWc]; exact jd _ _ _ _ (fun t ht=>hN (i*k+t) (by omega)) _ (hN ((i+1)*k+j) (by omega)))
     (fun j hj=>by rw [hWf,World.frozen?_setCells]; exact hNf _) (fun v hv=>h1c v (List.mem_of_mem_drop hv))
   ·rintro e w' ⟨he,hw'⟩
    rw [hROW] at hw'
    exact Ll hk h.c hin hcl hvl hGc he hw'
  ·obtain rfl:i=n:=by omega
   refine (hE (some ⟨b,0,none⟩) i c vb voff vc _ w _ (fun ty=>run_append_grow_src w S S ty E i0 z h.u hi0 hz0 (some ⟨b,0,none⟩) i c cs ?_ _ 1 vs ?_ (by omega) (by omega) (by rw [hzb]; exact growslice_fits (by omega) hbig)) hnc h63 (by simp)).mono ?_
   ·rw [hzs]
    exact run_firstCells_some w.drew k i _ i c cs hcl (fun j v hj=>by rw [Addr.add_lit,Nat.zero_add]; exact hcs j v hj)
   ·rw [hzs]
    exact Src.ofSlice w h.u ⟨vb,voff,none⟩ 1 vc vs (by rw [hvl,Nat.one_mul]) (fun j u hj=>by rw [Addr.add_lit]; exact hvs j u hj) h1v
   ·rintro e w' ⟨he,hw'⟩
    exact sk hk h.c hcl hvl hGc he hw'
def sm (h:El P S E k by' z) (hby:by'<=140737488355328) (hE:Cq P f S):HO P f k:=by
 intro A vb voff vc vs w row hvl hvs h1v
 obtain ⟨i0,hi0,hzs,hz0,hzb⟩:=h.i
 refine (hE A 0 0 vb voff vc _ w _ (fun ty=>run_append_grow_src w S S ty E i0 z h.u hi0 hz0 A 0 0 [] ?_ _ 1 vs ?_ (by omega) (by omega) (by rw [hzb]; exact growslice_fits (by omega) (by omega))) (Nat.le_refl _) (by omega) (fun _=>rfl)).mono ?_
 ·rw [hzs]
  cases A with
  |none=>exact run_firstCells_none w.drew k 0 0 0
  |some a=>exact run_firstCells_some w.drew k 0 a 0 0 [] (by simp) (fun j v hj=>by simp at hj)
 ·rw [hzs]
  exact Src.ofSlice w h.u ⟨vb,voff,none⟩ 1 vc vs (by rw [hvl,Nat.one_mul]) (fun j u hj=>by rw [Addr.add_lit]; exact hvs j u hj) h1v
 ·rintro e w' ⟨he,hw'⟩
  exact sk h.p h.c (by simp) hvl (grownCap_ge w 1 0 E) he hw'
end
section
set_option maxHeartbeats 4000000
set_option maxRecDepth 1000000
def mix:Tryz.prog.follows .mixedOrders=true:=by kernel_rfl
def C4:El Tryz.prog 81 128 3 32 (.agg #[.string ⟨#[]⟩,.int .i64 0,.int .i64 0]) := .of Tryz.underlying81 (by kernel_rfl) ⟨rfl,rfl⟩ (by omega) (by omega)
def C1:El Tryz.prog 26 83 6 80 (.agg #[.int .i64 0,.int .i64 0,.int .i64 0,.slice none 0 0,.slice none 0 0,.int .i64 0]) := .of Tryz.underlying26 (by kernel_rfl) ⟨rfl,rfl⟩ (by omega) (by omega)
def C2:El Tryz.prog 34 95 3 24 (.agg #[.int .i64 0,.int .i64 0,.int .i64 0]) := .of Tryz.underlying34 (by kernel_rfl) ⟨rfl,rfl⟩ (by omega) (by omega)
def C3:El Tryz.prog 35 98 3 24 (.agg #[.int .i64 0,.int .i64 0,.int .i64 0]) := .of Tryz.underlying35 (by kernel_rfl) ⟨rfl,rfl⟩ (by omega) (by omega)
def Gd:El Tryz.prog 23 56 9 104 (.agg #[.int .i64 0,.int .i64 0,.int .i64 0,.int .i64 0,.int .i64 0,.int .i64 0,.int .i64 0,.slice none 0 0,.slice none 0 0]) := .of Tryz.underlying23 (by kernel_rfl) ⟨rfl,rfl⟩ (by omega) (by omega)
def PK:El Tryz.prog 30 85 8 96 (.agg #[.int .i64 0,.int .i64 0,.int .i64 0,.int .i64 0,.int .i64 0,.slice none 0 0,.slice none 0 0,.int .i64 0]) := .of Tryz.underlying30 (by kernel_rfl) ⟨rfl,rfl⟩ (by omega) (by omega)
def PL:El Tryz.prog 31 92 3 24 (.agg #[.int .i64 0,.int .i64 0,.int .i64 0]) := .of Tryz.underlying31 (by kernel_rfl) ⟨rfl,rfl⟩ (by omega) (by omega)
def PM:El Tryz.prog 39 5 1 1 (.int .u8 0) := .of Tryz.underlying39 (by kernel_rfl) ⟨rfl,rfl⟩ (by omega) (by omega)
def aaR:oe Tryz.prog 131 81 128:=by
 intro b off n c w K hap
 have mixed:=mix
 have t25:=Tryz.underlying81
 obtain ⟨q22,u22⟩:=C4.q
 go_enter Tryz.func131,Tryz.ntmps131
 go_wp2_with (at_builtin; refine hap rfl _ _ rfl rfl rfl ?_)
 intro v' w1 hK
 go_wp2
 go_ret
 exact ⟨v',rfl,hK⟩
def aaK:oc Tryz.prog 131 81 128:=by
 intro A c w hrun
 have mixed:=mix
 have t25:=Tryz.underlying81
 obtain ⟨q22,u22⟩:=C4.q
 cases A with
 |none =>
  go_enter Tryz.func131,Tryz.ntmps131
  go_wp2
  go_ret
  exact ⟨⟨_,rfl⟩,.inl rfl⟩
 |some a =>
  go_enter Tryz.func131,Tryz.ntmps131
  go_wp2_with (at_builtin; refine Lib.wpList_append_run _ rfl _ _ _ _ rfl _ _ rfl rfl _ _ (hrun _ _) ?_)
  go_ret
  exact ⟨⟨_,rfl⟩,.inr rfl⟩
def aaV:oe Tryz.prog 164 26 83:=by
 intro b off n c w K hap
 have mixed:=mix
 have t25:=Tryz.underlying26
 obtain ⟨q22,u22⟩:=C1.q
 go_enter Tryz.func164,Tryz.ntmps164
 go_wp2_with (at_builtin; refine hap rfl _ _ rfl rfl rfl ?_)
 intro v' w1 hK
 go_wp2
 go_ret
 exact ⟨v',rfl,hK⟩
def aaO:oc Tryz.prog 164 26 83:=by
 intro A c w hrun
 have mixed:=mix
 have t25:=Tryz.underlying26
 obtain ⟨q22,u22⟩:=C1.q
 cases A with
 |none =>
  go_enter Tryz.func164,Tryz.ntmps164
  go_wp2
  go_ret
  exact ⟨⟨_,rfl⟩,.inl rfl⟩
 |some a =>
  go_enter Tryz.func164,Tryz.ntmps164
  go_wp2_with (at_builtin; refine Lib.wpList_append_run _ rfl _ _ _ _ rfl _ _ rfl rfl _ _ (hrun _ _) ?_)
  go_ret
  exact ⟨⟨_,rfl⟩,.inr rfl⟩
def aaS:oe Tryz.prog 140 34 95:=by
 intro b off n c w K hap
 have mixed:=mix
 have t25:=Tryz.underlying34
 obtain ⟨q22,u22⟩:=C2.q
 go_enter Tryz.func140,Tryz.ntmps140
 go_wp2_with (at_builtin; refine hap rfl _ _ rfl rfl rfl ?_)
 intro v' w1 hK
 go_wp2
 go_ret
 exact ⟨v',rfl,hK⟩
def aaL:oc Tryz.prog 140 34 95:=by
 intro A c w hrun
 have mixed:=mix
 have t25:=Tryz.underlying34
 obtain ⟨q22,u22⟩:=C2.q
 cases A with
 |none =>
  go_enter Tryz.func140,Tryz.ntmps140
  go_wp2
  go_ret
  exact ⟨⟨_,rfl⟩,.inl rfl⟩
 |some a =>
  go_enter Tryz.func140,Tryz.ntmps140
  go_wp2_with (at_builtin; refine Lib.wpList_append_run _ rfl _ _ _ _ rfl _ _ rfl rfl _ _ (hrun _ _) ?_)
  go_ret
  exact ⟨⟨_,rfl⟩,.inr rfl⟩
def aaQ:oe Tryz.prog 115 35 98:=by
 intro b off n c w K hap
 have mixed:=mix
 have t25:=Tryz.underlying35
 obtain ⟨q22,u22⟩:=C3.q
 go_enter Tryz.func115,Tryz.ntmps115
 go_wp2_with (at_builtin; refine hap rfl _ _ rfl rfl rfl ?_)
 intro v' w1 hK
 go_wp2
 go_ret
 exact ⟨v',rfl,hK⟩
def aaJ:oc Tryz.prog 115 35 98:=by
 intro A c w hrun
 have mixed:=mix
 have t25:=Tryz.underlying35
 obtain ⟨q22,u22⟩:=C3.q
 cases A with
 |none =>
  go_enter Tryz.func115,Tryz.ntmps115
  go_wp2
  go_ret
  exact ⟨⟨_,rfl⟩,.inl rfl⟩
 |some a =>
  go_enter Tryz.func115,Tryz.ntmps115
  go_wp2_with (at_builtin; refine Lib.wpList_append_run _ rfl _ _ _ _ rfl _ _ rfl rfl _ _ (hrun _ _) ?_)
  go_ret
  exact ⟨⟨_,rfl⟩,.inr rfl⟩
def agT:oe Tryz.prog 30 23 56:=by
 intro b off n c w K hap
 have mixed:=mix
 have t25:=Tryz.underlying23
 obtain ⟨q22,u22⟩:=Gd.q
 go_enter Tryz.func30,Tryz.ntmps30
 go_wp2_with (at_builtin; refine hap rfl _ _ rfl rfl rfl ?_)
 intro v' w1 hK
 go_wp2
 go_ret
 exact ⟨v',rfl,hK⟩
def agR:oc Tryz.prog 30 23 56:=by
 intro A c w hrun
 have mixed:=mix
 have t25:=Tryz.underlying23
 obtain ⟨q22,u22⟩:=Gd.q
 cases A with
 |none =>
  go_enter Tryz.func30,Tryz.ntmps30
  go_wp2
  go_ret
  exact ⟨⟨_,rfl⟩,.inl rfl⟩
 |some a =>
  go_enter Tryz.func30,Tryz.ntmps30
  go_wp2_with (at_builtin; refine Lib.wpList_append_run _ rfl _ _ _ _ rfl _ _ rfl rfl _ _ (hrun _ _) ?_)
  go_ret
  exact ⟨⟨_,rfl⟩,.inr rfl⟩
def aaT:oe Tryz.prog 145 30 85:=by
 intro b off n c w K hap
 have mixed:=mix
 have t25:=Tryz.underlying30
 obtain ⟨q22,u22⟩:=PK.q
 go_enter Tryz.func145,Tryz.ntmps145
 go_wp2_with (at_builtin; refine hap rfl _ _ rfl rfl rfl ?_)
 intro v' w1 hK
 go_wp2
 go_ret
 exact ⟨v',rfl,hK⟩
def aaM:oc Tryz.prog 145 30 85:=by
 intro A c w hrun
 have mixed:=mix
 have t25:=Tryz.underlying30
 obtain ⟨q22,u22⟩:=PK.q
 cases A with
 |none =>
  go_enter Tryz.func145,Tryz.ntmps145
  go_wp2
  go_ret
  exact ⟨⟨_,rfl⟩,.inl rfl⟩
 |some a =>
  go_enter Tryz.func145,Tryz.ntmps145
  go_wp2_with (at_builtin; refine Lib.wpList_append_run _ rfl _ _ _ _ rfl _ _ rfl rfl _ _ (hrun _ _) ?_)
  go_ret
  exact ⟨⟨_,rfl⟩,.inr rfl⟩
def aaU:oe Tryz.prog 154 31 92:=by
 intro b off n c w K hap
 have mixed:=mix
 have t25:=Tryz.underlying31
 obtain ⟨q22,u22⟩:=PL.q
 go_enter Tryz.func154,Tryz.ntmps154
 go_wp2_with (at_builtin; refine hap rfl _ _ rfl rfl rfl ?_)
 intro v' w1 hK
 go_wp2
 go_ret
 exact ⟨v',rfl,hK⟩
def aaN:oc Tryz.prog 154 31 92:=by
 intro A c w hrun
 have mixed:=mix
 have t25:=Tryz.underlying31
 obtain ⟨q22,u22⟩:=PL.q
 cases A with
 |none =>
  go_enter Tryz.func154,Tryz.ntmps154
  go_wp2
  go_ret
  exact ⟨⟨_,rfl⟩,.inl rfl⟩
 |some a =>
  go_enter Tryz.func154,Tryz.ntmps154
  go_wp2_with (at_builtin; refine Lib.wpList_append_run _ rfl _ _ _ _ rfl _ _ rfl rfl _ _ (hrun _ _) ?_)
  go_ret
  exact ⟨⟨_,rfl⟩,.inr rfl⟩
def agU:oe Tryz.prog 93 39 5:=by
 intro b off n c w K hap
 have mixed:=mix
 have t25:=Tryz.underlying39
 obtain ⟨q22,u22⟩:=PM.q
 go_enter Tryz.func93,Tryz.ntmps93
 go_wp2_with (at_builtin; refine hap rfl _ _ rfl rfl rfl ?_)
 intro v' w1 hK
 go_wp2
 go_ret
 exact ⟨v',rfl,hK⟩
def agS:oc Tryz.prog 93 39 5:=by
 intro A c w hrun
 have mixed:=mix
 have t25:=Tryz.underlying39
 obtain ⟨q22,u22⟩:=PM.q
 cases A with
 |none =>
  go_enter Tryz.func93,Tryz.ntmps93
  go_wp2
  go_ret
  exact ⟨⟨_,rfl⟩,.inl rfl⟩
 |some a =>
  go_enter Tryz.func93,Tryz.ntmps93
  go_wp2_with (at_builtin; refine Lib.wpList_append_run _ rfl _ _ _ _ rfl _ _ rfl rfl _ _ (hrun _ _) ?_)
  go_ret
  exact ⟨⟨_,rfl⟩,.inr rfl⟩
def aaZ:HK Tryz.prog 205 26 6:=by
 intro blk cap i j n A w W1 W2 hA hap hcl hcap hm hi hic hij hjc hjn
 have mixed:=mix
 have t25:=Tryz.underlying26
 go_enter Tryz.func205,Tryz.ntmps205
 go_wp2_with fail
 go_region_law_o (refine ku rfl _ _ 26 26 rfl _ _ (by simp [Act.eval,Act.put]) (by simp [Act.eval,Act.put]) (hap _) ?_)
 go_wp2
 go_ret
 exact ⟨rfl,rfl⟩
def aaY:HK Tryz.prog 171 81 3:=by
 intro blk cap i j n A w W1 W2 hA hap hcl hcap hm hi hic hij hjc hjn
 have mixed:=mix
 have t25:=Tryz.underlying81
 go_enter Tryz.func171,Tryz.ntmps171
 go_wp2_with fail
 go_region_law_o (refine ku rfl _ _ 81 81 rfl _ _ (by simp [Act.eval,Act.put]) (by simp [Act.eval,Act.put]) (hap _) ?_)
 go_wp2
 go_ret
 exact ⟨rfl,rfl⟩
def aaW:HK Tryz.prog 143 34 3:=by
 intro blk cap i j n A w W1 W2 hA hap hcl hcap hm hi hic hij hjc hjn
 have mixed:=mix
 have t25:=Tryz.underlying34
 go_enter Tryz.func143,Tryz.ntmps143
 go_wp2_with fail
 go_region_law_o (refine ku rfl _ _ 34 34 rfl _ _ (by simp [Act.eval,Act.put]) (by simp [Act.eval,Act.put]) (hap _) ?_)
 go_wp2
 go_ret
 exact ⟨rfl,rfl⟩
def aaX:HK Tryz.prog 152 35 3:=by
 intro blk cap i j n A w W1 W2 hA hap hcl hcap hm hi hic hij hjc hjn
 have mixed:=mix
 have t25:=Tryz.underlying35
 go_enter Tryz.func152,Tryz.ntmps152
 go_wp2_with fail
 go_region_law_o (refine ku rfl _ _ 35 35 rfl _ _ (by simp [Act.eval,Act.put]) (by simp [Act.eval,Act.put]) (hap _) ?_)
 go_wp2
 go_ret
 exact ⟨rfl,rfl⟩
def ad3:sW Tryz.prog 165 201 26 6:=by
 intro b n c i vb voff vc vs w W1 hov hcp1 hcp2 hi hroom hc63 hz2 hw1 hb1 hin htn hb2 hb3 hb4
 have mixed:=mix
 have t25:=Tryz.underlying26
 go_enter Tryz.func165,Tryz.ntmps165
 go_wp2_with (simp only [hov])
 go_region_law_o (refine fF rfl _ _ 26 26 rfl _ _ (by simp [Act.eval,Act.put]) (by simp [Act.eval,Act.put]) (hcp1 _ _ _) ?_)
 go_wp2_with (at_builtin; refine cK _ rfl _ _ 26 26 rfl _ _ rfl rfl (hcp2 _ (fun _=>rfl) (fun _=>rfl) _ _) ?_)
 go_ret
 exact ⟨rfl,rfl⟩
def Tw:Cq Tryz.prog 165 26:=by
 intro base n c vb voff vc V w W hrun hnc hroom hnil
 have t25:=Tryz.underlying26
 go_enter Tryz.func165,Tryz.ntmps165
 cases base with
 |none =>
  have h0:=hnil rfl
  subst h0
  go_wp2_with (at_builtin; refine Lib.wpList_append_run _ rfl _ _ _ _ rfl _ _ rfl rfl _ _ (hrun _) ?_)
  go_ret
  exact ⟨rfl,rfl⟩
 |some a =>
  obtain ⟨ab,ao,asp⟩:=a
  go_wp2_with (at_builtin; refine Lib.wpList_append_run _ rfl _ _ _ _ rfl _ _ rfl rfl _ _ (hrun _) ?_)
  all_goals (go_ret; exact ⟨rfl,rfl⟩)
def abg:xK Tryz.prog 165 26 83 6:=by
 intro b n c i G vb voff vc ROW vs ds w hrz hcpA hcpB hE1 hE2 hF1 hF2 hi hnc hroom hz2 hz3 hGn hG63 hGi hGim hci hw1 hb1 hin htn hb3 hle
 have mixed:=mix
 have t25:=Tryz.underlying26
 go_enter Tryz.func165,Tryz.ntmps165
 go_wp2_with (first
  |(at_builtin; refine Lib.wpList_append_run _ rfl _ _ _ _ rfl _ _ rfl rfl _ _ (hrz _) ?_)
  |(at_builtin; refine cK _ rfl _ _ 26 26 rfl _ _ rfl rfl (hcpA _ hE1 hE2 _ _) ?_)
  |(at_builtin; refine cK _ rfl _ _ 26 26 rfl _ _ rfl rfl (hcpB _ (fun _=>rfl) (fun _=>rfl) _ _ _) ?_))
 go_region_law_o (refine fF rfl _ _ 26 26 rfl (.slice (some ⟨w.heap.size,(i+1)*6,none⟩) (n+1-(i+1)) (G-(i+1))) (.slice (some ⟨b,i*6,none⟩) (n-i) (c-i)) (by simp [Act.eval,Act.put]) (by simp [Act.eval,Act.put]) (hcpB _ hF1 hF2 3 (G-(i+1)) (c-i)) ?_)
 go_wp2
 go_ret
 exact ⟨rfl,rfl⟩
def ad4:sW Tryz.prog 166 203 81 3:=by
 intro b n c i vb voff vc vs w W1 hov hcp1 hcp2 hi hroom hc63 hz2 hw1 hb1 hin htn hb2 hb3 hb4
 have mixed:=mix
 have t25:=Tryz.underlying81
 go_enter Tryz.func166,Tryz.ntmps166
 go_wp2_with (simp only [hov])
 go_region_law_o (refine fF rfl _ _ 81 81 rfl _ _ (by simp [Act.eval,Act.put]) (by simp [Act.eval,Act.put]) (hcp1 _ _ _) ?_)
 go_wp2_with (at_builtin; refine cK _ rfl _ _ 81 81 rfl _ _ rfl rfl (hcp2 _ (fun _=>rfl) (fun _=>rfl) _ _) ?_)
 go_ret
 exact ⟨rfl,rfl⟩
def Tx:Cq Tryz.prog 166 81:=by
 intro base n c vb voff vc V w W hrun hnc hroom hnil
 have t25:=Tryz.underlying81
 go_enter Tryz.func166,Tryz.ntmps166
 cases base with
 |none =>
  have h0:=hnil rfl
  subst h0
  go_wp2_with (at_builtin; refine Lib.wpList_append_run _ rfl _ _ _ _ rfl _ _ rfl rfl _ _ (hrun _) ?_)
  go_ret
  exact ⟨rfl,rfl⟩
 |some a =>
  obtain ⟨ab,ao,asp⟩:=a
  go_wp2_with (at_builtin; refine Lib.wpList_append_run _ rfl _ _ _ _ rfl _ _ rfl rfl _ _ (hrun _) ?_)
  all_goals (go_ret; exact ⟨rfl,rfl⟩)
def abh:xK Tryz.prog 166 81 128 3:=by
 intro b n c i G vb voff vc ROW vs ds w hrz hcpA hcpB hE1 hE2 hF1 hF2 hi hnc hroom hz2 hz3 hGn hG63 hGi hGim hci hw1 hb1 hin htn hb3 hle
 have mixed:=mix
 have t25:=Tryz.underlying81
 go_enter Tryz.func166,Tryz.ntmps166
 go_wp2_with (first
  |(at_builtin; refine Lib.wpList_append_run _ rfl _ _ _ _ rfl _ _ rfl rfl _ _ (hrz _) ?_)
  |(at_builtin; refine cK _ rfl _ _ 81 81 rfl _ _ rfl rfl (hcpA _ hE1 hE2 _ _) ?_)
  |(at_builtin; refine cK _ rfl _ _ 81 81 rfl _ _ rfl rfl (hcpB _ (fun _=>rfl) (fun _=>rfl) _ _ _) ?_))
 go_region_law_o (refine fF rfl _ _ 81 81 rfl (.slice (some ⟨w.heap.size,(i+1)*3,none⟩) (n+1-(i+1)) (G-(i+1))) (.slice (some ⟨b,i*3,none⟩) (n-i) (c-i)) (by simp [Act.eval,Act.put]) (by simp [Act.eval,Act.put]) (hcpB _ hF1 hF2 3 (G-(i+1)) (c-i)) ?_)
 go_wp2
 go_ret
 exact ⟨rfl,rfl⟩
def ad1:sW Tryz.prog 139 182 34 3:=by
 intro b n c i vb voff vc vs w W1 hov hcp1 hcp2 hi hroom hc63 hz2 hw1 hb1 hin htn hb2 hb3 hb4
 have mixed:=mix
 have t25:=Tryz.underlying34
 go_enter Tryz.func139,Tryz.ntmps139
 go_wp2_with (simp only [hov])
 go_region_law_o (refine fF rfl _ _ 34 34 rfl _ _ (by simp [Act.eval,Act.put]) (by simp [Act.eval,Act.put]) (hcp1 _ _ _) ?_)
 go_wp2_with (at_builtin; refine cK _ rfl _ _ 34 34 rfl _ _ rfl rfl (hcp2 _ (fun _=>rfl) (fun _=>rfl) _ _) ?_)
 go_ret
 exact ⟨rfl,rfl⟩
def Tu:Cq Tryz.prog 139 34:=by
 intro base n c vb voff vc V w W hrun hnc hroom hnil
 have t25:=Tryz.underlying34
 go_enter Tryz.func139,Tryz.ntmps139
 cases base with
 |none =>
  have h0:=hnil rfl
  subst h0
  go_wp2_with (at_builtin; refine Lib.wpList_append_run _ rfl _ _ _ _ rfl _ _ rfl rfl _ _ (hrun _) ?_)
  go_ret
  exact ⟨rfl,rfl⟩
 |some a =>
  obtain ⟨ab,ao,asp⟩:=a
  go_wp2_with (at_builtin; refine Lib.wpList_append_run _ rfl _ _ _ _ rfl _ _ rfl rfl _ _ (hrun _) ?_)
  all_goals (go_ret; exact ⟨rfl,rfl⟩)
def abe:xK Tryz.prog 139 34 95 3:=by
 intro b n c i G vb voff vc ROW vs ds w hrz hcpA hcpB hE1 hE2 hF1 hF2 hi hnc hroom hz2 hz3 hGn hG63 hGi hGim hci hw1 hb1 hin htn hb3 hle
 have mixed:=mix
 have t25:=Tryz.underlying34
 go_enter Tryz.func139,Tryz.ntmps139
 go_wp2_with (first
  |(at_builtin; refine Lib.wpList_append_run _ rfl _ _ _ _ rfl _ _ rfl rfl _ _ (hrz _) ?_)
  |(at_builtin; refine cK _ rfl _ _ 34 34 rfl _ _ rfl rfl (hcpA _ hE1 hE2 _ _) ?_)
  |(at_builtin; refine cK _ rfl _ _ 34 34 rfl _ _ rfl rfl (hcpB _ (fun _=>rfl) (fun _=>rfl) _ _ _) ?_))
 go_region_law_o (refine fF rfl _ _ 34 34 rfl (.slice (some ⟨w.heap.size,(i+1)*3,none⟩) (n+1-(i+1)) (G-(i+1))) (.slice (some ⟨b,i*3,none⟩) (n-i) (c-i)) (by simp [Act.eval,Act.put]) (by simp [Act.eval,Act.put]) (hcpB _ hF1 hF2 3 (G-(i+1)) (c-i)) ?_)
 go_wp2
 go_ret
 exact ⟨rfl,rfl⟩
def ad2:sW Tryz.prog 153 191 35 3:=by
 intro b n c i vb voff vc vs w W1 hov hcp1 hcp2 hi hroom hc63 hz2 hw1 hb1 hin htn hb2 hb3 hb4
 have mixed:=mix
 have t25:=Tryz.underlying35
 go_enter Tryz.func153,Tryz.ntmps153
 go_wp2_with (simp only [hov])
 go_region_law_o (refine fF rfl _ _ 35 35 rfl _ _ (by simp [Act.eval,Act.put]) (by simp [Act.eval,Act.put]) (hcp1 _ _ _) ?_)
 go_wp2_with (at_builtin; refine cK _ rfl _ _ 35 35 rfl _ _ rfl rfl (hcp2 _ (fun _=>rfl) (fun _=>rfl) _ _) ?_)
 go_ret
 exact ⟨rfl,rfl⟩
def Tv:Cq Tryz.prog 153 35:=by
 intro base n c vb voff vc V w W hrun hnc hroom hnil
 have t25:=Tryz.underlying35
 go_enter Tryz.func153,Tryz.ntmps153
 cases base with
 |none =>
  have h0:=hnil rfl
  subst h0
  go_wp2_with (at_builtin; refine Lib.wpList_append_run _ rfl _ _ _ _ rfl _ _ rfl rfl _ _ (hrun _) ?_)
  go_ret
  exact ⟨rfl,rfl⟩
 |some a =>
  obtain ⟨ab,ao,asp⟩:=a
  go_wp2_with (at_builtin; refine Lib.wpList_append_run _ rfl _ _ _ _ rfl _ _ rfl rfl _ _ (hrun _) ?_)
  all_goals (go_ret; exact ⟨rfl,rfl⟩)
def abf:xK Tryz.prog 153 35 98 3:=by
 intro b n c i G vb voff vc ROW vs ds w hrz hcpA hcpB hE1 hE2 hF1 hF2 hi hnc hroom hz2 hz3 hGn hG63 hGi hGim hci hw1 hb1 hin htn hb3 hle
 have mixed:=mix
 have t25:=Tryz.underlying35
 go_enter Tryz.func153,Tryz.ntmps153
 go_wp2_with (first
  |(at_builtin; refine Lib.wpList_append_run _ rfl _ _ _ _ rfl _ _ rfl rfl _ _ (hrz _) ?_)
  |(at_builtin; refine cK _ rfl _ _ 35 35 rfl _ _ rfl rfl (hcpA _ hE1 hE2 _ _) ?_)
  |(at_builtin; refine cK _ rfl _ _ 35 35 rfl _ _ rfl rfl (hcpB _ (fun _=>rfl) (fun _=>rfl) _ _ _) ?_))
 go_region_law_o (refine fF rfl _ _ 35 35 rfl (.slice (some ⟨w.heap.size,(i+1)*3,none⟩) (n+1-(i+1)) (G-(i+1))) (.slice (some ⟨b,i*3,none⟩) (n-i) (c-i)) (by simp [Act.eval,Act.put]) (by simp [Act.eval,Act.put]) (hcpB _ hF1 hF2 3 (G-(i+1)) (c-i)) ?_)
 go_wp2
 go_ret
 exact ⟨rfl,rfl⟩
def aji:sW Tryz.prog 31 49 23 9:=by
 intro b n c i vb voff vc vs w W1 hov hcp1 hcp2 hi hroom hc63 hz2 hw1 hb1 hin htn hb2 hb3 hb4
 have mixed:=mix
 have t25:=Tryz.underlying23
 go_enter Tryz.func31,Tryz.ntmps31
 go_wp2_with (simp only [hov])
 go_region_law_o (refine fF rfl _ _ 23 23 rfl _ _ (by simp [Act.eval,Act.put]) (by simp [Act.eval,Act.put]) (hcp1 _ _ _) ?_)
 go_wp2_with (at_builtin; refine cK _ rfl _ _ 23 23 rfl _ _ rfl rfl (hcp2 _ (fun _=>rfl) (fun _=>rfl) _ _) ?_)
 go_ret
 exact ⟨rfl,rfl⟩
def aa3:Cq Tryz.prog 31 23:=by
 intro base n c vb voff vc V w W hrun hnc hroom hnil
 have t25:=Tryz.underlying23
 go_enter Tryz.func31,Tryz.ntmps31
 cases base with
 |none =>
  have h0:=hnil rfl
  subst h0
  go_wp2_with (at_builtin; refine Lib.wpList_append_run _ rfl _ _ _ _ rfl _ _ rfl rfl _ _ (hrun _) ?_)
  go_ret
  exact ⟨rfl,rfl⟩
 |some a =>
  obtain ⟨ab,ao,asp⟩:=a
  go_wp2_with (at_builtin; refine Lib.wpList_append_run _ rfl _ _ _ _ rfl _ _ rfl rfl _ _ (hrun _) ?_)
  all_goals (go_ret; exact ⟨rfl,rfl⟩)
def ag3:xK Tryz.prog 31 23 56 9:=by
 intro b n c i G vb voff vc ROW vs ds w hrz hcpA hcpB hE1 hE2 hF1 hF2 hi hnc hroom hz2 hz3 hGn hG63 hGi hGim hci hw1 hb1 hin htn hb3 hle
 have mixed:=mix
 have t25:=Tryz.underlying23
 go_enter Tryz.func31,Tryz.ntmps31
 go_wp2_with (first
  |(at_builtin; refine Lib.wpList_append_run _ rfl _ _ _ _ rfl _ _ rfl rfl _ _ (hrz _) ?_)
  |(at_builtin; refine cK _ rfl _ _ 23 23 rfl _ _ rfl rfl (hcpA _ hE1 hE2 _ _) ?_)
  |(at_builtin; refine cK _ rfl _ _ 23 23 rfl _ _ rfl rfl (hcpB _ (fun _=>rfl) (fun _=>rfl) _ _ _) ?_))
 go_region_law_o (refine fF rfl _ _ 23 23 rfl (.slice (some ⟨w.heap.size,(i+1)*9,none⟩) (n+1-(i+1)) (G-(i+1))) (.slice (some ⟨b,i*9,none⟩) (n-i) (c-i)) (by simp [Act.eval,Act.put]) (by simp [Act.eval,Act.put]) (hcpB _ hF1 hF2 3 (G-(i+1)) (c-i)) ?_)
 go_wp2
 go_ret
 exact ⟨rfl,rfl⟩
end
def F2 {args:List ae} {M:ai} {x:ae×ai} (h:fp 3 32 args M=some x):bl Tryz.prog 131 args M x:=jk (by omega) (by omega) (kD C4 aaR) (jj C4 aaK) h
def F4 {args:List ae} {M:ai} {x:ae×ai} (h:fp 6 80 args M=some x):bl Tryz.prog 164 args M x:=jk (by omega) (by omega) (kD C1 aaV) (jj C1 aaO) h
def F3 {args:List ae} {M:ai} {x:ae×ai} (h:fp 3 24 args M=some x):bl Tryz.prog 140 args M x:=jk (by omega) (by omega) (kD C2 aaS) (jj C2 aaL) h
def F1 {args:List ae} {M:ai} {x:ae×ai} (h:fp 3 24 args M=some x):bl Tryz.prog 115 args M x:=jk (by omega) (by omega) (kD C3 aaQ) (jj C3 aaJ) h
def JB {args:List ae} {M:ai} {x:ae×ai} (h:fp 9 104 args M=some x):bl Tryz.prog 30 args M x:=jk (by omega) (by omega) (kD Gd agT) (jj Gd agR) h
def CK {args:List ae} {M:ai} {x:ae×ai} (h:km 8 96 args M=some x):bl Tryz.prog 145 args M x:=rT (by omega) (by omega) (kD PK aaT) (jj PK aaM) h
def CL {args:List ae} {M:ai} {x:ae×ai} (h:km 3 24 args M=some x):bl Tryz.prog 154 args M x:=rT (by omega) (by omega) (kD PL aaU) (jj PL aaN) h
def aaI {args:List ae} {M:ai} {x:ae×ai} (h:X7 1 1 args M=some x):bl Tryz.prog 93 args M x:=JA (by omega) (by omega) (kD PM agU) (jj PM agS) h
def Gc {args:List ae} {M:ai} {x:ae×ai} (h:fg 6 args M=some x):bl Tryz.prog 205 args M x:=lq (sz:=6) (z:=(Value.agg #[.int .i64 0,.int .i64 0,.int .i64 0,.slice none 0 0,.slice none 0 0,.int .i64 0]).cells.toList) (by omega) rfl (zn C1 aaZ) h
def Gb {args:List ae} {M:ai} {x:ae×ai} (h:fg 3 args M=some x):bl Tryz.prog 171 args M x:=lq (sz:=3) (z:=(Value.agg #[.string ⟨#[]⟩,.int .i64 0,.int .i64 0]).cells.toList) (by omega) rfl (zn C4 aaY) h
def F9 {args:List ae} {M:ai} {x:ae×ai} (h:fg 3 args M=some x):bl Tryz.prog 143 args M x:=lq (sz:=3) (z:=(Value.agg #[.int .i64 0,.int .i64 0,.int .i64 0]).cells.toList) (by omega) rfl (zn C2 aaW) h
def Ga {args:List ae} {M:ai} {x:ae×ai} (h:fg 3 args M=some x):bl Tryz.prog 152 args M x:=lq (sz:=3) (z:=(Value.agg #[.int .i64 0,.int .i64 0,.int .i64 0]).cells.toList) (by omega) rfl (zn C3 aaX) h
def Gz {args:List ae} {M:ai} {x:ae×ai} (h:ep 6 80 args M=some x):bl Tryz.prog 165 args M x:=jH (by omega) (by omega) (sj C1 Tryz.underlying3 (fun args w=>run_callFunc_extern Tryz.func201 (by kernel_rfl) (by kernel_rfl) (by kernel_rfl) (by kernel_rfl) args w) ad3 Tw abg) (sm C1 (by omega) Tw) h
def GA {args:List ae} {M:ai} {x:ae×ai} (h:ep 3 32 args M=some x):bl Tryz.prog 166 args M x:=jH (by omega) (by omega) (sj C4 Tryz.underlying3 (fun args w=>run_callFunc_extern Tryz.func203 (by kernel_rfl) (by kernel_rfl) (by kernel_rfl) (by kernel_rfl) args w) ad4 Tx abh) (sm C4 (by omega) Tx) h
def Gx {args:List ae} {M:ai} {x:ae×ai} (h:ep 3 24 args M=some x):bl Tryz.prog 139 args M x:=jH (by omega) (by omega) (sj C2 Tryz.underlying3 (fun args w=>run_callFunc_extern Tryz.func182 (by kernel_rfl) (by kernel_rfl) (by kernel_rfl) (by kernel_rfl) args w) ad1 Tu abe) (sm C2 (by omega) Tu) h
def Gy {args:List ae} {M:ai} {x:ae×ai} (h:ep 3 24 args M=some x):bl Tryz.prog 153 args M x:=jH (by omega) (by omega) (sj C3 Tryz.underlying3 (fun args w=>run_callFunc_extern Tryz.func191 (by kernel_rfl) (by kernel_rfl) (by kernel_rfl) (by kernel_rfl) args w) ad2 Tv abf) (sm C3 (by omega) Tv) h
def Ln {args:List ae} {M:ai} {x:ae×ai} (h:ep 9 104 args M=some x):bl Tryz.prog 31 args M x:=jH (by omega) (by omega) (sj Gd Tryz.underlying3 (fun args w=>run_callFunc_extern Tryz.func49 (by kernel_rfl) (by kernel_rfl) (by kernel_rfl) (by kernel_rfl) args w) aji aa3 ag3) (sm Gd (by omega) aa3) h
end
end Go.Proofs.YtdbadpnkhaepnaaGreatDoor
namespace Go.Proofs
section
open Go.Shelf
def Tryz.B5:Go.Shelf.Ren:=⟨fun|6=>133|15=>179|14=>178|28=>218|29=>219|20=>210|21=>211|22=>212|23=>213|24=>214|25=>215|26=>216|27=>217|46=>232|47=>233|48=>234|49=>235|50=>236|57=>253|n=>n,fun|22=>81|24=>128|25=>223|3=>3|39=>132|0=>0|53=>304|55=>306|4=>4|46=>298|45=>297|50=>64|5=>5|9=>9|66=>315|70=>319|76=>332|77=>208|n=>n,fun|n=>n⟩
def Tryz.Fm:Go.Proofs.SlLaysF0.n6 Tryz.prog Tryz.B5:={
 mixed:=by kernel_rfl
 f6:=⟨Tryz.f133.name,by decide,Tryz.func133.trans (congrArg some (by kernel_rfl))⟩
 f14:=⟨Tryz.f178.name,by decide,Tryz.func178.trans (congrArg some (by kernel_rfl))⟩
 f15:=Tryz.func179.trans (congrArg some (by kernel_rfl))
 f20:=⟨Tryz.f210.name,by decide,Tryz.func210.trans (congrArg some (by kernel_rfl))⟩
 f21:=⟨Tryz.f211.name,by decide,Tryz.func211.trans (congrArg some (by kernel_rfl))⟩
 f22:=⟨Tryz.f212.name,by decide,Tryz.func212.trans (congrArg some (by kernel_rfl))⟩
 f23:=⟨Tryz.f213.name,by decide,Tryz.func213.trans (congrArg some (by kernel_rfl))⟩
 f24:=⟨Tryz.f214.name,by decide,Tryz.func214.trans (congrArg some (by kernel_rfl))⟩
 f25:=⟨Tryz.f215.name,by decide,Tryz.func215.trans (congrArg some (by kernel_rfl))⟩
 f26:=⟨Tryz.f216.name,by decide,Tryz.func216.trans (congrArg some (by kernel_rfl))⟩
 f27:=⟨Tryz.f217.name,by decide,Tryz.func217.trans (congrArg some (by kernel_rfl))⟩
 f28:=Tryz.func218.trans (congrArg some (by kernel_rfl))
 f29:=Tryz.func219.trans (congrArg some (by kernel_rfl))
 f46:=⟨Tryz.f232.name,by decide,Tryz.func232.trans (congrArg some (by kernel_rfl))⟩
 f47:=Tryz.func233.trans (congrArg some (by kernel_rfl))
 f48:=Tryz.func234.trans (congrArg some (by kernel_rfl))
 f49:=⟨Tryz.f235.name,by decide,Tryz.func235.trans (congrArg some (by kernel_rfl))⟩
 f50:=⟨Tryz.f236.name,by decide,Tryz.func236.trans (congrArg some (by kernel_rfl))⟩
 f57:=⟨Tryz.f253.name,by decide,Tryz.func253.trans (congrArg some (by kernel_rfl))⟩
 t0:=Tryz.underlying0
 a0:=Tryz.isAgg0
 z0:=Tryz.sizeOf0
 v0:=Tryz.zeroValue0
 t3:=Tryz.underlying3
 a3:=Tryz.isAgg3
 z3:=Tryz.sizeOf3
 v3:=Tryz.zeroValue3
 t4:=Tryz.underlying4
 a4:=Tryz.isAgg4
 z4:=Tryz.sizeOf4
 v4:=Tryz.zeroValue4
 t5:=Tryz.underlying5
 a5:=Tryz.isAgg5
 z5:=Tryz.sizeOf5
 v5:=Tryz.zeroValue5
 t9:=Tryz.underlying9
 a9:=Tryz.isAgg9
 z9:=Tryz.sizeOf9
 v9:=Tryz.zeroValue9
 t22:=Tryz.underlying81
 a22:=Tryz.isAgg81
 z22:=Tryz.sizeOf81
 v22:=Tryz.zeroValue81
 t25:=Tryz.underlying223
 a25:=Tryz.isAgg223
 z25:=Tryz.sizeOf223
 v25:=Tryz.zeroValue223
 t39:=Tryz.underlying132
 a39:=Tryz.isAgg132
 z39:=Tryz.sizeOf132
 v39:=Tryz.zeroValue132
 t45:=Tryz.underlying297
 a45:=Tryz.isAgg297
 z45:=Tryz.sizeOf297
 v45:=Tryz.zeroValue297
 t46:=Tryz.underlying298
 a46:=Tryz.isAgg298
 z46:=Tryz.sizeOf298
 v46:=Tryz.zeroValue298
 t50:=Tryz.underlying64
 a50:=Tryz.isAgg64
 z50:=Tryz.sizeOf64
 v50:=Tryz.zeroValue64
 t53:=Tryz.underlying304
 a53:=Tryz.isAgg304
 z53:=Tryz.sizeOf304
 v53:=Tryz.zeroValue304
 t55:=Tryz.underlying306
 a55:=Tryz.isAgg306
 z55:=Tryz.sizeOf306
 v55:=Tryz.zeroValue306
 t66:=Tryz.underlying315
 a66:=Tryz.isAgg315
 z66:=Tryz.sizeOf315
 v66:=Tryz.zeroValue315
 t70:=Tryz.underlying319
 a70:=Tryz.isAgg319
 z70:=Tryz.sizeOf319
 v70:=Tryz.zeroValue319
 t76:=Tryz.underlying332
 a76:=Tryz.isAgg332
 z76:=Tryz.sizeOf332
 v76:=Tryz.zeroValue332
 t77:=Tryz.underlying208
 a77:=Tryz.isAgg208
 z77:=Tryz.sizeOf208
 v77:=Tryz.zeroValue208 }
def Tryz.zY:Go.Shelf.Ren:=⟨fun|6=>194|15=>179|14=>223|28=>218|29=>219|20=>239|21=>240|22=>241|23=>242|24=>243|25=>244|26=>245|27=>246|46=>254|47=>233|48=>234|49=>255|50=>256|57=>259|n=>n,fun|22=>26|24=>83|25=>284|3=>3|39=>132|0=>0|53=>304|55=>306|4=>4|46=>298|45=>297|50=>64|5=>5|9=>9|66=>315|70=>319|76=>332|77=>208|n=>n,fun|n=>n⟩
def Tryz.B7:Go.Proofs.SlLaysF0.n6 Tryz.prog Tryz.zY:={
 mixed:=by kernel_rfl
 f6:=⟨Tryz.f194.name,by decide,Tryz.func194.trans (congrArg some (by kernel_rfl))⟩
 f14:=⟨Tryz.f223.name,by decide,Tryz.func223.trans (congrArg some (by kernel_rfl))⟩
 f15:=Tryz.func179.trans (congrArg some (by kernel_rfl))
 f20:=⟨Tryz.f239.name,by decide,Tryz.func239.trans (congrArg some (by kernel_rfl))⟩
 f21:=⟨Tryz.f240.name,by decide,Tryz.func240.trans (congrArg some (by kernel_rfl))⟩
 f22:=⟨Tryz.f241.name,by decide,Tryz.func241.trans (congrArg some (by kernel_rfl))⟩
 f23:=⟨Tryz.f242.name,by decide,Tryz.func242.trans (congrArg some (by kernel_rfl))⟩
 f24:=⟨Tryz.f243.name,by decide,Tryz.func243.trans (congrArg some (by kernel_rfl))⟩
 f25:=⟨Tryz.f244.name,by decide,Tryz.func244.trans (congrArg some (by kernel_rfl))⟩
 f26:=⟨Tryz.f245.name,by decide,Tryz.func245.trans (congrArg some (by kernel_rfl))⟩
 f27:=⟨Tryz.f246.name,by decide,Tryz.func246.trans (congrArg some (by kernel_rfl))⟩
 f28:=Tryz.func218.trans (congrArg some (by kernel_rfl))
 f29:=Tryz.func219.trans (congrArg some (by kernel_rfl))
 f46:=⟨Tryz.f254.name,by decide,Tryz.func254.trans (congrArg some (by kernel_rfl))⟩
 f47:=Tryz.func233.trans (congrArg some (by kernel_rfl))
 f48:=Tryz.func234.trans (congrArg some (by kernel_rfl))
 f49:=⟨Tryz.f255.name,by decide,Tryz.func255.trans (congrArg some (by kernel_rfl))⟩
 f50:=⟨Tryz.f256.name,by decide,Tryz.func256.trans (congrArg some (by kernel_rfl))⟩
 f57:=⟨Tryz.f259.name,by decide,Tryz.func259.trans (congrArg some (by kernel_rfl))⟩
 t0:=Tryz.underlying0
 a0:=Tryz.isAgg0
 z0:=Tryz.sizeOf0
 v0:=Tryz.zeroValue0
 t3:=Tryz.underlying3
 a3:=Tryz.isAgg3
 z3:=Tryz.sizeOf3
 v3:=Tryz.zeroValue3
 t4:=Tryz.underlying4
 a4:=Tryz.isAgg4
 z4:=Tryz.sizeOf4
 v4:=Tryz.zeroValue4
 t5:=Tryz.underlying5
 a5:=Tryz.isAgg5
 z5:=Tryz.sizeOf5
 v5:=Tryz.zeroValue5
 t9:=Tryz.underlying9
 a9:=Tryz.isAgg9
 z9:=Tryz.sizeOf9
 v9:=Tryz.zeroValue9
 t22:=Tryz.underlying26
 a22:=Tryz.isAgg26
 z22:=Tryz.sizeOf26
 v22:=Tryz.zeroValue26
 t25:=Tryz.underlying284
 a25:=Tryz.isAgg284
 z25:=Tryz.sizeOf284
 v25:=Tryz.zeroValue284
 t39:=Tryz.underlying132
 a39:=Tryz.isAgg132
 z39:=Tryz.sizeOf132
 v39:=Tryz.zeroValue132
 t45:=Tryz.underlying297
 a45:=Tryz.isAgg297
 z45:=Tryz.sizeOf297
 v45:=Tryz.zeroValue297
 t46:=Tryz.underlying298
 a46:=Tryz.isAgg298
 z46:=Tryz.sizeOf298
 v46:=Tryz.zeroValue298
 t50:=Tryz.underlying64
 a50:=Tryz.isAgg64
 z50:=Tryz.sizeOf64
 v50:=Tryz.zeroValue64
 t53:=Tryz.underlying304
 a53:=Tryz.isAgg304
 z53:=Tryz.sizeOf304
 v53:=Tryz.zeroValue304
 t55:=Tryz.underlying306
 a55:=Tryz.isAgg306
 z55:=Tryz.sizeOf306
 v55:=Tryz.zeroValue306
 t66:=Tryz.underlying315
 a66:=Tryz.isAgg315
 z66:=Tryz.sizeOf315
 v66:=Tryz.zeroValue315
 t70:=Tryz.underlying319
 a70:=Tryz.isAgg319
 z70:=Tryz.sizeOf319
 v70:=Tryz.zeroValue319
 t76:=Tryz.underlying332
 a76:=Tryz.isAgg332
 z76:=Tryz.sizeOf332
 v76:=Tryz.zeroValue332
 t77:=Tryz.underlying208
 a77:=Tryz.isAgg208
 z77:=Tryz.sizeOf208
 v77:=Tryz.zeroValue208 }
def Tryz.CO:Go.Shelf.Ren:=⟨fun|5=>44|7=>73|n=>n,fun|22=>3|3=>3|4=>4|n=>n,fun|n=>n⟩
def Tryz.JC:Go.Proofs.SlLaysC2.n5 Tryz.prog Tryz.CO:={
 mixed:=by kernel_rfl
 f5:=⟨Tryz.f44.name,by decide,Tryz.func44.trans (congrArg some (by kernel_rfl))⟩
 f7:=⟨Tryz.f73.name,by decide,Tryz.func73.trans (congrArg some (by kernel_rfl))⟩
 t3:=Tryz.underlying3
 a3:=Tryz.isAgg3
 z3:=Tryz.sizeOf3
 v3:=Tryz.zeroValue3
 t4:=Tryz.underlying4
 a4:=Tryz.isAgg4
 z4:=Tryz.sizeOf4
 v4:=Tryz.zeroValue4
 t22:=Tryz.underlying3
 a22:=Tryz.isAgg3
 z22:=Tryz.sizeOf3
 v22:=Tryz.zeroValue3 }
end
end Go.Proofs
namespace Go.Proofs.YtdbadpnkhaepnaaGreatDoor
section
open Go Go.Shelf Go.RowKit Go.Lib Go.Sort
set_option maxHeartbeats 1000000 in
def CM (v0 v1 u0 u1:Value) (x y:Int) (W:World):Calls Tryz.prog 134 #[.agg #[v0,v1,.int .i64 x],.agg #[u0,u1,.int .i64 y]] W fun e w'=>e = .returned (.int .i64 (Lib.compareInt x y))/\∃q os',w'=grow (W.drewN q) os':=by
 have hcon:=fun W'=>AnyG.cmp_Compare_int Tryz.JC x y W'
 change ∀W',Calls Tryz.prog 44 _ _ _ at hcon
 generalize Lib.compareInt x y=r at hcon ⊢
 go_enter Tryz.func134,Tryz.ntmps134
 go_wp2_with (go_at_call 44; refine (hcon _).mono ?_; rintro e w' ⟨rfl,rfl⟩)
 go_ret
 exact ⟨rfl,0,_,by rw [alloc_eq_grow,alloc_eq_grow,grow_grow]; rfl⟩
set_option maxHeartbeats 1000000 in
def CN (v1 v2 v3 v4 v5 u1 u2 u3 u4 u5:Value) (x y:Int) (W:World):Calls Tryz.prog 195 #[.agg #[.int .i64 x,v1,v2,v3,v4,v5],.agg #[.int .i64 y,u1,u2,u3,u4,u5]] W fun e w'=>e = .returned (.int .i64 (Lib.compareInt x y))/\∃q os',w'=grow (W.drewN q) os':=by
 have hcon:=fun W'=>AnyG.cmp_Compare_int Tryz.JC x y W'
 change ∀W',Calls Tryz.prog 44 _ _ _ at hcon
 generalize Lib.compareInt x y=r at hcon ⊢
 go_enter Tryz.func195,Tryz.ntmps195
 go_wp2_with (go_at_call 44; refine (hcon _).mono ?_; rintro e w' ⟨rfl,rfl⟩)
 go_ret
 exact ⟨rfl,0,_,by rw [alloc_eq_grow,alloc_eq_grow,grow_grow]; rfl⟩
structure EL (sz p:Nat) where
 l:List Value
 hl:l.length=sz
 h1:∀v∈l,v.oneCell'=true
 n:Int
 hn:l[p]?=some (.int .i64 n)
def Tl {sz p:Nat} (a b:EL sz p):Int:=Lib.compareInt a.n b.n
def ltE {sz p:Nat} (x y:EL sz p):ltOf Tl x y=decide (x.n<y.n):=by
 unfold ltOf Tl Lib.compareInt
 by_cases h1:x.n<y.n
 ·simp [h1]
 ·by_cases h2:y.n<x.n<;>simp [h1,h2]
def ad5 {sz p:Nat}:SWO (ltOf (Tl (sz:=sz) (p:=p))) where
 irrefl x:=by rw [ltE]; simp
 trans x y z h1 h2:=by rw [ltE] at *; simp at *; omega
 ntrans x y z h1 h2:=by rw [ltE] at *; simp at *; omega
def CP [Inhabited (EL 3 2)] (blk off size:Nat) (w:World):CmpLays Tryz.prog 134 #[] (EL.l (sz:=3) (p:=2)) 3 Tl blk off size w:=fun _ _ _ _ x y=>by
 obtain ⟨l,hl,h1,n,hn⟩:=x
 obtain ⟨l',hl',h1',n',hn'⟩:=y
 match l,hl,hn,l',hl',hn' with
 | [a,b,c],_,hn,[a',b',c'],_,hn' =>
  injection hn with hn; subst hn
  injection hn' with hn'; subst hn'
  exact CM a b a' b' n n' _
def CQ [Inhabited (EL 6 0)] (blk off size:Nat) (w:World):CmpLays Tryz.prog 195 #[] (EL.l (sz:=6) (p:=0)) 6 Tl blk off size w:=fun _ _ _ _ x y=>by
 obtain ⟨l,hl,h1,n,hn⟩:=x
 obtain ⟨l',hl',h1',n',hn'⟩:=y
 match l,hl,hn,l',hl',hn' with
 | [a,b,c,d,e,f],_,hn,[a',b',c',d',e',f'],_,hn' =>
  injection hn with hn; subst hn
  injection hn' with hn'; subst hn'
  exact CN b c d e f b' c' d' e' f' n n' _
end
end Go.Proofs.YtdbadpnkhaepnaaGreatDoor
namespace Go.Abs
open Go
def Qf (p:Nat) (x:ae):Option Int:=match x.cells[p]? with
 |some (.int .i64 n)=>some n
 |_=>none
def lX (p:Nat) (x:ae):Int:=(Qf p x).getD 0
def wz (p:Nat) (x:ae):List ae->List ae
 | []=>[x]
 |y::r=>if lX p x<lX p y then x::y::r else y::wz p x r
def jW (p:Nat):List ae->List ae
 | []=>[]
 |x::r=>wz p x (jW p r)
def tP (p:Nat) (x:ae):∀l,(wz p x l).Perm (x::l)
 | [] => .refl _
 |y::r=>by
  rw [wz]
  split
  ·exact .refl _
  ·exact ((tP p x r).cons y).trans (.swap x y r)
def mh (p:Nat):∀l,(jW p l).Perm l
 | [] => .refl _
 |x::r=>(tP p x _).trans ((mh p r).cons x)
def EH (p:Nat) (x:ae):∀l:List ae,l.Pairwise (fun a b=>lX p a<=lX p b)->(wz p x l).Pairwise fun a b=>lX p a<=lX p b
 | [],_=>by simp [wz]
 |y::r,h=>by
  obtain ⟨h1,h2⟩:=List.pairwise_cons.1 h
  rw [wz]
  split
  ·rename_i hlt
   refine List.pairwise_cons.2 ⟨fun b hb=>?_,h⟩
   rcases List.mem_cons.1 hb with rfl|hb
   ·omega
   ·have:=h1 b hb; omega
  ·rename_i hge
   refine List.pairwise_cons.2 ⟨fun b hb=>?_,EH p x r h2⟩
   rcases List.mem_cons.1 ((tP p x r).mem_iff.1 hb) with rfl|hb
   ·omega
   ·exact h1 b hb
def B6 (p:Nat):∀l,(jW p l).Pairwise fun a b=>lX p a<=lX p b
 | [] => .nil
 |x::r=>EH p x _ (B6 p r)
def Ax:∀ {a b:List Int},a.Pairwise (· < ·)->b.Pairwise (· < ·)->(∀m,m∈a↔m∈b)->a=b
 | [],[],_,_,_=>rfl
 | [],y::b,_,_,h=>by have:=(h y).2 List.mem_cons_self; cases this
 |x::a,[],_,_,h=>by have:=(h x).1 List.mem_cons_self; cases this
 |x::a,y::b,ha,hb,h=>by
  obtain ⟨a1,a2⟩:=List.pairwise_cons.1 ha
  obtain ⟨b1,b2⟩:=List.pairwise_cons.1 hb
  have hxy:x=y:=by
   rcases List.mem_cons.1 ((h x).1 List.mem_cons_self) with h1|h1
   ·exact h1
   ·rcases List.mem_cons.1 ((h y).2 List.mem_cons_self) with h2|h2
    ·exact h2.symm
    ·have:=b1 x h1; have:=a1 y h2; omega
  subst hxy
  rw [Ax a2 b2 (fun m=>?_)]
  constructor
  ·intro hm
   rcases List.mem_cons.1 ((h m).1 (List.mem_cons_of_mem _ hm)) with h1|h1
   ·subst h1; have:=a1 m hm; omega
   ·exact h1
  ·intro hm
   rcases List.mem_cons.1 ((h m).2 (List.mem_cons_of_mem _ hm)) with h1|h1
   ·subst h1; have:=b1 m hm; omega
   ·exact h1
def pq {l:List Int} (h:l.Pairwise (· <= ·)) (hn:l.Nodup):l.Pairwise (· < ·):=by
 have:=List.Pairwise.and h hn
 exact this.imp fun {a b} hab=>by have:=hab.1; have:=hab.2; omega
def Ny {l:List Int} (h:l.Nodup) {i j:Nat} {a:Int} (hi:l[i]?=some a) (hj:l[j]?=some a):i=j:=by
 have hp:=List.pairwise_iff_getElem.1 h
 obtain ⟨h1,e1⟩:=List.getElem?_eq_some_iff.1 hi
 obtain ⟨h2,e2⟩:=List.getElem?_eq_some_iff.1 hj
 rcases Nat.lt_trichotomy i j with hh|hh|hh
 ·exact absurd (e1.trans e2.symm) (hp i j h1 h2 hh)
 ·exact hh
 ·exact absurd (e2.trans e1.symm) (hp j i h2 h1 hh)
def D0 {α:Type} {p:Nat} {d d':List α} {xs:List ae} (key:α->Int) (hlen:d.length=xs.length) (hkey:∀(i:Nat) (a:α) (x:ae),d[i]?=some a->xs[i]?=some x->key a=lX p x) (hnd:(xs.map (lX p)).Nodup)
  (hperm:d'.Perm d) (hs:d'.Pairwise fun a b=>key a<=key b) {q:Nat} {y:ae} (hy:(jW p xs)[q]?=some y):∃(i:Nat) (a:α),d'[q]?=some a/\d[i]?=some a/\xs[i]?=some y:=by
 have hmap:d.map key=xs.map (lX p):=by
  apply List.ext_getElem?
  intro i
  rw [List.getElem?_map,List.getElem?_map]
  rcases Nat.lt_or_ge i d.length with h|h
  ·have h':i<xs.length:=by omega
   rw [List.getElem?_eq_getElem h,List.getElem?_eq_getElem h']
   simp only [Option.map_some]
   rw [hkey i _ _ (List.getElem?_eq_getElem h) (List.getElem?_eq_getElem h')]
  ·rw [List.getElem?_eq_none h,List.getElem?_eq_none (by omega)]; rfl
 have p1:((jW p xs).map (lX p)).Perm (xs.map (lX p)):=(mh p xs).map _
 have p2:(d'.map key).Perm (xs.map (lX p)):=by rw [<-hmap]; exact hperm.map _
 have k1:((jW p xs).map (lX p)).Pairwise (· < ·):=pq (List.pairwise_map.2 (B6 p xs)) (p1.nodup_iff.2 hnd)
 have k2:(d'.map key).Pairwise (· < ·):=pq (List.pairwise_map.2 hs) (p2.nodup_iff.2 hnd)
 have heq:=Ax k1 k2 (fun m=>by rw [p1.mem_iff,p2.mem_iff])
 have h1:(d'.map key)[q]?=some (lX p y):=by rw [<-heq,List.getElem?_map,hy]; rfl
 rw [List.getElem?_map,Option.map_eq_some_iff] at h1
 obtain ⟨a,ha,hak⟩:=h1
 obtain ⟨i,hi⟩:=List.getElem?_of_mem (hperm.mem_iff.1 (List.mem_of_getElem? ha))
 have hil:=ak hi
 obtain ⟨j,hj⟩:=List.getElem?_of_mem ((mh p xs).mem_iff.1 (List.mem_of_getElem? hy))
 have hx:=List.getElem?_eq_getElem (show i<xs.length by omega)
 have hk:=hkey i a _ hi hx
 have:i=j:=Ny hnd (i:=i) (j:=j) (a:=lX p y) (by rw [List.getElem?_map,hx]; simp only [Option.map_some]; rw [<-hk,hak]) (by rw [List.getElem?_map,hj]; rfl)
 subst this
 exact ⟨i,a,ha,hi,hj⟩
noncomputable def oT (sz p g:Nat):List ae->ai->Option (ae×ai)
 | [.slice _ xs,.func g' cs],M=>match xs,cs with
  | [],[]=>if g'=g then some (.tuple [],M) else none
  |_,_=>none
 | [.bu id ver sz' lo hi,.func g' cs],M=>match nth M id,cs with
  |some (.arr sz0 v xs),[]=>aZ (v=ver/\sz'=sz/\lo=0/\hi<=xs.length/\g'=g/\hi<=1099511627776/\(∀x,x∈xs.take hi->(Qf p x).isSome=true)/\((xs.take hi).map (lX p)).Nodup)
    (some (.tuple [],dG M id (.arr sz0 v (jW p (xs.take hi)++xs.drop hi))))
  |_,_=>none
 |_,_=>none
end Go.Abs
namespace Go.Proofs.YtdbadpnkhaepnaaGreatDoor
open Go Go.Abs Go.Shelf Go.RowKit Go.Sort
def xe {sz p g f:Nat} (hp:p<sz)
  (h0:∀(A:Option Addr) (cap:Nat) (fv:Value) (w:World),Calls Tryz.prog f #[.slice A 0 cap,fv] w fun e w'=>e = .returned (.tuple #[])/\w'=w)
  (hS:∀ [Inhabited (EL sz p)] (blk cap:Nat) (d:Array (EL sz p)) (w:World),HoldsK EL.l sz w blk 0 d->blk<w.heap.size->d.size<4611686018427387904 ->
   Calls Tryz.prog f #[.slice (some ⟨blk,0,none⟩) d.size cap,.func (.func g) #[] #[]] w fun e w'=>e = .returned (.tuple #[])/\∃d' n os,PermIn 0 d.size d d'/\SortedIn (ltOf Tl) 0 d.size d'/\w'=sortWorldK EL.l sz w blk 0 n d' os)
  {args:List ae} {M:ai} {x:ae×ai} (h:oT sz p g args M=some x):bl Tryz.prog f args M x:=by
 unfold oT at h
 split at h
 ·rename_i tk xs g' cs
  split at h
  ·split at h
   ·rename_i hg
    subst hg
    injection h with h; subst h
    refine fZ.call ?_
    intro j w vs hr hG hl hv
    obtain ⟨l⟩:=vs
    match l,hl with
    | [u1,u2],_ =>
     obtain ⟨A,cap,b,off,sz0,vs,e1,_⟩:=(hv 0 _ u1 rfl rfl).bA.bA
     subst e1
     refine (h0 A cap u2 w).mono ?_
     rintro e w' ⟨rfl,rfl⟩
     exact ⟨_,j,rfl,hr,Ext.refl _ _ _,.tuple rfl fun i c v hi=>by cases hi⟩
   ·cases h
  ·cases h
 ·rename_i ix ver sz' lo hi g' cs
  rw [bW] at h
  split at h
  ·rename_i sz0 v0 xs hM
   obtain ⟨⟨rfl,rfl,rfl,hhi,rfl,hbig,hk,hnd⟩,h1⟩:=bc h
   injection h1 with h1; subst h1
   refine fZ.call ?_
   intro j w vs hr hG hl hv
   obtain ⟨l⟩:=vs
   match l,hl with
   | [u1,u2],_ =>
    have ha:=hv 0 _ u1 rfl rfl
    obtain ⟨us,hu2,hul,_⟩:=(hv 1 _ u2 rfl rfl).kI
    have hu0:us = #[]:=Array.eq_empty_of_size_eq_zero (by simpa using hul.symm)
    subst hu0
    rw [hu2]
    rcases Nat.eq_zero_or_pos hi with h00|hpos
    ·subst h00
     obtain ⟨A,cap,e1⟩:=ha.rK
     rw [e1]
     refine (h0 A cap _ w).mono ?_
     rintro e w' ⟨rfl,rfl⟩
     have he:dG M ix (.arr sz0 v0 (jW p (xs.take 0)++xs.drop 0))=M:=by
      rw [cF]
      apply List.ext_getElem?
      intro q
      by_cases e:ix=q
      ·subst e; rw [bf (ak hM),hM]; rfl
      ·rw [aO e]
     rw [he]
     exact ⟨_,j,rfl,hr,Ext.refl _ _ _,.tuple rfl fun i c v hi=>by cases hi⟩
    ·obtain ⟨_,hid,_,gg⟩:=ha.gW
     obtain ⟨e1,_,_,⟨hx,_⟩|⟨b,cap,row,t0,l3,l4,l5,l6,l7⟩⟩:=(gg sz0 v0 xs hM).2 rfl
     ·subst hx; simp at hhi; omega
     subst e1
     obtain ⟨b',row0,t',k1,k2,k3,k4,k5⟩:=hr.rL hM l3
     rw [l3] at k1; injection k1 with k1; subst k1
     rw [l6] at k2; injection k2 with k2; injection k2 with k2 k2'
     subst k2; subst k2'
     have hrow:hi*sz0<=row.size:=Nat.le_trans (Nat.mul_le_mul_right _ hhi) k3
     -- the elements
     have hidx:∀q k,q<hi->k<sz0->q*sz0+k<hi*sz0:=fun q k hq hk'=>by
      have:(q+1)*sz0<=hi*sz0:=Nat.mul_le_mul_right _ hq
      rw [Nat.succ_mul] at this; omega
     have hel:∀q,q<hi->∃a:EL sz0 p,(∀k,k<sz0->a.l[k]?=row[q*sz0+k]?)/\∀x,xs[q]?=some x->a.n=lX p x:=by
      intro q hq
      have hxq:xs[q]?=some (xs[q]'(by omega)):=List.getElem?_eq_getElem (by omega)
      have hwq:=k4 _ (List.mem_of_getElem? hxq)
      have hcell:∀k,k<sz0->∃u,row[q*sz0+k]?=some u/\∃c,(xs[q]'(by omega)).cells[k]?=some c/\bX w (gv j M w) c u:=fun k hk'=>by
       have hc:=List.getElem?_eq_getElem (l:=(xs[q]'(by omega)).cells) (i:=k) (by omega)
       obtain ⟨u,h1,h2⟩:=k5 q _ k _ hxq hc
       exact ⟨u,h1,_,hc,h2⟩
      have hkx:=hk _ (List.mem_of_getElem? (show (xs.take hi)[q]?=_ by rw [List.getElem?_take_of_lt hq]; exact hxq))
      have hlen:((row.toList.drop (q*sz0)).take sz0).length=sz0:=by
       have:=hidx q (sz0-1) hq (by omega)
       simp; omega
      have hget:∀k,k<sz0->((row.toList.drop (q*sz0)).take sz0)[k]?=row[q*sz0+k]?:=fun k hk'=>by
       rw [List.getElem?_take_of_lt hk',List.getElem?_drop]; simp
      obtain ⟨u,hu1,c,hc1,hc2⟩:=hcell p hp
      obtain ⟨n,hn⟩:∃n,c = .int .i64 n:=by
       unfold Qf at hkx
       rw [hc1] at hkx
       split at hkx
       ·rename_i hh; injection hh with hh; exact ⟨_,hh⟩
       ·cases hkx
      subst hn
      have hu:=(cm.plain (j:=j) (M:=M) hc2).cg
      subst hu
      refine ⟨⟨(row.toList.drop (q*sz0)).take sz0,hlen,fun v hv=>?_,n,by rw [hget p hp]; exact hu1⟩,hget,fun x hx=>?_⟩
      ·obtain ⟨k,hk'⟩:=List.getElem?_of_mem hv
       have hkl:k<sz0:=by rw [<-hlen]; exact ak hk'
       obtain ⟨u,h1,c,_,h3⟩:=hcell k hkl
       rw [hget k hkl,h1] at hk'; injection hk' with hk'; subst hk'
       exact h3.one
      ·rw [hxq] at hx; injection hx with hx; subst hx
       simp [lX,Qf,hc1]
     obtain ⟨d,hdl,hd⟩:∃d:List (EL sz0 p),d.length=hi/\∀q a,d[q]?=some a->(∀k,k<sz0->a.l[k]?=row[q*sz0+k]?)/\∀x,xs[q]?=some x->a.n=lX p x:=by
      refine ⟨(List.finRange hi).map fun q=>(hel q.1 q.2).choose,by simp,fun q a ha=>?_⟩
      rw [List.getElem?_map,Option.map_eq_some_iff] at ha
      obtain ⟨i,hi',rfl⟩:=ha
      have hq:q<hi:=by have:=ak hi'; simpa using this
      have:i=⟨q,hq⟩:=by
       have h1:=(List.getElem?_eq_some_iff.1 hi').2
       rw [<-h1]; simp
      subst this
      exact (hel q hq).choose_spec
     haveI:Inhabited (EL sz0 p):=⟨(hel 0 hpos).choose⟩
     have hget! : ∀q,q<hi->d[q]?=some d.toArray[q]! := fun q hq=>by
      rw [List.getElem?_eq_getElem (by omega),getElem!_pos d.toArray q (by simpa [hdl] using hq)]
      simp
     have hfl:∀t,t<hi*sz0->row[t]?=some (d.toArray[t / sz0]!.l[t % sz0]!):=fun t ht=>by
      have hq:t / sz0<hi:=(Nat.div_lt_iff_lt_mul (by omega)).2 ht
      have hm:t % sz0<sz0:=Nat.mod_lt _ (by omega)
      have h1:=(hd _ _ (hget! _ hq)).1 _ hm
      rw [Nat.div_add_mod'] at h1
      rw [<-h1]
      have h2:t % sz0<d.toArray[t / sz0]!.l.length:=by rw [(d.toArray[t / sz0]!).hl]; exact hm
      rw [List.getElem?_eq_getElem h2,getElem!_pos (d.toArray[t / sz0]!.l) (t % sz0) h2]
     have hH:HoldsK EL.l sz0 w b 0 d.toArray:=fun t ht=>by
      simp only [size_flatK,List.size_toArray,hdl] at ht
      rw [get_flatK _ _ _ _ (by simpa [hdl] using ht)]
      refine ⟨?_,?_⟩
      ·simp only [Nat.zero_add,World.cell?,l6,id]
       exact hfl t ht
      ·simp [World.frozen?,l6]
     rw [l4,Nat.sub_zero,Nat.zero_mul]
     have hcall:=hS b cap d.toArray w hH (lt_of_block l6) (by simp [hdl]; omega)
     simp only [List.size_toArray,hdl] at hcall
     refine hcall.mono ?_
     rintro e1 w' ⟨rfl,d',n,os,hperm,hsort,rfl⟩
     obtain ⟨hs1,_,hs3⟩:=hperm
     simp only [List.size_toArray,hdl] at hs1
     have hperm':d'.toList.Perm d:=by
      have e1:(d'.extract 0 hi).toList=d'.toList:=by rw [<-hs1]; simp
      have e2:(d.toArray.extract 0 hi).toList=d:=by rw [<-hdl]; simp
      rw [e1,e2] at hs3; exact hs3
     have hpw:d'.toList.Pairwise fun a b=>a.n<=b.n:=by
      rw [List.pairwise_iff_getElem]
      intro i k hi1 hk1 hik
      have hk2:k<d'.size:=by simpa using hk1
      have:=hsort i k (Nat.zero_le _) hik (by omega)
      rw [ltE,getElem!_pos d' k hk2,getElem!_pos d' i (by omega)] at this
      simp at this ⊢
      omega
     have hmatch:∀(q:Nat) (y:ae),(jW p (xs.take hi))[q]?=some y->∃(i:Nat) (a:EL sz0 p),d'.toList[q]?=some a/\d[i]?=some a/\(xs.take hi)[i]?=some y:=fun q y hy =>
      D0 (fun a:EL sz0 p=>a.n) (by simp [hdl]; omega) (fun i a x h1 h2=>(hd i a h1).2 x (by
       have hlt:i<hi:=by have:=ak h2; simp at this; omega
       rwa [List.getElem?_take_of_lt hlt] at h2)) hnd hperm' hpw hy
     -- the world behind
     have hbk:(sortWorldK EL.l sz0 w b 0 n d' os).heap[b]?=some (.cells (Go.Sort.putCells id 0 (flatK EL.l sz0 d') row) t0 (0,0)):=by
      have hlt:=lt_of_block l6
      show ((w.heap.modify b (onCells (Go.Sort.putCells id 0 (flatK EL.l sz0 d'))))++os)[b]?=_
      rw [Array.getElem?_append_left (by simpa using hlt),Array.getElem?_modify,if_pos rfl,l6]
      rfl
     have hq:Quiet w (sortWorldK EL.l sz0 w b 0 n d' os):=⟨by show w.heap.size<=((w.heap.modify b _)++os).size; simp,rfl,rfl,rfl⟩
     have hoth:∀b',b'≠b->b'<w.heap.size->(sortWorldK EL.l sz0 w b 0 n d' os).heap[b']?=w.heap[b']?:=fun b' hne hlt=>by
      show ((w.heap.modify b _)++os)[b']?=_
      rw [Array.getElem?_append_left (by simpa using hlt),Array.getElem?_modify,if_neg (Ne.symm hne)]
     have hsl:(jW p (xs.take hi)).length=hi:=by rw [(mh p _).length_eq]; simp; omega
     have hwd:wid (jW p (xs.take hi)++xs.drop hi) sz0:=gr (fun x hx=>k4 x (List.mem_of_mem_take ((mh p _).mem_iff.1 hx))) (nW k4)
     have hcells:∀t,t<hi*sz0->(Go.Sort.putCells id 0 (flatK EL.l sz0 d') row)[t]?=some (d'[t / sz0]!.l[t % sz0]!):=fun t ht=>by
      unfold Go.Sort.putCells
      rw [Array.getElem?_mapIdx,Array.getElem?_eq_getElem (show t<row.size by omega)]
      simp only [Option.map_some,size_flatK,hs1,Nat.zero_add,Nat.sub_zero,Nat.zero_le,true_and,ht,if_true,id]
      rw [get_flatK _ _ _ _ (by rw [hs1]; exact ht)]
     have hrl:RL w (gv j M w) (dX (jW p (xs.take hi)++xs.drop hi)) ((Go.Sort.putCells id 0 (flatK EL.l sz0 d') row).toList.take (xs.length*sz0)):=by
      have hpsz:(Go.Sort.putCells id 0 (flatK EL.l sz0 d') row).size=row.size:=by simp [Go.Sort.putCells]
      refine pN (b:=b) (by rw [hpsz]; simpa [hsl,Nat.add_sub_cancel' hhi] using k3) hwd (fun q x k c hx hkc=>?_) |> fun h=>by
       have e:(jW p (xs.take hi)++xs.drop hi).length=xs.length:=by simp [hsl]; omega
       rwa [e] at h
      have hkl:k<sz0:=by rw [<-hwd x (List.mem_of_getElem? hx)]; exact ak hkc
      rcases Nat.lt_or_ge q hi with hq'|hq'
      ·rw [List.getElem?_append_left (by rw [hsl]; exact hq')] at hx
       obtain ⟨i,a,h1,h2,h3⟩:=hmatch q x hx
       have hi':i<hi:=by have:=ak h3; simp at this; omega
       rw [List.getElem?_take_of_lt hi'] at h3
       obtain ⟨u,g1,g2⟩:=k5 i x k c h3 hkc
       refine ⟨u,?_,g2⟩
       rw [hcells _ (hidx q k hq' hkl)]
       have hdv:(q*sz0+k) / sz0=q:=by rw [Nat.mul_comm,Nat.mul_add_div (by omega),Nat.div_eq_of_lt hkl]; rfl
       have hmd:(q*sz0+k) % sz0=k:=by rw [Nat.mul_comm,Nat.mul_add_mod,Nat.mod_eq_of_lt hkl]
       rw [hdv,hmd]
       have ha':d'[q]! = a:=by
        have hq2:q<d'.size:=by omega
        rw [getElem!_pos d' q hq2]
        simpa [Array.getElem?_eq_getElem hq2] using h1
       rw [ha',<-g1,<-(hd i a h2).1 k hkl]
       have:k<a.l.length:=by rw [a.hl]; exact hkl
       rw [List.getElem?_eq_getElem this,getElem!_pos a.l k this]
      ·rw [List.getElem?_append_right (by rw [hsl]; exact hq'),hsl,List.getElem?_drop,Nat.add_sub_cancel' hq'] at hx
       obtain ⟨u,g1,g2⟩:=k5 q x k c hx hkc
       refine ⟨u,?_,g2⟩
       unfold Go.Sort.putCells
       have hge:hi*sz0<=q*sz0+k:=Nat.le_trans (Nat.mul_le_mul_right _ hq') (Nat.le_add_right _ _)
       rw [Array.getElem?_mapIdx,g1]
       simp only [Option.map_some,size_flatK,hs1,Nat.zero_add]
       rw [if_neg (by omega)]
     rw [cF]
     have hput:=pM (ver':=v0) (xs':=jW p (xs.take hi)++xs.drop hi) hr hM l3 hq hoth l6 hbk (by simp [Go.Sort.putCells]) (Nat.le_refl _) (fun _=>by simp [hsl]; omega) hwd hrl (fun t ht=>by
      rw [List.getElem?_take_of_lt (by simp at ht; omega)]; simp)
     exact ⟨_,j,rfl,hput.1,hput.2,.tuple rfl fun i c v hi=>by cases hi⟩
  ·cases h
 ·cases h
def OE {args:List ae} {M:ai} {x:ae×ai} (h:oT 3 2 134 args M=some x):bl Tryz.prog 133 args M x :=
 xe (by omega) (fun A cap fv w=>AnyF.slices_SortFunc_none Tryz.Fm A cap fv w)
  (fun blk cap d w hH hb hs=>(AnyQ.slices_SortFunc Tryz.Fm 3 Tryz.isAgg128 Tryz.sizeOf128 EL.l (fun x=>x.hl) (fun x=>x.h1) Tl ad5 134 #[] blk 0 cap d w (enters_of Tryz.func134 (by kernel_rfl) rfl) (CP blk 0 d.size w) hH hb hs)) h
def OG {args:List ae} {M:ai} {x:ae×ai} (h:oT 6 0 195 args M=some x):bl Tryz.prog 194 args M x :=
 xe (by omega) (fun A cap fv w=>AnyF.slices_SortFunc_none Tryz.B7 A cap fv w)
  (fun blk cap d w hH hb hs=>(AnyQ.slices_SortFunc Tryz.B7 6 Tryz.isAgg83 Tryz.sizeOf83 EL.l (fun x=>x.hl) (fun x=>x.h1) Tl ad5 195 #[] blk 0 cap d w (enters_of Tryz.func195 (by kernel_rfl) rfl) (CQ blk 0 d.size w) hH hb hs)) h
end Go.Proofs.YtdbadpnkhaepnaaGreatDoor
namespace Go.Proofs.YtdbadpnkhaepnaaGreatDoor
open Go Go.Abs
noncomputable def kN (sz:Nat) (args:List ae) (M:ai):Option (ae×ai):=aK (fg sz args M) fun x=>some (x.1.ou x.2,lr x.2 x.1.ids)
def x8 {P:Program} {f:Nat} {args:List ae} {M:ai} {x:ae×ai} (h:bl P f args M x) (hx:x.1.dK=false):bl P f args M (x.1.ou x.2,lr x.2 x.1.ids):=by
 intro j w vs h1 h2 h3 h4
 refine (h j w vs h1 h2 h3 h4).mono ?_
 intro e w' hc
 obtain ⟨v,rfl,j',g1,g2,g3⟩:=hc.ret hx
 obtain ⟨f1,f2,f3,f4⟩:=vp x.1.ids g1
 exact .inl ⟨v,rfl,j',f2,g2.trans f1,g3.ou g1 f1 f2 f3 f4⟩
def BN {sz:Nat} {args:List ae} {M:ai} {x:ae×ai} (h:fg sz args M=some x):x.1.dK=false:=by
 unfold fg at h
 split at h
 ·split at h
  ·obtain ⟨_,h⟩:=bc h
   injection h with h; subst h; rfl
  ·cases h
 ·cases h
def vX {P:Program} {f sz:Nat} (hd:∀ {args:List ae} {M:ai} {x:ae×ai},fg sz args M=some x->bl P f args M x)
  {args:List ae} {M:ai} {x:ae×ai} (h:kN sz args M=some x):bl P f args M x:=by
 obtain ⟨y,h1,h2⟩:=av h
 injection h2 with h2; subst h2
 exact x8 (hd h1) (BN h1)
def CV {args:List ae} {M:ai} {x:ae×ai} (h:kN 3 args M=some x):bl Tryz.prog 143 args M x:=vX F9 h
def CW {args:List ae} {M:ai} {x:ae×ai} (h:kN 3 args M=some x):bl Tryz.prog 152 args M x:=vX Ga h
end Go.Proofs.YtdbadpnkhaepnaaGreatDoor
namespace Go.Proofs.YtdbadpnkhaepnaaGreatDoor
section
open Go Go.Abs Go.RowKit
set_option maxHeartbeats 1000000 in
set_option maxRecDepth 100000 in
def CS (a b:ByteArray) (w:World) :
  Calls Tryz.prog 208 #[.string a,.string b] w fun e w'=>e = .returned (.int .i64 (Lib.compareBytes a.data.toList b.data.toList))/\w'=w:=by
 go_enter Tryz.func208,Tryz.ntmps208
 go_wp2
 rw [run_callFunc_extern Tryz.func231 (by kernel_rfl) (by kernel_rfl) (by kernel_rfl) (e:=Extern.BytealgCompare.compare) (by kernel_rfl),Lib.run_compareString]
 simp only [Result.andThen]
 rw [Oper.upon_value]
 go_wp2
 go_ret
 exact ⟨rfl,rfl⟩
noncomputable def sy:List ae->ai->Option (ae×ai)
 | [.str a,.str b],M=>some (.int .i64 (Lib.compareBytes a b),M)
 |_,_=>none
def AR {args:List ae} {M:ai} {x:ae×ai} (h:sy args M=some x):bl Tryz.prog 208 args M x:=by
 unfold sy at h
 split at h
 ·rename_i a b
  injection h with h; subst h
  refine fZ.call ?_
  intro j w vs hr hG hl hv
  obtain ⟨l⟩:=vs
  match l,hl with
  | [u1,u2],_ =>
   have h1:=(hv 0 _ u1 rfl rfl).dS
   have h2:=(hv 1 _ u2 rfl rfl).dS
   subst h1; subst h2
   refine (CS (bs a) (bs b) w).mono ?_
   rintro e w' ⟨rfl,rfl⟩
   exact ⟨_,j,rfl,hr,.refl _ _ _,.plain (.int _ _)⟩
 ·cases h
end
end Go.Proofs.YtdbadpnkhaepnaaGreatDoor
namespace Go.Proofs
section
open Go.Shelf
def Tryz.uT:Go.Shelf.Ren:=⟨fun|156=>199|165=>226|166=>227|169=>228|240=>249|241=>250|276=>257|277=>258|n=>n,fun|31=>45|9=>9|3=>3|4=>4|0=>0|20=>20|72=>311|76=>312|70=>309|37=>39|75=>76|127=>329|164=>112|5=>5|80=>314|n=>n,fun|n=>n⟩
def Tryz.EM:Go.Proofs.Lays.n156 Tryz.prog Tryz.uT:={
 mixed:=by kernel_rfl
 f156:=Tryz.func199.trans (congrArg some (by kernel_rfl))
 f165:=Tryz.func226.trans (congrArg some (by kernel_rfl))
 f166:=Tryz.func227.trans (congrArg some (by kernel_rfl))
 f169:=Tryz.func228.trans (congrArg some (by kernel_rfl))
 f240:=Tryz.func249.trans (congrArg some (by kernel_rfl))
 f241:=Tryz.func250.trans (congrArg some (by kernel_rfl))
 f276:=Tryz.func257.trans (congrArg some (by kernel_rfl))
 f277:=Tryz.func258.trans (congrArg some (by kernel_rfl))
 t0:=Tryz.underlying0
 a0:=Tryz.isAgg0
 z0:=Tryz.sizeOf0
 v0:=Tryz.zeroValue0
 t3:=Tryz.underlying3
 a3:=Tryz.isAgg3
 z3:=Tryz.sizeOf3
 v3:=Tryz.zeroValue3
 t4:=Tryz.underlying4
 a4:=Tryz.isAgg4
 z4:=Tryz.sizeOf4
 v4:=Tryz.zeroValue4
 t9:=Tryz.underlying9
 a9:=Tryz.isAgg9
 z9:=Tryz.sizeOf9
 v9:=Tryz.zeroValue9
 t20:=Tryz.underlying20
 a20:=Tryz.isAgg20
 z20:=Tryz.sizeOf20
 v20:=Tryz.zeroValue20
 t31:=Tryz.underlying45
 a31:=Tryz.isAgg45
 z31:=Tryz.sizeOf45
 v31:=Tryz.zeroValue45
 t37:=Tryz.underlying39
 a37:=Tryz.isAgg39
 z37:=Tryz.sizeOf39
 v37:=Tryz.zeroValue39
 t70:=Tryz.underlying309
 a70:=Tryz.isAgg309
 z70:=Tryz.sizeOf309
 v70:=Tryz.zeroValue309
 t72:=Tryz.underlying311
 a72:=Tryz.isAgg311
 z72:=Tryz.sizeOf311
 v72:=Tryz.zeroValue311
 t75:=Tryz.underlying76
 a75:=Tryz.isAgg76
 z75:=Tryz.sizeOf76
 v75:=Tryz.zeroValue76
 t76:=Tryz.underlying312
 a76:=Tryz.isAgg312
 z76:=Tryz.sizeOf312
 v76:=Tryz.zeroValue312
 t127:=Tryz.underlying329
 a127:=Tryz.isAgg329
 z127:=Tryz.sizeOf329
 v127:=Tryz.zeroValue329
 t164:=Tryz.underlying112
 a164:=Tryz.isAgg112
 z164:=Tryz.sizeOf112
 v164:=Tryz.zeroValue112 }
def Tryz.mC:Builder.Extra Tryz.prog Tryz.uT:={
 sizeBuilder:=by kernel_rfl
 liesBuilder:=by kernel_rfl
 t5:=Tryz.underlying5
 a5:=Tryz.isAgg5
 z5:=Tryz.sizeOf5
 v5:=Tryz.zeroValue5
 infoByte:=by kernel_rfl
 cellsByte:=by kernel_rfl
 sizeByte:=by kernel_rfl
 neB5:=by decide }
open Go.RowKit in
def Tryz.strings_Join_none (a:Option Addr) (c:Nat) (sep:ByteArray) (w:World) :
  Calls Tryz.prog 199 #[.slice a 0 c,.string sep] w fun e w'=>e = .returned (.string ⟨#[]⟩)/\w'=w:=Any.strings_Join_none Tryz.EM Tryz.mC a c sep w
open Go.RowKit in
def Tryz.strings_Join (bk o c:Nat) (xs:List ByteArray) (sep:ByteArray) (w:World) (hcells:∀(j:Nat) x,xs[j]?=some x->w.cell? ⟨bk,o+j,none⟩=some (.string x)) (hbk:bk<w.heap.size) (hN:xs.length<=140737488355328) (hcap:xs.length<=c) (hlen:(Lib.join (xs.map (·.data.toList)) sep.data.toList).length<=140737488355328) :
  Calls Tryz.prog 199 #[.slice (some ⟨bk,o,none⟩) xs.length c,.string sep] w fun e w'=>e = .returned (.string ⟨(Lib.join (xs.map (·.data.toList)) sep.data.toList).toArray⟩)/\Below w.heap.size w w':=Any.strings_Join Tryz.EM Tryz.mC bk o c xs sep w hcells hbk hN hcap hlen
def Tryz.Bw:Go.Shelf.Ren:=⟨fun|137=>198|217=>225|266=>248|n=>n,fun|9=>9|5=>5|3=>3|n=>n,fun|n=>n⟩
def Tryz.Qj:Go.Proofs.Lays.n137 Tryz.prog Tryz.Bw:={
 mixed:=by kernel_rfl
 f137:=Tryz.func198.trans (congrArg some (by kernel_rfl))
 f217:=Tryz.func225.trans (congrArg some (by kernel_rfl))
 f266:=Tryz.func248.trans (congrArg some (by kernel_rfl))
 t3:=Tryz.underlying3
 a3:=Tryz.isAgg3
 z3:=Tryz.sizeOf3
 v3:=Tryz.zeroValue3
 t5:=Tryz.underlying5
 a5:=Tryz.isAgg5
 z5:=Tryz.sizeOf5
 v5:=Tryz.zeroValue5
 t9:=Tryz.underlying9
 a9:=Tryz.isAgg9
 z9:=Tryz.sizeOf9
 v9:=Tryz.zeroValue9 }
open Go.RowKit in
def Tryz.strings_IndexByte (s:ByteArray) (c:Int) (w:World) :
  Calls Tryz.prog 198 #[.string s,.int .u8 c] w fun e w'=>e = .returned (.int .i64 (Lib.indexByte s.data.toList c.toNat.toUInt8))/\w'=w:=Any.strings_IndexByte Tryz.Qj s c w
end
end Go.Proofs
namespace Go.Proofs.YtdbadpnkhaepnaaGreatDoor
section
open Go Go.Abs Go.RowKit
def vd {P:Program} {f:Nat} {args:List ae} {M:ai} {r:ae}
  (h:∀(j:J) (w:World) (vs:Array Value),Rel j M w->kS j M w->args.length=vs.size->(∀(i:Nat) (c:ae) (v:Value),args[i]?=some c->vs[i]?=some v->cm j M w c v) ->
   Calls P f vs w fun e w'=>∃v,e = .returned v/\Below w.heap.size w w'/\cm j M w' r v):bl P f args M (r,M):=by
 refine fZ.call ?_
 intro j w vs hr hG hl hv
 refine (h j w vs hr hG hl hv).mono ?_
 rintro e w' ⟨v,rfl,hb,hrep⟩
 exact ⟨v,j,rfl,hr.grow hb.size hb.os hb.tape hb.output hb.block,Ext.grow hb.size hb.os hb.tape hb.output hb.block,hrep⟩
def ru:List ae->ai->Option (ae×ai)
 | [.str s,.int k c],M=>if k = .u8 then some (.int .i64 (Lib.indexByte s c.toNat.toUInt8),M) else none
 |_,_=>none
def Di {args:List ae} {M:ai} {x:ae×ai} (h:ru args M=some x):bl Tryz.prog 198 args M x:=by
 unfold ru at h
 split at h
 ·rename_i s k c
  split at h
  ·rename_i hk
   subst hk
   injection h with h; subst h
   refine vd fun j w vs hr hG hl hv=>?_
   obtain ⟨l⟩:=vs
   match l,hl with
   | [u1,u2],_ =>
    obtain rfl:=(hv 0 _ u1 rfl rfl).dS
    obtain rfl:=(hv 1 _ u2 rfl rfl).cg
    refine (Tryz.strings_IndexByte (bs s) c w).mono ?_
    rintro e w' ⟨rfl,rfl⟩
    exact ⟨_,rfl,Below.refl _ _,by simp [bs]; exact .plain (.int _ _)⟩
  ·cases h
 ·cases h
def ur:List ae->Option (List (List UInt8))
 | []=>some []
 | .str s::r=>aK (ur r) fun l=>some (s::l)
 |_=>none
def yR:∀ {xs:List ae} {l:List (List UInt8)},ur xs=some l->xs=l.map .str
 | [],l,h=>by cases h; rfl
 |x::r,l,h=>by
  unfold ur at h
  split at h
  ·rename_i e; cases e
  ·rename_i s r' e
   injection e with e1 e2; subst e1; subst e2
   obtain ⟨l',h1,h2⟩:=av h
   injection h2 with h2; subst h2
   rw [yR h1]; rfl
  ·cases h
def BO:List ae->ai->Option (ae×ai)
 | [.slice _ xs,.str sep],M=>aK (ur xs) fun l=>if l.length<=140737488355328/\(Lib.join l sep).length<=140737488355328 then some (.str (Lib.join l sep),M) else none
 |_,_=>none
def abl {args:List ae} {M:ai} {x:ae×ai} (h:BO args M=some x):bl Tryz.prog 199 args M x:=by
 unfold BO at h
 split at h
 ·rename_i tk xs sep
  obtain ⟨l,hl0,h⟩:=av h
  have hxs:=yR hl0
  split at h
  ·rename_i hs
   injection h with h; subst h
   refine vd fun j w vs hr hG hl hv=>?_
   obtain ⟨us⟩:=vs
   match us,hl with
   | [u1,u2],_ =>
    obtain ⟨A,cap,b,off,sz,vs,e1,e2,e3,e4,e5,e6⟩:=(hv 0 _ u1 rfl rfl).bA.bA
    obtain rfl:=(hv 1 _ u2 rfl rfl).dS
    subst e1
    subst hxs
    cases l with
    |nil =>
     refine (Tryz.strings_Join_none A cap (bs sep) w).mono ?_
     rintro e w' ⟨rfl,rfl⟩
     exact ⟨_,rfl,Below.refl _ _,.plain (.str _)⟩
    |cons s0 l =>
     obtain rfl:=e3 (by simp)
     have hsz:sz=1:=(e4 (.str s0) (by simp)).symm
     subst hsz
     have cell:∀(q:Nat) (s:List UInt8),(s0::l)[q]?=some s->w.cell? ⟨b,off+q,none⟩=some (.string (bs s)):=fun q s hq=>by
      have hq':((s0::l).map ae.str)[q]?=some (.str s):=by rw [List.getElem?_map,hq]; rfl
      have k1:=e5 q _ 0 (.str s) hq' rfl
      have k2:=(cm.plain (j:=j) (M:=M) (e6 q _ 0 (.str s) hq' rfl)).dS
      simp only [Nat.mul_one,Nat.add_zero] at k1 k2
      rw [k1.1,k2]
     have hmap:((s0::l).map bs).map (·.data.toList)=s0::l:=by
      rw [List.map_map]; conv=>rhs; rw [<-List.map_id (s0::l)]
      exact List.map_congr_left fun s _=>by simp [bs]
     have hd:(bs sep).data.toList=sep:=by simp [bs]
     have hb:b<w.heap.size:=by
      have:=cell 0 s0 rfl
      rcases Nat.lt_or_ge b w.heap.size with h|h
      ·exact h
      ·simp [World.cell?,Array.getElem?_eq_none h] at this
     have hJ:=Tryz.strings_Join b off cap ((s0::l).map bs) (bs sep) w (fun q x hq=>by
      rw [List.getElem?_map,Option.map_eq_some_iff] at hq
      obtain ⟨s,hs,rfl⟩:=hq
      exact cell q s hs) hb (by simpa using hs.1) (by simpa using e2) (by rw [hmap,hd]; exact hs.2)
     rw [hmap,hd] at hJ
     have:((s0::l).map bs).length=((s0::l).map ae.str).length:=by simp
     rw [this] at hJ
     refine hJ.mono ?_
     rintro e w' ⟨rfl,hb⟩
     exact ⟨_,rfl,hb,.plain (.str _)⟩
  ·cases h
 ·cases h
end
end Go.Proofs.YtdbadpnkhaepnaaGreatDoor
namespace Go.Abs
section
open Go
def TG0:(∀(B:Nat) (M:ai) (b:Bool),ae.dD B M (.bool b)=(.bool b)) /\
  (∀(B:Nat) (M:ai) (b:Bool),ae.fc B M (.bool b)=(.bool b)) /\
  (∀(B:Nat) (M:ai) (b:Bool),ae.eS B M (.bool b)=(.bool b)) /\
  (∀(B:Nat) (M:ai) (b:Bool),ae.gu B M (.bool b)=(.bool b)) /\
  (∀(B:Nat) (M:ai) (b:Bool),ae.dV B M (.bool b)=(.bool b)) /\
  (∀(B:Nat) (M:ai) (b:Bool),ae.ef B M (.bool b)=(.bool b)) /\
  (∀(B:Nat) (M:ai) (b:Bool),ae.fO B M (.bool b)=(.bool b)) /\
  (∀(b:Bool),ae.shut (.bool b)=(.bool b)) /\
  (∀(b:Bool),ae.cB (.bool b)=(.bool b)) /\
  (∀(b:Bool),ae.dK (.bool b)=false) /\
  (∀(b:Bool),ae.cells? (.bool b)=some [(.bool b)]) /\
  (∀(b:Bool),ae.cZ (.bool b)=true) /\
  (∀(b:Bool),ae.plainCell (.bool b)=true) /\
  (∀(b:Bool),ae.plain (.bool b)=true) /\
  (∀(b:Bool),ae.cells (.bool b)=[(.bool b)]) /\
  (∀(b:Bool),ae.cQ (.bool b)=[]) /\
  (∀(b:Bool),ae.fV (.bool b)=[]) /\
  (∀(b:Bool),ae.ids (.bool b)=[]) /\
  (∀(M:ai) (b:Bool),ae.gY M (.bool b)=(.bool b)) /\
  (∀(M:ai) (b:Bool),ae.ou M (.bool b)=(.bool b)) /\
  (∀(B:Nat) (M:ai) (k:IntKind) (n:Int),ae.dD B M (.int k n)=(.int k n)) /\
  (∀(B:Nat) (M:ai) (k:IntKind) (n:Int),ae.fc B M (.int k n)=(.int k n)) /\
  (∀(B:Nat) (M:ai) (k:IntKind) (n:Int),ae.eS B M (.int k n)=(.int k n)) /\
  (∀(B:Nat) (M:ai) (k:IntKind) (n:Int),ae.gu B M (.int k n)=(.int k n)) /\
  (∀(B:Nat) (M:ai) (k:IntKind) (n:Int),ae.dV B M (.int k n)=(.int k n)) /\
  (∀(B:Nat) (M:ai) (k:IntKind) (n:Int),ae.ef B M (.int k n)=(.int k n)) /\
  (∀(B:Nat) (M:ai) (k:IntKind) (n:Int),ae.fO B M (.int k n)=(.int k n)) /\
  (∀(k:IntKind) (n:Int),ae.shut (.int k n)=(.int k n)) /\
  (∀(k:IntKind) (n:Int),ae.cB (.int k n)=(.int k n)) /\
  (∀(k:IntKind) (n:Int),ae.dK (.int k n)=false) /\
  (∀(k:IntKind) (n:Int),ae.cells? (.int k n)=some [(.int k n)]) /\
  (∀(k:IntKind) (n:Int),ae.cZ (.int k n)=true) /\
  (∀(k:IntKind) (n:Int),ae.plainCell (.int k n)=true) /\
  (∀(k:IntKind) (n:Int),ae.plain (.int k n)=true) /\
  (∀(k:IntKind) (n:Int),ae.cells (.int k n)=[(.int k n)]) /\
  (∀(k:IntKind) (n:Int),ae.cQ (.int k n)=[]) /\
  (∀(k:IntKind) (n:Int),ae.fV (.int k n)=[]) /\
  (∀(k:IntKind) (n:Int),ae.ids (.int k n)=[]) /\
  (∀(M:ai) (k:IntKind) (n:Int),ae.gY M (.int k n)=(.int k n)) /\
  (∀(M:ai) (k:IntKind) (n:Int),ae.ou M (.int k n)=(.int k n)):=by
 refine ⟨?_,?_,?_,?_,?_,?_,?_,?_,?_,?_,?_,?_,?_,?_,?_,?_,?_,?_,?_,?_,?_,?_,?_,?_,?_,?_,?_,?_,?_,?_,?_,?_,?_,?_,?_,?_,?_,?_,?_,?_⟩<;>intros<;>rfl
def TG1:(∀(B:Nat) (M:ai) (s:List UInt8),ae.dD B M (.str s)=(.str s)) /\
  (∀(B:Nat) (M:ai) (s:List UInt8),ae.fc B M (.str s)=(.str s)) /\
  (∀(B:Nat) (M:ai) (s:List UInt8),ae.eS B M (.str s)=(.str s)) /\
  (∀(B:Nat) (M:ai) (s:List UInt8),ae.gu B M (.str s)=(.str s)) /\
  (∀(B:Nat) (M:ai) (s:List UInt8),ae.dV B M (.str s)=(.str s)) /\
  (∀(B:Nat) (M:ai) (s:List UInt8),ae.ef B M (.str s)=(.str s)) /\
  (∀(B:Nat) (M:ai) (s:List UInt8),ae.fO B M (.str s)=(.str s)) /\
  (∀(s:List UInt8),ae.shut (.str s)=(.str s)) /\
  (∀(s:List UInt8),ae.cB (.str s)=(.str s)) /\
  (∀(s:List UInt8),ae.dK (.str s)=false) /\
  (∀(s:List UInt8),ae.cells? (.str s)=some [(.str s)]) /\
  (∀(s:List UInt8),ae.cZ (.str s)=true) /\
  (∀(s:List UInt8),ae.plainCell (.str s)=true) /\
  (∀(s:List UInt8),ae.plain (.str s)=true) /\
  (∀(s:List UInt8),ae.cells (.str s)=[(.str s)]) /\
  (∀(s:List UInt8),ae.cQ (.str s)=[]) /\
  (∀(s:List UInt8),ae.fV (.str s)=[]) /\
  (∀(s:List UInt8),ae.ids (.str s)=[]) /\
  (∀(M:ai) (s:List UInt8),ae.gY M (.str s)=(.str s)) /\
  (∀(M:ai) (s:List UInt8),ae.ou M (.str s)=(.str s)) /\
  (∀(B:Nat) (M:ai) (id off:Nat),ae.dD B M (.ptr id off)=if id<B then (.ptr id off) else .any) /\
  (∀(B:Nat) (M:ai) (id off:Nat),ae.fc B M (.ptr id off)=if id<B then (.ptr id off) else .any) /\
  (∀(B:Nat) (M:ai) (id off:Nat),ae.eS B M (.ptr id off)=if id<B then (.ptr id off) else .any) /\
  (∀(B:Nat) (M:ai) (id off:Nat),ae.gu B M (.ptr id off)=if id<B then (.ptr id off) else .any) /\
  (∀(B:Nat) (M:ai) (id off:Nat),ae.dV B M (.ptr id off)=if id<B then (.ptr id off) else .any) /\
  (∀(B:Nat) (M:ai) (id off:Nat),ae.ef B M (.ptr id off)=if id<B then (.ptr id off) else .any) /\
  (∀(B:Nat) (M:ai) (id off:Nat),ae.fO B M (.ptr id off)=if id<B then (.ptr id off) else .any) /\
  (∀(id off:Nat),ae.shut (.ptr id off)=(.ptr id off)) /\
  (∀(id off:Nat),ae.cB (.ptr id off)=(.ptr id off)) /\
  (∀(id off:Nat),ae.dK (.ptr id off)=false) /\
  (∀(id off:Nat),ae.cells? (.ptr id off)=some [(.ptr id off)]) /\
  (∀(id off:Nat),ae.cZ (.ptr id off)=true) /\
  (∀(id off:Nat),ae.plainCell (.ptr id off)=false) /\
  (∀(id off:Nat),ae.plain (.ptr id off)=false) /\
  (∀(id off:Nat),ae.cells (.ptr id off)=[(.ptr id off)]) /\
  (∀(id off:Nat),ae.cQ (.ptr id off)=[id]) /\
  (∀(id off:Nat),ae.fV (.ptr id off)=[id]) /\
  (∀(id off:Nat),ae.ids (.ptr id off)=[id]) /\
  (∀(M:ai) (id off:Nat),ae.gY M (.ptr id off)=(.ptr id off)) /\
  (∀(M:ai) (id off:Nat),ae.ou M (.ptr id off)=(.ptr id off)):=by
 refine ⟨?_,?_,?_,?_,?_,?_,?_,?_,?_,?_,?_,?_,?_,?_,?_,?_,?_,?_,?_,?_,?_,?_,?_,?_,?_,?_,?_,?_,?_,?_,?_,?_,?_,?_,?_,?_,?_,?_,?_,?_⟩<;>intros<;>rfl
def TG2:(∀(B:Nat) (M:ai) (cs:List ae),ae.dD B M (.dM cs)=(.dM cs)) /\
  (∀(B:Nat) (M:ai) (cs:List ae),ae.fc B M (.dM cs)=(.dM cs)) /\
  (∀(B:Nat) (M:ai) (cs:List ae),ae.eS B M (.dM cs)=(.dM cs)) /\
  (∀(B:Nat) (M:ai) (cs:List ae),ae.gu B M (.dM cs)=(.dM cs)) /\
  (∀(B:Nat) (M:ai) (cs:List ae),ae.dV B M (.dM cs)=(.dM cs)) /\
  (∀(B:Nat) (M:ai) (cs:List ae),ae.ef B M (.dM cs)=(.dM cs)) /\
  (∀(B:Nat) (M:ai) (cs:List ae),ae.fO B M (.dM cs)=(.dM cs)) /\
  (∀(cs:List ae),ae.shut (.dM cs)=(.dM cs)) /\
  (∀(cs:List ae),ae.cB (.dM cs)=(.dM cs)) /\
  (∀(cs:List ae),ae.dK (.dM cs)=false) /\
  (∀(cs:List ae),ae.cells? (.dM cs)=some [(.dM cs)]) /\
  (∀(cs:List ae),ae.cZ (.dM cs)=true) /\
  (∀(cs:List ae),ae.plainCell (.dM cs)=false) /\
  (∀(cs:List ae),ae.plain (.dM cs)=false) /\
  (∀(cs:List ae),ae.cells (.dM cs)=[(.dM cs)]) /\
  (∀(cs:List ae),ae.cQ (.dM cs)=[]) /\
  (∀(cs:List ae),ae.fV (.dM cs)=[]) /\
  (∀(cs:List ae),ae.ids (.dM cs)=[]) /\
  (∀(M:ai) (cs:List ae),ae.gY M (.dM cs)=(.dM cs)) /\
  (∀(M:ai) (cs:List ae),ae.ou M (.dM cs)=(.dM cs)) /\
  (∀(B:Nat) (M:ai) (f:Nat) (cs:List ae),ae.dD B M (.func f cs) = .any) /\
  (∀(B:Nat) (M:ai) (f:Nat) (cs:List ae),ae.fc B M (.func f cs) = .func f (cs.map (ae.dD B M))) /\
  (∀(B:Nat) (M:ai) (f:Nat) (cs:List ae),ae.eS B M (.func f cs) = .func f (cs.map (ae.dD B M))) /\
  (∀(B:Nat) (M:ai) (f:Nat) (cs:List ae),ae.gu B M (.func f cs) = .func f (cs.map (ae.dD B M))) /\
  (∀(B:Nat) (M:ai) (f:Nat) (cs:List ae),ae.dV B M (.func f cs) = .func f (cs.map (ae.dD B M))) /\
  (∀(B:Nat) (M:ai) (f:Nat) (cs:List ae),ae.ef B M (.func f cs) = .func f (cs.map (ae.dD B M))) /\
  (∀(B:Nat) (M:ai) (f:Nat) (cs:List ae),ae.fO B M (.func f cs) = .func f (cs.map (ae.dD B M))) /\
  (∀(f:Nat) (cs:List ae),ae.shut (.func f cs)=(.func f cs)) /\
  (∀(f:Nat) (cs:List ae),ae.cB (.func f cs)=(.func f cs)) /\
  (∀(f:Nat) (cs:List ae),ae.dK (.func f cs)=false) /\
  (∀(f:Nat) (cs:List ae),ae.cells? (.func f cs)=some [(.func f cs)]) /\
  (∀(f:Nat) (cs:List ae),ae.cZ (.func f cs)=true) /\
  (∀(f:Nat) (cs:List ae),ae.plainCell (.func f cs)=false) /\
  (∀(f:Nat) (cs:List ae),ae.plain (.func f cs)=false) /\
  (∀(f:Nat) (cs:List ae),ae.cells (.func f cs)=[(.func f cs)]) /\
  (∀(f:Nat) (cs:List ae),ae.cQ (.func f cs)=[]) /\
  (∀(f:Nat) (cs:List ae),ae.fV (.func f cs)=cs.flatMap ae.cQ) /\
  (∀(f:Nat) (cs:List ae),ae.ids (.func f cs)=cs.flatMap ae.cQ) /\
  (∀(M:ai) (f:Nat) (cs:List ae),ae.gY M (.func f cs)=(.func f cs)) /\
  (∀(M:ai) (f:Nat) (cs:List ae),ae.ou M (.func f cs)=(.func f cs)):=by
 refine ⟨?_,?_,?_,?_,?_,?_,?_,?_,?_,?_,?_,?_,?_,?_,?_,?_,?_,?_,?_,?_,?_,?_,?_,?_,?_,?_,?_,?_,?_,?_,?_,?_,?_,?_,?_,?_,?_,?_,?_,?_⟩<;>intros<;>rfl
def TG3:(∀(B:Nat) (M:ai) (id:Nat),ae.dD B M (.df id)=if id<B then (.df id) else .any) /\
  (∀(B:Nat) (M:ai) (id:Nat),ae.fc B M (.df id)=if id<B then (.df id) else .any) /\
  (∀(B:Nat) (M:ai) (id:Nat),ae.eS B M (.df id)=if id<B then (.df id) else .any) /\
  (∀(B:Nat) (M:ai) (id:Nat),ae.gu B M (.df id)=if id<B then (.df id) else .any) /\
  (∀(B:Nat) (M:ai) (id:Nat),ae.dV B M (.df id)=if id<B then .df id else match M[id]? with|some (.map ks vs)=>if vs.all ae.plain&&ks.all ae.plainCell then .eb ks vs else .any|_ => .any) /\
  (∀(B:Nat) (M:ai) (id:Nat),ae.ef B M (.df id)=if id<B then .df id else match M[id]? with|some (.map ks vs)=>if vs.all ae.plain&&ks.all ae.plainCell then .eb ks vs else .any|_ => .any) /\
  (∀(B:Nat) (M:ai) (id:Nat),ae.fO B M (.df id)=if id<B then .df id else match M[id]? with|some (.map ks vs)=>if vs.all ae.plain&&ks.all ae.plainCell then .eb ks vs else .any|_ => .any) /\
  (∀(id:Nat),ae.shut (.df id)=(.df id)) /\
  (∀(id:Nat),ae.cB (.df id)=(.df id)) /\
  (∀(id:Nat),ae.dK (.df id)=false) /\
  (∀(id:Nat),ae.cells? (.df id)=some [(.df id)]) /\
  (∀(id:Nat),ae.cZ (.df id)=true) /\
  (∀(id:Nat),ae.plainCell (.df id)=false) /\
  (∀(id:Nat),ae.plain (.df id)=false) /\
  (∀(id:Nat),ae.cells (.df id)=[(.df id)]) /\
  (∀(id:Nat),ae.cQ (.df id)=[id]) /\
  (∀(id:Nat),ae.fV (.df id)=[id]) /\
  (∀(id:Nat),ae.ids (.df id)=[id]) /\
  (∀(M:ai) (id:Nat),ae.gY M (.df id)=(.df id)) /\
  (∀(M:ai) (id:Nat),ae.ou M (.df id)=(.df id)) /\
  (∀(B:Nat) (M:ai) (id:Nat),ae.dD B M (.dW id)=if id<B then (.dW id) else .any) /\
  (∀(B:Nat) (M:ai) (id:Nat),ae.fc B M (.dW id)=if id<B then (.dW id) else .any) /\
  (∀(B:Nat) (M:ai) (id:Nat),ae.eS B M (.dW id)=if id<B then (.dW id) else .any) /\
  (∀(B:Nat) (M:ai) (id:Nat),ae.gu B M (.dW id)=if id<B then (.dW id) else .any) /\
  (∀(B:Nat) (M:ai) (id:Nat),ae.dV B M (.dW id)=if id<B then (.dW id) else .any) /\
  (∀(B:Nat) (M:ai) (id:Nat),ae.ef B M (.dW id)=if id<B then (.dW id) else .any) /\
  (∀(B:Nat) (M:ai) (id:Nat),ae.fO B M (.dW id)=if id<B then (.dW id) else .any) /\
  (∀(id:Nat),ae.shut (.dW id)=(.dW id)) /\
  (∀(id:Nat),ae.cB (.dW id)=(.dW id)) /\
  (∀(id:Nat),ae.dK (.dW id)=false) /\
  (∀(id:Nat),ae.cells? (.dW id)=some [(.dW id)]) /\
  (∀(id:Nat),ae.cZ (.dW id)=true) /\
  (∀(id:Nat),ae.plainCell (.dW id)=false) /\
  (∀(id:Nat),ae.plain (.dW id)=false) /\
  (∀(id:Nat),ae.cells (.dW id)=[(.dW id)]) /\
  (∀(id:Nat),ae.cQ (.dW id)=[id]) /\
  (∀(id:Nat),ae.fV (.dW id)=[id]) /\
  (∀(id:Nat),ae.ids (.dW id)=[id]) /\
  (∀(M:ai) (id:Nat),ae.gY M (.dW id)=(.dW id)) /\
  (∀(M:ai) (id:Nat),ae.ou M (.dW id)=(.dW id)):=by
 refine ⟨?_,?_,?_,?_,?_,?_,?_,?_,?_,?_,?_,?_,?_,?_,?_,?_,?_,?_,?_,?_,?_,?_,?_,?_,?_,?_,?_,?_,?_,?_,?_,?_,?_,?_,?_,?_,?_,?_,?_,?_⟩<;>intros<;>rfl
def TG4:(∀(B:Nat) (M:ai) (ks vs:List ae),ae.dD B M (.eb ks vs)=(.eb ks vs)) /\
  (∀(B:Nat) (M:ai) (ks vs:List ae),ae.fc B M (.eb ks vs)=(.eb ks vs)) /\
  (∀(B:Nat) (M:ai) (ks vs:List ae),ae.eS B M (.eb ks vs)=(.eb ks vs)) /\
  (∀(B:Nat) (M:ai) (ks vs:List ae),ae.gu B M (.eb ks vs)=(.eb ks vs)) /\
  (∀(B:Nat) (M:ai) (ks vs:List ae),ae.dV B M (.eb ks vs)=(.eb ks vs)) /\
  (∀(B:Nat) (M:ai) (ks vs:List ae),ae.ef B M (.eb ks vs)=(.eb ks vs)) /\
  (∀(B:Nat) (M:ai) (ks vs:List ae),ae.fO B M (.eb ks vs)=(.eb ks vs)) /\
  (∀(ks vs:List ae),ae.shut (.eb ks vs)=(.eb ks vs)) /\
  (∀(ks vs:List ae),ae.cB (.eb ks vs)=(.eb ks vs)) /\
  (∀(ks vs:List ae),ae.dK (.eb ks vs)=false) /\
  (∀(ks vs:List ae),ae.cells? (.eb ks vs)=some [(.eb ks vs)]) /\
  (∀(ks vs:List ae),ae.cZ (.eb ks vs)=true) /\
  (∀(ks vs:List ae),ae.plainCell (.eb ks vs)=false) /\
  (∀(ks vs:List ae),ae.plain (.eb ks vs)=false) /\
  (∀(ks vs:List ae),ae.cells (.eb ks vs)=[(.eb ks vs)]) /\
  (∀(ks vs:List ae),ae.cQ (.eb ks vs)=[]) /\
  (∀(ks vs:List ae),ae.fV (.eb ks vs)=[]) /\
  (∀(ks vs:List ae),ae.ids (.eb ks vs)=[]) /\
  (∀(M:ai) (ks vs:List ae),ae.gY M (.eb ks vs)=(.eb ks vs)) /\
  (∀(M:ai) (ks vs:List ae),ae.ou M (.eb ks vs)=(.eb ks vs)) /\
  (∀(B:Nat) (M:ai) (id ver sz lo hi:Nat),ae.dD B M (.bu id ver sz lo hi)=if id<B then (.bu id ver sz lo hi) else match M[id]? with|some (.arr _ v xs)=>if v=ver then .slice .sh ((xs.take hi).drop lo) else .any|_ => .any) /\
  (∀(B:Nat) (M:ai) (id ver sz lo hi:Nat),ae.fc B M (.bu id ver sz lo hi)=if id<B then (.bu id ver sz lo hi) else match M[id]? with|some (.arr _ v xs)=>if v=ver then .slice .sh ((xs.take hi).drop lo) else .any|_ => .any) /\
  (∀(B:Nat) (M:ai) (id ver sz lo hi:Nat),ae.eS B M (.bu id ver sz lo hi)=if id<B then (.bu id ver sz lo hi) else match M[id]? with|some (.arr _ v xs)=>if v=ver then .slice .sh ((xs.take hi).drop lo) else .any|_ => .any) /\
  (∀(B:Nat) (M:ai) (id ver sz lo hi:Nat),ae.gu B M (.bu id ver sz lo hi)=if id<B then (.bu id ver sz lo hi) else match M[id]? with|some (.arr _ v xs)=>if v=ver then .slice .sh ((xs.take hi).drop lo) else .any|_ => .any) /\
  (∀(B:Nat) (M:ai) (id ver sz lo hi:Nat),ae.dV B M (.bu id ver sz lo hi)=if id<B then (.bu id ver sz lo hi) else match M[id]? with|some (.arr _ v xs)=>if v=ver then .slice .sh ((xs.take hi).drop lo) else .any|_ => .any) /\
  (∀(B:Nat) (M:ai) (id ver sz lo hi:Nat),ae.ef B M (.bu id ver sz lo hi)=if id<B then (.bu id ver sz lo hi) else match M[id]? with|some (.arr _ v xs)=>if v=ver then .slice .sh ((xs.take hi).drop lo) else .any|_ => .any) /\
  (∀(B:Nat) (M:ai) (id ver sz lo hi:Nat),ae.fO B M (.bu id ver sz lo hi)=if id<B then (.bu id ver sz lo hi) else match M[id]? with|some (.arr _ v xs)=>if v=ver then .slice .sh ((xs.take hi).drop lo) else .any|_ => .any) /\
  (∀(id ver sz lo hi:Nat),ae.shut (.bu id ver sz lo hi)=(.bu id ver sz lo hi)) /\
  (∀(id ver sz lo hi:Nat),ae.cB (.bu id ver sz lo hi)=(.bu id ver sz lo hi)) /\
  (∀(id ver sz lo hi:Nat),ae.dK (.bu id ver sz lo hi)=false) /\
  (∀(id ver sz lo hi:Nat),ae.cells? (.bu id ver sz lo hi)=some [(.bu id ver sz lo hi)]) /\
  (∀(id ver sz lo hi:Nat),ae.cZ (.bu id ver sz lo hi)=true) /\
  (∀(id ver sz lo hi:Nat),ae.plainCell (.bu id ver sz lo hi)=false) /\
  (∀(id ver sz lo hi:Nat),ae.plain (.bu id ver sz lo hi)=false) /\
  (∀(id ver sz lo hi:Nat),ae.cells (.bu id ver sz lo hi)=[(.bu id ver sz lo hi)]) /\
  (∀(id ver sz lo hi:Nat),ae.cQ (.bu id ver sz lo hi)=[id]) /\
  (∀(id ver sz lo hi:Nat),ae.fV (.bu id ver sz lo hi)=[id]) /\
  (∀(id ver sz lo hi:Nat),ae.ids (.bu id ver sz lo hi)=[id]) /\
  (∀(B:Nat) (M:ai) (id ver i off:Nat),ae.dD B M (.dC id ver i off)=if id<B then (.dC id ver i off) else .any) /\
  (∀(B:Nat) (M:ai) (id ver i off:Nat),ae.fc B M (.dC id ver i off)=if id<B then (.dC id ver i off) else .any):=by
 refine ⟨?_,?_,?_,?_,?_,?_,?_,?_,?_,?_,?_,?_,?_,?_,?_,?_,?_,?_,?_,?_,?_,?_,?_,?_,?_,?_,?_,?_,?_,?_,?_,?_,?_,?_,?_,?_,?_,?_,?_,?_⟩<;>intros<;>rfl
def TG5:(∀(B:Nat) (M:ai) (id ver i off:Nat),ae.eS B M (.dC id ver i off)=if id<B then (.dC id ver i off) else .any) /\
  (∀(B:Nat) (M:ai) (id ver i off:Nat),ae.gu B M (.dC id ver i off)=if id<B then (.dC id ver i off) else .any) /\
  (∀(B:Nat) (M:ai) (id ver i off:Nat),ae.dV B M (.dC id ver i off)=if id<B then (.dC id ver i off) else .any) /\
  (∀(B:Nat) (M:ai) (id ver i off:Nat),ae.ef B M (.dC id ver i off)=if id<B then (.dC id ver i off) else .any) /\
  (∀(B:Nat) (M:ai) (id ver i off:Nat),ae.fO B M (.dC id ver i off)=if id<B then (.dC id ver i off) else .any) /\
  (∀(id ver i off:Nat),ae.shut (.dC id ver i off)=(.dC id ver i off)) /\
  (∀(id ver i off:Nat),ae.cB (.dC id ver i off)=(.dC id ver i off)) /\
  (∀(id ver i off:Nat),ae.dK (.dC id ver i off)=false) /\
  (∀(id ver i off:Nat),ae.cells? (.dC id ver i off)=some [(.dC id ver i off)]) /\
  (∀(id ver i off:Nat),ae.cZ (.dC id ver i off)=true) /\
  (∀(id ver i off:Nat),ae.plainCell (.dC id ver i off)=false) /\
  (∀(id ver i off:Nat),ae.plain (.dC id ver i off)=false) /\
  (∀(id ver i off:Nat),ae.cells (.dC id ver i off)=[(.dC id ver i off)]) /\
  (∀(id ver i off:Nat),ae.cQ (.dC id ver i off)=[id]) /\
  (∀(id ver i off:Nat),ae.fV (.dC id ver i off)=[id]) /\
  (∀(id ver i off:Nat),ae.ids (.dC id ver i off)=[id]) /\
  (∀(M:ai) (id ver i off:Nat),ae.gY M (.dC id ver i off)=(.dC id ver i off)) /\
  (∀(M:ai) (id ver i off:Nat),ae.ou M (.dC id ver i off)=(.dC id ver i off)) /\
  (∀(B:Nat) (M:ai) (f:Nat) (fs:List ae),ae.dD B M (.jx f fs)=(.jx f fs)) /\
  (∀(B:Nat) (M:ai) (f:Nat) (fs:List ae),ae.fc B M (.jx f fs)=(.jx f fs)) /\
  (∀(B:Nat) (M:ai) (f:Nat) (fs:List ae),ae.eS B M (.jx f fs)=(.jx f fs)) /\
  (∀(B:Nat) (M:ai) (f:Nat) (fs:List ae),ae.gu B M (.jx f fs)=(.jx f fs)) /\
  (∀(B:Nat) (M:ai) (f:Nat) (fs:List ae),ae.dV B M (.jx f fs)=(.jx f fs)) /\
  (∀(B:Nat) (M:ai) (f:Nat) (fs:List ae),ae.ef B M (.jx f fs)=(.jx f fs)) /\
  (∀(B:Nat) (M:ai) (f:Nat) (fs:List ae),ae.fO B M (.jx f fs)=(.jx f fs)) /\
  (∀(f:Nat) (fs:List ae),ae.shut (.jx f fs)=(.jx f fs)) /\
  (∀(f:Nat) (fs:List ae),ae.cB (.jx f fs)=(.jx f fs)) /\
  (∀(f:Nat) (fs:List ae),ae.dK (.jx f fs)=false) /\
  (∀(f:Nat) (fs:List ae),ae.cells? (.jx f fs)=some [(.jx f fs)]) /\
  (∀(f:Nat) (fs:List ae),ae.cZ (.jx f fs)=true) /\
  (∀(f:Nat) (fs:List ae),ae.plainCell (.jx f fs)=false) /\
  (∀(f:Nat) (fs:List ae),ae.plain (.jx f fs)=false) /\
  (∀(f:Nat) (fs:List ae),ae.cells (.jx f fs)=[(.jx f fs)]) /\
  (∀(f:Nat) (fs:List ae),ae.cQ (.jx f fs)=[]) /\
  (∀(f:Nat) (fs:List ae),ae.fV (.jx f fs)=[]) /\
  (∀(f:Nat) (fs:List ae),ae.ids (.jx f fs)=[]) /\
  (∀(M:ai) (f:Nat) (fs:List ae),ae.gY M (.jx f fs)=(.jx f fs)) /\
  (∀(M:ai) (f:Nat) (fs:List ae),ae.ou M (.jx f fs)=(.jx f fs)) /\
  (∀(B:Nat) (M:ai) (id t:Nat),ae.dD B M (.cv id t)=if id<B then (.cv id t) else .any) /\
  (∀(B:Nat) (M:ai) (id t:Nat),ae.fc B M (.cv id t)=if id<B then (.cv id t) else .any):=by
 refine ⟨?_,?_,?_,?_,?_,?_,?_,?_,?_,?_,?_,?_,?_,?_,?_,?_,?_,?_,?_,?_,?_,?_,?_,?_,?_,?_,?_,?_,?_,?_,?_,?_,?_,?_,?_,?_,?_,?_,?_,?_⟩<;>intros<;>rfl
def TG6:(∀(B:Nat) (M:ai) (id t:Nat),ae.eS B M (.cv id t)=if id<B then (.cv id t) else .any) /\
  (∀(B:Nat) (M:ai) (id t:Nat),ae.gu B M (.cv id t)=if id<B then (.cv id t) else .any) /\
  (∀(B:Nat) (M:ai) (id t:Nat),ae.dV B M (.cv id t)=if id<B then (.cv id t) else .any) /\
  (∀(B:Nat) (M:ai) (id t:Nat),ae.ef B M (.cv id t)=if id<B then (.cv id t) else .any) /\
  (∀(B:Nat) (M:ai) (id t:Nat),ae.fO B M (.cv id t)=if id<B then (.cv id t) else .any) /\
  (∀(id t:Nat),ae.shut (.cv id t)=(.cv id t)) /\
  (∀(id t:Nat),ae.cB (.cv id t)=(.cv id t)) /\
  (∀(id t:Nat),ae.dK (.cv id t)=false) /\
  (∀(id t:Nat),ae.cells? (.cv id t)=some [(.cv id t)]) /\
  (∀(id t:Nat),ae.cZ (.cv id t)=true) /\
  (∀(id t:Nat),ae.plainCell (.cv id t)=false) /\
  (∀(id t:Nat),ae.plain (.cv id t)=false) /\
  (∀(id t:Nat),ae.cells (.cv id t)=[(.cv id t)]) /\
  (∀(id t:Nat),ae.cQ (.cv id t)=[id]) /\
  (∀(id t:Nat),ae.fV (.cv id t)=[id]) /\
  (∀(id t:Nat),ae.ids (.cv id t)=[id]) /\
  (∀(M:ai) (id t:Nat),ae.gY M (.cv id t)=(.cv id t)) /\
  (∀(M:ai) (id t:Nat),ae.ou M (.cv id t)=(.cv id t)) /\
  (∀(B:Nat) (M:ai) (k t:Nat) (x:Bool) (l:List UInt8),ae.dD B M (.du k t x l)=if k<B then (.du k t x l) else .any) /\
  (∀(B:Nat) (M:ai) (k t:Nat) (x:Bool) (l:List UInt8),ae.fc B M (.du k t x l)=if k<B then (.du k t x l) else .any) /\
  (∀(B:Nat) (M:ai) (k t:Nat) (x:Bool) (l:List UInt8),ae.eS B M (.du k t x l)=if k<B then (.du k t x l) else .any) /\
  (∀(B:Nat) (M:ai) (k t:Nat) (x:Bool) (l:List UInt8),ae.gu B M (.du k t x l)=if k<B then (.du k t x l) else .any) /\
  (∀(B:Nat) (M:ai) (k t:Nat) (x:Bool) (l:List UInt8),ae.dV B M (.du k t x l)=if k<B then (.du k t x l) else .any) /\
  (∀(B:Nat) (M:ai) (k t:Nat) (x:Bool) (l:List UInt8),ae.ef B M (.du k t x l)=if k<B then (.du k t x l) else .any) /\
  (∀(B:Nat) (M:ai) (k t:Nat) (x:Bool) (l:List UInt8),ae.fO B M (.du k t x l)=if k<B then (.du k t x l) else .any) /\
  (∀(k t:Nat) (x:Bool) (l:List UInt8),ae.shut (.du k t x l)=(.du k t x l)) /\
  (∀(k t:Nat) (x:Bool) (l:List UInt8),ae.cB (.du k t x l)=(.du k t x l)) /\
  (∀(k t:Nat) (x:Bool) (l:List UInt8),ae.dK (.du k t x l)=false) /\
  (∀(k t:Nat) (x:Bool) (l:List UInt8),ae.cells? (.du k t x l)=some [(.du k t x l)]) /\
  (∀(k t:Nat) (x:Bool) (l:List UInt8),ae.cZ (.du k t x l)=true) /\
  (∀(k t:Nat) (x:Bool) (l:List UInt8),ae.plainCell (.du k t x l)=false) /\
  (∀(k t:Nat) (x:Bool) (l:List UInt8),ae.plain (.du k t x l)=false) /\
  (∀(k t:Nat) (x:Bool) (l:List UInt8),ae.cells (.du k t x l)=[(.du k t x l)]) /\
  (∀(k t:Nat) (x:Bool) (l:List UInt8),ae.cQ (.du k t x l)=[k]) /\
  (∀(k t:Nat) (x:Bool) (l:List UInt8),ae.fV (.du k t x l)=[k]) /\
  (∀(k t:Nat) (x:Bool) (l:List UInt8),ae.ids (.du k t x l)=[k]) /\
  (∀(M:ai) (k t:Nat) (x:Bool) (l:List UInt8),ae.gY M (.du k t x l)=(.du k t x l)) /\
  (∀(M:ai) (k t:Nat) (x:Bool) (l:List UInt8),ae.ou M (.du k t x l)=(.du k t x l)) /\
  (∀(B:Nat) (M:ai) (t id off:Nat),ae.dD B M (.dJ t id off)=if id<B then (.dJ t id off) else .any) /\
  (∀(B:Nat) (M:ai) (t id off:Nat),ae.fc B M (.dJ t id off)=if id<B then (.dJ t id off) else .any):=by
 refine ⟨?_,?_,?_,?_,?_,?_,?_,?_,?_,?_,?_,?_,?_,?_,?_,?_,?_,?_,?_,?_,?_,?_,?_,?_,?_,?_,?_,?_,?_,?_,?_,?_,?_,?_,?_,?_,?_,?_,?_,?_⟩<;>intros<;>rfl
def TG7:(∀(B:Nat) (M:ai) (t id off:Nat),ae.eS B M (.dJ t id off)=if id<B then (.dJ t id off) else .any) /\
  (∀(B:Nat) (M:ai) (t id off:Nat),ae.gu B M (.dJ t id off)=if id<B then (.dJ t id off) else .any) /\
  (∀(B:Nat) (M:ai) (t id off:Nat),ae.dV B M (.dJ t id off)=if id<B then (.dJ t id off) else .any) /\
  (∀(B:Nat) (M:ai) (t id off:Nat),ae.ef B M (.dJ t id off)=if id<B then (.dJ t id off) else .any) /\
  (∀(B:Nat) (M:ai) (t id off:Nat),ae.fO B M (.dJ t id off)=if id<B then (.dJ t id off) else .any) /\
  (∀(t id off:Nat),ae.shut (.dJ t id off)=(.dJ t id off)) /\
  (∀(t id off:Nat),ae.cB (.dJ t id off)=(.dJ t id off)) /\
  (∀(t id off:Nat),ae.dK (.dJ t id off)=false) /\
  (∀(t id off:Nat),ae.cells? (.dJ t id off)=some [(.dJ t id off)]) /\
  (∀(t id off:Nat),ae.cZ (.dJ t id off)=true) /\
  (∀(t id off:Nat),ae.plainCell (.dJ t id off)=false) /\
  (∀(t id off:Nat),ae.plain (.dJ t id off)=false) /\
  (∀(t id off:Nat),ae.cells (.dJ t id off)=[(.dJ t id off)]) /\
  (∀(t id off:Nat),ae.cQ (.dJ t id off)=[id]) /\
  (∀(t id off:Nat),ae.fV (.dJ t id off)=[id]) /\
  (∀(t id off:Nat),ae.ids (.dJ t id off)=[id]) /\
  (∀(M:ai) (t id off:Nat),ae.gY M (.dJ t id off)=(.dJ t id off)) /\
  (∀(M:ai) (t id off:Nat),ae.ou M (.dJ t id off)=(.dJ t id off)) /\
  (∀(B:Nat) (M:ai) (v:Value),ae.dD B M (.gw v)=(.gw v)) /\
  (∀(B:Nat) (M:ai) (v:Value),ae.fc B M (.gw v)=(.gw v)) /\
  (∀(B:Nat) (M:ai) (v:Value),ae.eS B M (.gw v)=(.gw v)) /\
  (∀(B:Nat) (M:ai) (v:Value),ae.gu B M (.gw v)=(.gw v)) /\
  (∀(B:Nat) (M:ai) (v:Value),ae.dV B M (.gw v)=(.gw v)) /\
  (∀(B:Nat) (M:ai) (v:Value),ae.ef B M (.gw v)=(.gw v)) /\
  (∀(B:Nat) (M:ai) (v:Value),ae.fO B M (.gw v)=(.gw v)) /\
  (∀(v:Value),ae.shut (.gw v)=(.gw v)) /\
  (∀(v:Value),ae.cB (.gw v)=(.gw v)) /\
  (∀(v:Value),ae.dK (.gw v)=true) /\
  (∀(v:Value),ae.plainCell (.gw v)=false) /\
  (∀(v:Value),ae.plain (.gw v)=false) /\
  (∀(v:Value),ae.cells (.gw v)=[(.gw v)]) /\
  (∀(v:Value),ae.cQ (.gw v)=[]) /\
  (∀(v:Value),ae.fV (.gw v)=[]) /\
  (∀(v:Value),ae.ids (.gw v)=[]) /\
  (∀(M:ai) (v:Value),ae.gY M (.gw v)=(.gw v)) /\
  (∀(M:ai) (v:Value),ae.ou M (.gw v)=(.gw v)) /\
  (∀(B:Nat) (M:ai) (v:Value),ae.dD B M (.raw v)=(.raw v)) /\
  (∀(B:Nat) (M:ai) (v:Value),ae.fc B M (.raw v)=(.raw v)) /\
  (∀(B:Nat) (M:ai) (v:Value),ae.eS B M (.raw v)=(.raw v)) /\
  (∀(B:Nat) (M:ai) (v:Value),ae.gu B M (.raw v)=(.raw v)):=by
 refine ⟨?_,?_,?_,?_,?_,?_,?_,?_,?_,?_,?_,?_,?_,?_,?_,?_,?_,?_,?_,?_,?_,?_,?_,?_,?_,?_,?_,?_,?_,?_,?_,?_,?_,?_,?_,?_,?_,?_,?_,?_⟩<;>intros<;>rfl
def TG8:(∀(B:Nat) (M:ai) (v:Value),ae.dV B M (.raw v)=(.raw v)) /\
  (∀(B:Nat) (M:ai) (v:Value),ae.ef B M (.raw v)=(.raw v)) /\
  (∀(B:Nat) (M:ai) (v:Value),ae.fO B M (.raw v)=(.raw v)) /\
  (∀(v:Value),ae.shut (.raw v)=(.raw v)) /\
  (∀(v:Value),ae.cB (.raw v)=(.raw v)) /\
  (∀(v:Value),ae.dK (.raw v)=false) /\
  (∀(v:Value),ae.cells (.raw v)=[(.raw v)]) /\
  (∀(v:Value),ae.cQ (.raw v)=[]) /\
  (∀(v:Value),ae.fV (.raw v)=[]) /\
  (∀(v:Value),ae.ids (.raw v)=[]) /\
  (∀(M:ai) (v:Value),ae.gY M (.raw v)=(.raw v)) /\
  (∀(M:ai) (v:Value),ae.ou M (.raw v)=(.raw v)) /\
  (∀(B:Nat) (M:ai) ,ae.dD B M .any = .any) /\
  (∀(B:Nat) (M:ai) ,ae.fc B M .any = .any) /\
  (∀(B:Nat) (M:ai) ,ae.eS B M .any = .any) /\
  (∀(B:Nat) (M:ai) ,ae.gu B M .any = .any) /\
  (∀(B:Nat) (M:ai) ,ae.dV B M .any = .any) /\
  (∀(B:Nat) (M:ai) ,ae.ef B M .any = .any) /\
  (∀(B:Nat) (M:ai) ,ae.fO B M .any = .any) /\
  (ae.shut .any = .any) /\
  (ae.cB .any = .any) /\
  (ae.dK .any=false) /\
  (ae.plainCell .any=false) /\
  (ae.plain .any=false) /\
  (ae.cells .any=[.any]) /\
  (ae.cQ .any=[]) /\
  (ae.fV .any=[]) /\
  (ae.ids .any=[]) /\
  (∀(M:ai) ,ae.gY M .any = .any) /\
  (∀(M:ai) ,ae.ou M .any = .any) /\
  (∀(B:Nat) (M:ai) (xs:List ae),ae.dD B M (.slice .sh xs)=(.slice .sh xs)) /\
  (∀(B:Nat) (M:ai) (xs:List ae),ae.fc B M (.slice .sh xs)=(.slice .sh xs)) /\
  (∀(B:Nat) (M:ai) (xs:List ae),ae.eS B M (.slice .sh xs)=(.slice .sh xs)) /\
  (∀(B:Nat) (M:ai) (xs:List ae),ae.gu B M (.slice .sh xs)=(.slice .sh xs)) /\
  (∀(B:Nat) (M:ai) (xs:List ae),ae.dV B M (.slice .sh xs) = .slice .sh xs) /\
  (∀(B:Nat) (M:ai) (xs:List ae),ae.ef B M (.slice .sh xs) = .slice .sh xs) /\
  (∀(B:Nat) (M:ai) (xs:List ae),ae.fO B M (.slice .sh xs) = .slice .sh xs) /\
  (∀(xs:List ae),ae.shut (.slice .sh xs) = .slice .sh xs) /\
  (∀(xs:List ae),ae.cB (.slice .sh xs) = .slice .sh xs) /\
  (∀(xs:List ae),ae.dK (.slice .sh xs)=false):=by
 refine ⟨?_,?_,?_,?_,?_,?_,?_,?_,?_,?_,?_,?_,?_,?_,?_,?_,?_,?_,?_,?_,?_,?_,?_,?_,?_,?_,?_,?_,?_,?_,?_,?_,?_,?_,?_,?_,?_,?_,?_,?_⟩<;>intros<;>rfl
def TG9:(∀(xs:List ae),ae.cells? (.slice .sh xs)=some [(.slice .sh xs)]) /\
  (∀(xs:List ae),ae.cZ (.slice .sh xs)=true) /\
  (∀(xs:List ae),ae.plainCell (.slice .sh xs)=true) /\
  (∀(xs:List ae),ae.plain (.slice .sh xs)=true) /\
  (∀(xs:List ae),ae.cells (.slice .sh xs)=[(.slice .sh xs)]) /\
  (∀(xs:List ae),ae.cQ (.slice .sh xs)=[]) /\
  (∀(xs:List ae),ae.fV (.slice .sh xs)=[]) /\
  (∀(xs:List ae),ae.ids (.slice .sh xs)=[]) /\
  (∀(M:ai) (xs:List ae),ae.gY M (.slice .sh xs)=(.slice .sh xs)) /\
  (∀(M:ai) (xs:List ae),ae.ou M (.slice .sh xs)=(.slice .sh xs)) /\
  (∀(B:Nat) (M:ai) (xs:List ae),ae.dD B M (.slice .c0 xs)=(.slice .c0 xs)) /\
  (∀(B:Nat) (M:ai) (xs:List ae),ae.fc B M (.slice .c0 xs)=(.slice .c0 xs)) /\
  (∀(B:Nat) (M:ai) (xs:List ae),ae.eS B M (.slice .c0 xs)=(.slice .c0 xs)) /\
  (∀(B:Nat) (M:ai) (xs:List ae),ae.gu B M (.slice .c0 xs)=(.slice .c0 xs)) /\
  (∀(B:Nat) (M:ai) (xs:List ae),ae.dV B M (.slice .c0 xs) = .slice .sh xs) /\
  (∀(B:Nat) (M:ai) (xs:List ae),ae.ef B M (.slice .c0 xs) = .slice .sh xs) /\
  (∀(B:Nat) (M:ai) (xs:List ae),ae.fO B M (.slice .c0 xs) = .slice .sh xs) /\
  (∀(xs:List ae),ae.shut (.slice .c0 xs) = .slice .sh xs) /\
  (∀(xs:List ae),ae.cB (.slice .c0 xs) = .slice .sh xs) /\
  (∀(xs:List ae),ae.dK (.slice .c0 xs)=false) /\
  (∀(xs:List ae),ae.cells? (.slice .c0 xs)=some [(.slice .c0 xs)]) /\
  (∀(xs:List ae),ae.cZ (.slice .c0 xs)=true) /\
  (∀(xs:List ae),ae.plainCell (.slice .c0 xs)=false) /\
  (∀(xs:List ae),ae.plain (.slice .c0 xs)=false) /\
  (∀(xs:List ae),ae.cells (.slice .c0 xs)=[(.slice .c0 xs)]) /\
  (∀(xs:List ae),ae.cQ (.slice .c0 xs)=[]) /\
  (∀(xs:List ae),ae.fV (.slice .c0 xs)=[]) /\
  (∀(xs:List ae),ae.ids (.slice .c0 xs)=[]) /\
  (∀(M:ai) (xs:List ae),ae.gY M (.slice .c0 xs)=(.slice .c0 xs)) /\
  (∀(M:ai) (xs:List ae),ae.ou M (.slice .c0 xs)=(.slice .c0 xs)) /\
  (∀(B:Nat) (M:ai) (k:Nat) (xs:List ae),ae.dD B M (.slice (.own k) xs)=if k<B then (.slice (.own k) xs) else .slice .sh xs) /\
  (∀(B:Nat) (M:ai) (k:Nat) (xs:List ae),ae.fc B M (.slice (.own k) xs)=if k<B then (.slice (.own k) xs) else .slice .sh xs) /\
  (∀(B:Nat) (M:ai) (k:Nat) (xs:List ae),ae.eS B M (.slice (.own k) xs)=if k<B then (.slice (.own k) xs) else .slice .sh xs) /\
  (∀(B:Nat) (M:ai) (k:Nat) (xs:List ae),ae.gu B M (.slice (.own k) xs)=if k<B then (.slice (.own k) xs) else .slice .sh xs) /\
  (∀(B:Nat) (M:ai) (k:Nat) (xs:List ae),ae.dV B M (.slice (.own k) xs) = .slice .sh xs) /\
  (∀(B:Nat) (M:ai) (k:Nat) (xs:List ae),ae.ef B M (.slice (.own k) xs) = .slice .sh xs) /\
  (∀(B:Nat) (M:ai) (k:Nat) (xs:List ae),ae.fO B M (.slice (.own k) xs) = .slice .sh xs) /\
  (∀(k:Nat) (xs:List ae),ae.shut (.slice (.own k) xs) = .slice .sh xs) /\
  (∀(k:Nat) (xs:List ae),ae.cB (.slice (.own k) xs) = .slice .sh xs) /\
  (∀(k:Nat) (xs:List ae),ae.dK (.slice (.own k) xs)=false):=by
 refine ⟨?_,?_,?_,?_,?_,?_,?_,?_,?_,?_,?_,?_,?_,?_,?_,?_,?_,?_,?_,?_,?_,?_,?_,?_,?_,?_,?_,?_,?_,?_,?_,?_,?_,?_,?_,?_,?_,?_,?_,?_⟩<;>intros<;>rfl
def afb:(∀(k:Nat) (xs:List ae),ae.cells? (.slice (.own k) xs)=some [(.slice (.own k) xs)]) /\
  (∀(k:Nat) (xs:List ae),ae.cZ (.slice (.own k) xs)=true) /\
  (∀(k:Nat) (xs:List ae),ae.plainCell (.slice (.own k) xs)=false) /\
  (∀(k:Nat) (xs:List ae),ae.plain (.slice (.own k) xs)=false) /\
  (∀(k:Nat) (xs:List ae),ae.cells (.slice (.own k) xs)=[(.slice (.own k) xs)]) /\
  (∀(k:Nat) (xs:List ae),ae.cQ (.slice (.own k) xs)=[k]) /\
  (∀(k:Nat) (xs:List ae),ae.fV (.slice (.own k) xs)=[k]) /\
  (∀(k:Nat) (xs:List ae),ae.ids (.slice (.own k) xs)=[k]) /\
  (∀(M:ai) (k:Nat) (xs:List ae),ae.gY M (.slice (.own k) xs)=(.slice (.own k) xs)) /\
  (∀(M:ai) (k:Nat) (xs:List ae),ae.ou M (.slice (.own k) xs)=(.slice (.own k) xs)) /\
  (∀(B:Nat) (M:ai) (cs:List ae),ae.dD B M (.agg cs) = .any) /\
  (∀(B:Nat) (M:ai) (cs:List ae),ae.fc B M (.agg cs) = .any) /\
  (∀(B:Nat) (M:ai) (cs:List ae),ae.eS B M (.agg cs) = .agg (cs.map (ae.fc B M))) /\
  (∀(B:Nat) (M:ai) (cs:List ae),ae.gu B M (.agg cs) = .agg (cs.map (ae.fc B M))) /\
  (∀(B:Nat) (M:ai) (cs:List ae),ae.dV B M (.agg cs) = .any) /\
  (∀(B:Nat) (M:ai) (cs:List ae),ae.ef B M (.agg cs) = .agg (cs.map (ae.dV B M))) /\
  (∀(B:Nat) (M:ai) (cs:List ae),ae.fO B M (.agg cs) = .agg (cs.map (ae.dV B M))) /\
  (∀(cs:List ae),ae.shut (.agg cs)=(.agg cs)) /\
  (∀(cs:List ae),ae.cB (.agg cs) = .agg (cs.map ae.shut)) /\
  (∀(cs:List ae),ae.dK (.agg cs)=false) /\
  (∀(cs:List ae),ae.cells? (.agg cs)=some cs) /\
  (∀(cs:List ae),ae.cZ (.agg cs)=false) /\
  (∀(cs:List ae),ae.plainCell (.agg cs)=false) /\
  (∀(cs:List ae),ae.plain (.agg cs)=cs.all ae.plainCell) /\
  (∀(cs:List ae),ae.cells (.agg cs)=cs) /\
  (∀(cs:List ae),ae.cQ (.agg cs)=[]) /\
  (∀(cs:List ae),ae.fV (.agg cs)=[]) /\
  (∀(cs:List ae),ae.ids (.agg cs)=cs.flatMap ae.fV) /\
  (∀(M:ai) (cs:List ae),ae.gY M (.agg cs)=(.agg cs)) /\
  (∀(M:ai) (cs:List ae),ae.ou M (.agg cs) = .agg (cs.map (ae.gY M))) /\
  (∀(B:Nat) (M:ai) (cs:List ae),ae.dD B M (.tuple cs) = .any) /\
  (∀(B:Nat) (M:ai) (cs:List ae),ae.fc B M (.tuple cs) = .any) /\
  (∀(B:Nat) (M:ai) (cs:List ae),ae.eS B M (.tuple cs) = .any) /\
  (∀(B:Nat) (M:ai) (cs:List ae),ae.gu B M (.tuple cs) = .tuple (cs.map (ae.eS B M))) /\
  (∀(B:Nat) (M:ai) (cs:List ae),ae.dV B M (.tuple cs) = .any) /\
  (∀(B:Nat) (M:ai) (cs:List ae),ae.ef B M (.tuple cs) = .any) /\
  (∀(B:Nat) (M:ai) (cs:List ae),ae.fO B M (.tuple cs) = .tuple (cs.map (ae.ef B M))) /\
  (∀(cs:List ae),ae.shut (.tuple cs)=(.tuple cs)) /\
  (∀(cs:List ae),ae.cB (.tuple cs)=(.tuple cs)) /\
  (∀(cs:List ae),ae.dK (.tuple cs)=false):=by
 refine ⟨?_,?_,?_,?_,?_,?_,?_,?_,?_,?_,?_,?_,?_,?_,?_,?_,?_,?_,?_,?_,?_,?_,?_,?_,?_,?_,?_,?_,?_,?_,?_,?_,?_,?_,?_,?_,?_,?_,?_,?_⟩<;>intros<;>rfl
def afc:(∀(cs:List ae),ae.plainCell (.tuple cs)=false) /\
  (∀(cs:List ae),ae.plain (.tuple cs)=false) /\
  (∀(cs:List ae),ae.cells (.tuple cs)=[(.tuple cs)]) /\
  (∀(cs:List ae),ae.cQ (.tuple cs)=[]) /\
  (∀(cs:List ae),ae.fV (.tuple cs)=[]) /\
  (∀(cs:List ae),ae.ids (.tuple cs)=[]) /\
  (∀(M:ai) (cs:List ae),ae.gY M (.tuple cs)=(.tuple cs)) /\
  (∀(M:ai) (cs:List ae),ae.ou M (.tuple cs)=(.tuple cs)):=by
 refine ⟨?_,?_,?_,?_,?_,?_,?_,?_⟩<;>intros<;>rfl
def aH {C:cu} {fn:List nh} {base:Nat} {k:List K} {t:Bool} {x y:br} {env:Env} {M:ai} {r:Option (ae×ai)}
  (h1:t=true->cT C fn base k x env M=r) (h2:t=false->cT C fn base k y env M=r):bR C fn base k (.bool t) x y env M=r:=by
 cases t
 ·exact h2 rfl
 ·exact h1 rfl
def bj {C:cu} {fn:List nh} {base:Nat} {k:List K} {live:List Nat} {t w:Bool} {o:bg} {l:List bg} {env:Env} {M:ai} {r:Option (ae×ai)}
  (h1:t=w->gz C fn base k live o.lets o.dst l env (ic C o env M)=r) (h2:t = !w->cR C fn base k live l (jM env o.dst (.tuple [])) M=r):gK C fn base k live (.bool t) w o l env M=r:=by
 cases t<;>cases w
 ·exact h1 rfl
 ·exact h2 rfl
 ·exact h2 rfl
 ·exact h1 rfl
def cj {C:cu} {fn:List nh} {base:Nat} {k:List K} {live:List Nat} {c:Bool} {d:Option Nat} {l:List bg} {env:Env} {t:Bool} {x y r:Option (ae×ai)}
  (h1:t=true->gz C fn base k live c d l env x=r) (h2:t=false->gz C fn base k live c d l env y=r):gz C fn base k live c d l env (vt t x y)=r:=by
 cases t
 ·exact h2 rfl
 ·exact h1 rfl
def dv {a b:Nat} (h:a<=1000000) (hb:b<=1000):bP a b=True:=by
 have:a*b<=1000000*1000:=Nat.mul_le_mul h hb
 simp only [eq_iff_iff,iff_true]
 unfold bP
 omega
def RT (x:ae) (n:Nat):wid [x] n=(x.cells.length=n):=by simp [wid]
def RR (a b:List ae) (n:Nat):wid (a++b) n=(wid a n/\wid b n):=by
 simp only [eq_iff_iff]
 exact ⟨fun h=>⟨fun x hx=>h x (List.mem_append_left _ hx),fun x hx=>h x (List.mem_append_right _ hx)⟩,fun h x hx=>(List.mem_append.1 hx).elim (h.1 x) (h.2 x)⟩
def RS (n:Nat):wid [] n=True:=by simp [wid]
def Ra (m:Nat):((m:Int)<0)=False:=by simp
def bw {n:Int} (h0 : -9223372036854775808<=n) (h1:n<=9223372036854775807):IntKind.i64.wrap n=n:=by rw [IntKind.wrap_i64]; omega
def eH {C:cu} {f:Nat} {vs:List ae} {r:ae} (h:C f vs []=some (r,[])) (h1:vs.all ae.flat=true) (h2:vs.flatMap ae.ids=[]) (h3:r.qz=true)
  (h4:vs.map (ae.iY (dh []))=vs) (h5:r.vl (qk [])=r) (M:ai):an C f vs M=some (r,M):=by
 have e0:reach M []=[]:=rfl
 have e1:fa M []=[]:=rfl
 have e2:(vs.map (ae.iY (dh [])))=vs:=h4
 unfold an
 rw [if_pos h1,h2,e0]
 simp only [dN,aL]
 rw [if_pos e1,e2,h]
 simp [h3,h5,fy]
def cO {C:cu} {f:Nat} {vs:List ae} {r:ae} (h:C f vs []=some (r,[])) (M:ai) (h1:vs.all ae.flat=true:=by exact rfl) (h2:vs.flatMap ae.ids=[]:=by exact rfl) (h3:r.qz=true:=by exact rfl) (h4:vs.map (ae.iY (dh []))=vs:=by exact rfl) (h5:r.vl (qk [])=r:=by exact rfl):an C f vs M=some (r,M):=eH h h1 h2 h3 h4 h5 M
def zW {M:ai} {p:Nat} {b:aQ} (h:nth M p=some b):∀b',nth (dG M p b') p=some b':=by
 intro b'
 rw [bW] at h ⊢
 rw [cF]
 exact bf (ak h)
def gN {C:cu} {f p:Nat} {vs:List ae} {r:ae} {M:ai} {cs cs':List ae} (hM:nth M p=some (.cells cs)) (h:C f (.ptr 0 0::vs) [.cells cs]=some (r,[.cells cs'])) (h1:vs.all ae.flat=true) (h2:vs.flatMap ae.ids=[]) (h3:r.qz=true)
  (h4:vs.map (ae.iY (dh [p]))=vs) (h5:r.vl (qk [p])=r) (h6:cs.all ae.oN=true) (h7:cs.flatMap ae.fV=[]) (h8:cs.map (ae.lu (dh [p]))=cs) (h9:cs'.all ae.oN=true) (h10:cs'.map (ae.lu (qk [p]))=cs') :
  an C f (.ptr p 0::vs) M=some (r,dG M p (.cells cs')):=by
 have hids:(ae.ptr p 0::vs).flatMap ae.ids=[p]:=by simp [ae.ids,ae.fV,ae.cQ,h2]
 have hi:jm M [p]=[]:=by simp [jm,hM,aQ.ids,h7]
 have e0:fa M [p]=[p]:=by simp [fa,hi,eE]
 have e1:reach M [p]=[p]:=by
  have ea:eE [] [p]=[p]:=rfl
  simp only [reach,ea,e0]
 have hfl:(ae.ptr p 0::vs).all ae.flat=true:=by simp only [List.all_cons,h1,Bool.and_true]; rfl
 unfold an
 rw [if_pos hfl,hids,e1]
 have hpk:dN M (dh [p]) [p]=some [.cells cs]:=by simp [dN,hM,aQ.flat,h6,aQ.iY,h8]
 rw [hpk]
 simp only [aL]
 rw [if_pos e0]
 have hrn:(ae.ptr p 0::vs).map (ae.iY (dh [p])) = .ptr 0 0::vs:=by
  simp only [List.map_cons,h4]
  simp [ae.iY,ae.lu,ae.kO,dh]
 rw [hrn,h]
 simp only [aL]
 rw [if_pos ⟨rfl,h3,by simp [aQ.flat,h9]⟩,h5]
 simp only [fy,aQ.iY,h10]
def max_lt (n:Nat) (h:n<=9223372036854775807):(IntKind.i64.max<(n:Int))=False:=by
 have:IntKind.i64.max=9223372036854775807:=rfl
 simp only [eq_iff_iff,iff_false,this]; omega
set_option linter.defProp false in
def EVT:=And.intro @JO (And.intro @JN (And.intro @PW (And.intro @PX (And.intro @Gk (And.intro @JM (And.intro @C9 (And.intro @NY (And.intro @G6 (And.intro @G7 (And.intro @Nz (And.intro @Rb (And.intro @GI (And.intro @Dz (And.intro @Dx (And.intro @Dy (And.intro @DA (And.intro @aba (And.intro @aa7 (And.intro @aa9 (And.intro @aa8 (And.intro @abb (And.intro @P7 (And.intro @P6 (And.intro @WW (And.intro @Bv (And.intro @Dm (And.intro @Dl (And.intro @zD (And.intro @Bt (And.intro @MV (And.intro @xF (And.intro @zE (And.intro @Qg (And.intro @zF (And.intro @Bu (And.intro @WV (And.intro @List.map_cons.{0,0} (And.intro @List.map_nil.{0,0} (And.intro @aL (And.intro @kM (And.intro @jq (And.intro @Nat.add_zero (And.intro @Nat.zero_add (And.intro @List.length_cons.{0} (And.intro @List.length_nil.{0} (And.intro @List.all_cons.{0} (And.intro @List.all_nil.{0} (And.intro @Bool.and_self (And.intro @List.take_zero.{0} (And.intro @List.nil_append.{0} (And.intro @List.take_succ_cons.{0} (And.intro @List.drop_succ_cons.{0} (And.intro @List.drop_zero.{0} (And.intro @List.drop_nil.{0} (And.intro @List.take_nil.{0} (And.intro @List.append_nil.{0} (And.intro @List.cons_append.{0} (And.intro @Nat.le_refl (And.intro @and_self (And.intro @not_true_eq_false (And.intro @not_false_eq_true (And.intro @Nat.one_ne_zero (And.intro @Nat.zero_ne_one (And.intro @Nat.not_lt_zero (And.intro @Nat.lt_irrefl (And.intro @List.map_take.{0,0} (And.intro @List.length_map.{0,0} (And.intro @Int.toNat_natCast (And.intro @List.getElem?_map.{0,0} (And.intro @Option.map_some.{0,0} (And.intro @DQ (And.intro @Int.natCast_nonneg (And.intro @decide_true (And.intro @decide_false (And.intro @BEq.rfl.{0} (And.intro @beq_self_eq_true.{0} (And.intro @Bool.not_true (And.intro @Bool.not_false (And.intro @Ra (And.intro @RT (And.intro @RS (And.intro @and_true (And.intro @true_and (And.intro @Bool.and_true (And.intro @List.length_append.{0} (And.intro @ge_iff_le.{0} (And.intro @gt_iff_lt.{0} (And.intro @RR (And.intro @List.prefix_refl.{0} (And.intro @true_or (And.intro @or_true (And.intro @List.cons_prefix_cons.{0} (And.intro @List.nil_prefix.{0} (And.intro @List.cons_ne_nil.{0} (And.intro @List.flatMap_cons.{0,0} (And.intro @List.flatMap_nil.{0,0} (And.intro @max_lt (And.intro @TG0 (And.intro @TG1 (And.intro @TG2 (And.intro @TG3 (And.intro @TG4 (And.intro @TG5 (And.intro @TG6 (And.intro @TG7 (And.intro @TG8 (And.intro @TG9 (And.intro @afb (@afc)))))))))))))))))))))))))))))))))))))))))))))))))))))))))))))))))))))))))))))))))))))))))))))))))))))))))))))
set_option linter.defProp false in
def EVD:=And.intro @finish.eq_1 (And.intro @k7.eq_1 (And.intro @k7.eq_2 (And.intro @w6.eq_1 (And.intro @w6.eq_2 (And.intro @w6.eq_3 (And.intro @one.eq_1 (And.intro @one.eq_2 (And.intro @ic.eq_1 (And.intro @bD.eq_1 (And.intro @bD.eq_2 (And.intro @bD.eq_3 (And.intro @bD.eq_4 (And.intro @bD.eq_5 (And.intro @bD.eq_6 (And.intro @bD.eq_7 (And.intro @bD.eq_8 (And.intro @bD.eq_9 (And.intro @bD.eq_10 (And.intro @bD.eq_11 (And.intro @bD.eq_12 (And.intro @bD.eq_13 (And.intro @bD.eq_14 (And.intro @bD.eq_15 (And.intro @bD.eq_16 (And.intro @bD.eq_17 (And.intro @bD.eq_18 (And.intro @bD.eq_19 (And.intro @bD.eq_20 (And.intro @bD.eq_21 (And.intro @bD.eq_22 (And.intro @bD.eq_23 (And.intro @bD.eq_24 (And.intro @bD.eq_25 (And.intro @bD.eq_26 (And.intro @bD.eq_27 (And.intro @bD.eq_28 (And.intro @bD.eq_29 (And.intro @bD.eq_30 (And.intro @bD.eq_31 (And.intro @bD.eq_32 (And.intro @bD.eq_33 (And.intro @bD.eq_34 (And.intro @bD.eq_35 (And.intro @bD.eq_36 (And.intro @bD.eq_37 (And.intro @bD.eq_38 (And.intro @bD.eq_39 (And.intro @bD.eq_40 (And.intro @bD.eq_41 (And.intro @bD.eq_42 (And.intro @bD.eq_43 (And.intro @bD.eq_44 (And.intro @bD.eq_45 (And.intro @bD.eq_46 (And.intro @bD.eq_47 (And.intro @bD.eq_48 (And.intro @bD.eq_49 (And.intro @bD.eq_50 (And.intro @bD.eq_51 (And.intro @bD.eq_52 (And.intro @bD.eq_53 (And.intro @bD.eq_54 (And.intro @bD.eq_55 (And.intro @bD.eq_56 (And.intro @bD.eq_57 (And.intro @bD.eq_58 (And.intro @bD.eq_59 (And.intro @bD.eq_60 (And.intro @bD.eq_61 (And.intro @bD.eq_62 (And.intro @gd.eq_1 (And.intro @gd.eq_2 (And.intro @cM.ev.eq_1 (And.intro @cM.ev.eq_2 (And.intro @dr.eq_1 (And.intro @dr.eq_2 (And.intro @jM.eq_1 (And.intro @jM.eq_2 (And.intro @gI.eq_1 (And.intro @nth.eq_1 (And.intro @nth.eq_2 (And.intro @nth.eq_3 (And.intro @dG.eq_1 (And.intro @dG.eq_2 (And.intro @dG.eq_3 (And.intro @jb.eq_1 (And.intro @jb.eq_2 (And.intro @jb.eq_3 (And.intro @jb.eq_4 (And.intro @jb.eq_5 (And.intro @jb.eq_6 (And.intro @jb.eq_7 (And.intro @jb.eq_8 (And.intro @jb.eq_9 (And.intro @jb.eq_10 (And.intro @jb.eq_11 (And.intro @jb.eq_12 (And.intro @jb.eq_13 (And.intro @jb.eq_14 (And.intro @jb.eq_15 (And.intro @jb.eq_16 (And.intro @jb.eq_17 (And.intro @jb.eq_18 (And.intro @jb.eq_19 (And.intro @jb.eq_20 (And.intro @jb.eq_21 (And.intro @jb.eq_22 (And.intro @jb.eq_23 (And.intro @jb.eq_24 (And.intro @jb.eq_25 (And.intro @gj.eq_1 (And.intro @rN.eq_1 (And.intro @fN.eq_1 (And.intro @aQ.back.eq_1 (And.intro @aQ.back.eq_2 (And.intro @aQ.back.eq_3 (And.intro @aQ.back.eq_4 (And.intro @aQ.back.eq_5 (And.intro @kY.eq_1 (And.intro @kY.eq_2 (And.intro @rz.eq_1 (And.intro @rz.eq_2 (And.intro @fH.eq_1 (And.intro @fH.eq_2 (And.intro @eT.bC.eq_1 (And.intro @eT.bC.eq_2 (And.intro @eT.bC.eq_3 (And.intro @cS.eq_1 (And.intro @cS.eq_2 (And.intro @ob.eq_1 (And.intro @og.eq_1 (And.intro @ox.eq_1 (And.intro @bytesOf.eq_1 (And.intro @valOf.eq_1 (@valOf.eq_2)))))))))))))))))))))))))))))))))))))))))))))))))))))))))))))))))))))))))))))))))))))))))))))))))))))))))))))))))))))))))))))))))))))))
set_option linter.defProp false in
def jZ:=And.intro @Bool.and_true (And.intro @Bool.true_and (And.intro @Bool.and_false (And.intro @Bool.false_and (And.intro @Bool.or_true (And.intro @Bool.true_or (And.intro @Bool.or_false (And.intro @Bool.false_or (And.intro @Bool.not_true (And.intro @Bool.not_false (And.intro @Bool.and_self (And.intro @Bool.or_self (And.intro @Bool.false_eq_true (@beq_self_eq_true.{0})))))))))))))
set_option linter.defProp false in
def EV:=And.intro @ne_eq.{1} (And.intro EVT EVD)
end
end Go.Abs
namespace Go.Proofs.YtdbadpnkhaepnaaGreatDoor
open Go Go.Abs
def code:Nat->Option cL
 |3=>some fn3
 |4=>some fn4
 |5=>some YU
 |6=>some fn6
 |7=>some fn7
 |8=>some fn8
 |9=>some fn9
 |10=>some UK
 |11=>some UL
 |12=>some A9
 |13=>some zx
 |14=>some PZ
 |15=>some UM
 |16=>some UN
 |17=>some UO
 |18=>some UQ
 |20=>some UR
 |21=>some US
 |22=>some UT
 |23=>some UU
 |24=>some UW
 |25=>some UX
 |26=>some UY
 |27=>some UZ
 |29=>some zy
 |32=>some U0
 |33=>some U1
 |34=>some U2
 |35=>some U3
 |36=>some U4
 |37=>some U5
 |38=>some U6
 |40=>some U7
 |41=>some U8
 |42=>some U9
 |43=>some Va
 |44=>some Vb
 |51=>some Vc
 |52=>some Vd
 |53=>some Ve
 |54=>some Vf
 |55=>some P0
 |56=>some Gm
 |57=>some Dc
 |58=>some Gn
 |59=>some Bg
 |60=>some K2
 |61=>some P1
 |62=>some K3
 |63=>some P2
 |64=>some Dd
 |65=>some xA
 |66=>some K4
 |67=>some Gp
 |68=>some K5
 |69=>some K6
 |70=>some P3
 |71=>some Vg
 |72=>some Vh
 |73=>some Vi
 |78=>some Vj
 |79=>some Vk
 |80=>some Vl
 |81=>some Vm
 |82=>some Vn
 |83=>some Vo
 |84=>some Vp
 |85=>some Vq
 |86=>some xB
 |87=>some Vr
 |88=>some Vs
 |89=>some Vt
 |90=>some P4
 |91=>some Vu
 |92=>some K7
 |94=>some K8
 |95=>some K9
 |96=>some Vv
 |97=>some Vw
 |99=>some La
 |100=>some JV
 |101=>some JW
 |102=>some JX
 |104=>some JY
 |105=>some JZ
 |106=>some J0
 |107=>some J1
 |108=>some J2
 |109=>some J3
 |110=>some J4
 |111=>some Ez
 |112=>some J5
 |113=>some J6
 |116=>some J7
 |117=>some J8
 |118=>some J9
 |119=>some Ka
 |120=>some Kb
 |121=>some Kc
 |122=>some Kd
 |123=>some Ke
 |124=>some x6
 |125=>some Kf
 |126=>some Kg
 |127=>some Kh
 |128=>some Ki
 |129=>some Kj
 |130=>some Ba
 |132=>some Kk
 |134=>some TB
 |135=>some Kl
 |136=>some Km
 |137=>some Kn
 |138=>some Ko
 |141=>some Bb
 |142=>some Kq
 |144=>some Kr
 |146=>some Ks
 |147=>some Kt
 |148=>some Ku
 |149=>some Kv
 |150=>some Kw
 |151=>some Kx
 |155=>some Ky
 |157=>some Kz
 |158=>some KA
 |159=>some KB
 |160=>some KC
 |161=>some KD
 |162=>some KE
 |163=>some KF
 |167=>some KG
 |168=>some EA
 |169=>some KH
 |170=>some KI
 |172=>some KJ
 |173=>some KK
 |174=>some KL
 |175=>some KM
 |176=>some KN
 |177=>some KO
 |180=>some KQ
 |181=>some EB
 |184=>some KR
 |185=>some EC
 |186=>some KS
 |187=>some KT
 |188=>some KU
 |189=>some KV
 |190=>some KW
 |193=>some Bc
 |195=>some TC
 |200=>some KX
 |206=>some KY
 |207=>some KZ
 |209=>some K0
 |221=>some K1
 |197=>some Be
 |224=>some Bf
 |247=>some x7
 |_=>none
noncomputable def iX:Nat->Option (List ae->ai->Option (ae×ai))
 |133=>some (oT 3 2 134)
 |194=>some (oT 6 0 195)
 |198=>some (ru)
 |199=>some (BO)
 |208=>some (sy)
 |131=>some (fp 3 32)
 |164=>some (fp 6 80)
 |140=>some (fp 3 24)
 |115=>some (fp 3 24)
 |30=>some (fp 9 104)
 |145=>some (km 8 96)
 |154=>some (km 3 24)
 |93=>some (X7 1 1)
 |205=>some (fg 6)
 |171=>some (fg 3)
 |143=>some (kN 3)
 |152=>some (kN 3)
 |165=>some (ep 6 80)
 |166=>some (ep 3 32)
 |139=>some (ep 3 24)
 |153=>some (ep 3 24)
 |31=>some (ep 9 104)
 |_=>none
noncomputable def aV:uF:=⟨code,iX⟩
def cV {f:Nat} {c fn:cL} {func:Func} {A:cI} (h:some c=some fn) (h1:Tryz.prog.funcs[f]?=some func) (h2:aG Tryz.prog A func=some c):∃ A func,Tryz.prog.funcs[f]?=some func/\aG Tryz.prog A func=some fn:=by
 injection h with h; subst h; exact ⟨_,_,h1,h2⟩
def Eu (f:Nat) (fn:cL) (h:code f=some fn):∃A func,Tryz.prog.funcs[f]?=some func/\aG Tryz.prog A func=some fn:=by
 unfold code at h
 split at h
 ·exact cV h Tryz.func3 ok3
 ·exact cV h Tryz.func4 ok4
 ·exact cV h Tryz.func5 ok5
 ·exact cV h Tryz.func6 ok6
 ·exact cV h Tryz.func7 ok7
 ·exact cV h Tryz.func8 ok8
 ·exact cV h Tryz.func9 ok9
 ·exact cV h Tryz.func10 ahZ
 ·exact cV h Tryz.func11 ah0
 ·exact cV h Tryz.func12 ah1
 ·exact cV h Tryz.func13 ah2
 ·exact cV h Tryz.func14 ah3
 ·exact cV h Tryz.func15 ah4
 ·exact cV h Tryz.func16 ah5
 ·exact cV h Tryz.func17 ah6
 ·exact cV h Tryz.func18 ah7
 ·exact cV h Tryz.func20 ah8
 ·exact cV h Tryz.func21 ah9
 ·exact cV h Tryz.func22 aia
 ·exact cV h Tryz.func23 aib
 ·exact cV h Tryz.func24 aic
 ·exact cV h Tryz.func25 aid
 ·exact cV h Tryz.func26 aie
 ·exact cV h Tryz.func27 aif
 ·exact cV h Tryz.func29 aih
 ·exact cV h Tryz.func32 aii
 ·exact cV h Tryz.func33 aij
 ·exact cV h Tryz.func34 aik
 ·exact cV h Tryz.func35 ail
 ·exact cV h Tryz.func36 aim
 ·exact cV h Tryz.func37 ain
 ·exact cV h Tryz.func38 aio
 ·exact cV h Tryz.func40 aip
 ·exact cV h Tryz.func41 aiq
 ·exact cV h Tryz.func42 air
 ·exact cV h Tryz.func43 ais
 ·exact cV h Tryz.func44 ait
 ·exact cV h Tryz.func51 aiu
 ·exact cV h Tryz.func52 aiv
 ·exact cV h Tryz.func53 aiw
 ·exact cV h Tryz.func54 aix
 ·exact cV h Tryz.func55 aiy
 ·exact cV h Tryz.func56 aiz
 ·exact cV h Tryz.func57 aiA
 ·exact cV h Tryz.func58 aiB
 ·exact cV h Tryz.func59 aiC
 ·exact cV h Tryz.func60 aiD
 ·exact cV h Tryz.func61 aiE
 ·exact cV h Tryz.func62 aiF
 ·exact cV h Tryz.func63 aiG
 ·exact cV h Tryz.func64 aiH
 ·exact cV h Tryz.func65 aiI
 ·exact cV h Tryz.func66 aiJ
 ·exact cV h Tryz.func67 aiK
 ·exact cV h Tryz.func68 aiL
 ·exact cV h Tryz.func69 aiM
 ·exact cV h Tryz.func70 aiN
 ·exact cV h Tryz.func71 aiO
 ·exact cV h Tryz.func72 aiP
 ·exact cV h Tryz.func73 aiQ
 ·exact cV h Tryz.func78 aiR
 ·exact cV h Tryz.func79 aiS
 ·exact cV h Tryz.func80 aiT
 ·exact cV h Tryz.func81 aiU
 ·exact cV h Tryz.func82 aiV
 ·exact cV h Tryz.func83 aiW
 ·exact cV h Tryz.func84 aiX
 ·exact cV h Tryz.func85 aiY
 ·exact cV h Tryz.func86 aiZ
 ·exact cV h Tryz.func87 ai0
 ·exact cV h Tryz.func88 ai1
 ·exact cV h Tryz.func89 ai2
 ·exact cV h Tryz.func90 ai3
 ·exact cV h Tryz.func91 ai4
 ·exact cV h Tryz.func92 ai5
 ·exact cV h Tryz.func94 ai6
 ·exact cV h Tryz.func95 ai7
 ·exact cV h Tryz.func96 ai8
 ·exact cV h Tryz.func97 ai9
 ·exact cV h Tryz.func99 aja
 ·exact cV h Tryz.func100 acf
 ·exact cV h Tryz.func101 acg
 ·exact cV h Tryz.func102 ach
 ·exact cV h Tryz.func104 aci
 ·exact cV h Tryz.func105 acj
 ·exact cV h Tryz.func106 ack
 ·exact cV h Tryz.func107 acm
 ·exact cV h Tryz.func108 acn
 ·exact cV h Tryz.func109 aco
 ·exact cV h Tryz.func110 acp
 ·exact cV h Tryz.func111 acq
 ·exact cV h Tryz.func112 acr
 ·exact cV h Tryz.func113 acs
 ·exact cV h Tryz.func116 acv
 ·exact cV h Tryz.func117 acw
 ·exact cV h Tryz.func118 acx
 ·exact cV h Tryz.func119 acy
 ·exact cV h Tryz.func120 acz
 ·exact cV h Tryz.func121 acA
 ·exact cV h Tryz.func122 acB
 ·exact cV h Tryz.func123 acC
 ·exact cV h Tryz.func124 acD
 ·exact cV h Tryz.func125 acE
 ·exact cV h Tryz.func126 acF
 ·exact cV h Tryz.func127 acG
 ·exact cV h Tryz.func128 acH
 ·exact cV h Tryz.func129 acI
 ·exact cV h Tryz.func130 acJ
 ·exact cV h Tryz.func132 acK
 ·exact cV h Tryz.func134 acL
 ·exact cV h Tryz.func135 acM
 ·exact cV h Tryz.func136 acN
 ·exact cV h Tryz.func137 acO
 ·exact cV h Tryz.func138 acP
 ·exact cV h Tryz.func141 acQ
 ·exact cV h Tryz.func142 acR
 ·exact cV h Tryz.func144 acS
 ·exact cV h Tryz.func146 acT
 ·exact cV h Tryz.func147 acU
 ·exact cV h Tryz.func148 acV
 ·exact cV h Tryz.func149 acW
 ·exact cV h Tryz.func150 acX
 ·exact cV h Tryz.func151 acY
 ·exact cV h Tryz.func155 acZ
 ·exact cV h Tryz.func157 ac0
 ·exact cV h Tryz.func158 ac1
 ·exact cV h Tryz.func159 ac2
 ·exact cV h Tryz.func160 ac3
 ·exact cV h Tryz.func161 ac4
 ·exact cV h Tryz.func162 ac5
 ·exact cV h Tryz.func163 ac6
 ·exact cV h Tryz.func167 ac7
 ·exact cV h Tryz.func168 ac8
 ·exact cV h Tryz.func169 ac9
 ·exact cV h Tryz.func170 ada
 ·exact cV h Tryz.func172 adb
 ·exact cV h Tryz.func173 ade
 ·exact cV h Tryz.func174 adf
 ·exact cV h Tryz.func175 adg
 ·exact cV h Tryz.func176 adh
 ·exact cV h Tryz.func177 adi
 ·exact cV h Tryz.func180 adj
 ·exact cV h Tryz.func181 adk
 ·exact cV h Tryz.func184 adl
 ·exact cV h Tryz.func185 adm
 ·exact cV h Tryz.func186 adn
 ·exact cV h Tryz.func187 ado
 ·exact cV h Tryz.func188 adp
 ·exact cV h Tryz.func189 adq
 ·exact cV h Tryz.func190 adr
 ·exact cV h Tryz.func193 ads
 ·exact cV h Tryz.func195 adt
 ·exact cV h Tryz.func200 adx
 ·exact cV h Tryz.func206 ady
 ·exact cV h Tryz.func207 adz
 ·exact cV h Tryz.func209 adA
 ·exact cV h Tryz.func221 adB
 ·exact cV h Tryz.func197 adu
 ·exact cV h Tryz.func224 adC
 ·exact cV h Tryz.func247 adE
 ·cases h
def Fe (f:Nat) (g:List ae->ai->Option (ae×ai)) (h:iX f=some g) (args:List ae) (M:ai) (x:ae×ai) (hx:g args M=some x):fX Tryz.prog f=true/\bl Tryz.prog f args M x:=by
 unfold iX at h
 split at h
 ·injection h with h; subst h; exact ⟨by kernel_rfl,OE hx⟩
 ·injection h with h; subst h; exact ⟨by kernel_rfl,OG hx⟩
 ·injection h with h; subst h; exact ⟨by kernel_rfl,Di hx⟩
 ·injection h with h; subst h; exact ⟨by kernel_rfl,abl hx⟩
 ·injection h with h; subst h; exact ⟨by kernel_rfl,AR hx⟩
 ·injection h with h; subst h; exact ⟨by kernel_rfl,F2 hx⟩
 ·injection h with h; subst h; exact ⟨by kernel_rfl,F4 hx⟩
 ·injection h with h; subst h; exact ⟨by kernel_rfl,F3 hx⟩
 ·injection h with h; subst h; exact ⟨by kernel_rfl,F1 hx⟩
 ·injection h with h; subst h; exact ⟨by kernel_rfl,JB hx⟩
 ·injection h with h; subst h; exact ⟨by kernel_rfl,CK hx⟩
 ·injection h with h; subst h; exact ⟨by kernel_rfl,CL hx⟩
 ·injection h with h; subst h; exact ⟨by kernel_rfl,aaI hx⟩
 ·injection h with h; subst h; exact ⟨by kernel_rfl,Gc hx⟩
 ·injection h with h; subst h; exact ⟨by kernel_rfl,Gb hx⟩
 ·injection h with h; subst h; exact ⟨by kernel_rfl,CV hx⟩
 ·injection h with h; subst h; exact ⟨by kernel_rfl,CW hx⟩
 ·injection h with h; subst h; exact ⟨by kernel_rfl,Gz hx⟩
 ·injection h with h; subst h; exact ⟨by kernel_rfl,GA hx⟩
 ·injection h with h; subst h; exact ⟨by kernel_rfl,Gx hx⟩
 ·injection h with h; subst h; exact ⟨by kernel_rfl,Gy hx⟩
 ·injection h with h; subst h; exact ⟨by kernel_rfl,Ln hx⟩
 ·cases h
def YB:oH Tryz.prog aV:=⟨Eu,Fe⟩
abbrev Bytes:=List UInt8
structure cJ where
 name:Bytes
 ino:Int
 ag:Int
 deriving DecidableEq,Inhabited
structure Node where
 ino:Int
 kind:Int
 bS:Int
 data:Bytes
 au:List cJ
 up:Int
 deriving DecidableEq,Inhabited
structure Tree where
 nodes:List Node
 next:Int
 ag:Int
 deriving DecidableEq,Inhabited
def Node.zero:Node:=⟨0,0,0,[],[],0⟩
def dy (e:cJ):List ae:=[.str e.name,.int .i64 e.ino,.int .i64 e.ag]
def dw (e:cJ):ae := .agg (dy e)
abbrev fR (l:List cJ):ae := .slice .sh (l.map dw)
abbrev cY (d:Bytes):ae := .slice .sh (d.map jt)
def az (n:Node):List ae:=[.int .i64 n.ino,.int .i64 n.kind,.int .i64 n.bS,cY n.data,fR n.au,.int .i64 n.up]
def bm (n:Node):ae := .agg (az n)
abbrev aF (l:List Node):ae := .slice .sh (l.map bm)
def aw (t:Tree):List ae:=[aF t.nodes,.int .i64 t.next,.int .i64 t.ag]
def bI (t:Tree):ae := .agg (aw t)
structure Small (t:Tree):Prop where
 nodes:t.nodes.length<=100000
 au:∀n,n∈t.nodes->n.au.length<=100000
 data:∀n,n∈t.nodes->n.data.length<=100000
def AK (n:Node):(bm n).cells=az n:=rfl
def CJ (e:cJ):(dw e).cells=dy e:=rfl
def Dt (n:Node):(az n).length=6:=rfl
def GH (e:cJ):(dy e).length=3:=rfl
def yX (l:List Node):wid (l.map bm) 6=True:=by
 simp only [eq_iff_iff,iff_true]
 intro x hx
 obtain ⟨n,_,rfl⟩:=List.mem_map.1 hx
 rfl
def Cd (l:List cJ):wid (l.map dw) 3=True:=by
 simp only [eq_iff_iff,iff_true]
 intro x hx
 obtain ⟨n,_,rfl⟩:=List.mem_map.1 hx
 rfl
def ki (l:Bytes):wid (l.map jt) 1=True:=by
 simp only [eq_iff_iff,iff_true]
 intro x hx
 obtain ⟨n,_,rfl⟩:=List.mem_map.1 hx
 rfl
structure Step where
 kind:Nat
 a:Nat
 b:Nat
 n:Nat
 m:Nat
 data:Bytes
set_option linter.defProp false in
def EVN:=And.intro @AK (And.intro @CJ (And.intro @Dt (And.intro @GH (And.intro @yX (And.intro @Cd @ki)))))
set_option linter.defProp false in
def EN:=And.intro EVN EV
section
attribute [local irreducible] cT cR gz gK bR kr af an aZ aK
def aW {α:Type} {l:List α} {pre r:List α} {n:α} (h:l=pre++n::r):l[pre.length]?=some n:=by rw [h]; simp
def aY {α:Type} {l:List α} {pre r:List α} {n:α} (h:l=pre++n::r):((pre.length:Int)<(l.length:Int))=True:=by rw [h]; simp; omega
def bZ {α:Type} {l:List α} {pre:List α} (h:l=pre++[]):((pre.length:Int)<(l.length:Int))=False:=by rw [h]; simp
def bp {α:Type} {pre:List α} {n:α}:((pre.length:Int)+1)=((pre++[n]).length:Int):=by simp
def find (nodes:List Node) (ino:Int):Option Node:=nodes.find? fun n=>n.ino==ino
def dj (nodes:List Node) (ino:Int):Node×Int:=match find nodes ino with
 |none=>(Node.zero,70)
 |some n=>if n.kind=2 then (n,0) else (Node.zero,73)
def cN (l:List cJ) (s:Bytes):Option cJ:=l.find? fun e=>e.name==s
def oz (b:UInt8):Bool := !(decide ((b.toNat:Int)<32)||((b.toNat:Int)==47))
def c8 (s:Bytes):Bool := !(decide ((s.length:Int)<1)||(decide ((s.length:Int)>32)||(s==[46]||s==[46,46])))&&s.all oz
def cA (nodes:List Node) (ino:Int) (s:Bytes):Int×Int :=
 if (dj nodes ino).2≠0 then (0,(dj nodes ino).2) else if c8 s=false then (0,60) else match cN (dj nodes ino).1.au s with
  |none=>(0,70)
  |some e=>(e.ino,0)
def bH {nodes:List Node} {ino:Int} {n:Node} (h:find nodes ino=some n):n∈nodes/\n.ino=ino:=by
 unfold find at h
 exact ⟨List.mem_of_find?_eq_some h,by simpa using List.find?_some h⟩
def tr {t:Tree} (hs:Small t) (ino:Int):(dj t.nodes ino).1.au.length<=100000:=by
 unfold dj
 split
 ·simp [Node.zero]
 ·rename_i n hn
  split
  ·exact hs.au n (bH hn).1
  ·simp [Node.zero]
def zT:List ae:=[.slice .c0 [],.int .i64 0,.int .i64 0]
def iy (n:Node):List Node->List Node->Bool->List Node×Bool
 | [],out,done=>(out,done)
 |m::r,out,done =>
  iy n r ((if (!done&&decide (m.ino>=n.ino))=true then out++[n] else out)++(if m.ino=n.ino then [] else [m])) (done||decide (m.ino>=n.ino))
def ck (nodes:List Node) (n:Node):List Node:=(iy n nodes [] false).1++(if (iy n nodes [] false).2=true then [] else [n])
def fz (nodes:List Node) (ino:Int):List Node:=nodes.filter fun n=>n.ino != ino
def eA (l:List cJ) (s:Bytes):List cJ:=l.filter fun e=>e.name != s
def bQ (nodes:List Node) (ino:Int) (s:Bytes):List Node:=ck nodes { (find nodes ino).getD Node.zero with au:=eA ((find nodes ino).getD Node.zero).au s }
abbrev gG (n:Int):Int:=IntKind.i64.wrap n
def Vx (a b:Bytes):Bool := !(strLt a b||a==b)
def pk (e:cJ):List cJ->List cJ->Bool->List cJ×Bool
 | [],out,done=>(out,done)
 |m::r,out,done=>pk e r ((if (!done&&Vx m.name e.name)=true then out++[e] else out)++[m]) (done||Vx m.name e.name)
def si (l:List cJ) (e:cJ):List cJ:=(pk e l [] false).1++(if (pk e l [] false).2=true then [] else [e])
def dI (t:Tree) (ino:Int) (s:Bytes) (of:Int):Tree :=
 ⟨ck t.nodes { (find t.nodes ino).getD Node.zero with au:=si ((find t.nodes ino).getD Node.zero).au ⟨s,of,t.ag⟩ },t.next,gG (t.ag+1)⟩
def Hv (nodes:List Node) (ino:Int):Int:=((find nodes ino).getD Node.zero).up
def rY (nodes:List Node):Nat->Int->Nat->Nat
 |0,_,d=>d
 |m+1,ino,d=>if ino=1 then d else rY nodes m (Hv nodes ino) (d+1)
def je (nodes:List Node) (ino:Int):Nat:=rY nodes 201 ino 0
def gM (nodes:List Node) (of:Int):Nat->Int->Bool
 |0,_=>false
 |m+1,ino=>if ino=of then true else if ino=1 then false else gM nodes of m (Hv nodes ino)
def fi (nodes:List Node) (ino of:Int):Bool:=gM nodes of (nodes.length+1) ino
structure Sz (b:Nat) (t:Tree):Prop where
 nodes:t.nodes.length<=b
 au:∀n,n∈t.nodes->n.au.length<=b
 data:∀n,n∈t.nodes->n.data.length<=100000
def Sz.small {b:Nat} {t:Tree} (h:Sz b t) (hb:b<=100000):Small t:=⟨Nat.le_trans h.nodes hb,fun n hn=>Nat.le_trans (h.au n hn) hb,h.data⟩
def yY (n:Node):∀(l out:List Node) (d:Bool),(iy n l out d).1.length+(if (iy n l out d).2=true then 0 else 1)<=out.length+l.length+(if d=true then 0 else 1)
 | [],out,d=>by simp only [iy,List.length_nil,Nat.add_zero]; exact Nat.le_refl _
 |m::r,out,d=>by
  rw [iy]
  refine Nat.le_trans (yY n r _ _) ?_
  cases d<;>by_cases h1:n.ino<=m.ino<;>by_cases h2:m.ino=n.ino<;>simp [h1,h2]<;>omega
def yZ (n:Node):∀(l out:List Node) (d:Bool) (x:Node),x∈(iy n l out d).1->x=n\/x∈out\/x∈l
 | [],out,d,x,h=>by simp [iy] at h; exact .inr (.inl h)
 |m::r,out,d,x,h=>by
  rw [iy] at h
  rcases yZ n r _ _ x h with h|h|h
  ·exact .inl h
  ·rcases List.mem_append.1 h with h|h
   ·split at h
    ·rcases List.mem_append.1 h with h|h
     ·exact .inr (.inl h)
     ·exact .inl (by simpa using h)
    ·exact .inr (.inl h)
   ·split at h
    ·cases h
    ·exact .inr (.inr (by simp at h; simp [h]))
  ·exact .inr (.inr (List.mem_cons_of_mem _ h))
def y8 (nodes:List Node) (n:Node):(ck nodes n).length<=nodes.length+1:=by
 have:=yY n nodes [] false
 unfold ck
 split at this<;>simp_all
def y9 {nodes:List Node} {n x:Node} (h:x∈ck nodes n):x=n\/x∈nodes:=by
 unfold ck at h
 rcases List.mem_append.1 h with h|h
 ·rcases yZ n nodes [] false x h with h|h|h
  ·exact .inl h
  ·cases h
  ·exact .inr h
 ·split at h
  ·cases h
  ·exact .inl (by simpa using h)
def Sz.with {b:Nat} {t:Tree} (h:Sz b t) {n:Node} (h1:n.au.length<=b+1) (h2:n.data.length<=100000) (next ag:Int):Sz (b+1) ⟨ck t.nodes n,next,ag⟩ :=
 ⟨Nat.le_trans (y8 _ _) (by have:=h.nodes; simp; omega),fun x hx=>by
  rcases y9 hx with rfl|hx
  ·exact h1
  ·exact Nat.le_succ_of_le (h.au x hx),fun x hx=>by
  rcases y9 hx with rfl|hx
  ·exact h2
  ·exact h.data x hx⟩
def Sz.up {b c:Nat} {t:Tree} (h:Sz b t) (hbc:b<=c):Sz c t:=⟨Nat.le_trans h.nodes hbc,fun n hn=>Nat.le_trans (h.au n hn) hbc,h.data⟩
def Sz.find {b:Nat} {t:Tree} (h:Sz b t) (ino:Int):((find t.nodes ino).getD Node.zero).au.length<=b/\((find t.nodes ino).getD Node.zero).data.length<=100000:=by
 cases hf:Go.Proofs.YtdbadpnkhaepnaaGreatDoor.find t.nodes ino with
 |none=>simp [Node.zero]
 |some n=>exact ⟨h.au n (bH hf).1,h.data n (bH hf).1⟩
def tv (l:List cJ) (s:Bytes):(eA l s).length<=l.length:=List.length_filter_le _ _
def Sz.left {b:Nat} {t:Tree} (h:Sz b t) (ino:Int) (s:Bytes) (next ag:Int):Sz (b+1) ⟨bQ t.nodes ino s,next,ag⟩ :=
 h.with (n:={ (Go.Proofs.YtdbadpnkhaepnaaGreatDoor.find t.nodes ino).getD Node.zero with au:=eA ((Go.Proofs.YtdbadpnkhaepnaaGreatDoor.find t.nodes ino).getD Node.zero).au s }) (Nat.le_trans (tv _ _) (Nat.le_succ_of_le (h.find ino).1)) (h.find ino).2 next ag
def Sz.sU {b:Nat} {t:Tree} (h:Sz b t) (ino:Int) (next ag:Int):Sz b ⟨fz t.nodes ino,next,ag⟩ :=
 ⟨Nat.le_trans (List.length_filter_le _ _) h.nodes,fun x hx=>h.au x ((List.mem_filter.1 hx).1),fun x hx=>h.data x ((List.mem_filter.1 hx).1)⟩
def ED (t:Tree) (n:Node):Bool:=decide ((64:Int)<=n.au.length)||(decide ((12:Int)<=je t.nodes n.ino)||decide ((1099511627776:Int)<=t.ag))
def ir (t:Tree) (ino:Int) (s:Bytes):Int :=
 if (dj t.nodes ino).2≠0 then (dj t.nodes ino).2 else if c8 s=false then 60 else if (cN (dj t.nodes ino).1.au s).isSome=true then 71 else if ED t (dj t.nodes ino).1=true then 76 else 0
def o8 (t:Tree) (ino:Int) (s:Bytes) (kind:Int):Tree×Int×Int :=
 if (kind != 1&&kind != 2)=true then (t,0,1) else if (ir t ino s != 0)=true then (t,0,ir t ino s) else
 if (decide ((200:Int)<=t.nodes.length)||decide ((1099511627776:Int)<=t.next))=true then (t,0,76) else
 (dI ⟨ck t.nodes ⟨t.next,kind,1,[],[],if (kind==2)=true then ino else 0⟩,gG (t.next+1),t.ag⟩ ino s t.next,t.next,0)
abbrev aJ (nodes:List Node) (ino:Int):Node:=(find nodes ino).getD Node.zero
def BC (t:Tree) (ino to:Int) (s:Bytes):Tree×Int :=
 if (!(find t.nodes ino).isSome||((aJ t.nodes ino).kind==1&&(aJ t.nodes ino).bS==0))=true then (t,70) else if ((aJ t.nodes ino).kind==2)=true then (t,72) else
 if (ir t to s != 0)=true then (t,ir t to s) else
 (dI ⟨ck t.nodes { aJ t.nodes ino with bS:=gG ((aJ t.nodes ino).bS+1) },t.next,t.ag⟩ to s ino,0)
def dx (nodes:List Node) (ino:Int):List Node :=
 if ((aJ nodes ino).kind==2)=true then fz nodes ino else ck nodes { aJ nodes ino with bS:=gG ((aJ nodes ino).bS-1) }
def Cc (t:Tree) (ino:Int) (s:Bytes):Tree×Int×Int :=
 if ((cA t.nodes ino s).2 != 0)=true then (t,0,(cA t.nodes ino s).2) else if decide ((0:Int)<(aJ t.nodes (cA t.nodes ino s).1).au.length)=true then (t,0,74) else
 (⟨dx (bQ t.nodes ino s) (cA t.nodes ino s).1,t.next,t.ag⟩,(cA t.nodes ino s).1,0)
def ot (nodes:List Node) (kind:Int) (y:Int):Int :=
 if (!(find nodes y).isSome)=true then 0 else if (kind==2&&(aJ nodes y).kind != 2)=true then 73 else if (kind != 2&&(aJ nodes y).kind==2)=true then 72 else if decide ((0:Int)<(aJ nodes y).au.length)=true then 74 else 0
def oC (t:Tree) (ino:Int) (data:Bytes):Tree×Int :=
 if (!(find t.nodes ino).isSome)=true then (t,70) else if ((aJ t.nodes ino).kind==2)=true then (t,72) else if decide ((4096:Int)<data.length)=true then (t,2) else
 (⟨ck t.nodes { aJ t.nodes ino with data:=data },t.next,t.ag⟩,0)
def lf (t:Tree) (ino:Int):Tree×Int :=
 if (!(find t.nodes ino).isSome)=true then (t,70) else if ((aJ t.nodes ino).kind==2)=true then (t,72) else if decide ((0:Int)<(aJ t.nodes ino).bS)=true then (t,71) else
 (⟨fz t.nodes ino,t.next,t.ag⟩,0)
def xH:Tree:=⟨[⟨1,2,0,[],[],1⟩],2,1⟩
def nG (nodes:List Node) (ino at' d:Int) (n:Node) (most:Int):Int :=
 if (n.kind==2&&fi nodes n.ino ino)=true then
  (if (if decide ((0:Int)<n.au.length)=true then gG (gG (gG (at'+je nodes n.ino)-d)+1) else gG (gG (at'+je nodes n.ino)-d))>most
   then (if decide ((0:Int)<n.au.length)=true then gG (gG (gG (at'+je nodes n.ino)-d)+1) else gG (gG (at'+je nodes n.ino)-d)) else most)
 else most
def rh (nodes:List Node) (ino at' d:Int):List Node->Int->Int
 | [],most=>most
 |n::r,most=>rh nodes ino at' d r (nG nodes ino at' d n most)
def ye (nodes:List Node) (ino at':Int):Int:=rh nodes ino at' (je nodes ino) nodes 0
def er (l:List cJ) (s:Bytes):Int:=match cN l s with
 |none=>0
 |some e=>e.ino
def manyN (t:Tree) (oY to:Int) (au:List cJ) (kind y ino:Int):Bool :=
 ((y==0&&to != oY)&&decide ((64:Int)<=au.length))||(decide ((12:Int)<=je t.nodes to)||((kind==2&&decide ((12:Int)<ye t.nodes ino (gG (je t.nodes to+1))))||decide ((1099511627776:Int)<=t.ag)))
def oS (t:Tree) (oY:Int) (s:Bytes) (to:Int) (nm:Bytes) (ino y:Int):Tree :=
 dI ⟨if ((aJ t.nodes ino).kind==2)=true then
   ck (if (y != 0)=true then dx (bQ (bQ t.nodes oY s) to nm) y else bQ t.nodes oY s) { aJ t.nodes ino with up:=to }
  else if (y != 0)=true then dx (bQ (bQ t.nodes oY s) to nm) y else bQ t.nodes oY s,t.next,t.ag⟩ to nm ino
def xk (t:Tree) (oY:Int) (s:Bytes) (to:Int) (nm:Bytes):Tree×Int×Int :=
 if ((cA t.nodes oY s).2 != 0)=true then (t,0,(cA t.nodes oY s).2) else
 if ((dj t.nodes to).2 != 0)=true then (t,0,(dj t.nodes to).2) else
 if (!c8 nm)=true then (t,0,60) else
 if (er (dj t.nodes to).1.au nm==(cA t.nodes oY s).1)=true then (t,0,0) else
 if ((aJ t.nodes (cA t.nodes oY s).1).kind==2&&fi t.nodes to (cA t.nodes oY s).1)=true then (t,0,75) else
 if (ot t.nodes (aJ t.nodes (cA t.nodes oY s).1).kind (er (dj t.nodes to).1.au nm) != 0)=true then (t,0,ot t.nodes (aJ t.nodes (cA t.nodes oY s).1).kind (er (dj t.nodes to).1.au nm)) else
 if manyN t oY to (dj t.nodes to).1.au (aJ t.nodes (cA t.nodes oY s).1).kind (er (dj t.nodes to).1.au nm) (cA t.nodes oY s).1=true then (t,0,76) else
 (oS t oY s to nm (cA t.nodes oY s).1 (er (dj t.nodes to).1.au nm),er (dj t.nodes to).1.au nm,0)
def Sz.unnamed {b:Nat} {t:Tree} (h:Sz b t) (ino next ag:Int):Sz (b+1) ⟨dx t.nodes ino,next,ag⟩:=by
 unfold dx
 split
 ·exact (h.sU ino next ag).up (by omega)
 ·exact h.with (n:={ aJ t.nodes ino with bS:=gG ((aJ t.nodes ino).bS-1) }) (Nat.le_succ_of_le (h.find ino).1) (h.find ino).2 next ag
structure Step.Ok (s:Step):Prop where
 kind:s.kind<256
 a:s.a<256
 b:s.b<256
 n:s.n<256
 m:s.m<256
 data:s.data.length<=100000
def nameOf (n:Nat):Bytes:=match n % 6 with
 |0=>[97]
 |1=>[98]
 |2=>[99]
 |3=>[100]
 |4=>[101]
 |_=>[46,46]
def oQ (t:Tree) (n:Nat):Int:=match t.nodes[n % (t.nodes.length+1)]? with
 |some m=>m.ino
 |none=>t.next
def Tr (t:Tree) (s:Step):Tree×Int×Int :=
 if (((s.kind % 8:Nat):Int)==0||((s.kind % 8:Nat):Int)==1)=true then o8 t (oQ t s.a) (nameOf s.n) (((s.m % 2:Nat):Int)+1) else
 if (((s.kind % 8:Nat):Int)==2)=true then ((BC t (oQ t s.b) (oQ t s.a) (nameOf s.n)).1,0,(BC t (oQ t s.b) (oQ t s.a) (nameOf s.n)).2) else
 if (((s.kind % 8:Nat):Int)==3)=true then Cc t (oQ t s.a) (nameOf s.n) else
 if (((s.kind % 8:Nat):Int)==4||((s.kind % 8:Nat):Int)==5)=true then xk t (oQ t s.a) (nameOf s.n) (oQ t s.b) (nameOf s.m) else
 if (((s.kind % 8:Nat):Int)==6)=true then ((oC t (oQ t s.a) s.data).1,0,(oC t (oQ t s.a) s.data).2) else
 ((lf t (oQ t s.a)).1,0,(lf t (oQ t s.a)).2)
def Bo (e:cJ):∀(l out:List cJ) (d:Bool),(pk e l out d).1.length+(if (pk e l out d).2=true then 0 else 1)<=out.length+l.length+(if d=true then 0 else 1)
 | [],out,d=>by simp only [pk,List.length_nil,Nat.add_zero]; exact Nat.le_refl _
 |m::r,out,d=>by
  rw [pk]
  refine Nat.le_trans (Bo e r _ _) ?_
  cases d<;>cases h1:Vx m.name e.name<;>simp<;>omega
def Lk (l:List cJ) (e:cJ):(si l e).length<=l.length+1:=by
 have:=Bo e l [] false
 unfold si
 split at this<;>simp_all
def Sz.jE {b:Nat} {t:Tree} (h:Sz b t) (ino:Int) (s:Bytes) (of:Int):Sz (b+1) (dI t ino s of) :=
 h.with (n:={ aJ t.nodes ino with au:=si (aJ t.nodes ino).au ⟨s,of,t.ag⟩ }) (Nat.le_trans (Lk _ _) (Nat.succ_le_succ (h.find ino).1)) (h.find ino).2 t.next (gG (t.ag+1))
def Sz.add {b:Nat} {t:Tree} (h:Sz b t) (ino:Int) (s:Bytes) (kind:Int):Sz (b+5) (o8 t ino s kind).1:=by
 unfold o8
 split
 ·exact h.up (by omega)
 ·split
  ·exact h.up (by omega)
  ·split
   ·exact h.up (by omega)
   ·exact ((h.with (n:=⟨t.next,kind,1,[],[],if (kind==2)=true then ino else 0⟩) (by simp) (by simp) (gG (t.next+1)) t.ag).jE ino s t.next).up (by omega)
def Sz.ln {b:Nat} {t:Tree} (h:Sz b t) (ino to:Int) (s:Bytes):Sz (b+5) (BC t ino to s).1:=by
 unfold BC
 split
 ·exact h.up (by omega)
 ·split
  ·exact h.up (by omega)
  ·split
   ·exact h.up (by omega)
   ·exact ((h.with (n:={ aJ t.nodes ino with bS:=gG ((aJ t.nodes ino).bS+1) }) (Nat.le_succ_of_le (h.find ino).1) (h.find ino).2 t.next t.ag).jE to s ino).up (by omega)
def Sz.un {b:Nat} {t:Tree} (h:Sz b t) (ino:Int) (s:Bytes):Sz (b+5) (Cc t ino s).1:=by
 unfold Cc
 split
 ·exact h.up (by omega)
 ·split
  ·exact h.up (by omega)
  ·exact ((h.left ino s t.next t.ag).unnamed _ t.next t.ag).up (by omega)
def Sz.put {b:Nat} {t:Tree} (h:Sz b t) (ino:Int) (data:Bytes) (hd:data.length<=100000):Sz (b+5) (oC t ino data).1:=by
 unfold oC
 split
 ·exact h.up (by omega)
 ·split
  ·exact h.up (by omega)
  ·split
   ·exact h.up (by omega)
   ·exact (h.with (n:={ aJ t.nodes ino with data:=data }) (Nat.le_succ_of_le (h.find ino).1) hd t.next t.ag).up (by omega)
def Sz.free {b:Nat} {t:Tree} (h:Sz b t) (ino:Int):Sz (b+5) (lf t ino).1:=by
 unfold lf
 split
 ·exact h.up (by omega)
 ·split
  ·exact h.up (by omega)
  ·split
   ·exact h.up (by omega)
   ·exact (h.sU ino t.next t.ag).up (by omega)
def Sz.move {b:Nat} {t:Tree} (h:Sz b t) (oY:Int) (s:Bytes) (to:Int) (nm:Bytes) (ino y:Int):Sz (b+5) (oS t oY s to nm ino y):=by
 unfold oS
 have z1:=h.left oY s t.next t.ag
 have z3:=(z1.left to nm t.next t.ag).unnamed y t.next t.ag
 have z:Sz (b+3) ⟨if (y != 0)=true then dx (bQ (bQ t.nodes oY s) to nm) y else bQ t.nodes oY s,t.next,t.ag⟩:=by
  split
  ·exact z3
  ·exact z1.up (by omega)
 split
 ·exact ((z.with (n:={ aJ t.nodes ino with up:=to }) (Nat.le_trans (h.find ino).1 (by omega)) (h.find ino).2 t.next t.ag).jE to nm ino).up (by omega)
 ·exact (z.jE to nm ino).up (by omega)
def Sz.mv {b:Nat} {t:Tree} (h:Sz b t) (oY:Int) (s:Bytes) (to:Int) (nm:Bytes):Sz (b+5) (xk t oY s to nm).1:=by
 unfold xk
 repeat' split
 all_goals first
  |exact h.up (by omega)
  |exact h.move oY s to nm _ _
def Sz.done {b:Nat} {t:Tree} (h:Sz b t) (s:Step) (hs:s.Ok):Sz (b+5) (Tr t s).1:=by
 unfold Tr
 repeat' split
 all_goals first
  |exact h.add _ _ _
  |exact h.ln _ _ _
  |exact h.un _ _
  |exact h.mv _ _ _ _
  |exact h.put _ _ hs.data
  |exact h.free _
def tkN (n:Node):List.take 6 (az n)=az n:=rfl
def shN (n:Node):List.map ae.shut (az n)=az n:=rfl
def YD (n:cJ):List.take 3 (dy n)=dy n:=rfl
def Yx (n:cJ):List.map ae.shut (dy n)=dy n:=rfl
def c73 (a:Int):af aV 73 [.int .i64 a] []=some (.bool false,[]):=by
 refine aq rfl rfl rfl ?_
 simp only [Vi,E73,bne_self_eq_false,EN,simprocAttr]
def k73 (a:Int) (M:ai):an (af aV) 73 [.int .i64 a] M=some (.bool false,M):=cO (c73 a) M
def eF (a b:Int):Int:=if decide (a<b)=true then -1 else if decide (b<a)=true then 1 else 0
def c44 (a b:Int):af aV 44 [.int .i64 a,.int .i64 b] []=some (.int .i64 (eF a b),[]):=by
 refine aq rfl rfl rfl ?_
 simp only [Vb,E44,k73,EN,simprocAttr]
 repeat' ((first|refine aH (fun hb=>?_) (fun hb=>?_)|refine bj (fun hb=>?_) (fun hb=>?_)|refine cj (fun hb=>?_) (fun hb=>?_))<;>simp only [hb,EN,E44,simprocAttr])
 all_goals (simp_all only [eF,jZ,↓reduceIte,reduceCtorEq,bne_self_eq_false]; done)
def k44 (a b:Int) (M:ai):an (af aV) 44 [.int .i64 a,.int .i64 b] M=some (.int .i64 (eF a b),M):=cO (c44 a b) M
def ll (a b:Int):(eF a b<0)=(a<b):=by
 unfold eF
 by_cases h1:a<b
 ·simp [h1]
 ·by_cases h2:b<a<;>simp [h1,h2]
def rU (a b:Int):(eF a b==0)=(a==b):=by
 unfold eF
 by_cases h1:a<b
 ·have:¬a=b:=by omega
  simp [h1,this]
 ·by_cases h2:b<a
  ·have:¬a=b:=by omega
   simp [h1,h2,this]
  ·have:a=b:=by omega
   simp [this]
def agH (n:Node) (ino:Int):af aV 200 [bm n,.int .i64 ino] []=some (.int .i64 (eF n.ino ino),[]):=by
 refine aq rfl rfl rfl ?_
 simp only [KX,aeZ,bm,az,k44,EN,simprocAttr]
def abM (n:Node) (ino:Int) (M:ai):an (af aV) 200 [.agg (az n),.int .i64 ino] M=some (.int .i64 (eF n.ino ino),M):=cO (agH n ino) M
structure FC (nodes:List Node) (ino:Int) (b:Nat):Prop where
 le:b<=nodes.length
 lt:∀h n,nodes[h]?=some n->(n.ino<ino↔h<b)
def tY (i j:Nat) (hj:j<=100000) (hi:i<=j):IntKind.i64.wrap ((i:Int)+(j:Int))=((i+j:Nat):Int)/\IntKind.u64.wrap ((i+j:Nat):Int)=((i+j:Nat):Int) /\
  (((i+j:Nat):Int)).fdiv (2 ^ min 1 IntKind.u64.bits)=(((i+j) / 2:Nat):Int)/\IntKind.i64.wrap (((i+j) / 2:Nat):Int)=(((i+j) / 2:Nat):Int)/\IntKind.i64.wrap ((((i+j) / 2:Nat):Int)+1)=(((i+j) / 2+1:Nat):Int):=by
 refine ⟨?_,?_,?_,?_,?_⟩
 ·rw [bw (by omega) (by omega)]; rfl
 ·have:IntKind.u64.wrap ((i+j:Nat):Int)=((i+j:Nat):Int) % 18446744073709551616:=by simp [IntKind.wrap,IntKind.bits,IntKind.signed]
  rw [this]; omega
 ·have:(2:Int) ^ min 1 IntKind.u64.bits=2:=by decide
  rw [this,Int.fdiv_eq_ediv_of_nonneg _ (by omega)]; omega
 ·exact bw (by omega) (by omega)
 ·rw [bw (by omega) (by omega)]; rfl
def QX {nodes:List Node} {ino:Int} {b:Nat} (hb:FC nodes ino b) (hn:nodes.length<=100000) {k:List K} {r:Option (ae×ai)}
  (hx:∀v q,kr (af aV) [.tmp 6,.tmp 7] 0 k ⟨.exit 0,[(0,aF nodes),(1,.int .i64 ino),(2,.func 200 []),(8,.int .i64 nodes.length),(9,.int .i64 b),(10,v),(17,q)],[]⟩=r) :
  ∀(f i j:Nat),j-i<=f->i<=b->b<=j->j<=nodes.length->cT (af aV) [.tmp 6,.tmp 7] 0 k (.loop [0,1,2,8,9,10] ER) [(0,aF nodes),(1,.int .i64 ino),(2,.func 200 []),(8,.int .i64 nodes.length),(9,.int .i64 i),(10,.int .i64 j)] []=r:=by
 intro f
 induction f with
 |zero =>
  intro i j h1 h2 h3 h4
  obtain rfl:i=b:=by omega
  rw [aE]
  have hlt:((i:Int)<(j:Int))=False:=by simp; omega
  simp only [qi,hlt,EN,simprocAttr]
  exact hx _ _
 |succ f ih =>
  intro i j h1 h2 h3 h4
  rw [aE]
  by_cases hij:i<j
  ·have hlt:((i:Int)<(j:Int))=True:=by simp; omega
   obtain ⟨m1,m2,m3,m4,m5⟩:=tY i j (by omega) (by omega)
   have hmid:(i+j) / 2<nodes.length:=by omega
   have hx:=List.getElem?_eq_getElem hmid
   have hl:=hb.lt _ _ hx
   simp only [qi,hlt,m1,m2,m3,m4,hx,abM,ll,tkN,shN,EN,simprocAttr]
   refine aH (fun hq=>?_) (fun hq=>?_)
   ·have hq:nodes[(i+j) / 2].ino<ino:=by simpa using hq
    simp only [qi,m5,EN,simprocAttr]
    exact ih ((i+j) / 2+1) j (by omega) (hl.1 hq) h3 h4
   ·have hq:¬nodes[(i+j) / 2].ino<ino:=by simpa using hq
    simp only [qi,EN,simprocAttr]
    exact ih i ((i+j) / 2) (by omega) h2 (Nat.not_lt.1 fun h=>hq (hl.2 h)) (by omega)
  ·obtain rfl:i=b:=by omega
   have hlt:((i:Int)<(j:Int))=False:=by simp; omega
   simp only [qi,hlt,EN,simprocAttr]
   exact hx _ _
def zC (nodes:List Node) (ino:Int) (b:Nat):Bool:=match nodes[b]? with
 |some n=>n.ino==ino
 |none=>false
def agB (nodes:List Node) (ino:Int) (b:Nat) (hb:FC nodes ino b) (hn:nodes.length<=100000):af aV 185 [aF nodes,.int .i64 ino,.func 200 []] []=some (.tuple [.int .i64 b,.bool (zC nodes ino b)],[]):=by
 refine aq rfl rfl rfl ?_
 simp only [EC,qi,EN,simprocAttr]
 refine QX hb hn (fun v q=>?_) nodes.length 0 nodes.length (by omega) (by omega) hb.le (by omega)
 unfold zC
 by_cases hlt:b<nodes.length
 ·have hx:=List.getElem?_eq_getElem hlt
  have h1:((b:Int)<(nodes.length:Int))=True:=by simp; omega
  simp only [qi,hx,h1,abM,rU,tkN,shN,EN,simprocAttr]
 ·have hx:nodes[b]?=none:=List.getElem?_eq_none (by omega)
  have h1:((b:Int)<(nodes.length:Int))=False:=by simp; omega
  simp only [qi,hx,h1,EN,simprocAttr]
def ahy (nodes:List Node) (ino:Int) (b:Nat) (hb:FC nodes ino b) (hn:nodes.length<=100000) (M:ai):an (af aV) 185 [aF nodes,.int .i64 ino,.func 200 []] M=some (.tuple [.int .i64 b,.bool (zC nodes ino b)],M) :=
 cO (agB nodes ino b hb hn) M
def hU (nodes:List Node):Prop:=nodes.Pairwise fun a b=>a.ino<b.ino
def fm (nodes:List Node) (ino:Int):Nat:=(nodes.takeWhile fun n=>decide (n.ino<ino)).length
def mL {nodes:List Node} (h:hU nodes) (ino:Int):FC nodes ino (fm nodes ino):=by
 unfold fm
 induction nodes with
 |nil=>exact ⟨by simp,fun h n hn=>by simp at hn⟩
 |cons a r ih =>
  obtain ⟨h1,h2⟩:=List.pairwise_cons.1 h
  obtain ⟨i1,i2⟩:=ih h2
  by_cases ha:a.ino<ino
  ·rw [List.takeWhile_cons,if_pos (by simpa using ha)]
   refine ⟨by simpa using i1,fun k n hn=>?_⟩
   cases k with
   |zero=>simp at hn; subst hn; simp [ha]
   |succ k=>rw [i2 k n (by simpa using hn)]; simp
  ·rw [List.takeWhile_cons,if_neg (by simpa using ha)]
   refine ⟨by simp,fun k n hn=>?_⟩
   simp only [List.length_nil,Nat.not_lt_zero,iff_false]
   cases k with
   |zero=>simp at hn; subst hn; exact ha
   |succ k =>
    have:=h1 n (List.mem_of_getElem? (by simpa using hn))
    omega
def lj {nodes:List Node} (h:hU nodes) (ino:Int):(zC nodes ino (fm nodes ino)=true/\∃n,nodes[fm nodes ino]?=some n/\find nodes ino=some n/\n.ino=ino)\/(zC nodes ino (fm nodes ino)=false/\find nodes ino=none):=by
 obtain ⟨l1,l2⟩:=mL h ino
 cases hf:find nodes ino with
 |some n =>
  left
  obtain ⟨hm,he⟩:=bH hf
  obtain ⟨k,hk⟩:=List.getElem?_of_mem hm
  have hkb:¬k<fm nodes ino:=fun hc=>by have:=(l2 k n hk).2 hc; omega
  have hb:fm nodes ino<nodes.length:=by have:=(List.getElem?_eq_some_iff.1 hk).1; omega
  have hx:=List.getElem?_eq_getElem hb
  have hnl:¬nodes[fm nodes ino].ino<ino:=fun hc=>Nat.lt_irrefl _ ((l2 _ _ hx).1 hc)
  have hke:k=fm nodes ino:=by
   rcases Nat.lt_or_ge (fm nodes ino) k with hlt|hge
   ·have hkl:=(List.getElem?_eq_some_iff.1 hk).1
    have h3:=List.pairwise_iff_getElem.1 h _ _ hb hkl hlt
    have h4:nodes[k]=n:=by rw [List.getElem?_eq_getElem hkl] at hk; injection hk
    rw [h4] at h3
    omega
   ·omega
  subst hke
  exact ⟨by unfold zC; rw [hk]; simp [he],n,hk,rfl,he⟩
 |none =>
  right
  refine ⟨?_,rfl⟩
  unfold zC
  split
  ·rename_i n hn
   have:=List.find?_eq_none.1 hf n (List.mem_of_getElem? hn)
   simpa using this
  ·rfl
def ij {M:ai} {p:Nat} {b:aQ} (h:nth M p=some b):dG M p b=M:=by
 rw [bW] at h; rw [cF]
 apply List.ext_getElem?
 intro i
 by_cases e:p=i
 ·subst e; rw [bf (ak h),h]
 ·rw [aO e]
def agn (nodes:List Node) (next ag ino:Int) (h:hU nodes) (hn:nodes.length<=100000):af aV 163 [.ptr 0 0,.int .i64 ino] [.cells [aF nodes,.int .i64 next,.int .i64 ag]] =
  some (.tuple [.int .i64 (fm nodes ino),.bool (zC nodes ino (fm nodes ino))],[.cells [aF nodes,.int .i64 next,.int .i64 ag]]):=by
 refine aq rfl rfl rfl ?_
 have hk:=ahy nodes ino _ (mL h ino) hn
 simp only [KF,aeO,hk,EN,simprocAttr]
def VE (nodes:List Node) (next ag ino:Int) (h:hU nodes) (hn:nodes.length<=100000) (p:Nat) (M:ai) (hM:nth M p=some (.cells [aF nodes,.int .i64 next,.int .i64 ag])) :
  an (af aV) 163 [.ptr p 0,.int .i64 ino] M=some (.tuple [.int .i64 (fm nodes ino),.bool (zC nodes ino (fm nodes ino))],M):=by
 have:=gN hM (agn nodes next ag ino h hn) rfl rfl rfl rfl rfl rfl rfl rfl rfl rfl
 rwa [ij hM] at this
def afO (nodes:List Node) (next ag ino:Int) (h:hU nodes) (hn:nodes.length<=100000):af aV 120 [.ptr 0 0,.int .i64 ino] [.cells [aF nodes,.int .i64 next,.int .i64 ag]] =
  some (.tuple [bm (aJ nodes ino),.bool (find nodes ino).isSome],[.cells [aF nodes,.int .i64 next,.int .i64 ag]]):=by
 refine aq rfl rfl rfl ?_
 have hk:=fun M=>VE nodes next ag ino h hn 0 (.cells [aF nodes,.int .i64 next,.int .i64 ag]::M) rfl
 simp only [Kb,T0,hk,EN,simprocAttr]
 rcases lj h ino with ⟨h1,n,h2,h3,h4⟩|⟨h1,h2⟩
 ·simp only [T0,h1,h2,h3,aJ,az,EN,simprocAttr]
  rfl
 ·simp only [T0,h1,h2,aJ,EN,simprocAttr]
  rfl
def xE (nodes:List Node) (next ag ino:Int) (h:hU nodes) (hn:nodes.length<=100000) (p:Nat) (M:ai) (hM:nth M p=some (.cells [aF nodes,.int .i64 next,.int .i64 ag])) :
  an (af aV) 120 [.ptr p 0,.int .i64 ino] M=some (.tuple [bm (aJ nodes ino),.bool (find nodes ino).isSome],M):=by
 have:=gN hM (afO nodes next ag ino h hn) rfl rfl rfl rfl rfl rfl rfl rfl rfl rfl
 rwa [ij hM] at this
def afR (nodes:List Node) (next ag ino:Int) (h:hU nodes) (hn:nodes.length<=100000):af aV 123 [.ptr 0 0,.int .i64 ino] [.cells [aF nodes,.int .i64 next,.int .i64 ag]] =
  some (.tuple [bm (dj nodes ino).1,.int .i64 (dj nodes ino).2],[.cells [aF nodes,.int .i64 next,.int .i64 ag]]):=by
 refine aq rfl rfl rfl ?_
 have hk:=fun M=>xE nodes next ag ino h hn 0 (.cells [aF nodes,.int .i64 next,.int .i64 ag]::M) rfl
 simp only [Ke,O3,hk,bm,az,EN,simprocAttr]
 unfold dj
 cases hf:find nodes ino with
 |none=>simp only [O3,aJ,hf,Option.isSome,EN,simprocAttr]; first|done|rfl
 |some n =>
  simp only [O3,aJ,hf,Option.isSome,Option.getD_some,EN,simprocAttr]
  repeat' ((first|refine aH (fun hb=>?_) (fun hb=>?_)|refine bj (fun hb=>?_) (fun hb=>?_)|refine cj (fun hb=>?_) (fun hb=>?_))<;>simp only [hb,EN,O3,simprocAttr])
  all_goals (clear hk; simp_all [Node.zero])
def Qb (nodes:List Node) (next ag ino:Int) (h:hU nodes) (hn:nodes.length<=100000) (p:Nat) (M:ai) (hM:nth M p=some (.cells [aF nodes,.int .i64 next,.int .i64 ag])) :
  an (af aV) 123 [.ptr p 0,.int .i64 ino] M=some (.tuple [bm (dj nodes ino).1,.int .i64 (dj nodes ino).2],M):=by
 have:=gN hM (afR nodes next ag ino h hn) rfl rfl rfl rfl rfl rfl rfl rfl rfl rfl
 rwa [ij hM] at this
end
end Go.Proofs.YtdbadpnkhaepnaaGreatDoor
