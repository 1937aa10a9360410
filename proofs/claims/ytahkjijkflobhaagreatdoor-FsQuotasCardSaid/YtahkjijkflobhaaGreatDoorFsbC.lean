import Derived.Orders
import Derived.LoopN
import Derived.Laws.AppendOwn
import Derived.Laws.IdiomCopy
import Derived.Test.YtahkjijkflobhaaGreatDoorProg
import Derived.Shelf.RegionOpenPlain
import Derived.WalkKit
import Derived.Below
import Derived.Deep.LoopGhost
import Derived.Deep.RegionLaw
import Derived.Deep.AppendSrc
import Derived.Lib.Walk
import Derived.Lib.SliceRun
import Derived.Lib.AppendZeros
import Derived.Lib.AppendZerosOnto
import Derived.Laws.NewBlocks
import Derived.Laws.Externs
import Derived.KernelRfl
import Derived.Shelf.SlSortCmp.WholeK
import Derived.Shelf.SlSortCmp.NoneTotal
import Derived.Shelf.SlicesG.Cmp
import Derived.Ground.SlsfProg
import Derived.Ground.SlgcProg
import Derived.Lib.Strings
import Derived.Lib.Slices
import Derived.Lib.Bytealg
import Derived.Shelf.Strings.Builder1
import Derived.Shelf.Strings.Builder2
import Derived.Shelf.Strings.OnBuilder
import Derived.Shelf.Small.Bits
import Derived.Shelf.Small.Strs
import Derived.Shelf.Strconv.Itoa0
import Derived.Shelf.Strings.Search1
import Derived.Ground.Names2Prog
import Derived.Shelf.Slices.SearchI
import Derived.Laws.RangeString
import Derived.Test.YtahkjijkflobhaaGreatDoorFsbB
set_option linter.unusedSimpArgs false
set_option linter.unusedVariables false
set_option linter.unusedSectionVars false
set_option linter.defProp false
namespace Go.Abs
section
open Go Go.RowKit
variable [dQ]
section
variable {P:Program} {C:bt} {A:we}
def Bz (C:bt) (o:aR) (env:Env) (M:ag) (v:ae) (M':ag):Prop :=
 ((∀t want,o.guard=some (t,want)->cL env t = .bool want)/\fV C o env M=some (v,M')) \/
 (∃t want,o.guard=some (t,want)/\(cL env t = .bool (!want)\/cL env t = .tuple [])/\v = .tuple []/\M'=M)
def gd (env:Env) (l:List aR) (vals:Nat->ae) (L:Nat->Bool):Nat->Env
 |0=>env
 |k+1=>match l[k]? with
  |some o=>if L k then hV (gd env l vals L k) o.dst (vals k) else gd env l vals L k
  |none=>gd env l vals L k
def sb (env:Env) (o:aR) (r:List aR) (vals:Nat->ae):∀k,gd env (o::r) vals (fun _=>true) (k+1)=gd (hV env o.dst (vals 0)) r (fun i=>vals (i+1)) (fun _=>true) k
 |0=>rfl
 |k+1=>by
  rw [gd,sb env o r vals k]
  simp only [List.getElem?_cons_succ,gd]
def Pc (l:List aR) (env:Env) (vals:Nat->ae) (mems:Nat->ag) (N:Nat) (x:Out):Prop :=
 (N=l.length/\(∀k,k<N->(vals k).di=false)/\x=⟨.normal,gd env l vals (fun _=>true) N,mems N⟩) \/
 ∃n y v,N=n+1/\l[n]?=some y/\y.lets=true/\vals n = .fK v/\(∀k,k<n->(vals k).di=false)/\x=⟨.fK v,[],mems N⟩
def trace:∀ {l:List aR} {env:Env} {M:ag} {x:Out},bN C l env M=some x->∃(N:Nat) (vals:Nat->ae) (mems:Nat->ag),N<=l.length/\mems 0=M /\
  (∀(k:Nat) (o:aR),k<N->l[k]?=some o->Bz C o (gd env l vals (fun _=>true) k) (mems k) (vals k) (mems (k+1)))/\Pc l env vals mems N x
 | [],env,M,x,h=>by
  simp only [bN] at h; injection h with h
  exact ⟨0,fun _ => .any,fun _=>M,Nat.le_refl _,rfl,fun k o hk=>by omega,.inl ⟨rfl,fun k hk=>by omega,h.symm⟩⟩
 |o::r,env,M,x,h=>by
  have key:∀(v:ae) (M':ag),Bz C o env M v M'->v.di=false->bN C r (hV env o.dst v) M'=some x->∃(N:Nat) (vals:Nat->ae) (mems:Nat->ag),N<=(o::r).length/\mems 0=M /\
    (∀(k:Nat) (p:aR),k<N->(o::r)[k]?=some p->Bz C p (gd env (o::r) vals (fun _=>true) k) (mems k) (vals k) (mems (k+1)))/\Pc (o::r) env vals mems N x:=by
   intro v M' hs hnp hr
   obtain ⟨N,vals,mems,h0,h1,h2,h3⟩:=trace hr
   refine ⟨N+1,fun i=>match i with|0=>v|i+1=>vals i,fun i=>match i with|0=>M|i+1=>mems i,by simpa using h0,rfl,fun k p hk hp=>?_,?_⟩
   ·cases k with
    |zero =>
     simp at hp; subst hp
     simp only [gd,h1]
     exact hs
    |succ k =>
     rw [sb]
     exact h2 k p (by omega) (by simpa using hp)
   ·have np:∀n,(∀k,k<n->(vals k).di=false)->∀k,k<n+1->((fun i=>match i with|0=>v|i+1=>vals i:Nat->ae) k).di=false:=by
     intro n h k hk
     cases k with
     |zero=>exact hnp
     |succ k=>exact h k (by omega)
    rcases h3 with ⟨e1,e2,e3⟩|⟨n,y,u,e1,e2,e3,e4,e5,e6⟩
    ·refine .inl ⟨by simp [e1],np N e2,?_⟩
     rw [sb]; exact e3
    ·exact .inr ⟨n+1,y,u,by rw [e1],by simpa using e2,e3,e4,np n e5,e6⟩
  rcases gS h with ⟨y,h1,h2,⟨h3,h4⟩|⟨v,h3,h4,rfl⟩⟩|⟨t,want,h1,h2,h3⟩
  ·exact key y.1 y.2 (.inl ⟨h1,h2⟩) h3 h4
  ·refine ⟨1,fun _=>y.1,fun i=>match i with|0=>M|_=>y.2,by simp,rfl,fun k p hk hp=>?_,.inr ⟨0,o,v,rfl,rfl,h3,h4,fun k hk=>by omega,rfl⟩⟩
   have:k=0:=by omega
   subst this
   simp at hp; subst hp
   exact .inl ⟨h1,h2⟩
  ·exact key (.tuple []) M (.inr ⟨t,want,h1,h2,rfl,rfl⟩) rfl h3
section
variable {env:Env} {l:List aR} {vals:Nat->ae} {L L':Nat->Bool} {t:Nat}
def wr (l:List aR) (k t:Nat):Prop:=∃o,l[k]?=some o/\o.dst=some t
def yn (k:Nat) (h:wr l k t) (hL:L k=true):cL (gd env l vals L (k+1)) t=vals k:=by
 obtain ⟨o,h1,h2⟩:=h
 rw [gd,h1]
 simp only [hL,if_true,hV,h2,cL]
def mh (k:Nat) (h:¬(wr l k t/\L k=true)):cL (gd env l vals L (k+1)) t=cL (gd env l vals L k) t:=by
 rw [gd]
 split
 ·rename_i o ho
  split
  ·rename_i hk
   unfold hV
   split
   ·rename_i d hd
    rw [cL,if_neg]
    rintro rfl
    exact h ⟨⟨o,ho,hd⟩,hk⟩
   ·rfl
  ·rfl
 ·rfl
def mi {i:Nat}:∀n,i<=n->(∀k,i<=k->k<n->¬(wr l k t/\L k=true))->cL (gd env l vals L n) t=cL (gd env l vals L i) t
 |0,hi,_=>by rw [show i=0 by omega]
 |n+1,hi,h=>by
  by_cases he:i=n+1
  ·rw [he]
  ·rw [mh n (h n (by omega) (by omega))]
   exact mi n (by omega) fun k h1 h2=>h k h1 (by omega)
def oY:∀n,(∀k,k<n->wr l k t->L k=L' k)->cL (gd env l vals L n) t=cL (gd env l vals L' n) t
 |0,_=>rfl
 |n+1,h=>by
  have ih:=oY n fun k hk=>h k (by omega)
  by_cases hw:wr l n t
  ·have e:=h n (by omega) hw
   cases hL:L n with
   |true=>rw [yn n hw hL,yn n hw (by rw [<-e]; exact hL)]
   |false=>rw [mh n (by simp [hL]),mh n (by rw [<-e]; simp [hL])]; exact ih
  ·rw [mh n (fun h=>hw h.1),mh n (fun h=>hw h.1)]; exact ih
end
def left (L:Nat->Bool):Nat->Nat
 |0=>0
 |k+1=>left L k+if L k then 0 else 1
def xl {L:Nat->Bool}:∀ {n},left L n=0->∀k,k<n->L k=true
 |0,_,k,hk=>by omega
 |n+1,h,k,hk=>by
  rw [left] at h
  by_cases he:k=n
  ·subst he
   cases hL:L k with
   |true=>rfl
   |false=>rw [hL] at h; simp at h
  ·exact xl (n:=n) (by omega) k (by omega)
def AB {L L':Nat->Bool} {i:Nat} (hi:L i=false) (hi':L' i=true) (hne:∀k,k≠i->L' k=L k):∀n,left L n=left L' n+if i<n then 1 else 0
 |0=>by simp [left]
 |n+1=>by
  have ih:=AB hi hi' hne n
  rw [left,left,ih]
  by_cases he:n=i
  ·subst he
   simp [hi,hi']
  ·rw [hne n he]
   by_cases h:i<n
   ·simp [h,show i<n+1 by omega]; omega
   ·simp [h,show ¬i<n+1 by omega]
def pJ {bs:List Nat} {l:List aR}:∀(r:List aR) (k m:Nat) (y:aR),(gX bs l k r)[m]?=some y->∃x,r[m]?=some x/\y.dst=x.dst/\y.op=x.op/\y.guard=x.guard
 | [],k,m,y,h=>by simp [gX] at h
 |x::r,k,m,y,h=>by
  rw [gX] at h
  cases m with
  |zero=>simp at h; subst h; exact ⟨x,rfl,rfl,rfl,rfl⟩
  |succ m =>
   obtain ⟨z,h1,h2⟩:=pJ r (k+1) m y (by simpa using h)
   exact ⟨z,by simpa using h1,h2⟩
def pK {bs:List Nat} {l:List aR}:∀(r:List aR) (k:Nat),(gX bs l k r).length=r.length
 | [],_=>rfl
 |x::r,k=>by rw [gX,List.length_cons,pK r (k+1),List.length_cons]
def uQ {ops:Array Oper}:∀ {r:List Oper} {g:List Bool} {l:List aR},j5 P A ops g r=some l->l.length=r.length/\∀(k:Nat) (o:Oper),r[k]?=some o->∃x b,l[k]?=some x/\zz P A ops b o=some x
 | [],g,l,h=>by simp [j5] at h; subst h; exact ⟨rfl,fun k o h=>by simp at h⟩
 |o::r,g,l,h=>by
  simp only [j5] at h
  obtain ⟨x,hx,h⟩:=an h
  obtain ⟨l',hl,h⟩:=an h
  injection h with h; subst h
  obtain ⟨h1,h2⟩:=uQ hl
  refine ⟨by simp [h1],fun k p hp=>?_⟩
  cases k with
  |zero=>simp at hp; subst hp; exact ⟨x,_,rfl,hx⟩
  |succ k =>
   obtain ⟨y,b,g1,g2⟩:=h2 k p (by simpa using hp)
   exact ⟨y,b,by simpa using g1,g2⟩
structure Ord (ops:Array Oper) (l:List aR):Prop where
 len:l.length=ops.size
 MN:∀(k:Nat) (o:Oper) (e:Edge),ops[k]?=some o->e∈o.after.toList->Region.binds .any e=true->e.on<k
 alone:∀(k:Nat) (y:aR),l[k]?=some y->y.nz=true->y.op.oa=true
 opl:∀(k:Nat) (y:aR),l[k]?=some y->CH y.op=true
 Pw:∀(k i:Nat) (y x:aR),l[k]?=some y->y.lh=true->y.grow=false->l[i]?=some x->x.op.Gl=true->(i<k->ahead (iK ops.toList) i k=true)/\(k<i->ahead (iK ops.toList) k i=true)
 sep:∀(k i:Nat) (y x:aR),l[k]?=some y->y.sep≠[]->l[i]?=some x->x.op.Gl=true->(k<i->ahead (iK ops.toList) k i=true)/\(i<k->ahead (iK ops.toList) i k=true\/∃z,x.op.D6=some z/\z∈y.sep/\Xx l i k z=true)
 meet:∀(i k:Nat) (x y:aR),i<k->l[i]?=some x->l[k]?=some y->meet x y=true->ahead (iK ops.toList) i k=true
 stop:∀(i k:Nat) (y:aR),l[k]?=some y->y.lets=true->i<l.length->(k<i->ahead (iK ops.toList) k i=true)/\(i<k->ahead (iK ops.toList) i k=true\/∀x,l[i]?=some x->x.op.IM=false)
 eff:∀(i k:Nat) (x y:aR),i<k->l[i]?=some x->l[k]?=some y->x.lh=true->y.lh=true->ahead (iK ops.toList) i k=true\/(tE ops l i=true/\tE ops l k=true)
def S6 {ops:Array Oper} {l:List aR} (hlen:l.length=ops.size) (h:yH ops (iK ops.toList) l=true):Ord ops l:=by
 unfold yH at h
 have hk:∀(k:Nat) (y:aR) (o:Oper),l[k]?=some y->ops[k]?=some o->(o.after.toList.all (fun e => !Region.binds .any e||decide (e.on<k))=true/\((!y.nz||y.op.oa)&&CH y.op)=true/\((!(y.lh && !y.grow)||fenced (iK ops.toList) l k)&&(y.sep.isEmpty||uz (iK ops.toList) l k y.sep))=true/\(!y.lets||CX (iK ops.toList) l k)=true) /\
   ∀(i:Nat) (x:aR),i<k->l[i]?=some x->(!Go.Abs.meet x y||ahead (iK ops.toList) i k)=true/\(!(x.lh&&y.lh)||(ahead (iK ops.toList) i k||(tE ops l i&&tE ops l k)))=true:=by
  intro k y o hy ho
  have h1:=List.all_eq_true.1 h k (List.mem_range.2 (aj hy))
  rw [bE,hy,ho] at h1
  rw [Bool.and_eq_true,Bool.and_eq_true,Bool.and_eq_true] at h1
  obtain ⟨⟨⟨a1,a2⟩,a3⟩,a45⟩:=h1
  rw [Bool.and_eq_true] at a45
  obtain ⟨a5,a4⟩:=a45
  refine ⟨⟨a1,a2,a3,a5⟩,fun i x hi hx=>?_⟩
  have h2:=List.all_eq_true.1 a4 i (List.mem_range.2 hi)
  rw [bE,hx] at h2
  simpa [Bool.and_eq_true] using h2
 have hop:∀k,k<l.length->∃o,ops[k]?=some o:=fun k hk=>⟨ops[k]'(by omega),Array.getElem?_eq_getElem (by omega)⟩
 refine ⟨hlen,fun k o e ho he hb=>?_,fun k y hy hn=>?_,fun k y hy=>?_,fun k i y x hy hE hg hx hl=>?_,fun k i y x hy hsp hx hl=>?_,fun i k x y hi hx hy hm=>?_,fun i k y hy hl hi=>?_,fun i k x y hi hx hy hE hE'=>?_⟩
 ·have hkl:k<l.length:=by rw [hlen]; exact (Array.getElem?_eq_some_iff.1 ho).1
  have:=List.all_eq_true.1 (hk k _ o (List.getElem?_eq_getElem hkl) ho).1.1 e he
  simpa [hb] using this
 ·obtain ⟨o,ho⟩:=hop k (aj hy)
  have:=(hk k y o hy ho).1.2.1
  rw [Bool.and_eq_true] at this
  simpa [hn] using this.1
 ·obtain ⟨o,ho⟩:=hop k (aj hy)
  have:=(hk k y o hy ho).1.2.1
  rw [Bool.and_eq_true] at this
  exact this.2
 ·obtain ⟨o,ho⟩:=hop k (aj hy)
  have h1:=(Bool.and_eq_true _ _▸(hk k y o hy ho).1.2.2.1:_/\_).1
  have h2:fenced (iK ops.toList) l k=true:=by simpa [hE,hg] using h1
  have h3:=List.all_eq_true.1 h2 i (List.mem_range.2 (aj hx))
  rw [bE,hx] at h3
  simp only [hl,Bool.not_true,Bool.false_or] at h3
  refine ⟨fun hik=>by rw [if_pos hik] at h3; exact h3,fun hki=>?_⟩
  rw [if_neg (by omega)] at h3
  have:¬i=k:=by omega
  simpa [this] using h3
 ·obtain ⟨o,ho⟩:=hop k (aj hy)
  have h1:=(Bool.and_eq_true _ _▸(hk k y o hy ho).1.2.2.1:_/\_).2
  have h2:uz (iK ops.toList) l k y.sep=true:=by
   have:y.sep.isEmpty=false:=by cases he:y.sep with
    |nil=>exact absurd he hsp
    |cons=>rfl
   simpa [this] using h1
  have h3:=List.all_eq_true.1 h2 i (List.mem_range.2 (aj hx))
  rw [bE,hx] at h3
  simp only [hl,Bool.not_true,Bool.false_or] at h3
  refine ⟨fun hki=>?_,fun hik=>?_⟩
  ·have hne:(i==k)=false:=by simp; omega
   rw [hne,if_neg (by omega),Bool.false_or] at h3
   exact h3
  ·have hne:(i==k)=false:=by simp; omega
   rw [hne,if_pos hik,Bool.false_or,Bool.or_eq_true] at h3
   rcases h3 with h3|h3
   ·exact .inl h3
   ·right
    split at h3
    ·rename_i z hz
     rw [Bool.and_eq_true] at h3
     exact ⟨z,hz,by simpa using h3.1,h3.2⟩
    ·cases h3
 ·obtain ⟨o,ho⟩:=hop k (aj hy)
  have:=((hk k y o hy ho).2 i x hi hx).1
  simpa [hm] using this
 ·obtain ⟨o,ho⟩:=hop k (aj hy)
  have h1:=(hk k y o hy ho).1.2.2.2
  rw [hl,Bool.not_true,Bool.false_or] at h1
  have h2:=List.all_eq_true.1 h1 i (List.mem_range.2 hi)
  refine ⟨fun hki=>?_,fun hik=>?_⟩
  ·have hne:(i==k)=false:=by simp; omega
   rw [hne,if_neg (by omega),Bool.false_or] at h2
   exact h2
  ·have hne:(i==k)=false:=by simp; omega
   rw [hne,if_pos hik,Bool.false_or,Bool.or_eq_true] at h2
   refine h2.imp id fun h3 x hx=>?_
   rw [bE,hx] at h3
   simpa using h3
 ·obtain ⟨o,ho⟩:=hop k (aj hy)
  have:=((hk k y o hy ho).2 i x hi hx).2
  simpa [hE,hE'] using this
structure x9 (n:Nat) (mems:Nat->ag) (E A:Nat->Bool) (L:Nat->Bool) (q:Nat) (G:ag):Prop where
 qn:q<=n
 last:q=0\/∃p,q=p+1/\E p=true/\L p=true
 rest:∀k,q<=k->k<n->E k=true->L k=false
 len:G.length=(mems q).length
 at':∀id:Nat,G[id]?=(mems q)[id]?\/(G[id]?=some .mO/\∃k,k<q/\A k=true/\L k=false/\(mems k).length=id)
 un:∀k,k<q->A k=true->L k=false->G[(mems k).length]?=some .mO
def x9.full {n:Nat} {mems:Nat->ag} {E A L:Nat->Bool} {q:Nat} {G:ag} (g:x9 n mems E A L q G) (h:∀k,k<q->A k=true->L k=true):G=mems q:=by
 apply List.ext_getElem?
 intro id
 rcases g.at' id with h1|⟨_,k,h1,h2,h3,_⟩
 ·exact h1
 ·rw [h k h1 h2] at h3; cases h3
def bQ.SQ {j:J} {M:ag} {w:World} {x:ae} {v:Value} (h:bQ j M w x v) {id:Nat} (hid:id∈x.cm):M[id]?≠some .mO:=by
 intro hg
 cases h with
 |plain h=>cases h<;>simp [ae.cm] at hid
 |c0=>simp [ae.cm] at hid
 |own hk=>simp [ae.cm] at hid; subst hid; rw [hk] at hg; cases hg
 |agg=>simp [ae.cm] at hid
 |tuple=>simp [ae.cm] at hid
 |ptr _ hc=>simp [ae.cm] at hid; subst hid; obtain ⟨cs,hc⟩:=hc; rw [hc] at hg; cases hg
 |cW=>simp [ae.cm] at hid
 |func=>simp [ae.cm] at hid
 |cz hc=>simp [ae.cm] at hid; subst hid; obtain ⟨_,_,hc⟩:=hc; rw [hc] at hg; cases hg
 |dp hc=>simp [ae.cm] at hid; subst hid; obtain ⟨_,_,hc⟩:=hc; rw [hc] at hg; cases hg
 |du=>simp [ae.cm] at hid
 |aZ _ _ hM=>simp [ae.cm] at hid; subst hid; cases hM _ hg
 |cV _ _ hM=>simp [ae.cm] at hid; subst hid; cases hM _ hg
 |iA=>simp [ae.cm] at hid
 |bI hc=>simp [ae.cm] at hid; subst hid; obtain ⟨cs,hc⟩:=hc; rw [hc] at hg; cases hg
 |dI hc=>simp [ae.cm] at hid; subst hid; obtain ⟨cs,hc⟩:=hc; rw [hc] at hg; cases hg
 |cA hk=>simp [ae.cm] at hid; subst hid; rw [hk] at hg; cases hg
 |any=>simp [ae.cm] at hid
def nh {mems:Nat->ag} {i:Nat}:∀n,i<=n->(∀k,i<=k->k<n->mems k <+: mems (k+1))->mems i <+: mems n
 |0,hi,_=>by rw [show i=0 by omega]; exact List.prefix_refl _
 |n+1,hi,h=>by
  by_cases he:i=n+1
  ·rw [he]; exact List.prefix_refl _
  ·exact (nh n (by omega) fun k h1 h2=>h k h1 (by omega)).trans (h n (by omega) (by omega))
def aL.vF {j:J} {M:ag} {w:World} {env env':Env} {a:Act} (h:aL j M w env a) (he:∀t,cL env' t=cL env t):aL j M w env' a:=⟨fun t=>by rw [he t]; exact h.at' t,h.gl⟩
def A3 (hmix:P.follows .mixedOrders=true) (hC:hU P C) {rd:Option Nat} {nd:Nat} {id:Nat} {ops:Array Oper} {l0 l:List aR} (hl0:j5 P A ops [] ops.toList=some l0) (hg:sI ops l0=some l)
  {env:Env} {M:ag} {x:Out} (hx:bN C l env M=some x) {j:J} {w:World} {a:Act} (hr:Rel j M w) (hG:j4 j M w) (he:aL j M w env a) (hs:a.tmps.size=A.n) {Q:Exit->Act->World->Prop}
  (hQ:∀a' w' j',Rel j' x.mem w'->aL j' x.mem w' x.env a'->Ext j M w j' x.mem w'->a'.tmps.size=A.n->a'.defers=a.defers->Q (jj x.e) a' w'):(Code.region id ops true).wpIn (Wd rd) nd P Q a w:=by
 obtain ⟨c1,c2⟩:=uQ hl0
 have hlen0:l0.length=ops.size:=by simpa using c1
 unfold sI at hg
 split at hg
 case isFalse=>cases hg
 rename_i hok
 injection hg with hg
 rw [hg] at hok
 have hlen:l.length=ops.size:=by rw [<-hg,pK]; exact hlen0
 have od:=S6 hlen hok
 have hop:∀(k:Nat) (y:aR),l[k]?=some y->∃o x0 b,ops[k]?=some o/\zz P A ops b o=some x0/\y.dst=x0.dst/\y.op=x0.op/\y.guard=x0.guard:=by
  intro k y hy
  rw [<-hg] at hy
  obtain ⟨x0,h1,h2,h3,h4⟩:=pJ _ _ _ _ hy
  have hk:k<ops.size:=by rw [<-hlen0]; exact aj h1
  have ho:ops[k]?=some ops[k]:=Array.getElem?_eq_getElem hk
  obtain ⟨x1,b,h5,h6⟩:=c2 k ops[k] (by simp [hk])
  rw [h1] at h5; injection h5 with h5; subst h5
  exact ⟨_,x0,b,ho,h6,h2,h3,h4⟩
 obtain ⟨N,vals,mems,hN,m0,st,hxe⟩:=trace hx
 let E:Nat->Bool:=fun k=>match l[k]? with|some y=>y.lh|none=>false
 have hE:∀ {k:Nat} {y:aR},l[k]?=some y->E k=y.lh:=fun {k y} h=>by simp only [E,h]
 have hEs:∀ {k:Nat},E k=true->∃y,l[k]?=some y/\y.lh=true:=fun {k} h=>by
  simp only [E] at h
  split at h
  ·exact ⟨_,by assumption,h⟩
  ·cases h
 -- memory stays at what is no effect,and grows at what may
 have stays:∀k,k<N->E k=false->mems (k+1)=mems k:=by
  intro k hkN hEk
  have hk:k<l.length:=by omega
  have hy:=List.getElem?_eq_getElem hk
  rw [hE hy] at hEk
  rcases st k _ hkN hy with ⟨_,h⟩|⟨_,_,_,_,_,h⟩
  ·rcases js h with ⟨hn,hi,h1⟩|⟨hn,_,h1⟩|⟨hn,_,_,h1⟩
   ·exact (zp (od.alone k _ hy hn) h1 hi).1
   all_goals
    have hE0:l[k].op.IM=false:=by simpa [aR.lh,hn] using hEk
    cases hl:l[k].op.Gl with
    |true=>exact (AE hl h1).1
    |false=>exact (DY hE0 hl h1).1
  ·exact h
 have grows:∀k (y:aR),k<N->l[k]?=some y->y.lh=true->y.grow=true->mems k <+: mems (k+1)\/(y.sep≠[]/\oA (gd env l vals (fun _=>true) k) (mems k) (mems (k+1)) y.sep):=by
  intro k y hkN hy hEy hgr
  rcases st k y hkN hy with ⟨_,h⟩|⟨_,_,_,_,_,h⟩
  ·rcases js h with ⟨hn,_,_⟩|⟨_,hg',_⟩|⟨_,_,hp,_⟩
   ·simp [aR.lh,hn] at hEy
   ·rw [hgr] at hg'; cases hg'
   ·exact hp
  ·rw [h]; exact .inl (List.prefix_refl _)
 let A0:Nat->Bool:=tE ops l
 have hA:∀k,k<N->A0 k=true->∃(y:aR) (o:Oper) (V:Nat->ae) (B:aK),l[k]?=some y/\ops[k]?=some o/\y.guard=none/\E k=true/\vals k=V (mems k).length/\mems (k+1)=mems k++[B]/\(V (mems k).length).di=false /\
   ∀ {env':Env} {j:J} {G:ag} {w:World} {a:Act} {p:Nat} {K:Act->World->Prop} {KP:Value->World->Prop},(∀t,t∈y.op.eH->cL env' t=cL (gd env l vals (fun _=>true) k) t)->Rel j G w->j4 j G w->aL j G w env' a->G[p]?=some .mO ->
    (∀v w',cG j G w (V p,G.set p B) v w'->K (a.put o.dst v) w')->kG P o a w K KP:=by
  intro k hkN hAk
  have hk:k<l.length:=by omega
  obtain ⟨y,hy⟩:∃y,l[k]?=some y:=⟨_,List.getElem?_eq_getElem hk⟩
  obtain ⟨o,ho⟩:∃o,ops[k]?=some o:=⟨_,Array.getElem?_eq_getElem (by omega)⟩
  obtain ⟨o',x0,b,ho',hco,f1,f2,f3⟩:=hop k _ hy
  rw [ho] at ho'; injection ho' with ho'; subst ho'
  obtain ⟨g1,_⟩:=rV hco
  rw [<-f2] at g1
  simp only [A0,tE,ho,bE,hy,Bool.and_eq_true,Option.isNone_iff_eq_none] at hAk
  obtain ⟨k2,k3⟩:=hAk
  have h1:bd C (gd env l vals (fun _=>true) k) (mems k) y.op=some (vals k,mems (k+1)):=by
   rcases st k y hkN hy with ⟨_,h⟩|⟨t',want,h,_⟩
   ·rcases js h with ⟨_,_,h1⟩|⟨_,_,h1⟩|⟨_,_,_,h1⟩<;>exact h1
   ·rw [k3] at h; cases h
  have hnm:y.op.oa=false->y.nz=false:=fun hc=>by
   cases hn:y.nz with
   |false=>rfl
   |true=>have:=od.alone k y hy hn; rw [hc] at this; cases this
  split at k2
  ·rename_i cs hcs
   split at k2
   case h_2=>cases k2
   rename_i t hot
   have hn:=hnm (by rw [hcs]; rfl)
   rw [hcs] at h1 g1
   simp only [bd] at h1
   injection h1 with h1
   refine ⟨y,o,fun p => .ptr p 0,.cells cs,hy,ho,k3,by rw [hE hy]; simp [aR.lh,hn,hcs,dS.IM],(congrArg Prod.fst h1).symm,(congrArg Prod.snd h1).symm,rfl,fun {env' j G w a p K KP} _ hr hG he hp hK=>?_⟩
   obtain ⟨us,tt,hRC,hRan⟩:=Es hot g1 a w
   exact .inl ⟨_,_,hRan,hK _ _ (G3 hr hp (hRC _ _ _) tt)⟩
  ·rename_i f args hcs
   split at k2
   case h_2=>cases k2
   rename_i c hot
   split at k2
   case h_2=>cases k2
   rename_i f0 hcal
   have hn:=hnm (by rw [hcs]; rfl)
   rw [hcs] at h1 g1
   obtain ⟨xs,sz,n,hx0,_⟩:=pR hC hot hcal g1 h1
   refine ⟨y,o,fun p => .slice (.own p) xs,.tick sz n,hy,ho,k3,by rw [hE hy]; simp [aR.lh,hn,hcs,dS.IM],congrArg Prod.fst hx0,congrArg Prod.snd hx0,rfl,fun {env' j G w a p K KP} hag hr hG he hp hK=>?_⟩
   have h2:bd C env' (mems k) (.nq f args)=some (vals k,mems (k+1)):=by
    rw [(wD (C:=C) (M:=mems k) (op := .nq f args) fun t ht=>hag t (by rw [hcs]; exact ht)).1]
    exact h1
   obtain ⟨xs',sz',n',hx1,hrun⟩:=pR hC hot hcal g1 h2
   rw [hx0] at hx1
   injection hx1 with e1 e2
   injection e1 with _ e1
   have e3:=List.append_cancel_left e2
   injection e3 with e3 _
   injection e3 with e3 e4
   subst e1; subst e3; subst e4
   exact hrun hr hG he hp hK
  ·cases k2
 have hAE:∀k,k<N->A0 k=true->E k=true:=fun k hk h=>by
  obtain ⟨y,o,V,B,_,_,_,h1,_⟩:=hA k hk h
  exact h1
 -- where nothing but boxes is made memory grows
 have pref:∀a b,a<=b->b<=N->(∀k,a<=k->k<b->E k=true->A0 k=true)->mems a <+: mems b:=fun a b hab hb hk=>nh b hab fun k h1 h2=>by
  cases hEk:E k with
  |false=>rw [stays k (by omega) hEk]; exact List.prefix_refl _
  |true =>
   obtain ⟨y,o,V,B,_,_,_,_,_,h3,_⟩:=hA k (by omega) (hk k h1 h2 hEk)
   rw [h3]; exact List.prefix_append _ _
 have same:∀a b,a<=b->b<=N->(∀k,a<=k->k<b->E k=false)->mems b=mems a:=by
  intro a b hab
  induction b with
  |zero=>intro _ _; rw [show a=0 by omega]
  |succ b ih =>
   intro hb hk
   by_cases he:a=b+1
   ·rw [he]
   ·rw [stays b (by omega) (hk b (by omega) (by omega)),ih (by omega) (by omega) fun k h1 h2=>hk k h1 (by omega)]
 -- where a box of that length is made
 have posn:∀a b,a<=b->b<=N->(∀k,a<=k->k<b->E k=true->A0 k=true)->∀id,(mems a).length<=id->id<(mems b).length->∃k,a<=k/\k<b/\A0 k=true/\(mems k).length=id:=by
  intro a b hab
  induction b with
  |zero=>intro _ _ id h1 h2; rw [show a=0 by omega] at h1; omega
  |succ b ih =>
   intro hb hk id h1 h2
   by_cases he:a=b+1
   ·rw [he] at h1; omega
   ·cases hEb:E b with
    |false =>
     rw [stays b (by omega) hEb] at h2
     obtain ⟨k,g1,g2,g3⟩:=ih (by omega) (by omega) (fun k h1 h2=>hk k h1 (by omega)) id h1 h2
     exact ⟨k,g1,by omega,g3⟩
    |true =>
     have hAb:=hk b (by omega) (by omega) hEb
     obtain ⟨y,o,V,B,_,_,_,_,_,h3,_⟩:=hA b (by omega) hAb
     rw [h3] at h2
     simp only [List.length_append,List.length_cons,List.length_nil] at h2
     by_cases hid:id<(mems b).length
     ·obtain ⟨k,g1,g2,g3⟩:=ih (by omega) (by omega) (fun k h1 h2=>hk k h1 (by omega)) id h1 hid
      exact ⟨k,g1,by omega,g3⟩
     ·exact ⟨b,by omega,by omega,hAb,by omega⟩
 refine wpIn_region_any hmix ?_
 have key:∀(fuel:Nat) (listed:Array Bool) (a1:Act) (w1:World),listed.size=ops.size->left (fun k=>listed.getD k false) l.length=fuel->Down ops (fun k=>listed.getD k false)->(∀k,k<l.length->listed.getD k false=true->k<N/\(vals k).di=false) ->
   (∃j1 q G,x9 l.length mems E A0 (fun k=>listed.getD k false) q G/\Rel j1 G w1/\aL j1 G w1 (gd env l vals (fun k=>listed.getD k false) l.length) a1 /\
    Ext j M w j1 G w1/\a1.tmps.size=A.n/\a1.defers=a.defers)->wpAnyIn (Wd rd) nd P .any ops Q fuel listed a1 w1:=by
  have ends:∀(listed:Array Bool) (a1:Act) (w1:World),(∀k,k<l.length->listed.getD k false=true) ->
    (∃j1 q G,x9 l.length mems E A0 (fun k=>listed.getD k false) q G/\Rel j1 G w1/\aL j1 G w1 (gd env l vals (fun k=>listed.getD k false) l.length) a1 /\
    Ext j M w j1 G w1/\a1.tmps.size=A.n/\a1.defers=a.defers)->(∀k,k<l.length->listed.getD k false=true->k<N/\(vals k).di=false)->Q .normal a1 w1:=by
   intro listed a1 w1 hall hI hin
   obtain ⟨j1,q,G,gp,r1,e1,x1,s1,d1⟩:=hI
   rcases hxe with ⟨n1,_,n3⟩|⟨n,y,v,n1,n2,_,n4,_,_⟩
   ·have hm:G=mems l.length:=by
     have hqn:=gp.qn
     rw [gp.full fun k hk _=>hall k (by omega),same q l.length gp.qn (by omega) fun k h1 h2=>?_]
     cases hEk:E k with
     |false=>rfl
     |true =>
      have:=gp.rest k h1 h2 hEk
      rw [hall k h2] at this; cases this
    rw [hm] at r1 e1 x1
    rw [n3,n1] at hQ
    exact hQ a1 w1 j1 r1 (e1.vF fun t=>oY _ fun k hk _=>(hall k hk).symm) x1 s1 d1
   ·have hnl:=aj n2
    have:=(hin n hnl (hall n hnl)).2
    rw [n4] at this; cases this
  intro fuel
  induction fuel with
  |zero =>
   intro listed a1 w1 hsz hleft hd hin hI
   have hall:=xl hleft
   refine ⟨?_,ends listed a1 w1 hall hI hin⟩
   apply List.eq_nil_iff_forall_not_mem.2
   intro i hi
   obtain ⟨h1,oi,h2,_⟩:=mem_ready.1 hi
   have hil:i<l.length:=by rw [hlen]; exact (Array.getElem?_eq_some_iff.1 h2).1
   have h3:=hall i hil
   simp only [Array.getD_eq_getD_getElem?] at h1 h3
   have:i<listed.size:=by omega
   rw [Array.getElem?_eq_getElem this] at h1 h3
   simp at h1 h3
   rw [h1] at h3; cases h3
  |succ fuel ih =>
   intro listed a1 w1 hsz hleft hd hin hI
   refine ⟨fun hnil=>?_,fun i hi=>?_⟩
   ·refine ends listed a1 w1 ?_ hI hin
    intro k
    induction k using Nat.strongRecOn with
    |_ k ihk =>
     intro hk
     cases hL:listed.getD k false with
     |true=>rfl
     |false =>
      exfalso
      have hks:k<ops.size:=by omega
      have ho:ops[k]?=some ops[k]:=Array.getElem?_eq_getElem hks
      have:k∈Region.ready .any ops listed:=by
       refine mem_ready.2 ⟨?_,_,ho,fun e he hb=>?_⟩
       ·simp only [Array.getD_eq_getD_getElem?] at hL ⊢
        have hkl:k<listed.size:=by omega
        rw [Array.getElem?_eq_getElem hkl] at hL ⊢
        simpa using hL
       ·have:=od.MN k _ e ho (by simpa using he) hb
        exact ihk e.on this (by omega)
      rw [hnil] at this
      cases this
   ·obtain ⟨hun0,o,ho,hall⟩:=mem_ready.1 hi
    obtain ⟨j1,q,G,gp,r1,e1,x1,s1,d1⟩:=hI
    have his:i<ops.size:=(Array.getElem?_eq_some_iff.1 ho).1
    have hil:i<l.length:=by omega
    have hils:i<listed.size:=by omega
    have hLi:listed.getD i false=false:=by
     simp only [Array.getD_eq_getD_getElem?] at hun0 ⊢
     rw [Array.getElem?_eq_getElem hils] at hun0 ⊢
     simpa using hun0
    have hL'i:(listed.setIfInBounds i true).getD i false=true:=by
     simp only [Array.getD_eq_getD_getElem?,Array.getElem?_setIfInBounds_self,hils,if_true]
     rfl
    have hL'ne:∀k,k≠i->(listed.setIfInBounds i true).getD k false=listed.getD k false:=fun k hk=>by
     simp only [Array.getD_eq_getD_getElem?,Array.getElem?_setIfInBounds_ne (Ne.symm hk)]
    have hy:=List.getElem?_eq_getElem hil
    obtain ⟨o',x0,b,ho',hco,f1,f2,f3⟩:=hop i _ hy
    rw [ho] at ho'; injection ho' with ho'; subst ho'
    obtain ⟨g1,g2,_,g4,g5⟩:=rV hco
    rw [<-f2] at g1
    rw [<-f1] at g2
    rw [<-f3] at g5
    generalize hyy:l[i]=y at *
    have hall':∀e,e∈o.after.toList->Region.binds .any e=true->listed.getD e.on false=true:=fun e h1 h2=>hall e (by simpa using h1) h2
    have rdy:∀k,ahead (iK ops.toList) k i=true->listed.getD k false=true:=fun k h=>zo (L:=fun k=>listed.getD k false) hd od.MN ho hall' h
    have nol:∀k,k<l.length->ahead (iK ops.toList) i k=true->listed.getD k false=false:=fun k hk h=>by
     cases hL:listed.getD k false with
     |false=>rfl
     |true =>
      have:=uF (L:=fun k=>listed.getD k false) hd od.MN k h (by omega) hL
      rw [hLi] at this; cases this
    have hiN:i<N:=by
     rcases Nat.lt_or_ge i N with h|h
     ·exact h
     rcases hxe with ⟨n1,_,_⟩|⟨n,y',v,n1,n2,n3,n4,_,_⟩
     ·omega
     ·have h5:=rdy n ((od.stop i n y' n2 n3 hil).1 (by omega))
      have:=(hin n (aj n2) h5).2
      rw [n4] at this; cases this
    have agree:∀t,t∈y.reads->cL (gd env l vals (fun k=>listed.getD k false) l.length) t=cL (gd env l vals (fun _=>true) i) t:=by
     intro t ht
     refine (mi l.length (Nat.le_of_lt hil) fun k h1 h2=>?_).trans (oY i fun k hk hw=>?_)
     ·rintro ⟨⟨x',hx',hdx⟩,hLk⟩
      by_cases hki:k=i
      ·subst hki; rw [hLi] at hLk; cases hLk
      ·have hm:meet y x'=true:=by simp [meet,hdx,ht]
       rw [nol k h2 (od.meet i k y x' (by omega) hy hx' hm)] at hLk
       cases hLk
     ·obtain ⟨x',hx',hdx⟩:=hw
      have hm:meet x' y=true:=by simp [meet,hdx,ht]
      exact rdy k (od.meet k i x' y hk hx' hy hm)
    have newEnv:∀t,cL (gd env l vals (fun k=>(listed.setIfInBounds i true).getD k false) l.length) t=cL (hV (gd env l vals (fun k=>listed.getD k false) l.length) y.dst (vals i)) t:=by
     intro t
     by_cases hdt:y.dst=some t
     ·rw [hdt]
      simp only [hV,cL,if_true]
      rw [mi (i:=i+1) l.length (by omega) fun k h1 h2=>?_]
      ·exact yn i ⟨y,hy,hdt⟩ hL'i
      ·rintro ⟨⟨x',hx',hdx⟩,hLk⟩
       rw [hL'ne k (by omega)] at hLk
       have hm:meet y x'=true:=by simp [meet,hdt,hdx]
       rw [nol k h2 (od.meet i k y x' (by omega) hy hx' hm)] at hLk
       cases hLk
     ·have e2:cL (hV (gd env l vals (fun k=>listed.getD k false) l.length) y.dst (vals i)) t=cL (gd env l vals (fun k=>listed.getD k false) l.length) t:=by
       unfold hV
       split
       ·rename_i d hd'
        rw [cL,if_neg]
        rintro rfl
        exact hdt hd'
       ·rfl
      rw [e2]
      refine oY _ fun k _ hw=>hL'ne k ?_
      rintro rfl
      obtain ⟨x',hx',hdx⟩:=hw
      rw [hy] at hx'; injection hx' with hx'; subst hx'
      exact hdt hdx
    have hqN:q<=N:=by
     rcases gp.last with h|⟨p,hp1,hp2,hp3⟩
     ·omega
     ·obtain ⟨z0,hz0,_⟩:=hEs hp2
      have:=(hin p (aj hz0) hp3).1
      omega
    -- effects that are ordered
    have effA:∀a b,a<b->E a=true->E b=true->(A0 a=false\/A0 b=false)->ahead (iK ops.toList) a b=true:=by
     intro a b hab ha hb hn
     obtain ⟨x',hx',hE'⟩:=hEs ha
     obtain ⟨y',hy',hE2⟩:=hEs hb
     rcases od.eff a b x' y' hab hx' hy' hE' hE2 with h|⟨h1,h2⟩
     ·exact h
     ·rcases hn with hn|hn
      ·rw [show A0 a=true from h1] at hn; cases hn
      ·rw [show A0 b=true from h2] at hn; cases hn
    have inL:∀a b,b<l.length->ahead (iK ops.toList) a b=true->listed.getD b false=true->listed.getD a false=true:=fun a b hb h1 h2=>uF (L:=fun k=>listed.getD k false) hd od.MN b h1 (by omega) h2
    -- what is between one that is not done and the last that is
    have betw:∀k,k<q->E k=true->A0 k=true->listed.getD k false=false->∀m,k<=m->m<q->E m=true->A0 m=true:=by
     intro k hkq hEk hAk hLk m h1 h2 hEm
     cases hAm:A0 m with
     |true=>rfl
     |false =>
      exfalso
      rcases gp.last with h|⟨p,hp1,hp2,hp3⟩
      ·omega
      have hqn:=gp.qn
      have hkm:k<m:=by
       rcases Nat.lt_or_ge k m with h|h
       ·exact h
       ·have:k=m:=by omega
        subst this; rw [hAk] at hAm; cases hAm
      have a1:=effA k m hkm hEk hEm (.inr hAm)
      have hLm:listed.getD m false=true:=by
       by_cases hmp:m=p
       ·rw [hmp]; exact hp3
       ·exact inL m p (by omega) (effA m p (by omega) hEm hp2 (.inl hAm)) hp3
      rw [inL k m (by omega) a1 hLm] at hLk; cases hLk
    have gC:E i=false->x9 l.length mems E A0 (fun k=>(listed.setIfInBounds i true).getD k false) q G:=by
     intro hEi
     have hne:∀k,E k=true->(listed.setIfInBounds i true).getD k false=listed.getD k false:=fun k hk=>hL'ne k (by rintro rfl; rw [hEi] at hk; cases hk)
     refine ⟨gp.qn,gp.last.imp (fun h=>h) fun ⟨p,h1,h2,h3⟩=>⟨p,h1,h2,by simp only [hne p h2]; exact h3⟩,fun k h1 h2 h3=>by simp only [hne k h3]; exact gp.rest k h1 h2 h3,gp.len,fun id=>?_,fun k h1 h2 h3=>?_⟩
     ·rcases gp.at' id with h|⟨h,k,h1,h2,h3,h4⟩
      ·exact .inl h
      ·exact .inr ⟨h,k,h1,h2,by simp only [hne k (hAE k (by omega) h2)]; exact h3,h4⟩
     ·simp only [hne k (hAE k (by omega) h2)] at h3
      exact gp.un k h1 h2 h3
    have gB:E i=true->A0 i=false->G=mems i/\x9 l.length mems E A0 (fun k=>(listed.setIfInBounds i true).getD k false) (i+1) (mems (i+1)):=by
     intro hEi hAi
     have hqi:q<=i:=by
      rcases gp.last with h|⟨p,hp1,hp2,hp3⟩
      ·omega
      ·have hqn:=gp.qn
       rcases Nat.lt_or_ge i p with h|h
       ·rw [inL i p (by omega) (effA i p h hEi hp2 (.inl hAi)) hp3] at hLi; cases hLi
       ·by_cases hip:i=p
        ·subst hip; simp only [hLi] at hp3; cases hp3
        ·omega
     have done:∀k,k<i->E k=true->listed.getD k false=true:=fun k hk hEk=>rdy k (effA k i hk hEk hEi (.inr hAi))
     refine ⟨?_,by omega,.inr ⟨i,rfl,hEi,hL'i⟩,fun k h1 h2 h3=>by simp only [hL'ne k (show k≠i by omega)]; exact gp.rest k (by omega) h2 h3,rfl,fun id => .inl rfl,fun k h1 h2 h3=>?_⟩
     ·rw [gp.full fun k hk hAk=>done k (by omega) (hAE k (by omega) hAk)]
      refine (same q i hqi (by omega) fun k h1 h2=>?_).symm
      cases hEk:E k with
      |false=>rfl
      |true =>
       have:=gp.rest k h1 (by omega) hEk
       simp only [done k h2 hEk] at this; cases this
     ·have hki:k≠i:=by rintro rfl; rw [hAi] at h2; cases h2
      simp only [hL'ne k hki,done k (by omega) (hAE k (by omega) h2)] at h3
      cases h3
    have down':Down ops (fun k=>(listed.setIfInBounds i true).getD k false):=by
     intro k p e hp hL he' hb
     have hsome:listed.getD e.on false=true:=by
      by_cases hki:k=i
      ·subst hki
       rw [ho] at hp; injection hp with hp; subst hp
       exact hall' e he' hb
      ·exact hd k p e hp (by show listed.getD k false=true; rw [<-hL'ne k hki]; exact hL) he' hb
     show (listed.setIfInBounds i true).getD e.on false=true
     by_cases hei:e.on=i
     ·rw [hei]; exact hL'i
     ·rw [hL'ne _ hei]; exact hsome
    have left':left (fun k=>(listed.setIfInBounds i true).getD k false) l.length=fuel:=by
     have:=AB (L:=fun k=>listed.getD k false) (L':=fun k=>(listed.setIfInBounds i true).getD k false) (i:=i) hLi hL'i (fun k hk=>hL'ne k hk) l.length
     rw [if_pos hil] at this
     omega
    have hin':(vals i).di=false->∀k,k<l.length->(listed.setIfInBounds i true).getD k false=true->k<N/\(vals k).di=false:=by
     intro hnp k hk hL
     by_cases hki:k=i
     ·rw [hki]; exact ⟨hiN,hnp⟩
     ·rw [hL'ne k hki] at hL; exact hin k hk hL
    have hgslot:∀t want,y.guard=some (t,want)->t∈y.reads:=fun t want h=>by simp [aR.reads,h]
    have hopslot:∀t,t∈y.op.eH->t∈y.reads:=fun t h=>by simp [aR.reads,h]
    unfold wpOpIn
    rw [ho]
    simp only
    rcases st i y hiN hy with ⟨hgd,hstep⟩|⟨t,want,hgt,hgv,hv0,hm0⟩
    ·rw [if_pos (qj e1 s1 g5 fun t want h=>by rw [agree t (hgslot t want h)]; exact hgd t want h)]
     cases hAi:A0 i with
     |true =>
      obtain ⟨y',o',V,B,n1,n2,n3,hEi,n6,n7,npan,hruns⟩:=hA i hiN hAi
      rw [hy] at n1; injection n1 with n1; subst n1
      rw [ho] at n2; injection n2 with n2; subst n2
      have hag:∀t,t∈y.op.eH->cL (gd env l vals (fun k=>listed.getD k false) l.length) t=cL (gd env l vals (fun _=>true) i) t:=fun t ht=>agree t (hopslot t ht)
      have fin:∀q' G' G1 j1' p,x9 l.length mems E A0 (fun k=>(listed.setIfInBounds i true).getD k false) q' G'->Rel j1' G1 w1->Ext j1 G w1 j1' G1 w1->G1[p]?=some .mO->p=(mems i).length->G'=G1.set p B ->
        o.wpIn (Wd rd) nd P a1 w1 (wpAnyIn (Wd rd) nd P .any ops Q fuel (listed.setIfInBounds i true)) Q:=by
       intro q' G' G1 j1' p hG' hr1 hx1 hp hpe hGe
       refine kG.wpIn (KP:=fun _ _=>False) (rp g1) (hruns hag hr1 ((hG.mono x1).mono hx1) (e1.mono hx1) hp ?_) fun u w' h=>h.elim
       rintro v w' ⟨j',p1,p2,p3⟩
       rw [<-hGe] at p1 p2 p3
       simp only at p1 p2 p3
       refine ih (listed.setIfInBounds i true) _ _ (by simpa using hsz) left' down' (hin' (by rw [n6]; exact npan)) ⟨j',q',G',hG',p1,?_,x1.trans (hx1.trans p2),by rw [oy]; exact s1,by rw [put_defers]; exact d1⟩
       refine aL.vF ?_ newEnv
       rw [g2,n6,<-hpe]
       exact (e1.mono (hx1.trans p2)).put s1 g4 p3
      rcases Nat.lt_or_ge i q with hiq|hqi
      ·-- its place is there
       have hu:=gp.un i hiq hAi hLi
       have hpi:=pref (i+1) q (by omega) hqN fun k h1 h2=>betw i hiq hEi hAi hLi k (by omega) h2
       have hat:(mems q)[(mems i).length]?=some B:=by
        obtain ⟨t',ht'⟩:=hpi
        rw [<-ht',n7,List.append_assoc,List.getElem?_append_right (Nat.le_refl _)]
        simp
       refine fin q (G.set (mems i).length B) G j1 (mems i).length ⟨gp.qn,?_,fun k h1 h2 h3=>by simp only [hL'ne k (show k≠i by omega)]; exact gp.rest k h1 h2 h3,by simpa using gp.len,fun id=>?_,fun k h1 h2 h3=>?_⟩ r1 (Ext.refl _ _ _) hu rfl rfl
       ·refine gp.last.imp (fun h=>h) fun ⟨p,h1,h2,h3⟩=>⟨p,h1,h2,?_⟩
        have hpi:p≠i:=by rintro rfl; simp only [hLi] at h3; cases h3
        simp only [hL'ne p hpi]; exact h3
       ·by_cases hid:(mems i).length=id
        ·subst hid
         rw [aU (aj hu)]
         exact .inl hat.symm
        ·rw [aH hid]
         rcases gp.at' id with h|⟨h,k,h1,h2,h3,h4⟩
         ·exact .inl h
         ·have hki:k≠i:=by rintro rfl; exact hid h4
          refine .inr ⟨h,k,h1,h2,?_,h4⟩
          simp only [hL'ne k hki]; exact h3
       ·have hki:k≠i:=by rintro rfl; simp only [hL'i] at h3; cases h3
        simp only [hL'ne k hki] at h3
        have hne:(mems i).length≠(mems k).length:=by
         rcases Nat.lt_or_ge k i with h|h
         ·obtain ⟨_,_,_,_,_,_,_,hEk,_,m7,_⟩:=hA k (by omega) h2
          have:=(pref (k+1) i (by omega) (by omega) fun m g1 g2=>betw k h1 hEk h2 h3 m (by omega) (by omega)).length_le
          rw [m7] at this
          simp at this; omega
         ·have:=(pref (i+1) k (by omega) (by omega) fun m g1 g2=>betw i hiq hEi hAi hLi m (by omega) (by omega)).length_le
          rw [n7] at this
          simp at this; omega
        rw [aH hne]
        exact gp.un k h1 h2 h3
      ·-- behind all that is made
       have allA:∀k,q<=k->k<i->E k=true->A0 k=true:=fun k h1 h2 h3=>by
        cases hAk:A0 k with
        |true=>rfl
        |false =>
         have:=gp.rest k h1 (by omega) h3
         simp only [rdy k (effA k i h2 h3 hEi (.inl hAk))] at this; cases this
       have hpi:=pref q i hqi (by omega) allA
       have hle:=hpi.length_le
       have hln:=gp.len
       have hsum:G.length+((mems i).length-(mems q).length)=(mems i).length:=by omega
       obtain ⟨j1',hr1,hx1⟩:=sQ r1 ((mems i).length-(mems q).length+1)
       have hgl:(G++List.replicate ((mems i).length-(mems q).length) aK.mO).length=(mems i).length:=by simp; omega
       have hG1:G++List.replicate ((mems i).length-(mems q).length+1) aK.mO=(G++List.replicate ((mems i).length-(mems q).length) aK.mO)++[aK.mO]:=by rw [List.replicate_succ',<-List.append_assoc]
       have hg1:(G++List.replicate ((mems i).length-(mems q).length+1) aK.mO)[(mems i).length]?=some .mO:=by
        rw [List.getElem?_append_right (by omega),List.getElem?_replicate,if_pos (by omega)]
       have hset:∀(A:ag) (m:Nat),A.length=m->A++[B]=(A++[aK.mO]).set m B:=fun A m h=>by subst h; simp
       have hg2:G++List.replicate ((mems i).length-(mems q).length) aK.mO++[B]=(G++List.replicate ((mems i).length-(mems q).length+1) aK.mO).set (mems i).length B:=by
        rw [hG1]; exact hset _ _ hgl
       refine fin (i+1) (G++List.replicate ((mems i).length-(mems q).length) aK.mO++[B]) _ j1' (mems i).length ⟨by omega,.inr ⟨i,rfl,hEi,hL'i⟩,fun k h1 h2 h3=>by simp only [hL'ne k (show k≠i by omega)]; exact gp.rest k (by omega) h2 h3,by rw [n7]; simp; omega,fun id=>?_,fun k h1 h2 h3=>?_⟩ hr1 hx1 hg1 rfl hg2
       ·rcases Nat.lt_or_ge id G.length with h|h
        ·have e1:(G++List.replicate ((mems i).length-(mems q).length) aK.mO++[B])[id]?=G[id]?:=by
          rw [List.append_assoc,List.getElem?_append_left h]
         have e2:(mems (i+1))[id]?=(mems q)[id]?:=by
          obtain ⟨t',ht'⟩:=hpi
          rw [n7,<-ht',List.append_assoc,List.getElem?_append_left (by omega)]
         rw [e1,e2]
         rcases gp.at' id with h|⟨h,k,h1,h2,h3,h4⟩
         ·exact .inl h
         ·exact .inr ⟨h,k,by omega,h2,by simp only [hL'ne k (show k≠i by omega)]; exact h3,h4⟩
        ·rcases Nat.lt_or_ge id (mems i).length with h'|h'
         ·refine .inr ⟨?_,?_⟩
          ·rw [List.getElem?_append_left (by simp; omega),List.getElem?_append_right h,List.getElem?_replicate,if_pos (by omega)]
          ·obtain ⟨k,k1,k2,k3,k4⟩:=posn q i hqi (by omega) allA id (by omega) h'
           exact ⟨k,by omega,k3,by simp only [hL'ne k (show k≠i by omega)]; exact gp.rest k k1 (by omega) (hAE k (by omega) k3),k4⟩
         ·left
          rw [n7,List.getElem?_append_right (by simp; omega),List.getElem?_append_right h']
          congr 1
          simp; omega
       ·have hki:k≠i:=by rintro rfl; simp only [hL'i] at h3; cases h3
        simp only [hL'ne k hki] at h3
        rcases Nat.lt_or_ge k q with h|h
        ·have hu:=gp.un k h h2 h3
         rw [List.append_assoc,List.getElem?_append_left (aj hu)]
         exact hu
        ·obtain ⟨_,_,_,_,_,_,_,hEk,_,m7,_⟩:=hA k (by omega) h2
         have b1:=(pref (k+1) i (by omega) (by omega) fun m g1 g2=>allA m (by omega) g2).length_le
         have b2:=(pref q k h (by omega) fun m g1 g2=>allA m g1 (by omega)).length_le
         rw [m7] at b1
         simp at b1
         rw [List.getElem?_append_left (by simp; omega),List.getElem?_append_right (by omega),List.getElem?_replicate,if_pos (by omega)]
     |false =>
     have hex:∃q' G',bd C (gd env l vals (fun k=>listed.getD k false) l.length) G y.op=some (vals i,G')/\x9 l.length mems E A0 (fun k=>(listed.setIfInBounds i true).getD k false) q' G'/\(y.lets=true->G'=mems (i+1)):=by
      have pan0:E i=false->y.lets=true->G=mems (i+1):=by
       intro hEi hlt
       have hqi:q<=i:=by
        rcases gp.last with h|⟨p,hp1,hp2,hp3⟩
        ·omega
        ·have hqn:=gp.qn
         rcases Nat.lt_or_ge i p with h|h
         ·rw [inL i p (by omega) ((od.stop p i y hy hlt (by omega)).1 h) hp3] at hLi; cases hLi
         ·by_cases hip:i=p
          ·subst hip; simp only [hLi] at hp3; cases hp3
          ·omega
       have done:∀k,k<i->E k=true->listed.getD k false=true:=fun k hk hEk=>by
        obtain ⟨x',hx',hE'⟩:=hEs hEk
        rcases (od.stop k i y hy hlt (by omega)).2 hk with h4|h4
        ·exact rdy k h4
        ·have:=h4 x' hx'
         simp [aR.lh,this] at hE'
       rw [stays i hiN hEi,gp.full fun k hk hAk=>done k (by omega) (hAE k (by omega) hAk)]
       refine (same q i hqi (by omega) fun k h1 h2=>?_).symm
       cases hEk:E k with
       |false=>rfl
       |true =>
        have:=gp.rest k h1 (by omega) hEk
        simp only [done k h2 hEk] at this; cases this
      obtain ⟨q1,q2⟩:=wD (C:=C) (M:=G) (op:=y.op) fun t ht=>agree t (hopslot t ht)
      rw [q1]
      rcases js hstep with ⟨hn,hids,h1⟩|⟨hn,hgr,h1⟩|⟨hn,hgr,hp,h1⟩
      ·have hEi:E i=false:=by rw [hE hy]; simp [aR.lh,hn]
       exact ⟨q,G,(zp (od.alone i y hy hn) h1 hids).2 _,gC hEi,pan0 hEi⟩
      all_goals
       cases hEo:y.op.IM with
       |true =>
        have hEi:E i=true:=by rw [hE hy]; simp [aR.lh,hn,hEo]
        obtain ⟨k1,k2⟩:=gB hEi hAi
        exact ⟨i+1,mems (i+1),by rw [k1]; exact h1,k2,fun _=>rfl⟩
       |false =>
        have hEi:E i=false:=by rw [hE hy]; simp [aR.lh,hEo]
        refine ⟨q,G,?_,gC hEi,pan0 hEi⟩
        cases hlo:y.op.Gl with
        |false=>exact (DY hEo hlo h1).2 _
        |true =>
         -- a load: the memory of the moment and that of the text agree at its box
         have hz:∃z,(y.op = .cB z\/(∃n,y.op = .eG n z)\/∃fk zr ok k,y.op = .look fk zr ok z k)/\∀t,t∈z.eH->t∈y.op.eH:=by
          generalize y.op=op at hlo
          cases op<;>simp only [dS.Gl,Bool.false_eq_true] at hlo
          case eG n z=>exact ⟨z,.inr (.inl ⟨n,rfl⟩),fun t h=>h⟩
          case look fk zr ok z k=>exact ⟨z,.inr (.inr ⟨fk,zr,ok,k,rfl⟩),fun t h=>by simp [dS.eH,h]⟩
          case cB z=>exact ⟨z,.inl rfl,fun t h=>h⟩
         obtain ⟨z,hz1,hz2⟩:=hz
         have hrep:∃v,bQ j1 G w1 (z.ev (gd env l vals (fun _=>true) i)) v:=by
          rw [<-aJ (x:=z) fun t ht=>agree t (hopslot t (hz2 t ht))]
          cases z with
          |tmp t=>exact ⟨_,e1.at' t⟩
          |dX c =>
           have:=od.opl i y hy
           rcases hz1 with hz1|⟨n,hz1⟩|⟨_,_,_,_,hz1⟩<;>(rw [hz1] at this; cases this)
         obtain ⟨v,hv⟩:=hrep
         have hsame:∀id b,id∈(z.ev (gd env l vals (fun _=>true) i)).cm->id<G.length->nth (mems i) id=some b->nth G id=some b:=by
          intro id bx hidz hidl hbx
          have hq3:=gp.rest
          have hq4:=gp.last
          have hqn:=gp.qn
          rw [gp.len] at hidl
          have hG0:nth G id=nth (mems q) id:=by
           rw [bE,bE]
           rcases gp.at' id with h|⟨h,_⟩
           ·exact h
           ·exact absurd h (hv.SQ hidz)
          rw [hG0]
          have hni:E i=false:=by rw [hE hy]; simp [aR.lh,hEo]
          by_cases hqi:q<=i
          ·refine AW (.inr (nh i hqi fun k h2 h3=>?_)) hidl hbx
           cases hEk:E k with
           |false=>rw [stays k (by omega) hEk]; exact List.prefix_refl _
           |true =>
            obtain ⟨y',hz1',hz2'⟩:=hEs hEk
            have hunl:¬listed.getD k false=true:=by
             have h5:=hq3 k h2 (by omega) hEk
             rw [h5]; simp
            cases hzg:y'.grow with
            |false=>exact absurd (rdy k ((od.Pw k i y' y hz1' hz2' hzg hy hlo).2 h3)) hunl
            |true =>
             rcases grows k y' (by omega) hz1' hz2' hzg with hg'|⟨hsp,_⟩
             ·exact hg'
             ·exact absurd (rdy k ((od.sep k i y' y hz1' hsp hy hlo).1 h3)) hunl
          ·have chain:∀n,i<=n->n<=q->nth (mems n) id=some bx:=by
            intro n
            induction n with
            |zero=>intro h0 _; rw [show 0=i by omega]; exact hbx
            |succ n ihn =>
             intro h0 h0'
             by_cases he:i=n+1
             ·rw [<-he]; exact hbx
             ·have hb':=ihn (by omega) (by omega)
              cases hEk:E n with
              |false=>rw [stays n (by omega) hEk]; exact hb'
              |true =>
               obtain ⟨y',hz1',hz2'⟩:=hEs hEk
               cases hAn:A0 n with
               |true =>
                obtain ⟨_,_,_,_,_,_,_,_,_,m7,_⟩:=hA n (by omega) hAn
                rw [bE] at hb' ⊢
                rw [m7,List.getElem?_append_left (aj hb')]
                exact hb'
               |false =>
               have hkni:n≠i:=by rintro rfl; rw [hEk] at hni; cases hni
               have hdone:listed.getD n false=true:=by
                rcases hq4 with h0|⟨p,hp1,hp2,hp3⟩
                ·omega
                ·by_cases hkp:n=p
                 ·subst hkp; exact hp3
                 ·exact inL n p (by omega) (effA n p (by omega) hEk hp2 (.inl hAn)) hp3
               have hnol:ahead (iK ops.toList) i n=true->False:=fun ha=>by
                have:=nol n (by omega) ha
                rw [this] at hdone; cases hdone
               cases hzg:y'.grow with
               |false=>exact absurd ((od.Pw n i y' y hz1' hz2' hzg hy hlo).1 (by omega)) hnol
               |true =>
                rcases grows n y' (by omega) hz1' hz2' hzg with hg'|⟨hsp,hsa⟩
                ·obtain ⟨t,ht⟩:=hg'
                 rw [bE] at hb' ⊢
                 rw [<-ht,List.getElem?_append_left (aj hb')]
                 exact hb'
                ·rcases (od.sep n i y' y hz1' hsp hy hlo).2 (by omega) with ha|⟨zs,hzs,hmem,hnw⟩
                 ·exact (hnol ha).elim
                 ·have hslot:z = .tmp zs:=by
                   rcases hz1 with hz1|⟨m,hz1⟩|⟨_,_,_,_,hz1⟩<;>(rw [hz1] at hzs; cases z<;>simp [dS.D6] at hzs; rw [hzs])
                  subst hslot
                  have hsame0:cL (gd env l vals (fun _=>true) n) zs=cL (gd env l vals (fun _=>true) i) zs:=by
                   refine mi n (by omega) fun p hp1 hp2=>?_
                   rintro ⟨⟨x',hx',hdx⟩,_⟩
                   have:=List.all_eq_true.1 hnw p (List.mem_range.2 hp2)
                   rw [bE,hx'] at this
                   simp [hdx,Nat.not_lt.2 hp1] at this
                  have hat:∀ {sl:List Nat},oA (gd env l vals (fun _=>true) n) (mems n) (mems (n+1)) sl->zs∈sl->nth (mems (n+1)) id=nth (mems n) id:=by
                   intro sl
                   induction sl with
                   |nil=>intro _ h; cases h
                   |cons z0 r0 ih0 =>
                    intro hs hm
                    rcases List.mem_cons.1 hm with rfl|hm
                    ·have h6:=hs.1
                     rw [hsame0] at h6
                     simp only [cj.ev] at hidz
                     split at h6
                     ·rename_i id' off' he'
                      rw [he'] at hidz
                      simp [ae.cm] at hidz
                      subst hidz
                      exact h6
                     ·exact h6.elim
                    ·exact ih0 hs.2 hm
                  rw [hat hsa hmem]; exact hb'
           exact chain q (by omega) (Nat.le_refl _)
         exact (AE hlo h1).2 z hsame hz1 hv
     obtain ⟨q',G',haop,hG',hpan⟩:=hex
     refine kG.wpIn (KP:=fun u w'=>zf j1 G w1 (vals i,G') u w') (rp g1) (vG hC g1 haop r1 (hG.mono x1) e1 ?_ fun u w' h=>h) ?_
     ·rintro v w' ⟨j',p1,p2,p3⟩
      have hnp:(vals i).di=false:=by
       cases hvi:vals i<;>first|rfl|(rw [hvi] at p3; exact p3.CG.elim)
      refine ih (listed.setIfInBounds i true) _ w' (by simpa using hsz) left' down' (hin' hnp) ⟨j',q',G',hG',p1,?_,x1.trans p2,by rw [oy]; exact s1,by rw [put_defers]; exact d1⟩
      refine aL.vF ?_ newEnv
      rw [g2]
      exact (e1.mono p2).put s1 g4 p3
     ·rintro u w' ⟨hu,j',p1,p2⟩
      simp only at hu
      rcases hxe with ⟨n1,n2,_⟩|⟨n,y',v,n1,n2,n3,n4,n5,n6⟩
      ·have:=n2 i hiN; rw [hu] at this; cases this
      ·have hin0:i=n:=by
        rcases Nat.lt_or_ge i n with h|h
        ·have:=n5 i h; rw [hu] at this; cases this
        ·omega
       subst hin0
       rw [hy] at n2; injection n2 with n2; subst n2
       rw [hu] at n4; injection n4 with n4; subst n4
       have hmem:G'=mems N:=by rw [hpan n3,n1]
       rw [hmem] at p1 p2
       rw [n6] at hQ
       exact hQ a1 w' j' p1 (e1.nil p2) (x1.trans p2) s1 d1
    ·rw [if_neg (by rw [xR e1 s1 g5 hgt (by rw [agree t (hgslot t want hgt)]; exact hgv)]; simp)]
     have hmem:∃q',x9 l.length mems E A0 (fun k=>(listed.setIfInBounds i true).getD k false) q' G:=by
      cases hEi:E i with
      |true =>
       have hAi:A0 i=false:=by
        cases hAi:A0 i with
        |false=>rfl
        |true =>
         obtain ⟨y',_,_,_,n1,_,n5,_⟩:=hA i hiN hAi
         rw [hy] at n1; injection n1 with n1; subst n1
         rw [n5] at hgt; cases hgt
       obtain ⟨k1,k2⟩:=gB hEi hAi
       rw [hm0,<-k1] at k2
       exact ⟨_,k2⟩
      |false=>exact ⟨_,gC hEi⟩
     obtain ⟨q',hG'⟩:=hmem
     refine ⟨fun _ _=>trivial,?_⟩
     refine ih (listed.setIfInBounds i true) _ w1 (by simpa using hsz) left' down' (hin' (by rw [hv0]; rfl)) ⟨j1,q',G,hG',r1,?_,x1,by rw [oy]; exact s1,by rw [put_defers]; exact d1⟩
     refine aL.vF ?_ newEnv
     rw [g2,hv0]
     exact e1.put s1 g4 (.tuple (vs := #[]) rfl fun i c v h=>by simp at h)
 have q:Quiet w { w with drawn:=w.drawn+1 }:=⟨Nat.le_refl _,rfl,rfl,rfl⟩
 have hrep:∀k,(Array.replicate ops.size false).getD k false=false:=fun k=>by
  simp only [Array.getD_eq_getD_getElem?,Array.getElem?_replicate]
  split<;>rfl
 have hleft:left (fun k=>(Array.replicate ops.size false).getD k false) l.length=ops.size:=by
  have:∀n,left (fun k=>(Array.replicate ops.size false).getD k false) n=n:=by
   intro n
   induction n with
   |zero=>rfl
   |succ n ihn=>rw [left,ihn,hrep n]; rfl
  rw [this,hlen]
 refine key ops.size _ a _ (by simp) hleft (fun k o e _ hL=>by rw [show (fun k=>(Array.replicate ops.size false).getD k false) k=false from hrep k] at hL; cases hL) (fun k _ hL=>by rw [hrep k] at hL; cases hL) ⟨j,0,M,⟨Nat.zero_le _,.inl rfl,fun k _ _ _=>hrep k,by rw [m0],fun id => .inl (by rw [m0]),fun k h=>by omega⟩,?_,?_,?_,hs,rfl⟩
 ·exact hr.grow q.size rfl rfl rfl fun _ _=>rfl
 ·refine aL.vF (aL.mono he (Ext.grow q.size rfl rfl rfl fun _ _=>rfl)) fun t=>?_
  exact mi (i:=0) l.length (Nat.zero_le _) fun k _ _ hc=>by have h2:=hc.2; rw [hrep k] at h2; cases h2
 ·exact Ext.grow q.size rfl rfl rfl fun _ _=>rfl
end
def A6 {F:Fence} {nd:Nat} {P:Program} {c:Code} {Q Q':Exit->Act->World->Prop} {n:Nat} {a:Act} {w:World} (h:Code.roundsIn F nd P c Q n a w) (hq:∀e a w,Q e a w->Q' e a w):Code.roundsIn F nd P c Q' n a w:=by
 induction n generalizing a w with
 |zero=>exact h
 |succ n ih =>
  rw [roundsIn_succ] at *
  refine wpIn_mono h fun e a' w' h'=>?_
  cases e<;>simp only [Exit.then] at h' ⊢ <;> first|exact ih h'|exact hq _ _ _ h'
def gx {base:Nat} {M:ag} (hb:base<=M.length):(eW base M).length=base:=by simp [eW]; omega
def dP {base:Nat} {M:ag} {i:Nat} (hi:i<base):(eW base M)[i]?=(M[i]?).map (aK.back base M):=by
 simp [eW,List.getElem?_map,List.getElem?_take_of_lt hi]
def GF (base:Nat) (M:ag) (b:aK):(b.back base M).tag=b.tag:=by cases b<;>rfl
def BH (base:Nat) (M:ag) (b:aK):(b.back base M).fixed=b.fixed:=by cases b<;>rfl
def BJ {base:Nat} {M:ag} {b:aK} (h:b.loose=true):b.back base M=b:=by cases b<;>first|rfl|cases h
section
variable {base:Nat} {M:ag} {j:J} {w:World} (hb:base<=M.length)
include hb
def nP {b off:Nat} (h:fJ j M w b off):fJ j (eW base M) w b off:=by
 refine ⟨h.lt,fun id hid hj=>?_,h.nx⟩
 rw [gx hb] at hid
 obtain ⟨sz,n,h1,h2⟩:=h.ids id (by omega) hj
 exact ⟨sz,n,by rw [dP hid,h1]; rfl,h2⟩
def eO:∀b off,fJ j M w b off->fJ j (eW base M) w b off/\w.cell? ⟨b,off,none⟩=w.cell? ⟨b,off,none⟩:=fun b off hs=>⟨nP hb hs,rfl⟩
def Df {id:Nat} (hlt:id<base) (hM:∀bx,M[id]?=some bx->bx.loose=true):(eW base M)[id]?=M[id]?:=by
 have h0:=List.getElem?_eq_getElem (show id<M.length by omega)
 rw [dP hlt,h0,Option.map_some,BJ (hM _ h0)]
variable (hr:Rel j M w)
include hr
def rQ {x:ae} {v:Value} (h:bQ j M w x v):bQ j (eW base M) w (x.da base M) v:=by
 cases h with
 |plain h =>
  have:x.da base M=x:=by cases h<;>rfl
  rw [this]
  exact .plain (h.mono (eO hb))
 |c0 A=>exact .c0 A
 | @own k xs v sz n hk hn hp ht =>
  simp only [ae.da]
  split
  ·rename_i hlt
   exact .own (sz:=sz) (n:=n) (by rw [dP hlt,hk]; rfl) hn (hp.mono (eO hb)) ht
  ·exact .plain (hp.mono (eO hb))
 |agg=>exact .any _
 |tuple=>exact .any _
 | @ptr id off b hid hc hj =>
  simp only [ae.da]
  split
  ·rename_i hlt
   obtain ⟨cs,hc⟩:=hc
   exact .ptr (by rw [gx hb]; exact hlt) ⟨_,by rw [dP hlt,hc]; rfl⟩ hj
  ·exact .any _
 |cW h=>exact .cW fun k c hk=>⟨(h k c hk).1,nP hb (h k c hk).2.1,(h k c hk).2.2.mono (eO hb)⟩
 |func=>exact .any _
 | @cz id b hc hj =>
  simp only [ae.da]
  split
  ·rename_i hlt
   obtain ⟨ks,vs,hc⟩:=hc
   exact .cz ⟨_,_,by rw [dP hlt,hc]; rfl⟩ hj
  ·exact .any _
 | @dp id b hc hj =>
  simp only [ae.da]
  split
  ·rename_i hlt
   obtain ⟨ks,vs,hc⟩:=hc
   exact .dp ⟨_,_,by rw [dP hlt,hc]; rfl⟩ hj
  ·exact .any _
 |du hlt hf hx hw hk hv hks hvs =>
  exact .du hlt (fun i hi=>hf i (by rw [gx hb] at hi; omega)) hx hw hk hv (fun i k e h1 h2=>(hks i k e h1 h2).mono (eO hb)) (fun i k e h1 h2=>(hvs i k e h1 h2).mono (eO hb))
 | @bI id t b v hc hj hk hv =>
  simp only [ae.da]
  split
  ·rename_i hlt
   obtain ⟨cs,hc⟩:=hc
   exact .bI ⟨_,by rw [dP hlt,hc]; rfl⟩ hj hk hv
  ·exact .any _
 | @dI t id off b hc hj =>
  simp only [ae.da]
  split
  ·rename_i hlt
   obtain ⟨cs,hc⟩:=hc
   exact .dI ⟨_,by rw [dP hlt,hc]; rfl⟩ hj
  ·exact .any _
 | @cA k t n x l v hk hn hp ht =>
  simp only [ae.da]
  split
  ·rename_i hlt
   exact .cA (n:=n) (by rw [dP hlt,hk]; rfl) hn (hp.mono (eO hb)) ht
  ·exact .any _
 |iA hl hd=>exact .iA hl fun i c v h1 h2=>(hd i c v h1 h2).mono (eO hb)
 | @aZ id ver sz0 lo hi v h0 hid hM hv =>
  simp only [ae.da]
  split
  ·rename_i hlt
   have e:=Df hb hlt hM
   exact .aZ h0 (by rw [gx hb]; exact hlt) (fun bx hbx=>hM bx (e▸hbx)) fun sz v' xs h=>hv sz v' xs (e▸h)
  ·rename_i hge
   split
   ·rename_i sz v' xs hMi
    split
    ·rename_i he
     subst he
     obtain ⟨_,k2⟩:=hv sz v' xs hMi
     obtain ⟨rfl,l1,l2,⟨rfl,_,A,rfl⟩|⟨b,cap,vs,t,l3,rfl,l5,l6,l7⟩⟩:=k2 rfl
     ·simp only [List.take_nil,List.drop_nil]
      exact .plain (bF.nil _ _ _)
     obtain ⟨b',vs',t',g1,g2,g3,g4,g5⟩:=hr.qw hMi l3
     rw [l3] at g1; injection g1 with g1; subst g1
     refine .plain (oT g2 g4 g5 (fun b off h=>nP hb h) (fun off _=>⟨hr.lt id b hid l3,fun id' hid' hj'=>?_,hr.lY id b hid l3 off⟩) l1 l2 l5)
     rw [gx hb] at hid'
     have:=hr.inj id' id b (by omega) hid hj' l3
     omega
    ·exact .any _
   ·exact .any _
 | @cV id ver i off v h0 hid hM hv =>
  simp only [ae.da]
  split
  ·rename_i hlt
   have e:=Df hb hlt hM
   exact .cV h0 (by rw [gx hb]; exact hlt) (fun bx hbx=>hM bx (e▸hbx)) fun sz v' xs h=>hv sz v' xs (e▸h)
  ·exact .any _
 |any v=>exact .any v
def cN {x:ae} {v:Value} (h:bQ j M w x v):bQ j (eW base M) w (x.ew base M) v:=by
 by_cases hag:∃f cs,x = .func f cs
 ·obtain ⟨f,caps,rfl⟩:=hag
  obtain ⟨vs,rfl,hl,hc⟩:=h.jR
  refine .func (by simpa using hl) fun i c u hi hu=>?_
  rw [List.getElem?_map,Option.map_eq_some_iff] at hi
  obtain ⟨c0,hc0,rfl⟩:=hi
  exact rQ hb hr (hc i c0 u hc0 hu)
 ·have e1:x.ew base M=x.da base M:=by cases x<;>first|rfl|exact absurd ⟨_,_,rfl⟩ hag
  rw [e1]; exact rQ hb hr h
def rR {x:ae} {v:Value} (h:bQ j M w x v):bQ j (eW base M) w (x.eb base M) v:=by
 by_cases hag:∃cs,x = .agg cs
 ·obtain ⟨cs,rfl⟩:=hag
  obtain ⟨vs,rfl,hl,hc⟩:=h.eK
  refine .agg (by simpa using hl) fun i c u hi hu=>?_
  rw [List.getElem?_map,Option.map_eq_some_iff] at hi
  obtain ⟨c0,hc0,rfl⟩:=hi
  exact cN hb hr (hc i c0 u hc0 hu)
 ·have e1:x.eb base M=x.ew base M:=by cases x<;>first|rfl|exact absurd ⟨_,rfl⟩ hag
  rw [e1]; exact cN hb hr h
def Ew {x:ae} {v:Value} (h:bQ j M w x v):bQ j (eW base M) w (x.fM base M) v:=by
 by_cases hag:∃cs,x = .tuple cs
 ·obtain ⟨cs,rfl⟩:=hag
  obtain ⟨vs,rfl,hl,hc⟩:=h.kD
  refine .tuple (by simpa using hl) fun i c u hi hu=>?_
  rw [List.getElem?_map,Option.map_eq_some_iff] at hi
  obtain ⟨c0,hc0,rfl⟩:=hi
  exact rR hb hr (hc i c0 u hc0 hu)
 ·have e1:x.fM base M=x.eb base M:=by cases x<;>first|rfl|exact absurd ⟨_,rfl⟩ hag
  rw [e1]; exact rR hb hr h
def Ev {env:Env} {a:Act} (h:aL j M w env a):aL j (eW base M) w (qy base M env) a:=by
 refine ⟨fun t=>?_,h.gl.cu fun b off hs=>nP hb hs⟩
 have:cL (qy base M env) t=(cL env t).fM base M:=by
  clear h hr hb
  induction env with
  |nil=>rfl
  |cons p r ih =>
   obtain ⟨k,v⟩:=p
   simp only [qy,List.map_cons,cL] at *
   split
   ·rfl
   ·exact ih
 rw [this]
 exact Ew hb hr (h.at' t)
def uJ {x:ae} {v:Value} (h:bQ j M w x v):bQ j (eW base M) w (x.dA base M) v:=by
 cases x with
 |slice tk xs=>exact .plain (h.bg.mono (eO hb))
 |cz id =>
  simp only [ae.dA]
  split
  ·rename_i hlt
   have:=rQ hb hr h
   simpa only [ae.da,hlt,if_true] using this
  ·rename_i hge
   split
   ·rename_i ks vs hM
    split
    ·rename_i hp
     simp only [Bool.and_eq_true,List.all_eq_true] at hp
     obtain ⟨b,_,hj,rfl⟩:=h.mB
     obtain ⟨b',hj',es,clock,g1,g2,g3,g4,g5⟩:=hr.fix id _ hM rfl
     have:b'=b:=by rw [hj] at hj'; injection hj' with h; exact h.symm
     subst this
     have hid:id<M.length:=aj hM
     exact .du (hr.lt id _ hid hj) (fun i hi he=>by
      rw [gx hb] at hi
      have:=hr.inj i id _ (by omega) hid he hj
      omega) (hr.lY id _ hid hj) g1 g2 g3 (fun i k e h1 h2=>(g4 i k e h1 h2).mono (eO hb))
      fun i u e h1 h2=>(ud.oq (g5 i u e h1 h2) (hp.1 u (List.mem_of_getElem? h1))).mono (eO hb)
    ·exact .any _
   ·exact .any _
 |func f caps=>exact cN hb hr h
 |agg cs=>exact cN hb hr h
 |tuple cs=>exact cN hb hr h
 |bool b=>exact cN hb hr h
 |int k n=>exact cN hb hr h
 |str s=>exact cN hb hr h
 |ptr id off=>exact cN hb hr h
 |cW cs=>exact cN hb hr h
 |dp id=>exact cN hb hr h
 |aZ id v sz lo hi=>exact cN hb hr h
 |cV id v i off=>exact cN hb hr h
 |iA f fs=>exact cN hb hr h
 |bI id t=>exact cN hb hr h
 |dI t id off=>exact cN hb hr h
 |cA k t x l=>exact cN hb hr h
 |du ks vs=>exact cN hb hr h
 |raw v=>exact cN hb hr h
 |fK v=>exact h.CG.elim
 |any=>exact .any _
def uK {x:ae} {v:Value} (h:bQ j M w x v):bQ j (eW base M) w (x.dK base M) v:=by
 by_cases hag:∃cs,x = .agg cs
 ·obtain ⟨cs,rfl⟩:=hag
  obtain ⟨vs,rfl,hl,hc⟩:=h.eK
  refine .agg (by simpa using hl) fun i c u hi hu=>?_
  rw [List.getElem?_map,Option.map_eq_some_iff] at hi
  obtain ⟨c0,hc0,rfl⟩:=hi
  exact uJ hb hr (hc i c0 u hc0 hu)
 ·have e1:x.dK base M=x.dA base M:=by cases x<;>first|rfl|exact absurd ⟨_,rfl⟩ hag
  rw [e1]; exact uJ hb hr h
def wG {x:ae} {v:Value} (h:bQ j M w x v):bQ j (eW base M) w (x.eX base M) v:=by
 by_cases hag:∃cs,x = .tuple cs
 ·obtain ⟨cs,rfl⟩:=hag
  obtain ⟨vs,rfl,hl,hc⟩:=h.kD
  refine .tuple (by simpa using hl) fun i c u hi hu=>?_
  rw [List.getElem?_map,Option.map_eq_some_iff] at hi
  obtain ⟨c0,hc0,rfl⟩:=hi
  exact uK hb hr (hc i c0 u hc0 hu)
 ·have e1:x.eX base M=x.dK base M:=by cases x<;>first|rfl|exact absurd ⟨_,rfl⟩ hag
  rw [e1]; exact uK hb hr h
def BI {b:Nat} {bx:aK} (h:Holds j M w b bx):Holds j (eW base M) w b (bx.back base M):=by
 cases bx with
 |cells cs =>
  obtain ⟨vs,t,h1,h2,h3⟩:=h
  refine ⟨vs,t,h1,by simpa using h2,fun q c v hc hv=>?_⟩
  rw [List.getElem?_map,Option.map_eq_some_iff] at hc
  obtain ⟨c0,hc0,rfl⟩:=hc
  exact cN hb hr (h3 q c0 v hc0 hv)
 |tick=>trivial
 |map ks vs =>
  obtain ⟨es,clock,h1,h2,h3,h4,h5⟩:=h
  refine ⟨es,clock,h1,h2,by simpa using h3,fun i k e hk he=>(h4 i k e hk he).mono (eO hb),fun i k e hk he=>?_⟩
  rw [List.getElem?_map,Option.map_eq_some_iff] at hk
  obtain ⟨c0,hc0,rfl⟩:=hk
  exact rR hb hr (h5 i c0 e hc0 he)
 |fB s pos=>exact h
 |mO=>trivial
 |arr=>trivial
def qF:Rel j (eW base M) w:=by
 have ln:=gx hb
 refine ⟨fun i i' b hi hi'=>hr.inj i i' b (by omega) (by omega),fun i b hi=>hr.lt i b (by omega),fun i bx h hf=>?_,fun i sz n b h hj=>?_,fun i sz ver xs h=>?_,fun i b hi=>hr.lY i b (by omega),hr.qo⟩
 ·have hi:i<base:=by rw [<-ln]; exact aj h
  rw [dP hi,Option.map_eq_some_iff] at h
  obtain ⟨bx0,h1,rfl⟩:=h
  obtain ⟨b,g1,g2⟩:=hr.fix i bx0 h1 (by rw [<-BH base M]; exact hf)
  exact ⟨b,g1,BI hb hr g2⟩
 ·have hi:i<base:=by rw [<-ln]; exact aj h
  rw [dP hi,Option.map_eq_some_iff] at h
  obtain ⟨bx,h1,h2⟩:=h
  cases bx with
  |tick sz0 n0=>exact hr.tick i sz0 n0 b h1 hj
  |cells cs=>cases h2
  |map ks vs=>cases h2
  |fB s p=>cases h2
  |mO=>cases h2
  |arr sz v xs=>cases h2
 ·have hi:i<base:=by rw [<-ln]; exact aj h
  rw [dP hi,Option.map_eq_some_iff] at h
  obtain ⟨bx,h1,h2⟩:=h
  cases bx with
  |arr sz0 v0 xs0 =>
   injection h2 with e1 e2 e3
   subst e1; subst e2; subst e3
   obtain ⟨g0,g1⟩|⟨b,vs,t,g1,g2,g3,g4,g5⟩:=hr.arr i _ _ _ h1
   ·exact .inl ⟨g0,g1⟩
   exact .inr ⟨b,vs,t,g1,g2,g3,g4,fun q x k c hx hk=>(g5 q x k c hx hk).imp fun u hu=>⟨hu.1,hu.2.mono (eO hb)⟩⟩
  |cells cs=>cases h2
  |map ks vs=>cases h2
  |fB s p=>cases h2
  |mO=>cases h2
  |tick sz n=>cases h2
omit hr in
def nN {j0:J} {M0:ag} {w0:World} (h0:M0.length=base) (hx:Ext j0 M0 w0 j M w):Ext j0 M0 w0 j (eW base M) w where
 len:=by rw [gx hb]; omega
 size:=hx.size
 os:=hx.os
 tape:=hx.tape
 output:=hx.output
 X:=hx.X
 fix:=fun i bx h hf=>by
  obtain ⟨h1,bx',h2,h3⟩:=hx.fix i bx h hf
  have hi:i<base:=by rw [<-h0]; exact aj h
  exact ⟨h1,_,by rw [dP hi,h2]; rfl,(GF base M bx').trans h3⟩
 tick:=fun i sz n h=>by
  obtain ⟨n',h1,h2,h3⟩:=hx.tick i sz n h
  have hi:i<base:=by rw [<-h0]; exact aj h
  exact ⟨n',h1,by rw [dP hi,h2]; rfl,h3⟩
 arr:=fun i sz v xs h=>by
  have hi:i<base:=by rw [<-h0]; exact aj h
  rcases hx.arr i sz v xs h with ⟨n',g⟩|⟨v',xs',g1,g2⟩
  ·exact .inl ⟨n',by rw [dP hi,g]; rfl⟩
  ·exact .inr ⟨v',xs',by rw [dP hi,g1]; rfl,g2⟩
 tags:=hx.tags
 cu:=fun b off h=>⟨nP hb (hx.cu b off h).1,(hx.cu b off h).2⟩
 mP:=fun b hlt h=>⟨(hx.mP b hlt h).1,fun i hi=>(hx.mP b hlt h).2 i (by rw [gx hb] at hi; omega)⟩
end
def Mq (A:we) (j:J) (M:ag) (w:World) (a:Act) (o:Out):Exit->Act->World->Prop:=fun e a' w' =>
 e=jj o.e/\a'.tmps.size=A.n/\a'.defers=a.defers/\∃j',Rel j' o.mem w'/\aL j' o.mem w' o.env a'/\Ext j M w j' o.mem w'
def sO {A:we} {j:J} {M:ag} {w:World} {a:Act} {o:Out} {live:List Nat} {a':Act} {w':World} {j':J} (h1:Rel j' o.mem w') (h2:aL j' o.mem w' o.env a') (h3:Ext j M w j' o.mem w') (h4:a'.tmps.size=A.n)
  (h5:a'.defers=a.defers):Mq A j M w a (o.iM live) (jj o.e) a' w':=by
 obtain ⟨e,env,M'⟩:=o
 cases e
 case normal=>exact ⟨rfl,h4,h5,j',h1,h2.iM _,h3⟩
 all_goals exact ⟨rfl,h4,h5,j',h1,h2,h3⟩
section
variable {P:Program} {C:bt} {A:we}
def eZ (hmix:P.follows .mixedOrders=true) (hC:hU P C) {rd:Option Nat} {nd:Nat}:∀(c:Code) {ac:aO},comp P A c=some ac->∀ {env:Env} {M:ag} {o:Out},br C ac env M=some o->∀ {j:J} {w:World} {a:Act},Rel j M w->j4 j M w->aL j M w env a ->
  a.tmps.size=A.n->c.wpIn (Wd rd) nd P (Mq A j M w a o) a w
 | .skip,ac,hc,env,M,o,h,j,w,a,hr,hG,he,hs=>by
  simp only [comp] at hc; injection hc with hc; subst hc
  simp only [br] at h; injection h with h; subst h
  exact wpIn_skip ⟨rfl,hs,rfl,j,hr,he,Ext.refl j M w⟩
 | .exit id,ac,hc,env,M,o,h,j,w,a,hr,hG,he,hs=>by
  simp only [comp] at hc; injection hc with hc; subst hc
  simp only [br] at h; injection h with h; subst h
  exact wpIn_exit ⟨rfl,hs,rfl,j,hr,he,Ext.refl j M w⟩
 | .ret,ac,hc,env,M,o,h,j,w,a,hr,hG,he,hs=>by
  simp only [comp] at hc; injection hc with hc; subst hc
  simp only [br] at h; injection h with h; subst h
  exact wpIn_ret ⟨rfl,hs,rfl,j,hr,he,Ext.refl j M w⟩
 | .region id ops draw,ac,hc,env,M,o,h,j,w,a,hr,hG,he,hs=>by
  simp only [comp] at hc
  cases draw with
  |true =>
   simp only [if_true] at hc
   obtain ⟨l0,hl0,hc⟩:=an hc
   obtain ⟨l,hl,hc⟩:=an hc
   injection hc with hc; subst hc
   simp only [br] at h
   obtain ⟨x,hx,h⟩:=au h
   injection h with h; subst h
   exact A3 (A:={ A with own:=A.own.filter (1000000 <= ·) }) hmix hC hl0 hl hx hr hG he hs fun a' w' j' h1 h2 h3 h4 h5=>sO h1 h2 h3 h4 h5
  |false =>
   simp only [Bool.false_eq_true,if_false] at hc
   obtain ⟨l,hl,hc⟩:=an hc
   injection hc with hc; subst hc
   simp only [br] at h
   obtain ⟨x,hx,h⟩:=au h
   injection h with h; subst h
   refine wpIn_region ?_
   rw [List.range_eq_range']
   exact o9 hC (grow:=[]) ops.toList 0 (by simp) hl hx hr hG he hs fun a' w' j' h1 h2 h3 h4 h5=>sO h1 h2 h3 h4 h5
 | .seq x y,ac,hc,env,M,o,h,j,w,a,hr,hG,he,hs=>by
  simp only [comp] at hc
  obtain ⟨ax,hx,hc⟩:=an hc
  obtain ⟨ay,hy,hc⟩:=an hc
  injection hc with hc; subst hc
  simp only [br] at h
  obtain ⟨o1,h1,h⟩:=au h
  refine wpIn_seq (wpIn_mono (eZ hmix hC x hx h1 hr hG he hs) ?_)
  rintro e a1 w1 ⟨he1,hs1,hd1,j1,r1,e1,x1⟩
  rcases kN h with ⟨hn,h2⟩|⟨hn,h2⟩
  ·rw [hn] at he1
   subst he1
   refine wpIn_mono (eZ hmix hC y hy h2 r1 (hG.mono x1) e1 hs1) ?_
   rintro e a2 w2 ⟨he2,hs2,hd2,j2,r2,e2,x2⟩
   exact ⟨he2,hs2,hd2.trans hd1,j2,r2,e2,x1.trans x2⟩
  ·subst h2
   have:jj o.e ≠ .normal:=by cases ho:o.e<;>simp_all [jj]
   subst he1
   cases hx:jj o.e<;>first
    |exact absurd hx this
    |(simp only [Exit.then]; exact ⟨hx.symm,hs1,hd1,j1,r1,e1,x1⟩)
 | .cond c x y,ac,hc,env,M,o,h,j,w,a,hr,hG,he,hs=>by
  simp only [comp] at hc
  obtain ⟨cc,hcc,hc⟩:=an hc
  obtain ⟨ax,hx,hc⟩:=an hc
  obtain ⟨ay,hy,hc⟩:=an hc
  injection hc with hc; subst hc
  simp only [br] at h
  have h1:=aN he hcc
  split at h
  ·rename_i t ht
   rw [ht] at h1
   rcases dw h with ⟨rfl,h⟩|⟨rfl,h⟩
   ·exact wpIn_cond_true h1.df (eZ hmix hC x hx h hr hG he hs)
   ·exact wpIn_cond_false h1.df (eZ hmix hC y hy h hr hG he hs)
  ·cases h
 | .block id c,ac,hc,env,M,o,h,j,w,a,hr,hG,he,hs=>by
  simp only [comp] at hc
  obtain ⟨ax,hx,hc⟩:=an hc
  injection hc with hc; subst hc
  simp only [br] at h
  obtain ⟨o1,h1,h⟩:=au h
  injection h with h; subst h
  refine wpIn_block (wpIn_mono (eZ hmix hC c hx h1 hr hG he hs) ?_)
  rintro e a1 w1 ⟨he1,hs1,hd1,j1,r1,e1,x1⟩
  subst he1
  cases ho:o1.e with
  |normal=>simp only [jj,Exit.inBlock]; refine ⟨?_,hs1,hd1,j1,?_⟩<;>simp [nB,ho,jj,r1,e1,x1]
  |ret=>simp only [jj,Exit.inBlock]; refine ⟨?_,hs1,hd1,j1,?_⟩<;>simp [nB,ho,jj,r1,e1,x1]
  |fK v=>simp only [jj,Exit.inBlock]; refine ⟨?_,hs1,hd1,j1,?_⟩<;>simp [nB,ho,jj,r1,e1,x1]
  |exit i =>
   simp only [jj,Exit.inBlock]
   by_cases hi:i=id
   ·rw [if_pos hi]; refine ⟨?_,hs1,hd1,j1,?_⟩<;>simp [nB,ho,jj,hi,r1,e1,x1]
   ·rw [if_neg hi]; refine ⟨?_,hs1,hd1,j1,?_⟩<;>simp [nB,ho,jj,hi,r1,e1,x1]
 | .loop c,ac,hc,env,M,o,h,j,w,a,hr,hG,he,hs=>by
  simp only [comp] at hc
  obtain ⟨ax,hx,hc⟩:=an hc
  injection hc with hc; subst hc
  simp only [br] at h
  obtain ⟨n,hn⟩:=na h
  refine wpIn_loop_rounds n ?_
  have key:∀n env M j1 w1 a1,iter (br C ax) (find A.lp (fW c)) n env M=some o->Rel j1 M w1->j4 j1 M w1->aL j1 M w1 env a1->a1.tmps.size=A.n ->
    Code.roundsIn (Wd rd) nd P c (Mq A j1 M w1 a1 o) n a1 w1:=by
   intro n
   induction n with
   |zero=>intro env M j1 w1 a1 h; cases h
   |succ n ih =>
    intro env M j1 w1 a1 h r1 hG1 e1 s1
    rw [iter] at h
    obtain ⟨o1,h1,h⟩:=au h
    rw [roundsIn_succ]
    refine wpIn_mono (eZ hmix hC c hx h1 r1 hG1 (e1.iM _) s1) ?_
    rintro e a2 w2 ⟨he2,hs2,hd2,j2,r2,e2,x2⟩
    rcases kN h with ⟨hn,h2⟩|⟨hn,h2⟩
    ·rw [hn] at he2
     subst he2
     have:=ih _ _ j2 w2 a2 h2 (qF x2.len r2) (hG1.mono (nN x2.len rfl x2)) (Ev x2.len r2 (e2.iM _)) hs2
     simp only [jj,Exit.then]
     exact A6 this fun e a3 w3 ⟨g1,g2,g3,j3,g4,g5,g6⟩=>⟨g1,g2,g3.trans hd2,j3,g4,g5,(nN x2.len rfl x2).trans g6⟩
    ·subst h2
     have:jj o.e ≠ .normal:=by cases ho:o.e<;>simp_all [jj]
     subst he2
     cases hx:jj o.e<;>first
      |exact absurd hx this
      |(simp only [Exit.then]; exact ⟨hx.symm,hs2,hd2,j2,r2,e2,x2⟩)
  exact key n env M j w a hn hr hG he hs
 | .rangeFunc ..,ac,hc,env,M,o,h,j,w,a,hr,hG,he,hs=>by simp [comp] at hc
 | .scope _,ac,hc,env,M,o,h,j,w,a,hr,hG,he,hs=>by simp [comp] at hc
 | .label _,ac,hc,env,M,o,h,j,w,a,hr,hG,he,hs=>by simp [comp] at hc
 | .goto _,ac,hc,env,M,o,h,j,w,a,hr,hG,he,hs=>by simp [comp] at hc
 | .refuse _,ac,hc,env,M,o,h,j,w,a,hr,hG,he,hs=>by simp [comp] at hc
def uw {env:Env} {M:ag} {j:J} {w:World} {a:Act} (hr:Rel j M w) (he:aL j M w env a):∀ {rs:List ResultVar} {ars:List lL} {l:List ae},zA P rs=some ars->j9 env M ars=some l ->
  ∃vs:List Value,(rs.mapM fun r=>(match r with | .tmp t=>pure (a.tmps.getD t undef) | .cell q t=>do loadVar t (<-asAddr (a.tmps.getD q undef)):Sem Value)).run P w = .ok vs w/\l.length=vs.length /\
   ∀(i:Nat) (c:ae) (v:Value),l[i]?=some c->vs[i]?=some v->bQ j M w c v
 | [],ars,l,h1,h2=>by
  simp [zA] at h1; subst h1
  simp [j9] at h2; subst h2
  exact ⟨[],by simp,rfl,fun i c v h=>by simp at h⟩
 | .tmp t::rs,ars,l,h1,h2=>by
  simp only [zA] at h1
  obtain ⟨ars',h3,h1⟩:=an h1
  injection h1 with h1; subst h1
  simp only [j9,vQ,aE] at h2
  obtain ⟨l',h4,h2⟩:=au h2
  injection h2 with h2; subst h2
  obtain ⟨vs,g1,g2,g3⟩:=uw hr he h3 h4
  refine ⟨a.tmps.getD t undef::vs,by
   rw [List.mapM_cons,Sem.run_bind]
   simp only [Sem.run_pure,Result.andThen_ok,Sem.run_bind,g1],by simp [g2],fun i c v hc hv=>?_⟩
  cases i with
  |zero=>simp only [List.getElem?_cons_zero,Option.some.injEq] at hc hv; subst hc; subst hv; exact he.at' t
  |succ i=>exact g3 i c v (by simpa using hc) (by simpa using hv)
 | .cell q t::rs,ars,l,h1,h2=>by
  simp only [zA] at h1
  obtain ⟨g,hg,h1⟩:=an h1
  obtain ⟨n,hn,h1⟩:=an h1
  obtain ⟨ars',h3,h1⟩:=an h1
  injection h1 with h1; subst h1
  simp only [j9] at h2
  obtain ⟨c0,hc0,h2⟩:=au h2
  obtain ⟨l',h4,h2⟩:=au h2
  injection h2 with h2; subst h2
  obtain ⟨vs,g1,g2,g3⟩:=uw hr he h3 h4
  have hq:=he.at' q
  have hload:∃v,(do loadVar t (<-asAddr (a.tmps.getD q undef)):Sem Value).run P w = .ok v w/\bQ j M w c0 v:=by
   cases g with
   |true =>
    simp only [if_true,vQ] at hc0
    split at hc0
    ·rename_i id off e
     rw [e] at hq
     obtain ⟨b,_,_,hj,hv⟩:=hq.gW
     rw [bE] at hc0
     split at hc0
     ·rename_i cs hM
      split at hc0
      ·rename_i hle
       injection hc0 with hc0; subst hc0
       obtain ⟨us,t0,hw,hl,hcs,hcell⟩:=nQ hr hM hj
       have hrun:=ij (P:=P) (w:=w) b off n (fun k=>(us[off+k]?).getD undef) fun k hk=>by
        rw [hcell,Array.getElem?_eq_getElem (by omega)]; simp
       refine ⟨_,by simp only [hv,asAddr,Sem.run_bind,Sem.run_pure,Result.andThen_ok,loadVar,dZ hg,if_true,cY hn,hrun]; rfl,.agg (by simp; omega) fun p c u hc hu=>?_⟩
       have hp:p<n:=by have:=aj hc; simp at this; omega
       rw [List.getElem?_take_of_lt hp,List.getElem?_drop] at hc
       have hu':u=(us[off+p]?).getD undef:=by simp [hp] at hu; exact hu.symm
       have hs:us[off+p]?=some (us[off+p]'(by omega)):=Array.getElem?_eq_getElem (by omega)
       rw [hs] at hu'
       subst hu'
       exact hcs _ c _ hc hs
      ·cases hc0
     ·cases hc0
    ·cases hc0
   |false =>
    simp only [Bool.false_eq_true,if_false,vQ] at hc0
    split at hc0
    ·rename_i id off e
     rw [e] at hq
     obtain ⟨b,_,_,hj,hv⟩:=hq.gW
     rw [bE] at hc0
     split at hc0
     ·rename_i cs hM
      rw [bE] at hc0
      obtain ⟨us,t0,hw,hl,hcs,hcell⟩:=nQ hr hM hj
      have hlt:=aj hc0
      have hu:us[off]?=some (us[off]'(by omega)):=Array.getElem?_eq_getElem (by omega)
      exact ⟨_,by simp [hv,asAddr,loadVar,dZ hg,hcell,hu],hcs _ _ _ hc0 hu⟩
     ·cases hc0
    ·cases hc0
  obtain ⟨v0,hv0,hr0⟩:=hload
  refine ⟨v0::vs,?_,by simp [g2],fun i c v hc hv=>?_⟩
  ·rw [List.mapM_cons,Sem.run_bind,hv0]
   simp only [Result.andThen_ok,Sem.run_bind,g1,Sem.run_pure]
  ·cases i with
   |zero=>simp at hc hv; subst hc; subst hv; exact hr0
   |succ i=>exact g3 i c v (by simpa using hc) (by simpa using hv)
def sk:∀(args:List ae) (i t:Nat),cL (fh i args) t=if i<=t then (args[t-i]?).getD .any else .any
 | [],i,t=>by simp [fh,cL]
 |v::r,i,t=>by
  rw [fh,cL,sk r (i+1) t]
  by_cases h:i=t
  ·subst h; simp
  ·rw [if_neg h]
   by_cases h2:i<=t
   ·rw [if_pos (by omega),if_pos h2,show t-i=(t-(i+1))+1 by omega]; simp
   ·rw [if_neg (by omega),if_neg h2]
def DS {j:J} {M:ag} {w:World}:∀ {l:List ae} {us:List Value},l.length=us.length->(∀(i:Nat) (c:ae) (v:Value),l[i]?=some c->us[i]?=some v->bQ j M w c v) ->
  bQ j M w (one l) (if h:us.toArray.size=1 then us.toArray[0] else .tuple us.toArray)
 | [c0],[v0],_,h=>by simpa [one] using h 0 c0 v0 rfl rfl
 | [],[],_,_=>by simpa [one] using (bQ.tuple (j:=j) (M:=M) (w:=w) (cs:=[]) (vs := #[]) rfl fun i c v h=>by simp at h)
 |c0::c1::r,v0::v1::s,hl,h=>by
  have:¬(v0::v1::s).toArray.size=1:=by simp
  rw [dif_neg this]
  exact .tuple (by simpa using hl) fun i c v h1 h2=>h i c v h1 (by simpa using h2)
 | [],_::_,hl,_=>by simp at hl
 | [_],[],hl,_=>by simp at hl
 | [_],_::_::_,hl,_=>by simp at hl
 |_::_::_,[],hl,_=>by simp at hl
 |_::_::_,[_],hl,_=>by simp at hl
def Iv (hmix:P.follows .mixedOrders=true) (hC:hU P C) {f:Nat} {fn:cf} {A:we} {func:Func} (hf:P.funcs[f]?=some func) (hc:jv P A func=some fn) {args:List ae} {M:ag} {x:ae×ag}
  (hl:args.length=fn.nparams) (h:aF (br C fn.body (fh 0 args) M) (finish fn.results M.length)=some x):fu P f=true/\ba P f args M x:=by
 unfold jv at hc
 split at hc
 ·cases hc
 ·rename_i c hbody
  split at hc
  ·rename_i hcond
   obtain ⟨hname,hn,hle⟩:=hcond
   obtain ⟨b,hb,hc⟩:=an hc
   obtain ⟨rs,hrs,hc⟩:=an hc
   injection hc with hc; subst hc
   refine ⟨by simp [fu,hf,hbody,hname],fun j w vs hr hG hlen hv=>?_⟩
   obtain ⟨o,ho,hfin⟩:=au h
   simp only at hl
   refine calls_of_wp hf hbody ?_
   have hsz:(vs++Array.replicate (func.ntmps-vs.size) undef).size=A.n:=by simp; omega
   have he:aL j M w (fh 0 args) { tmps:=vs++Array.replicate (func.ntmps-vs.size) undef,defers:=[] }:=by
    refine ⟨fun t=>?_,hG⟩
    rw [sk,if_pos (Nat.zero_le _),Nat.sub_zero]
    rcases Nat.lt_or_ge t args.length with ht|ht
    ·have h1:=List.getElem?_eq_getElem ht
     have hlt:t<vs.size:=by omega
     have h2:=Array.getElem?_eq_getElem hlt
     rw [h1]
     have h3:=hv t _ _ h1 h2
     have:(vs++Array.replicate (func.ntmps-vs.size) undef).getD t undef=vs[t]:=by
      simp [Array.getD_eq_getD_getElem?,Array.getElem?_append_left hlt,h2]
     rw [this]
     exact h3
    ·rw [List.getElem?_eq_none ht]; exact .any _
   refine wp_mono (wpIn_wide.1 (eZ (rd:=none) (nd:=0) hmix hC c hb ho hr hG he hsz)) ?_
   rintro e a' w' ⟨he1,hs1,hd1,j1,r1,e1,x1⟩
   by_cases hpan:∃u,o.e = .fK u
   ·obtain ⟨u,hu⟩:=hpan
    rw [hu] at he1; subst he1
    simp only [finish,hu] at hfin
    injection hfin with hfin; subst hfin
    exact ⟨hd1,.inr ⟨u,rfl,rfl,j1,qF x1.len r1,nN x1.len rfl x1⟩⟩
   have hno:∀i,o.e ≠ .exit i:=by
    intro i hi
    simp [finish,hi] at hfin
   have hfin':aF (j9 o.env o.mem rs) (fun l=>some ((one l).eX M.length o.mem,eW M.length o.mem))=some x:=by
    unfold finish at hfin
    split at hfin
    ·rename_i i hi; exact absurd hi (hno i)
    ·rename_i u hu; exact absurd ⟨u,hu⟩ hpan
    ·exact hfin
   obtain ⟨l,hl',hfin'⟩:=au hfin'
   injection hfin' with hfin'; subst hfin'
   obtain ⟨us,u1,u2,u3⟩:=uw (P:=P) r1 e1 hrs hl'
   have hbase:M.length<=o.mem.length:=x1.len
   have hres:(results func a'.tmps).run P w' = .ok (if h:us.toArray.size=1 then us.toArray[0] else .tuple us.toArray) w':=by
    unfold results
    rw [Array.mapM_eq_mapM_toList,Sem.run_bind,Sem.run_map]
    refine Eq.trans (congrArg (fun r:Result (List Value)=>Result.andThen (r.andThen fun a w' => .ok a.toArray w') _) (Eq.trans ?_ u1)) rfl
    rfl
   have hone:bQ j1 o.mem w' (one l) (if h:us.toArray.size=1 then us.toArray[0] else .tuple us.toArray):=by
    exact DS u2 u3
   have hfinal:∃v,(results func a'.tmps).run P w' = .ok v w'/\mQ j M w ((one l).eX M.length o.mem,eW M.length o.mem) (.returned v) w' :=
    ⟨_,hres,.inl ⟨_,rfl,j1,qF hbase r1,nN hbase rfl x1,wG hbase r1 hone⟩⟩
   cases hoe:o.e with
   |exit i=>exact absurd hoe (hno i)
   |fK u=>exact absurd ⟨u,hoe⟩ hpan
   |normal=>rw [hoe] at he1; subst he1; exact ⟨hd1,hfinal⟩
   |ret=>rw [hoe] at he1; subst he1; exact ⟨hd1,hfinal⟩
  ·cases hc
structure nL (P:Program) (T:qm):Prop where
 code:∀f fn,T.code f=some fn->∃A func,P.funcs[f]?=some func/\jv P A func=some fn
 fT:∀f g,T.fT f=some g->∀args M x,g args M=some x->fu P f=true/\ba P f args M x
def qt (hmix:P.follows .mixedOrders=true) {T:qm} (hT:nL P T):∀n,hU P (dz T n)
 |0,f,args,M,x,h=>by
  unfold dz at h
  split at h
  ·rename_i g hg; exact hT.fT f g hg args M x h
  ·cases h
 |n+1,f,args,M,x,h=>by
  rw [dz] at h
  split at h
  ·rename_i g hg; exact hT.fT f g hg args M x h
  ·split at h
   ·cases h
   ·rename_i fn hfn
    split at h
    ·rename_i hl
     obtain ⟨A,func,h1,h2⟩:=hT.code f fn hfn
     exact Iv hmix (qt hmix hT n) h1 h2 hl h
    ·cases h
def lq (hmix:P.follows .mixedOrders=true) {T:qm} (hT:nL P T):hU P (ai T):=fun f args M x h=>by
 obtain ⟨n,hn⟩:=na h
 exact qt hmix hT n f args M x hn
end
section
variable {j:J} {M:ag} {w w':World}
def fX (b:Nat):∀(l:List Value) (o:Nat) (w:World),w.setCells b o l=gF w b o l
 | [],_,_=>rfl
 |v::r,o,w=>by rw [World.setCells,gF,fX b r]
end
noncomputable def fg (sz bytes:Nat):List ae->ag->Option (ae×ag)
 | [.slice _ xs],M=>match xs with
  | []=>some (.slice .c0 [],M)
  |x::r=>aV (wid (x::r) sz/\bB (x::r).length bytes) (some (.aZ M.length 0 sz 0 (x::r).length,M++[.arr sz 0 (x::r)]))
 |_,_=>none
noncomputable def AQ (sz bytes:Nat):List ae->ag->Option (ae×ag)
 | [.slice _ xs],M=>aV (wid xs sz/\bB xs.length bytes) (some (.slice .sh xs,M))
 |_,_=>none
noncomputable def jH (sz bytes:Nat):List ae->ag->Option (ae×ag)
 | [.slice _ xs],M=>aV (wid xs sz/\bB xs.length bytes) (some (.slice (.own M.length) xs,M++[.tick sz xs.length]))
 |_,_=>none
noncomputable def eB (sz:Nat):List ae->ag->Option (ae×ag)
 | [.aZ id ver sz' lo hi,.int .i64 i,.int .i64 i'],M=>match nth M id with
  |some (.arr sz0 v xs)=>aV (v=ver/\sz'=sz/\lo=0/\hi=xs.length/\0<=i/\i.toNat<xs.length/\i'=i+1/\xs.length<=2 ^ 44)
    (some (.aZ id (ver+1) sz 0 (xs.length-1),cS M id (.arr sz0 (ver+1) (xs.take i.toNat++xs.drop (i.toNat+1)))))
  |_=>none
 |_,_=>none
noncomputable def ef (sz bytes:Nat):List ae->ag->Option (ae×ag)
 | [.aZ id ver sz' lo hi,.int .i64 i,.slice _ [e]],M=>match nth M id with
  |some (.arr sz0 v xs)=>aV (v=ver/\sz'=sz/\lo=0/\hi=xs.length/\0<=i/\i.toNat<=xs.length/\e.cells.length=sz/\bB (xs.length+1) bytes)
    (some (.aZ id (ver+1) sz 0 (xs.length+1),cS M id (.arr sz0 (ver+1) (xs.take i.toNat++e::xs.drop i.toNat))))
  |_=>none
 | [.slice .c0 [],.int .i64 i,.slice _ [e]],M=>aV (i=0/\e.cells.length=sz) (some (.aZ M.length 0 sz 0 1,M++[.arr sz 0 [e]]))
 |_,_=>none
def qq (P:Program) (f:Nat) (E:TypeId) (sz bytes:Nat):Prop:=∀(b off n c:Nat) (news:List Value) (w:World),news.length=n*sz->n<=maxLen->n*bytes<=140737488355328->(∀j u,news[j]?=some u->w.cell? ⟨b,off+j,none⟩=some u)->(∀u∈news,u.oneCell'=true) ->
 Calls P f #[.slice (some ⟨b,off,none⟩) n c] w fun e w'=>∃v',e = .returned v'/\w'.ownsRow w.heap.size E sz v' n news/\v' ≠ .slice none 0 0/\Below w.heap.size w w'
def nI (P:Program) (f:Nat):Prop:=∀(A:Option Addr) (c:Nat) (w:World),Calls P f #[.slice A 0 c] w fun e w'=>(∃B,e = .returned (.slice B 0 0))/\Below w.heap.size w w'
def Pa (P:Program) (f sz:Nat) (z:List Value):Prop:=∀(blk cap i i' n:Nat) (cs:List Value) (w:World),cs.length=n*sz->n<=cap->n<=9223372036854775807->i<n->i'=i+1 ->
 (∀p v,cs[p]?=some v->w.cell? ⟨blk,p,none⟩=some v/\w.frozen? ⟨blk,p,none⟩=false/\v.oneCell'=true) ->
 Calls P f #[.slice (some ⟨blk,0,none⟩) n cap,.int .i64 i,.int .i64 i'] w fun e w'=>e = .returned (.slice (some ⟨blk,0,none⟩) (n-1) cap) /\
  w'=(w.drew.setCells blk (i*sz) (cs.drop (i'*sz))).setCells blk ((n-1)*sz) z
def oM (sz:Nat) (w:World) (b:Nat) (row:Array Value) (t:TypeId) (n i:Nat) (cs vs:List Value) (e:Ending) (w':World):Prop :=
 ∃b' cap' row' t',e = .returned (.slice (some ⟨b',0,none⟩) (n+1) cap')/\n+1<=cap'/\w'.heap[b']?=some (.cells row' t' (0,0))/\cap'*sz<=row'.size /\
  (∀p,p<(n+1)*sz->row'[p]?=(cs.take (i*sz)++(vs++cs.drop (i*sz)))[p]?)/\Quiet w w' /\
  ((b'=b/\t'=t/\row'.size=row.size/\∀b0,b0≠b->b0<w.heap.size->w'.heap[b0]?=w.heap[b0]?)\/(w.heap.size<=b'/\∀b0,b0<w.heap.size->w'.heap[b0]?=w.heap[b0]?))
def Gu (P:Program) (f sz bytes:Nat):Prop:=∀(b n c i vb voff vc:Nat) (cs vs:List Value) (w:World) (row:Array Value) (t:TypeId),i<=n->n<=c->(n+1)*bytes<=140737488355328->n+1<=9223372036854775807->vb≠b->cs.length=n*sz->vs.length=sz->w.heap[b]?=some (.cells row t (0,0))->c*sz<=row.size ->
 (∀(p:Nat) (v:Value),cs[p]?=some v->row[p]?=some v)->(∀(p:Nat) (v:Value),vs[p]?=some v->w.cell? ⟨vb,voff+p,none⟩=some v)->(∀v∈cs,v.oneCell'=true)->(∀v∈vs,v.oneCell'=true) ->
 Calls P f #[.slice (some ⟨b,0,none⟩) n c,.int .i64 i,.slice (some ⟨vb,voff,none⟩) 1 vc] w (oM sz w b row t n i cs vs)
def Gv (P:Program) (f sz:Nat):Prop:=∀(A:Option Addr) (vb voff vc:Nat) (vs:List Value) (w:World) (row:Array Value),vs.length=sz->(∀(p:Nat) (v:Value),vs[p]?=some v->w.cell? ⟨vb,voff+p,none⟩=some v)->(∀v∈vs,v.oneCell'=true) ->
 Calls P f #[.slice A 0 0,.int .i64 0,.slice (some ⟨vb,voff,none⟩) 1 vc] w fun e w'=>oM sz w w.heap.size row 0 0 0 [] vs e w'
section
variable {P:Program} {f:Nat} {sz bytes:Nat} {E:TypeId}
def v8 {α:Type} {vs:Array α} {p q r:ae} (h:[p,q,r].length=vs.size):∃a b c,vs = #[a,b,c]:=by
 obtain ⟨l⟩:=vs
 match l,h with
 | [a,b,c],_=>exact ⟨a,b,c,rfl⟩
def uu {α:Type} {vs:Array α} {p:ae} (h:[p].length=vs.size):∃a,vs = #[a]:=by
 obtain ⟨l⟩:=vs
 match l,h with
 | [a],_=>exact ⟨a,rfl⟩
def bQ.oC {j:J} {M:ag} {w:World} {tk:Tk} {xs:List ae} {v:Value} (h:bQ j M w (.slice tk xs) v):bF w (fJ j M w) (.slice .sh xs) v:=h.bg
def jN (hsz:0<sz) (hby:bytes*8<=2 ^ 20/\0<bytes)
  (hC:qq P f E sz bytes) (h0:nI P f)
  {args:List ae} {M:ag} {x:ae×ag} (h:fg sz bytes args M=some x):ba P f args M x:=by
 unfold fg at h
 split at h
 ·refine fL.call ?_
  intro j w vs hr hG hl hv
  obtain ⟨u,rfl⟩:=uu hl
  have h1:=(hv 0 _ u rfl rfl).oC
  split at h
  ·injection h with h; subst h
   obtain ⟨A,cap,rfl,_,_⟩:=gz (size:=sz) h1 (fun y hy=>by cases hy)
   refine (h0 A cap w).mono ?_
   rintro e w' ⟨⟨B,rfl⟩,hb⟩
   exact ⟨_,j,rfl,hr.grow hb.size hb.os hb.tape hb.output hb.block,Ext.grow hb.size hb.os hb.tape hb.output hb.block,.c0 _⟩
  ·rename_i y r
   obtain ⟨⟨hw,hroom⟩,h⟩:=aP h
   injection h with h; subst h
   obtain ⟨A,cap,rfl,hcap,h2⟩:=gz h1 hw
   obtain ⟨b,off,rfl,us,hrl,hul,hone,hcell⟩:=h2.resolve_left (by simp)
   unfold bB at hroom
   have hle:(y::r).length<=2 ^ 44:=Nat.le_trans (Nat.le_mul_of_pos_right _ hby.2) hroom
   refine (hC b off (y::r).length cap us w hul (by unfold maxLen; omega) (by omega) (fun p u hp=>(hcell p u hp).1) hone).mono ?_
   rintro e w' ⟨v',rfl,⟨_,hown⟩,hnn,hb⟩
   obtain ⟨g,cap',cur,rfl,hg,hg',hn1,_,hcs,htk⟩:=hown.resolve_left (fun h=>hnn h.1)
   have q:Quiet w w':=⟨hb.size,hb.os,hb.tape,hb.output⟩
   have hob:∀b,some g=some b->w.heap.size<=b/\b<w'.heap.size:=fun b h=>by injection h with h; subst h; exact ⟨hg,lt_of_block hg'⟩
   have hcl:∀p,p<us.length->cur[p]?=us[p]?:=fun p hp=>by
    rw [<-htk,List.getElem?_take_of_lt (by rw [<-hul]; exact hp)]; simp
   have ext:Ext j M w (bX j M.length (some g)) (M++[.arr sz 0 (y::r)]) w':=Ext.push (fun b h=>(hob b h).1) q hb.block
   refine ⟨_,bX j M.length (some g),rfl,hr.push hob q hb.block (fun h=>by cases h) (fun sz n b h _=>by cases h) (fun sz0 v0 xs0 he=>?_),ext,?_⟩
   ·injection he with e1 e2 e3
    subst e1; subst e3
    have hat:∀j' M',Ext j M w j' M' w'->yY j' M' w' g sz (y::r):=fun j' M' hx=>fE hg' hw (hrl.mono hx.cu) hcl
    refine .inr ⟨g,cur,E,rfl,hg',by rw [hcs]; exact Nat.mul_le_mul_right _ hn1,hw,fun j' M' hx q x k c hx' hk=>?_⟩
    obtain ⟨vs,t,a1,a2,a3,a4⟩:=hat j' M' hx
    rw [hg'] at a1; injection a1 with a1; injection a1 with a1 a1'
    subst a1
    exact a4 q x k c hx' hk
   ·refine .aZ (.inl ⟨g,0,cap',rfl,by omega⟩) (by simp) (fun bx hbx=>by rw [fZ] at hbx; injection hbx with hbx; subst hbx; rfl) fun sz' v' xs hx=>?_
    rw [fZ] at hx; injection hx with hx; injection hx with e1 e2 e3
    subst e1; subst e2; subst e3
    exact ⟨Nat.le_refl _,fun _=>⟨rfl,Nat.zero_le _,Nat.le_refl _,.inr ⟨g,cap',cur,E,by simp [bX],by simp,by omega,hg',by rw [Nat.zero_add]; omega⟩⟩⟩
 ·cases h
def BZ (hsz:0<sz) (hby:bytes*8<=2 ^ 20/\0<bytes)
  (hC:qq P f E sz bytes) (h0:nI P f)
  {args:List ae} {M:ag} {x:ae×ag} (h:AQ sz bytes args M=some x):ba P f args M x:=by
 unfold AQ at h
 split at h
 ·rename_i tk xs
  refine fL.call ?_
  intro j w vs hr hG hl hv
  obtain ⟨u,rfl⟩:=uu hl
  have h1:=(hv 0 _ u rfl rfl).oC
  obtain ⟨⟨hw,hroom⟩,h⟩:=aP h
  injection h with h; subst h
  obtain ⟨A,cap,rfl,hcap,h2⟩:=gz h1 hw
  rcases h2 with rfl|⟨b,off,rfl,us,hrl,hul,hone,hcell⟩
  ·refine (h0 A cap w).mono ?_
   rintro e w' ⟨⟨B,rfl⟩,hb⟩
   exact ⟨_,j,rfl,hr.grow hb.size hb.os hb.tape hb.output hb.block,Ext.grow hb.size hb.os hb.tape hb.output hb.block,.plain (bF.nil _ _ _)⟩
  ·unfold bB at hroom
   have hle:xs.length<=2 ^ 44:=Nat.le_trans (Nat.le_mul_of_pos_right _ hby.2) hroom
   refine (hC b off xs.length cap us w hul (by unfold maxLen; omega) (by omega) (fun p u hp=>(hcell p u hp).1) hone).mono ?_
   rintro e w' ⟨v',rfl,⟨_,hown⟩,hnn,hb⟩
   obtain ⟨g,cap',cur,rfl,hg,hg',hn1,_,hcs,htk⟩:=hown.resolve_left (fun h=>hnn h.1)
   have ext:Ext j M w j M w':=Ext.grow hb.size hb.os hb.tape hb.output hb.block
   refine ⟨_,j,rfl,hr.grow hb.size hb.os hb.tape hb.output hb.block,ext,.plain ?_⟩
   have hcl:∀p,p<us.length->cur[p]?=us[p]?:=fun p hp=>by
    rw [<-htk,List.getElem?_take_of_lt (by rw [<-hul]; exact hp)]; simp
   obtain ⟨vs,t,a1,a2,a3,a4⟩:=fE (j':=j) (M':=M) hg' hw (hrl.mono ext.cu) hcl
   rw [hg'] at a1; injection a1 with a1; injection a1 with a1 a1'
   subst a1
   have:=oT (lo:=0) (hi:=xs.length) (cap:=cap') (saf':=fJ j M w') hg' a3 a4 (fun b off h=>h) (fun off ho=>⟨lt_of_block hg',fun id hid hji=>by have:=hr.lt id g hid hji; omega,fun hx=>by have:=hr.qo g off hx; omega⟩) (Nat.zero_le _) (Nat.le_refl _) (by omega)
   simpa using this
 ·cases h
def qS (hsz:0<sz) (hby:bytes*8<=2 ^ 20/\0<bytes)
  (hC:qq P f E sz bytes) (h0:nI P f)
  {args:List ae} {M:ag} {x:ae×ag} (h:jH sz bytes args M=some x):ba P f args M x:=by
 unfold jH at h
 split at h
 ·rename_i tk xs
  refine fL.call ?_
  intro j w vs hr hG hl hv
  obtain ⟨u,rfl⟩:=uu hl
  have h1:=(hv 0 _ u rfl rfl).oC
  obtain ⟨⟨hw,hroom⟩,h⟩:=aP h
  injection h with h; subst h
  obtain ⟨A,cap,rfl,hcap,h2⟩:=gz h1 hw
  rcases h2 with rfl|⟨b,off,rfl,us,hrl,hul,hone,hcell⟩
  ·refine (h0 A cap w).mono ?_
   rintro e w' ⟨⟨B,rfl⟩,hb⟩
   have q:Quiet w w':=⟨hb.size,hb.os,hb.tape,hb.output⟩
   refine ⟨_,bX j M.length none,rfl,hr.push (fun b h=>by cases h) q hb.block (fun h=>by cases h) (fun _ _ _ _ h=>by cases h),Ext.push (fun b h=>by cases h) q hb.block,?_⟩
   refine .own (fZ ..) (Nat.le_refl _) (bF.nil _ _ _) fun _ => .inl ⟨by simp [bX],rfl,B,rfl⟩
  ·unfold bB at hroom
   have hle:xs.length<=2 ^ 44:=Nat.le_trans (Nat.le_mul_of_pos_right _ hby.2) hroom
   refine (hC b off xs.length cap us w hul (by unfold maxLen; omega) (by omega) (fun p u hp=>(hcell p u hp).1) hone).mono ?_
   rintro e w' ⟨v',rfl,⟨_,hown⟩,hnn,hb⟩
   obtain ⟨g,cap',cur,rfl,hg,hg',hn1,_,hcs,htk⟩:=hown.resolve_left (fun h=>hnn h.1)
   have q:Quiet w w':=⟨hb.size,hb.os,hb.tape,hb.output⟩
   have hob:∀b,some g=some b->w.heap.size<=b/\b<w'.heap.size:=fun b h=>by injection h with h; subst h; exact ⟨hg,lt_of_block hg'⟩
   have ext:Ext j M w (bX j M.length (some g)) (M++[.tick sz xs.length]) w':=Ext.push (fun b h=>(hob b h).1) q hb.block
   refine ⟨_,bX j M.length (some g),rfl,hr.push hob q hb.block (fun h=>by cases h) (fun _ _ b _ h=>by injection h with h; subst h; exact ⟨_,_,hg'⟩),ext,?_⟩
   have hcl:∀p,p<us.length->cur[p]?=us[p]?:=fun p hp=>by
    rw [<-htk,List.getElem?_take_of_lt (by rw [<-hul]; exact hp)]; simp
   obtain ⟨vs,t,a1,a2,a3,a4⟩:=fE (j':=bX j M.length (some g)) (M':=M++[.tick sz xs.length]) hg' hw (hrl.mono ext.cu) hcl
   rw [hg'] at a1; injection a1 with a1; injection a1 with a1 a1'
   subst a1
   have:=oT (lo:=0) (hi:=xs.length) (cap:=cap') (saf':=fJ (bX j M.length (some g)) (M++[.tick sz xs.length]) w') hg' a3 a4 (fun b off h=>h) (fun off ho=>⟨lt_of_block hg',fun id hid hji=>by
    rcases Nat.lt_or_ge id M.length with hid'|hid'
    ·have hj:j id=some g:=by simpa [bX,Nat.ne_of_lt hid'] using hji
     have:=hr.lt id g hid' hj; omega
    ·have e:id=M.length:=by simp at hid; omega
     subst e
     exact ⟨sz,xs.length,fZ ..,ho⟩,fun hx=>by have:=hr.qo g off hx; omega⟩) (Nat.zero_le _) (Nat.le_refl _) (by omega)
   refine .own (fZ ..) (Nat.le_refl _) (by simpa using this) fun _ => .inr ⟨g,cap',cur,E,by simp [bX],by simp,hg',by omega,by omega⟩
 ·cases h
noncomputable def S7 (sz bytes:Nat) (args:List ae):ag->Option (ae×ag)
 | []=>AQ sz bytes args []
 |b::M=>fg sz bytes args (b::M)
def GJ (hsz:0<sz) (hby:bytes*8<=2 ^ 20/\0<bytes)
  (hC:qq P f E sz bytes) (h0:nI P f)
  {args:List ae} {M:ag} {x:ae×ag} (h:S7 sz bytes args M=some x):ba P f args M x:=by
 cases M with
 |nil=>exact BZ hsz hby hC h0 h
 |cons b M=>exact jN hsz hby hC h0 h
def kg (hsz:0<sz) {z:List Value} (hz:z.length=sz)
  (hD:Pa P f sz z)
  {args:List ae} {M:ag} {x:ae×ag} (h:eB sz args M=some x):ba P f args M x:=by
 unfold eB at h
 split at h
 ·rename_i id ver sz' lo hi i i'
  rw [bE] at h
  split at h
  ·rename_i sz0 v0 xs hM
   obtain ⟨hc,h⟩:=aP h
   injection h with h; subst h
   obtain ⟨rfl,rfl,rfl,rfl,hi0,hin,rfl,hbig⟩:=hc
   refine fL.call ?_
   intro j w vs hr hG hl hv
   obtain ⟨u1,u2,u3,rfl⟩:=v8 hl
   have h2:=(hv 1 _ u2 rfl rfl).bH
   have h3:=(hv 2 _ u3 rfl rfl).bH
   subst h2; subst h3
   obtain ⟨_,hid,_,g⟩:=(hv 0 _ u1 rfl rfl).gm
   obtain ⟨e1,_,_,⟨rfl,l3,B,rfl⟩|⟨b,cap,row,t0,l3,l4,l5,l6,l7⟩⟩:=(g sz0 v0 xs hM).2 rfl
   ·exact absurd hin (by simp)
   subst e1; subst l4
   obtain ⟨b',row',t',k1,k2,k3,k4,k5⟩:=hr.qw hM l3
   rw [l3] at k1; injection k1 with k1; subst k1
   rw [l6] at k2; injection k2 with k2; injection k2 with k2 k2'
   subst k2; subst k2'
   have hrow:=oS (b:=b) k3 k4 k5
   rw [Nat.sub_zero] at l5
   rw [Nat.zero_add] at l7
   generalize hcs:row.toList.take (xs.length*sz0)=cs at hrow
   have hcl:cs.length=xs.length*sz0:=by rw [<-hcs]; simp; omega
   have hat:∀p v,cs[p]?=some v->row[p]?=some v:=fun p v hp=>by
    have hlt:p<xs.length*sz0:=by rw [<-hcl]; exact aj hp
    rw [<-hcs,List.getElem?_take_of_lt hlt] at hp; simpa using hp
   obtain ⟨m,rfl⟩:∃m:Nat,i=m:=⟨i.toNat,(Int.toNat_of_nonneg (by assumption)).symm⟩
   simp only [Int.toNat_natCast] at hin ⊢
   have e0:((m:Int)+1)=((m+1:Nat):Int):=rfl
   rw [Nat.sub_zero,Nat.zero_mul,e0]
   refine (hD b cap m (m+1) xs.length cs w hcl l5 (by omega) hin rfl (fun p v hp=>⟨by simp [World.cell?,l6,hat p v hp],by simp [World.frozen?,l6],?_⟩)).mono ?_
   ·have hp':p<(dD xs).length:=by rw [hrow.1]; exact aj hp
    exact bF.one (hrow.2 p _ v (List.getElem?_eq_getElem hp') hp)
   ·rintro e w' ⟨rfl,hw'⟩
    rw [fX,fX] at hw'
    have hl1:(cs.drop ((m+1)*sz0)).length=(xs.length-(m+1))*sz0:=by rw [List.length_drop,hcl,Nat.sub_mul]
    have ha1:(m+1)*sz0=m*sz0+sz0:=by rw [Nat.add_mul,Nat.one_mul]
    have ha2:(xs.length-(m+1))*sz0=xs.length*sz0-(m*sz0+sz0):=by rw [Nat.sub_mul,ha1]
    have ha3:(xs.length-1)*sz0=xs.length*sz0-sz0:=by rw [Nat.sub_mul,Nat.one_mul]
    have ha4:m*sz0+sz0<=xs.length*sz0:=by rw [<-ha1]; exact Nat.mul_le_mul_right _ hin
    have hd:w.drew.heap=w.heap:=rfl
    obtain ⟨s1,s2,s3,s4,s5,r1,s6,s7,s8,s9⟩:=eT (t:=t0) (cs.drop ((m+1)*sz0)) w.drew (m*sz0) row (by rw [hd]; exact l6) (by rw [hl1]; omega)
    obtain ⟨q1,q2,q3,q4,q5,r2,q6,q7,q8,q9⟩:=eT (t:=t0) z _ ((xs.length-1)*sz0) r1 s6 (by rw [hz,s7]; omega)
    rw [<-hw'] at q1 q2 q3 q4 q5 q6
    have hwd:wid (xs.take m++xs.drop (m+1)) sz0:=fH (mN k4) (mM k4)
    have dH:RL w (fJ j M w) (dD (xs.take m++xs.drop (m+1))) (cs.take (m*sz0)++cs.drop ((m+1)*sz0)):=by
     rw [gh,jx m k4,kM (m+1) k4]
     exact (hrow.take _).append (hrow.drop _)
    have htk:(cs.take (m*sz0)).length=m*sz0:=by rw [List.length_take,hcl]; omega
    have hput:=oQ (ver':=v0+1) (xs':=xs.take m++xs.drop (m+1)) hr hM l3 (w':=w') ⟨by rw [q1,s1]; exact Nat.le_refl _,q2.trans s2,q3.trans s3,q4.trans s4⟩ (fun b' hb' _=>(q5 b' hb').trans (s5 b' hb')) l6 q6 (q7.trans s7) (by omega) (fun h=>by omega) hwd dH (fun p hp=>by
     rw [List.length_append,htk,hl1] at hp
     rw [q8 p (.inl (by omega))]
     rcases Nat.lt_or_ge p (m*sz0) with c1|c1
     ·rw [s8 p (.inl c1),List.getElem?_append_left (by rw [htk]; exact c1),List.getElem?_take_of_lt c1]
      have hp1:p<cs.length:=by omega
      rw [hat p _ (List.getElem?_eq_getElem hp1),List.getElem?_eq_getElem hp1]
     ·rw [List.getElem?_append_right (by rw [htk]; exact c1),htk]
      have:=s9 (p-m*sz0) (by rw [hl1]; omega)
      rw [Nat.add_sub_cancel' c1] at this
      exact this)
    rw [cd]
    refine ⟨_,j,rfl,hput.1,hput.2,.aZ (.inl ⟨b,0,cap,rfl,by omega⟩) (by simpa using hid) (fun bx hbx=>by rw [aU (aj hM)] at hbx; injection hbx with hbx; subst hbx; rfl) fun sz' v' ys hx=>?_⟩
    rw [aU (aj hM)] at hx; injection hx with hx; injection hx with e1 e2 e3
    subst e1; subst e2; subst e3
    exact ⟨Nat.le_refl _,fun _=>⟨rfl,Nat.zero_le _,by simp; omega,.inr ⟨b,cap,r2,t0,l3,by simp,by omega,q6,by rw [Nat.zero_add,q7,s7]; exact l7⟩⟩⟩
  ·cases h
 ·cases h
end
section
variable {sz:Nat} {w:World} {b n c i:Nat} {row:Array Value} {t:TypeId} {cs vs:List Value} {e:Ending} {w':World}
def jq (w:World) (o:Obj):(w.alloc o).heap=w.heap.push o:=rfl
def kC (w:World):w.drew.heap=w.heap:=rfl
def tZ {A B C:List Value} {p:Nat}:(A++(B++C))[p]?=if p<A.length then A[p]? else if p<A.length+B.length then B[p-A.length]? else C[p-A.length-B.length]?:=by
 split
 ·rw [List.getElem?_append_left (by assumption)]
 ·rw [List.getElem?_append_right (by omega)]
  split
  ·rw [List.getElem?_append_left (by omega)]
  ·rw [List.getElem?_append_right (by omega)]
def Fb (hi:i<n) (hroom:n+1<=c) (hcl:cs.length=n*sz) (hvl:vs.length=sz) (hw:w.heap[b]?=some (.cells row t (0,0))) (hrow:c*sz<=row.size) (hat:∀(p:Nat) (v:Value),cs[p]?=some v->row[p]?=some v)
  (he:e = .returned (.slice (some ⟨b,0,none⟩) (n+1) c)) (hw':w'=(w.drew.setCells b ((i+1)*sz) (cs.drop (i*sz))).setCells b (i*sz) vs):oM sz w b row t n i cs vs e w':=by
 have a1:(i+1)*sz=i*sz+sz:=by rw [Nat.add_mul,Nat.one_mul]
 have a2:(n+1)*sz=n*sz+sz:=by rw [Nat.add_mul,Nat.one_mul]
 have a3:i*sz+sz<=n*sz:=by rw [<-a1]; exact Nat.mul_le_mul_right _ hi
 have a4:(n+1)*sz<=row.size:=Nat.le_trans (Nat.mul_le_mul_right _ hroom) hrow
 have hdl:(cs.drop (i*sz)).length=n*sz-i*sz:=by rw [List.length_drop,hcl]
 rw [fX,fX] at hw'
 obtain ⟨s1,s2,s3,s4,s5,r1,s6,s7,s8,s9⟩:=eT (t:=t) (cs.drop (i*sz)) w.drew ((i+1)*sz) row hw (by omega)
 obtain ⟨q1,q2,q3,q4,q5,r2,q6,q7,q8,q9⟩:=eT (t:=t) vs _ (i*sz) r1 s6 (by omega)
 rw [<-hw'] at q1 q2 q3 q4 q5 q6
 have htk:(cs.take (i*sz)).length=i*sz:=by rw [List.length_take,hcl]; omega
 refine ⟨b,c,r2,t,he,hroom,q6,by rw [q7,s7]; exact hrow,fun p hp=>?_,⟨by rw [q1,s1]; exact Nat.le_refl _,q2.trans s2,q3.trans s3,q4.trans s4⟩,.inl ⟨rfl,rfl,q7.trans s7,fun b0 h0 _=>(q5 b0 h0).trans (s5 b0 h0)⟩⟩
 rw [tZ,htk,hvl]
 split
 ·rename_i c1
  rw [q8 p (.inl c1),s8 p (.inl (by omega)),List.getElem?_take_of_lt c1]
  have hp1:p<cs.length:=by omega
  rw [hat p _ (List.getElem?_eq_getElem hp1),List.getElem?_eq_getElem hp1]
 ·rename_i c1
  split
  ·have:=q9 (p-i*sz) (by omega)
   rwa [Nat.add_sub_cancel' (by omega)] at this
  ·rw [q8 p (.inr (by omega))]
   have:=s9 (p-(i+1)*sz) (by omega)
   rw [Nat.add_sub_cancel' (by omega)] at this
   rw [this]; congr 1; omega
def IL (hroom:n+1<=c) (hcl:cs.length=n*sz) (hvl:vs.length=sz) (hw:w.heap[b]?=some (.cells row t (0,0))) (hrow:c*sz<=row.size) (hat:∀(p:Nat) (v:Value),cs[p]?=some v->row[p]?=some v)
  (he:e = .returned (.slice (some ⟨b,0,none⟩) (n+1) c)) (hw':w'=w.setCells b (n*sz) vs):oM sz w b row t n n cs vs e w':=by
 have a2:(n+1)*sz=n*sz+sz:=by rw [Nat.add_mul,Nat.one_mul]
 have a4:(n+1)*sz<=row.size:=Nat.le_trans (Nat.mul_le_mul_right _ hroom) hrow
 rw [fX] at hw'
 obtain ⟨q1,q2,q3,q4,q5,r2,q6,q7,q8,q9⟩:=eT (t:=t) vs w (n*sz) row hw (by omega)
 rw [<-hw'] at q1 q2 q3 q4 q5 q6
 refine ⟨b,c,r2,t,he,hroom,q6,by rw [q7]; exact hrow,fun p hp=>?_,⟨by rw [q1]; exact Nat.le_refl _,q2,q3,q4⟩,.inl ⟨rfl,rfl,q7,fun b0 h0 _=>q5 b0 h0⟩⟩
 rw [<-hcl,List.take_length,List.drop_length,List.append_nil]
 rcases Nat.lt_or_ge p cs.length with c1|c1
 ·rw [q8 p (.inl (by omega)),List.getElem?_append_left c1,hat p _ (List.getElem?_eq_getElem c1),List.getElem?_eq_getElem c1]
 ·rw [List.getElem?_append_right c1]
  have:=q9 (p-n*sz) (by omega)
  rw [Nat.add_sub_cancel' (by omega)] at this
  rw [this,hcl]
def rj {z:Value} {E:TypeId} (hsz:0<sz) (hz:z.cells.size=sz) (hcl:cs.length=n*sz) (hvl:vs.length=sz) (hG:n+1<=c)
  (he:e = .returned (.slice (some ⟨w.heap.size,0,none⟩) (n+1) c)) (hw':w'=w.drew.alloc (.cells ((cs++vs).toArray++Builtin.zeroCells z.cells (c-(n+1))) E)):oM sz w b row t n n cs vs e w':=by
 have a2:(n+1)*sz=n*sz+sz:=by rw [Nat.add_mul,Nat.one_mul]
 have hzl:(Builtin.zeroCells z.cells (c-(n+1))).size=(c-(n+1))*sz:=by simp [Builtin.zeroCells,hz]
 have a3:c*sz=(n+1)*sz+(c-(n+1))*sz:=by rw [<-Nat.add_mul,Nat.add_sub_cancel' hG]
 subst hw'
 refine ⟨w.heap.size,c,(cs++vs).toArray++Builtin.zeroCells z.cells (c-(n+1)),E,he,hG,by rw [jq,kC]; simp,by simp [hzl,hcl,hvl]; omega,fun p hp=>?_,⟨by rw [jq,kC]; simp,rfl,rfl,rfl⟩,.inr ⟨Nat.le_refl _,fun b0 h0=>by rw [jq,kC]; simp [Array.getElem?_push,Nat.ne_of_lt h0]⟩⟩
 rw [Array.getElem?_append_left (by simp; omega),<-hcl,List.take_length,List.drop_length,List.append_nil]
 simp
def IK {z:Value} {E:TypeId} (hsz:0<sz) (hz:z.cells.size=sz) (hi:i<n) (hcl:cs.length=n*sz) (hvl:vs.length=sz) (hG:n+1<=c)
  (he:e = .returned (.slice (some ⟨w.heap.size,0,none⟩) (n+1) c))
  (hw':w'=(((w.alloc (.cells ((cs.take (i*sz)).toArray++Builtin.zeroCells z.cells (n+1-i)++Builtin.zeroCells z.cells (c-(n+1))) E)).drew.setCells w.heap.size (i*sz) vs).drew).setCells w.heap.size ((i+1)*sz) (cs.drop (i*sz))):oM sz w b row t n i cs vs e w':=by
 have a1:(i+1)*sz=i*sz+sz:=by rw [Nat.add_mul,Nat.one_mul]
 have a2:(n+1)*sz=n*sz+sz:=by rw [Nat.add_mul,Nat.one_mul]
 have a3:i*sz+sz<=n*sz:=by rw [<-a1]; exact Nat.mul_le_mul_right _ hi
 have hz1:(Builtin.zeroCells z.cells (n+1-i)).size=(n+1-i)*sz:=by simp [Builtin.zeroCells,hz]
 have hz2:(Builtin.zeroCells z.cells (c-(n+1))).size=(c-(n+1))*sz:=by simp [Builtin.zeroCells,hz]
 have a4:c*sz=(n+1)*sz+(c-(n+1))*sz:=by rw [<-Nat.add_mul,Nat.add_sub_cancel' hG]
 have a5:(n+1)*sz=i*sz+(n+1-i)*sz:=by rw [<-Nat.add_mul,Nat.add_sub_cancel' (by omega)]
 have htk:(cs.take (i*sz)).length=i*sz:=by rw [List.length_take,hcl]; omega
 have hdl:(cs.drop (i*sz)).length=n*sz-i*sz:=by rw [List.length_drop,hcl]
 generalize hR:(cs.take (i*sz)).toArray++Builtin.zeroCells z.cells (n+1-i)++Builtin.zeroCells z.cells (c-(n+1))=ROW at hw'
 have hRs:ROW.size=c*sz:=by rw [<-hR]; simp only [Array.size_append,hz1,hz2,List.size_toArray,htk]; omega
 have hR0:∀p,p<i*sz->ROW[p]?=cs[p]?:=fun p hp=>by
  rw [<-hR,Array.getElem?_append_left (by simp only [Array.size_append,hz1,List.size_toArray,htk]; omega),Array.getElem?_append_left (by simp only [List.size_toArray,htk]; exact hp)]
  simp [List.getElem?_take_of_lt hp]
 rw [fX,fX] at hw'
 have h0:((w.alloc (.cells ROW E)).drew).heap[w.heap.size]?=some (.cells ROW E (0,0)):=by rw [kC,jq]; simp
 obtain ⟨s1,s2,s3,s4,s5,r1,s6,s7,s8,s9⟩:=eT (t:=E) vs _ (i*sz) ROW h0 (by omega)
 obtain ⟨q1,q2,q3,q4,q5,r2,q6,q7,q8,q9⟩:=eT (t:=E) (cs.drop (i*sz)) (gF ((w.alloc (.cells ROW E)).drew) w.heap.size (i*sz) vs).drew ((i+1)*sz) r1 s6 (by omega)
 rw [<-hw'] at q1 q2 q3 q4 q5 q6
 have hpush:((w.alloc (.cells ROW E)).drew).heap.size=w.heap.size+1:=by rw [kC,jq]; simp
 refine ⟨w.heap.size,c,r2,E,he,hG,q6,by omega,fun p hp=>?_,⟨?_,q2.trans s2,q3.trans s3,q4.trans s4⟩,.inr ⟨Nat.le_refl _,fun b0 hb0=>?_⟩⟩
 ·rw [tZ,htk,hvl]
  split
  ·rename_i c1
   rw [q8 p (.inl (by omega)),s8 p (.inl c1),hR0 p c1,List.getElem?_take_of_lt c1]
  ·rename_i c1
   split
   ·rw [q8 p (.inl (by omega))]
    have:=s9 (p-i*sz) (by omega)
    rwa [Nat.add_sub_cancel' (by omega)] at this
   ·have:=q9 (p-(i+1)*sz) (by omega)
    rw [Nat.add_sub_cancel' (by omega)] at this
    rw [this]; congr 1; omega
 ·have e1:(gF ((w.alloc (.cells ROW E)).drew) w.heap.size (i*sz) vs).drew.heap.size=(gF ((w.alloc (.cells ROW E)).drew) w.heap.size (i*sz) vs).heap.size:=rfl
  omega
 ·rw [q5 b0 (by omega)]
  refine (s5 b0 (by omega)).trans ?_
  rw [kC,jq]; simp [Array.getElem?_push,Nat.ne_of_lt hb0]
end
def ki {P:Program} {f sz bytes:Nat} (hsz:0<sz) (hby:0<bytes)
  (hI:Gu P f sz bytes) (h0:Gv P f sz)
  {args:List ae} {M:ag} {x:ae×ag} (h:ef sz bytes args M=some x):ba P f args M x:=by
 unfold ef at h
 split at h
 ·rename_i id ver sz' lo hi i tk el
  rw [bE] at h
  split at h
  ·rename_i sz0 v0 xs hM
   obtain ⟨hc,h⟩:=aP h
   injection h with h; subst h
   obtain ⟨rfl,rfl,rfl,rfl,hi0,hin,hel,hroom⟩:=hc
   refine fL.call ?_
   intro j w vs hr hG hl hv
   obtain ⟨u1,u2,u3,rfl⟩:=v8 hl
   have h2:=(hv 1 _ u2 rfl rfl).bH
   subst h2
   have h3:=(hv 2 _ u3 rfl rfl).oC
   have hwe:wid [el] sz':=fun y hy=>by rw [List.mem_singleton.1 hy]; exact hel
   obtain ⟨A,vc,rfl,_,h4⟩:=gz h3 hwe
   obtain ⟨vb,voff,rfl,us,hrl,hul,hone,hcell⟩:=h4.resolve_left (by simp)
   obtain ⟨_,hid,_,g⟩:=(hv 0 _ u1 rfl rfl).gm
   obtain ⟨e1,_,_,⟨rfl,l3,B,rfl⟩|⟨b,cap,row,t0,l3,l4,l5,l6,l7⟩⟩:=(g sz0 v0 xs hM).2 rfl
   ·subst e1
    have hm0:i=0:=by simp at hin; omega
    subst hm0
    have hvl:us.length=sz0:=by simpa using hul
    refine (h0 B vb voff vc us w #[] hvl (fun p v hp=>(hcell p v hp).1) hone).mono ?_
    rintro e w' ⟨b',cap',row',t',rfl,d1,d2,d3,d4,q,d5⟩
    have hbk:w.heap.size<=b'/\∀b0,b0<w.heap.size->w'.heap[b0]?=w.heap[b0]?:=by
     rcases d5 with ⟨rfl,_,_,d7⟩|d5
     ·exact ⟨Nat.le_refl _,fun b0 hb0=>d7 b0 (Nat.ne_of_lt hb0) hb0⟩
     ·exact d5
    have hrel:=Rel.lN (ver':=v0+1) (xs':=[el]) hM hr q hbk.2 hbk.1 (lt_of_block d2) (by omega) (fun j' M' hx=>fE d2 hwe (hrl.mono hx.cu) (fun p hp=>by have:=d4 p (by omega); simpa using this))
    have hext:=Ext.lN (j:=j) (ver':=v0+1) (xs':=[el]) hM q hbk.2 hbk.1 (by omega)
    rw [cd]
    refine ⟨_,_,rfl,by simpa using hrel,by simpa using hext,.aZ (.inl ⟨b',0,cap',rfl,by simpa using d1⟩) (by simpa using hid) (fun bx hbx=>by rw [aU (aj hM)] at hbx; injection hbx with hbx; subst hbx; rfl) fun sz' v' ys hx=>?_⟩
    rw [aU (aj hM)] at hx; injection hx with hx; injection hx with e1 e2 e3
    subst e1; subst e2; subst e3
    exact ⟨Nat.le_refl _,fun _=>⟨rfl,Nat.zero_le _,by simp,.inr ⟨b',cap',row',t',by simp [bX],by simp,by simpa using d1,d2,by rw [Nat.zero_add]; exact d3⟩⟩⟩
   subst e1; subst l4
   obtain ⟨b',row',t',k1,k2,k3,k4,k5⟩:=hr.qw hM l3
   rw [l3] at k1; injection k1 with k1; subst k1
   rw [l6] at k2; injection k2 with k2; injection k2 with k2 k2'
   subst k2; subst k2'
   have hrow:=oS (b:=b) k3 k4 k5
   rw [Nat.sub_zero] at l5
   rw [Nat.zero_add] at l7
   generalize hcs:row.toList.take (xs.length*sz0)=cs at hrow
   have hcl:cs.length=xs.length*sz0:=by rw [<-hcs]; simp; omega
   have hat:∀p v,cs[p]?=some v->row[p]?=some v:=fun p v hp=>by
    have hlt:p<xs.length*sz0:=by rw [<-hcl]; exact aj hp
    rw [<-hcs,List.getElem?_take_of_lt hlt] at hp; simpa using hp
   obtain ⟨m,rfl⟩:∃m:Nat,i=m:=⟨i.toNat,(Int.toNat_of_nonneg (by assumption)).symm⟩
   simp only [Int.toNat_natCast] at hin ⊢
   unfold bB at hroom
   have hbig:xs.length+1<=2 ^ 44:=Nat.le_trans (Nat.le_mul_of_pos_right _ hby) hroom
   have hvl:us.length=sz0:=by simpa using hul
   have hvb:vb≠b:=by
    rintro rfl
    obtain ⟨s,n,hs1,_⟩:=(hcell 0 _ (List.getElem?_eq_getElem (by omega))).2.ids id hid l3
    rw [hM] at hs1; cases hs1
   rw [Nat.sub_zero,Nat.zero_mul]
   refine (hI b xs.length cap m vb voff vc cs us w row t0 hin l5 (by omega) (by omega) hvb hcl hvl l6 l7 hat (fun p v hp=>(hcell p v hp).1) (fun v hv=>?_) hone).mono ?_
   ·obtain ⟨p,hp⟩:=List.getElem?_of_mem hv
    have hp':p<(dD xs).length:=by rw [hrow.1]; exact aj hp
    exact bF.one (hrow.2 p _ v (List.getElem?_eq_getElem hp') hp)
   ·rintro e w' ⟨b',cap',row',t',rfl,d1,d2,d3,d4,q,d5⟩
    have hwd:wid (xs.take m++el::xs.drop m) sz0:=fH (mN k4) (fun y hy=>by
     rcases List.mem_cons.1 hy with rfl|hy
     ·exact hel
     ·exact mM k4 y hy)
    have dH:RL w (fJ j M w) (dD (xs.take m++el::xs.drop m)) (cs.take (m*sz0)++(us++cs.drop (m*sz0))):=by
     rw [gh,gi,jx m k4,kM m k4]
     have hrl':RL w (fJ j M w) el.cells us:=by simpa [dD] using hrl
     exact (hrow.take _).append (hrl'.append (hrow.drop _))
    have hlen:(xs.take m++el::xs.drop m).length=xs.length+1:=by simp; omega
    have hpl:(cs.take (m*sz0)++(us++cs.drop (m*sz0))).length=(xs.length+1)*sz0:=by rw [<-dH.1,cK hwd,hlen]
    rw [cd]
    rcases d5 with ⟨rfl,rfl,d6,d7⟩|⟨d6,d7⟩
    ·have hput:=oQ (ver':=v0+1) (xs':=xs.take m++el::xs.drop m) hr hM l3 q d7 l6 d2 d6 (by omega) (fun h=>by omega) hwd dH (fun p hp=>d4 p (by rw [<-hpl]; exact hp))
     refine ⟨_,j,rfl,hput.1,hput.2,.aZ (.inl ⟨b',0,cap',rfl,by omega⟩) (by simpa using hid) (fun bx hbx=>by rw [aU (aj hM)] at hbx; injection hbx with hbx; subst hbx; rfl) fun sz' v' ys hx=>?_⟩
     rw [aU (aj hM)] at hx; injection hx with hx; injection hx with e1 e2 e3
     subst e1; subst e2; subst e3
     exact ⟨Nat.le_refl _,fun _=>⟨rfl,Nat.zero_le _,by omega,.inr ⟨b',cap',row',t',l3,by simp,by omega,d2,by rw [Nat.zero_add]; exact d3⟩⟩⟩
    ·have hrel:=Rel.lN (ver':=v0+1) (xs':=xs.take m++el::xs.drop m) hM hr q d7 d6 (lt_of_block d2) (by omega) (fun j' M' hx=>fE d2 hwd (dH.mono hx.cu) (fun p hp=>d4 p (by rw [<-hpl]; exact hp)))
     have hext:=Ext.lN (j:=j) (ver':=v0+1) (xs':=xs.take m++el::xs.drop m) hM q d7 d6 (by omega)
     refine ⟨_,_,rfl,hrel,hext,.aZ (.inl ⟨b',0,cap',rfl,by omega⟩) (by simpa using hid) (fun bx hbx=>by rw [aU (aj hM)] at hbx; injection hbx with hbx; subst hbx; rfl) fun sz' v' ys hx=>?_⟩
     rw [aU (aj hM)] at hx; injection hx with hx; injection hx with e1 e2 e3
     subst e1; subst e2; subst e3
     exact ⟨Nat.le_refl _,fun _=>⟨rfl,Nat.zero_le _,by omega,.inr ⟨b',cap',row',t',by simp [bX],by simp,by omega,d2,by rw [Nat.zero_add]; exact d3⟩⟩⟩
  ·cases h
 ·rename_i i tk el
  obtain ⟨hc,h⟩:=aP h
  injection h with h; subst h
  obtain ⟨rfl,hel⟩:=hc
  refine fL.call ?_
  intro j w vs hr hG hl hv
  obtain ⟨u1,u2,u3,rfl⟩:=v8 hl
  have h2:=(hv 1 _ u2 rfl rfl).bH
  subst h2
  have h3:=(hv 2 _ u3 rfl rfl).oC
  have hwe:wid [el] sz:=fun y hy=>by rw [List.mem_singleton.1 hy]; exact hel
  obtain ⟨A,vc,rfl,_,h4⟩:=gz h3 hwe
  obtain ⟨vb,voff,rfl,us,hrl,hul,hone,hcell⟩:=h4.resolve_left (by simp)
  obtain ⟨B,rfl⟩:=(hv 0 _ u1 rfl rfl).uO
  have hvl:us.length=sz:=by simpa using hul
  refine (h0 B vb voff vc us w #[] hvl (fun p v hp=>(hcell p v hp).1) hone).mono ?_
  rintro e w' ⟨b',cap',row',t',rfl,d1,d2,d3,d4,q,d5⟩
  have hbk:w.heap.size<=b'/\∀b0,b0<w.heap.size->w'.heap[b0]?=w.heap[b0]?:=by
   rcases d5 with ⟨rfl,_,_,d7⟩|d5
   ·exact ⟨Nat.le_refl _,fun b0 hb0=>d7 b0 (Nat.ne_of_lt hb0) hb0⟩
   ·exact d5
  have hob:∀b,some b'=some b->w.heap.size<=b/\b<w'.heap.size:=fun b h=>by injection h with h; subst h; exact ⟨hbk.1,lt_of_block d2⟩
  have ext:Ext j M w (bX j M.length (some b')) (M++[.arr sz 0 [el]]) w':=Ext.push (fun b h=>(hob b h).1) q hbk.2
  refine ⟨_,bX j M.length (some b'),rfl,hr.push hob q hbk.2 (fun h=>by cases h) (fun sz n b h _=>by cases h) (fun sz0 v0 xs0 he=>?_),ext,?_⟩
  ·injection he with e1 e2 e3
   subst e1; subst e3
   refine .inr ⟨b',row',t',rfl,d2,by simp at d1 d3 ⊢; exact Nat.le_trans (Nat.le_mul_of_pos_left _ (by omega)) d3,hwe,fun j' M' hx q x k c hx' hk=>?_⟩
   obtain ⟨vs,t,a1,a2,a3,a4⟩:=fE (j':=j') (M':=M') d2 hwe (hrl.mono hx.cu) (fun p hp=>by have:=d4 p (by omega); simpa using this)
   rw [d2] at a1; injection a1 with a1; injection a1 with a1 a1'
   subst a1
   exact a4 q x k c hx' hk
  ·refine .aZ (.inl ⟨b',0,cap',rfl,by omega⟩) (by simp) (fun bx hbx=>by rw [fZ] at hbx; injection hbx with hbx; subst hbx; rfl) fun sz' v' xs hx=>?_
   rw [fZ] at hx; injection hx with hx; injection hx with e1 e2 e3
   subst e1; subst e2; subst e3
   exact ⟨Nat.le_refl _,fun _=>⟨rfl,Nat.zero_le _,Nat.le_refl _,.inr ⟨b',cap',row',t',by simp [bX],by simp,by omega,d2,by rw [Nat.zero_add]; exact d3⟩⟩⟩
 ·cases h
end
end Go.Abs
namespace Go.Proofs.YtahkjijkflobhaaGreatDoor
section
open Go Go.Abs Go.RowKit Go.Lib
def xY {P:Program} (w:World) {o:Oper} {a:Act} {K:Act->World->Prop} {Q:Exit->Act->World->Prop} (d s:Operand) (t t':TypeId)
  (ho:o.op = .call { callee := .builtin .copy,args := #[d,s],argTypes := #[t,t'] }) (v u:Value) (hd:a.eval d=v) (hs:a.eval s=u) {v':Value} {w':World}
  (hr:(Builtin.copy_ #[t,t'] o.type #[v,u]).run P w = .ok v' w') (h:K (a.put o.dst v') w'):o.wp P a w K Q:=by
 unfold Oper.wp execOp
 simp only [ho,resolve,invoke,builtin,Sem.run_bind,Sem.run_pure,Result.andThen_ok,List.map_toArray,List.map_cons,List.map_nil,hd,hs,hr]
 exact h
def cU {P:Program} (w:World) {ops:Array Oper} {rest:List Oper} {o:Oper} {a:Act} {Q:Exit->Act->World->Prop} (hgd:o.guard=none) (d s:Operand) (t t':TypeId)
  (ho:o.op = .call { callee := .builtin .copy,args := #[d,s],argTypes := #[t,t'] }) (v u:Value) (hd:a.eval d=v) (hs:a.eval s=u) {v':Value} {w':World}
  (hr:(Builtin.copy_ #[t,t'] o.type #[v,u]).run P w = .ok v' w') (h:wpList P ops Q rest (a.put o.dst v') w'):wpList P ops Q (o::rest) a w :=
 wpList_plain hgd fun _ hK=>xY w d s t t' ho v u hd hs hr (hK _ _ h)
def fY {P:Program} {ops:Array Oper} {o:Oper} {a:Act} {w:World} {K:Act->World->Prop} {Q:Exit->Act->World->Prop} {E:Prop}
  (hg:o.guard=none) (d x:Operand) (dT sT:TypeId) (hop:o.op=Op.call { callee:=Callee.builtin Builtin.copy,args := #[d,x],argTypes := #[dT,sT] })
  (v u:Value) (hd:a.eval d=v) (hx:a.eval x=u) {v':Value} {w':World} (hr:(Builtin.copy_ #[dT,sT] o.type #[v,u]).run P w = .ok v' w') (hK:K (a.put o.dst v') w') :
  if Region.wanted o (yielded ops a.tmps)=true then Oper.wp P o a w K Q else E:=by
 rw [if_pos (show Region.wanted o (yielded ops a.tmps)=true by simp [Region.wanted,hg])]
 exact xY w d x dT sT hop v u hd hx hr hK
def jI {P:Program} {ops:Array Oper} {o:Oper} {a:Act} {w:World} {K:Act->World->Prop} {Q:Exit->Act->World->Prop} {E:Prop}
  (hg:o.guard=none) (d x:Operand) (dT sT:TypeId) (hop:o.op=Op.call { callee:=Callee.builtin Builtin.append,args := #[d,x],argTypes := #[dT,sT] })
  (v u:Value) (hd:a.eval d=v) (hx:a.eval x=u) {v':Value} {w':World} (hr:(Builtin.append_ #[dT,sT] o.type #[v,u]).run P w = .ok v' w') (hK:K (a.put o.dst v') w') :
  if Region.wanted o (yielded ops a.tmps)=true then Oper.wp P o a w K Q else E:=by
 rw [if_pos (show Region.wanted o (yielded ops a.tmps)=true by simp [Region.wanted,hg])]
 exact wp_append_run w d x dT sT hop v u hd hx v' w' hr hK
section
variable {P:Program} {S E:TypeId} {k by' f fo:Nat} {z:Value}
def pb (w:World) (dT sT ty elem:TypeId) (k b o dLen dCap:Nat) (a:Addr) (sLen sCap:Nat) (cs:List Value) (m:Nat)
  (hu:P.underlying dT=some (.slice elem)) (hs:(P.info? elem).map (·.size)=some k) (hm:m=Nat.min sLen dLen) (hn:cs.length=m*k)
  (hsrc:∀j v,cs[j]?=some v->w.cell? (a.add j)=some v) (hc:∀j,j<cs.length->(w.cell? ⟨b,o+j,none⟩).isSome=true) (hf:∀j,j<cs.length->w.frozen? ⟨b,o+j,none⟩=false) (h1:∀v∈cs,v.oneCell'=true) :
  (Builtin.copy_ #[dT,sT] ty #[.slice (some ⟨b,o,none⟩) dLen dCap,.slice (some a) sLen sCap]).run P w = .ok (goInt m) (w.setCells b o cs):=by
 have hl:=run_loadCells_list (P:=P) w a cs hsrc
 have hst:=run_storeCells_cells (P:=P) b o cs 0 w (by simpa using hc) (by simpa using hf) h1
 cases hq:P.info? elem with
 |none=>simp [hq] at hs
 |some i =>
  have hi:i.size=k:=by simpa [hq] using hs
  simp only [Nat.add_zero] at hst
  rw [hn] at hl
  subst hm
  simp [Builtin.copy_,run_underlying hu,Builtin.lenOf,Builtin.firstCells,sizeOf,typeInfo,hq,hi,hl,hst]
def vS (w:World) (tS tR e:TypeId) (ht:P.underlying tS=some (.slice e)) (size:Nat) (hz:∀w,(Go.sizeOf e).run P w = .ok size w)
  (a b:Addr) (la ca lb cb:Nat) (hne:a.block≠b.block) (tA tB:TypeId) (kA:Nat) (vs:Array Value) (hsa:w.shape? a.block=some (tA,kA+1)) (hb:w.heap[b.block]?=some (.cells vs tB (0,0))) :
  (Extern.SlicesOverlaps.overlaps #[tS,tS] #[tR] #[.slice (some a) la ca,.slice (some b) lb cb]).run P w = .ok (.bool false) w:=by
 have hnb:(a.block != b.block)=true:=by simpa using hne
 have hnb':(a.block==b.block)=false:=by simpa using hne
 have hsb:w.shape? b.block=some (tB,vs.size):=by simp [World.shape?,hb]
 have hfb:∀o s,w.frozen? ⟨b.block,o,s⟩=false:=fun o s=>by simp [World.frozen?,hb]
 have hfb':w.frozen? b=false:=by simp [World.frozen?,hb]
 rw [show Extern.SlicesOverlaps.overlaps #[tS,tS] #[tR] #[.slice (some a) la ca,.slice (some b) lb cb]=(underlying tS >>= _) from rfl]
 by_cases h0:la=0\/lb=0\/size=0
 ·simp [run_underlying ht,hz,h0]
 ·cases hfa:w.frozen? a with
  |true=>simp [run_underlying ht,hz,h0,hnb,hnb',frozen,noView,viewAt,mayBeOne,stringish,shape,Sem.run,hsa,hsb,hfa,hfb,hfb']
  |false =>
   cases hfe:w.frozen? { block:=a.block,off:=kA+1 } <;>
   simp [run_underlying ht,hz,h0,hnb,hnb',frozen,noView,viewAt,mayBeOne,stringish,shape,Sem.run,hsa,hsb,hfa,hfb,hfb',hfe]
def uj (w:World) (t e ty:TypeId) (ht:P.underlying t=some (.slice e)) {i:TypeInfo} (hi:P.info? e=some i) {z:Value} (hz:i.zero=some z) (b o n c:Nat) (hn:0<n)
  (zs:List Value) (hzs:zs=(Builtin.zeroCells z.cells n).toList) (hc:∀j,j<zs.length->(w.cell? ⟨b,o+j,none⟩).isSome=true) (hf:∀j,j<zs.length->w.frozen? ⟨b,o+j,none⟩=false) (h1:∀v∈zs,v.oneCell'=true) :
  (Builtin.clear_ #[t] ty #[.slice (some ⟨b,o,none⟩) n c]).run P w = .ok (.tuple #[]) (w.setCells b o zs):=by
 have hst:=run_storeCells_cells (P:=P) b o zs 0 w (by simpa using hc) (by simpa using hf) h1
 simp only [Nat.add_zero] at hst
 rw [hzs] at hst
 obtain ⟨m,rfl⟩:∃m,n=m+1:=⟨n-1,by omega⟩
 rw [hzs]
 simp [Builtin.clear_,run_underlying ht,zeroValue,typeInfo,hi,hz,hst]
def iu (b:Nat) (vs:List Value) (o:Nat) (w:World) (h:∀j,j<vs.length->(w.cell? ⟨b,o+j,none⟩).isSome=true) (k:Nat) (hk:(w.cell? ⟨b,k,none⟩).isSome=true):((w.setCells b o vs).cell? ⟨b,k,none⟩).isSome=true:=by
 by_cases hin:o<=k/\k<o+vs.length
 ·have:=World.cell?_setCells_in b vs o w h (k-o) (by omega)
  rw [show o+(k-o)=k by omega] at this
  rw [this]
  simp
 ·rw [World.cell?_setCells_out b vs o w ⟨b,k,none⟩ (fun _ _=>by show k<o\/o+vs.length<=k; omega)]
  exact hk
structure El (P:Program) (S E:TypeId) (k by':Nat) (z:Value):Prop where
 u:P.underlying S=some (.slice E)
 i:∃i0,P.info? E=some i0/\i0.size=k/\i0.zero=some z/\i0.bytes=by'
 c:z.cells.size=k
 o:∀v∈z.cells.toList,v.oneCell'=true
 p:0<k
 b:0<by'
def El.of (hu:P.underlying S=some (.slice E)) (hi:(P.info? E).map (fun i=>(i.size,i.zero,i.bytes))=some (k,some z,by')) (hc:z.cells.size=k/\z.cells.toList.all (·.oneCell')=true) (hp:0<k) (hb:0<by'):El P S E k by' z:=by
 obtain ⟨i0,h1,h2⟩:=Option.map_eq_some_iff.1 hi
 injection h2 with h2 h3
 injection h3 with h3 h4
 exact ⟨hu,⟨i0,h1,h2,h3,h4⟩,hc.1,List.all_eq_true.1 hc.2,hp,hb⟩
def El.s (h:El P S E k by' z):(P.info? E).map (·.size)=some k:=by
 obtain ⟨i0,h1,h2,_⟩:=h.i
 rw [h1]; simp [h2]
def El.so (h:El P S E k by' z) (w:World):(Go.sizeOf E).run P w = .ok k w:=by
 obtain ⟨i0,h1,h2,_⟩:=h.i
 simp [sizeOf,typeInfo,h1,h2]
def El.q (h:El P S E k by' z):(∀(w:World) (a:Option Addr) (n c n' c':Nat),(binOp .eql S (.slice a n c) (.slice none n' c')).run P w = .ok (.bool a.isNone) w)/\∀w,Sem.run P (underlying S) w = .ok (TypeDesc.slice E) w :=
 ⟨fun w a n c n' c'=>Lib.run_eql_slice_nil w _ _ a n c n' c' h.u,run_underlying h.u⟩
def nJ (P:Program) (f:Nat) (S E:TypeId):Prop:=∀(b off n c:Nat) (w:World) (K:Value->World->Prop),
 (∀ {ops:Array Oper} {rest:List Oper} {o:Oper} {a:Act} {Q:Exit->Act->World->Prop},o.guard=none->∀s x,o.op = .call { callee := .builtin .append,args := #[s,x],argTypes := #[S,S] }->a.eval s = .slice (some ⟨w.heap.size,0,none⟩) 0 0 ->
  a.eval x = .slice (some ⟨b,off,none⟩) n c->(∀v' w1,K v' w1->wpList P ops Q rest (a.put o.dst v') w1)->wpList P ops Q (o::rest) a (w.alloc (.cells #[] E))) ->
 Calls P f #[.slice (some ⟨b,off,none⟩) n c] w fun e w'=>∃v',e = .returned v'/\K v' w'
def nH (P:Program) (f:Nat) (S E:TypeId):Prop:=∀(A:Option Addr) (c:Nat) (w:World),
 (∀ty a,(Builtin.append_ #[S,S] ty #[.slice (some ⟨w.heap.size,0,none⟩) 0 0,.slice (some a) 0 c]).run P (w.alloc (.cells #[] E)) = .ok (.slice (some ⟨w.heap.size,0,none⟩) 0 0) (w.alloc (.cells #[] E))) ->
 Calls P f #[.slice A 0 c] w fun e w'=>(∃B,e = .returned (.slice B 0 0))/\(w'=w\/w'=w.alloc (.cells #[] E))
def kJ (h:El P S E k by' z) (hw:nJ P f S E):qq P f E k by':=by
 intro b off n c news w hl hn hbig hc h1
 obtain ⟨i0,g1,g2,g3,g4⟩:=h.i
 refine (hw b off n c w (fun v' w'=>w'.ownsRow w.heap.size E k v' n news/\v' ≠ .slice none 0 0/\Below w.heap.size w w') ?_).mono fun e w' ⟨v',e1,e2⟩=>⟨v',e1,e2⟩
 intro ops rest o a Q hg s x ho hs hx hK
 refine wpList_append_own _ hg s x S ho w.heap.size E i0 z k by' h.u g1 g3 g2 g4 h.c h.p _ _ _ hs (World.ownsRow_made w #[] 0 (Nat.le_refl _) (Nat.zero_le _) (by simp)) ⟨b,off,none⟩ n c news hx hl (fun j u hj=>?_) h1 (by rw [Nat.zero_add]; exact hn) (by rw [Nat.zero_add]; exact hbig) (by simp) ?_
 ·rw [Addr.add_lit]
  exact Lib.cell?_alloc_some _ (hc j u hj)
 ·intro v' w1 hown hgrow hnil
  refine hK v' w1 ⟨by simpa using hown,by simpa using hnil,?_⟩
  exact ((Below.refl _ w).alloc (Nat.le_refl _) _).grown hgrow (by simp) (by intro k hk; simp [Value.ownBlock] at hk; omega)
def ju (h:El P S E k by' z) (hw:nH P f S E):nI P f:=by
 intro A c w
 refine (hw A c w fun ty a=>?_).mono fun e w' ⟨h1,h2⟩=>⟨h1,?_⟩
 ·simp [Builtin.append_,run_underlying h.u,h.so,Builtin.lenOf,Builtin.firstCells,loadCells,loadCellsFrom,storeCells]
 ·rcases h2 with rfl|rfl
  ·exact Below.refl _ _
  ·exact (Below.refl _ w).alloc (Nat.le_refl _) _
def Gp (P:Program) (f:Nat) (S:TypeId) (k:Nat):Prop:=∀(blk cap i j n:Nat) (A:Addr) (w W1 W2:World),(if cap=j then some (⟨blk,0,none⟩:Addr) else some ⟨blk,j*k,none⟩)=some A ->
 (∀ty,(Builtin.append_ #[S,S] ty #[.slice (some ⟨blk,0,none⟩) i cap,.slice (some A) (n-j) (cap-j)]).run P w.drew = .ok (.slice (some ⟨blk,0,none⟩) (i+(n-j)) cap) W1) ->
 (∀ty,(Builtin.clear_ #[S] ty #[.slice (some ⟨blk,(i+(n-j))*k,none⟩) (n-(i+(n-j))) (cap-(i+(n-j)))]).run P W1 = .ok (.tuple #[]) W2) ->
 n<=cap->n<=9223372036854775807->i<n->i<=cap->i<j->j<=cap->j<=n ->
 Calls P f #[.slice (some ⟨blk,0,none⟩) n cap,.int .i64 i,.int .i64 j] w fun e w'=>e = .returned (.slice (some ⟨blk,0,none⟩) (i+(n-j)) cap)/\w'=W2
def yi (h:El P S E k by' z) (hw:Gp P f S k):Pa P f k z.cells.toList:=by
 intro blk cap i j n cs w hl hcap hm hi hj hH
 obtain ⟨i0,g1,g2,g3,g4⟩:=h.i
 have a1:j*k=i*k+k:=by rw [hj,Nat.succ_mul]
 have a2:j*k<=n*k:=Nat.mul_le_mul_right _ (by omega)
 have a3:(n-j)*k=n*k-j*k:=Nat.sub_mul ..
 have a4:(n-1)*k=n*k-k:=by rw [Nat.sub_mul,Nat.one_mul]
 obtain ⟨news,hnews⟩:∃news,news=cs.drop (j*k):=⟨_,rfl⟩
 have hlen:news.length=(n-j)*k:=by rw [hnews,List.length_drop,hl,a3]
 have hsome:∀p,p<n*k->(w.cell? ⟨blk,p,none⟩).isSome=true/\w.frozen? ⟨blk,p,none⟩=false:=fun p hp=>by
  obtain ⟨h1,h2,_⟩:=hH p _ (List.getElem?_eq_getElem (by omega))
  exact ⟨by rw [h1]; rfl,h2⟩
 obtain ⟨A,hA,hsrc⟩:∃A:Addr,(if cap=j then some (⟨blk,0,none⟩:Addr) else some ⟨blk,j*k,none⟩)=some A/\∀t u,news[t]?=some u->w.drew.cell? (A.add t)=some u:=by
  by_cases hc:cap=j
  ·refine ⟨⟨blk,0,none⟩,by simp [hc],fun t u hu=>?_⟩
   have e0:n-j=0:=by omega
   have h0:news.length=0:=by rw [hlen,e0,Nat.zero_mul]
   rw [List.length_eq_zero_iff.1 h0] at hu
   simp at hu
  ·refine ⟨⟨blk,j*k,none⟩,by simp [hc],fun t u hu=>?_⟩
   rw [hnews,List.getElem?_drop] at hu
   rw [Addr.add_lit]
   exact (hH _ _ hu).1
 have s2:∀u∈news,u.oneCell'=true:=by
  intro u hu
  rw [hnews] at hu
  obtain ⟨p,hp⟩:=List.getElem?_of_mem (List.mem_of_mem_drop hu)
  exact (hH p u hp).2.2
 have hW1c:∀p,p<n*k->((w.drew.setCells blk (i*k) news).cell? ⟨blk,p,none⟩).isSome=true:=fun p hp =>
  iu blk news _ w.drew (fun q hq=>(hsome (i*k+q) (by rw [hlen] at hq; omega)).1) p (hsome p hp).1
 have hW1f:∀p,p<n*k->(w.drew.setCells blk (i*k) news).frozen? ⟨blk,p,none⟩=false:=fun p hp=>by
  rw [World.frozen?_setCells]
  exact (hsome p hp).2
 have hin:i+(n-j)=n-1:=by omega
 have hzl:z.cells.toList.length=k:=by simp [h.c]
 have hzz:∀q,q<z.cells.toList.length->(n-1)*k+q<n*k:=fun q hq=>by
  have:k<=n*k:=Nat.le_mul_of_pos_left _ (by omega)
  omega
 refine (hw blk cap i j n A w (w.drew.setCells blk (i*k) news) ((w.drew.setCells blk (i*k) news).setCells blk ((n-1)*k) z.cells.toList) hA (fun ty=>?_) (fun ty=>?_) hcap hm hi (by omega) (by omega) (by omega) (by omega)).mono ?_
 ·have hr:=run_append_room_cells (P:=P) w.drew S ty E i0 h.u g1 blk 0 i cap A (n-j) (cap-j) news (by rw [g2,hlen]) hsrc s2 (by omega) (fun q hq=>by rw [g2,Nat.zero_add]; exact (hsome _ (by omega)).1) (fun q hq=>by rw [g2,Nat.zero_add]; exact (hsome _ (by omega)).2)
  rw [g2,Nat.zero_add] at hr
  exact hr
 ·rw [hin]
  exact uj _ _ _ ty h.u g1 g3 blk _ _ _ (by omega) _ (by rw [show n-(n-1)=1 by omega,gR]; simp) (fun q hq=>hW1c _ (hzz q hq)) (fun q hq=>hW1f _ (hzz q hq)) h.o
 ·rintro e w' ⟨rfl,rfl⟩
  exact ⟨by rw [hin],by rw [hnews]⟩
def uC (P:Program) (f fo:Nat) (S:TypeId) (k:Nat):Prop:=∀(b n c i vb voff vc:Nat) (vs:List Value) (w W1:World),
 (∀lb cb,(callFunc fo #[.slice (some ⟨vb,voff,none⟩) 1 vc,.slice (some ⟨b,(i+1)*k,none⟩) lb cb]).run P w = .ok (.value (.bool false)) w) ->
 (∀ty dc sc,(Builtin.copy_ #[S,S] ty #[.slice (some ⟨b,(i+1)*k,none⟩) (n-i) dc,.slice (some ⟨b,i*k,none⟩) (n+1-i) sc]).run P w.drew = .ok (goInt ((n-i:Nat):Int)) W1) ->
 (∀W:World,(∀x,W.cell? x=W1.cell? x)->(∀x,W.frozen? x=W1.frozen? x)->∀ty dc,(Builtin.copy_ #[S,S] ty #[.slice (some ⟨b,i*k,none⟩) (n+1-i) dc,.slice (some ⟨vb,voff,none⟩) 1 vc]).run P W = .ok (goInt 1) (W.setCells b (i*k) vs)) ->
 i<n->n+1<=c->n+1<=9223372036854775807->¬((i:Int)=(n:Int))->IntKind.i64.wrap ((i:Int)+1)=(i:Int)+1->(0:Int)<=(i:Int)+1->i<=n->((i:Int)+1).toNat=i+1->¬(c=i+1)->(i:Int)<=(n:Int)+1->¬(c=i) ->
 Calls P f #[.slice (some ⟨b,0,none⟩) n c,.int .i64 i,.slice (some ⟨vb,voff,none⟩) 1 vc] w fun e w'=>e = .returned (.slice (some ⟨b,0,none⟩) (n+1) c)/\w'=W1.setCells b (i*k) vs
def En (P:Program) (f:Nat) (S:TypeId):Prop:=∀(base:Option Addr) (n c vb voff vc:Nat) (V:Value) (w W:World),
 (∀ty,(Builtin.append_ #[S,S] ty #[.slice base n c,.slice (some ⟨vb,voff,none⟩) 1 vc]).run P w = .ok V W)->n<=c->n+1<=9223372036854775807->(base=none->n=0) ->
 Calls P f #[.slice base n c,.int .i64 n,.slice (some ⟨vb,voff,none⟩) 1 vc] w fun e w'=>e = .returned V/\w'=W
def zd (P:Program) (f:Nat) (S E:TypeId) (k:Nat):Prop:=∀(b n c i G vb voff vc:Nat) (ROW:Array Value) (vs ds:List Value) (w:World),
 (∀ty,(Builtin.append_ #[S,3] ty #[.slice (some ⟨b,0,none⟩) i c,.int .i64 ((n:Int)+1-(i:Int))]).run P w = .ok (.slice (some ⟨w.heap.size,0,none⟩) (n+1) G) (w.drew.alloc (.cells ROW E))) ->
 (∀W:World,(∀x,W.cell? x=(w.drew.alloc (.cells ROW E)).cell? x)->(∀x,W.frozen? x=(w.drew.alloc (.cells ROW E)).frozen? x)->∀ty dc,(Builtin.copy_ #[S,S] ty #[.slice (some ⟨w.heap.size,i*k,none⟩) (n+1-i) dc,.slice (some ⟨vb,voff,none⟩) 1 vc]).run P W = .ok (goInt 1) (W.setCells w.heap.size (i*k) vs)) ->
 (∀W:World,(∀x,W.cell? x=((w.drew.alloc (.cells ROW E)).setCells w.heap.size (i*k) vs).cell? x)->(∀x,W.frozen? x=((w.drew.alloc (.cells ROW E)).setCells w.heap.size (i*k) vs).frozen? x)->∀ty dc sc,
  (Builtin.copy_ #[S,S] ty #[.slice (some ⟨w.heap.size,(i+1)*k,none⟩) (n+1-(i+1)) dc,.slice (some ⟨b,i*k,none⟩) (n-i) sc]).run P W = .ok (goInt ((n-i:Nat):Int)) (W.setCells w.heap.size ((i+1)*k) ds)) ->
 (∀x,((w.alloc (.cells ROW E)).drew).cell? x=(w.drew.alloc (.cells ROW E)).cell? x)->(∀x,((w.alloc (.cells ROW E)).drew).frozen? x=(w.drew.alloc (.cells ROW E)).frozen? x) ->
 (∀x,(((w.alloc (.cells ROW E)).drew.setCells w.heap.size (i*k) vs).drew).cell? x=((w.drew.alloc (.cells ROW E)).setCells w.heap.size (i*k) vs).cell? x) ->
 (∀x,(((w.alloc (.cells ROW E)).drew.setCells w.heap.size (i*k) vs).drew).frozen? x=((w.drew.alloc (.cells ROW E)).setCells w.heap.size (i*k) vs).frozen? x) ->
 i<n->n<=c->c<n+1->¬((i:Int)=(n:Int))->(c:Int)<(n:Int)+1->n+1<=G->G<=9223372036854775807->¬(G=i)->¬(G=i+1)->¬(c=i)->IntKind.i64.wrap ((i:Int)+1)=(i:Int)+1->(0:Int)<=(i:Int)+1->i<=n->((i:Int)+1).toNat=i+1->(i:Int)<=(n:Int)->n+1<=140737488355328 ->
 Calls P f #[.slice (some ⟨b,0,none⟩) n c,.int .i64 i,.slice (some ⟨vb,voff,none⟩) 1 vc] w fun e w'=>e = .returned (.slice (some ⟨w.heap.size,0,none⟩) (n+1) G) /\
  w'=(((w.alloc (.cells ROW E)).drew.setCells w.heap.size (i*k) vs).drew).setCells w.heap.size ((i+1)*k) ds
def LW {w:World} {vb voff:Nat} {v:Value} (h0:w.cell? ⟨vb,voff,none⟩=some v):∃tA kA,w.shape? vb=some (tA,kA+1):=by
 unfold World.cell? at h0
 unfold World.shape?
 split at h0
 ·rename_i cc ee ff hb
  simp only [hb]
  simp at h0
  have:=(Array.getElem?_eq_some_iff.1 h0).1
  exact ⟨ee,cc.size-1,by simp; omega⟩
 ·cases h0
def uq (h:El P S E k by' z) (h3:P.underlying 3=some (.int .i64)) (ho:∀args w,(callFunc fo args).run P w=((Extern.SlicesOverlaps.overlaps #[S,S] #[4] args).run P w).andThen fun v w' => .ok (.value v) w')
  (hS:uC P f fo S k) (hE:En P f S) (hG:zd P f S E k):Gu P f k by':=by
 intro b n c i vb voff vc cs vs w row tB hi hnc hbig h63 hvb hcl hvl hw hrow hat hvs h1c h1v
 obtain ⟨i0,hi0,hzs,hz0,hzb⟩:=h.i
 have hk:=h.p
 have hcs:∀(p:Nat) (v:Value),cs[p]?=some v->w.cell? ⟨b,p,none⟩=some v:=fun p v hp=>by simp [World.cell?,hw,hat p v hp]
 have hfz:∀j,w.frozen? ⟨b,j,none⟩=false:=fun j=>by simp [World.frozen?,hw]
 have a1:(n+1)*k=n*k+k:=Nat.succ_mul ..
 have a2:(i+1)*k=i*k+k:=Nat.succ_mul ..
 have a3:(n-i)*k=n*k-i*k:=Nat.sub_mul ..
 have a4:i*k<=n*k:=Nat.mul_le_mul_right _ hi
 have hdl:(cs.drop (i*k)).length=(n-i)*k:=by rw [List.length_drop,hcl,a3]
 have hv0:=hvs 0 _ (List.getElem?_eq_getElem (by omega))
 have hle:n+1<=140737488355328:=Nat.le_trans (Nat.le_mul_of_pos_right _ h.b) hbig
 have hw1:IntKind.i64.wrap ((i:Int)+1)=(i:Int)+1:=by rw [IntKind.wrap_i64]; omega
 have hmin:1=Nat.min 1 (n+1-i):=by simp only [Nat.min_def]; split<;>omega
 by_cases hroom:n+1<=c
 ·have hr0:(n+1)*k<=row.size:=Nat.le_trans (Nat.mul_le_mul_right _ hroom) hrow
  have hsp:∀j,j<(n+1)*k->(w.cell? ⟨b,j,none⟩).isSome=true:=fun j hj=>by
   simp [World.cell?,hw,Array.getElem?_eq_getElem (show j<row.size by omega)]
  by_cases hin:i<n
  ·have a5:(i+1)*k<=n*k:=Nat.mul_le_mul_right _ hin
   obtain ⟨tA,kA,hsa⟩:=LW hv0
   refine (hS b n c i vb voff vc vs w (w.drew.setCells b ((i+1)*k) (cs.drop (i*k))) (fun lb cb=>?_) (fun ty dc sc=>?_) (fun W hWc hWf ty dc=>?_) hin hroom h63 (by omega) hw1 (by omega) (by omega) (by omega) (by omega) (by omega) (by omega)).mono ?_
   ·rw [ho,vS w S 4 E h.u k h.so ⟨vb,voff,none⟩ ⟨b,(i+1)*k,none⟩ 1 vc lb cb hvb tA tB kA row hsa hw]
    rfl
   ·exact pb w.drew _ _ ty E k b ((i+1)*k) (n-i) dc ⟨b,i*k,none⟩ (n+1-i) sc (cs.drop (i*k)) (n-i) h.u h.s (by simp only [Nat.min_def]; split<;>omega) hdl
     (fun j v hj=>by rw [Addr.add_lit]; exact hcs (i*k+j) v (by rwa [List.getElem?_drop] at hj))
     (fun j hj=>hsp ((i+1)*k+j) (by omega)) (fun j hj=>hfz _) (fun v hv=>h1c v (List.mem_of_mem_drop hv))
   ·exact pb W _ _ ty E k b (i*k) (n+1-i) dc ⟨vb,voff,none⟩ 1 vc vs 1 h.u h.s hmin (by rw [hvl,Nat.one_mul])
     (fun j v hj=>by
      rw [Addr.add_lit,hWc,World.cell?_setCells_out b _ _ _ _ (fun h _=>absurd h hvb)]
      exact hvs j v hj)
     (fun j hj=>by rw [hWc]; exact iu b _ _ w.drew (fun j hj=>hsp ((i+1)*k+j) (by omega)) _ (hsp (i*k+j) (by omega)))
     (fun j hj=>by rw [hWf,World.frozen?_setCells]; exact hfz _) h1v
   ·rintro e w' ⟨he,hw'⟩
    exact Fb hin hroom hcl hvl hw hrow hat he hw'
  ·obtain rfl:i=n:=by omega
   refine (hE (some ⟨b,0,none⟩) i c vb voff vc (.slice (some ⟨b,0,none⟩) (i+1) c) w (w.setCells b (i*k) vs) (fun ty=>?_) hnc h63 (by simp)).mono ?_
   ·have hr:=run_append_room_cells (P:=P) w S ty E i0 h.u hi0 b 0 i c ⟨vb,voff,none⟩ 1 vc vs (by rw [hzs,hvl,Nat.one_mul]) (fun j u hj=>by rw [Addr.add_lit]; exact hvs j u hj) h1v hroom
     (fun j hj=>by rw [hzs,Nat.zero_add]; exact hsp _ (by omega)) (fun j hj=>hfz _)
    rw [hzs,Nat.zero_add] at hr
    exact hr
   ·rintro e w' ⟨he,hw'⟩
    exact IL hroom hcl hvl hw hrow hat he hw'
 ·have hGc:=grownCap_ge w (n+1) c E
  by_cases hin:i<n
  ·have a5:(i+1)*k<=n*k:=Nat.mul_le_mul_right _ hin
   have hbw:b<w.heap.size:=lt_of_block hw
   have hvw:vb<w.heap.size:=block_lt_of_cell hv0
   have hik:i+(n+1-i)=n+1:=by omega
   have hold:(Builtin.firstCells i0.size i (.slice (some ⟨b,0,none⟩) i c)).run P w.drew = .ok (cs.take (i*k)).toArray w.drew:=by
    rw [hzs]
    exact run_firstCells_some w.drew k i ⟨b,0,none⟩ i c (cs.take (i*k)) (by rw [List.length_take]; omega) (fun j v hj=>by
     rw [Addr.add_lit,Nat.zero_add]
     rw [List.getElem?_take] at hj
     split at hj
     ·exact hcs j v hj
     ·cases hj)
   obtain ⟨ROW,hROW⟩:∃ROW:Array Value,ROW=(cs.take (i*k)).toArray++Builtin.zeroCells z.cells (n+1-i)++Builtin.zeroCells z.cells (grownCap w (n+1) c E-(n+1)):=⟨_,rfl⟩
   have hRl:(n+1)*k<=ROW.size:=by
    have e1:(n+1-i)*k=(n+1)*k-i*k:=Nat.sub_mul ..
    rw [hROW]
    simp only [Builtin.zeroCells,Array.size_append,Array.size_map,Array.size_range,h.c,List.size_toArray,List.length_take,hcl]
    omega
   have hN:∀j,j<(n+1)*k->((w.drew.alloc (.cells ROW E)).cell? ⟨w.heap.size,j,none⟩).isSome=true:=fun j hj=>by
    rw [World.cell?_alloc_at (w:=w.drew) ROW _ w.heap.size j rfl,Array.getElem?_eq_getElem (by omega)]; rfl
   have hNf:∀j,(w.drew.alloc (.cells ROW E)).frozen? ⟨w.heap.size,j,none⟩=false:=fun j=>World.frozen?_alloc_at (w:=w.drew) ROW _ w.heap.size j rfl
   have hG63:grownCap w (n+1) c E<=9223372036854775807:=by
    have:=grownCap_le_maxLen w (n+1) c E (by unfold maxLen; omega)
    unfold maxLen at this
    omega
   refine (hG b n c i (grownCap w (n+1) c E) vb voff vc ROW vs (cs.drop (i*k)) w (fun ty=>?_) (fun W hWc hWf ty dc=>?_) (fun W hWc hWf ty dc sc=>?_) (fun _=>rfl) (fun _=>rfl) (fun _=>rfl) (fun _=>rfl)
    hin hnc (by omega) (by omega) (by omega) hGc hG63 (by omega) (by omega) (by omega) hw1 (by omega) (by omega) (by omega) (by omega) hle).mono ?_
   ·have hr:=Lib.run_append_grow_zeros w S 3 ty E i0 _ .i64 .i64 h.u h3 hi0 hz0 (some ⟨b,0,none⟩) i c (cs.take (i*k)) hold (n+1-i) (by omega) (by omega) (by omega) (by omega)
     (by rw [hzb]; exact Nat.le_trans (Nat.mul_le_mul_right _ (by omega:n+1-i<=n+1)) (by omega)) (by rw [hzb,hik]; exact growslice_fits (by omega) hbig)
    rw [hik] at hr
    rw [show (n:Int)+1-(i:Int)=((n+1-i:Nat):Int) by omega,hROW]
    exact hr
   ·exact pb W _ _ ty E k w.heap.size (i*k) (n+1-i) dc ⟨vb,voff,none⟩ 1 vc vs 1 h.u h.s hmin (by rw [hvl,Nat.one_mul])
     (fun j v hj=>by rw [Addr.add_lit,hWc,World.cell?_alloc_past (w:=w.drew) _ vb _ hvw]; exact hvs j v hj)
     (fun j hj=>by rw [hWc]; exact hN (i*k+j) (by omega)) (fun j hj=>by rw [hWf]; exact hNf _) h1v
   ·exact pb W _ _ ty E k w.heap.size ((i+1)*k) (n+1-(i+1)) dc ⟨b,i*k,none⟩ (n-i) sc (cs.drop (i*k)) (n-i) h.u h.s (by simp only [Nat.min_def]; split<;>omega) hdl
     (fun j v hj=>by
      rw [Addr.add_lit,hWc,World.cell?_setCells_out _ _ _ _ _ (fun h _=>absurd h (by show b≠w.heap.size; omega)),World.cell?_alloc_past (w:=w.drew) _ b _ hbw]
      exact hcs (i*k+j) v (by rwa [List.getElem?_drop] at hj))
     (fun j hj=>by rw [hWc]; exact iu _ _ _ _ (fun t ht=>hN (i*k+t) (by omega)) _ (hN ((i+1)*k+j) (by omega)))
     (fun j hj=>by rw [hWf,World.frozen?_setCells]; exact hNf _) (fun v hv=>h1c v (List.mem_of_mem_drop hv))
   ·rintro e w' ⟨he,hw'⟩
    rw [hROW] at hw'
    exact IK hk h.c hin hcl hvl hGc he hw'
  ·obtain rfl:i=n:=by omega
   refine (hE (some ⟨b,0,none⟩) i c vb voff vc _ w _ (fun ty=>run_append_grow_src w S S ty E i0 z h.u hi0 hz0 (some ⟨b,0,none⟩) i c cs ?_ _ 1 vs ?_ (by omega) (by omega) (by rw [hzb]; exact growslice_fits (by omega) hbig)) hnc h63 (by simp)).mono ?_
   ·rw [hzs]
    exact run_firstCells_some w.drew k i _ i c cs hcl (fun j v hj=>by rw [Addr.add_lit,Nat.zero_add]; exact hcs j v hj)
   ·rw [hzs]
    exact Src.ofSlice w h.u ⟨vb,voff,none⟩ 1 vc vs (by rw [hvl,Nat.one_mul]) (fun j u hj=>by rw [Addr.add_lit]; exact hvs j u hj) h1v
   ·rintro e w' ⟨he,hw'⟩
    exact rj hk h.c hcl hvl hGc he hw'
def ur (h:El P S E k by' z) (hby:by'<=140737488355328) (hE:En P f S):Gv P f k:=by
 intro A vb voff vc vs w row hvl hvs h1v
 obtain ⟨i0,hi0,hzs,hz0,hzb⟩:=h.i
 refine (hE A 0 0 vb voff vc _ w _ (fun ty=>run_append_grow_src w S S ty E i0 z h.u hi0 hz0 A 0 0 [] ?_ _ 1 vs ?_ (by omega) (by omega) (by rw [hzb]; exact growslice_fits (by omega) (by omega))) (Nat.le_refl _) (by omega) (fun _=>rfl)).mono ?_
 ·rw [hzs]
  cases A with
  |none=>exact run_firstCells_none w.drew k 0 0 0
  |some a=>exact run_firstCells_some w.drew k 0 a 0 0 [] (by simp) (fun j v hj=>by simp at hj)
 ·rw [hzs]
  exact Src.ofSlice w h.u ⟨vb,voff,none⟩ 1 vc vs (by rw [hvl,Nat.one_mul]) (fun j u hj=>by rw [Addr.add_lit]; exact hvs j u hj) h1v
 ·rintro e w' ⟨he,hw'⟩
  exact rj h.p h.c (by simp) hvl (grownCap_ge w 1 0 E) he hw'
end
section
set_option maxHeartbeats 4000000
set_option maxRecDepth 1000000
def mix:Tryz.prog.follows .mixedOrders=true:=by kernel_rfl
def Ca:El Tryz.prog 52 95 3 32 (.agg #[.string ⟨#[]⟩,.int .i64 0,.int .i64 0]) := .of Tryz.underlying52 (by kernel_rfl) ⟨rfl,rfl⟩ (by omega) (by omega)
def B7:El Tryz.prog 29 54 6 80 (.agg #[.int .i64 0,.int .i64 0,.int .i64 0,.slice none 0 0,.slice none 0 0,.int .i64 0]) := .of Tryz.underlying29 (by kernel_rfl) ⟨rfl,rfl⟩ (by omega) (by omega)
def B8:El Tryz.prog 37 58 3 24 (.agg #[.int .i64 0,.int .i64 0,.int .i64 0]) := .of Tryz.underlying37 (by kernel_rfl) ⟨rfl,rfl⟩ (by omega) (by omega)
def B9:El Tryz.prog 38 67 3 24 (.agg #[.int .i64 0,.int .i64 0,.int .i64 0]) := .of Tryz.underlying38 (by kernel_rfl) ⟨rfl,rfl⟩ (by omega) (by omega)
def MP:El Tryz.prog 33 97 8 96 (.agg #[.int .i64 0,.int .i64 0,.int .i64 0,.int .i64 0,.int .i64 0,.slice none 0 0,.slice none 0 0,.int .i64 0]) := .of Tryz.underlying33 (by kernel_rfl) ⟨rfl,rfl⟩ (by omega) (by omega)
def MQ:El Tryz.prog 34 104 3 24 (.agg #[.int .i64 0,.int .i64 0,.int .i64 0]) := .of Tryz.underlying34 (by kernel_rfl) ⟨rfl,rfl⟩ (by omega) (by omega)
def MO:El Tryz.prog 23 5 1 1 (.int .u8 0) := .of Tryz.underlying23 (by kernel_rfl) ⟨rfl,rfl⟩ (by omega) (by omega)
def V1:nJ Tryz.prog 214 52 95:=by
 intro b off n c w K hap
 have mixed:=mix
 have t25:=Tryz.underlying52
 obtain ⟨q22,u22⟩:=Ca.q
 go_enter Tryz.func214,Tryz.ntmps214
 go_wp2_with (at_builtin; refine hap rfl _ _ rfl rfl rfl ?_)
 intro v' w1 hK
 go_wp2
 go_ret
 exact ⟨v',rfl,hK⟩
def VT:nH Tryz.prog 214 52 95:=by
 intro A c w hrun
 have mixed:=mix
 have t25:=Tryz.underlying52
 obtain ⟨q22,u22⟩:=Ca.q
 cases A with
 |none =>
  go_enter Tryz.func214,Tryz.ntmps214
  go_wp2
  go_ret
  exact ⟨⟨_,rfl⟩,.inl rfl⟩
 |some a =>
  go_enter Tryz.func214,Tryz.ntmps214
  go_wp2_with (at_builtin; refine Lib.wpList_append_run _ rfl _ _ _ _ rfl _ _ rfl rfl _ _ (hrun _ _) ?_)
  go_ret
  exact ⟨⟨_,rfl⟩,.inr rfl⟩
def V5:nJ Tryz.prog 255 29 54:=by
 intro b off n c w K hap
 have mixed:=mix
 have t25:=Tryz.underlying29
 obtain ⟨q22,u22⟩:=B7.q
 go_enter Tryz.func255,Tryz.ntmps255
 go_wp2_with (at_builtin; refine hap rfl _ _ rfl rfl rfl ?_)
 intro v' w1 hK
 go_wp2
 go_ret
 exact ⟨v',rfl,hK⟩
def VX:nH Tryz.prog 255 29 54:=by
 intro A c w hrun
 have mixed:=mix
 have t25:=Tryz.underlying29
 obtain ⟨q22,u22⟩:=B7.q
 cases A with
 |none =>
  go_enter Tryz.func255,Tryz.ntmps255
  go_wp2
  go_ret
  exact ⟨⟨_,rfl⟩,.inl rfl⟩
 |some a =>
  go_enter Tryz.func255,Tryz.ntmps255
  go_wp2_with (at_builtin; refine Lib.wpList_append_run _ rfl _ _ _ _ rfl _ _ rfl rfl _ _ (hrun _ _) ?_)
  go_ret
  exact ⟨⟨_,rfl⟩,.inr rfl⟩
def V2:nJ Tryz.prog 220 37 58:=by
 intro b off n c w K hap
 have mixed:=mix
 have t25:=Tryz.underlying37
 obtain ⟨q22,u22⟩:=B8.q
 go_enter Tryz.func220,Tryz.ntmps220
 go_wp2_with (at_builtin; refine hap rfl _ _ rfl rfl rfl ?_)
 intro v' w1 hK
 go_wp2
 go_ret
 exact ⟨v',rfl,hK⟩
def VU:nH Tryz.prog 220 37 58:=by
 intro A c w hrun
 have mixed:=mix
 have t25:=Tryz.underlying37
 obtain ⟨q22,u22⟩:=B8.q
 cases A with
 |none =>
  go_enter Tryz.func220,Tryz.ntmps220
  go_wp2
  go_ret
  exact ⟨⟨_,rfl⟩,.inl rfl⟩
 |some a =>
  go_enter Tryz.func220,Tryz.ntmps220
  go_wp2_with (at_builtin; refine Lib.wpList_append_run _ rfl _ _ _ _ rfl _ _ rfl rfl _ _ (hrun _ _) ?_)
  go_ret
  exact ⟨⟨_,rfl⟩,.inr rfl⟩
def V0:nJ Tryz.prog 202 38 67:=by
 intro b off n c w K hap
 have mixed:=mix
 have t25:=Tryz.underlying38
 obtain ⟨q22,u22⟩:=B9.q
 go_enter Tryz.func202,Tryz.ntmps202
 go_wp2_with (at_builtin; refine hap rfl _ _ rfl rfl rfl ?_)
 intro v' w1 hK
 go_wp2
 go_ret
 exact ⟨v',rfl,hK⟩
def VR:nH Tryz.prog 202 38 67:=by
 intro A c w hrun
 have mixed:=mix
 have t25:=Tryz.underlying38
 obtain ⟨q22,u22⟩:=B9.q
 cases A with
 |none =>
  go_enter Tryz.func202,Tryz.ntmps202
  go_wp2
  go_ret
  exact ⟨⟨_,rfl⟩,.inl rfl⟩
 |some a =>
  go_enter Tryz.func202,Tryz.ntmps202
  go_wp2_with (at_builtin; refine Lib.wpList_append_run _ rfl _ _ _ _ rfl _ _ rfl rfl _ _ (hrun _ _) ?_)
  go_ret
  exact ⟨⟨_,rfl⟩,.inr rfl⟩
def V3:nJ Tryz.prog 224 33 97:=by
 intro b off n c w K hap
 have mixed:=mix
 have t25:=Tryz.underlying33
 obtain ⟨q22,u22⟩:=MP.q
 go_enter Tryz.func224,Tryz.ntmps224
 go_wp2_with (at_builtin; refine hap rfl _ _ rfl rfl rfl ?_)
 intro v' w1 hK
 go_wp2
 go_ret
 exact ⟨v',rfl,hK⟩
def VV:nH Tryz.prog 224 33 97:=by
 intro A c w hrun
 have mixed:=mix
 have t25:=Tryz.underlying33
 obtain ⟨q22,u22⟩:=MP.q
 cases A with
 |none =>
  go_enter Tryz.func224,Tryz.ntmps224
  go_wp2
  go_ret
  exact ⟨⟨_,rfl⟩,.inl rfl⟩
 |some a =>
  go_enter Tryz.func224,Tryz.ntmps224
  go_wp2_with (at_builtin; refine Lib.wpList_append_run _ rfl _ _ _ _ rfl _ _ rfl rfl _ _ (hrun _ _) ?_)
  go_ret
  exact ⟨⟨_,rfl⟩,.inr rfl⟩
def V4:nJ Tryz.prog 230 34 104:=by
 intro b off n c w K hap
 have mixed:=mix
 have t25:=Tryz.underlying34
 obtain ⟨q22,u22⟩:=MQ.q
 go_enter Tryz.func230,Tryz.ntmps230
 go_wp2_with (at_builtin; refine hap rfl _ _ rfl rfl rfl ?_)
 intro v' w1 hK
 go_wp2
 go_ret
 exact ⟨v',rfl,hK⟩
def VW:nH Tryz.prog 230 34 104:=by
 intro A c w hrun
 have mixed:=mix
 have t25:=Tryz.underlying34
 obtain ⟨q22,u22⟩:=MQ.q
 cases A with
 |none =>
  go_enter Tryz.func230,Tryz.ntmps230
  go_wp2
  go_ret
  exact ⟨⟨_,rfl⟩,.inl rfl⟩
 |some a =>
  go_enter Tryz.func230,Tryz.ntmps230
  go_wp2_with (at_builtin; refine Lib.wpList_append_run _ rfl _ _ _ _ rfl _ _ rfl rfl _ _ (hrun _ _) ?_)
  go_ret
  exact ⟨⟨_,rfl⟩,.inr rfl⟩
def VZ:nJ Tryz.prog 139 23 5:=by
 intro b off n c w K hap
 have mixed:=mix
 have t25:=Tryz.underlying23
 obtain ⟨q22,u22⟩:=MO.q
 go_enter Tryz.func139,Tryz.ntmps139
 go_wp2_with (at_builtin; refine hap rfl _ _ rfl rfl rfl ?_)
 intro v' w1 hK
 go_wp2
 go_ret
 exact ⟨v',rfl,hK⟩
def VQ:nH Tryz.prog 139 23 5:=by
 intro A c w hrun
 have mixed:=mix
 have t25:=Tryz.underlying23
 obtain ⟨q22,u22⟩:=MO.q
 cases A with
 |none =>
  go_enter Tryz.func139,Tryz.ntmps139
  go_wp2
  go_ret
  exact ⟨⟨_,rfl⟩,.inl rfl⟩
 |some a =>
  go_enter Tryz.func139,Tryz.ntmps139
  go_wp2_with (at_builtin; refine Lib.wpList_append_run _ rfl _ _ _ _ rfl _ _ rfl rfl _ _ (hrun _ _) ?_)
  go_ret
  exact ⟨⟨_,rfl⟩,.inr rfl⟩
def V9:Gp Tryz.prog 294 29 6:=by
 intro blk cap i j n A w W1 W2 hA hap hcl hcap hm hi hic hij hjc hjn
 have mixed:=mix
 have t25:=Tryz.underlying29
 go_enter Tryz.func294,Tryz.ntmps294
 go_wp2_with fail
 go_region_law_o (refine jI rfl _ _ 29 29 rfl _ _ (by simp [Act.eval,Act.put]) (by simp [Act.eval,Act.put]) (hap _) ?_)
 go_wp2
 go_ret
 exact ⟨rfl,rfl⟩
def V8:Gp Tryz.prog 260 52 3:=by
 intro blk cap i j n A w W1 W2 hA hap hcl hcap hm hi hic hij hjc hjn
 have mixed:=mix
 have t25:=Tryz.underlying52
 go_enter Tryz.func260,Tryz.ntmps260
 go_wp2_with fail
 go_region_law_o (refine jI rfl _ _ 52 52 rfl _ _ (by simp [Act.eval,Act.put]) (by simp [Act.eval,Act.put]) (hap _) ?_)
 go_wp2
 go_ret
 exact ⟨rfl,rfl⟩
def V6:Gp Tryz.prog 223 37 3:=by
 intro blk cap i j n A w W1 W2 hA hap hcl hcap hm hi hic hij hjc hjn
 have mixed:=mix
 have t25:=Tryz.underlying37
 go_enter Tryz.func223,Tryz.ntmps223
 go_wp2_with fail
 go_region_law_o (refine jI rfl _ _ 37 37 rfl _ _ (by simp [Act.eval,Act.put]) (by simp [Act.eval,Act.put]) (hap _) ?_)
 go_wp2
 go_ret
 exact ⟨rfl,rfl⟩
def V7:Gp Tryz.prog 228 38 3:=by
 intro blk cap i j n A w W1 W2 hA hap hcl hcap hm hi hic hij hjc hjn
 have mixed:=mix
 have t25:=Tryz.underlying38
 go_enter Tryz.func228,Tryz.ntmps228
 go_wp2_with fail
 go_region_law_o (refine jI rfl _ _ 38 38 rfl _ _ (by simp [Act.eval,Act.put]) (by simp [Act.eval,Act.put]) (hap _) ?_)
 go_wp2
 go_ret
 exact ⟨rfl,rfl⟩
def ZG:uC Tryz.prog 256 290 29 6:=by
 intro b n c i vb voff vc vs w W1 hov hcp1 hcp2 hi hroom hc63 hz2 hw1 hb1 hin htn hb2 hb3 hb4
 have mixed:=mix
 have t25:=Tryz.underlying29
 go_enter Tryz.func256,Tryz.ntmps256
 go_wp2_with (simp only [hov])
 go_region_law_o (refine fY rfl _ _ 29 29 rfl _ _ (by simp [Act.eval,Act.put]) (by simp [Act.eval,Act.put]) (hcp1 _ _ _) ?_)
 go_wp2_with (at_builtin; refine cU _ rfl _ _ 29 29 rfl _ _ rfl rfl (hcp2 _ (fun _=>rfl) (fun _=>rfl) _ _) ?_)
 go_ret
 exact ⟨rfl,rfl⟩
def Pu:En Tryz.prog 256 29:=by
 intro base n c vb voff vc V w W hrun hnc hroom hnil
 have t25:=Tryz.underlying29
 go_enter Tryz.func256,Tryz.ntmps256
 cases base with
 |none =>
  have h0:=hnil rfl
  subst h0
  go_wp2_with (at_builtin; refine Lib.wpList_append_run _ rfl _ _ _ _ rfl _ _ rfl rfl _ _ (hrun _) ?_)
  go_ret
  exact ⟨rfl,rfl⟩
 |some a =>
  obtain ⟨ab,ao,asp⟩:=a
  go_wp2_with (at_builtin; refine Lib.wpList_append_run _ rfl _ _ _ _ rfl _ _ rfl rfl _ _ (hrun _) ?_)
  all_goals (go_ret; exact ⟨rfl,rfl⟩)
def WI:zd Tryz.prog 256 29 54 6:=by
 intro b n c i G vb voff vc ROW vs ds w hrz hcpA hcpB hE1 hE2 hF1 hF2 hi hnc hroom hz2 hz3 hGn hG63 hGi hGim hci hw1 hb1 hin htn hb3 hle
 have mixed:=mix
 have t25:=Tryz.underlying29
 go_enter Tryz.func256,Tryz.ntmps256
 go_wp2_with (first
  |(at_builtin; refine Lib.wpList_append_run _ rfl _ _ _ _ rfl _ _ rfl rfl _ _ (hrz _) ?_)
  |(at_builtin; refine cU _ rfl _ _ 29 29 rfl _ _ rfl rfl (hcpA _ hE1 hE2 _ _) ?_)
  |(at_builtin; refine cU _ rfl _ _ 29 29 rfl _ _ rfl rfl (hcpB _ (fun _=>rfl) (fun _=>rfl) _ _ _) ?_))
 go_region_law_o (refine fY rfl _ _ 29 29 rfl (.slice (some ⟨w.heap.size,(i+1)*6,none⟩) (n+1-(i+1)) (G-(i+1))) (.slice (some ⟨b,i*6,none⟩) (n-i) (c-i)) (by simp [Act.eval,Act.put]) (by simp [Act.eval,Act.put]) (hcpB _ hF1 hF2 3 (G-(i+1)) (c-i)) ?_)
 go_wp2
 go_ret
 exact ⟨rfl,rfl⟩
def ZH:uC Tryz.prog 257 292 52 3:=by
 intro b n c i vb voff vc vs w W1 hov hcp1 hcp2 hi hroom hc63 hz2 hw1 hb1 hin htn hb2 hb3 hb4
 have mixed:=mix
 have t25:=Tryz.underlying52
 go_enter Tryz.func257,Tryz.ntmps257
 go_wp2_with (simp only [hov])
 go_region_law_o (refine fY rfl _ _ 52 52 rfl _ _ (by simp [Act.eval,Act.put]) (by simp [Act.eval,Act.put]) (hcp1 _ _ _) ?_)
 go_wp2_with (at_builtin; refine cU _ rfl _ _ 52 52 rfl _ _ rfl rfl (hcp2 _ (fun _=>rfl) (fun _=>rfl) _ _) ?_)
 go_ret
 exact ⟨rfl,rfl⟩
def Pv:En Tryz.prog 257 52:=by
 intro base n c vb voff vc V w W hrun hnc hroom hnil
 have t25:=Tryz.underlying52
 go_enter Tryz.func257,Tryz.ntmps257
 cases base with
 |none =>
  have h0:=hnil rfl
  subst h0
  go_wp2_with (at_builtin; refine Lib.wpList_append_run _ rfl _ _ _ _ rfl _ _ rfl rfl _ _ (hrun _) ?_)
  go_ret
  exact ⟨rfl,rfl⟩
 |some a =>
  obtain ⟨ab,ao,asp⟩:=a
  go_wp2_with (at_builtin; refine Lib.wpList_append_run _ rfl _ _ _ _ rfl _ _ rfl rfl _ _ (hrun _) ?_)
  all_goals (go_ret; exact ⟨rfl,rfl⟩)
def WJ:zd Tryz.prog 257 52 95 3:=by
 intro b n c i G vb voff vc ROW vs ds w hrz hcpA hcpB hE1 hE2 hF1 hF2 hi hnc hroom hz2 hz3 hGn hG63 hGi hGim hci hw1 hb1 hin htn hb3 hle
 have mixed:=mix
 have t25:=Tryz.underlying52
 go_enter Tryz.func257,Tryz.ntmps257
 go_wp2_with (first
  |(at_builtin; refine Lib.wpList_append_run _ rfl _ _ _ _ rfl _ _ rfl rfl _ _ (hrz _) ?_)
  |(at_builtin; refine cU _ rfl _ _ 52 52 rfl _ _ rfl rfl (hcpA _ hE1 hE2 _ _) ?_)
  |(at_builtin; refine cU _ rfl _ _ 52 52 rfl _ _ rfl rfl (hcpB _ (fun _=>rfl) (fun _=>rfl) _ _ _) ?_))
 go_region_law_o (refine fY rfl _ _ 52 52 rfl (.slice (some ⟨w.heap.size,(i+1)*3,none⟩) (n+1-(i+1)) (G-(i+1))) (.slice (some ⟨b,i*3,none⟩) (n-i) (c-i)) (by simp [Act.eval,Act.put]) (by simp [Act.eval,Act.put]) (hcpB _ hF1 hF2 3 (G-(i+1)) (c-i)) ?_)
 go_wp2
 go_ret
 exact ⟨rfl,rfl⟩
def ZE:uC Tryz.prog 219 268 37 3:=by
 intro b n c i vb voff vc vs w W1 hov hcp1 hcp2 hi hroom hc63 hz2 hw1 hb1 hin htn hb2 hb3 hb4
 have mixed:=mix
 have t25:=Tryz.underlying37
 go_enter Tryz.func219,Tryz.ntmps219
 go_wp2_with (simp only [hov])
 go_region_law_o (refine fY rfl _ _ 37 37 rfl _ _ (by simp [Act.eval,Act.put]) (by simp [Act.eval,Act.put]) (hcp1 _ _ _) ?_)
 go_wp2_with (at_builtin; refine cU _ rfl _ _ 37 37 rfl _ _ rfl rfl (hcp2 _ (fun _=>rfl) (fun _=>rfl) _ _) ?_)
 go_ret
 exact ⟨rfl,rfl⟩
def Ps:En Tryz.prog 219 37:=by
 intro base n c vb voff vc V w W hrun hnc hroom hnil
 have t25:=Tryz.underlying37
 go_enter Tryz.func219,Tryz.ntmps219
 cases base with
 |none =>
  have h0:=hnil rfl
  subst h0
  go_wp2_with (at_builtin; refine Lib.wpList_append_run _ rfl _ _ _ _ rfl _ _ rfl rfl _ _ (hrun _) ?_)
  go_ret
  exact ⟨rfl,rfl⟩
 |some a =>
  obtain ⟨ab,ao,asp⟩:=a
  go_wp2_with (at_builtin; refine Lib.wpList_append_run _ rfl _ _ _ _ rfl _ _ rfl rfl _ _ (hrun _) ?_)
  all_goals (go_ret; exact ⟨rfl,rfl⟩)
def WG:zd Tryz.prog 219 37 58 3:=by
 intro b n c i G vb voff vc ROW vs ds w hrz hcpA hcpB hE1 hE2 hF1 hF2 hi hnc hroom hz2 hz3 hGn hG63 hGi hGim hci hw1 hb1 hin htn hb3 hle
 have mixed:=mix
 have t25:=Tryz.underlying37
 go_enter Tryz.func219,Tryz.ntmps219
 go_wp2_with (first
  |(at_builtin; refine Lib.wpList_append_run _ rfl _ _ _ _ rfl _ _ rfl rfl _ _ (hrz _) ?_)
  |(at_builtin; refine cU _ rfl _ _ 37 37 rfl _ _ rfl rfl (hcpA _ hE1 hE2 _ _) ?_)
  |(at_builtin; refine cU _ rfl _ _ 37 37 rfl _ _ rfl rfl (hcpB _ (fun _=>rfl) (fun _=>rfl) _ _ _) ?_))
 go_region_law_o (refine fY rfl _ _ 37 37 rfl (.slice (some ⟨w.heap.size,(i+1)*3,none⟩) (n+1-(i+1)) (G-(i+1))) (.slice (some ⟨b,i*3,none⟩) (n-i) (c-i)) (by simp [Act.eval,Act.put]) (by simp [Act.eval,Act.put]) (hcpB _ hF1 hF2 3 (G-(i+1)) (c-i)) ?_)
 go_wp2
 go_ret
 exact ⟨rfl,rfl⟩
def ZF:uC Tryz.prog 229 270 38 3:=by
 intro b n c i vb voff vc vs w W1 hov hcp1 hcp2 hi hroom hc63 hz2 hw1 hb1 hin htn hb2 hb3 hb4
 have mixed:=mix
 have t25:=Tryz.underlying38
 go_enter Tryz.func229,Tryz.ntmps229
 go_wp2_with (simp only [hov])
 go_region_law_o (refine fY rfl _ _ 38 38 rfl _ _ (by simp [Act.eval,Act.put]) (by simp [Act.eval,Act.put]) (hcp1 _ _ _) ?_)
 go_wp2_with (at_builtin; refine cU _ rfl _ _ 38 38 rfl _ _ rfl rfl (hcp2 _ (fun _=>rfl) (fun _=>rfl) _ _) ?_)
 go_ret
 exact ⟨rfl,rfl⟩
def Pt:En Tryz.prog 229 38:=by
 intro base n c vb voff vc V w W hrun hnc hroom hnil
 have t25:=Tryz.underlying38
 go_enter Tryz.func229,Tryz.ntmps229
 cases base with
 |none =>
  have h0:=hnil rfl
  subst h0
  go_wp2_with (at_builtin; refine Lib.wpList_append_run _ rfl _ _ _ _ rfl _ _ rfl rfl _ _ (hrun _) ?_)
  go_ret
  exact ⟨rfl,rfl⟩
 |some a =>
  obtain ⟨ab,ao,asp⟩:=a
  go_wp2_with (at_builtin; refine Lib.wpList_append_run _ rfl _ _ _ _ rfl _ _ rfl rfl _ _ (hrun _) ?_)
  all_goals (go_ret; exact ⟨rfl,rfl⟩)
def WH:zd Tryz.prog 229 38 67 3:=by
 intro b n c i G vb voff vc ROW vs ds w hrz hcpA hcpB hE1 hE2 hF1 hF2 hi hnc hroom hz2 hz3 hGn hG63 hGi hGim hci hw1 hb1 hin htn hb3 hle
 have mixed:=mix
 have t25:=Tryz.underlying38
 go_enter Tryz.func229,Tryz.ntmps229
 go_wp2_with (first
  |(at_builtin; refine Lib.wpList_append_run _ rfl _ _ _ _ rfl _ _ rfl rfl _ _ (hrz _) ?_)
  |(at_builtin; refine cU _ rfl _ _ 38 38 rfl _ _ rfl rfl (hcpA _ hE1 hE2 _ _) ?_)
  |(at_builtin; refine cU _ rfl _ _ 38 38 rfl _ _ rfl rfl (hcpB _ (fun _=>rfl) (fun _=>rfl) _ _ _) ?_))
 go_region_law_o (refine fY rfl _ _ 38 38 rfl (.slice (some ⟨w.heap.size,(i+1)*3,none⟩) (n+1-(i+1)) (G-(i+1))) (.slice (some ⟨b,i*3,none⟩) (n-i) (c-i)) (by simp [Act.eval,Act.put]) (by simp [Act.eval,Act.put]) (hcpB _ hF1 hF2 3 (G-(i+1)) (c-i)) ?_)
 go_wp2
 go_ret
 exact ⟨rfl,rfl⟩
end
def EI {args:List ae} {M:ag} {x:ae×ag} (h:fg 3 32 args M=some x):ba Tryz.prog 214 args M x:=jN (by omega) (by omega) (kJ Ca V1) (ju Ca VT) h
def EK {args:List ae} {M:ag} {x:ae×ag} (h:fg 6 80 args M=some x):ba Tryz.prog 255 args M x:=jN (by omega) (by omega) (kJ B7 V5) (ju B7 VX) h
def EJ {args:List ae} {M:ag} {x:ae×ag} (h:fg 3 24 args M=some x):ba Tryz.prog 220 args M x:=jN (by omega) (by omega) (kJ B8 V2) (ju B8 VU) h
def EH {args:List ae} {M:ag} {x:ae×ag} (h:fg 3 24 args M=some x):ba Tryz.prog 202 args M x:=jN (by omega) (by omega) (kJ B9 V0) (ju B9 VR) h
def BP {args:List ae} {M:ag} {x:ae×ag} (h:jH 8 96 args M=some x):ba Tryz.prog 224 args M x:=qS (by omega) (by omega) (kJ MP V3) (ju MP VV) h
def BQ {args:List ae} {M:ag} {x:ae×ag} (h:jH 3 24 args M=some x):ba Tryz.prog 230 args M x:=qS (by omega) (by omega) (kJ MQ V4) (ju MQ VW) h
def QV {args:List ae} {M:ag} {x:ae×ag} (h:S7 1 1 args M=some x):ba Tryz.prog 139 args M x:=GJ (by omega) (by omega) (kJ MO VZ) (ju MO VQ) h
def ET {args:List ae} {M:ag} {x:ae×ag} (h:eB 6 args M=some x):ba Tryz.prog 294 args M x:=kg (sz:=6) (z:=(Value.agg #[.int .i64 0,.int .i64 0,.int .i64 0,.slice none 0 0,.slice none 0 0,.int .i64 0]).cells.toList) (by omega) rfl (yi B7 V9) h
def ES {args:List ae} {M:ag} {x:ae×ag} (h:eB 3 args M=some x):ba Tryz.prog 260 args M x:=kg (sz:=3) (z:=(Value.agg #[.string ⟨#[]⟩,.int .i64 0,.int .i64 0]).cells.toList) (by omega) rfl (yi Ca V8) h
def EP {args:List ae} {M:ag} {x:ae×ag} (h:eB 3 args M=some x):ba Tryz.prog 223 args M x:=kg (sz:=3) (z:=(Value.agg #[.int .i64 0,.int .i64 0,.int .i64 0]).cells.toList) (by omega) rfl (yi B8 V6) h
def ER {args:List ae} {M:ag} {x:ae×ag} (h:eB 3 args M=some x):ba Tryz.prog 228 args M x:=kg (sz:=3) (z:=(Value.agg #[.int .i64 0,.int .i64 0,.int .i64 0]).cells.toList) (by omega) rfl (yi B9 V7) h
def Ff {args:List ae} {M:ag} {x:ae×ag} (h:ef 6 80 args M=some x):ba Tryz.prog 256 args M x:=ki (by omega) (by omega) (uq B7 Tryz.underlying3 (fun args w=>run_callFunc_extern Tryz.func290 (by kernel_rfl) (by kernel_rfl) (by kernel_rfl) (by kernel_rfl) args w) ZG Pu WI) (ur B7 (by omega) Pu) h
def Fg {args:List ae} {M:ag} {x:ae×ag} (h:ef 3 32 args M=some x):ba Tryz.prog 257 args M x:=ki (by omega) (by omega) (uq Ca Tryz.underlying3 (fun args w=>run_callFunc_extern Tryz.func292 (by kernel_rfl) (by kernel_rfl) (by kernel_rfl) (by kernel_rfl) args w) ZH Pv WJ) (ur Ca (by omega) Pv) h
def Fc {args:List ae} {M:ag} {x:ae×ag} (h:ef 3 24 args M=some x):ba Tryz.prog 219 args M x:=ki (by omega) (by omega) (uq B8 Tryz.underlying3 (fun args w=>run_callFunc_extern Tryz.func268 (by kernel_rfl) (by kernel_rfl) (by kernel_rfl) (by kernel_rfl) args w) ZE Ps WG) (ur B8 (by omega) Ps) h
def Fe {args:List ae} {M:ag} {x:ae×ag} (h:ef 3 24 args M=some x):ba Tryz.prog 229 args M x:=ki (by omega) (by omega) (uq B9 Tryz.underlying3 (fun args w=>run_callFunc_extern Tryz.func270 (by kernel_rfl) (by kernel_rfl) (by kernel_rfl) (by kernel_rfl) args w) ZF Pt WH) (ur B9 (by omega) Pt) h
end
end Go.Proofs.YtahkjijkflobhaaGreatDoor
namespace Go.Proofs
section
open Go.Shelf
def Tryz.Bg:Go.Shelf.Ren:=⟨fun|6=>216|15=>242|14=>267|28=>284|29=>285|20=>297|21=>298|22=>299|23=>300|24=>301|25=>302|26=>303|27=>304|46=>320|47=>310|48=>311|49=>321|50=>322|57=>332|n=>n,fun|22=>52|24=>95|25=>267|3=>3|39=>287|0=>0|53=>321|55=>323|4=>4|46=>315|45=>314|50=>141|5=>5|9=>9|66=>334|70=>338|76=>351|77=>64|n=>n,fun|n=>n⟩
def Tryz.D7:Go.Proofs.SlLaysF0.n6 Tryz.prog Tryz.Bg:={
 mixed:=by kernel_rfl
 f6:=⟨Tryz.f216.name,by decide,Tryz.func216.trans (congrArg some (by kernel_rfl))⟩
 f14:=⟨Tryz.f267.name,by decide,Tryz.func267.trans (congrArg some (by kernel_rfl))⟩
 f15:=Tryz.func242.trans (congrArg some (by kernel_rfl))
 f20:=⟨Tryz.f297.name,by decide,Tryz.func297.trans (congrArg some (by kernel_rfl))⟩
 f21:=⟨Tryz.f298.name,by decide,Tryz.func298.trans (congrArg some (by kernel_rfl))⟩
 f22:=⟨Tryz.f299.name,by decide,Tryz.func299.trans (congrArg some (by kernel_rfl))⟩
 f23:=⟨Tryz.f300.name,by decide,Tryz.func300.trans (congrArg some (by kernel_rfl))⟩
 f24:=⟨Tryz.f301.name,by decide,Tryz.func301.trans (congrArg some (by kernel_rfl))⟩
 f25:=⟨Tryz.f302.name,by decide,Tryz.func302.trans (congrArg some (by kernel_rfl))⟩
 f26:=⟨Tryz.f303.name,by decide,Tryz.func303.trans (congrArg some (by kernel_rfl))⟩
 f27:=⟨Tryz.f304.name,by decide,Tryz.func304.trans (congrArg some (by kernel_rfl))⟩
 f28:=Tryz.func284.trans (congrArg some (by kernel_rfl))
 f29:=Tryz.func285.trans (congrArg some (by kernel_rfl))
 f46:=⟨Tryz.f320.name,by decide,Tryz.func320.trans (congrArg some (by kernel_rfl))⟩
 f47:=Tryz.func310.trans (congrArg some (by kernel_rfl))
 f48:=Tryz.func311.trans (congrArg some (by kernel_rfl))
 f49:=⟨Tryz.f321.name,by decide,Tryz.func321.trans (congrArg some (by kernel_rfl))⟩
 f50:=⟨Tryz.f322.name,by decide,Tryz.func322.trans (congrArg some (by kernel_rfl))⟩
 f57:=⟨Tryz.f332.name,by decide,Tryz.func332.trans (congrArg some (by kernel_rfl))⟩
 t0:=Tryz.underlying0
 a0:=Tryz.isAgg0
 z0:=Tryz.sizeOf0
 v0:=Tryz.zeroValue0
 t3:=Tryz.underlying3
 a3:=Tryz.isAgg3
 z3:=Tryz.sizeOf3
 v3:=Tryz.zeroValue3
 t4:=Tryz.underlying4
 a4:=Tryz.isAgg4
 z4:=Tryz.sizeOf4
 v4:=Tryz.zeroValue4
 t5:=Tryz.underlying5
 a5:=Tryz.isAgg5
 z5:=Tryz.sizeOf5
 v5:=Tryz.zeroValue5
 t9:=Tryz.underlying9
 a9:=Tryz.isAgg9
 z9:=Tryz.sizeOf9
 v9:=Tryz.zeroValue9
 t22:=Tryz.underlying52
 a22:=Tryz.isAgg52
 z22:=Tryz.sizeOf52
 v22:=Tryz.zeroValue52
 t25:=Tryz.underlying267
 a25:=Tryz.isAgg267
 z25:=Tryz.sizeOf267
 v25:=Tryz.zeroValue267
 t39:=Tryz.underlying287
 a39:=Tryz.isAgg287
 z39:=Tryz.sizeOf287
 v39:=Tryz.zeroValue287
 t45:=Tryz.underlying314
 a45:=Tryz.isAgg314
 z45:=Tryz.sizeOf314
 v45:=Tryz.zeroValue314
 t46:=Tryz.underlying315
 a46:=Tryz.isAgg315
 z46:=Tryz.sizeOf315
 v46:=Tryz.zeroValue315
 t50:=Tryz.underlying141
 a50:=Tryz.isAgg141
 z50:=Tryz.sizeOf141
 v50:=Tryz.zeroValue141
 t53:=Tryz.underlying321
 a53:=Tryz.isAgg321
 z53:=Tryz.sizeOf321
 v53:=Tryz.zeroValue321
 t55:=Tryz.underlying323
 a55:=Tryz.isAgg323
 z55:=Tryz.sizeOf323
 v55:=Tryz.zeroValue323
 t66:=Tryz.underlying334
 a66:=Tryz.isAgg334
 z66:=Tryz.sizeOf334
 v66:=Tryz.zeroValue334
 t70:=Tryz.underlying338
 a70:=Tryz.isAgg338
 z70:=Tryz.sizeOf338
 v70:=Tryz.zeroValue338
 t76:=Tryz.underlying351
 a76:=Tryz.isAgg351
 z76:=Tryz.sizeOf351
 v76:=Tryz.zeroValue351
 t77:=Tryz.underlying64
 a77:=Tryz.isAgg64
 z77:=Tryz.sizeOf64
 v77:=Tryz.zeroValue64 }
def Tryz.yT:Go.Shelf.Ren:=⟨fun|6=>158|15=>242|14=>241|28=>284|29=>285|20=>276|21=>277|22=>278|23=>279|24=>280|25=>281|26=>282|27=>283|46=>309|47=>310|48=>311|49=>312|50=>313|57=>327|n=>n,fun|22=>29|24=>54|25=>216|3=>3|39=>287|0=>0|53=>321|55=>323|4=>4|46=>315|45=>314|50=>141|5=>5|9=>9|66=>334|70=>338|76=>351|77=>64|n=>n,fun|n=>n⟩
def Tryz.Bi:Go.Proofs.SlLaysF0.n6 Tryz.prog Tryz.yT:={
 mixed:=by kernel_rfl
 f6:=⟨Tryz.f158.name,by decide,Tryz.func158.trans (congrArg some (by kernel_rfl))⟩
 f14:=⟨Tryz.f241.name,by decide,Tryz.func241.trans (congrArg some (by kernel_rfl))⟩
 f15:=Tryz.func242.trans (congrArg some (by kernel_rfl))
 f20:=⟨Tryz.f276.name,by decide,Tryz.func276.trans (congrArg some (by kernel_rfl))⟩
 f21:=⟨Tryz.f277.name,by decide,Tryz.func277.trans (congrArg some (by kernel_rfl))⟩
 f22:=⟨Tryz.f278.name,by decide,Tryz.func278.trans (congrArg some (by kernel_rfl))⟩
 f23:=⟨Tryz.f279.name,by decide,Tryz.func279.trans (congrArg some (by kernel_rfl))⟩
 f24:=⟨Tryz.f280.name,by decide,Tryz.func280.trans (congrArg some (by kernel_rfl))⟩
 f25:=⟨Tryz.f281.name,by decide,Tryz.func281.trans (congrArg some (by kernel_rfl))⟩
 f26:=⟨Tryz.f282.name,by decide,Tryz.func282.trans (congrArg some (by kernel_rfl))⟩
 f27:=⟨Tryz.f283.name,by decide,Tryz.func283.trans (congrArg some (by kernel_rfl))⟩
 f28:=Tryz.func284.trans (congrArg some (by kernel_rfl))
 f29:=Tryz.func285.trans (congrArg some (by kernel_rfl))
 f46:=⟨Tryz.f309.name,by decide,Tryz.func309.trans (congrArg some (by kernel_rfl))⟩
 f47:=Tryz.func310.trans (congrArg some (by kernel_rfl))
 f48:=Tryz.func311.trans (congrArg some (by kernel_rfl))
 f49:=⟨Tryz.f312.name,by decide,Tryz.func312.trans (congrArg some (by kernel_rfl))⟩
 f50:=⟨Tryz.f313.name,by decide,Tryz.func313.trans (congrArg some (by kernel_rfl))⟩
 f57:=⟨Tryz.f327.name,by decide,Tryz.func327.trans (congrArg some (by kernel_rfl))⟩
 t0:=Tryz.underlying0
 a0:=Tryz.isAgg0
 z0:=Tryz.sizeOf0
 v0:=Tryz.zeroValue0
 t3:=Tryz.underlying3
 a3:=Tryz.isAgg3
 z3:=Tryz.sizeOf3
 v3:=Tryz.zeroValue3
 t4:=Tryz.underlying4
 a4:=Tryz.isAgg4
 z4:=Tryz.sizeOf4
 v4:=Tryz.zeroValue4
 t5:=Tryz.underlying5
 a5:=Tryz.isAgg5
 z5:=Tryz.sizeOf5
 v5:=Tryz.zeroValue5
 t9:=Tryz.underlying9
 a9:=Tryz.isAgg9
 z9:=Tryz.sizeOf9
 v9:=Tryz.zeroValue9
 t22:=Tryz.underlying29
 a22:=Tryz.isAgg29
 z22:=Tryz.sizeOf29
 v22:=Tryz.zeroValue29
 t25:=Tryz.underlying216
 a25:=Tryz.isAgg216
 z25:=Tryz.sizeOf216
 v25:=Tryz.zeroValue216
 t39:=Tryz.underlying287
 a39:=Tryz.isAgg287
 z39:=Tryz.sizeOf287
 v39:=Tryz.zeroValue287
 t45:=Tryz.underlying314
 a45:=Tryz.isAgg314
 z45:=Tryz.sizeOf314
 v45:=Tryz.zeroValue314
 t46:=Tryz.underlying315
 a46:=Tryz.isAgg315
 z46:=Tryz.sizeOf315
 v46:=Tryz.zeroValue315
 t50:=Tryz.underlying141
 a50:=Tryz.isAgg141
 z50:=Tryz.sizeOf141
 v50:=Tryz.zeroValue141
 t53:=Tryz.underlying321
 a53:=Tryz.isAgg321
 z53:=Tryz.sizeOf321
 v53:=Tryz.zeroValue321
 t55:=Tryz.underlying323
 a55:=Tryz.isAgg323
 z55:=Tryz.sizeOf323
 v55:=Tryz.zeroValue323
 t66:=Tryz.underlying334
 a66:=Tryz.isAgg334
 z66:=Tryz.sizeOf334
 v66:=Tryz.zeroValue334
 t70:=Tryz.underlying338
 a70:=Tryz.isAgg338
 z70:=Tryz.sizeOf338
 v70:=Tryz.zeroValue338
 t76:=Tryz.underlying351
 a76:=Tryz.isAgg351
 z76:=Tryz.sizeOf351
 v76:=Tryz.zeroValue351
 t77:=Tryz.underlying64
 a77:=Tryz.isAgg64
 z77:=Tryz.sizeOf64
 v77:=Tryz.zeroValue64 }
def Tryz.BT:Go.Shelf.Ren:=⟨fun|5=>154|7=>239|n=>n,fun|22=>3|3=>3|4=>4|n=>n,fun|n=>n⟩
def Tryz.GK:Go.Proofs.SlLaysC2.n5 Tryz.prog Tryz.BT:={
 mixed:=by kernel_rfl
 f5:=⟨Tryz.f154.name,by decide,Tryz.func154.trans (congrArg some (by kernel_rfl))⟩
 f7:=⟨Tryz.f239.name,by decide,Tryz.func239.trans (congrArg some (by kernel_rfl))⟩
 t3:=Tryz.underlying3
 a3:=Tryz.isAgg3
 z3:=Tryz.sizeOf3
 v3:=Tryz.zeroValue3
 t4:=Tryz.underlying4
 a4:=Tryz.isAgg4
 z4:=Tryz.sizeOf4
 v4:=Tryz.zeroValue4
 t22:=Tryz.underlying3
 a22:=Tryz.isAgg3
 z22:=Tryz.sizeOf3
 v22:=Tryz.zeroValue3 }
end
end Go.Proofs
namespace Go.Proofs.YtahkjijkflobhaaGreatDoor
section
open Go Go.Shelf Go.RowKit Go.Lib Go.Sort
set_option maxHeartbeats 1000000 in
def BS (v0 v1 u0 u1:Value) (x y:Int) (W:World):Calls Tryz.prog 217 #[.agg #[v0,v1,.int .i64 x],.agg #[u0,u1,.int .i64 y]] W fun e w'=>e = .returned (.int .i64 (Lib.compareInt x y))/\∃q os',w'=grow (W.drewN q) os':=by
 have hcon:=fun W'=>AnyG.cmp_Compare_int Tryz.GK x y W'
 change ∀W',Calls Tryz.prog 154 _ _ _ at hcon
 generalize Lib.compareInt x y=r at hcon ⊢
 go_enter Tryz.func217,Tryz.ntmps217
 go_wp2_with (go_at_call 154; refine (hcon _).mono ?_; rintro e w' ⟨rfl,rfl⟩)
 go_ret
 exact ⟨rfl,0,_,by rw [alloc_eq_grow,alloc_eq_grow,grow_grow]; rfl⟩
set_option maxHeartbeats 1000000 in
def BR (v1 v2 v3 v4 v5 u1 u2 u3 u4 u5:Value) (x y:Int) (W:World):Calls Tryz.prog 159 #[.agg #[.int .i64 x,v1,v2,v3,v4,v5],.agg #[.int .i64 y,u1,u2,u3,u4,u5]] W fun e w'=>e = .returned (.int .i64 (Lib.compareInt x y))/\∃q os',w'=grow (W.drewN q) os':=by
 have hcon:=fun W'=>AnyG.cmp_Compare_int Tryz.GK x y W'
 change ∀W',Calls Tryz.prog 154 _ _ _ at hcon
 generalize Lib.compareInt x y=r at hcon ⊢
 go_enter Tryz.func159,Tryz.ntmps159
 go_wp2_with (go_at_call 154; refine (hcon _).mono ?_; rintro e w' ⟨rfl,rfl⟩)
 go_ret
 exact ⟨rfl,0,_,by rw [alloc_eq_grow,alloc_eq_grow,grow_grow]; rfl⟩
structure EL (sz p:Nat) where
 l:List Value
 hl:l.length=sz
 h1:∀v∈l,v.oneCell'=true
 n:Int
 hn:l[p]?=some (.int .i64 n)
def Pk {sz p:Nat} (a b:EL sz p):Int:=Lib.compareInt a.n b.n
def ZW {sz p:Nat} (x y:EL sz p):ltOf Pk x y=decide (x.n<y.n):=by
 unfold ltOf Pk Lib.compareInt
 by_cases h1:x.n<y.n
 ·simp [h1]
 ·by_cases h2:y.n<x.n<;>simp [h1,h2]
def ZI {sz p:Nat}:SWO (ltOf (Pk (sz:=sz) (p:=p))) where
 irrefl x:=by rw [ZW]; simp
 trans x y z h1 h2:=by rw [ZW] at *; simp at *; omega
 ntrans x y z h1 h2:=by rw [ZW] at *; simp at *; omega
def BV [Inhabited (EL 3 2)] (blk off size:Nat) (w:World):CmpLays Tryz.prog 217 #[] (EL.l (sz:=3) (p:=2)) 3 Pk blk off size w:=fun _ _ _ _ x y=>by
 obtain ⟨l,hl,h1,n,hn⟩:=x
 obtain ⟨l',hl',h1',n',hn'⟩:=y
 match l,hl,hn,l',hl',hn' with
 | [a,b,c],_,hn,[a',b',c'],_,hn' =>
  injection hn with hn; subst hn
  injection hn' with hn'; subst hn'
  exact BS a b a' b' n n' _
def BU [Inhabited (EL 6 0)] (blk off size:Nat) (w:World):CmpLays Tryz.prog 159 #[] (EL.l (sz:=6) (p:=0)) 6 Pk blk off size w:=fun _ _ _ _ x y=>by
 obtain ⟨l,hl,h1,n,hn⟩:=x
 obtain ⟨l',hl',h1',n',hn'⟩:=y
 match l,hl,hn,l',hl',hn' with
 | [a,b,c,d,e,f],_,hn,[a',b',c',d',e',f'],_,hn' =>
  injection hn with hn; subst hn
  injection hn' with hn'; subst hn'
  exact BR b c d e f b' c' d' e' f' n n' _
end
end Go.Proofs.YtahkjijkflobhaaGreatDoor
namespace Go.Abs
open Go
def IY (p:Nat) (x:ae):Option Int:=match x.cells[p]? with
 |some (.int .i64 n)=>some n
 |_=>none
def kj (p:Nat) (x:ae):Int:=(IY p x).getD 0
def vl (p:Nat) (x:ae):List ae->List ae
 | []=>[x]
 |y::r=>if kj p x<kj p y then x::y::r else y::vl p x r
def je (p:Nat):List ae->List ae
 | []=>[]
 |x::r=>vl p x (je p r)
def sv (p:Nat) (x:ae):∀l,(vl p x l).Perm (x::l)
 | [] => .refl _
 |y::r=>by
  rw [vl]
  split
  ·exact .refl _
  ·exact ((sv p x r).cons y).trans (.swap x y r)
def k8 (p:Nat):∀l,(je p l).Perm l
 | [] => .refl _
 |x::r=>(sv p x _).trans ((k8 p r).cons x)
def Dz (p:Nat) (x:ae):∀l:List ae,l.Pairwise (fun a b=>kj p a<=kj p b)->(vl p x l).Pairwise fun a b=>kj p a<=kj p b
 | [],_=>by simp [vl]
 |y::r,h=>by
  obtain ⟨h1,h2⟩:=List.pairwise_cons.1 h
  rw [vl]
  split
  ·rename_i hlt
   refine List.pairwise_cons.2 ⟨fun b hb=>?_,h⟩
   rcases List.mem_cons.1 hb with rfl|hb
   ·omega
   ·have:=h1 b hb; omega
  ·rename_i hge
   refine List.pairwise_cons.2 ⟨fun b hb=>?_,Dz p x r h2⟩
   rcases List.mem_cons.1 ((sv p x r).mem_iff.1 hb) with rfl|hb
   ·omega
   ·exact h1 b hb
def Bh (p:Nat):∀l,(je p l).Pairwise fun a b=>kj p a<=kj p b
 | [] => .nil
 |x::r=>Dz p x _ (Bh p r)
def zt:∀ {a b:List Int},a.Pairwise (· < ·)->b.Pairwise (· < ·)->(∀m,m∈a↔m∈b)->a=b
 | [],[],_,_,_=>rfl
 | [],y::b,_,_,h=>by have:=(h y).2 List.mem_cons_self; cases this
 |x::a,[],_,_,h=>by have:=(h x).1 List.mem_cons_self; cases this
 |x::a,y::b,ha,hb,h=>by
  obtain ⟨a1,a2⟩:=List.pairwise_cons.1 ha
  obtain ⟨b1,b2⟩:=List.pairwise_cons.1 hb
  have hxy:x=y:=by
   rcases List.mem_cons.1 ((h x).1 List.mem_cons_self) with h1|h1
   ·exact h1
   ·rcases List.mem_cons.1 ((h y).2 List.mem_cons_self) with h2|h2
    ·exact h2.symm
    ·have:=b1 x h1; have:=a1 y h2; omega
  subst hxy
  rw [zt a2 b2 (fun m=>?_)]
  constructor
  ·intro hm
   rcases List.mem_cons.1 ((h m).1 (List.mem_cons_of_mem _ hm)) with h1|h1
   ·subst h1; have:=a1 m hm; omega
   ·exact h1
  ·intro hm
   rcases List.mem_cons.1 ((h m).2 (List.mem_cons_of_mem _ hm)) with h1|h1
   ·subst h1; have:=b1 m hm; omega
   ·exact h1
def oj {l:List Int} (h:l.Pairwise (· <= ·)) (hn:l.Nodup):l.Pairwise (· < ·):=by
 have:=List.Pairwise.and h hn
 exact this.imp fun {a b} hab=>by have:=hab.1; have:=hab.2; omega
def KU {l:List Int} (h:l.Nodup) {i j:Nat} {a:Int} (hi:l[i]?=some a) (hj:l[j]?=some a):i=j:=by
 have hp:=List.pairwise_iff_getElem.1 h
 obtain ⟨h1,e1⟩:=List.getElem?_eq_some_iff.1 hi
 obtain ⟨h2,e2⟩:=List.getElem?_eq_some_iff.1 hj
 rcases Nat.lt_trichotomy i j with hh|hh|hh
 ·exact absurd (e1.trans e2.symm) (hp i j h1 h2 hh)
 ·exact hh
 ·exact absurd (e2.trans e1.symm) (hp j i h2 h1 hh)
def CV {α:Type} {p:Nat} {d d':List α} {xs:List ae} (key:α->Int) (hlen:d.length=xs.length) (hkey:∀(i:Nat) (a:α) (x:ae),d[i]?=some a->xs[i]?=some x->key a=kj p x) (hnd:(xs.map (kj p)).Nodup)
  (hperm:d'.Perm d) (hs:d'.Pairwise fun a b=>key a<=key b) {q:Nat} {y:ae} (hy:(je p xs)[q]?=some y):∃(i:Nat) (a:α),d'[q]?=some a/\d[i]?=some a/\xs[i]?=some y:=by
 have hmap:d.map key=xs.map (kj p):=by
  apply List.ext_getElem?
  intro i
  rw [List.getElem?_map,List.getElem?_map]
  rcases Nat.lt_or_ge i d.length with h|h
  ·have h':i<xs.length:=by omega
   rw [List.getElem?_eq_getElem h,List.getElem?_eq_getElem h']
   simp only [Option.map_some]
   rw [hkey i _ _ (List.getElem?_eq_getElem h) (List.getElem?_eq_getElem h')]
  ·rw [List.getElem?_eq_none h,List.getElem?_eq_none (by omega)]; rfl
 have p1:((je p xs).map (kj p)).Perm (xs.map (kj p)):=(k8 p xs).map _
 have p2:(d'.map key).Perm (xs.map (kj p)):=by rw [<-hmap]; exact hperm.map _
 have k1:((je p xs).map (kj p)).Pairwise (· < ·):=oj (List.pairwise_map.2 (Bh p xs)) (p1.nodup_iff.2 hnd)
 have k2:(d'.map key).Pairwise (· < ·):=oj (List.pairwise_map.2 hs) (p2.nodup_iff.2 hnd)
 have heq:=zt k1 k2 (fun m=>by rw [p1.mem_iff,p2.mem_iff])
 have h1:(d'.map key)[q]?=some (kj p y):=by rw [<-heq,List.getElem?_map,hy]; rfl
 rw [List.getElem?_map,Option.map_eq_some_iff] at h1
 obtain ⟨a,ha,hak⟩:=h1
 obtain ⟨i,hi⟩:=List.getElem?_of_mem (hperm.mem_iff.1 (List.mem_of_getElem? ha))
 have hil:=aj hi
 obtain ⟨j,hj⟩:=List.getElem?_of_mem ((k8 p xs).mem_iff.1 (List.mem_of_getElem? hy))
 have hx:=List.getElem?_eq_getElem (show i<xs.length by omega)
 have hk:=hkey i a _ hi hx
 have:i=j:=KU hnd (i:=i) (j:=j) (a:=kj p y) (by rw [List.getElem?_map,hx]; simp only [Option.map_some]; rw [<-hk,hak]) (by rw [List.getElem?_map,hj]; rfl)
 subst this
 exact ⟨i,a,ha,hi,hj⟩
noncomputable def lF (sz p g:Nat):List ae->ag->Option (ae×ag)
 | [.slice _ xs,.func g' cs],M=>match xs,cs with
  | [],[]=>if g'=g then some (.tuple [],M) else none
  |_,_=>none
 | [.aZ id ver sz' lo hi,.func g' cs],M=>match nth M id,cs with
  |some (.arr sz0 v xs),[]=>aV (v=ver/\sz'=sz/\lo=0/\hi<=xs.length/\g'=g/\hi<=1099511627776/\(∀x,x∈xs.take hi->(IY p x).isSome=true)/\((xs.take hi).map (kj p)).Nodup)
    (some (.tuple [],cS M id (.arr sz0 v (je p (xs.take hi)++xs.drop hi))))
  |_,_=>none
 |_,_=>none
end Go.Abs
namespace Go.Proofs.YtahkjijkflobhaaGreatDoor
open Go Go.Abs Go.Shelf Go.RowKit Go.Sort
def vX {sz p g f:Nat} (hp:p<sz)
  (h0:∀(A:Option Addr) (cap:Nat) (fv:Value) (w:World),Calls Tryz.prog f #[.slice A 0 cap,fv] w fun e w'=>e = .returned (.tuple #[])/\w'=w)
  (hS:∀ [Inhabited (EL sz p)] (blk cap:Nat) (d:Array (EL sz p)) (w:World),HoldsK EL.l sz w blk 0 d->blk<w.heap.size->d.size<4611686018427387904 ->
   Calls Tryz.prog f #[.slice (some ⟨blk,0,none⟩) d.size cap,.func (.func g) #[] #[]] w fun e w'=>e = .returned (.tuple #[])/\∃d' n os,PermIn 0 d.size d d'/\SortedIn (ltOf Pk) 0 d.size d'/\w'=sortWorldK EL.l sz w blk 0 n d' os)
  {args:List ae} {M:ag} {x:ae×ag} (h:lF sz p g args M=some x):ba Tryz.prog f args M x:=by
 unfold lF at h
 split at h
 ·rename_i tk xs g' cs
  split at h
  ·split at h
   ·rename_i hg
    subst hg
    injection h with h; subst h
    refine fL.call ?_
    intro j w vs hr hG hl hv
    obtain ⟨l⟩:=vs
    match l,hl with
    | [u1,u2],_ =>
     obtain ⟨A,cap,b,off,sz0,vs,e1,_⟩:=(hv 0 _ u1 rfl rfl).bg.bg
     subst e1
     refine (h0 A cap u2 w).mono ?_
     rintro e w' ⟨rfl,rfl⟩
     exact ⟨_,j,rfl,hr,Ext.refl _ _ _,.tuple rfl fun i c v hi=>by cases hi⟩
   ·cases h
  ·cases h
 ·rename_i ix ver sz' lo hi g' cs
  rw [bE] at h
  split at h
  ·rename_i sz0 v0 xs hM
   obtain ⟨⟨rfl,rfl,rfl,hhi,rfl,hbig,hk,hnd⟩,h1⟩:=aP h
   injection h1 with h1; subst h1
   refine fL.call ?_
   intro j w vs hr hG hl hv
   obtain ⟨l⟩:=vs
   match l,hl with
   | [u1,u2],_ =>
    have ha:=hv 0 _ u1 rfl rfl
    obtain ⟨us,hu2,hul,_⟩:=(hv 1 _ u2 rfl rfl).jR
    have hu0:us = #[]:=Array.eq_empty_of_size_eq_zero (by simpa using hul.symm)
    subst hu0
    rw [hu2]
    rcases Nat.eq_zero_or_pos hi with h00|hpos
    ·subst h00
     obtain ⟨A,cap,e1⟩:=ha.qv
     rw [e1]
     refine (h0 A cap _ w).mono ?_
     rintro e w' ⟨rfl,rfl⟩
     have he:cS M ix (.arr sz0 v0 (je p (xs.take 0)++xs.drop 0))=M:=by
      rw [cd]
      apply List.ext_getElem?
      intro q
      by_cases e:ix=q
      ·subst e; rw [aU (aj hM),hM]; rfl
      ·rw [aH e]
     rw [he]
     exact ⟨_,j,rfl,hr,Ext.refl _ _ _,.tuple rfl fun i c v hi=>by cases hi⟩
    ·obtain ⟨_,hid,_,gg⟩:=ha.gm
     obtain ⟨e1,_,_,⟨hx,_⟩|⟨b,cap,row,t0,l3,l4,l5,l6,l7⟩⟩:=(gg sz0 v0 xs hM).2 rfl
     ·subst hx; simp at hhi; omega
     subst e1
     obtain ⟨b',row0,t',k1,k2,k3,k4,k5⟩:=hr.qw hM l3
     rw [l3] at k1; injection k1 with k1; subst k1
     rw [l6] at k2; injection k2 with k2; injection k2 with k2 k2'
     subst k2; subst k2'
     have hrow:hi*sz0<=row.size:=Nat.le_trans (Nat.mul_le_mul_right _ hhi) k3
     -- the elements
     have hidx:∀q k,q<hi->k<sz0->q*sz0+k<hi*sz0:=fun q k hq hk'=>by
      have:(q+1)*sz0<=hi*sz0:=Nat.mul_le_mul_right _ hq
      rw [Nat.succ_mul] at this; omega
     have hel:∀q,q<hi->∃a:EL sz0 p,(∀k,k<sz0->a.l[k]?=row[q*sz0+k]?)/\∀x,xs[q]?=some x->a.n=kj p x:=by
      intro q hq
      have hxq:xs[q]?=some (xs[q]'(by omega)):=List.getElem?_eq_getElem (by omega)
      have hwq:=k4 _ (List.mem_of_getElem? hxq)
      have hcell:∀k,k<sz0->∃u,row[q*sz0+k]?=some u/\∃c,(xs[q]'(by omega)).cells[k]?=some c/\bF w (fJ j M w) c u:=fun k hk'=>by
       have hc:=List.getElem?_eq_getElem (l:=(xs[q]'(by omega)).cells) (i:=k) (by omega)
       obtain ⟨u,h1,h2⟩:=k5 q _ k _ hxq hc
       exact ⟨u,h1,_,hc,h2⟩
      have hkx:=hk _ (List.mem_of_getElem? (show (xs.take hi)[q]?=_ by rw [List.getElem?_take_of_lt hq]; exact hxq))
      have hlen:((row.toList.drop (q*sz0)).take sz0).length=sz0:=by
       have:=hidx q (sz0-1) hq (by omega)
       simp; omega
      have hget:∀k,k<sz0->((row.toList.drop (q*sz0)).take sz0)[k]?=row[q*sz0+k]?:=fun k hk'=>by
       rw [List.getElem?_take_of_lt hk',List.getElem?_drop]; simp
      obtain ⟨u,hu1,c,hc1,hc2⟩:=hcell p hp
      obtain ⟨n,hn⟩:∃n,c = .int .i64 n:=by
       unfold IY at hkx
       rw [hc1] at hkx
       split at hkx
       ·rename_i hh; injection hh with hh; exact ⟨_,hh⟩
       ·cases hkx
      subst hn
      have hu:=(bQ.plain (j:=j) (M:=M) hc2).bH
      subst hu
      refine ⟨⟨(row.toList.drop (q*sz0)).take sz0,hlen,fun v hv=>?_,n,by rw [hget p hp]; exact hu1⟩,hget,fun x hx=>?_⟩
      ·obtain ⟨k,hk'⟩:=List.getElem?_of_mem hv
       have hkl:k<sz0:=by rw [<-hlen]; exact aj hk'
       obtain ⟨u,h1,c,_,h3⟩:=hcell k hkl
       rw [hget k hkl,h1] at hk'; injection hk' with hk'; subst hk'
       exact h3.one
      ·rw [hxq] at hx; injection hx with hx; subst hx
       simp [kj,IY,hc1]
     obtain ⟨d,hdl,hd⟩:∃d:List (EL sz0 p),d.length=hi/\∀q a,d[q]?=some a->(∀k,k<sz0->a.l[k]?=row[q*sz0+k]?)/\∀x,xs[q]?=some x->a.n=kj p x:=by
      refine ⟨(List.finRange hi).map fun q=>(hel q.1 q.2).choose,by simp,fun q a ha=>?_⟩
      rw [List.getElem?_map,Option.map_eq_some_iff] at ha
      obtain ⟨i,hi',rfl⟩:=ha
      have hq:q<hi:=by have:=aj hi'; simpa using this
      have:i=⟨q,hq⟩:=by
       have h1:=(List.getElem?_eq_some_iff.1 hi').2
       rw [<-h1]; simp
      subst this
      exact (hel q hq).choose_spec
     haveI:Inhabited (EL sz0 p):=⟨(hel 0 hpos).choose⟩
     have hget! : ∀q,q<hi->d[q]?=some d.toArray[q]! := fun q hq=>by
      rw [List.getElem?_eq_getElem (by omega),getElem!_pos d.toArray q (by simpa [hdl] using hq)]
      simp
     have hfl:∀t,t<hi*sz0->row[t]?=some (d.toArray[t / sz0]!.l[t % sz0]!):=fun t ht=>by
      have hq:t / sz0<hi:=(Nat.div_lt_iff_lt_mul (by omega)).2 ht
      have hm:t % sz0<sz0:=Nat.mod_lt _ (by omega)
      have h1:=(hd _ _ (hget! _ hq)).1 _ hm
      rw [Nat.div_add_mod'] at h1
      rw [<-h1]
      have h2:t % sz0<d.toArray[t / sz0]!.l.length:=by rw [(d.toArray[t / sz0]!).hl]; exact hm
      rw [List.getElem?_eq_getElem h2,getElem!_pos (d.toArray[t / sz0]!.l) (t % sz0) h2]
     have hH:HoldsK EL.l sz0 w b 0 d.toArray:=fun t ht=>by
      simp only [size_flatK,List.size_toArray,hdl] at ht
      rw [get_flatK _ _ _ _ (by simpa [hdl] using ht)]
      refine ⟨?_,?_⟩
      ·simp only [Nat.zero_add,World.cell?,l6,id]
       exact hfl t ht
      ·simp [World.frozen?,l6]
     rw [l4,Nat.sub_zero,Nat.zero_mul]
     have hcall:=hS b cap d.toArray w hH (lt_of_block l6) (by simp [hdl]; omega)
     simp only [List.size_toArray,hdl] at hcall
     refine hcall.mono ?_
     rintro e1 w' ⟨rfl,d',n,os,hperm,hsort,rfl⟩
     obtain ⟨hs1,_,hs3⟩:=hperm
     simp only [List.size_toArray,hdl] at hs1
     have hperm':d'.toList.Perm d:=by
      have e1:(d'.extract 0 hi).toList=d'.toList:=by rw [<-hs1]; simp
      have e2:(d.toArray.extract 0 hi).toList=d:=by rw [<-hdl]; simp
      rw [e1,e2] at hs3; exact hs3
     have hpw:d'.toList.Pairwise fun a b=>a.n<=b.n:=by
      rw [List.pairwise_iff_getElem]
      intro i k hi1 hk1 hik
      have hk2:k<d'.size:=by simpa using hk1
      have:=hsort i k (Nat.zero_le _) hik (by omega)
      rw [ZW,getElem!_pos d' k hk2,getElem!_pos d' i (by omega)] at this
      simp at this ⊢
      omega
     have hmatch:∀(q:Nat) (y:ae),(je p (xs.take hi))[q]?=some y->∃(i:Nat) (a:EL sz0 p),d'.toList[q]?=some a/\d[i]?=some a/\(xs.take hi)[i]?=some y:=fun q y hy =>
      CV (fun a:EL sz0 p=>a.n) (by simp [hdl]; omega) (fun i a x h1 h2=>(hd i a h1).2 x (by
       have hlt:i<hi:=by have:=aj h2; simp at this; omega
       rwa [List.getElem?_take_of_lt hlt] at h2)) hnd hperm' hpw hy
     -- the world behind
     have hbk:(sortWorldK EL.l sz0 w b 0 n d' os).heap[b]?=some (.cells (Go.Sort.putCells id 0 (flatK EL.l sz0 d') row) t0 (0,0)):=by
      have hlt:=lt_of_block l6
      show ((w.heap.modify b (onCells (Go.Sort.putCells id 0 (flatK EL.l sz0 d'))))++os)[b]?=_
      rw [Array.getElem?_append_left (by simpa using hlt),Array.getElem?_modify,if_pos rfl,l6]
      rfl
     have hq:Quiet w (sortWorldK EL.l sz0 w b 0 n d' os):=⟨by show w.heap.size<=((w.heap.modify b _)++os).size; simp,rfl,rfl,rfl⟩
     have hoth:∀b',b'≠b->b'<w.heap.size->(sortWorldK EL.l sz0 w b 0 n d' os).heap[b']?=w.heap[b']?:=fun b' hne hlt=>by
      show ((w.heap.modify b _)++os)[b']?=_
      rw [Array.getElem?_append_left (by simpa using hlt),Array.getElem?_modify,if_neg (Ne.symm hne)]
     have hsl:(je p (xs.take hi)).length=hi:=by rw [(k8 p _).length_eq]; simp; omega
     have hwd:wid (je p (xs.take hi)++xs.drop hi) sz0:=fH (fun x hx=>k4 x (List.mem_of_mem_take ((k8 p _).mem_iff.1 hx))) (mM k4)
     have hcells:∀t,t<hi*sz0->(Go.Sort.putCells id 0 (flatK EL.l sz0 d') row)[t]?=some (d'[t / sz0]!.l[t % sz0]!):=fun t ht=>by
      unfold Go.Sort.putCells
      rw [Array.getElem?_mapIdx,Array.getElem?_eq_getElem (show t<row.size by omega)]
      simp only [Option.map_some,size_flatK,hs1,Nat.zero_add,Nat.sub_zero,Nat.zero_le,true_and,ht,if_true,id]
      rw [get_flatK _ _ _ _ (by rw [hs1]; exact ht)]
     have hrl:RL w (fJ j M w) (dD (je p (xs.take hi)++xs.drop hi)) ((Go.Sort.putCells id 0 (flatK EL.l sz0 d') row).toList.take (xs.length*sz0)):=by
      have hpsz:(Go.Sort.putCells id 0 (flatK EL.l sz0 d') row).size=row.size:=by simp [Go.Sort.putCells]
      refine oS (b:=b) (by rw [hpsz]; simpa [hsl,Nat.add_sub_cancel' hhi] using k3) hwd (fun q x k c hx hkc=>?_) |> fun h=>by
       have e:(je p (xs.take hi)++xs.drop hi).length=xs.length:=by simp [hsl]; omega
       rwa [e] at h
      have hkl:k<sz0:=by rw [<-hwd x (List.mem_of_getElem? hx)]; exact aj hkc
      rcases Nat.lt_or_ge q hi with hq'|hq'
      ·rw [List.getElem?_append_left (by rw [hsl]; exact hq')] at hx
       obtain ⟨i,a,h1,h2,h3⟩:=hmatch q x hx
       have hi':i<hi:=by have:=aj h3; simp at this; omega
       rw [List.getElem?_take_of_lt hi'] at h3
       obtain ⟨u,g1,g2⟩:=k5 i x k c h3 hkc
       refine ⟨u,?_,g2⟩
       rw [hcells _ (hidx q k hq' hkl)]
       have hdv:(q*sz0+k) / sz0=q:=by rw [Nat.mul_comm,Nat.mul_add_div (by omega),Nat.div_eq_of_lt hkl]; rfl
       have hmd:(q*sz0+k) % sz0=k:=by rw [Nat.mul_comm,Nat.mul_add_mod,Nat.mod_eq_of_lt hkl]
       rw [hdv,hmd]
       have ha':d'[q]! = a:=by
        have hq2:q<d'.size:=by omega
        rw [getElem!_pos d' q hq2]
        simpa [Array.getElem?_eq_getElem hq2] using h1
       rw [ha',<-g1,<-(hd i a h2).1 k hkl]
       have:k<a.l.length:=by rw [a.hl]; exact hkl
       rw [List.getElem?_eq_getElem this,getElem!_pos a.l k this]
      ·rw [List.getElem?_append_right (by rw [hsl]; exact hq'),hsl,List.getElem?_drop,Nat.add_sub_cancel' hq'] at hx
       obtain ⟨u,g1,g2⟩:=k5 q x k c hx hkc
       refine ⟨u,?_,g2⟩
       unfold Go.Sort.putCells
       have hge:hi*sz0<=q*sz0+k:=Nat.le_trans (Nat.mul_le_mul_right _ hq') (Nat.le_add_right _ _)
       rw [Array.getElem?_mapIdx,g1]
       simp only [Option.map_some,size_flatK,hs1,Nat.zero_add]
       rw [if_neg (by omega)]
     rw [cd]
     have hput:=oQ (ver':=v0) (xs':=je p (xs.take hi)++xs.drop hi) hr hM l3 hq hoth l6 hbk (by simp [Go.Sort.putCells]) (Nat.le_refl _) (fun _=>by simp [hsl]; omega) hwd hrl (fun t ht=>by
      rw [List.getElem?_take_of_lt (by simp at ht; omega)]; simp)
     exact ⟨_,j,rfl,hput.1,hput.2,.tuple rfl fun i c v hi=>by cases hi⟩
  ·cases h
 ·cases h
def LY {args:List ae} {M:ag} {x:ae×ag} (h:lF 3 2 217 args M=some x):ba Tryz.prog 216 args M x :=
 vX (by omega) (fun A cap fv w=>AnyF.slices_SortFunc_none Tryz.D7 A cap fv w)
  (fun blk cap d w hH hb hs=>(AnyQ.slices_SortFunc Tryz.D7 3 Tryz.isAgg95 Tryz.sizeOf95 EL.l (fun x=>x.hl) (fun x=>x.h1) Pk ZI 217 #[] blk 0 cap d w (enters_of Tryz.func217 (by kernel_rfl) rfl) (BV blk 0 d.size w) hH hb hs)) h
def LX {args:List ae} {M:ag} {x:ae×ag} (h:lF 6 0 159 args M=some x):ba Tryz.prog 158 args M x :=
 vX (by omega) (fun A cap fv w=>AnyF.slices_SortFunc_none Tryz.Bi A cap fv w)
  (fun blk cap d w hH hb hs=>(AnyQ.slices_SortFunc Tryz.Bi 6 Tryz.isAgg54 Tryz.sizeOf54 EL.l (fun x=>x.hl) (fun x=>x.h1) Pk ZI 159 #[] blk 0 cap d w (enters_of Tryz.func159 (by kernel_rfl) rfl) (BU blk 0 d.size w) hH hb hs)) h
end Go.Proofs.YtahkjijkflobhaaGreatDoor
namespace Go.Proofs.YtahkjijkflobhaaGreatDoor
open Go Go.Abs
noncomputable def jU (sz:Nat) (args:List ae) (M:ag):Option (ae×ag):=aF (eB sz args M) fun x=>some (x.1.mY x.2,kh x.2 x.1.ids)
def wV {P:Program} {f:Nat} {args:List ae} {M:ag} {x:ae×ag} (h:ba P f args M x) (hx:x.1.di=false):ba P f args M (x.1.mY x.2,kh x.2 x.1.ids):=by
 intro j w vs h1 h2 h3 h4
 refine (h j w vs h1 h2 h3 h4).mono ?_
 intro e w' hc
 obtain ⟨v,rfl,j',g1,g2,g3⟩:=hc.ret hx
 obtain ⟨f1,f2,f3,f4⟩:=uk x.1.ids g1
 exact .inl ⟨v,rfl,j',f2,g2.trans f1,g3.mY g1 f1 f2 f3 f4⟩
def AR {sz:Nat} {args:List ae} {M:ag} {x:ae×ag} (h:eB sz args M=some x):x.1.di=false:=by
 unfold eB at h
 split at h
 ·split at h
  ·obtain ⟨_,h⟩:=aP h
   injection h with h; subst h; rfl
  ·cases h
 ·cases h
def uU {P:Program} {f sz:Nat} (hd:∀ {args:List ae} {M:ag} {x:ae×ag},eB sz args M=some x->ba P f args M x)
  {args:List ae} {M:ag} {x:ae×ag} (h:jU sz args M=some x):ba P f args M x:=by
 obtain ⟨y,h1,h2⟩:=au h
 injection h2 with h2; subst h2
 exact wV (hd h1) (AR h1)
def B2 {args:List ae} {M:ag} {x:ae×ag} (h:jU 3 args M=some x):ba Tryz.prog 223 args M x:=uU EP h
def B3 {args:List ae} {M:ag} {x:ae×ag} (h:jU 3 args M=some x):ba Tryz.prog 228 args M x:=uU ER h
end Go.Proofs.YtahkjijkflobhaaGreatDoor
namespace Go.Proofs.YtahkjijkflobhaaGreatDoor
section
open Go Go.Abs Go.RowKit
set_option maxHeartbeats 1000000 in
set_option maxRecDepth 100000 in
def BX (a b:ByteArray) (w:World) :
  Calls Tryz.prog 295 #[.string a,.string b] w fun e w'=>e = .returned (.int .i64 (Lib.compareBytes a.data.toList b.data.toList))/\w'=w:=by
 go_enter Tryz.func295,Tryz.ntmps295
 go_wp2
 rw [run_callFunc_extern Tryz.func319 (by kernel_rfl) (by kernel_rfl) (by kernel_rfl) (e:=Extern.BytealgCompare.compare) (by kernel_rfl),Lib.run_compareString]
 simp only [Result.andThen]
 rw [Oper.upon_value]
 go_wp2
 go_ret
 exact ⟨rfl,rfl⟩
noncomputable def rr:List ae->ag->Option (ae×ag)
 | [.str a,.str b],M=>some (.int .i64 (Lib.compareBytes a b),M)
 |_,_=>none
def zK {args:List ae} {M:ag} {x:ae×ag} (h:rr args M=some x):ba Tryz.prog 295 args M x:=by
 unfold rr at h
 split at h
 ·rename_i a b
  injection h with h; subst h
  refine fL.call ?_
  intro j w vs hr hG hl hv
  obtain ⟨l⟩:=vs
  match l,hl with
  | [u1,u2],_ =>
   have h1:=(hv 0 _ u1 rfl rfl).dx
   have h2:=(hv 1 _ u2 rfl rfl).dx
   subst h1; subst h2
   refine (BX (bs a) (bs b) w).mono ?_
   rintro e w' ⟨rfl,rfl⟩
   exact ⟨_,j,rfl,hr,.refl _ _ _,.plain (.int _ _)⟩
 ·cases h
end
end Go.Proofs.YtahkjijkflobhaaGreatDoor
namespace Go.Proofs
section
open Go.Shelf
def Tryz.tF:Go.Shelf.Ren:=⟨fun|156=>289|165=>314|166=>315|169=>316|240=>328|241=>329|276=>333|277=>334|n=>n,fun|31=>43|9=>9|3=>3|4=>4|0=>0|20=>20|72=>342|76=>343|70=>340|37=>23|75=>70|127=>353|164=>114|5=>5|80=>345|n=>n,fun|n=>n⟩
def Tryz.DF:Go.Proofs.Lays.n156 Tryz.prog Tryz.tF:={
 mixed:=by kernel_rfl
 f156:=Tryz.func289.trans (congrArg some (by kernel_rfl))
 f165:=Tryz.func314.trans (congrArg some (by kernel_rfl))
 f166:=Tryz.func315.trans (congrArg some (by kernel_rfl))
 f169:=Tryz.func316.trans (congrArg some (by kernel_rfl))
 f240:=Tryz.func328.trans (congrArg some (by kernel_rfl))
 f241:=Tryz.func329.trans (congrArg some (by kernel_rfl))
 f276:=Tryz.func333.trans (congrArg some (by kernel_rfl))
 f277:=Tryz.func334.trans (congrArg some (by kernel_rfl))
 t0:=Tryz.underlying0
 a0:=Tryz.isAgg0
 z0:=Tryz.sizeOf0
 v0:=Tryz.zeroValue0
 t3:=Tryz.underlying3
 a3:=Tryz.isAgg3
 z3:=Tryz.sizeOf3
 v3:=Tryz.zeroValue3
 t4:=Tryz.underlying4
 a4:=Tryz.isAgg4
 z4:=Tryz.sizeOf4
 v4:=Tryz.zeroValue4
 t9:=Tryz.underlying9
 a9:=Tryz.isAgg9
 z9:=Tryz.sizeOf9
 v9:=Tryz.zeroValue9
 t20:=Tryz.underlying20
 a20:=Tryz.isAgg20
 z20:=Tryz.sizeOf20
 v20:=Tryz.zeroValue20
 t31:=Tryz.underlying43
 a31:=Tryz.isAgg43
 z31:=Tryz.sizeOf43
 v31:=Tryz.zeroValue43
 t37:=Tryz.underlying23
 a37:=Tryz.isAgg23
 z37:=Tryz.sizeOf23
 v37:=Tryz.zeroValue23
 t70:=Tryz.underlying340
 a70:=Tryz.isAgg340
 z70:=Tryz.sizeOf340
 v70:=Tryz.zeroValue340
 t72:=Tryz.underlying342
 a72:=Tryz.isAgg342
 z72:=Tryz.sizeOf342
 v72:=Tryz.zeroValue342
 t75:=Tryz.underlying70
 a75:=Tryz.isAgg70
 z75:=Tryz.sizeOf70
 v75:=Tryz.zeroValue70
 t76:=Tryz.underlying343
 a76:=Tryz.isAgg343
 z76:=Tryz.sizeOf343
 v76:=Tryz.zeroValue343
 t127:=Tryz.underlying353
 a127:=Tryz.isAgg353
 z127:=Tryz.sizeOf353
 v127:=Tryz.zeroValue353
 t164:=Tryz.underlying114
 a164:=Tryz.isAgg114
 z164:=Tryz.sizeOf114
 v164:=Tryz.zeroValue114 }
def Tryz.ll:Builder.Extra Tryz.prog Tryz.tF:={
 sizeBuilder:=by kernel_rfl
 liesBuilder:=by kernel_rfl
 t5:=Tryz.underlying5
 a5:=Tryz.isAgg5
 z5:=Tryz.sizeOf5
 v5:=Tryz.zeroValue5
 infoByte:=by kernel_rfl
 cellsByte:=by kernel_rfl
 sizeByte:=by kernel_rfl
 neB5:=by decide }
open Go.RowKit in
def Tryz.strings_Join_none (a:Option Addr) (c:Nat) (sep:ByteArray) (w:World) :
  Calls Tryz.prog 289 #[.slice a 0 c,.string sep] w fun e w'=>e = .returned (.string ⟨#[]⟩)/\w'=w:=Any.strings_Join_none Tryz.DF Tryz.ll a c sep w
open Go.RowKit in
def Tryz.strings_Join (bk o c:Nat) (xs:List ByteArray) (sep:ByteArray) (w:World) (hcells:∀(j:Nat) x,xs[j]?=some x->w.cell? ⟨bk,o+j,none⟩=some (.string x)) (hbk:bk<w.heap.size) (hN:xs.length<=140737488355328) (hcap:xs.length<=c) (hlen:(Lib.join (xs.map (·.data.toList)) sep.data.toList).length<=140737488355328) :
  Calls Tryz.prog 289 #[.slice (some ⟨bk,o,none⟩) xs.length c,.string sep] w fun e w'=>e = .returned (.string ⟨(Lib.join (xs.map (·.data.toList)) sep.data.toList).toArray⟩)/\Below w.heap.size w w':=Any.strings_Join Tryz.DF Tryz.ll bk o c xs sep w hcells hbk hN hcap hlen
def Tryz.Az:Go.Shelf.Ren:=⟨fun|137=>274|217=>308|266=>326|n=>n,fun|9=>9|5=>5|3=>3|n=>n,fun|n=>n⟩
def Tryz.Nn:Go.Proofs.Lays.n137 Tryz.prog Tryz.Az:={
 mixed:=by kernel_rfl
 f137:=Tryz.func274.trans (congrArg some (by kernel_rfl))
 f217:=Tryz.func308.trans (congrArg some (by kernel_rfl))
 f266:=Tryz.func326.trans (congrArg some (by kernel_rfl))
 t3:=Tryz.underlying3
 a3:=Tryz.isAgg3
 z3:=Tryz.sizeOf3
 v3:=Tryz.zeroValue3
 t5:=Tryz.underlying5
 a5:=Tryz.isAgg5
 z5:=Tryz.sizeOf5
 v5:=Tryz.zeroValue5
 t9:=Tryz.underlying9
 a9:=Tryz.isAgg9
 z9:=Tryz.sizeOf9
 v9:=Tryz.zeroValue9 }
open Go.RowKit in
def Tryz.strings_IndexByte (s:ByteArray) (c:Int) (w:World) :
  Calls Tryz.prog 274 #[.string s,.int .u8 c] w fun e w'=>e = .returned (.int .i64 (Lib.indexByte s.data.toList c.toNat.toUInt8))/\w'=w:=Any.strings_IndexByte Tryz.Nn s c w
end
end Go.Proofs
namespace Go.Proofs.YtahkjijkflobhaaGreatDoor
section
open Go Go.Abs Go.RowKit
def tW {P:Program} {f:Nat} {args:List ae} {M:ag} {r:ae}
  (h:∀(j:J) (w:World) (vs:Array Value),Rel j M w->j4 j M w->args.length=vs.size->(∀(i:Nat) (c:ae) (v:Value),args[i]?=some c->vs[i]?=some v->bQ j M w c v) ->
   Calls P f vs w fun e w'=>∃v,e = .returned v/\Below w.heap.size w w'/\bQ j M w' r v):ba P f args M (r,M):=by
 refine fL.call ?_
 intro j w vs hr hG hl hv
 refine (h j w vs hr hG hl hv).mono ?_
 rintro e w' ⟨v,rfl,hb,hrep⟩
 exact ⟨v,j,rfl,hr.grow hb.size hb.os hb.tape hb.output hb.block,Ext.grow hb.size hb.os hb.tape hb.output hb.block,hrep⟩
def qg:List ae->ag->Option (ae×ag)
 | [.str s,.int k c],M=>if k = .u8 then some (.int .i64 (Lib.indexByte s c.toNat.toUInt8),M) else none
 |_,_=>none
def Cn {args:List ae} {M:ag} {x:ae×ag} (h:qg args M=some x):ba Tryz.prog 274 args M x:=by
 unfold qg at h
 split at h
 ·rename_i s k c
  split at h
  ·rename_i hk
   subst hk
   injection h with h; subst h
   refine tW fun j w vs hr hG hl hv=>?_
   obtain ⟨l⟩:=vs
   match l,hl with
   | [u1,u2],_ =>
    obtain rfl:=(hv 0 _ u1 rfl rfl).dx
    obtain rfl:=(hv 1 _ u2 rfl rfl).bH
    refine (Tryz.strings_IndexByte (bs s) c w).mono ?_
    rintro e w' ⟨rfl,rfl⟩
    exact ⟨_,rfl,Below.refl _ _,by simp [bs]; exact .plain (.int _ _)⟩
  ·cases h
 ·cases h
def sX:List ae->Option (List (List UInt8))
 | []=>some []
 | .str s::r=>aF (sX r) fun l=>some (s::l)
 |_=>none
def xP:∀ {xs:List ae} {l:List (List UInt8)},sX xs=some l->xs=l.map .str
 | [],l,h=>by cases h; rfl
 |x::r,l,h=>by
  unfold sX at h
  split at h
  ·rename_i e; cases e
  ·rename_i s r' e
   injection e with e1 e2; subst e1; subst e2
   obtain ⟨l',h1,h2⟩:=au h
   injection h2 with h2; subst h2
   rw [xP h1]; rfl
  ·cases h
def AU:List ae->ag->Option (ae×ag)
 | [.slice _ xs,.str sep],M=>aF (sX xs) fun l=>if l.length<=140737488355328/\(Lib.join l sep).length<=140737488355328 then some (.str (Lib.join l sep),M) else none
 |_,_=>none
def WM {args:List ae} {M:ag} {x:ae×ag} (h:AU args M=some x):ba Tryz.prog 289 args M x:=by
 unfold AU at h
 split at h
 ·rename_i tk xs sep
  obtain ⟨l,hl0,h⟩:=au h
  have hxs:=xP hl0
  split at h
  ·rename_i hs
   injection h with h; subst h
   refine tW fun j w vs hr hG hl hv=>?_
   obtain ⟨us⟩:=vs
   match us,hl with
   | [u1,u2],_ =>
    obtain ⟨A,cap,b,off,sz,vs,e1,e2,e3,e4,e5,e6⟩:=(hv 0 _ u1 rfl rfl).bg.bg
    obtain rfl:=(hv 1 _ u2 rfl rfl).dx
    subst e1
    subst hxs
    cases l with
    |nil =>
     refine (Tryz.strings_Join_none A cap (bs sep) w).mono ?_
     rintro e w' ⟨rfl,rfl⟩
     exact ⟨_,rfl,Below.refl _ _,.plain (.str _)⟩
    |cons s0 l =>
     obtain rfl:=e3 (by simp)
     have hsz:sz=1:=(e4 (.str s0) (by simp)).symm
     subst hsz
     have cell:∀(q:Nat) (s:List UInt8),(s0::l)[q]?=some s->w.cell? ⟨b,off+q,none⟩=some (.string (bs s)):=fun q s hq=>by
      have hq':((s0::l).map ae.str)[q]?=some (.str s):=by rw [List.getElem?_map,hq]; rfl
      have k1:=e5 q _ 0 (.str s) hq' rfl
      have k2:=(bQ.plain (j:=j) (M:=M) (e6 q _ 0 (.str s) hq' rfl)).dx
      simp only [Nat.mul_one,Nat.add_zero] at k1 k2
      rw [k1.1,k2]
     have hmap:((s0::l).map bs).map (·.data.toList)=s0::l:=by
      rw [List.map_map]; conv=>rhs; rw [<-List.map_id (s0::l)]
      exact List.map_congr_left fun s _=>by simp [bs]
     have hd:(bs sep).data.toList=sep:=by simp [bs]
     have hb:b<w.heap.size:=by
      have:=cell 0 s0 rfl
      rcases Nat.lt_or_ge b w.heap.size with h|h
      ·exact h
      ·simp [World.cell?,Array.getElem?_eq_none h] at this
     have hJ:=Tryz.strings_Join b off cap ((s0::l).map bs) (bs sep) w (fun q x hq=>by
      rw [List.getElem?_map,Option.map_eq_some_iff] at hq
      obtain ⟨s,hs,rfl⟩:=hq
      exact cell q s hs) hb (by simpa using hs.1) (by simpa using e2) (by rw [hmap,hd]; exact hs.2)
     rw [hmap,hd] at hJ
     have:((s0::l).map bs).length=((s0::l).map ae.str).length:=by simp
     rw [this] at hJ
     refine hJ.mono ?_
     rintro e w' ⟨rfl,hb⟩
     exact ⟨_,rfl,hb,.plain (.str _)⟩
  ·cases h
 ·cases h
end
end Go.Proofs.YtahkjijkflobhaaGreatDoor
namespace Go.Abs
section
open Go
def TG0:(∀(B:Nat) (M:ag) (b:Bool),ae.da B M (.bool b)=(.bool b)) /\
  (∀(B:Nat) (M:ag) (b:Bool),ae.ew B M (.bool b)=(.bool b)) /\
  (∀(B:Nat) (M:ag) (b:Bool),ae.eb B M (.bool b)=(.bool b)) /\
  (∀(B:Nat) (M:ag) (b:Bool),ae.fM B M (.bool b)=(.bool b)) /\
  (∀(B:Nat) (M:ag) (b:Bool),ae.dA B M (.bool b)=(.bool b)) /\
  (∀(B:Nat) (M:ag) (b:Bool),ae.dK B M (.bool b)=(.bool b)) /\
  (∀(B:Nat) (M:ag) (b:Bool),ae.eX B M (.bool b)=(.bool b)) /\
  (∀(b:Bool),ae.shut (.bool b)=(.bool b)) /\
  (∀(b:Bool),ae.bS (.bool b)=(.bool b)) /\
  (∀(b:Bool),ae.di (.bool b)=false) /\
  (∀(b:Bool),ae.cells? (.bool b)=some [(.bool b)]) /\
  (∀(b:Bool),ae.c8 (.bool b)=true) /\
  (∀(b:Bool),ae.plainCell (.bool b)=true) /\
  (∀(b:Bool),ae.plain (.bool b)=true) /\
  (∀(b:Bool),ae.cells (.bool b)=[(.bool b)]) /\
  (∀(b:Bool),ae.cm (.bool b)=[]) /\
  (∀(b:Bool),ae.fz (.bool b)=[]) /\
  (∀(b:Bool),ae.ids (.bool b)=[]) /\
  (∀(M:ag) (b:Bool),ae.gr M (.bool b)=(.bool b)) /\
  (∀(M:ag) (b:Bool),ae.mY M (.bool b)=(.bool b)) /\
  (∀(B:Nat) (M:ag) (k:IntKind) (n:Int),ae.da B M (.int k n)=(.int k n)) /\
  (∀(B:Nat) (M:ag) (k:IntKind) (n:Int),ae.ew B M (.int k n)=(.int k n)) /\
  (∀(B:Nat) (M:ag) (k:IntKind) (n:Int),ae.eb B M (.int k n)=(.int k n)) /\
  (∀(B:Nat) (M:ag) (k:IntKind) (n:Int),ae.fM B M (.int k n)=(.int k n)) /\
  (∀(B:Nat) (M:ag) (k:IntKind) (n:Int),ae.dA B M (.int k n)=(.int k n)) /\
  (∀(B:Nat) (M:ag) (k:IntKind) (n:Int),ae.dK B M (.int k n)=(.int k n)) /\
  (∀(B:Nat) (M:ag) (k:IntKind) (n:Int),ae.eX B M (.int k n)=(.int k n)) /\
  (∀(k:IntKind) (n:Int),ae.shut (.int k n)=(.int k n)) /\
  (∀(k:IntKind) (n:Int),ae.bS (.int k n)=(.int k n)) /\
  (∀(k:IntKind) (n:Int),ae.di (.int k n)=false) /\
  (∀(k:IntKind) (n:Int),ae.cells? (.int k n)=some [(.int k n)]) /\
  (∀(k:IntKind) (n:Int),ae.c8 (.int k n)=true) /\
  (∀(k:IntKind) (n:Int),ae.plainCell (.int k n)=true) /\
  (∀(k:IntKind) (n:Int),ae.plain (.int k n)=true) /\
  (∀(k:IntKind) (n:Int),ae.cells (.int k n)=[(.int k n)]) /\
  (∀(k:IntKind) (n:Int),ae.cm (.int k n)=[]) /\
  (∀(k:IntKind) (n:Int),ae.fz (.int k n)=[]) /\
  (∀(k:IntKind) (n:Int),ae.ids (.int k n)=[]) /\
  (∀(M:ag) (k:IntKind) (n:Int),ae.gr M (.int k n)=(.int k n)) /\
  (∀(M:ag) (k:IntKind) (n:Int),ae.mY M (.int k n)=(.int k n)):=by
 refine ⟨?_,?_,?_,?_,?_,?_,?_,?_,?_,?_,?_,?_,?_,?_,?_,?_,?_,?_,?_,?_,?_,?_,?_,?_,?_,?_,?_,?_,?_,?_,?_,?_,?_,?_,?_,?_,?_,?_,?_,?_⟩<;>intros<;>rfl
def TG1:(∀(B:Nat) (M:ag) (s:List UInt8),ae.da B M (.str s)=(.str s)) /\
  (∀(B:Nat) (M:ag) (s:List UInt8),ae.ew B M (.str s)=(.str s)) /\
  (∀(B:Nat) (M:ag) (s:List UInt8),ae.eb B M (.str s)=(.str s)) /\
  (∀(B:Nat) (M:ag) (s:List UInt8),ae.fM B M (.str s)=(.str s)) /\
  (∀(B:Nat) (M:ag) (s:List UInt8),ae.dA B M (.str s)=(.str s)) /\
  (∀(B:Nat) (M:ag) (s:List UInt8),ae.dK B M (.str s)=(.str s)) /\
  (∀(B:Nat) (M:ag) (s:List UInt8),ae.eX B M (.str s)=(.str s)) /\
  (∀(s:List UInt8),ae.shut (.str s)=(.str s)) /\
  (∀(s:List UInt8),ae.bS (.str s)=(.str s)) /\
  (∀(s:List UInt8),ae.di (.str s)=false) /\
  (∀(s:List UInt8),ae.cells? (.str s)=some [(.str s)]) /\
  (∀(s:List UInt8),ae.c8 (.str s)=true) /\
  (∀(s:List UInt8),ae.plainCell (.str s)=true) /\
  (∀(s:List UInt8),ae.plain (.str s)=true) /\
  (∀(s:List UInt8),ae.cells (.str s)=[(.str s)]) /\
  (∀(s:List UInt8),ae.cm (.str s)=[]) /\
  (∀(s:List UInt8),ae.fz (.str s)=[]) /\
  (∀(s:List UInt8),ae.ids (.str s)=[]) /\
  (∀(M:ag) (s:List UInt8),ae.gr M (.str s)=(.str s)) /\
  (∀(M:ag) (s:List UInt8),ae.mY M (.str s)=(.str s)) /\
  (∀(B:Nat) (M:ag) (id off:Nat),ae.da B M (.ptr id off)=if id<B then (.ptr id off) else .any) /\
  (∀(B:Nat) (M:ag) (id off:Nat),ae.ew B M (.ptr id off)=if id<B then (.ptr id off) else .any) /\
  (∀(B:Nat) (M:ag) (id off:Nat),ae.eb B M (.ptr id off)=if id<B then (.ptr id off) else .any) /\
  (∀(B:Nat) (M:ag) (id off:Nat),ae.fM B M (.ptr id off)=if id<B then (.ptr id off) else .any) /\
  (∀(B:Nat) (M:ag) (id off:Nat),ae.dA B M (.ptr id off)=if id<B then (.ptr id off) else .any) /\
  (∀(B:Nat) (M:ag) (id off:Nat),ae.dK B M (.ptr id off)=if id<B then (.ptr id off) else .any) /\
  (∀(B:Nat) (M:ag) (id off:Nat),ae.eX B M (.ptr id off)=if id<B then (.ptr id off) else .any) /\
  (∀(id off:Nat),ae.shut (.ptr id off)=(.ptr id off)) /\
  (∀(id off:Nat),ae.bS (.ptr id off)=(.ptr id off)) /\
  (∀(id off:Nat),ae.di (.ptr id off)=false) /\
  (∀(id off:Nat),ae.cells? (.ptr id off)=some [(.ptr id off)]) /\
  (∀(id off:Nat),ae.c8 (.ptr id off)=true) /\
  (∀(id off:Nat),ae.plainCell (.ptr id off)=false) /\
  (∀(id off:Nat),ae.plain (.ptr id off)=false) /\
  (∀(id off:Nat),ae.cells (.ptr id off)=[(.ptr id off)]) /\
  (∀(id off:Nat),ae.cm (.ptr id off)=[id]) /\
  (∀(id off:Nat),ae.fz (.ptr id off)=[id]) /\
  (∀(id off:Nat),ae.ids (.ptr id off)=[id]) /\
  (∀(M:ag) (id off:Nat),ae.gr M (.ptr id off)=(.ptr id off)) /\
  (∀(M:ag) (id off:Nat),ae.mY M (.ptr id off)=(.ptr id off)):=by
 refine ⟨?_,?_,?_,?_,?_,?_,?_,?_,?_,?_,?_,?_,?_,?_,?_,?_,?_,?_,?_,?_,?_,?_,?_,?_,?_,?_,?_,?_,?_,?_,?_,?_,?_,?_,?_,?_,?_,?_,?_,?_⟩<;>intros<;>rfl
def TG2:(∀(B:Nat) (M:ag) (cs:List ae),ae.da B M (.cW cs)=(.cW cs)) /\
  (∀(B:Nat) (M:ag) (cs:List ae),ae.ew B M (.cW cs)=(.cW cs)) /\
  (∀(B:Nat) (M:ag) (cs:List ae),ae.eb B M (.cW cs)=(.cW cs)) /\
  (∀(B:Nat) (M:ag) (cs:List ae),ae.fM B M (.cW cs)=(.cW cs)) /\
  (∀(B:Nat) (M:ag) (cs:List ae),ae.dA B M (.cW cs)=(.cW cs)) /\
  (∀(B:Nat) (M:ag) (cs:List ae),ae.dK B M (.cW cs)=(.cW cs)) /\
  (∀(B:Nat) (M:ag) (cs:List ae),ae.eX B M (.cW cs)=(.cW cs)) /\
  (∀(cs:List ae),ae.shut (.cW cs)=(.cW cs)) /\
  (∀(cs:List ae),ae.bS (.cW cs)=(.cW cs)) /\
  (∀(cs:List ae),ae.di (.cW cs)=false) /\
  (∀(cs:List ae),ae.cells? (.cW cs)=some [(.cW cs)]) /\
  (∀(cs:List ae),ae.c8 (.cW cs)=true) /\
  (∀(cs:List ae),ae.plainCell (.cW cs)=false) /\
  (∀(cs:List ae),ae.plain (.cW cs)=false) /\
  (∀(cs:List ae),ae.cells (.cW cs)=[(.cW cs)]) /\
  (∀(cs:List ae),ae.cm (.cW cs)=[]) /\
  (∀(cs:List ae),ae.fz (.cW cs)=[]) /\
  (∀(cs:List ae),ae.ids (.cW cs)=[]) /\
  (∀(M:ag) (cs:List ae),ae.gr M (.cW cs)=(.cW cs)) /\
  (∀(M:ag) (cs:List ae),ae.mY M (.cW cs)=(.cW cs)) /\
  (∀(B:Nat) (M:ag) (f:Nat) (cs:List ae),ae.da B M (.func f cs) = .any) /\
  (∀(B:Nat) (M:ag) (f:Nat) (cs:List ae),ae.ew B M (.func f cs) = .func f (cs.map (ae.da B M))) /\
  (∀(B:Nat) (M:ag) (f:Nat) (cs:List ae),ae.eb B M (.func f cs) = .func f (cs.map (ae.da B M))) /\
  (∀(B:Nat) (M:ag) (f:Nat) (cs:List ae),ae.fM B M (.func f cs) = .func f (cs.map (ae.da B M))) /\
  (∀(B:Nat) (M:ag) (f:Nat) (cs:List ae),ae.dA B M (.func f cs) = .func f (cs.map (ae.da B M))) /\
  (∀(B:Nat) (M:ag) (f:Nat) (cs:List ae),ae.dK B M (.func f cs) = .func f (cs.map (ae.da B M))) /\
  (∀(B:Nat) (M:ag) (f:Nat) (cs:List ae),ae.eX B M (.func f cs) = .func f (cs.map (ae.da B M))) /\
  (∀(f:Nat) (cs:List ae),ae.shut (.func f cs)=(.func f cs)) /\
  (∀(f:Nat) (cs:List ae),ae.bS (.func f cs)=(.func f cs)) /\
  (∀(f:Nat) (cs:List ae),ae.di (.func f cs)=false) /\
  (∀(f:Nat) (cs:List ae),ae.cells? (.func f cs)=some [(.func f cs)]) /\
  (∀(f:Nat) (cs:List ae),ae.c8 (.func f cs)=true) /\
  (∀(f:Nat) (cs:List ae),ae.plainCell (.func f cs)=false) /\
  (∀(f:Nat) (cs:List ae),ae.plain (.func f cs)=false) /\
  (∀(f:Nat) (cs:List ae),ae.cells (.func f cs)=[(.func f cs)]) /\
  (∀(f:Nat) (cs:List ae),ae.cm (.func f cs)=[]) /\
  (∀(f:Nat) (cs:List ae),ae.fz (.func f cs)=cs.flatMap ae.cm) /\
  (∀(f:Nat) (cs:List ae),ae.ids (.func f cs)=cs.flatMap ae.cm) /\
  (∀(M:ag) (f:Nat) (cs:List ae),ae.gr M (.func f cs)=(.func f cs)) /\
  (∀(M:ag) (f:Nat) (cs:List ae),ae.mY M (.func f cs)=(.func f cs)):=by
 refine ⟨?_,?_,?_,?_,?_,?_,?_,?_,?_,?_,?_,?_,?_,?_,?_,?_,?_,?_,?_,?_,?_,?_,?_,?_,?_,?_,?_,?_,?_,?_,?_,?_,?_,?_,?_,?_,?_,?_,?_,?_⟩<;>intros<;>rfl
def TG3:(∀(B:Nat) (M:ag) (id:Nat),ae.da B M (.cz id)=if id<B then (.cz id) else .any) /\
  (∀(B:Nat) (M:ag) (id:Nat),ae.ew B M (.cz id)=if id<B then (.cz id) else .any) /\
  (∀(B:Nat) (M:ag) (id:Nat),ae.eb B M (.cz id)=if id<B then (.cz id) else .any) /\
  (∀(B:Nat) (M:ag) (id:Nat),ae.fM B M (.cz id)=if id<B then (.cz id) else .any) /\
  (∀(B:Nat) (M:ag) (id:Nat),ae.dA B M (.cz id)=if id<B then .cz id else match M[id]? with|some (.map ks vs)=>if vs.all ae.plain&&ks.all ae.plainCell then .du ks vs else .any|_ => .any) /\
  (∀(B:Nat) (M:ag) (id:Nat),ae.dK B M (.cz id)=if id<B then .cz id else match M[id]? with|some (.map ks vs)=>if vs.all ae.plain&&ks.all ae.plainCell then .du ks vs else .any|_ => .any) /\
  (∀(B:Nat) (M:ag) (id:Nat),ae.eX B M (.cz id)=if id<B then .cz id else match M[id]? with|some (.map ks vs)=>if vs.all ae.plain&&ks.all ae.plainCell then .du ks vs else .any|_ => .any) /\
  (∀(id:Nat),ae.shut (.cz id)=(.cz id)) /\
  (∀(id:Nat),ae.bS (.cz id)=(.cz id)) /\
  (∀(id:Nat),ae.di (.cz id)=false) /\
  (∀(id:Nat),ae.cells? (.cz id)=some [(.cz id)]) /\
  (∀(id:Nat),ae.c8 (.cz id)=true) /\
  (∀(id:Nat),ae.plainCell (.cz id)=false) /\
  (∀(id:Nat),ae.plain (.cz id)=false) /\
  (∀(id:Nat),ae.cells (.cz id)=[(.cz id)]) /\
  (∀(id:Nat),ae.cm (.cz id)=[id]) /\
  (∀(id:Nat),ae.fz (.cz id)=[id]) /\
  (∀(id:Nat),ae.ids (.cz id)=[id]) /\
  (∀(M:ag) (id:Nat),ae.gr M (.cz id)=(.cz id)) /\
  (∀(M:ag) (id:Nat),ae.mY M (.cz id)=(.cz id)) /\
  (∀(B:Nat) (M:ag) (id:Nat),ae.da B M (.dp id)=if id<B then (.dp id) else .any) /\
  (∀(B:Nat) (M:ag) (id:Nat),ae.ew B M (.dp id)=if id<B then (.dp id) else .any) /\
  (∀(B:Nat) (M:ag) (id:Nat),ae.eb B M (.dp id)=if id<B then (.dp id) else .any) /\
  (∀(B:Nat) (M:ag) (id:Nat),ae.fM B M (.dp id)=if id<B then (.dp id) else .any) /\
  (∀(B:Nat) (M:ag) (id:Nat),ae.dA B M (.dp id)=if id<B then (.dp id) else .any) /\
  (∀(B:Nat) (M:ag) (id:Nat),ae.dK B M (.dp id)=if id<B then (.dp id) else .any) /\
  (∀(B:Nat) (M:ag) (id:Nat),ae.eX B M (.dp id)=if id<B then (.dp id) else .any) /\
  (∀(id:Nat),ae.shut (.dp id)=(.dp id)) /\
  (∀(id:Nat),ae.bS (.dp id)=(.dp id)) /\
  (∀(id:Nat),ae.di (.dp id)=false) /\
  (∀(id:Nat),ae.cells? (.dp id)=some [(.dp id)]) /\
  (∀(id:Nat),ae.c8 (.dp id)=true) /\
  (∀(id:Nat),ae.plainCell (.dp id)=false) /\
  (∀(id:Nat),ae.plain (.dp id)=false) /\
  (∀(id:Nat),ae.cells (.dp id)=[(.dp id)]) /\
  (∀(id:Nat),ae.cm (.dp id)=[id]) /\
  (∀(id:Nat),ae.fz (.dp id)=[id]) /\
  (∀(id:Nat),ae.ids (.dp id)=[id]) /\
  (∀(M:ag) (id:Nat),ae.gr M (.dp id)=(.dp id)) /\
  (∀(M:ag) (id:Nat),ae.mY M (.dp id)=(.dp id)):=by
 refine ⟨?_,?_,?_,?_,?_,?_,?_,?_,?_,?_,?_,?_,?_,?_,?_,?_,?_,?_,?_,?_,?_,?_,?_,?_,?_,?_,?_,?_,?_,?_,?_,?_,?_,?_,?_,?_,?_,?_,?_,?_⟩<;>intros<;>rfl
def TG4:(∀(B:Nat) (M:ag) (ks vs:List ae),ae.da B M (.du ks vs)=(.du ks vs)) /\
  (∀(B:Nat) (M:ag) (ks vs:List ae),ae.ew B M (.du ks vs)=(.du ks vs)) /\
  (∀(B:Nat) (M:ag) (ks vs:List ae),ae.eb B M (.du ks vs)=(.du ks vs)) /\
  (∀(B:Nat) (M:ag) (ks vs:List ae),ae.fM B M (.du ks vs)=(.du ks vs)) /\
  (∀(B:Nat) (M:ag) (ks vs:List ae),ae.dA B M (.du ks vs)=(.du ks vs)) /\
  (∀(B:Nat) (M:ag) (ks vs:List ae),ae.dK B M (.du ks vs)=(.du ks vs)) /\
  (∀(B:Nat) (M:ag) (ks vs:List ae),ae.eX B M (.du ks vs)=(.du ks vs)) /\
  (∀(ks vs:List ae),ae.shut (.du ks vs)=(.du ks vs)) /\
  (∀(ks vs:List ae),ae.bS (.du ks vs)=(.du ks vs)) /\
  (∀(ks vs:List ae),ae.di (.du ks vs)=false) /\
  (∀(ks vs:List ae),ae.cells? (.du ks vs)=some [(.du ks vs)]) /\
  (∀(ks vs:List ae),ae.c8 (.du ks vs)=true) /\
  (∀(ks vs:List ae),ae.plainCell (.du ks vs)=false) /\
  (∀(ks vs:List ae),ae.plain (.du ks vs)=false) /\
  (∀(ks vs:List ae),ae.cells (.du ks vs)=[(.du ks vs)]) /\
  (∀(ks vs:List ae),ae.cm (.du ks vs)=[]) /\
  (∀(ks vs:List ae),ae.fz (.du ks vs)=[]) /\
  (∀(ks vs:List ae),ae.ids (.du ks vs)=[]) /\
  (∀(M:ag) (ks vs:List ae),ae.gr M (.du ks vs)=(.du ks vs)) /\
  (∀(M:ag) (ks vs:List ae),ae.mY M (.du ks vs)=(.du ks vs)) /\
  (∀(B:Nat) (M:ag) (id ver sz lo hi:Nat),ae.da B M (.aZ id ver sz lo hi)=if id<B then (.aZ id ver sz lo hi) else match M[id]? with|some (.arr _ v xs)=>if v=ver then .slice .sh ((xs.take hi).drop lo) else .any|_ => .any) /\
  (∀(B:Nat) (M:ag) (id ver sz lo hi:Nat),ae.ew B M (.aZ id ver sz lo hi)=if id<B then (.aZ id ver sz lo hi) else match M[id]? with|some (.arr _ v xs)=>if v=ver then .slice .sh ((xs.take hi).drop lo) else .any|_ => .any) /\
  (∀(B:Nat) (M:ag) (id ver sz lo hi:Nat),ae.eb B M (.aZ id ver sz lo hi)=if id<B then (.aZ id ver sz lo hi) else match M[id]? with|some (.arr _ v xs)=>if v=ver then .slice .sh ((xs.take hi).drop lo) else .any|_ => .any) /\
  (∀(B:Nat) (M:ag) (id ver sz lo hi:Nat),ae.fM B M (.aZ id ver sz lo hi)=if id<B then (.aZ id ver sz lo hi) else match M[id]? with|some (.arr _ v xs)=>if v=ver then .slice .sh ((xs.take hi).drop lo) else .any|_ => .any) /\
  (∀(B:Nat) (M:ag) (id ver sz lo hi:Nat),ae.dA B M (.aZ id ver sz lo hi)=if id<B then (.aZ id ver sz lo hi) else match M[id]? with|some (.arr _ v xs)=>if v=ver then .slice .sh ((xs.take hi).drop lo) else .any|_ => .any) /\
  (∀(B:Nat) (M:ag) (id ver sz lo hi:Nat),ae.dK B M (.aZ id ver sz lo hi)=if id<B then (.aZ id ver sz lo hi) else match M[id]? with|some (.arr _ v xs)=>if v=ver then .slice .sh ((xs.take hi).drop lo) else .any|_ => .any) /\
  (∀(B:Nat) (M:ag) (id ver sz lo hi:Nat),ae.eX B M (.aZ id ver sz lo hi)=if id<B then (.aZ id ver sz lo hi) else match M[id]? with|some (.arr _ v xs)=>if v=ver then .slice .sh ((xs.take hi).drop lo) else .any|_ => .any) /\
  (∀(id ver sz lo hi:Nat),ae.shut (.aZ id ver sz lo hi)=(.aZ id ver sz lo hi)) /\
  (∀(id ver sz lo hi:Nat),ae.bS (.aZ id ver sz lo hi)=(.aZ id ver sz lo hi)) /\
  (∀(id ver sz lo hi:Nat),ae.di (.aZ id ver sz lo hi)=false) /\
  (∀(id ver sz lo hi:Nat),ae.cells? (.aZ id ver sz lo hi)=some [(.aZ id ver sz lo hi)]) /\
  (∀(id ver sz lo hi:Nat),ae.c8 (.aZ id ver sz lo hi)=true) /\
  (∀(id ver sz lo hi:Nat),ae.plainCell (.aZ id ver sz lo hi)=false) /\
  (∀(id ver sz lo hi:Nat),ae.plain (.aZ id ver sz lo hi)=false) /\
  (∀(id ver sz lo hi:Nat),ae.cells (.aZ id ver sz lo hi)=[(.aZ id ver sz lo hi)]) /\
  (∀(id ver sz lo hi:Nat),ae.cm (.aZ id ver sz lo hi)=[id]) /\
  (∀(id ver sz lo hi:Nat),ae.fz (.aZ id ver sz lo hi)=[id]) /\
  (∀(id ver sz lo hi:Nat),ae.ids (.aZ id ver sz lo hi)=[id]) /\
  (∀(B:Nat) (M:ag) (id ver i off:Nat),ae.da B M (.cV id ver i off)=if id<B then (.cV id ver i off) else .any) /\
  (∀(B:Nat) (M:ag) (id ver i off:Nat),ae.ew B M (.cV id ver i off)=if id<B then (.cV id ver i off) else .any):=by
 refine ⟨?_,?_,?_,?_,?_,?_,?_,?_,?_,?_,?_,?_,?_,?_,?_,?_,?_,?_,?_,?_,?_,?_,?_,?_,?_,?_,?_,?_,?_,?_,?_,?_,?_,?_,?_,?_,?_,?_,?_,?_⟩<;>intros<;>rfl
def TG5:(∀(B:Nat) (M:ag) (id ver i off:Nat),ae.eb B M (.cV id ver i off)=if id<B then (.cV id ver i off) else .any) /\
  (∀(B:Nat) (M:ag) (id ver i off:Nat),ae.fM B M (.cV id ver i off)=if id<B then (.cV id ver i off) else .any) /\
  (∀(B:Nat) (M:ag) (id ver i off:Nat),ae.dA B M (.cV id ver i off)=if id<B then (.cV id ver i off) else .any) /\
  (∀(B:Nat) (M:ag) (id ver i off:Nat),ae.dK B M (.cV id ver i off)=if id<B then (.cV id ver i off) else .any) /\
  (∀(B:Nat) (M:ag) (id ver i off:Nat),ae.eX B M (.cV id ver i off)=if id<B then (.cV id ver i off) else .any) /\
  (∀(id ver i off:Nat),ae.shut (.cV id ver i off)=(.cV id ver i off)) /\
  (∀(id ver i off:Nat),ae.bS (.cV id ver i off)=(.cV id ver i off)) /\
  (∀(id ver i off:Nat),ae.di (.cV id ver i off)=false) /\
  (∀(id ver i off:Nat),ae.cells? (.cV id ver i off)=some [(.cV id ver i off)]) /\
  (∀(id ver i off:Nat),ae.c8 (.cV id ver i off)=true) /\
  (∀(id ver i off:Nat),ae.plainCell (.cV id ver i off)=false) /\
  (∀(id ver i off:Nat),ae.plain (.cV id ver i off)=false) /\
  (∀(id ver i off:Nat),ae.cells (.cV id ver i off)=[(.cV id ver i off)]) /\
  (∀(id ver i off:Nat),ae.cm (.cV id ver i off)=[id]) /\
  (∀(id ver i off:Nat),ae.fz (.cV id ver i off)=[id]) /\
  (∀(id ver i off:Nat),ae.ids (.cV id ver i off)=[id]) /\
  (∀(M:ag) (id ver i off:Nat),ae.gr M (.cV id ver i off)=(.cV id ver i off)) /\
  (∀(M:ag) (id ver i off:Nat),ae.mY M (.cV id ver i off)=(.cV id ver i off)) /\
  (∀(B:Nat) (M:ag) (f:Nat) (fs:List ae),ae.da B M (.iA f fs)=(.iA f fs)) /\
  (∀(B:Nat) (M:ag) (f:Nat) (fs:List ae),ae.ew B M (.iA f fs)=(.iA f fs)) /\
  (∀(B:Nat) (M:ag) (f:Nat) (fs:List ae),ae.eb B M (.iA f fs)=(.iA f fs)) /\
  (∀(B:Nat) (M:ag) (f:Nat) (fs:List ae),ae.fM B M (.iA f fs)=(.iA f fs)) /\
  (∀(B:Nat) (M:ag) (f:Nat) (fs:List ae),ae.dA B M (.iA f fs)=(.iA f fs)) /\
  (∀(B:Nat) (M:ag) (f:Nat) (fs:List ae),ae.dK B M (.iA f fs)=(.iA f fs)) /\
  (∀(B:Nat) (M:ag) (f:Nat) (fs:List ae),ae.eX B M (.iA f fs)=(.iA f fs)) /\
  (∀(f:Nat) (fs:List ae),ae.shut (.iA f fs)=(.iA f fs)) /\
  (∀(f:Nat) (fs:List ae),ae.bS (.iA f fs)=(.iA f fs)) /\
  (∀(f:Nat) (fs:List ae),ae.di (.iA f fs)=false) /\
  (∀(f:Nat) (fs:List ae),ae.cells? (.iA f fs)=some [(.iA f fs)]) /\
  (∀(f:Nat) (fs:List ae),ae.c8 (.iA f fs)=true) /\
  (∀(f:Nat) (fs:List ae),ae.plainCell (.iA f fs)=false) /\
  (∀(f:Nat) (fs:List ae),ae.plain (.iA f fs)=false) /\
  (∀(f:Nat) (fs:List ae),ae.cells (.iA f fs)=[(.iA f fs)]) /\
  (∀(f:Nat) (fs:List ae),ae.cm (.iA f fs)=[]) /\
  (∀(f:Nat) (fs:List ae),ae.fz (.iA f fs)=[]) /\
  (∀(f:Nat) (fs:List ae),ae.ids (.iA f fs)=[]) /\
  (∀(M:ag) (f:Nat) (fs:List ae),ae.gr M (.iA f fs)=(.iA f fs)) /\
  (∀(M:ag) (f:Nat) (fs:List ae),ae.mY M (.iA f fs)=(.iA f fs)) /\
  (∀(B:Nat) (M:ag) (id t:Nat),ae.da B M (.bI id t)=if id<B then (.bI id t) else .any) /\
  (∀(B:Nat) (M:ag) (id t:Nat),ae.ew B M (.bI id t)=if id<B then (.bI id t) else .any):=by
 refine ⟨?_,?_,?_,?_,?_,?_,?_,?_,?_,?_,?_,?_,?_,?_,?_,?_,?_,?_,?_,?_,?_,?_,?_,?_,?_,?_,?_,?_,?_,?_,?_,?_,?_,?_,?_,?_,?_,?_,?_,?_⟩<;>intros<;>rfl
def TG6:(∀(B:Nat) (M:ag) (id t:Nat),ae.eb B M (.bI id t)=if id<B then (.bI id t) else .any) /\
  (∀(B:Nat) (M:ag) (id t:Nat),ae.fM B M (.bI id t)=if id<B then (.bI id t) else .any) /\
  (∀(B:Nat) (M:ag) (id t:Nat),ae.dA B M (.bI id t)=if id<B then (.bI id t) else .any) /\
  (∀(B:Nat) (M:ag) (id t:Nat),ae.dK B M (.bI id t)=if id<B then (.bI id t) else .any) /\
  (∀(B:Nat) (M:ag) (id t:Nat),ae.eX B M (.bI id t)=if id<B then (.bI id t) else .any) /\
  (∀(id t:Nat),ae.shut (.bI id t)=(.bI id t)) /\
  (∀(id t:Nat),ae.bS (.bI id t)=(.bI id t)) /\
  (∀(id t:Nat),ae.di (.bI id t)=false) /\
  (∀(id t:Nat),ae.cells? (.bI id t)=some [(.bI id t)]) /\
  (∀(id t:Nat),ae.c8 (.bI id t)=true) /\
  (∀(id t:Nat),ae.plainCell (.bI id t)=false) /\
  (∀(id t:Nat),ae.plain (.bI id t)=false) /\
  (∀(id t:Nat),ae.cells (.bI id t)=[(.bI id t)]) /\
  (∀(id t:Nat),ae.cm (.bI id t)=[id]) /\
  (∀(id t:Nat),ae.fz (.bI id t)=[id]) /\
  (∀(id t:Nat),ae.ids (.bI id t)=[id]) /\
  (∀(M:ag) (id t:Nat),ae.gr M (.bI id t)=(.bI id t)) /\
  (∀(M:ag) (id t:Nat),ae.mY M (.bI id t)=(.bI id t)) /\
  (∀(B:Nat) (M:ag) (k t:Nat) (x:Bool) (l:List UInt8),ae.da B M (.cA k t x l)=if k<B then (.cA k t x l) else .any) /\
  (∀(B:Nat) (M:ag) (k t:Nat) (x:Bool) (l:List UInt8),ae.ew B M (.cA k t x l)=if k<B then (.cA k t x l) else .any) /\
  (∀(B:Nat) (M:ag) (k t:Nat) (x:Bool) (l:List UInt8),ae.eb B M (.cA k t x l)=if k<B then (.cA k t x l) else .any) /\
  (∀(B:Nat) (M:ag) (k t:Nat) (x:Bool) (l:List UInt8),ae.fM B M (.cA k t x l)=if k<B then (.cA k t x l) else .any) /\
  (∀(B:Nat) (M:ag) (k t:Nat) (x:Bool) (l:List UInt8),ae.dA B M (.cA k t x l)=if k<B then (.cA k t x l) else .any) /\
  (∀(B:Nat) (M:ag) (k t:Nat) (x:Bool) (l:List UInt8),ae.dK B M (.cA k t x l)=if k<B then (.cA k t x l) else .any) /\
  (∀(B:Nat) (M:ag) (k t:Nat) (x:Bool) (l:List UInt8),ae.eX B M (.cA k t x l)=if k<B then (.cA k t x l) else .any) /\
  (∀(k t:Nat) (x:Bool) (l:List UInt8),ae.shut (.cA k t x l)=(.cA k t x l)) /\
  (∀(k t:Nat) (x:Bool) (l:List UInt8),ae.bS (.cA k t x l)=(.cA k t x l)) /\
  (∀(k t:Nat) (x:Bool) (l:List UInt8),ae.di (.cA k t x l)=false) /\
  (∀(k t:Nat) (x:Bool) (l:List UInt8),ae.cells? (.cA k t x l)=some [(.cA k t x l)]) /\
  (∀(k t:Nat) (x:Bool) (l:List UInt8),ae.c8 (.cA k t x l)=true) /\
  (∀(k t:Nat) (x:Bool) (l:List UInt8),ae.plainCell (.cA k t x l)=false) /\
  (∀(k t:Nat) (x:Bool) (l:List UInt8),ae.plain (.cA k t x l)=false) /\
  (∀(k t:Nat) (x:Bool) (l:List UInt8),ae.cells (.cA k t x l)=[(.cA k t x l)]) /\
  (∀(k t:Nat) (x:Bool) (l:List UInt8),ae.cm (.cA k t x l)=[k]) /\
  (∀(k t:Nat) (x:Bool) (l:List UInt8),ae.fz (.cA k t x l)=[k]) /\
  (∀(k t:Nat) (x:Bool) (l:List UInt8),ae.ids (.cA k t x l)=[k]) /\
  (∀(M:ag) (k t:Nat) (x:Bool) (l:List UInt8),ae.gr M (.cA k t x l)=(.cA k t x l)) /\
  (∀(M:ag) (k t:Nat) (x:Bool) (l:List UInt8),ae.mY M (.cA k t x l)=(.cA k t x l)) /\
  (∀(B:Nat) (M:ag) (t id off:Nat),ae.da B M (.dI t id off)=if id<B then (.dI t id off) else .any) /\
  (∀(B:Nat) (M:ag) (t id off:Nat),ae.ew B M (.dI t id off)=if id<B then (.dI t id off) else .any):=by
 refine ⟨?_,?_,?_,?_,?_,?_,?_,?_,?_,?_,?_,?_,?_,?_,?_,?_,?_,?_,?_,?_,?_,?_,?_,?_,?_,?_,?_,?_,?_,?_,?_,?_,?_,?_,?_,?_,?_,?_,?_,?_⟩<;>intros<;>rfl
def TG7:(∀(B:Nat) (M:ag) (t id off:Nat),ae.eb B M (.dI t id off)=if id<B then (.dI t id off) else .any) /\
  (∀(B:Nat) (M:ag) (t id off:Nat),ae.fM B M (.dI t id off)=if id<B then (.dI t id off) else .any) /\
  (∀(B:Nat) (M:ag) (t id off:Nat),ae.dA B M (.dI t id off)=if id<B then (.dI t id off) else .any) /\
  (∀(B:Nat) (M:ag) (t id off:Nat),ae.dK B M (.dI t id off)=if id<B then (.dI t id off) else .any) /\
  (∀(B:Nat) (M:ag) (t id off:Nat),ae.eX B M (.dI t id off)=if id<B then (.dI t id off) else .any) /\
  (∀(t id off:Nat),ae.shut (.dI t id off)=(.dI t id off)) /\
  (∀(t id off:Nat),ae.bS (.dI t id off)=(.dI t id off)) /\
  (∀(t id off:Nat),ae.di (.dI t id off)=false) /\
  (∀(t id off:Nat),ae.cells? (.dI t id off)=some [(.dI t id off)]) /\
  (∀(t id off:Nat),ae.c8 (.dI t id off)=true) /\
  (∀(t id off:Nat),ae.plainCell (.dI t id off)=false) /\
  (∀(t id off:Nat),ae.plain (.dI t id off)=false) /\
  (∀(t id off:Nat),ae.cells (.dI t id off)=[(.dI t id off)]) /\
  (∀(t id off:Nat),ae.cm (.dI t id off)=[id]) /\
  (∀(t id off:Nat),ae.fz (.dI t id off)=[id]) /\
  (∀(t id off:Nat),ae.ids (.dI t id off)=[id]) /\
  (∀(M:ag) (t id off:Nat),ae.gr M (.dI t id off)=(.dI t id off)) /\
  (∀(M:ag) (t id off:Nat),ae.mY M (.dI t id off)=(.dI t id off)) /\
  (∀(B:Nat) (M:ag) (v:Value),ae.da B M (.fK v)=(.fK v)) /\
  (∀(B:Nat) (M:ag) (v:Value),ae.ew B M (.fK v)=(.fK v)) /\
  (∀(B:Nat) (M:ag) (v:Value),ae.eb B M (.fK v)=(.fK v)) /\
  (∀(B:Nat) (M:ag) (v:Value),ae.fM B M (.fK v)=(.fK v)) /\
  (∀(B:Nat) (M:ag) (v:Value),ae.dA B M (.fK v)=(.fK v)) /\
  (∀(B:Nat) (M:ag) (v:Value),ae.dK B M (.fK v)=(.fK v)) /\
  (∀(B:Nat) (M:ag) (v:Value),ae.eX B M (.fK v)=(.fK v)) /\
  (∀(v:Value),ae.shut (.fK v)=(.fK v)) /\
  (∀(v:Value),ae.bS (.fK v)=(.fK v)) /\
  (∀(v:Value),ae.di (.fK v)=true) /\
  (∀(v:Value),ae.plainCell (.fK v)=false) /\
  (∀(v:Value),ae.plain (.fK v)=false) /\
  (∀(v:Value),ae.cells (.fK v)=[(.fK v)]) /\
  (∀(v:Value),ae.cm (.fK v)=[]) /\
  (∀(v:Value),ae.fz (.fK v)=[]) /\
  (∀(v:Value),ae.ids (.fK v)=[]) /\
  (∀(M:ag) (v:Value),ae.gr M (.fK v)=(.fK v)) /\
  (∀(M:ag) (v:Value),ae.mY M (.fK v)=(.fK v)) /\
  (∀(B:Nat) (M:ag) (v:Value),ae.da B M (.raw v)=(.raw v)) /\
  (∀(B:Nat) (M:ag) (v:Value),ae.ew B M (.raw v)=(.raw v)) /\
  (∀(B:Nat) (M:ag) (v:Value),ae.eb B M (.raw v)=(.raw v)) /\
  (∀(B:Nat) (M:ag) (v:Value),ae.fM B M (.raw v)=(.raw v)):=by
 refine ⟨?_,?_,?_,?_,?_,?_,?_,?_,?_,?_,?_,?_,?_,?_,?_,?_,?_,?_,?_,?_,?_,?_,?_,?_,?_,?_,?_,?_,?_,?_,?_,?_,?_,?_,?_,?_,?_,?_,?_,?_⟩<;>intros<;>rfl
def TG8:(∀(B:Nat) (M:ag) (v:Value),ae.dA B M (.raw v)=(.raw v)) /\
  (∀(B:Nat) (M:ag) (v:Value),ae.dK B M (.raw v)=(.raw v)) /\
  (∀(B:Nat) (M:ag) (v:Value),ae.eX B M (.raw v)=(.raw v)) /\
  (∀(v:Value),ae.shut (.raw v)=(.raw v)) /\
  (∀(v:Value),ae.bS (.raw v)=(.raw v)) /\
  (∀(v:Value),ae.di (.raw v)=false) /\
  (∀(v:Value),ae.cells (.raw v)=[(.raw v)]) /\
  (∀(v:Value),ae.cm (.raw v)=[]) /\
  (∀(v:Value),ae.fz (.raw v)=[]) /\
  (∀(v:Value),ae.ids (.raw v)=[]) /\
  (∀(M:ag) (v:Value),ae.gr M (.raw v)=(.raw v)) /\
  (∀(M:ag) (v:Value),ae.mY M (.raw v)=(.raw v)) /\
  (∀(B:Nat) (M:ag) ,ae.da B M .any = .any) /\
  (∀(B:Nat) (M:ag) ,ae.ew B M .any = .any) /\
  (∀(B:Nat) (M:ag) ,ae.eb B M .any = .any) /\
  (∀(B:Nat) (M:ag) ,ae.fM B M .any = .any) /\
  (∀(B:Nat) (M:ag) ,ae.dA B M .any = .any) /\
  (∀(B:Nat) (M:ag) ,ae.dK B M .any = .any) /\
  (∀(B:Nat) (M:ag) ,ae.eX B M .any = .any) /\
  (ae.shut .any = .any) /\
  (ae.bS .any = .any) /\
  (ae.di .any=false) /\
  (ae.plainCell .any=false) /\
  (ae.plain .any=false) /\
  (ae.cells .any=[.any]) /\
  (ae.cm .any=[]) /\
  (ae.fz .any=[]) /\
  (ae.ids .any=[]) /\
  (∀(M:ag) ,ae.gr M .any = .any) /\
  (∀(M:ag) ,ae.mY M .any = .any) /\
  (∀(B:Nat) (M:ag) (xs:List ae),ae.da B M (.slice .sh xs)=(.slice .sh xs)) /\
  (∀(B:Nat) (M:ag) (xs:List ae),ae.ew B M (.slice .sh xs)=(.slice .sh xs)) /\
  (∀(B:Nat) (M:ag) (xs:List ae),ae.eb B M (.slice .sh xs)=(.slice .sh xs)) /\
  (∀(B:Nat) (M:ag) (xs:List ae),ae.fM B M (.slice .sh xs)=(.slice .sh xs)) /\
  (∀(B:Nat) (M:ag) (xs:List ae),ae.dA B M (.slice .sh xs) = .slice .sh xs) /\
  (∀(B:Nat) (M:ag) (xs:List ae),ae.dK B M (.slice .sh xs) = .slice .sh xs) /\
  (∀(B:Nat) (M:ag) (xs:List ae),ae.eX B M (.slice .sh xs) = .slice .sh xs) /\
  (∀(xs:List ae),ae.shut (.slice .sh xs) = .slice .sh xs) /\
  (∀(xs:List ae),ae.bS (.slice .sh xs) = .slice .sh xs) /\
  (∀(xs:List ae),ae.di (.slice .sh xs)=false):=by
 refine ⟨?_,?_,?_,?_,?_,?_,?_,?_,?_,?_,?_,?_,?_,?_,?_,?_,?_,?_,?_,?_,?_,?_,?_,?_,?_,?_,?_,?_,?_,?_,?_,?_,?_,?_,?_,?_,?_,?_,?_,?_⟩<;>intros<;>rfl
def TG9:(∀(xs:List ae),ae.cells? (.slice .sh xs)=some [(.slice .sh xs)]) /\
  (∀(xs:List ae),ae.c8 (.slice .sh xs)=true) /\
  (∀(xs:List ae),ae.plainCell (.slice .sh xs)=true) /\
  (∀(xs:List ae),ae.plain (.slice .sh xs)=true) /\
  (∀(xs:List ae),ae.cells (.slice .sh xs)=[(.slice .sh xs)]) /\
  (∀(xs:List ae),ae.cm (.slice .sh xs)=[]) /\
  (∀(xs:List ae),ae.fz (.slice .sh xs)=[]) /\
  (∀(xs:List ae),ae.ids (.slice .sh xs)=[]) /\
  (∀(M:ag) (xs:List ae),ae.gr M (.slice .sh xs)=(.slice .sh xs)) /\
  (∀(M:ag) (xs:List ae),ae.mY M (.slice .sh xs)=(.slice .sh xs)) /\
  (∀(B:Nat) (M:ag) (xs:List ae),ae.da B M (.slice .c0 xs)=(.slice .c0 xs)) /\
  (∀(B:Nat) (M:ag) (xs:List ae),ae.ew B M (.slice .c0 xs)=(.slice .c0 xs)) /\
  (∀(B:Nat) (M:ag) (xs:List ae),ae.eb B M (.slice .c0 xs)=(.slice .c0 xs)) /\
  (∀(B:Nat) (M:ag) (xs:List ae),ae.fM B M (.slice .c0 xs)=(.slice .c0 xs)) /\
  (∀(B:Nat) (M:ag) (xs:List ae),ae.dA B M (.slice .c0 xs) = .slice .sh xs) /\
  (∀(B:Nat) (M:ag) (xs:List ae),ae.dK B M (.slice .c0 xs) = .slice .sh xs) /\
  (∀(B:Nat) (M:ag) (xs:List ae),ae.eX B M (.slice .c0 xs) = .slice .sh xs) /\
  (∀(xs:List ae),ae.shut (.slice .c0 xs) = .slice .sh xs) /\
  (∀(xs:List ae),ae.bS (.slice .c0 xs) = .slice .sh xs) /\
  (∀(xs:List ae),ae.di (.slice .c0 xs)=false) /\
  (∀(xs:List ae),ae.cells? (.slice .c0 xs)=some [(.slice .c0 xs)]) /\
  (∀(xs:List ae),ae.c8 (.slice .c0 xs)=true) /\
  (∀(xs:List ae),ae.plainCell (.slice .c0 xs)=false) /\
  (∀(xs:List ae),ae.plain (.slice .c0 xs)=false) /\
  (∀(xs:List ae),ae.cells (.slice .c0 xs)=[(.slice .c0 xs)]) /\
  (∀(xs:List ae),ae.cm (.slice .c0 xs)=[]) /\
  (∀(xs:List ae),ae.fz (.slice .c0 xs)=[]) /\
  (∀(xs:List ae),ae.ids (.slice .c0 xs)=[]) /\
  (∀(M:ag) (xs:List ae),ae.gr M (.slice .c0 xs)=(.slice .c0 xs)) /\
  (∀(M:ag) (xs:List ae),ae.mY M (.slice .c0 xs)=(.slice .c0 xs)) /\
  (∀(B:Nat) (M:ag) (k:Nat) (xs:List ae),ae.da B M (.slice (.own k) xs)=if k<B then (.slice (.own k) xs) else .slice .sh xs) /\
  (∀(B:Nat) (M:ag) (k:Nat) (xs:List ae),ae.ew B M (.slice (.own k) xs)=if k<B then (.slice (.own k) xs) else .slice .sh xs) /\
  (∀(B:Nat) (M:ag) (k:Nat) (xs:List ae),ae.eb B M (.slice (.own k) xs)=if k<B then (.slice (.own k) xs) else .slice .sh xs) /\
  (∀(B:Nat) (M:ag) (k:Nat) (xs:List ae),ae.fM B M (.slice (.own k) xs)=if k<B then (.slice (.own k) xs) else .slice .sh xs) /\
  (∀(B:Nat) (M:ag) (k:Nat) (xs:List ae),ae.dA B M (.slice (.own k) xs) = .slice .sh xs) /\
  (∀(B:Nat) (M:ag) (k:Nat) (xs:List ae),ae.dK B M (.slice (.own k) xs) = .slice .sh xs) /\
  (∀(B:Nat) (M:ag) (k:Nat) (xs:List ae),ae.eX B M (.slice (.own k) xs) = .slice .sh xs) /\
  (∀(k:Nat) (xs:List ae),ae.shut (.slice (.own k) xs) = .slice .sh xs) /\
  (∀(k:Nat) (xs:List ae),ae.bS (.slice (.own k) xs) = .slice .sh xs) /\
  (∀(k:Nat) (xs:List ae),ae.di (.slice (.own k) xs)=false):=by
 refine ⟨?_,?_,?_,?_,?_,?_,?_,?_,?_,?_,?_,?_,?_,?_,?_,?_,?_,?_,?_,?_,?_,?_,?_,?_,?_,?_,?_,?_,?_,?_,?_,?_,?_,?_,?_,?_,?_,?_,?_,?_⟩<;>intros<;>rfl
def aaA:(∀(k:Nat) (xs:List ae),ae.cells? (.slice (.own k) xs)=some [(.slice (.own k) xs)]) /\
  (∀(k:Nat) (xs:List ae),ae.c8 (.slice (.own k) xs)=true) /\
  (∀(k:Nat) (xs:List ae),ae.plainCell (.slice (.own k) xs)=false) /\
  (∀(k:Nat) (xs:List ae),ae.plain (.slice (.own k) xs)=false) /\
  (∀(k:Nat) (xs:List ae),ae.cells (.slice (.own k) xs)=[(.slice (.own k) xs)]) /\
  (∀(k:Nat) (xs:List ae),ae.cm (.slice (.own k) xs)=[k]) /\
  (∀(k:Nat) (xs:List ae),ae.fz (.slice (.own k) xs)=[k]) /\
  (∀(k:Nat) (xs:List ae),ae.ids (.slice (.own k) xs)=[k]) /\
  (∀(M:ag) (k:Nat) (xs:List ae),ae.gr M (.slice (.own k) xs)=(.slice (.own k) xs)) /\
  (∀(M:ag) (k:Nat) (xs:List ae),ae.mY M (.slice (.own k) xs)=(.slice (.own k) xs)) /\
  (∀(B:Nat) (M:ag) (cs:List ae),ae.da B M (.agg cs) = .any) /\
  (∀(B:Nat) (M:ag) (cs:List ae),ae.ew B M (.agg cs) = .any) /\
  (∀(B:Nat) (M:ag) (cs:List ae),ae.eb B M (.agg cs) = .agg (cs.map (ae.ew B M))) /\
  (∀(B:Nat) (M:ag) (cs:List ae),ae.fM B M (.agg cs) = .agg (cs.map (ae.ew B M))) /\
  (∀(B:Nat) (M:ag) (cs:List ae),ae.dA B M (.agg cs) = .any) /\
  (∀(B:Nat) (M:ag) (cs:List ae),ae.dK B M (.agg cs) = .agg (cs.map (ae.dA B M))) /\
  (∀(B:Nat) (M:ag) (cs:List ae),ae.eX B M (.agg cs) = .agg (cs.map (ae.dA B M))) /\
  (∀(cs:List ae),ae.shut (.agg cs)=(.agg cs)) /\
  (∀(cs:List ae),ae.bS (.agg cs) = .agg (cs.map ae.shut)) /\
  (∀(cs:List ae),ae.di (.agg cs)=false) /\
  (∀(cs:List ae),ae.cells? (.agg cs)=some cs) /\
  (∀(cs:List ae),ae.c8 (.agg cs)=false) /\
  (∀(cs:List ae),ae.plainCell (.agg cs)=false) /\
  (∀(cs:List ae),ae.plain (.agg cs)=cs.all ae.plainCell) /\
  (∀(cs:List ae),ae.cells (.agg cs)=cs) /\
  (∀(cs:List ae),ae.cm (.agg cs)=[]) /\
  (∀(cs:List ae),ae.fz (.agg cs)=[]) /\
  (∀(cs:List ae),ae.ids (.agg cs)=cs.flatMap ae.fz) /\
  (∀(M:ag) (cs:List ae),ae.gr M (.agg cs)=(.agg cs)) /\
  (∀(M:ag) (cs:List ae),ae.mY M (.agg cs) = .agg (cs.map (ae.gr M))) /\
  (∀(B:Nat) (M:ag) (cs:List ae),ae.da B M (.tuple cs) = .any) /\
  (∀(B:Nat) (M:ag) (cs:List ae),ae.ew B M (.tuple cs) = .any) /\
  (∀(B:Nat) (M:ag) (cs:List ae),ae.eb B M (.tuple cs) = .any) /\
  (∀(B:Nat) (M:ag) (cs:List ae),ae.fM B M (.tuple cs) = .tuple (cs.map (ae.eb B M))) /\
  (∀(B:Nat) (M:ag) (cs:List ae),ae.dA B M (.tuple cs) = .any) /\
  (∀(B:Nat) (M:ag) (cs:List ae),ae.dK B M (.tuple cs) = .any) /\
  (∀(B:Nat) (M:ag) (cs:List ae),ae.eX B M (.tuple cs) = .tuple (cs.map (ae.dK B M))) /\
  (∀(cs:List ae),ae.shut (.tuple cs)=(.tuple cs)) /\
  (∀(cs:List ae),ae.bS (.tuple cs)=(.tuple cs)) /\
  (∀(cs:List ae),ae.di (.tuple cs)=false):=by
 refine ⟨?_,?_,?_,?_,?_,?_,?_,?_,?_,?_,?_,?_,?_,?_,?_,?_,?_,?_,?_,?_,?_,?_,?_,?_,?_,?_,?_,?_,?_,?_,?_,?_,?_,?_,?_,?_,?_,?_,?_,?_⟩<;>intros<;>rfl
def aaB:(∀(cs:List ae),ae.plainCell (.tuple cs)=false) /\
  (∀(cs:List ae),ae.plain (.tuple cs)=false) /\
  (∀(cs:List ae),ae.cells (.tuple cs)=[(.tuple cs)]) /\
  (∀(cs:List ae),ae.cm (.tuple cs)=[]) /\
  (∀(cs:List ae),ae.fz (.tuple cs)=[]) /\
  (∀(cs:List ae),ae.ids (.tuple cs)=[]) /\
  (∀(M:ag) (cs:List ae),ae.gr M (.tuple cs)=(.tuple cs)) /\
  (∀(M:ag) (cs:List ae),ae.mY M (.tuple cs)=(.tuple cs)):=by
 refine ⟨?_,?_,?_,?_,?_,?_,?_,?_⟩<;>intros<;>rfl
def aC {C:bt} {fn:List lL} {base:Nat} {k:List K} {t:Bool} {x y:aO} {env:Env} {M:ag} {r:Option (ae×ag)}
  (h1:t=true->cJ C fn base k x env M=r) (h2:t=false->cJ C fn base k y env M=r):bG C fn base k (.bool t) x y env M=r:=by
 cases t
 ·exact h2 rfl
 ·exact h1 rfl
def bc {C:bt} {fn:List lL} {base:Nat} {k:List K} {live:List Nat} {t w:Bool} {o:aR} {l:List aR} {env:Env} {M:ag} {r:Option (ae×ag)}
  (h1:t=w->gD C fn base k live o.lets o.dst l env (fV C o env M)=r) (h2:t = !w->cE C fn base k live l (hV env o.dst (.tuple [])) M=r):gK C fn base k live (.bool t) w o l env M=r:=by
 cases t<;>cases w
 ·exact h1 rfl
 ·exact h2 rfl
 ·exact h2 rfl
 ·exact h1 rfl
def bZ {C:bt} {fn:List lL} {base:Nat} {k:List K} {live:List Nat} {c:Bool} {d:Option Nat} {l:List aR} {env:Env} {t:Bool} {x y r:Option (ae×ag)}
  (h1:t=true->gD C fn base k live c d l env x=r) (h2:t=false->gD C fn base k live c d l env y=r):gD C fn base k live c d l env (pE t x y)=r:=by
 cases t
 ·exact h2 rfl
 ·exact h1 rfl
def dj {a b:Nat} (h:a<=1000000) (hb:b<=1000):bB a b=True:=by
 have:a*b<=1000000*1000:=Nat.mul_le_mul h hb
 simp only [eq_iff_iff,iff_true]
 unfold bB
 omega
def O7 (x:ae) (n:Nat):wid [x] n=(x.cells.length=n):=by simp [wid]
def O5 (a b:List ae) (n:Nat):wid (a++b) n=(wid a n/\wid b n):=by
 simp only [eq_iff_iff]
 exact ⟨fun h=>⟨fun x hx=>h x (List.mem_append_left _ hx),fun x hx=>h x (List.mem_append_right _ hx)⟩,fun h x hx=>(List.mem_append.1 hx).elim (h.1 x) (h.2 x)⟩
def O6 (n:Nat):wid [] n=True:=by simp [wid]
def Ou (m:Nat):((m:Int)<0)=False:=by simp
def bD {n:Int} (h0 : -9223372036854775808<=n) (h1:n<=9223372036854775807):IntKind.i64.wrap n=n:=by rw [IntKind.wrap_i64]; omega
def fj {C:bt} {f:Nat} {vs:List ae} {r:ae} (h:C f vs []=some (r,[])) (h1:vs.all ae.flat=true) (h2:vs.flatMap ae.ids=[]) (h3:r.pB=true)
  (h4:vs.map (ae.ik (cM []))=vs) (h5:r.ui (pn [])=r) (M:ag):ak C f vs M=some (r,M):=by
 have e0:reach M []=[]:=rfl
 have e1:ep M []=[]:=rfl
 have e2:(vs.map (ae.ik (cM [])))=vs:=h4
 unfold ak
 rw [if_pos h1,h2,e0]
 simp only [dv,aE]
 rw [if_pos e1,e2,h]
 simp [h3,h5,eJ]
def cO {C:bt} {f:Nat} {vs:List ae} {r:ae} (h:C f vs []=some (r,[])) (M:ag) (h1:vs.all ae.flat=true:=by exact rfl) (h2:vs.flatMap ae.ids=[]:=by exact rfl) (h3:r.pB=true:=by exact rfl) (h4:vs.map (ae.ik (cM []))=vs:=by exact rfl) (h5:r.ui (pn [])=r:=by exact rfl):ak C f vs M=some (r,M):=fj h h1 h2 h3 h4 h5 M
def yQ {M:ag} {p:Nat} {b:aK} (h:nth M p=some b):∀b',nth (cS M p b') p=some b':=by
 intro b'
 rw [bE] at h ⊢
 rw [cd]
 exact aU (aj h)
def gb {C:bt} {f p:Nat} {vs:List ae} {r:ae} {M:ag} {cs cs':List ae} (hM:nth M p=some (.cells cs)) (h:C f (.ptr 0 0::vs) [.cells cs]=some (r,[.cells cs'])) (h1:vs.all ae.flat=true) (h2:vs.flatMap ae.ids=[]) (h3:r.pB=true)
  (h4:vs.map (ae.ik (cM [p]))=vs) (h5:r.ui (pn [p])=r) (h6:cs.all ae.nu=true) (h7:cs.flatMap ae.fz=[]) (h8:cs.map (ae.km (cM [p]))=cs) (h9:cs'.all ae.nu=true) (h10:cs'.map (ae.km (pn [p]))=cs') :
  ak C f (.ptr p 0::vs) M=some (r,cS M p (.cells cs')):=by
 have hids:(ae.ptr p 0::vs).flatMap ae.ids=[p]:=by simp [ae.ids,ae.fz,ae.cm,h2]
 have hi:iE M [p]=[]:=by simp [iE,hM,aK.ids,h7]
 have e0:ep M [p]=[p]:=by simp [ep,hi,dU]
 have e1:reach M [p]=[p]:=by
  have ea:dU [] [p]=[p]:=rfl
  simp only [reach,ea,e0]
 have hfl:(ae.ptr p 0::vs).all ae.flat=true:=by simp only [List.all_cons,h1,Bool.and_true]; rfl
 unfold ak
 rw [if_pos hfl,hids,e1]
 have hpk:dv M (cM [p]) [p]=some [.cells cs]:=by simp [dv,hM,aK.flat,h6,aK.ik,h8]
 rw [hpk]
 simp only [aE]
 rw [if_pos e0]
 have hrn:(ae.ptr p 0::vs).map (ae.ik (cM [p])) = .ptr 0 0::vs:=by
  simp only [List.map_cons,h4]
  simp [ae.ik,ae.km,ae.jV,cM]
 rw [hrn,h]
 simp only [aE]
 rw [if_pos ⟨rfl,h3,by simp [aK.flat,h9]⟩,h5]
 simp only [eJ,aK.ik,h10]
def max_lt (n:Nat) (h:n<=9223372036854775807):(IntKind.i64.max<(n:Int))=False:=by
 have:IntKind.i64.max=9223372036854775807:=rfl
 simp only [eq_iff_iff,iff_false,this]; omega
set_option linter.defProp false in
def EVT:=And.intro @GY (And.intro @GX (And.intro @MY (And.intro @MZ (And.intro @E1 (And.intro @GW (And.intro @Cf (And.intro @Li (And.intro @FN (And.intro @FO (And.intro @KV (And.intro @Ov (And.intro @Fp (And.intro @CB (And.intro @Cz (And.intro @CA (And.intro @CC (And.intro @WA (And.intro @Wx (And.intro @Wz (And.intro @Wy (And.intro @WB (And.intro @Na (And.intro @M9 (And.intro @Su (And.intro @Ay (And.intro @Cs (And.intro @Cr (And.intro @yw (And.intro @Aw (And.intro @Kw (And.intro @wy (And.intro @yx (And.intro @Nk (And.intro @yy (And.intro @Ax (And.intro @St (And.intro @List.map_cons.{0,0} (And.intro @List.map_nil.{0,0} (And.intro @aE (And.intro @jc (And.intro @gV (And.intro @Nat.add_zero (And.intro @Nat.zero_add (And.intro @List.length_cons.{0} (And.intro @List.length_nil.{0} (And.intro @List.all_cons.{0} (And.intro @List.all_nil.{0} (And.intro @Bool.and_self (And.intro @List.take_zero.{0} (And.intro @List.nil_append.{0} (And.intro @List.take_succ_cons.{0} (And.intro @List.drop_succ_cons.{0} (And.intro @List.drop_zero.{0} (And.intro @List.drop_nil.{0} (And.intro @List.take_nil.{0} (And.intro @List.append_nil.{0} (And.intro @List.cons_append.{0} (And.intro @Nat.le_refl (And.intro @and_self (And.intro @not_true_eq_false (And.intro @not_false_eq_true (And.intro @Nat.one_ne_zero (And.intro @Nat.zero_ne_one (And.intro @Nat.not_lt_zero (And.intro @Nat.lt_irrefl (And.intro @List.map_take.{0,0} (And.intro @List.length_map.{0,0} (And.intro @Int.toNat_natCast (And.intro @List.getElem?_map.{0,0} (And.intro @Option.map_some.{0,0} (And.intro @CO (And.intro @Int.natCast_nonneg (And.intro @decide_true (And.intro @decide_false (And.intro @BEq.rfl.{0} (And.intro @beq_self_eq_true.{0} (And.intro @Bool.not_true (And.intro @Bool.not_false (And.intro @Ou (And.intro @O7 (And.intro @O6 (And.intro @and_true (And.intro @true_and (And.intro @Bool.and_true (And.intro @List.length_append.{0} (And.intro @ge_iff_le.{0} (And.intro @gt_iff_lt.{0} (And.intro @O5 (And.intro @List.prefix_refl.{0} (And.intro @true_or (And.intro @or_true (And.intro @List.cons_prefix_cons.{0} (And.intro @List.nil_prefix.{0} (And.intro @List.cons_ne_nil.{0} (And.intro @List.flatMap_cons.{0,0} (And.intro @List.flatMap_nil.{0,0} (And.intro @max_lt (And.intro @TG0 (And.intro @TG1 (And.intro @TG2 (And.intro @TG3 (And.intro @TG4 (And.intro @TG5 (And.intro @TG6 (And.intro @TG7 (And.intro @TG8 (And.intro @TG9 (And.intro @aaA (@aaB)))))))))))))))))))))))))))))))))))))))))))))))))))))))))))))))))))))))))))))))))))))))))))))))))))))))))))))
set_option linter.defProp false in
def EVD:=And.intro @finish.eq_1 (And.intro @j9.eq_1 (And.intro @j9.eq_2 (And.intro @vQ.eq_1 (And.intro @vQ.eq_2 (And.intro @vQ.eq_3 (And.intro @one.eq_1 (And.intro @one.eq_2 (And.intro @fV.eq_1 (And.intro @bd.eq_1 (And.intro @bd.eq_2 (And.intro @bd.eq_3 (And.intro @bd.eq_4 (And.intro @bd.eq_5 (And.intro @bd.eq_6 (And.intro @bd.eq_7 (And.intro @bd.eq_8 (And.intro @bd.eq_9 (And.intro @bd.eq_10 (And.intro @bd.eq_11 (And.intro @bd.eq_12 (And.intro @bd.eq_13 (And.intro @bd.eq_14 (And.intro @bd.eq_15 (And.intro @bd.eq_16 (And.intro @bd.eq_17 (And.intro @bd.eq_18 (And.intro @bd.eq_19 (And.intro @bd.eq_20 (And.intro @bd.eq_21 (And.intro @bd.eq_22 (And.intro @bd.eq_23 (And.intro @bd.eq_24 (And.intro @bd.eq_25 (And.intro @bd.eq_26 (And.intro @bd.eq_27 (And.intro @bd.eq_28 (And.intro @bd.eq_29 (And.intro @bd.eq_30 (And.intro @bd.eq_31 (And.intro @bd.eq_32 (And.intro @bd.eq_33 (And.intro @bd.eq_34 (And.intro @bd.eq_35 (And.intro @bd.eq_36 (And.intro @bd.eq_37 (And.intro @bd.eq_38 (And.intro @bd.eq_39 (And.intro @bd.eq_40 (And.intro @bd.eq_41 (And.intro @bd.eq_42 (And.intro @bd.eq_43 (And.intro @bd.eq_44 (And.intro @bd.eq_45 (And.intro @bd.eq_46 (And.intro @bd.eq_47 (And.intro @bd.eq_48 (And.intro @bd.eq_49 (And.intro @bd.eq_50 (And.intro @bd.eq_51 (And.intro @bd.eq_52 (And.intro @bd.eq_53 (And.intro @bd.eq_54 (And.intro @bd.eq_55 (And.intro @bd.eq_56 (And.intro @bd.eq_57 (And.intro @bd.eq_58 (And.intro @bd.eq_59 (And.intro @bd.eq_60 (And.intro @bd.eq_61 (And.intro @bd.eq_62 (And.intro @fh.eq_1 (And.intro @fh.eq_2 (And.intro @cj.ev.eq_1 (And.intro @cj.ev.eq_2 (And.intro @cL.eq_1 (And.intro @cL.eq_2 (And.intro @hV.eq_1 (And.intro @hV.eq_2 (And.intro @fI.eq_1 (And.intro @nth.eq_1 (And.intro @nth.eq_2 (And.intro @nth.eq_3 (And.intro @cS.eq_1 (And.intro @cS.eq_2 (And.intro @cS.eq_3 (And.intro @iq.eq_1 (And.intro @iq.eq_2 (And.intro @iq.eq_3 (And.intro @iq.eq_4 (And.intro @iq.eq_5 (And.intro @iq.eq_6 (And.intro @iq.eq_7 (And.intro @iq.eq_8 (And.intro @iq.eq_9 (And.intro @iq.eq_10 (And.intro @iq.eq_11 (And.intro @iq.eq_12 (And.intro @iq.eq_13 (And.intro @iq.eq_14 (And.intro @iq.eq_15 (And.intro @iq.eq_16 (And.intro @iq.eq_17 (And.intro @iq.eq_18 (And.intro @iq.eq_19 (And.intro @iq.eq_20 (And.intro @iq.eq_21 (And.intro @iq.eq_22 (And.intro @iq.eq_23 (And.intro @iq.eq_24 (And.intro @iq.eq_25 (And.intro @fD.eq_1 (And.intro @qy.eq_1 (And.intro @eW.eq_1 (And.intro @aK.back.eq_1 (And.intro @aK.back.eq_2 (And.intro @aK.back.eq_3 (And.intro @aK.back.eq_4 (And.intro @aK.back.eq_5 (And.intro @j8.eq_1 (And.intro @j8.eq_2 (And.intro @oA.eq_1 (And.intro @oA.eq_2 (And.intro @eP.eq_1 (And.intro @eP.eq_2 (And.intro @dS.bh.eq_1 (And.intro @dS.bh.eq_2 (And.intro @dS.bh.eq_3 (And.intro @bO.eq_1 (And.intro @bO.eq_2 (And.intro @ob.eq_1 (And.intro @og.eq_1 (And.intro @ox.eq_1 (And.intro @bytesOf.eq_1 (And.intro @valOf.eq_1 (@valOf.eq_2)))))))))))))))))))))))))))))))))))))))))))))))))))))))))))))))))))))))))))))))))))))))))))))))))))))))))))))))))))))))))))))))))))))))
set_option linter.defProp false in
def jZ:=And.intro @Bool.and_true (And.intro @Bool.true_and (And.intro @Bool.and_false (And.intro @Bool.false_and (And.intro @Bool.or_true (And.intro @Bool.true_or (And.intro @Bool.or_false (And.intro @Bool.false_or (And.intro @Bool.not_true (And.intro @Bool.not_false (And.intro @Bool.and_self (And.intro @Bool.or_self (And.intro @Bool.false_eq_true (@beq_self_eq_true.{0})))))))))))))
set_option linter.defProp false in
def EV:=And.intro @ne_eq.{1} (And.intro EVT EVD)
end
end Go.Abs
namespace Go.Proofs.YtahkjijkflobhaaGreatDoor
open Go Go.Abs
def code:Nat->Option cf
 |8=>some fn8
 |10=>some Q0
 |11=>some Q1
 |12=>some Q2
 |15=>some We
 |18=>some Q3
 |20=>some Q4
 |21=>some Q5
 |22=>some Wf
 |27=>some Q6
 |28=>some Q7
 |29=>some Wg
 |30=>some Wh
 |31=>some Wi
 |32=>some Q8
 |34=>some Q9
 |37=>some Ra
 |38=>some Rb
 |39=>some Rc
 |40=>some Wj
 |41=>some Re
 |42=>some Wl
 |43=>some Wm
 |44=>some Wn
 |45=>some Wo
 |46=>some Wp
 |61=>some M4
 |62=>some E3
 |63=>some Ci
 |64=>some E4
 |65=>some Ae
 |66=>some Ip
 |67=>some M5
 |68=>some Iq
 |69=>some M6
 |70=>some Cj
 |71=>some wu
 |72=>some Ir
 |73=>some E5
 |74=>some It
 |75=>some Iu
 |76=>some M7
 |77=>some Rf
 |78=>some Rg
 |79=>some Wq
 |80=>some Wr
 |81=>some Ws
 |82=>some Wt
 |83=>some Wu
 |84=>some Rh
 |85=>some Ri
 |86=>some Rj
 |87=>some Rk
 |88=>some Rl
 |89=>some Rm
 |90=>some Rn
 |91=>some Wv
 |92=>some Ro
 |93=>some Rp
 |94=>some Rq
 |98=>some Rr
 |99=>some Rs
 |100=>some G7
 |101=>some G8
 |124=>some G9
 |125=>some Ha
 |126=>some Hb
 |127=>some Hc
 |128=>some He
 |129=>some Hf
 |130=>some Hg
 |131=>some Hh
 |132=>some pC
 |133=>some Hi
 |134=>some Hj
 |135=>some Hk
 |136=>some Dq
 |137=>some Hl
 |138=>some zX
 |140=>some zY
 |141=>some zZ
 |142=>some Hm
 |143=>some Hn
 |145=>some z6
 |146=>some Ho
 |147=>some Hp
 |148=>some Hq
 |149=>some Pz
 |150=>some PB
 |151=>some PC
 |152=>some Hr
 |153=>some Dr
 |154=>some Hs
 |155=>some PD
 |156=>some PE
 |157=>some z7
 |159=>some PF
 |160=>some Ds
 |161=>some Ht
 |162=>some Hu
 |163=>some Hv
 |164=>some Dt
 |165=>some Hw
 |166=>some Hx
 |167=>some Hy
 |168=>some Hz
 |169=>some HA
 |193=>some HB
 |194=>some HC
 |195=>some HD
 |196=>some HE
 |197=>some HF
 |198=>some HG
 |199=>some HH
 |200=>some HI
 |203=>some HJ
 |204=>some HK
 |205=>some HL
 |206=>some HM
 |207=>some wS
 |208=>some HN
 |209=>some HO
 |210=>some HP
 |211=>some HQ
 |212=>some HR
 |213=>some Aa
 |215=>some HS
 |217=>some PG
 |218=>some HT
 |221=>some Ab
 |222=>some HU
 |225=>some HV
 |226=>some HW
 |227=>some HX
 |232=>some HY
 |233=>some HZ
 |234=>some H0
 |235=>some H2
 |236=>some PH
 |237=>some H3
 |238=>some H4
 |239=>some H5
 |240=>some PI
 |243=>some H6
 |244=>some H7
 |245=>some H8
 |253=>some H9
 |254=>some Ia
 |258=>some Ib
 |259=>some Du
 |261=>some Ic
 |262=>some Ie
 |263=>some Ig
 |264=>some Ih
 |265=>some Ii
 |266=>some Ij
 |273=>some Ac
 |275=>some Ik
 |286=>some Il
 |296=>some Im
 |307=>some Ad
 |325=>some wT
 |_=>none
noncomputable def fT:Nat->Option (List ae->ag->Option (ae×ag))
 |216=>some (lF 3 2 217)
 |158=>some (lF 6 0 159)
 |274=>some (qg)
 |289=>some (AU)
 |295=>some (rr)
 |214=>some (fg 3 32)
 |255=>some (fg 6 80)
 |220=>some (fg 3 24)
 |202=>some (fg 3 24)
 |224=>some (jH 8 96)
 |230=>some (jH 3 24)
 |139=>some (S7 1 1)
 |294=>some (eB 6)
 |260=>some (eB 3)
 |223=>some (jU 3)
 |228=>some (jU 3)
 |256=>some (ef 6 80)
 |257=>some (ef 3 32)
 |219=>some (ef 3 24)
 |229=>some (ef 3 24)
 |_=>none
noncomputable def aQ:qm:=⟨code,fT⟩
set_option maxRecDepth 100000 in
def cp {f:Nat} {c fn:cf} {func:Func} {A:we} (h:some c=some fn) (h1:Tryz.prog.funcs[f]?=some func) (h2:jv Tryz.prog A func=some c):∃ A func,Tryz.prog.funcs[f]?=some func/\jv Tryz.prog A func=some fn:=by
 injection h with h; subst h; exact ⟨_,_,h1,h2⟩
def Dl (f:Nat) (fn:cf) (h:code f=some fn):∃A func,Tryz.prog.funcs[f]?=some func/\jv Tryz.prog A func=some fn:=by
 unfold code at h
 split at h
 ·exact cp h Tryz.func8 ok8
 ·exact cp h Tryz.func10 adx
 ·exact cp h Tryz.func11 ady
 ·exact cp h Tryz.func12 adz
 ·exact cp h Tryz.func15 adA
 ·exact cp h Tryz.func18 adB
 ·exact cp h Tryz.func20 adC
 ·exact cp h Tryz.func21 adE
 ·exact cp h Tryz.func22 adF
 ·exact cp h Tryz.func27 adG
 ·exact cp h Tryz.func28 adH
 ·exact cp h Tryz.func29 adI
 ·exact cp h Tryz.func30 adJ
 ·exact cp h Tryz.func31 adK
 ·exact cp h Tryz.func32 adL
 ·exact cp h Tryz.func34 adM
 ·exact cp h Tryz.func37 adN
 ·exact cp h Tryz.func38 adO
 ·exact cp h Tryz.func39 adP
 ·exact cp h Tryz.func40 adQ
 ·exact cp h Tryz.func41 adR
 ·exact cp h Tryz.func42 adS
 ·exact cp h Tryz.func43 adT
 ·exact cp h Tryz.func44 adU
 ·exact cp h Tryz.func45 adV
 ·exact cp h Tryz.func46 adW
 ·exact cp h Tryz.func61 adX
 ·exact cp h Tryz.func62 adY
 ·exact cp h Tryz.func63 adZ
 ·exact cp h Tryz.func64 ad0
 ·exact cp h Tryz.func65 ad1
 ·exact cp h Tryz.func66 ad2
 ·exact cp h Tryz.func67 ad3
 ·exact cp h Tryz.func68 ad4
 ·exact cp h Tryz.func69 ad5
 ·exact cp h Tryz.func70 ad6
 ·exact cp h Tryz.func71 ad7
 ·exact cp h Tryz.func72 ad8
 ·exact cp h Tryz.func73 ad9
 ·exact cp h Tryz.func74 aea
 ·exact cp h Tryz.func75 aeb
 ·exact cp h Tryz.func76 aec
 ·exact cp h Tryz.func77 aed
 ·exact cp h Tryz.func78 aee
 ·exact cp h Tryz.func79 aef
 ·exact cp h Tryz.func80 aeg
 ·exact cp h Tryz.func81 aeh
 ·exact cp h Tryz.func82 aei
 ·exact cp h Tryz.func83 aej
 ·exact cp h Tryz.func84 aek
 ·exact cp h Tryz.func85 ael
 ·exact cp h Tryz.func86 aem
 ·exact cp h Tryz.func87 aen
 ·exact cp h Tryz.func88 aeo
 ·exact cp h Tryz.func89 aep
 ·exact cp h Tryz.func90 aeq
 ·exact cp h Tryz.func91 aer
 ·exact cp h Tryz.func92 aes
 ·exact cp h Tryz.func93 aet
 ·exact cp h Tryz.func94 aeu
 ·exact cp h Tryz.func98 aev
 ·exact cp h Tryz.func99 aew
 ·exact cp h Tryz.func100 Xz
 ·exact cp h Tryz.func101 XA
 ·exact cp h Tryz.func124 XB
 ·exact cp h Tryz.func125 XC
 ·exact cp h Tryz.func126 XD
 ·exact cp h Tryz.func127 XE
 ·exact cp h Tryz.func128 XF
 ·exact cp h Tryz.func129 XG
 ·exact cp h Tryz.func130 XH
 ·exact cp h Tryz.func131 XI
 ·exact cp h Tryz.func132 XJ
 ·exact cp h Tryz.func133 XK
 ·exact cp h Tryz.func134 XL
 ·exact cp h Tryz.func135 XM
 ·exact cp h Tryz.func136 XN
 ·exact cp h Tryz.func137 XO
 ·exact cp h Tryz.func138 XP
 ·exact cp h Tryz.func140 XQ
 ·exact cp h Tryz.func141 XR
 ·exact cp h Tryz.func142 XT
 ·exact cp h Tryz.func143 XU
 ·exact cp h Tryz.func145 XV
 ·exact cp h Tryz.func146 XW
 ·exact cp h Tryz.func147 XX
 ·exact cp h Tryz.func148 XY
 ·exact cp h Tryz.func149 XZ
 ·exact cp h Tryz.func150 X2
 ·exact cp h Tryz.func151 X3
 ·exact cp h Tryz.func152 X4
 ·exact cp h Tryz.func153 X5
 ·exact cp h Tryz.func154 X6
 ·exact cp h Tryz.func155 X7
 ·exact cp h Tryz.func156 X8
 ·exact cp h Tryz.func157 X9
 ·exact cp h Tryz.func159 Ya
 ·exact cp h Tryz.func160 Yb
 ·exact cp h Tryz.func161 Yc
 ·exact cp h Tryz.func162 Yd
 ·exact cp h Tryz.func163 Ye
 ·exact cp h Tryz.func164 Yf
 ·exact cp h Tryz.func165 Yg
 ·exact cp h Tryz.func166 Yh
 ·exact cp h Tryz.func167 Yi
 ·exact cp h Tryz.func168 Yj
 ·exact cp h Tryz.func169 Yk
 ·exact cp h Tryz.func193 Yl
 ·exact cp h Tryz.func194 Ym
 ·exact cp h Tryz.func195 Yn
 ·exact cp h Tryz.func196 Yo
 ·exact cp h Tryz.func197 Yp
 ·exact cp h Tryz.func198 Yq
 ·exact cp h Tryz.func199 Yr
 ·exact cp h Tryz.func200 Yt
 ·exact cp h Tryz.func203 Yv
 ·exact cp h Tryz.func204 Yw
 ·exact cp h Tryz.func205 Yx
 ·exact cp h Tryz.func206 Yy
 ·exact cp h Tryz.func207 Yz
 ·exact cp h Tryz.func208 YA
 ·exact cp h Tryz.func209 YB
 ·exact cp h Tryz.func210 YC
 ·exact cp h Tryz.func211 YD
 ·exact cp h Tryz.func212 YE
 ·exact cp h Tryz.func213 YF
 ·exact cp h Tryz.func215 YG
 ·exact cp h Tryz.func217 YH
 ·exact cp h Tryz.func218 YI
 ·exact cp h Tryz.func221 YJ
 ·exact cp h Tryz.func222 YK
 ·exact cp h Tryz.func225 YL
 ·exact cp h Tryz.func226 YM
 ·exact cp h Tryz.func227 YN
 ·exact cp h Tryz.func232 YO
 ·exact cp h Tryz.func233 YP
 ·exact cp h Tryz.func234 YQ
 ·exact cp h Tryz.func235 YR
 ·exact cp h Tryz.func236 YT
 ·exact cp h Tryz.func237 YU
 ·exact cp h Tryz.func238 YV
 ·exact cp h Tryz.func239 YW
 ·exact cp h Tryz.func240 YX
 ·exact cp h Tryz.func243 YY
 ·exact cp h Tryz.func244 YZ
 ·exact cp h Tryz.func245 Y0
 ·exact cp h Tryz.func253 Y1
 ·exact cp h Tryz.func254 Y2
 ·exact cp h Tryz.func258 Y3
 ·exact cp h Tryz.func259 Y4
 ·exact cp h Tryz.func261 Y6
 ·exact cp h Tryz.func262 Y7
 ·exact cp h Tryz.func263 Y8
 ·exact cp h Tryz.func264 Y9
 ·exact cp h Tryz.func265 Za
 ·exact cp h Tryz.func266 Zb
 ·exact cp h Tryz.func273 Zc
 ·exact cp h Tryz.func275 Zd
 ·exact cp h Tryz.func286 Ze
 ·exact cp h Tryz.func296 Zf
 ·exact cp h Tryz.func307 Zg
 ·exact cp h Tryz.func325 Zh
 ·cases h
def DX (f:Nat) (g:List ae->ag->Option (ae×ag)) (h:fT f=some g) (args:List ae) (M:ag) (x:ae×ag) (hx:g args M=some x):fu Tryz.prog f=true/\ba Tryz.prog f args M x:=by
 unfold fT at h
 split at h
 ·injection h with h; subst h; exact ⟨by kernel_rfl,LY hx⟩
 ·injection h with h; subst h; exact ⟨by kernel_rfl,LX hx⟩
 ·injection h with h; subst h; exact ⟨by kernel_rfl,Cn hx⟩
 ·injection h with h; subst h; exact ⟨by kernel_rfl,WM hx⟩
 ·injection h with h; subst h; exact ⟨by kernel_rfl,zK hx⟩
 ·injection h with h; subst h; exact ⟨by kernel_rfl,EI hx⟩
 ·injection h with h; subst h; exact ⟨by kernel_rfl,EK hx⟩
 ·injection h with h; subst h; exact ⟨by kernel_rfl,EJ hx⟩
 ·injection h with h; subst h; exact ⟨by kernel_rfl,EH hx⟩
 ·injection h with h; subst h; exact ⟨by kernel_rfl,BP hx⟩
 ·injection h with h; subst h; exact ⟨by kernel_rfl,BQ hx⟩
 ·injection h with h; subst h; exact ⟨by kernel_rfl,QV hx⟩
 ·injection h with h; subst h; exact ⟨by kernel_rfl,ET hx⟩
 ·injection h with h; subst h; exact ⟨by kernel_rfl,ES hx⟩
 ·injection h with h; subst h; exact ⟨by kernel_rfl,B2 hx⟩
 ·injection h with h; subst h; exact ⟨by kernel_rfl,B3 hx⟩
 ·injection h with h; subst h; exact ⟨by kernel_rfl,Ff hx⟩
 ·injection h with h; subst h; exact ⟨by kernel_rfl,Fg hx⟩
 ·injection h with h; subst h; exact ⟨by kernel_rfl,Fc hx⟩
 ·injection h with h; subst h; exact ⟨by kernel_rfl,Fe hx⟩
 ·cases h
def TQ:nL Tryz.prog aQ:=⟨Dl,DX⟩
abbrev Bytes:=List UInt8
structure b9 where
 name:Bytes
 ino:Int
 af:Int
 deriving DecidableEq,Inhabited
structure Node where
 ino:Int
 kind:Int
 bw:Int
 data:Bytes
 av:List b9
 up:Int
 deriving DecidableEq,Inhabited
structure Tree where
 nodes:List Node
 next:Int
 af:Int
 deriving DecidableEq,Inhabited
def Node.zero:Node:=⟨0,0,0,[],[],0⟩
def cI (e:b9):List ae:=[.str e.name,.int .i64 e.ino,.int .i64 e.af]
def cQ (e:b9):ae := .agg (cI e)
abbrev fa (l:List b9):ae := .slice .sh (l.map cQ)
abbrev dg (d:Bytes):ae := .slice .sh (d.map jk)
def aw (n:Node):List ae:=[.int .i64 n.ino,.int .i64 n.kind,.int .i64 n.bw,dg n.data,fa n.av,.int .i64 n.up]
def aX (n:Node):ae := .agg (aw n)
abbrev az (l:List Node):ae := .slice .sh (l.map aX)
def ar (t:Tree):List ae:=[az t.nodes,.int .i64 t.next,.int .i64 t.af]
def bj (t:Tree):ae := .agg (ar t)
structure Small (t:Tree):Prop where
 nodes:t.nodes.length<=100000
 av:∀n,n∈t.nodes->n.av.length<=100000
 data:∀n,n∈t.nodes->n.data.length<=100000
def zE (n:Node):(aX n).cells=aw n:=rfl
def BO (e:b9):(cQ e).cells=cI e:=rfl
def Cu (n:Node):(aw n).length=6:=rfl
def Fo (e:b9):(cI e).length=3:=rfl
def xT (l:List Node):wid (l.map aX) 6=True:=by
 simp only [eq_iff_iff,iff_true]
 intro x hx
 obtain ⟨n,_,rfl⟩:=List.mem_map.1 hx
 rfl
def Bn (l:List b9):wid (l.map cQ) 3=True:=by
 simp only [eq_iff_iff,iff_true]
 intro x hx
 obtain ⟨n,_,rfl⟩:=List.mem_map.1 hx
 rfl
def jD (l:Bytes):wid (l.map jk) 1=True:=by
 simp only [eq_iff_iff,iff_true]
 intro x hx
 obtain ⟨n,_,rfl⟩:=List.mem_map.1 hx
 rfl
structure Step where
 kind:Nat
 a:Nat
 b:Nat
 n:Nat
 m:Nat
 data:Bytes
set_option linter.defProp false in
def EVN:=And.intro @zE (And.intro @BO (And.intro @Cu (And.intro @Fo (And.intro @xT (And.intro @Bn @jD)))))
set_option linter.defProp false in
def EN:=And.intro EVN EV
section
attribute [local irreducible] cJ cE gD gK bG kr ai ak aV aF
def cn {α:Type} {l:List α} {pre r:List α} {n:α} (h:l=pre++n::r):l[pre.length]?=some n:=by rw [h]; simp
def cC {α:Type} {l:List α} {pre r:List α} {n:α} (h:l=pre++n::r):((pre.length:Int)<(l.length:Int))=True:=by rw [h]; simp; omega
def c9 {α:Type} {l:List α} {pre:List α} (h:l=pre++[]):((pre.length:Int)<(l.length:Int))=False:=by rw [h]; simp
def bK {α:Type} {pre:List α} {n:α}:((pre.length:Int)+1)=((pre++[n]).length:Int):=by simp
def find (nodes:List Node) (ino:Int):Option Node:=nodes.find? fun n=>n.ino==ino
def cP (nodes:List Node) (ino:Int):Node×Int:=match find nodes ino with
 |none=>(Node.zero,70)
 |some n=>if n.kind=2 then (n,0) else (Node.zero,73)
def ck (l:List b9) (s:Bytes):Option b9:=l.find? fun e=>e.name==s
def nc (b:UInt8):Bool := !(decide ((b.toNat:Int)<32)||((b.toNat:Int)==47))
def cD (s:Bytes):Bool := !(decide ((s.length:Int)<1)||(decide ((s.length:Int)>32)||(s==[46]||s==[46,46])))&&s.all nc
def bU (nodes:List Node) (ino:Int) (s:Bytes):Int×Int :=
 if (cP nodes ino).2≠0 then (0,(cP nodes ino).2) else if cD s=false then (0,60) else match ck (cP nodes ino).1.av s with
  |none=>(0,70)
  |some e=>(e.ino,0)
def aY {nodes:List Node} {ino:Int} {n:Node} (h:find nodes ino=some n):n∈nodes/\n.ino=ino:=by
 unfold find at h
 exact ⟨List.mem_of_find?_eq_some h,by simpa using List.find?_some h⟩
def r8 {t:Tree} (hs:Small t) (ino:Int):(cP t.nodes ino).1.av.length<=100000:=by
 unfold cP
 split
 ·simp [Node.zero]
 ·rename_i n hn
  split
  ·exact hs.av n (aY hn).1
  ·simp [Node.zero]
def zT:List ae:=[.slice .c0 [],.int .i64 0,.int .i64 0]
def gQ (n:Node):List Node->List Node->Bool->List Node×Bool
 | [],out,done=>(out,done)
 |m::r,out,done =>
  gQ n r ((if (!done&&decide (m.ino>=n.ino))=true then out++[n] else out)++(if m.ino=n.ino then [] else [m])) (done||decide (m.ino>=n.ino))
def bL (nodes:List Node) (n:Node):List Node:=(gQ n nodes [] false).1++(if (gQ n nodes [] false).2=true then [] else [n])
def ct (nodes:List Node) (ino:Int):List Node:=nodes.filter fun n=>n.ino != ino
def dR (l:List b9) (s:Bytes):List b9:=l.filter fun e=>e.name != s
def bu (nodes:List Node) (ino:Int) (s:Bytes):List Node:=bL nodes { (find nodes ino).getD Node.zero with av:=dR ((find nodes ino).getD Node.zero).av s }
abbrev fR (n:Int):Int:=IntKind.i64.wrap n
def Ru (a b:Bytes):Bool := !(strLt a b||a==b)
def n9 (e:b9):List b9->List b9->Bool->List b9×Bool
 | [],out,done=>(out,done)
 |m::r,out,done=>n9 e r ((if (!done&&Ru m.name e.name)=true then out++[e] else out)++[m]) (done||Ru m.name e.name)
def ri (l:List b9) (e:b9):List b9:=(n9 e l [] false).1++(if (n9 e l [] false).2=true then [] else [e])
def dh (t:Tree) (ino:Int) (s:Bytes) (of:Int):Tree :=
 ⟨bL t.nodes { (find t.nodes ino).getD Node.zero with av:=ri ((find t.nodes ino).getD Node.zero).av ⟨s,of,t.af⟩ },t.next,fR (t.af+1)⟩
def F8 (nodes:List Node) (ino:Int):Int:=((find nodes ino).getD Node.zero).up
def qX (nodes:List Node):Nat->Int->Nat->Nat
 |0,_,d=>d
 |m+1,ino,d=>if ino=1 then d else qX nodes m (F8 nodes ino) (d+1)
def iv (nodes:List Node) (ino:Int):Nat:=qX nodes 201 ino 0
def fy (nodes:List Node) (of:Int):Nat->Int->Bool
 |0,_=>false
 |m+1,ino=>if ino=of then true else if ino=1 then false else fy nodes of m (F8 nodes ino)
def cH (nodes:List Node) (ino of:Int):Bool:=fy nodes of (nodes.length+1) ino
structure Sz (b:Nat) (t:Tree):Prop where
 nodes:t.nodes.length<=b
 av:∀n,n∈t.nodes->n.av.length<=b
 data:∀n,n∈t.nodes->n.data.length<=100000
def Sz.small {b:Nat} {t:Tree} (h:Sz b t) (hb:b<=100000):Small t:=⟨Nat.le_trans h.nodes hb,fun n hn=>Nat.le_trans (h.av n hn) hb,h.data⟩
def xU (n:Node):∀(l out:List Node) (d:Bool),(gQ n l out d).1.length+(if (gQ n l out d).2=true then 0 else 1)<=out.length+l.length+(if d=true then 0 else 1)
 | [],out,d=>by simp only [gQ,List.length_nil,Nat.add_zero]; exact Nat.le_refl _
 |m::r,out,d=>by
  rw [gQ]
  refine Nat.le_trans (xU n r _ _) ?_
  cases d<;>by_cases h1:n.ino<=m.ino<;>by_cases h2:m.ino=n.ino<;>simp [h1,h2]<;>omega
def xV (n:Node):∀(l out:List Node) (d:Bool) (x:Node),x∈(gQ n l out d).1->x=n\/x∈out\/x∈l
 | [],out,d,x,h=>by simp [gQ] at h; exact .inr (.inl h)
 |m::r,out,d,x,h=>by
  rw [gQ] at h
  rcases xV n r _ _ x h with h|h|h
  ·exact .inl h
  ·rcases List.mem_append.1 h with h|h
   ·split at h
    ·rcases List.mem_append.1 h with h|h
     ·exact .inr (.inl h)
     ·exact .inl (by simpa using h)
    ·exact .inr (.inl h)
   ·split at h
    ·cases h
    ·exact .inr (.inr (by simp at h; simp [h]))
  ·exact .inr (.inr (List.mem_cons_of_mem _ h))
def xW (nodes:List Node) (n:Node):(bL nodes n).length<=nodes.length+1:=by
 have:=xU n nodes [] false
 unfold bL
 split at this<;>simp_all
def xX {nodes:List Node} {n x:Node} (h:x∈bL nodes n):x=n\/x∈nodes:=by
 unfold bL at h
 rcases List.mem_append.1 h with h|h
 ·rcases xV n nodes [] false x h with h|h|h
  ·exact .inl h
  ·cases h
  ·exact .inr h
 ·split at h
  ·cases h
  ·exact .inl (by simpa using h)
def Sz.with {b:Nat} {t:Tree} (h:Sz b t) {n:Node} (h1:n.av.length<=b+1) (h2:n.data.length<=100000) (next af:Int):Sz (b+1) ⟨bL t.nodes n,next,af⟩ :=
 ⟨Nat.le_trans (xW _ _) (by have:=h.nodes; simp; omega),fun x hx=>by
  rcases xX hx with rfl|hx
  ·exact h1
  ·exact Nat.le_succ_of_le (h.av x hx),fun x hx=>by
  rcases xX hx with rfl|hx
  ·exact h2
  ·exact h.data x hx⟩
def Sz.up {b c:Nat} {t:Tree} (h:Sz b t) (hbc:b<=c):Sz c t:=⟨Nat.le_trans h.nodes hbc,fun n hn=>Nat.le_trans (h.av n hn) hbc,h.data⟩
def Sz.find {b:Nat} {t:Tree} (h:Sz b t) (ino:Int):((find t.nodes ino).getD Node.zero).av.length<=b/\((find t.nodes ino).getD Node.zero).data.length<=100000:=by
 cases hf:Go.Proofs.YtahkjijkflobhaaGreatDoor.find t.nodes ino with
 |none=>simp [Node.zero]
 |some n=>exact ⟨h.av n (aY hf).1,h.data n (aY hf).1⟩
def sa (l:List b9) (s:Bytes):(dR l s).length<=l.length:=List.length_filter_le _ _
def Sz.left {b:Nat} {t:Tree} (h:Sz b t) (ino:Int) (s:Bytes) (next af:Int):Sz (b+1) ⟨bu t.nodes ino s,next,af⟩ :=
 h.with (n:={ (Go.Proofs.YtahkjijkflobhaaGreatDoor.find t.nodes ino).getD Node.zero with av:=dR ((Go.Proofs.YtahkjijkflobhaaGreatDoor.find t.nodes ino).getD Node.zero).av s }) (Nat.le_trans (sa _ _) (Nat.le_succ_of_le (h.find ino).1)) (h.find ino).2 next af
def Sz.rO {b:Nat} {t:Tree} (h:Sz b t) (ino:Int) (next af:Int):Sz b ⟨ct t.nodes ino,next,af⟩ :=
 ⟨Nat.le_trans (List.length_filter_le _ _) h.nodes,fun x hx=>h.av x ((List.mem_filter.1 hx).1),fun x hx=>h.data x ((List.mem_filter.1 hx).1)⟩
def Dv (t:Tree) (n:Node):Bool:=decide ((64:Int)<=n.av.length)||(decide ((12:Int)<=iv t.nodes n.ino)||decide ((1099511627776:Int)<=t.af))
def iW (t:Tree) (ino:Int) (s:Bytes):Int :=
 if (cP t.nodes ino).2≠0 then (cP t.nodes ino).2 else if cD s=false then 60 else if (ck (cP t.nodes ino).1.av s).isSome=true then 71 else if Dv t (cP t.nodes ino).1=true then 76 else 0
def pN (t:Tree) (ino:Int) (s:Bytes) (kind:Int):Tree×Int×Int :=
 if (kind != 1&&kind != 2)=true then (t,0,1) else if (iW t ino s != 0)=true then (t,0,iW t ino s) else
 if (decide ((200:Int)<=t.nodes.length)||decide ((1099511627776:Int)<=t.next))=true then (t,0,76) else
 (dh ⟨bL t.nodes ⟨t.next,kind,1,[],[],if (kind==2)=true then ino else 0⟩,fR (t.next+1),t.af⟩ ino s t.next,t.next,0)
abbrev aA (nodes:List Node) (ino:Int):Node:=(find nodes ino).getD Node.zero
def CD (t:Tree) (ino to:Int) (s:Bytes):Tree×Int :=
 if (!(find t.nodes ino).isSome||((aA t.nodes ino).kind==1&&(aA t.nodes ino).bw==0))=true then (t,70) else if ((aA t.nodes ino).kind==2)=true then (t,72) else
 if (iW t to s != 0)=true then (t,iW t to s) else
 (dh ⟨bL t.nodes { aA t.nodes ino with bw:=fR ((aA t.nodes ino).bw+1) },t.next,t.af⟩ to s ino,0)
def cT (nodes:List Node) (ino:Int):List Node :=
 if ((aA nodes ino).kind==2)=true then ct nodes ino else bL nodes { aA nodes ino with bw:=fR ((aA nodes ino).bw-1) }
def C2 (t:Tree) (ino:Int) (s:Bytes):Tree×Int×Int :=
 if ((bU t.nodes ino s).2 != 0)=true then (t,0,(bU t.nodes ino s).2) else if decide ((0:Int)<(aA t.nodes (bU t.nodes ino s).1).av.length)=true then (t,0,74) else
 (⟨cT (bu t.nodes ino s) (bU t.nodes ino s).1,t.next,t.af⟩,(bU t.nodes ino s).1,0)
def pS (nodes:List Node) (kind:Int) (y:Int):Int :=
 if (!(find nodes y).isSome)=true then 0 else if (kind==2&&(aA nodes y).kind != 2)=true then 73 else if (kind != 2&&(aA nodes y).kind==2)=true then 72 else if decide ((0:Int)<(aA nodes y).av.length)=true then 74 else 0
def nF (t:Tree) (ino:Int) (data:Bytes):Tree×Int :=
 if (!(find t.nodes ino).isSome)=true then (t,70) else if ((aA t.nodes ino).kind==2)=true then (t,72) else if decide ((4096:Int)<data.length)=true then (t,2) else
 (⟨bL t.nodes { aA t.nodes ino with data:=data },t.next,t.af⟩,0)
def ig (t:Tree) (ino:Int):Tree×Int :=
 if (!(find t.nodes ino).isSome)=true then (t,70) else if ((aA t.nodes ino).kind==2)=true then (t,72) else if decide ((0:Int)<(aA t.nodes ino).bw)=true then (t,71) else
 (⟨ct t.nodes ino,t.next,t.af⟩,0)
def wA:Tree:=⟨[⟨1,2,0,[],[],1⟩],2,1⟩
def mo (nodes:List Node) (ino at' d:Int) (n:Node) (most:Int):Int :=
 if (n.kind==2&&cH nodes n.ino ino)=true then
  (if (if decide ((0:Int)<n.av.length)=true then fR (fR (fR (at'+iv nodes n.ino)-d)+1) else fR (fR (at'+iv nodes n.ino)-d))>most
   then (if decide ((0:Int)<n.av.length)=true then fR (fR (fR (at'+iv nodes n.ino)-d)+1) else fR (fR (at'+iv nodes n.ino)-d)) else most)
 else most
def pZ (nodes:List Node) (ino at' d:Int):List Node->Int->Int
 | [],most=>most
 |n::r,most=>pZ nodes ino at' d r (mo nodes ino at' d n most)
def w6 (nodes:List Node) (ino at':Int):Int:=pZ nodes ino at' (iv nodes ino) nodes 0
def dN (l:List b9) (s:Bytes):Int:=match ck l s with
 |none=>0
 |some e=>e.ino
def manyN (t:Tree) (nU to:Int) (av:List b9) (kind y ino:Int):Bool :=
 ((y==0&&to != nU)&&decide ((64:Int)<=av.length))||(decide ((12:Int)<=iv t.nodes to)||((kind==2&&decide ((12:Int)<w6 t.nodes ino (fR (iv t.nodes to+1))))||decide ((1099511627776:Int)<=t.af)))
def ny (t:Tree) (nU:Int) (s:Bytes) (to:Int) (nm:Bytes) (ino y:Int):Tree :=
 dh ⟨if ((aA t.nodes ino).kind==2)=true then
   bL (if (y != 0)=true then cT (bu (bu t.nodes nU s) to nm) y else bu t.nodes nU s) { aA t.nodes ino with up:=to }
  else if (y != 0)=true then cT (bu (bu t.nodes nU s) to nm) y else bu t.nodes nU s,t.next,t.af⟩ to nm ino
def xy (t:Tree) (nU:Int) (s:Bytes) (to:Int) (nm:Bytes):Tree×Int×Int :=
 if ((bU t.nodes nU s).2 != 0)=true then (t,0,(bU t.nodes nU s).2) else
 if ((cP t.nodes to).2 != 0)=true then (t,0,(cP t.nodes to).2) else
 if (!cD nm)=true then (t,0,60) else
 if (dN (cP t.nodes to).1.av nm==(bU t.nodes nU s).1)=true then (t,0,0) else
 if ((aA t.nodes (bU t.nodes nU s).1).kind==2&&cH t.nodes to (bU t.nodes nU s).1)=true then (t,0,75) else
 if (pS t.nodes (aA t.nodes (bU t.nodes nU s).1).kind (dN (cP t.nodes to).1.av nm) != 0)=true then (t,0,pS t.nodes (aA t.nodes (bU t.nodes nU s).1).kind (dN (cP t.nodes to).1.av nm)) else
 if manyN t nU to (cP t.nodes to).1.av (aA t.nodes (bU t.nodes nU s).1).kind (dN (cP t.nodes to).1.av nm) (bU t.nodes nU s).1=true then (t,0,76) else
 (ny t nU s to nm (bU t.nodes nU s).1 (dN (cP t.nodes to).1.av nm),dN (cP t.nodes to).1.av nm,0)
def Sz.unnamed {b:Nat} {t:Tree} (h:Sz b t) (ino next af:Int):Sz (b+1) ⟨cT t.nodes ino,next,af⟩:=by
 unfold cT
 split
 ·exact (h.rO ino next af).up (by omega)
 ·exact h.with (n:={ aA t.nodes ino with bw:=fR ((aA t.nodes ino).bw-1) }) (Nat.le_succ_of_le (h.find ino).1) (h.find ino).2 next af
structure Step.Ok (s:Step):Prop where
 kind:s.kind<256
 a:s.a<256
 b:s.b<256
 n:s.n<256
 m:s.m<256
 data:s.data.length<=100000
def nameOf (n:Nat):Bytes:=match n % 6 with
 |0=>[97]
 |1=>[98]
 |2=>[99]
 |3=>[100]
 |4=>[101]
 |_=>[46,46]
def nv (t:Tree) (n:Nat):Int:=match t.nodes[n % (t.nodes.length+1)]? with
 |some m=>m.ino
 |none=>t.next
def Pq (t:Tree) (s:Step):Tree×Int×Int :=
 if (((s.kind % 8:Nat):Int)==0||((s.kind % 8:Nat):Int)==1)=true then pN t (nv t s.a) (nameOf s.n) (((s.m % 2:Nat):Int)+1) else
 if (((s.kind % 8:Nat):Int)==2)=true then ((CD t (nv t s.b) (nv t s.a) (nameOf s.n)).1,0,(CD t (nv t s.b) (nv t s.a) (nameOf s.n)).2) else
 if (((s.kind % 8:Nat):Int)==3)=true then C2 t (nv t s.a) (nameOf s.n) else
 if (((s.kind % 8:Nat):Int)==4||((s.kind % 8:Nat):Int)==5)=true then xy t (nv t s.a) (nameOf s.n) (nv t s.b) (nameOf s.m) else
 if (((s.kind % 8:Nat):Int)==6)=true then ((nF t (nv t s.a) s.data).1,0,(nF t (nv t s.a) s.data).2) else
 ((ig t (nv t s.a)).1,0,(ig t (nv t s.a)).2)
def Ap (e:b9):∀(l out:List b9) (d:Bool),(n9 e l out d).1.length+(if (n9 e l out d).2=true then 0 else 1)<=out.length+l.length+(if d=true then 0 else 1)
 | [],out,d=>by simp only [n9,List.length_nil,Nat.add_zero]; exact Nat.le_refl _
 |m::r,out,d=>by
  rw [n9]
  refine Nat.le_trans (Ap e r _ _) ?_
  cases d<;>cases h1:Ru m.name e.name<;>simp<;>omega
def IJ (l:List b9) (e:b9):(ri l e).length<=l.length+1:=by
 have:=Ap e l [] false
 unfold ri
 split at this<;>simp_all
def Sz.iX {b:Nat} {t:Tree} (h:Sz b t) (ino:Int) (s:Bytes) (of:Int):Sz (b+1) (dh t ino s of) :=
 h.with (n:={ aA t.nodes ino with av:=ri (aA t.nodes ino).av ⟨s,of,t.af⟩ }) (Nat.le_trans (IJ _ _) (Nat.succ_le_succ (h.find ino).1)) (h.find ino).2 t.next (fR (t.af+1))
def Sz.add {b:Nat} {t:Tree} (h:Sz b t) (ino:Int) (s:Bytes) (kind:Int):Sz (b+5) (pN t ino s kind).1:=by
 unfold pN
 split
 ·exact h.up (by omega)
 ·split
  ·exact h.up (by omega)
  ·split
   ·exact h.up (by omega)
   ·exact ((h.with (n:=⟨t.next,kind,1,[],[],if (kind==2)=true then ino else 0⟩) (by simp) (by simp) (fR (t.next+1)) t.af).iX ino s t.next).up (by omega)
def Sz.ln {b:Nat} {t:Tree} (h:Sz b t) (ino to:Int) (s:Bytes):Sz (b+5) (CD t ino to s).1:=by
 unfold CD
 split
 ·exact h.up (by omega)
 ·split
  ·exact h.up (by omega)
  ·split
   ·exact h.up (by omega)
   ·exact ((h.with (n:={ aA t.nodes ino with bw:=fR ((aA t.nodes ino).bw+1) }) (Nat.le_succ_of_le (h.find ino).1) (h.find ino).2 t.next t.af).iX to s ino).up (by omega)
def Sz.un {b:Nat} {t:Tree} (h:Sz b t) (ino:Int) (s:Bytes):Sz (b+5) (C2 t ino s).1:=by
 unfold C2
 split
 ·exact h.up (by omega)
 ·split
  ·exact h.up (by omega)
  ·exact ((h.left ino s t.next t.af).unnamed _ t.next t.af).up (by omega)
def Sz.put {b:Nat} {t:Tree} (h:Sz b t) (ino:Int) (data:Bytes) (hd:data.length<=100000):Sz (b+5) (nF t ino data).1:=by
 unfold nF
 split
 ·exact h.up (by omega)
 ·split
  ·exact h.up (by omega)
  ·split
   ·exact h.up (by omega)
   ·exact (h.with (n:={ aA t.nodes ino with data:=data }) (Nat.le_succ_of_le (h.find ino).1) hd t.next t.af).up (by omega)
def Sz.free {b:Nat} {t:Tree} (h:Sz b t) (ino:Int):Sz (b+5) (ig t ino).1:=by
 unfold ig
 split
 ·exact h.up (by omega)
 ·split
  ·exact h.up (by omega)
  ·split
   ·exact h.up (by omega)
   ·exact (h.rO ino t.next t.af).up (by omega)
def Sz.move {b:Nat} {t:Tree} (h:Sz b t) (nU:Int) (s:Bytes) (to:Int) (nm:Bytes) (ino y:Int):Sz (b+5) (ny t nU s to nm ino y):=by
 unfold ny
 have z1:=h.left nU s t.next t.af
 have z3:=(z1.left to nm t.next t.af).unnamed y t.next t.af
 have z:Sz (b+3) ⟨if (y != 0)=true then cT (bu (bu t.nodes nU s) to nm) y else bu t.nodes nU s,t.next,t.af⟩:=by
  split
  ·exact z3
  ·exact z1.up (by omega)
 split
 ·exact ((z.with (n:={ aA t.nodes ino with up:=to }) (Nat.le_trans (h.find ino).1 (by omega)) (h.find ino).2 t.next t.af).iX to nm ino).up (by omega)
 ·exact (z.iX to nm ino).up (by omega)
def Sz.mv {b:Nat} {t:Tree} (h:Sz b t) (nU:Int) (s:Bytes) (to:Int) (nm:Bytes):Sz (b+5) (xy t nU s to nm).1:=by
 unfold xy
 repeat' split
 all_goals first
  |exact h.up (by omega)
  |exact h.move nU s to nm _ _
def Sz.done {b:Nat} {t:Tree} (h:Sz b t) (s:Step) (hs:s.Ok):Sz (b+5) (Pq t s).1:=by
 unfold Pq
 repeat' split
 all_goals first
  |exact h.add _ _ _
  |exact h.ln _ _ _
  |exact h.un _ _
  |exact h.mv _ _ _ _
  |exact h.put _ _ hs.data
  |exact h.free _
def ZK (n:Node):List.take 6 (aw n)=aw n:=rfl
def ZD (n:Node):List.map ae.shut (aw n)=aw n:=rfl
def TS (n:b9):List.take 3 (cI n)=cI n:=rfl
def TK (n:b9):List.map ae.shut (cI n)=cI n:=rfl
def abP (a:Int):ai aQ 239 [.int .i64 a] []=some (.bool false,[]):=by
 refine aq ?_
 simp only [H5,aal,bne_self_eq_false,EN,simprocAttr]
def acS (a:Int) (M:ag):ak (ai aQ) 239 [.int .i64 a] M=some (.bool false,M):=cO (abP a) M
def iL (a b:Int):Int:=if decide (a<b)=true then -1 else if decide (b<a)=true then 1 else 0
def abd (a b:Int):ai aQ 154 [.int .i64 a,.int .i64 b] []=some (.int .i64 (iL a b),[]):=by
 refine aq ?_
 simp only [Hs,Ua,acS,EN,simprocAttr]
 repeat' ((first|refine aC (fun hb=>?_) (fun hb=>?_)|refine bc (fun hb=>?_) (fun hb=>?_)|refine bZ (fun hb=>?_) (fun hb=>?_))<;>simp only [hb,EN,Ua,simprocAttr])
 all_goals (simp_all only [iL,jZ,↓reduceIte,reduceCtorEq,bne_self_eq_false]; done)
def Nh (a b:Int) (M:ag):ak (ai aQ) 154 [.int .i64 a,.int .i64 b] M=some (.int .i64 (iL a b),M):=cO (abd a b) M
def oW (a b:Int):(iL a b<0)=(a<b):=by
 unfold iL
 by_cases h1:a<b
 ·simp [h1]
 ·by_cases h2:b<a<;>simp [h1,h2]
def yf (a b:Int):(iL a b==0)=(a==b):=by
 unfold iL
 by_cases h1:a<b
 ·have:¬a=b:=by omega
  simp [h1,this]
 ·by_cases h2:b<a
  ·have:¬a=b:=by omega
   simp [h1,h2,this]
  ·have:a=b:=by omega
   simp [this]
def ab5 (n:Node) (ino:Int):ai aQ 286 [aX n,.int .i64 ino] []=some (.int .i64 (iL n.ino ino),[]):=by
 refine aq ?_
 simp only [Il,aat,aX,aw,Nh,EN,simprocAttr]
def Xh (n:Node) (ino:Int) (M:ag):ak (ai aQ) 286 [.agg (aw n),.int .i64 ino] M=some (.int .i64 (iL n.ino ino),M):=cO (ab5 n ino) M
structure Eo (nodes:List Node) (ino:Int) (b:Nat):Prop where
 le:b<=nodes.length
 lt:∀h n,nodes[h]?=some n->(n.ino<ino↔h<b)
def vz (i j:Nat) (hj:j<=100000) (hi:i<=j):IntKind.i64.wrap ((i:Int)+(j:Int))=((i+j:Nat):Int)/\IntKind.u64.wrap ((i+j:Nat):Int)=((i+j:Nat):Int) /\
  (((i+j:Nat):Int)).fdiv (2 ^ min 1 IntKind.u64.bits)=(((i+j) / 2:Nat):Int)/\IntKind.i64.wrap (((i+j) / 2:Nat):Int)=(((i+j) / 2:Nat):Int)/\IntKind.i64.wrap ((((i+j) / 2:Nat):Int)+1)=(((i+j) / 2+1:Nat):Int):=by
 refine ⟨?_,?_,?_,?_,?_⟩
 ·rw [bD (by omega) (by omega)]; rfl
 ·have:IntKind.u64.wrap ((i+j:Nat):Int)=((i+j:Nat):Int) % 18446744073709551616:=by simp [IntKind.wrap,IntKind.bits,IntKind.signed]
  rw [this]; omega
 ·have:(2:Int) ^ min 1 IntKind.u64.bits=2:=by decide
  rw [this,Int.fdiv_eq_ediv_of_nonneg _ (by omega)]; omega
 ·exact bD (by omega) (by omega)
 ·rw [bD (by omega) (by omega)]; rfl
def NZ {nodes:List Node} {ino:Int} {b:Nat} (hb:Eo nodes ino b) (hn:nodes.length<=100000) {k:List K} {r:Option (ae×ag)}
  (hx:∀v q,kr (ai aQ) [.tmp 6,.tmp 7] 0 k ⟨.exit 0,[(0,az nodes),(1,.int .i64 ino),(2,.func 286 []),(8,.int .i64 nodes.length),(9,.int .i64 b),(10,v),(17,q)],[]⟩=r) :
  ∀(f i j:Nat),j-i<=f->i<=b->b<=j->j<=nodes.length->cJ (ai aQ) [.tmp 6,.tmp 7] 0 k (.loop [0,1,2,8,9,10] DI) [(0,az nodes),(1,.int .i64 ino),(2,.func 286 []),(8,.int .i64 nodes.length),(9,.int .i64 i),(10,.int .i64 j)] []=r:=by
 intro f
 induction f with
 |zero =>
  intro i j h1 h2 h3 h4
  obtain rfl:i=b:=by omega
  rw [aB]
  have hlt:((i:Int)<(j:Int))=False:=by simp; omega
  simp only [pk,hlt,EN,simprocAttr]
  exact hx _ _
 |succ f ih =>
  intro i j h1 h2 h3 h4
  rw [aB]
  by_cases hij:i<j
  ·have hlt:((i:Int)<(j:Int))=True:=by simp; omega
   obtain ⟨m1,m2,m3,m4,m5⟩:=vz i j (by omega) (by omega)
   have hmid:(i+j) / 2<nodes.length:=by omega
   have hx:=List.getElem?_eq_getElem hmid
   have hl:=hb.lt _ _ hx
   simp only [pk,hlt,m1,m2,m3,m4,hx,Xh,oW,ZK,ZD,EN,simprocAttr]
   refine aC (fun hq=>?_) (fun hq=>?_)
   ·have hq:nodes[(i+j) / 2].ino<ino:=by simpa using hq
    simp only [pk,m5,EN,simprocAttr]
    exact ih ((i+j) / 2+1) j (by omega) (hl.1 hq) h3 h4
   ·have hq:¬nodes[(i+j) / 2].ino<ino:=by simpa using hq
    simp only [pk,EN,simprocAttr]
    exact ih i ((i+j) / 2) (by omega) h2 (Nat.not_lt.1 fun h=>hq (hl.2 h)) (by omega)
  ·obtain rfl:i=b:=by omega
   have hlt:((i:Int)<(j:Int))=False:=by simp; omega
   simp only [pk,hlt,EN,simprocAttr]
   exact hx _ _
def yv (nodes:List Node) (ino:Int) (b:Nat):Bool:=match nodes[b]? with
 |some n=>n.ino==ino
 |none=>false
def abf (nodes:List Node) (ino:Int) (b:Nat) (hb:Eo nodes ino b) (hn:nodes.length<=100000):ai aQ 160 [az nodes,.int .i64 ino,.func 286 []] []=some (.tuple [.int .i64 b,.bool (yv nodes ino b)],[]):=by
 refine aq ?_
 simp only [Ds,pk,EN,simprocAttr]
 refine NZ hb hn (fun v q=>?_) nodes.length 0 nodes.length (by omega) (by omega) hb.le (by omega)
 unfold yv
 by_cases hlt:b<nodes.length
 ·have hx:=List.getElem?_eq_getElem hlt
  have h1:((b:Int)<(nodes.length:Int))=True:=by simp; omega
  simp only [pk,hx,h1,Xh,yf,ZK,ZD,EN,simprocAttr]
 ·have hx:nodes[b]?=none:=List.getElem?_eq_none (by omega)
  have h1:((b:Int)<(nodes.length:Int))=False:=by simp; omega
  simp only [pk,hx,h1,EN,simprocAttr]
def acJ (nodes:List Node) (ino:Int) (b:Nat) (hb:Eo nodes ino b) (hn:nodes.length<=100000) (M:ag):ak (ai aQ) 160 [az nodes,.int .i64 ino,.func 286 []] M=some (.tuple [.int .i64 b,.bool (yv nodes ino b)],M) :=
 cO (abf nodes ino b hb hn) M
def gw (nodes:List Node):Prop:=nodes.Pairwise fun a b=>a.ino<b.ino
def eD (nodes:List Node) (ino:Int):Nat:=(nodes.takeWhile fun n=>decide (n.ino<ino)).length
def lB {nodes:List Node} (h:gw nodes) (ino:Int):Eo nodes ino (eD nodes ino):=by
 unfold eD
 induction nodes with
 |nil=>exact ⟨by simp,fun h n hn=>by simp at hn⟩
 |cons a r ih =>
  obtain ⟨h1,h2⟩:=List.pairwise_cons.1 h
  obtain ⟨i1,i2⟩:=ih h2
  by_cases ha:a.ino<ino
  ·rw [List.takeWhile_cons,if_pos (by simpa using ha)]
   refine ⟨by simpa using i1,fun k n hn=>?_⟩
   cases k with
   |zero=>simp at hn; subst hn; simp [ha]
   |succ k=>rw [i2 k n (by simpa using hn)]; simp
  ·rw [List.takeWhile_cons,if_neg (by simpa using ha)]
   refine ⟨by simp,fun k n hn=>?_⟩
   simp only [List.length_nil,Nat.not_lt_zero,iff_false]
   cases k with
   |zero=>simp at hn; subst hn; exact ha
   |succ k =>
    have:=h1 n (List.mem_of_getElem? (by simpa using hn))
    omega
def ke {nodes:List Node} (h:gw nodes) (ino:Int):(yv nodes ino (eD nodes ino)=true/\∃n,nodes[eD nodes ino]?=some n/\find nodes ino=some n/\n.ino=ino)\/(yv nodes ino (eD nodes ino)=false/\find nodes ino=none):=by
 obtain ⟨l1,l2⟩:=lB h ino
 cases hf:find nodes ino with
 |some n =>
  left
  obtain ⟨hm,he⟩:=aY hf
  obtain ⟨k,hk⟩:=List.getElem?_of_mem hm
  have hkb:¬k<eD nodes ino:=fun hc=>by have:=(l2 k n hk).2 hc; omega
  have hb:eD nodes ino<nodes.length:=by have:=(List.getElem?_eq_some_iff.1 hk).1; omega
  have hx:=List.getElem?_eq_getElem hb
  have hnl:¬nodes[eD nodes ino].ino<ino:=fun hc=>Nat.lt_irrefl _ ((l2 _ _ hx).1 hc)
  have hke:k=eD nodes ino:=by
   rcases Nat.lt_or_ge (eD nodes ino) k with hlt|hge
   ·have hkl:=(List.getElem?_eq_some_iff.1 hk).1
    have h3:=List.pairwise_iff_getElem.1 h _ _ hb hkl hlt
    have h4:nodes[k]=n:=by rw [List.getElem?_eq_getElem hkl] at hk; injection hk
    rw [h4] at h3
    omega
   ·omega
  subst hke
  exact ⟨by unfold yv; rw [hk]; simp [he],n,hk,rfl,he⟩
 |none =>
  right
  refine ⟨?_,rfl⟩
  unfold yv
  split
  ·rename_i n hn
   have:=List.find?_eq_none.1 hf n (List.mem_of_getElem? hn)
   simpa using this
  ·rfl
def gG {M:ag} {p:Nat} {b:aK} (h:nth M p=some b):cS M p b=M:=by
 rw [bE] at h; rw [cd]
 apply List.ext_getElem?
 intro i
 by_cases e:p=i
 ·subst e; rw [aU (aj h),h]
 ·rw [aH e]
def abQ (nodes:List Node) (next af ino:Int) (h:gw nodes) (hn:nodes.length<=100000):ai aQ 243 [.ptr 0 0,.int .i64 ino] [.cells [az nodes,.int .i64 next,.int .i64 af]] =
  some (.tuple [.int .i64 (eD nodes ino),.bool (yv nodes ino (eD nodes ino))],[.cells [az nodes,.int .i64 next,.int .i64 af]]):=by
 refine aq ?_
 have hk:=acJ nodes ino _ (lB h ino) hn
 simp only [H6,aam,hk,EN,simprocAttr]
def RG (nodes:List Node) (next af ino:Int) (h:gw nodes) (hn:nodes.length<=100000) (p:Nat) (M:ag) (hM:nth M p=some (.cells [az nodes,.int .i64 next,.int .i64 af])) :
  ak (ai aQ) 243 [.ptr p 0,.int .i64 ino] M=some (.tuple [.int .i64 (eD nodes ino),.bool (yv nodes ino (eD nodes ino))],M):=by
 have:=gb hM (abQ nodes next af ino h hn) rfl rfl rfl rfl rfl rfl rfl rfl rfl rfl
 rwa [gG hM] at this
def abh (nodes:List Node) (next af ino:Int) (h:gw nodes) (hn:nodes.length<=100000):ai aQ 162 [.ptr 0 0,.int .i64 ino] [.cells [az nodes,.int .i64 next,.int .i64 af]] =
  some (.tuple [aX (aA nodes ino),.bool (find nodes ino).isSome],[.cells [az nodes,.int .i64 next,.int .i64 af]]):=by
 refine aq ?_
 have hk:=fun M=>RG nodes next af ino h hn 0 (.cells [az nodes,.int .i64 next,.int .i64 af]::M) rfl
 simp only [Hu,Qg,hk,EN,simprocAttr]
 rcases ke h ino with ⟨h1,n,h2,h3,h4⟩|⟨h1,h2⟩
 ·simp only [Qg,h1,h2,h3,aA,aw,EN,simprocAttr]
  rfl
 ·simp only [Qg,h1,h2,aA,EN,simprocAttr]
  rfl
def wx (nodes:List Node) (next af ino:Int) (h:gw nodes) (hn:nodes.length<=100000) (p:Nat) (M:ag) (hM:nth M p=some (.cells [az nodes,.int .i64 next,.int .i64 af])) :
  ak (ai aQ) 162 [.ptr p 0,.int .i64 ino] M=some (.tuple [aX (aA nodes ino),.bool (find nodes ino).isSome],M):=by
 have:=gb hM (abh nodes next af ino h hn) rfl rfl rfl rfl rfl rfl rfl rfl rfl rfl
 rwa [gG hM] at this
def abx (nodes:List Node) (next af ino:Int) (h:gw nodes) (hn:nodes.length<=100000):ai aQ 206 [.ptr 0 0,.int .i64 ino] [.cells [az nodes,.int .i64 next,.int .i64 af]] =
  some (.tuple [aX (cP nodes ino).1,.int .i64 (cP nodes ino).2],[.cells [az nodes,.int .i64 next,.int .i64 af]]):=by
 refine aq ?_
 have hk:=fun M=>wx nodes next af ino h hn 0 (.cells [az nodes,.int .i64 next,.int .i64 af]::M) rfl
 simp only [HM,Mh,hk,aX,aw,EN,simprocAttr]
 unfold cP
 cases hf:find nodes ino with
 |none=>simp only [Mh,aA,hf,Option.isSome,EN,simprocAttr]; first|done|rfl
 |some n =>
  simp only [Mh,aA,hf,Option.isSome,Option.getD_some,EN,simprocAttr]
  repeat' ((first|refine aC (fun hb=>?_) (fun hb=>?_)|refine bc (fun hb=>?_) (fun hb=>?_)|refine bZ (fun hb=>?_) (fun hb=>?_))<;>simp only [hb,EN,Mh,simprocAttr])
  all_goals (clear hk; simp_all [Node.zero])
def Nj (nodes:List Node) (next af ino:Int) (h:gw nodes) (hn:nodes.length<=100000) (p:Nat) (M:ag) (hM:nth M p=some (.cells [az nodes,.int .i64 next,.int .i64 af])) :
  ak (ai aQ) 206 [.ptr p 0,.int .i64 ino] M=some (.tuple [aX (cP nodes ino).1,.int .i64 (cP nodes ino).2],M):=by
 have:=gb hM (abx nodes next af ino h hn) rfl rfl rfl rfl rfl rfl rfl rfl rfl rfl
 rwa [gG hM] at this
end
end Go.Proofs.YtahkjijkflobhaaGreatDoor
namespace Go.Proofs.YtahkjijkflobhaaGreatDoor
section
open Go
-- What is decoded in the midst of a text: a byte below 128,or a rune from 128 on out of such bytes.
set_option maxRecDepth 100000 in
def Dm {s pre r:List UInt8} {n:UInt8} (h:s=pre++n::r) :
  (n.toNat<128/\Utf8.decode ⟨s.toArray⟩ pre.length=(n.toNat,1)) \/
  ∃c m r',n::r=m++r'/\m≠[]/\(∀b,b∈m->128<=b.toNat)/\128<=c/\c<2147483648/\Utf8.decode ⟨s.toArray⟩ pre.length=(c,m.length):=by
 have hg:∀k,(⟨s.toArray⟩:ByteArray).get! (pre.length+k)=(n::r).getD k 0:=fun k=>by
  subst h
  show ((pre++n::r).toArray)[pre.length+k]! = _
  simp only [List.getElem!_toArray,List.getElem!_eq_getElem?_getD,List.getD_eq_getElem?_getD]
  rw [List.getElem?_append_right (by omega),Nat.add_sub_cancel_left]
  rfl
 have hsz:(⟨s.toArray⟩:ByteArray).size=pre.length+(n::r).length:=by
  show s.toArray.size=_
  subst h; simp
 by_cases hn:n.toNat<128
 ·refine .inl ⟨hn,?_⟩
  have h0:=hg 0
  simp only [Nat.add_zero,List.getD_cons_zero] at h0
  simp [Utf8.decode,h0,hn]
 ·refine .inr ?_
  have hn':128<=n.toNat:=by omega
  have h0:=hg 0
  have h1:=hg 1
  have h2:=hg 2
  have h3:=hg 3
  simp only [Nat.add_zero,List.getD_cons_zero,List.getD_cons_succ] at h0 h1 h2 h3
  have one:∀c,128<=c->c<2147483648->Utf8.decode ⟨s.toArray⟩ pre.length=(c,1)->∃c m r',n::r=m++r'/\m≠[]/\(∀b,b∈m->128<=b.toNat)/\128<=c/\c<2147483648/\Utf8.decode ⟨s.toArray⟩ pre.length=(c,m.length) :=
   fun c hc hc2 hd=>⟨c,[n],r,rfl,by simp,by simpa using hn',hc,hc2,hd⟩
  have big:∀k,k<r.length->128<=(r.getD k 0).toNat->∃b,r[k]?=some b/\128<=b.toNat:=fun k hk hb=>by
   refine ⟨r[k],List.getElem?_eq_getElem hk,?_⟩
   simpa [List.getD_eq_getElem?_getD,List.getElem?_eq_getElem hk] using hb
  have hlt:¬n.toNat<0x80:=by omega
  have hN:n.toNat<256:=n.toNat_lt
  unfold Utf8.decode at one ⊢
  simp only [Nat.add_zero,h0,h1,h2,h3,hsz,List.length_cons,hlt,if_false] at one ⊢
  by_cases hA:(n.toNat / 32==6&&(decide (pre.length+1<pre.length+(r.length+1))&&(r.getD 0 0).toNat / 64==2))=true
  ·simp only [hA,if_true] at one ⊢
   simp only [Bool.and_eq_true,beq_iff_eq,decide_eq_true_eq] at hA
   obtain ⟨hA1,hA2,hA3⟩:=hA
   by_cases hc:n.toNat % 32*64+(r.getD 0 0).toNat % 64>=0x80
   ·simp only [hc,if_true] at one ⊢
    obtain ⟨b0,g0,g1⟩:=big 0 (by omega) (by omega)
    match r,g0 with
    |_::r',g0 =>
     injection g0 with g0; subst g0
     exact ⟨_,[n,_],r',rfl,by simp,by simp [hn',g1],hc,by omega,rfl⟩
   ·simp only [hc,if_false] at one ⊢
    exact one _ (by decide) (by decide) rfl
  ·simp only [hA,if_false] at one ⊢
   by_cases hB:(n.toNat / 16==14&&(decide (pre.length+1<pre.length+(r.length+1))&&(r.getD 0 0).toNat / 64==2)&&(decide (pre.length+2<pre.length+(r.length+1))&&(r.getD 1 0).toNat / 64==2))=true
   ·simp only [hB,if_true] at one ⊢
    simp only [Bool.and_eq_true,beq_iff_eq,decide_eq_true_eq] at hB
    obtain ⟨⟨hB1,hB2,hB3⟩,hB4,hB5⟩:=hB
    by_cases hc:((n.toNat % 16*4096+(r.getD 0 0).toNat % 64*64+(r.getD 1 0).toNat % 64>=0x800:Bool)&&Utf8.valid ((n.toNat % 16*4096+(r.getD 0 0).toNat % 64*64+(r.getD 1 0).toNat % 64:Nat):Int))=true
    ·simp only [hc,if_true] at one ⊢
     simp only [Bool.and_eq_true,decide_eq_true_eq] at hc
     obtain ⟨b0,g0,g1⟩:=big 0 (by omega) (by omega)
     obtain ⟨b1,k0,k1⟩:=big 1 (by omega) (by omega)
     match r,g0,k0 with
     |_::_::r',g0,k0 =>
      injection g0 with g0; subst g0
      injection k0 with k0; subst k0
      exact ⟨_,[n,_,_],r',rfl,by simp,by simp [hn',g1,k1],by omega,by omega,rfl⟩
    ·simp only [hc,if_false] at one ⊢
     exact one _ (by decide) (by decide) rfl
   ·simp only [hB,if_false] at one ⊢
    by_cases hC:(n.toNat / 8==30&&(decide (pre.length+1<pre.length+(r.length+1))&&(r.getD 0 0).toNat / 64==2)&&(decide (pre.length+2<pre.length+(r.length+1))&&(r.getD 1 0).toNat / 64==2)&&(decide (pre.length+3<pre.length+(r.length+1))&&(r.getD 2 0).toNat / 64==2))=true
    ·simp only [hC,if_true] at one ⊢
     simp only [Bool.and_eq_true,beq_iff_eq,decide_eq_true_eq] at hC
     obtain ⟨⟨⟨hB1,hB2,hB3⟩,hB4,hB5⟩,hB6,hB7⟩:=hC
     by_cases hc:((n.toNat % 8*262144+(r.getD 0 0).toNat % 64*4096+(r.getD 1 0).toNat % 64*64+(r.getD 2 0).toNat % 64>=0x10000:Bool)&&Utf8.valid ((n.toNat % 8*262144+(r.getD 0 0).toNat % 64*4096+(r.getD 1 0).toNat % 64*64+(r.getD 2 0).toNat % 64:Nat):Int))=true
     ·simp only [hc,if_true] at one ⊢
      simp only [Bool.and_eq_true,decide_eq_true_eq] at hc
      obtain ⟨b0,g0,g1⟩:=big 0 (by omega) (by omega)
      obtain ⟨b1,k0,k1⟩:=big 1 (by omega) (by omega)
      obtain ⟨b2,l0,l1⟩:=big 2 (by omega) (by omega)
      match r,g0,k0,l0 with
      |_::_::_::r',g0,k0,l0 =>
       injection g0 with g0; subst g0
       injection k0 with k0; subst k0
       injection l0 with l0; subst l0
       exact ⟨_,[n,_,_,_],r',rfl,by simp,by simp [hn',g1,k1,l1],by omega,by omega,rfl⟩
     ·simp only [hc,if_false] at one ⊢
      exact one _ (by decide) (by decide) rfl
    ·simp only [hC,if_false] at one ⊢
     exact one _ (by decide) (by decide) rfl
end
end Go.Proofs.YtahkjijkflobhaaGreatDoor
