import Derived.Test.YtahkjijkflobhaaGreatDoorProg
import Derived.WalkKit
import Derived.LaidEql
import Derived.Stop.Asserts
import Derived.RowKitTokens
import Derived.KernelRfl
import Derived.Defers
import Derived.Recover
import Derived.Test.YtahkjijkflobhaaGreatDoorFsbD
set_option linter.unusedSimpArgs false
set_option linter.unusedVariables false
set_option linter.unusedSectionVars false
set_option linter.defProp false
namespace Go.Proofs.YtahkjijkflobhaaGreatDoor
open Go Go.Abs
def fc (nodes:List Node):Nat->Int->Int×AM Bool->Int×AM Bool
 |0,_,s=>s
 |f+1,ino,s=>(aA nodes ino).av.foldl (fun s e=>if (!((bR s.2 e.ino).getD false))=true then fc nodes f e.ino (s.1,fP s.2 e.ino true) else s) (fR (s.1+(aA nodes ino).data.length),s.2)
def mL:ae := .func 166 [.ptr 0 0,.ptr 1 0,.ptr 2 0,.ptr 3 0]
def dk (t:Tree) (s:Int×AM Bool):ag:=[.cells (ar t),.cells [.int .i64 s.1],.cells [.cz 4],.cells [mL],.map (tw s.2) (iV ae.bool s.2)]
def flB (l:AM Bool):(iV ae.bool l).all ae.flat=true:=Ch _ (fun _=>rfl) l
def ZX (ρ:Nat->Nat) (l:AM Bool):(iV ae.bool l).map (ae.ik ρ)=iV ae.bool l:=LI _ _ (fun _=>rfl) l
def idB (l:AM Bool):(iV ae.bool l).flatMap ae.ids=[]:=IE _ (fun _=>rfl) l
def bkB (B:Nat) (M:ag) (l:AM Bool):List.map (ae.eb B M) (iV ae.bool l)=iV ae.bool l:=MC _ _ _ (fun _=>rfl) l
def A5 (t:Tree) (s:Int×AM Bool):(dk t s).map (aK.ik (cM [0,1,2,3,4]))=dk t s/\(dk t s).map (aK.ik (pn [0,1,2,3,4]))=dk t s:=by
 constructor
 ·simp only [dk,List.map_cons,List.map_nil,aK.ik,ZX]; rfl
 ·simp only [dk,List.map_cons,List.map_nil,aK.ik,ZX]; rfl
def Zq (t:Tree) (s:Int×AM Bool) (L:ag):dv (dk t s++L) (cM [0,1,2,3,4]) [0,1,2,3,4]=some (dk t s):=by
 have h:=(A5 t s).1
 simp only [dk,List.map_cons,List.map_nil] at h
 injection h with h0 h; injection h with h1 h; injection h with h2 h; injection h with h3 h; injection h with h4 h
 simp only [dk,List.cons_append,List.nil_append,dv,nth,h0,h1,h2,h3,h4]
 simp only [aK.flat,flB,if_true]
 rfl
def acn (t:Tree) (s:Int×AM Bool) (L:ag):iE (dk t s++L) [0,1,2,3]=[4,0,1,2,3]/\iE (dk t s++L) [0,1,2,3,4]=[4,0,1,2,3]:=by
 refine ⟨rfl,?_⟩
 show [4,0,1,2,3]++((iV ae.bool s.2).flatMap ae.ids++[])=_
 rw [idB]; rfl
def LF (t:Tree) (s:Int×AM Bool) (L:ag):reach (dk t s++L) [0,1,2,3]=[0,1,2,3,4]/\ep (dk t s++L) [0,1,2,3,4]=[0,1,2,3,4]:=by
 obtain ⟨h1,h2⟩:=acn t s L
 have e0:dU [] [0,1,2,3]=[0,1,2,3]:=rfl
 have e1:dU [0,1,2,3] [4,0,1,2,3]=[0,1,2,3,4]:=rfl
 have e2:dU [0,1,2,3,4] [4,0,1,2,3]=[0,1,2,3,4]:=rfl
 simp only [reach,ep,e0,h1,e1,h2,e2,and_self]
def TX (t:Tree) (s s':Int×AM Bool) (L:ag):eJ [0,1,2,3,4] (dk t s++L) [0,1,2,3,4] (dk t s')=dk t s'++L:=by
 have h:=(A5 t s').2
 simp only [dk,List.map_cons,List.map_nil] at h
 injection h with h0 h; injection h with h1 h; injection h with h2 h; injection h with h3 h; injection h with h4 h
 simp only [dk,List.cons_append,List.nil_append,eJ,h0,h1,h2,h3,h4,cS]
def Px (t:Tree) (s:Int×AM Bool):(dk t s).all aK.flat=true:=by
 simp only [dk,List.all_cons,aK.flat,flB]; rfl
def VO {t:Tree} {ino:Int} {s s':Int×AM Bool} {L:ag} (h:ai aQ 166 [.int .i64 ino,.ptr 0 0,.ptr 1 0,.ptr 2 0,.ptr 3 0] (dk t s)=some (.tuple [],dk t s')) :
  ak (ai aQ) 166 [.int .i64 ino,.ptr 0 0,.ptr 1 0,.ptr 2 0,.ptr 3 0] (dk t s++L)=some (.tuple [],dk t s'++L) :=
 eh (ids:=[0,1,2,3,4]) rfl (LF t s L).1 (Zq t s L) (LF t s L).2 rfl h rfl rfl (Px t s') rfl (TX t s s' L)
def pI (t:Tree) (s:Int×AM Bool) (n:Node):ag:=[.cells [az t.nodes,.int .i64 t.next,.int .i64 t.af],.map (tw s.2) (iV ae.bool s.2),.cells [.cz 1],.cells [.int .i64 s.1],.cells [.func 166 [.ptr 0 0,.ptr 3 0,.ptr 2 0,.ptr 4 0]],.cells (aw n)]
def QP {t:Tree} {ino:Int} {s':Int×AM Bool} (n:Node) (h:ai aQ 166 [.int .i64 ino,.ptr 0 0,.ptr 1 0,.ptr 2 0,.ptr 3 0] (dk t (0,[]))=some (.tuple [],dk t s')) :
  ak (ai aQ) 166 [.int .i64 ino,.ptr 0 0,.ptr 3 0,.ptr 2 0,.ptr 4 0] (pI t (0,[]) n)=some (.tuple [],pI t s' n):=by
 have i1:iE (pI t (0,[]) n) [0,3,2,4]=[1,0,3,2,4]:=rfl
 have i2:iE (pI t (0,[]) n) [0,3,2,4,1]=[1,0,3,2,4]:=rfl
 have e0:dU [] [0,3,2,4]=[0,3,2,4]:=rfl
 have e1:dU [0,3,2,4] [1,0,3,2,4]=[0,3,2,4,1]:=rfl
 have e2:dU [0,3,2,4,1] [1,0,3,2,4]=[0,3,2,4,1]:=rfl
 have hr:reach (pI t (0,[]) n) [0,3,2,4]=[0,3,2,4,1]/\ep (pI t (0,[]) n) [0,3,2,4,1]=[0,3,2,4,1]:=by
  simp only [reach,ep,e0,i1,e1,i2,e2,and_self]
 have hp:dv (pI t (0,[]) n) (cM [0,3,2,4,1]) [0,3,2,4,1]=some (dk t (0,[])):=by
  simp only [pI,dv,nth,aK.flat,flB,aE,if_true,aK.ik,ZX]
  rfl
 refine eh (ids:=[0,3,2,4,1]) rfl hr.1 hp hr.2 rfl h rfl rfl (Px t s') rfl ?_
 simp only [dk,pI,eJ,aK.ik,ZX,cS]
 rfl
section
attribute [local irreducible] cJ cE gD gK bG kr ai ak aV aF
def N0 {t:Tree} {n:Node} {f:Nat} {k:List K} {R:Int×AM Bool->Option (ae×ag)} (hn:n.av.length<=100000)
  (ih:∀e,e∈n.av->∀s,ai aQ 166 [.int .i64 e.ino,.ptr 0 0,.ptr 1 0,.ptr 2 0,.ptr 3 0] (dk t s)=some (.tuple [],dk t (fc t.nodes f e.ino s)))
  (hx:∀s e,kr (ai aQ) [] 5 k ⟨.exit 0,e,dk t s++[.cells (aw n)]⟩=R s) :
  ∀(l pre:List b9) (s:Int×AM Bool),n.av=pre++l->cJ (ai aQ) [] 5 k (.loop [3,4,22,23,24] Ny) [(3,.ptr 2 0),(4,.ptr 3 0),(22,fa n.av),(23,.int .i64 n.av.length),(24,.int .i64 pre.length)] (dk t s++[.cells (aw n)]) =
   R (l.foldl (fun s e=>if (!((bR s.2 e.ino).getD false))=true then fc t.nodes f e.ino (s.1,fP s.2 e.ino true) else s) s):=by
 intro l
 induction l with
 |nil =>
  intro pre s h
  rw [aB]
  simp only [dk,Ek,c9 h,List.foldl_nil,EW,simprocAttr] at hx ⊢
  exact hx _ _
 |cons x rest ihl =>
  intro pre s h
  rw [aB]
  have hlen:pre.length+1<=100000:=by rw [h] at hn; simp at hn; omega
  have hw:IntKind.i64.wrap ((pre.length:Int)+1)=((pre++[x]).length:Int):=by rw [bD (by omega) (by omega)]; exact bK
  rw [List.foldl_cons]
  have hi1:=fun s=>ihl (pre++[x]) s (by rw [h]; simp)
  have q:=VO (L:=[.cells (aw n),.cells (cI x)]) (ih x (by rw [h]; simp) (s.1,fP s.2 x.ino true))
  generalize fc t.nodes f x.ino (s.1,fP s.2 x.ino true)=s' at q ⊢
  simp only [dk,mL,aw,cI,List.length_append,List.length_cons,List.length_nil,Nat.zero_add,List.cons_append,List.nil_append] at hi1 q
  simp only [dk,mL,Ek,cC h,cn h,aw,cI,gP,DL,mapOf.eq_1,EW,simprocAttr]
  refine aC (fun hb=>?_) (fun hb=>?_)
  ·simp only [Ek,hb,hw,kR,q,wc,bkB,↓reduceIte,EW,simprocAttr]
   exact hi1 _
  ·simp only [Ek,hb,hw,wc,bkB,Bool.false_eq_true,EW,simprocAttr]
   exact hi1 _
def abk {t:Tree} {dep:Int->Nat} (h:bm t dep 0):∀(f:Nat) (ino:Int) (s:Int×AM Bool),(∀n,find t.nodes ino=some n->n.kind=2->13<f+dep ino)->0<f ->
  ai aQ 166 [.int .i64 ino,.ptr 0 0,.ptr 1 0,.ptr 2 0,.ptr 3 0] (dk t s)=some (.tuple [],dk t (fc t.nodes f ino s)):=by
 intro f
 induction f with
 |zero=>intro ino s _ h0; omega
 |succ f ih =>
  intro ino s hd _
  have q1:=Ma t ino h.sz.yR h.ft
  have hl:=N0 (t:=t) (n:=aA t.nodes ino) (f:=f) (k:=[.block 0]) (R:=fun s=>some (.tuple [],dk t s)) (by
    cases hi:find t.nodes ino with
    |none=>simp [aA,hi,Node.zero]
    |some n=>have:=(h.po _ _ hi).2; simp only [aA,hi,Option.getD_some]; omega) ?_ (fun s e=>by simp only [dk,mL,Ek,aw,wc,bkB,EW,simprocAttr]) (aA t.nodes ino).av [] (fR (s.1+(aA t.nodes ino).data.length),s.2) rfl
  ·refine aq ?_
   rw [fc]
   simp only [dk,mL,aw,List.cons_append,List.nil_append,List.length_nil] at hl q1
   simp only [Hx,Ek,dk,mL,ar,aw,q1,EW,simprocAttr]
   exact hl
  ·intro e he s
   cases hi:find t.nodes ino with
   |none=>simp [aA,hi,Node.zero] at he
   |some n =>
    simp only [aA,hi,Option.getD_some] at he
    have hk:n.kind=2:=by
     rcases h.kind _ _ hi with h1|h1
     ·rw [(h.file _ _ hi h1).1] at he; cases he
     ·exact h1
    have h1:=hd n hi hk
    have h2:=(h.deep _ _ hi hk).1
    obtain ⟨_,_,e1,_,m,hm,hu⟩:=h.uf _ _ _ hi he
    refine ih e.ino s (fun n' hn' hk'=>?_) (by omega)
    rw [hm] at hn'; injection hn' with hn'; subst hn'
    have:=(h.j7 _ _ hm hk' e1).1
    rw [hu hk'] at this
    omega
def eN (nodes:List Node) (ino:Int):Int×Int :=
 if ((find nodes ino).isSome&&(aA nodes ino).kind==2)=true then (((fc nodes 14 ino (0,[])).2.length:Int),(fc nodes 14 ino (0,[])).1) else (0,0)
def c93 {t:Tree} (h:Rt t) (ino:Int):ai aQ 93 [bj t,.int .i64 ino] []=some (.tuple [.int .i64 (eN t.nodes ino).1,.int .i64 (eN t.nodes ino).2],[]):=by
 obtain ⟨dep,h⟩:=h
 refine aq ?_
 have q1:=Ma t ino h.sz.yR h.ft
 have q2:=abk h 14 ino (0,[]) (fun n hn hk=>by omega) (by omega)
 unfold eN
 generalize fc t.nodes 14 ino (0,[])=s' at q2 ⊢
 simp only [aw] at q1
 simp only [Rp,Ul,bj,ar,q1,aw,EW,simprocAttr]
 refine bc (fun hb=>?_) (fun hb=>?_)
 ·simp only [hb,Ul,EW,simprocAttr]
  refine aC (fun hc=>?_) (fun hc=>?_)
  ·have q3:=QP (aA t.nodes ino) q2
   simp only [pI,aw,tw,iV,List.map_nil] at q3
   simp only [hb,hc,q3,Ul,mapOf.eq_1,EW,simprocAttr]
  ·simp only [hb,hc,Ul,mapOf.eq_1,Bool.and_false,Bool.false_eq_true,EW,simprocAttr]
 ·simp only [hb,Ul,mapOf.eq_1,Bool.not_true,Bool.false_and,Bool.false_eq_true,EW,simprocAttr]
def k93 {t:Tree} (h:Rt t) (ino:Int) (M:ag):ak (ai aQ) 93 [.agg [az t.nodes,.int .i64 t.next,.int .i64 t.af],.int .i64 ino] M=some (.tuple [.int .i64 (eN t.nodes ino).1,.int .i64 (eN t.nodes ino).2],M) :=
 cO (c93 h ino) M
end
section
def Ta (l:List bp) (o:Int) (b:aK):dv [.cells [bC l],.cells [.int .i64 o],b] (cM [0,1]) [0,1]=some [.cells [bC l],.cells [.int .i64 o]]:=rfl
def Tb (l:List bp) (o:Int) (b:aK):dv [b,.cells [bC l],.cells [.int .i64 o]] (cM [1,2]) [1,2]=some [.cells [bC l],.cells [.int .i64 o]]:=rfl
attribute [local irreducible] cJ cE gD gK bG kr ai ak aV aF
abbrev lg (l:List bp):Prop:=l.Pairwise fun a b=>a.ino<b.ino
def sx (l:List bp) (ino:Int):Nat:=jm (fun x=>decide (iL x.ino ino<0)) l
def Co (l:List bp) (ino:Int):Bool:=kQ (fun x=>iL x.ino ino==0) l (sx l ino)
def sy {l:List bp} (h:lg l) (ino:Int):Gw (fun x=>decide (iL x.ino ino<0)) l (sx l ino):=by
 refine yB (h.imp ?_)
 intro a b hab hb
 simp only [decide_eq_true_eq,oW] at hb ⊢
 omega
def abn (l:List bp) (ino:Int) (h:lg l) (hn:l.length<=100000):ai aQ 169 [bC l,.int .i64 ino] []=some (.tuple [.int .i64 (sx l ino),.bool (Co l ino)],[]):=by
 refine aq ?_
 have q:=fun M=>cO (abR l ino _ (sy h ino) hn) M
 simp only [HA,Z8,q,Co,EW,simprocAttr]
def WU (l:List bp) (ino:Int) (h:lg l) (hn:l.length<=100000) (M:ag):ak (ai aQ) 169 [bC l,.int .i64 ino] M=some (.tuple [.int .i64 (sx l ino),.bool (Co l ino)],M):=cO (abn l ino h hn) M
def abm (l:List bp) (dir o:Int) (h:lg l) (hn:l.length<=100000):ai aQ 168 [.int .i64 dir,.ptr 0 0,.ptr 1 0] [.cells [bC l],.cells [.int .i64 o]] =
  some (.bool ((if Co l dir=true then dir else o)==0),[.cells [bC l],.cells [.int .i64 (if Co l dir=true then dir else o)]]):=by
 refine aq ?_
 have q:=WU l dir h hn
 simp only [Hz,Qh,q,EW,simprocAttr]
 refine aC (fun hb=>?_) (fun hb=>?_)
 ·simp only [Qh,hb,if_true,EW,simprocAttr]
 ·simp only [Qh,hb,Bool.false_eq_true,if_false,EW,simprocAttr]
def wO (nodes:List Node) (l:List bp):Nat->Int->Int
 |0,_=>0
 |f+1,dir=>if Co l dir=true then dir else if (dir != 1)=true then wO nodes l f (aA nodes dir).up else 0
def N1 {t:Tree} {dep:Int->Nat} (ht:bm t dep 0) {l:List bp} (hq:lg l) (hn:l.length<=100000) {k:List K} {R:Int->Option (ae×ag)}
  (hx:∀o e,kr (ai aQ) [] 2 k ⟨.exit 0,e,[.cells [bC l],.cells [.int .i64 o],.cells (ar t)]⟩=R o) :
  ∀(f:Nat) (dir:Int) (n:Node),find t.nodes dir=some n->n.kind=2->dep dir<f->cJ (ai aQ) [] 2 k (.loop [1,2,3] Nz) [(1,.int .i64 dir),(2,.func 168 [.ptr 0 0,.ptr 1 0]),(3,.ptr 2 0)] [.cells [bC l],.cells [.int .i64 0],.cells (ar t)] =
   R (wO t.nodes l f dir):=by
 intro f
 induction f with
 |zero=>intro dir n _ _ h; omega
 |succ f ih =>
  intro dir n hi hk hd
  rw [aB,wO]
  have q0:ak (ai aQ) 168 [.int .i64 dir,.ptr 0 0,.ptr 1 0] [.cells [bC l],.cells [.int .i64 0],.cells (ar t)] =
    some (.bool ((if Co l dir=true then dir else 0)==0),[.cells [bC l],.cells [.int .i64 (if Co l dir=true then dir else 0)],.cells (ar t)]) :=
   eh (ids:=[0,1]) rfl rfl (Ta l 0 _) rfl rfl (abm l dir 0 hq hn) rfl rfl rfl rfl rfl
  have q1:=Ma t dir ht.sz.yR ht.ft
  have hd1:=(ht.num _ _ hi).1
  simp only [aw,ar] at q0 q1 hx
  simp only [Em,q0,ar,EW,simprocAttr]
  cases hb:Co l dir
  ·simp only [hb,Bool.false_eq_true,if_false]
   by_cases h1:dir=1
   ·subst h1
    simp only [Em,bne_self_eq_false,Bool.false_eq_true,if_false,EW,simprocAttr]
    exact hx _ _
   ·have h1':(dir != 1)=true:=by simpa using h1
    obtain ⟨g1,p,g2,g3⟩:=ht.j7 _ _ hi hk h1
    have hi':=ih n.up p g2 g3 (by omega)
    simp only [ar] at hi'
    simp only [aA,hi,Option.getD_some] at q1 ⊢
    simp only [Em,h1',q1,aw,EW,simprocAttr]
    exact hi'
  ·simp only [hb,if_true]
   have h0:(dir==0)=false:=by simp; omega
   simp only [h0,Em,EW,simprocAttr]
   exact hx _ _
def abl {t:Tree} {dep:Int->Nat} (ht:bm t dep 0) {l:List bp} (hq:lg l) (hn:l.length<=100000) {dir:Int} {n:Node} (hi:find t.nodes dir=some n) (hk:n.kind=2) :
  ai aQ 167 [bj t,.int .i64 dir,.func 168 [.ptr 0 0,.ptr 1 0]] [.cells [bC l],.cells [.int .i64 0]]=some (.tuple [],[.cells [bC l],.cells [.int .i64 (wO t.nodes l 13 dir)]]):=by
 refine aq ?_
 have hl:=N1 ht hq hn (k:=[.block 0]) (R:=fun o=>some (.tuple [],[.cells [bC l],.cells [.int .i64 o]])) (fun o e=>by simp only [Em,ar,EW,simprocAttr]) 13 dir n hi hk (by have:=(ht.deep _ _ hi hk).1; omega)
 simp only [ar] at hl
 simp only [Hy,Em,bj,ar,EW,simprocAttr]
 exact hl
def qZ (nodes:List Node) (l:List bp) (dir:Int):Int:=wO nodes l 13 dir
def c94 {t:Tree} {dep:Int->Nat} (ht:bm t dep 0) {l:List bp} (hq:lg l) (hn:l.length<=100000) {dir:Int} {n:Node} (hi:find t.nodes dir=some n) (hk:n.kind=2) :
  ai aQ 94 [bj t,bC l,.int .i64 dir] []=some (.int .i64 (qZ t.nodes l dir),[]):=by
 refine aq ?_
 have q:ak (ai aQ) 167 [.agg (ar t),.int .i64 dir,.func 168 [.ptr 1 0,.ptr 2 0]] [.cells (ar t),.cells [bC l],.cells [.int .i64 0]] =
   some (.tuple [],[.cells (ar t),.cells [bC l],.cells [.int .i64 (wO t.nodes l 13 dir)]]) :=
  eh (ids:=[1,2]) rfl rfl (Tb l 0 _) rfl rfl (abl ht hq hn hi hk) rfl rfl rfl rfl rfl
 simp only [ar] at q
 simp only [Rq,E94,bj,ar,q,qZ,EW,simprocAttr]
def k94 {t:Tree} {dep:Int->Nat} (ht:bm t dep 0) {l:List bp} (hq:lg l) (hn:l.length<=100000) {dir:Int} {n:Node} (hi:find t.nodes dir=some n) (hk:n.kind=2) (M:ag) :
  ak (ai aQ) 94 [.agg [az t.nodes,.int .i64 t.next,.int .i64 t.af],bC l,.int .i64 dir] M=some (.int .i64 (qZ t.nodes l dir),M):=cO (c94 ht hq hn hi hk) M
def lX (t:Tree) (l:List bp) (ino nodes bytes:Int):List bp×Int :=
 if (!(find t.nodes ino).isSome)=true then (l,70)
 else if ((aA t.nodes ino).kind != 2)=true then (l,73)
 else if decide (nodes<0)=true then (if Co l ino=true then l.eraseIdx (sx l ino) else l,0)
 else if (decide ((eN t.nodes ino).1>nodes)||decide ((eN t.nodes ino).2>bytes))=true then (l,90)
 else if Co l ino=true then (l.set (sx l ino) ⟨ino,nodes,bytes⟩,0)
 else if decide ((l.length:Int)>=16)=true then (l,76)
 else (l.take (sx l ino)++⟨ino,nodes,bytes⟩::l.drop (sx l ino),0)
def aa4 (t:Tree) (l:List bp) (ino nodes bytes:Int) (ht:Rt t) (hq:lg l) (hn:l.length<=16):ai aQ 141 [bj t,bC l,.int .i64 ino,.int .i64 nodes,.int .i64 bytes] []=some (.tuple [bC (lX t l ino nodes bytes).1,.int .i64 (lX t l ino nodes bytes).2],[]):=by
 refine aq ?_
 have q1:=Ma t ino ht.small ht.ft
 have q2:=WU l ino hq (by omega)
 have q3:=k93 ht ino
 have hb:=(sy hq ino).le
 have hlt:Co l ino=true->sx l ino<l.length:=by
  intro h
  unfold Co kQ at h
  split at h
  ·rename_i x hx; exact (List.getElem?_eq_some_iff.1 hx).1
  ·cases h
 unfold lX
 generalize eN t.nodes ino=u at q3 ⊢
 generalize sx l ino=b at q2 hb hlt ⊢
 generalize Co l ino=e at q2 hlt ⊢
 simp only [aw] at q1
 by_cases h0:l=[]
 ·have hb0:b=0:=by subst h0; simpa using hb
  have he:e=false:=by
   cases e
   ·rfl
   ·have:=hlt rfl; subst h0; simp at this
  subst he
  have p1:=fun M=>ve bA (f:=202) (sz:=3) (bytes:=24) rfl h0 M
  have p2:=fun M=>wX (f:=229) (sz:=3) (bytes:=24) rfl hb0 (.agg [.int .i64 ino,.int .i64 nodes,.int .i64 bytes]) rfl M
  simp only [zZ,Eh,bj,ar,q1,q2,q3,aw,EW,simprocAttr]
  repeat' ((first|refine aC (fun hb=>?_) (fun hb=>?_)|refine bc (fun hb=>?_) (fun hb=>?_)|refine bZ (fun hb=>?_) (fun hb=>?_))<;>simp only [hb,EW,Eh,q1,q2,q3,p1,p2,aw,simprocAttr])
  all_goals clear q1 q2 q3 p1 p2
  all_goals first|rfl|(simp_all only [jZ,↓reduceIte,reduceCtorEq,bne_self_eq_false]; done)|(simp_all only [jZ,↓reduceIte,reduceCtorEq,bne_self_eq_false]; rfl)
 ·have hb0:=hb
  have p1:=fun M=>um bA (f:=202) (sz:=3) (bytes:=24) rfl (fun _=>rfl) (by omega) h0 (by omega) M
  have p2:=fun M=>Ah bA (f:=229) (sz:=3) (bytes:=24) (v:=0) (id:=3) rfl (by omega) hb (by omega) (.agg [.int .i64 ino,.int .i64 nodes,.int .i64 bytes]) rfl M
  cases he:e
  ·subst he
   simp only [zZ,Eh,bj,ar,q1,q2,q3,aw,EW,simprocAttr]
   repeat' ((first|refine aC (fun hb=>?_) (fun hb=>?_)|refine bc (fun hb=>?_) (fun hb=>?_)|refine bZ (fun hb=>?_) (fun hb=>?_))<;>simp only [hb,EW,Eh,q1,q2,q3,p1,p2,aw,simprocAttr])
   all_goals clear q1 q2 q3 p1 p2
   all_goals first|rfl|(simp_all only [jZ,↓reduceIte,reduceCtorEq,bne_self_eq_false]; done)|(simp_all only [jZ,↓reduceIte,reduceCtorEq,bne_self_eq_false]; rfl)|(simp_all only [jZ,↓reduceIte,reduceCtorEq,bne_self_eq_false]; exact congrArg (fun z=>some (ae.tuple [ae.slice .sh z,ae.int .i64 0],([]:ag))) (DB bA hb0 ⟨ino,nodes,bytes⟩))
  ·subst he
   have p3:=fun M=>wW bA (f:=228) (sz:=3) (v:=0) (id:=2) rfl (hlt rfl) (by omega) M
   have hbl:=hlt rfl
   have hx:=List.getElem?_eq_getElem hbl
   generalize l[b]=x at hx
   have h1:((b:Int)<((l.length-0:Nat):Int))=True:=by simp; omega
   have hs:cS (l.map bA) b (putCells (bA x) 0 [.int .i64 ino,.int .i64 nodes,.int .i64 bytes])=(l.set b ⟨ino,nodes,bytes⟩).map bA:=by
    rw [cd,List.map_set]; rfl
   have ht2:List.take l.length ((l.set b ⟨ino,nodes,bytes⟩).map bA)=(l.set b ⟨ino,nodes,bytes⟩).map bA:=List.take_of_length_le (by simp)
   have hw:IntKind.i64.wrap ((b:Int)+1)=((b+1:Nat):Int):=by have:=hlt rfl; rw [bD (by omega) (by omega)]; rfl
   simp only [zZ,Eh,bj,ar,q1,q2,q3,hw,aw,EW,simprocAttr]
   repeat' ((first|refine aC (fun hb=>?_) (fun hb=>?_)|refine bc (fun hb=>?_) (fun hb=>?_)|refine bZ (fun hb=>?_) (fun hb=>?_))<;>simp only [hb,EW,Eh,q1,q2,q3,p1,p2,p3,hw,h1,hx,hs,ht2,aw,simprocAttr])
   all_goals clear q1 q2 q3 p1 p2 p3
   all_goals first|rfl|(simp_all only [jZ,↓reduceIte,reduceCtorEq,bne_self_eq_false]; done)|(simp_all only [jZ,↓reduceIte,reduceCtorEq,bne_self_eq_false]; rfl)
end
section
attribute [local irreducible] cJ cE gD gK bG kr ai ak aV aF
def mu {α:Type} (key:α->Int) (l:List α) (k:Int):Nat:=jm (fun x=>decide (iL (key x) k<0)) l
def IP {α:Type} (key:α->Int) (l:List α) (k:Int):Bool:=kQ (fun x=>iL (key x) k==0) l (mu key l k)
def DN {α:Type} {key:α->Int} {l:List α} (h:l.Pairwise fun a b=>key a<key b) (k:Int):Gw (fun x=>decide (iL (key x) k<0)) l (mu key l k):=by
 refine yB (h.imp ?_)
 intro a b hab hb
 simp only [decide_eq_true_eq,oW] at hb ⊢
 omega
def GD {α:Type} {key:α->Int} {l:List α} (h:l.Pairwise fun a b=>key a<key b) (k:Int) :
  (IP key l k=true/\∃n,l[mu key l k]?=some n/\key n=k/\l.find? (fun x=>key x==k)=some n)\/(IP key l k=false/\l.find? (fun x=>key x==k)=none):=by
 obtain ⟨l1,l2⟩:=DN h k
 simp only [decide_eq_true_eq,oW] at l2
 cases hf:l.find? (fun x=>key x==k) with
 |some n =>
  left
  have hm:=List.mem_of_find?_eq_some hf
  have he:key n=k:=by simpa using List.find?_some hf
  obtain ⟨i,hi⟩:=List.getElem?_of_mem hm
  have hib:¬i<mu key l k:=fun hc=>by have:=(l2 i n hi).2 hc; omega
  have hb:mu key l k<l.length:=by have:=(List.getElem?_eq_some_iff.1 hi).1; omega
  have hx:=List.getElem?_eq_getElem hb
  have hnl:¬key l[mu key l k]<k:=fun hc=>Nat.lt_irrefl _ ((l2 _ _ hx).1 hc)
  have hie:i=mu key l k:=by
   rcases Nat.lt_or_ge (mu key l k) i with hlt|hge
   ·have hil:=(List.getElem?_eq_some_iff.1 hi).1
    have h3:=List.pairwise_iff_getElem.1 h _ _ hb hil hlt
    have h4:l[i]=n:=by rw [List.getElem?_eq_getElem hil] at hi; injection hi
    rw [h4,he] at h3
    exact absurd h3 hnl
   ·omega
  subst hie
  exact ⟨by unfold IP kQ; rw [hi]; simp [he,yf],n,hi,he,rfl⟩
 |none =>
  right
  refine ⟨?_,rfl⟩
  unfold IP kQ
  split
  ·rename_i n hn
   have:=List.find?_eq_none.1 hf n (List.mem_of_getElem? hn)
   show (iL (key n) k==0)=false
   rw [yf]
   simpa using this
  ·rfl
def abH (x y:Node) (hx:x.av.length<=100000):ai aQ 225 [aX x,aX y] []=some (.bool (decide (x=y)),[]):=by
 have hd:decide (x=y)=(x.ino==y.ino&&(x.kind==y.kind&&(x.bw==y.bw&&(x.up==y.up&&(x.data==y.data&&decide (x.av=y.av)))))):=by
  obtain ⟨a,b,c,d,e,f⟩:=x
  obtain ⟨a',b',c',d',e',f'⟩:=y
  simp only [Node.mk.injEq]
  by_cases h1:a=a'<;>by_cases h2:b=b'<;>by_cases h3:c=c'<;>by_cases h4:d=d'<;>by_cases h5:e=e'<;>by_cases h6:f=f'<;>simp [h1,h2,h3,h4,h5,h6]
 refine aq ?_
 have q:=fun M=>cO (Vx x.av y.av hx) M
 rw [hd]
 simp only [HV,Uf,aX,aw,q,qQ,EW,simprocAttr]
 repeat' ((first|refine aC (fun hb=>?_) (fun hb=>?_)|refine bc (fun hb=>?_) (fun hb=>?_)|refine bZ (fun hb=>?_) (fun hb=>?_))<;>simp only [hb,EW,Uf,q,qQ,simprocAttr])
 all_goals (simp only [jZ,↓reduceIte,reduceCtorEq,bne_self_eq_false]; done)
def Xc (x y:Node) (hx:x.av.length<=100000) (M:ag):ak (ai aQ) 225 [.agg (aw x),.agg (aw y)] M=some (.bool (decide (x=y)),M):=cO (abH x y hx) M
def Mt (nodes:List Node) (ino:Int):Int:=if IP Node.ino nodes ino=true then (mu Node.ino nodes ino:Int) else -1
def c85 (nodes:List Node) (ino:Int) (h:gw nodes) (hn:nodes.length<=100000):ai aQ 85 [az nodes,.int .i64 ino] []=some (.int .i64 (Mt nodes ino),[]):=by
 refine aq ?_
 have q:∀M,ak (ai aQ) 160 [az nodes,.int .i64 ino,.func 161 []] M=some (.tuple [.int .i64 (mu Node.ino nodes ino),.bool (IP Node.ino nodes ino)],M):=fun M=>cO (VA nodes ino _ (DN h ino) hn) M
 simp only [Ri,E85,q,Mt,EW,simprocAttr]
 refine aC (fun hb=>?_) (fun hb=>?_)
 ·have hb':IP Node.ino nodes ino=false:=by simpa using hb
  simp only [E85,hb',Bool.false_eq_true,if_false,EW,simprocAttr]
 ·have hb':IP Node.ino nodes ino=true:=by simpa using hb
  simp only [E85,hb',if_true,EW,simprocAttr]
def k85 (nodes:List Node) (ino:Int) (h:gw nodes) (hn:nodes.length<=100000) (M:ag):ak (ai aQ) 85 [az nodes,.int .i64 ino] M=some (.int .i64 (Mt nodes ino),M):=cO (c85 nodes ino h hn) M
def vU (l:List fx) (a b:Int):Bool:=l.any (oz a b)
def abb (l:List fx) (a b:Int) (hn:l.length<=100000):ai aQ 152 [fb l,.int .i64 a,.int .i64 b] []=some (.bool (vU l a b),[]):=by
 refine aq ?_
 have q:ak (ai aQ) 237 [fb l,.func 238 [.ptr 0 0,.ptr 1 0]] [.cells [.int .i64 a],.cells [.int .i64 b]]=some (.bool (vU l a b),[.cells [.int .i64 a],.cells [.int .i64 b]]) :=
  eh (ids:=[0,1]) rfl rfl (CQ a b) rfl rfl (VK l a b hn) rfl rfl rfl rfl rfl
 simp only [Hr,Z5,q,EW,simprocAttr]
def WS (l:List fx) (a b:Int) (hn:l.length<=100000) (M:ag):ak (ai aQ) 152 [fb l,.int .i64 a,.int .i64 b] M=some (.bool (vU l a b),M):=cO (abb l a b hn) M
def k41 (a b:Tree) (ha:Small a) (M:ag):ak (ai aQ) 41 [.agg [az a.nodes,.int .i64 a.next,.int .i64 a.af],.agg [az b.nodes,.int .i64 b.next,.int .i64 b.af]] M=some (.bool (decide (a=b)),M):=cO (c41 a b ha) M
def jB (t:Tree) (taken:List fx) (tick:Int):List Node->List Int->List jK
 |n::r,x::y=>(if ((decide (Mt t.nodes n.ino<0) || !decide (n=aA t.nodes n.ino))&&vU taken x tick)=true then [⟨x,tick,n⟩] else [])++jB t taken tick r y
 |_,_=>[]
def vV (s:eu) (tick:Int) (n:Node):Int :=
 if (decide (0<=Mt s.now.nodes n.ino)&&decide (n=aA s.now.nodes n.ino))=true then s.since.getD (mu Node.ino s.now.nodes n.ino) 0 else tick
def lG (s:eu) (t:Tree):eu:=if decide (s.now=t)=true then s else
 ⟨t,fR (s.tick+1),t.nodes.map (vV s (fR (s.tick+1))),s.cv++jB t s.taken (fR (s.tick+1)) s.now.nodes s.since,s.taken,s.next⟩
def De {nodes:List Node} (h:gw nodes) (ino:Int) :
  (IP Node.ino nodes ino=true/\Mt nodes ino=(mu Node.ino nodes ino:Int)/\nodes[mu Node.ino nodes ino]?=some (aA nodes ino)/\find nodes ino=some (aA nodes ino))\/(IP Node.ino nodes ino=false/\Mt nodes ino = -1/\find nodes ino=none):=by
 rcases GD (key:=Node.ino) h ino with ⟨h1,n,h2,_,h4⟩|⟨h1,h2⟩
 ·left
  have h4':find nodes ino=some n:=h4
  have h5:aA nodes ino=n:=by simp [aA,h4']
  exact ⟨h1,by simp [Mt,h1],by rw [h5]; exact h2,by rw [h5]; exact h4'⟩
 ·right
  exact ⟨h1,by simp [Mt,h1],h2⟩
def pt (s:eu) (t:Tree) (P:List jK) (S:List Int):ag :=
 [.cells (a8 s),.cells (ar t),.cells [.slice .c0 [],.int .i64 0,.int .i64 0,.int .i64 0,.slice .c0 [],.slice .c0 [],.slice .c0 [],.int .i64 0],.tick 8 P.length,
  .cells [az t.nodes,.int .i64 t.next,.int .i64 t.af,.int .i64 (fR (s.tick+1)),.slice (.own 5) (S.map pr),.slice (.own 3) (P.map jP),fb s.taken,.int .i64 s.next],.tick 1 S.length]
def KD {s:eu} {t:Tree} (hs:ji s.now) (hz:Sz 200 s.now) (ht:ji t) (hzt:Sz 200 t) (hk:s.taken.length<=100000) (hl:s.since.length=s.now.nodes.length) {k:List K} {R:List jK->Option (ae×ag)}
  (hx:∀P e,kr (ai aQ) [.eE 4 8] 0 k ⟨.exit 0,(2,.ptr 0 0)::(3,.ptr 1 0)::(4,.ptr 2 0)::(5,.ptr 4 0)::e,pt s t P []⟩=R P) :
  ∀(l pre:List Node) (y ypre:List Int) (P:List jK),s.now.nodes=pre++l->s.since=ypre++y->ypre.length=pre.length->P.length<=100000+pre.length ->
   cJ (ai aQ) [.eE 4 8] 0 k (.loop [2,3,4,5,32,33,34] Nt) [(2,.ptr 0 0),(3,.ptr 1 0),(4,.ptr 2 0),(5,.ptr 4 0),(32,az s.now.nodes),(33,.int .i64 s.now.nodes.length),(34,.int .i64 pre.length)] (pt s t P []) =
   R (P++jB t s.taken (fR (s.tick+1)) l y):=by
 intro l
 induction l with
 |nil =>
  intro pre y ypre P h hy hyl hP
  rw [aB]
  have hy0:y=[]:=by have:=congrArg List.length h; have h2:=congrArg List.length hy; simp at this h2; exact List.length_eq_zero_iff.1 (by omega)
  subst hy0
  simp only [pt,x5,c9 h,jB,List.append_nil,EW,simprocAttr] at hx ⊢
  exact hx _ _
 |cons n rest ih =>
  intro pre y ypre P h hy hyl hP
  rw [aB]
  have hn200:=hz.nodes
  have hlen:pre.length+1<=200:=by rw [h] at hn200; simp at hn200; omega
  have hw:IntKind.i64.wrap ((pre.length:Int)+1)=((pre++[n]).length:Int):=by rw [bD (by omega) (by omega)]; exact bK
  cases y with
  |nil=>have h1:=congrArg List.length h; have h2:=congrArg List.length hy; simp at h1 h2; omega
  |cons x y =>
   have hxa:s.since[pre.length]?=some x:=by rw [hy,<-hyl]; simp
   have hi1:=ih (pre++[n]) y (ypre++[x]) P (by rw [h]; simp) (by rw [hy]; simp) (by simp [hyl]) (by simp; omega)
   have hi2:=ih (pre++[n]) y (ypre++[x]) (P++[⟨x,fR (s.tick+1),n⟩]) (by rw [h]; simp) (by rw [hy]; simp) (by simp [hyl]) (by simp; omega)
   have q1:=k85 t.nodes n.ino ht.gA (by have:=hzt.nodes; omega)
   have q2:=Xc n (aA t.nodes n.ino) (by have:=hz.av n (by rw [h]; simp); omega)
   have q3:=WS s.taken x (fR (s.tick+1)) hk
   have r1:bB (P.length+1) 96=True:=dj (by omega) (by omega)
   rw [jB]
   simp only [pt,aw,ar,a8,List.length_append,List.length_cons,List.length_nil,Nat.zero_add,List.map_append,List.map_cons,List.map_nil] at hi1 hi2 q1 q2 q3
   rcases De ht.gA n.ino with ⟨_,a2,a3,a4⟩|⟨_,a2,a4⟩
   ·have ha0:((mu Node.ino t.nodes n.ino:Int)<0)=False:=by simp
    generalize decide (n=aA t.nodes n.ino)=e1 at q2 ⊢
    generalize vU s.taken x (fR (s.tick+1))=e2 at q3 ⊢
    cases e1<;>cases e2<;>simp only [pt,x5,cC h,cn h,aw,ar,a8,q1,q2,q3,a2,a3,ha0,hxa,hw,r1,EW,simprocAttr]
    ·simpa using hi1
    ·simpa [jP,iw,aw] using hi2
    ·simpa using hi1
    ·simpa using hi1
   ·have ha0:((-1:Int)<0)=True:=by simp
    generalize decide (n=aA t.nodes n.ino)=e1 at q2 ⊢
    generalize vU s.taken x (fR (s.tick+1))=e2 at q3 ⊢
    cases e2<;>simp only [pt,x5,cC h,cn h,aw,ar,a8,q1,q2,q3,a2,ha0,hxa,hw,r1,EW,simprocAttr]
    ·simpa using hi1
    ·simpa [jP,iw,aw] using hi2
def KE {s:eu} {t:Tree} (hs:ji s.now) (hz:Sz 200 s.now) (hzt:Sz 200 t) (hl:s.since.length=s.now.nodes.length) (P:List jK) {k:List K} {R:List Int->Option (ae×ag)}
  (hx:∀S e,kr (ai aQ) [.eE 4 8] 0 k ⟨.exit 2,(2,.ptr 0 0)::(4,.ptr 2 0)::(5,.ptr 4 0)::e,pt s t P S⟩=R S) :
  ∀(l pre:List Node) (S:List Int),t.nodes=pre++l->S.length<=100000+pre.length ->
   cJ (ai aQ) [.eE 4 8] 0 k (.loop [2,4,5,84,85,86] Nu) [(2,.ptr 0 0),(4,.ptr 2 0),(5,.ptr 4 0),(84,az t.nodes),(85,.int .i64 t.nodes.length),(86,.int .i64 pre.length)] (pt s t P S) =
   R (S++l.map (vV s (fR (s.tick+1)))):=by
 intro l
 induction l with
 |nil =>
  intro pre S h hS
  rw [aB]
  simp only [pt,x5,c9 h,List.map_nil,List.append_nil,EW,simprocAttr] at hx ⊢
  exact hx _ _
 |cons n rest ih =>
  intro pre S h hS
  rw [aB]
  have hn200:=hzt.nodes
  have hlen:pre.length+1<=200:=by rw [h] at hn200; simp at hn200; omega
  have hw:IntKind.i64.wrap ((pre.length:Int)+1)=((pre++[n]).length:Int):=by rw [bD (by omega) (by omega)]; exact bK
  have hi1:=ih (pre++[n]) (S++[vV s (fR (s.tick+1)) n]) (by rw [h]; simp) (by simp; omega)
  have q1:=k85 s.now.nodes n.ino hs.gA (by have:=hz.nodes; omega)
  have q2:=Xc n (aA s.now.nodes n.ino) (by have:=hzt.av n (by rw [h]; simp); omega)
  have r1:bB (S.length+1) 8=True:=dj (by omega) (by omega)
  rw [List.map_cons]
  unfold vV at hi1 ⊢
  simp only [pt,aw,ar,a8,List.length_append,List.length_cons,List.length_nil,Nat.zero_add,List.map_append,List.map_cons,List.map_nil] at hi1 q1 q2
  rcases De hs.gA n.ino with ⟨_,a2,a3,a4⟩|⟨_,a2,a4⟩
  ·have ha0:(0<=(mu Node.ino s.now.nodes n.ino:Int))=True:=by simp
   have hlt:mu Node.ino s.now.nodes n.ino<s.since.length:=by rw [hl]; exact (List.getElem?_eq_some_iff.1 a3).1
   have hxa:=List.getElem?_eq_getElem hlt
   have hxd:s.since.getD (mu Node.ino s.now.nodes n.ino) 0=s.since[mu Node.ino s.now.nodes n.ino]:=by simp [List.getD,hxa]
   rw [hxd] at hi1 ⊢
   generalize s.since[mu Node.ino s.now.nodes n.ino]=x at hxa hi1 ⊢
   generalize decide (n=aA s.now.nodes n.ino)=e1 at q2 hi1 ⊢
   rw [a2] at hi1 ⊢
   cases e1<;>simp only [pt,x5,cC h,cn h,aw,ar,a8,q1,q2,a2,a3,ha0,hxa,hw,r1,rM,EW,simprocAttr]
   ·simpa using hi1
   ·simpa using hi1
  ·have ha0:(0<=(-1:Int))=False:=by simp
   rw [a2] at hi1 ⊢
   simp only [pt,x5,cC h,cn h,aw,ar,a8,q1,q2,a2,ha0,hw,r1,rM,EW,simprocAttr]
   simpa using hi1
def Iy {α:Type} (enc:α->ae) {f sz bytes:Nat} (hp:aQ.fT f=some (jH sz bytes)) (hw:∀a,(enc a).cells.length=sz) (hb:bytes<=1000) {l:List α} (hn:l.length<=100000) (M:ag) :
  ai aQ f [.slice .sh (l.map enc)] M=some (.slice (.own M.length) (l.map enc),M++[.tick sz l.length]):=by
 refine bz (g:=jH sz bytes) hp ?_
 have hw':wid (l.map enc) sz:=by have:=kv enc sz hw l; simpa using this
 have hr:bB (l.map enc).length bytes:=by have:=dj (a:=l.length) (b:=bytes) (by omega) (by omega); simpa using this
 unfold jH
 simp only []
 rw [aM ⟨hw',hr⟩]
 rw [List.length_map]
def vO {α:Type} (enc:α->ae) {f sz bytes:Nat} (hp:aQ.fT f=some (jH sz bytes)) (hw:∀a,(enc a).cells.length=sz) (hb:bytes<=1000) {l:List α} (hn:l.length<=100000) (M:ag) :
  sP (ai aQ) f [.slice .sh (l.map enc)] M=some (.slice (.own M.length) (l.map enc),M++[.tick sz l.length]):=by
 unfold sP
 rw [if_pos ⟨rfl,rfl⟩,Iy enc hp hw hb hn,aE]
 rfl
def aa2 (s:eu) (t:Tree) (hs:ji s.now) (hz:Sz 200 s.now) (ht:ji t) (hzt:Sz 200 t) (hk:s.taken.length<=100000) (hl:s.since.length=s.now.nodes.length) (hp:s.cv.length<=100000) :
  ai aQ 137 [iy s,bj t] []=some (iy (lG s t),[]):=by
 refine aq ?_
 have q1:=k41 s.now t (hz.small (by omega))
 have p1:=fun M=>vO jP (f:=224) (sz:=8) (bytes:=96) rfl (fun _=>rfl) (by omega) hp M
 have l2:=fun P=>KE hs hz hzt hl P (k:=[.block 2,.seq OM]) (R:=fun S=>some (.agg [az t.nodes,.int .i64 t.next,.int .i64 t.af,.int .i64 (fR (s.tick+1)),nS S,mX P,fb s.taken,.int .i64 s.next],[]))
  (fun S e=>by simp only [pt,a8,ar,x5,EW,simprocAttr]) t.nodes [] [] rfl (by simp)
 have l1:=KD hs hz ht hzt hk hl (k:=[.block 0,.seq ON]) (R:=fun P=>some (.agg [az t.nodes,.int .i64 t.next,.int .i64 t.af,.int .i64 (fR (s.tick+1)),nS (t.nodes.map (vV s (fR (s.tick+1)))),mX P,fb s.taken,.int .i64 s.next],[]))
  (fun P e=>by
   have:=l2 P
   simp only [pt,a8,ar,List.length_nil,List.nil_append] at this
   simp only [pt,a8,ar,x5,EW,simprocAttr]
   exact this) s.now.nodes [] s.since [] s.cv rfl rfl rfl (by simpa using hp)
 unfold lG
 generalize decide (s.now=t)=e1 at q1 ⊢
 simp only [pt,a8,ar,List.length_nil] at l1
 cases e1<;>simp only [Hl,x5,iy,a8,bj,ar,q1,p1,or_false,EW,simprocAttr]
 exact l1
end
section
def qR {C:bt} {f g p:Nat} {xs:List ae} {r:ae} {M:ag} {c:ae} (hM:nth M p=some (.cells [c])) (h:C f [.slice .sh xs,.func g [.ptr 0 0]] [.cells [c]]=some (r,[.cells [c]])) (h3:r.pB=true) (h5:r.ui (pn [p])=r)
  (h6:c.nu&&c.fz.isEmpty=true) (h8:∀ρ,c.km ρ=c:=by intro ρ; rfl):ak C f [.slice .sh xs,.func g [.ptr p 0]] M=some (r,M):=by
 simp only [Bool.and_eq_true,List.isEmpty_iff,decide_eq_true_eq] at h6
 obtain ⟨h6,h7⟩:=h6
 have hids:[ae.slice .sh xs,.func g [.ptr p 0]].flatMap ae.ids=[p]:=rfl
 have hi:iE M [p]=[]:=by simp [iE,hM,aK.ids,h7]
 have e0:ep M [p]=[p]:=by simp [ep,hi,dU]
 have e1:reach M [p]=[p]:=by
  have ea:dU [] [p]=[p]:=rfl
  simp only [reach,ea,e0]
 have hfl:[ae.slice .sh xs,.func g [.ptr p 0]].all ae.flat=true:=rfl
 unfold ak
 rw [if_pos hfl,hids,e1]
 have hpk:dv M (cM [p]) [p]=some [.cells [c]]:=by simp [dv,hM,aK.flat,h6,aK.ik,h8]
 rw [hpk]
 simp only [aE]
 rw [if_pos e0]
 have hrn:[ae.slice .sh xs,.func g [.ptr p 0]].map (ae.ik (cM [p]))=[.slice .sh xs,.func g [.ptr 0 0]]:=by
  simp [ae.ik,ae.km,ae.jV,cM]
 rw [hrn,h]
 simp only [aE]
 rw [if_pos ⟨by trivial,h3,by simp [aK.flat,h6]⟩,h5]
 simp only [eJ,aK.ik,List.map_cons,List.map_nil,h8]
 rw [gG hM]
attribute [local irreducible] cJ cE gD gK bG kr ai ak aV aF
def mC (id:Int) (x:fx):Bool:=x.id != id
def rH (tk:List fx) (p:jK):Bool:=vU tk p.nU p.CZ
def IT (n:fx):(dL n).all ae.c8=true:=rfl
def Lq (n:fx):(dL n).all ae.plainCell=true:=rfl
def Lp (n:jK):(iw n).all ae.plainCell=true:=rfl
def IQ (n:jK):(iw n).all ae.c8=true:=rfl
def takeN (s:eu) (ino:Int):eu×Int×Int :=
 if (!(find s.now.nodes ino).isSome)=true then (s,0,70)
 else if ((aA s.now.nodes ino).kind != 2)=true then (s,0,73)
 else if (decide ((s.taken.length:Int)>=16)||decide (s.next>=1099511627776))=true then (s,0,76)
 else (⟨s.now,s.tick,s.since,s.cv,s.taken++[⟨s.next,ino,s.tick⟩],fR (s.next+1)⟩,s.next,0)
def aa5 (s:eu) (ino:Int) (hz:Small s.now) (hs:ji s.now) (hk:s.taken.length<=16):ai aQ 142 [iy s,.int .i64 ino] []=some (.tuple [iy (takeN s ino).1,.int .i64 (takeN s ino).2.1,.int .i64 (takeN s ino).2.2],[]):=by
 refine aq ?_
 have q1:=Ma s.now ino hz hs
 have p1:=fun M=>vO gZ (f:=230) (sz:=3) (bytes:=24) rfl (fun _=>rfl) (by omega) (l:=s.taken) (by omega) M
 have r1:bB (s.taken.length+1) 24=True:=dj (by omega) (by omega)
 unfold takeN
 simp only [aw] at q1
 simp only [Hm,T8,iy,a8,q1,aw,EW,simprocAttr]
 repeat' ((first|refine aC (fun hb=>?_) (fun hb=>?_)|refine bc (fun hb=>?_) (fun hb=>?_)|refine bZ (fun hb=>?_) (fun hb=>?_))<;>simp only [hb,EW,T8,q1,p1,r1,or_false,aw,simprocAttr])
 all_goals clear q1 p1
 all_goals first|rfl|(simp_all only [jZ,↓reduceIte,reduceCtorEq,bne_self_eq_false]; done)|(simp_all only [jZ,↓reduceIte,reduceCtorEq,bne_self_eq_false,a8]; rfl)|(simp_all only [jZ,↓reduceIte,reduceCtorEq,bne_self_eq_false,a8,fb,List.map_append,List.map_cons,List.map_nil]; rfl)
def acD (s:eu) (ino:Int) (hz:Small s.now) (hs:ji s.now) (hk:s.taken.length<=16) (M:ag):ak (ai aQ) 142 [.agg (a8 s),.int .i64 ino] M=some (.tuple [.agg (a8 (takeN s ino).1),.int .i64 (takeN s ino).2.1,.int .i64 (takeN s ino).2.2],M) :=
 cO (aa5 s ino hz hs hk) M
def abL (x:fx) (id:Int):ai aQ 233 [gZ x,.ptr 0 0] [.cells [.int .i64 id]]=some (.bool (mC id x),[.cells [.int .i64 id]]):=by
 refine aq ?_
 simp only [mC,HZ,aai,gZ,dL,EW,simprocAttr]
def abN (p:jK) (tk:List fx) (hk:tk.length<=100000):ai aQ 235 [jP p,.ptr 0 0] [.cells [fb tk]]=some (.bool (rH tk p),[.cells [fb tk]]):=by
 refine aq ?_
 unfold rH
 have q:=WS tk p.nU p.CZ hk
 simp only [H2,aaj,jP,iw,aw,q,EW,simprocAttr]
def Ob {xs:List fx} {id:Int}  (hn:xs.length<=100000) {k:List K} {R:List fx->Option (ae×ag)}
  (hx:∀(out:List fx) e,kr (ai aQ) [.tmp 4] 1 k ⟨.exit 0,(1,.func 233 [.ptr 0 0])::(5,.slice (.own 1) (out.map gZ))::e,[.cells [.int .i64 id],.tick 3 out.length]⟩=R out) :
  ∀(l pre out:List fx),xs=pre++l->out.length<=pre.length->cJ (ai aQ) [.tmp 4] 1 k (.loop [1,5,8,9,10] NG) [(1,.func 233 [.ptr 0 0]),(5,.slice (.own 1) (out.map gZ)),(8,.slice .sh (xs.map gZ)),(9,.int .i64 xs.length),(10,.int .i64 pre.length)] [.cells [.int .i64 id],.tick 3 out.length] =
   R (out++l.filter (mC id)):=by
 intro l
 induction l with
 |nil =>
  intro pre out h ho
  rw [aB]
  simp only [Mj,c9 h,List.filter_nil,List.append_nil,EW,simprocAttr]
  exact hx _ _
 |cons n rest ih =>
  intro pre out h ho
  rw [aB]
  have hlen:pre.length+1<=100000:=by rw [h] at hn; simp at hn; omega
  have hw:IntKind.i64.wrap ((pre.length:Int)+1)=((pre++[n]).length:Int):=by rw [bD (by omega) (by omega)]; exact bK
  have hi1:=ih (pre++[n]) out (by rw [h]; simp) (by simp; omega)
  have hi2:=ih (pre++[n]) (out++[n]) (by rw [h]; simp) (by simp; omega)
  simp only [List.length_append,List.length_cons,List.length_nil,Nat.zero_add,List.map_append,List.map_cons,List.map_nil] at hi1 hi2
  have r1:bB (out.length+1) 24=True:=dj (by omega) (by omega)
  have q1:∀M,nth M 0=some (.cells [.int .i64 id])->ak (ai aQ) 233 [.agg (dL n),.ptr 0 0] M=some (.bool ((mC id) n),M) :=
   fun M hM=>oV (f:=233) (p:=0) (vs:=[.agg (dL n)]) hM (abL n id) rfl rfl rfl rfl rfl rfl rfl rfl rfl
  rw [List.filter_cons]
  generalize (mC id) n=e at q1 ⊢
  cases e<;>simp only [Mj,cC h,cn h,q1,hw,r1,IT,IQ,Lq,Lp,if_true,Bool.false_eq_true,if_false,EW,simprocAttr]
  ·exact hi1
  ·simpa [gZ] using hi2
def abK (xs:List fx) (id:Int)  (hn:xs.length<=100000):ai aQ 232 [.slice .sh (xs.map gZ),.func 233 [.ptr 0 0]] [.cells [.int .i64 id]]=some (.slice .sh ((xs.filter (mC id)).map gZ),[.cells [.int .i64 id]]):=by
 refine aq ?_
 simp only [HY,Mj,EW,simprocAttr]
 exact Ob  hn (R:=fun out=>some (.slice .sh (out.map gZ),[.cells [.int .i64 id]])) (fun out e=>by simp only [Mj,EW,simprocAttr]) xs [] [] rfl (Nat.le_refl _)
def Oc {xs:List jK} {tk:List fx} (hk:tk.length<=100000) (hn:xs.length<=100000) {k:List K} {R:List jK->Option (ae×ag)}
  (hx:∀(out:List jK) e,kr (ai aQ) [.tmp 4] 1 k ⟨.exit 0,(1,.func 235 [.ptr 0 0])::(5,.slice (.own 1) (out.map jP))::e,[.cells [fb tk],.tick 8 out.length]⟩=R out) :
  ∀(l pre out:List jK),xs=pre++l->out.length<=pre.length->cJ (ai aQ) [.tmp 4] 1 k (.loop [1,5,8,9,10] NH) [(1,.func 235 [.ptr 0 0]),(5,.slice (.own 1) (out.map jP)),(8,.slice .sh (xs.map jP)),(9,.int .i64 xs.length),(10,.int .i64 pre.length)] [.cells [fb tk],.tick 8 out.length] =
   R (out++l.filter (rH tk)):=by
 intro l
 induction l with
 |nil =>
  intro pre out h ho
  rw [aB]
  simp only [Ml,c9 h,List.filter_nil,List.append_nil,EW,simprocAttr]
  exact hx _ _
 |cons n rest ih =>
  intro pre out h ho
  rw [aB]
  have hlen:pre.length+1<=100000:=by rw [h] at hn; simp at hn; omega
  have hw:IntKind.i64.wrap ((pre.length:Int)+1)=((pre++[n]).length:Int):=by rw [bD (by omega) (by omega)]; exact bK
  have hi1:=ih (pre++[n]) out (by rw [h]; simp) (by simp; omega)
  have hi2:=ih (pre++[n]) (out++[n]) (by rw [h]; simp) (by simp; omega)
  simp only [List.length_append,List.length_cons,List.length_nil,Nat.zero_add,List.map_append,List.map_cons,List.map_nil] at hi1 hi2
  have r1:bB (out.length+1) 96=True:=dj (by omega) (by omega)
  have q1:∀M,nth M 0=some (.cells [fb tk])->ak (ai aQ) 235 [.agg (iw n),.ptr 0 0] M=some (.bool ((rH tk) n),M) :=
   fun M hM=>oV (f:=235) (p:=0) (vs:=[.agg (iw n)]) hM (abN n tk hk) rfl rfl rfl rfl rfl rfl rfl rfl rfl
  rw [List.filter_cons]
  generalize (rH tk) n=e at q1 ⊢
  cases e<;>simp only [Ml,cC h,cn h,q1,hw,r1,IT,IQ,Lq,Lp,if_true,Bool.false_eq_true,if_false,EW,simprocAttr]
  ·exact hi1
  ·simpa [jP] using hi2
def abM (xs:List jK) (tk:List fx) (hk:tk.length<=100000) (hn:xs.length<=100000):ai aQ 234 [.slice .sh (xs.map jP),.func 235 [.ptr 0 0]] [.cells [fb tk]]=some (.slice .sh ((xs.filter (rH tk)).map jP),[.cells [fb tk]]):=by
 refine aq ?_
 simp only [H0,Ml,EW,simprocAttr]
 exact Oc hk hn (R:=fun out=>some (.slice .sh (out.map jP),[.cells [fb tk]])) (fun out e=>by simp only [Ml,EW,simprocAttr]) xs [] [] rfl (Nat.le_refl _)
def ra (s:eu) (id:Int):eu×Int :=
 if (((s.taken.filter (mC id)).length:Int)==(s.taken.length:Int))=true then (s,100)
 else (⟨s.now,s.tick,s.since,s.cv.filter (rH (s.taken.filter (mC id))),s.taken.filter (mC id),s.next⟩,0)
def aa9 (s:eu) (id:Int) (hk:s.taken.length<=100000) (hp:s.cv.length<=100000):ai aQ 147 [iy s,.int .i64 id] []=some (.tuple [iy (ra s id).1,.int .i64 (ra s id).2],[]):=by
 refine aq ?_
 have hf:(s.taken.filter (mC id)).length<=100000:=Nat.le_trans (List.length_filter_le _ _) hk
 have q1:∀M,nth M 1=some (.cells [.int .i64 id])->ak (ai aQ) 232 [fb s.taken,.func 233 [.ptr 1 0]] M=some (fb (s.taken.filter (mC id)),M):=by
  intro M hM
  exact qR hM (abK s.taken id hk) rfl rfl rfl
 unfold ra
 generalize (s.taken.filter (mC id))=tk at q1 hf ⊢
 have q2:∀M,nth M 3=some (.cells [fb tk])->ak (ai aQ) 234 [mX s.cv,.func 235 [.ptr 3 0]] M=some (mX (s.cv.filter (rH tk)),M):=by
  intro M hM
  exact qR hM (abM s.cv tk hf hp) rfl rfl rfl
 simp only [Hp,T9,iy,a8,q1,EW,simprocAttr]
 repeat' ((first|refine aC (fun hb=>?_) (fun hb=>?_)|refine bc (fun hb=>?_) (fun hb=>?_)|refine bZ (fun hb=>?_) (fun hb=>?_))<;>simp only [hb,EW,T9,q1,q2,simprocAttr])
 all_goals clear q1 q2
 all_goals first|rfl|(simp_all only [jZ,↓reduceIte,reduceCtorEq,bne_self_eq_false]; done)|(simp_all only [jZ,↓reduceIte,reduceCtorEq,bne_self_eq_false,a8]; rfl)
def acG (s:eu) (id:Int) (hk:s.taken.length<=100000) (hp:s.cv.length<=100000) (M:ag):ak (ai aQ) 147 [.agg (a8 s),.int .i64 id] M=some (.tuple [.agg (a8 (ra s id).1),.int .i64 (ra s id).2],M) :=
 cO (aa9 s id hk hp) M
def c37 (t:Tree) (ht:t.nodes.length<=100000):ai aQ 37 [bj t] []=some (iy ⟨t,0,List.replicate t.nodes.length 0,[],[],1⟩,[]):=by
 refine aq ?_
 have r1:bB t.nodes.length 8=True:=dj (by omega) (by omega)
 simp only [Ra,E37,bj,ar,iy,a8,r1,ae.norm,nS,List.map_replicate,EW,simprocAttr]
 rfl
end
abbrev eU:Unit->ae:=fun _ => .agg []
def flN (l:AM Node):(iV aX l).all ae.flat=true:=Ch _ (fun _=>rfl) l
def ZY (ρ:Nat->Nat) (l:AM Node):(iV aX l).map (ae.ik ρ)=iV aX l:=LI _ _ (fun _=>rfl) l
def WK (l:AM Node):(iV aX l).flatMap ae.ids=[]:=IE _ (fun _=>rfl) l
def MB (B:Nat) (M:ag) (l:AM Node):List.map (ae.eb B M) (iV aX l)=iV aX l:=MC _ _ _ (fun _=>rfl) l
def flU (l:AM Unit):(iV eU l).all ae.flat=true:=Ch _ (fun _=>rfl) l
def ZZ (ρ:Nat->Nat) (l:AM Unit):(iV eU l).map (ae.ik ρ)=iV eU l:=LI _ _ (fun _=>rfl) l
def acm (l:AM Unit):(iV eU l).flatMap ae.ids=[]:=IE _ (fun _=>rfl) l
def ZT (B:Nat) (M:ag) (l:AM Unit):List.map (ae.eb B M) (iV eU l)=iV eU l:=MC _ _ _ (fun _=>rfl) l
abbrev VS:=AM Unit×List Node
def dy (all:AM Node):Nat->Int->VS->Bool×VS
 |0,_,st=>(false,st)
 |f+1,ino,st =>
  if (bR st.1 ino).isSome=true then (true,st) else
  if (!(bR all ino).isSome)=true then (false,(fP st.1 ino (),st.2)) else
  ((bR all ino).getD Node.zero).av.foldl (fun w e=>((dy all f e.ino w.2).1&&w.1,(dy all f e.ino w.2).2)) (true,(fP st.1 ino (),st.2++[(bR all ino).getD Node.zero]))
def missing (all:AM Node) (met:AM Unit):Nat:=(all.filter fun p=>(bR met p.1).isNone).length
def jT (all:AM Node) (met:AM Unit) (ino:Int):missing all (fP met ino ())<=missing all met:=by
 unfold missing
 simp only [fO]
 induction all with
 |nil=>simp
 |cons p r ih =>
  simp only [List.filter_cons]
  by_cases h:p.1=ino
  ·simp only [h,if_true,Option.isNone_some,Bool.false_eq_true,if_false]
   split
   ·simp only [List.length_cons]; omega
   ·exact ih
  ·simp only [h,if_false]
   split
   ·simp only [List.length_cons]; omega
   ·exact ih
def vA {all:AM Node} {met:AM Unit} {ino:Int} {n:Node} (h:bR all ino=some n) (h0:bR met ino=none):missing all (fP met ino ())<missing all met:=by
 have hm:=oo _ _ _ h
 clear h
 unfold missing
 induction all with
 |nil=>cases hm
 |cons p r ih =>
  simp only [List.filter_cons,fO]
  by_cases hp:p.1=ino
  ·have h1:=jT r met ino
   unfold missing at h1
   simp only [fO] at h1
   simp only [hp,if_true,Option.isNone_some,Bool.false_eq_true,if_false,h0,Option.isNone_none]
   simp only [List.length_cons]
   omega
  ·rcases List.mem_cons.1 hm with h2|h2
   ·exact absurd (by rw [<-h2]) hp
   ·have:=ih h2
    simp only [fO] at this
    simp only [hp,if_false]
    split
    ·simp only [List.length_cons]; omega
    ·exact this
structure lZ (all:AM Node) (st st':VS):Prop where
 len:st'.2.length+missing all st'.1<=st.2.length+missing all st.1
 SN:missing all st'.1<=missing all st.1
 met:∀j,(bR st.1 j).isSome=true->(bR st'.1 j).isSome=true
 nodup:(st.2.map Node.ino).Nodup->(∀n,n∈st.2->(bR st.1 n.ino).isSome=true)->(st'.2.map Node.ino).Nodup/\∀n,n∈st'.2->(bR st'.1 n.ino).isSome=true
def lZ.refl (all:AM Node) (st:VS):lZ all st st:=⟨Nat.le_refl _,Nat.le_refl _,fun _ h=>h,fun h1 h2=>⟨h1,h2⟩⟩
def lZ.trans {all:AM Node} {a b c:VS} (h:lZ all a b) (k:lZ all b c):lZ all a c :=
 ⟨Nat.le_trans k.len h.len,Nat.le_trans k.SN h.SN,fun j hj=>k.met j (h.met j hj),fun h1 h2=>let ⟨g1,g2⟩:=h.nodup h1 h2; k.nodup g1 g2⟩
def Own (all:AM Node):Prop:=∀k n,bR all k=some n->n.ino=k
def oH {all:AM Node} (ho:Own all):∀(f:Nat) (ino:Int) (st:VS),lZ all st (dy all f ino st).2:=by
 intro f
 induction f with
 |zero=>intro ino st; exact lZ.refl _ _
 |succ f ih =>
  intro ino st
  rw [dy]
  split
  ·exact lZ.refl _ _
  ·rename_i h0
   have h0:bR st.1 ino=none:=by simpa using h0
   have hput:lZ all st (fP st.1 ino (),st.2):=by
    refine ⟨?_,jT _ _ _,fun j hj=>?_,fun h1 h2=>⟨h1,fun n hn=>?_⟩⟩
    ·have:=jT all st.1 ino
     simp only
     omega
    ·simp only [fO]; split
     ·rfl
     ·exact hj
    ·simp only [fO]; split
     ·rfl
     ·exact h2 n hn
   split
   ·exact hput
   ·rename_i h1
    cases hn:bR all ino with
    |none=>simp [hn] at h1
    |some n =>
     simp only [Option.getD_some]
     have hstep:lZ all st (fP st.1 ino (),st.2++[n]):=by
      have hlt:=vA hn h0
      refine ⟨by simp; omega,jT _ _ _,hput.met,fun g1 g2=>?_⟩
      have hni:=ho _ _ hn
      refine ⟨?_,fun m hm=>?_⟩
      ·rw [List.map_append,List.nodup_append]
       refine ⟨g1,by simp,?_⟩
       intro a ha b hb
       simp only [List.map_cons,List.map_nil,List.mem_singleton] at hb
       subst hb
       intro hab
       obtain ⟨m,hm,rfl⟩:=List.mem_map.1 ha
       have:=g2 m hm
       rw [hab,hni,h0] at this
       cases this
      ·rcases List.mem_append.1 hm with h|h
       ·exact (hput.nodup g1 g2).2 m h
       ·simp only [List.mem_singleton] at h
        subst h
        simp only [fO,hni,if_true,Option.isSome_some]
     have hfold:∀(l:List b9) (w:Bool×VS),lZ all w.2 (l.foldl (fun w e=>((dy all f e.ino w.2).1&&w.1,(dy all f e.ino w.2).2)) w).2:=by
      intro l
      induction l with
      |nil=>intro w; exact lZ.refl _ _
      |cons e r ihr =>
       intro w
       rw [List.foldl_cons]
       exact (ih e.ino w.2).trans (ihr ((dy all f e.ino w.2).1&&w.1,(dy all f e.ino w.2).2))
     exact hstep.trans (hfold n.av (true,(fP st.1 ino (),st.2++[n])))
def lJ:ae := .func 157 [.ptr 0 0,.ptr 1 0,.ptr 2 0,.ptr 3 0]
def fC (all:AM Node) (st:VS):ag:=[.cells [.cz 4],.cells [.cz 5],.cells [.aZ 6 st.2.length 6 0 st.2.length],.cells [lJ],.map (tw st.1) (iV eU st.1),.map (tw all) (iV aX all),.arr 6 st.2.length (st.2.map aX)]
def D3 (all:AM Node) (st:VS):(fC all st).map (aK.ik (cM [0,1,2,3,4,5,6]))=fC all st/\(fC all st).map (aK.ik (pn [0,1,2,3,4,5,6]))=fC all st:=by
 constructor
 ·simp only [fC,List.map_cons,List.map_nil,aK.ik,ZY,ZZ]; rfl
 ·simp only [fC,List.map_cons,List.map_nil,aK.ik,ZY,ZZ]; rfl
def Zr (all:AM Node) (st:VS) (L:ag):dv (fC all st++L) (cM [0,1,2,3,4,5,6]) [0,1,2,3,4,5,6]=some (fC all st):=by
 have h:=(D3 all st).1
 simp only [fC,List.map_cons,List.map_nil] at h
 injection h with h0 h; injection h with h1 h; injection h with h2 h; injection h with h3 h; injection h with h4 h; injection h with h5 h; injection h with h6 h
 simp only [fC,List.cons_append,List.nil_append,dv,nth,h0,h1,h2,h3,h4,h5,h6]
 simp only [aK.flat,flN,flU,if_true]
 rfl
def aco (all:AM Node) (st:VS) (L:ag):iE (fC all st++L) [0,1,2,3]=[4,5,6,0,1,2,3]/\iE (fC all st++L) [0,1,2,3,4,5,6]=[4,5,6,0,1,2,3]:=by
 refine ⟨rfl,?_⟩
 show [4,5,6,0,1,2,3]++((iV eU st.1).flatMap ae.ids++((iV aX all).flatMap ae.ids++([]++[])))=_
 rw [acm,WK]; rfl
def LG (all:AM Node) (st:VS) (L:ag):reach (fC all st++L) [0,1,2,3]=[0,1,2,3,4,5,6]/\ep (fC all st++L) [0,1,2,3,4,5,6]=[0,1,2,3,4,5,6]:=by
 obtain ⟨h1,h2⟩:=aco all st L
 have e0:dU [] [0,1,2,3]=[0,1,2,3]:=rfl
 have e1:dU [0,1,2,3] [4,5,6,0,1,2,3]=[0,1,2,3,4,5,6]:=rfl
 have e2:dU [0,1,2,3,4,5,6] [4,5,6,0,1,2,3]=[0,1,2,3,4,5,6]:=rfl
 simp only [reach,ep,e0,h1,e1,h2,e2,and_self]
def TY (all:AM Node) (st st':VS) (L:ag):eJ [0,1,2,3,4,5,6] (fC all st++L) [0,1,2,3,4,5,6] (fC all st')=fC all st'++L:=by
 have h:=(D3 all st').2
 simp only [fC,List.map_cons,List.map_nil] at h
 injection h with h0 h; injection h with h1 h; injection h with h2 h; injection h with h3 h; injection h with h4 h; injection h with h5 h; injection h with h6 h
 simp only [fC,List.cons_append,List.nil_append,eJ,h0,h1,h2,h3,h4,h5,h6,cS]
def Py (all:AM Node) (st:VS):(fC all st).all aK.flat=true:=by
 simp only [fC,List.all_cons,aK.flat,flN,flU]; rfl
def QQ {all:AM Node} {ino:Int} {st st':VS} {b:Bool} {L:ag} (h:ai aQ 157 [.int .i64 ino,.ptr 0 0,.ptr 1 0,.ptr 2 0,.ptr 3 0] (fC all st)=some (.bool b,fC all st')) :
  ak (ai aQ) 157 [.int .i64 ino,.ptr 0 0,.ptr 1 0,.ptr 2 0,.ptr 3 0] (fC all st++L)=some (.bool b,fC all st'++L) :=
 eh (ids:=[0,1,2,3,4,5,6]) rfl (LG all st L).1 (Zr all st L) (LG all st L).2 rfl h rfl rfl (Py all st') rfl (TY all st st' L)
section
attribute [local irreducible] cJ cE gD gK bG kr ai ak aV aF
def NY {all:AM Node} {n:Node} {f:Nat} (ho:Own all) {k:List K} {R:Bool×VS->Option (ae×ag)} (hn:n.av.length<=100000)
  (ih:∀e,e∈n.av->∀st,missing all st.1<f->st.2.length+missing all st.1<=200000->ai aQ 157 [.int .i64 e.ino,.ptr 0 0,.ptr 1 0,.ptr 2 0,.ptr 3 0] (fC all st)=some (.bool (dy all f e.ino st).1,fC all (dy all f e.ino st).2))
  (hx:∀w e,kr (ai aQ) [.tmp 6] 7 k ⟨.exit 0,(4,.ptr 3 0)::(11,.bool w.1)::e,fC all w.2++[.cells [],.cells (aw n)]⟩=R w) :
  ∀(l pre:List b9) (w:Bool×VS),n.av=pre++l->missing all w.2.1<f->w.2.2.length+missing all w.2.1<=200000->cJ (ai aQ) [.tmp 6] 7 k (.loop [4,11,37,38,39] Nx) [(4,.ptr 3 0),(11,.bool w.1),(37,fa n.av),(38,.int .i64 n.av.length),(39,.int .i64 pre.length)] (fC all w.2++[.cells [],.cells (aw n)]) =
   R (l.foldl (fun w e=>((dy all f e.ino w.2).1&&w.1,(dy all f e.ino w.2).2)) w):=by
 intro l
 induction l with
 |nil =>
  intro pre w h _ _
  rw [aB]
  simp only [fC,Ej,c9 h,List.foldl_nil,EW,simprocAttr] at hx ⊢
  exact hx _ _
 |cons x rest ihl =>
  intro pre w h hm hl
  rw [aB]
  have hlen:pre.length+1<=100000:=by rw [h] at hn; simp at hn; omega
  have hw:IntKind.i64.wrap ((pre.length:Int)+1)=((pre++[x]).length:Int):=by rw [bD (by omega) (by omega)]; exact bK
  rw [List.foldl_cons]
  have hg:=oH ho f x.ino w.2
  have q:=QQ (L:=[.cells [],.cells (aw n),.cells (cI x)]) (ih x (by rw [h]; simp) w.2 hm hl)
  have hi1:=ihl (pre++[x]) ((dy all f x.ino w.2).1&&w.1,(dy all f x.ino w.2).2) (by rw [h]; simp) (by have:=hg.SN; simp only; omega) (by have:=hg.len; simp only; omega)
  generalize dy all f x.ino w.2=v at q hi1 ⊢
  clear hg ih
  simp only [fC,lJ,aw,cI,List.length_append,List.length_cons,List.length_nil,Nat.zero_add,List.cons_append,List.nil_append] at hi1 q
  obtain ⟨b,st'⟩:=v
  cases b<;>simp only [fC,lJ,Ej,cC h,cn h,aw,cI,q,hw,MB,ZT,Bool.true_and,Bool.false_and,EW,simprocAttr] at hi1 ⊢
  ·exact hi1
  ·exact hi1
def DM (z x:ae):ja z true (some x) = .tuple [x,.bool true]:=rfl
def KB (z:ae):ja z true none = .tuple [z,.bool false]:=rfl
def abe {all:AM Node} (ho:Own all) (hb:∀k n,bR all k=some n->n.av.length<=100000):∀(f:Nat) (ino:Int) (st:VS),missing all st.1<f->st.2.length+missing all st.1<=200000 ->
  ai aQ 157 [.int .i64 ino,.ptr 0 0,.ptr 1 0,.ptr 2 0,.ptr 3 0] (fC all st)=some (.bool (dy all f ino st).1,fC all (dy all f ino st).2):=by
 intro f
 induction f with
 |zero=>intro ino st h; omega
 |succ f ih =>
  intro ino st hm hl
  refine aq ?_
  rw [dy]
  have p1:=kR eU st.1 ino ()
  cases h0:bR st.1 ino with
  |some u =>
   simp only [Option.isSome_some,if_true]
   simp only [fC,lJ,z7,Ej,gP,DM,eU,mapOf.eq_1,h0,MB,ZT,EW,simprocAttr]
  |none =>
   simp only [Option.isSome_none,Bool.false_eq_true,if_false]
   have hp:=jT all st.1 ino
   cases hn:bR all ino with
   |none =>
    simp only [fC,lJ,z7,Ej,gP,DM,KB,mapOf.eq_1,h0,hn,p1,Option.map_none,Option.isSome_none,Bool.not_false,if_true,MB,ZT,EW,simprocAttr]
   |some n =>
    have hlt:=vA hn h0
    have r1:bB (st.2.length+1) 80=True:=dj (by omega) (by omega)
    have hl1:=NY ho (hb ino n hn) (f:=f) (k:=[.block 0,.seq Tj]) (R:=fun w=>some (.bool w.1,fC all w.2)) (fun e he st h1 h2=>ih e.ino st h1 h2) (fun w e=>by simp only [fC,lJ,Ej,aw,MB,ZT,EW,simprocAttr]) n.av [] (true,(fP st.1 ino (),st.2++[n])) rfl (by simp only; omega) (by simp; omega)
    clear ih
    simp only [fC,lJ,aw,List.length_nil,List.cons_append,List.nil_append,List.length_append,List.length_cons,Nat.zero_add,List.map_append,List.map_cons,List.map_nil,aX] at hl1
    simp only [fC,lJ,z7,Ej,gP,DM,KB,mapOf.eq_1,h0,hn,p1,r1,aw,aX,Option.map_none,Option.isSome_some,Option.getD_some,Bool.not_true,Bool.false_eq_true,if_false,EW,simprocAttr]
    exact hl1
end
section
def yu (x:Node):List Node->List Node
 | []=>[x]
 |y::r=>if x.ino<y.ino then x::y::r else y::yu x r
def tV:List Node->List Node
 | []=>[]
 |x::r=>yu x (tV r)
def ac6 (n:Node):kj 0 (aX n)=n.ino:=rfl
def xf (x:Node):∀l:List Node,vl 0 (aX x) (l.map aX)=(yu x l).map aX
 | []=>rfl
 |y::r=>by
  simp only [List.map_cons,vl,yu,ac6]
  by_cases h:x.ino<y.ino
  ·simp only [h,if_true,List.map_cons]
  ·simp only [h,if_false,List.map_cons,xf x r]
def vW:∀l:List Node,je 0 (l.map aX)=(tV l).map aX
 | []=>rfl
 |x::r=>by simp only [List.map_cons,je,tV,vW r,xf]
def fQ (a:Int) (m:AM Node) (p:jK):AM Node:=if (decide (p.nU<=a)&&decide (a<p.CZ))=true then fP m p.node.ino p.node else m
def kS (a:Int):List Node->List Int->AM Node->AM Node
 |n::r,y::ys,m=>kS a r ys (if decide (y<=a)=true then fP m n.ino n else m)
 |_,_,m=>m
def pO (s:eu) (a:Int):AM Node:=kS a s.now.nodes s.since (s.cv.foldl (fQ a) [])
structure py (m:AM Node):Prop where
 own:Own m
 av:∀k n,bR m k=some n->n.av.length<=100000
def py.put {m:AM Node} (h:py m) (n:Node) (hn:n.av.length<=100000):py (fP m n.ino n) where
 own:=fun k x hx=>by
  rw [fO] at hx
  split at hx
  ·rename_i e; injection hx with hx; rw [<-hx,e]
  ·exact h.own k x hx
 av:=fun k x hx=>by
  rw [fO] at hx
  split at hx
  ·injection hx with hx; rw [<-hx]; exact hn
  ·exact h.av k x hx
def ot (a:Int):∀(l:List jK) (m:AM Node),py m->(∀p,p∈l->p.node.av.length<=100000)->py (l.foldl (fQ a) m)/\(l.foldl (fQ a) m).length<=m.length+l.length
 | [],m,h,_=>⟨h,Nat.le_refl _⟩
 |p::r,m,h,hp=>by
  rw [List.foldl_cons]
  have h1:py (fQ a m p)/\(fQ a m p).length<=m.length+1:=by
   unfold fQ
   split
   ·exact ⟨h.put _ (hp p (by simp)),vB _ _ _⟩
   ·exact ⟨h,by omega⟩
  obtain ⟨g1,g2⟩:=ot a r _ h1.1 (fun q hq=>hp q (by simp [hq]))
  exact ⟨g1,by simp only [List.length_cons]; omega⟩
def sH (a:Int):∀(l:List Node) (y:List Int) (m:AM Node),py m->(∀p,p∈l->p.av.length<=100000)->py (kS a l y m)/\(kS a l y m).length<=m.length+l.length
 | [],_,m,h,_=>by unfold kS; exact ⟨h,Nat.le_refl _⟩
 |n::r,[],m,h,_=>by unfold kS; exact ⟨h,by omega⟩
 |n::r,y::ys,m,h,hp=>by
  rw [kS]
  have h1:py (if decide (y<=a)=true then fP m n.ino n else m)/\(if decide (y<=a)=true then fP m n.ino n else m).length<=m.length+1:=by
   split
   ·exact ⟨h.put _ (hp n (by simp)),vB _ _ _⟩
   ·exact ⟨h,by omega⟩
  obtain ⟨g1,g2⟩:=sH a r ys _ h1.1 (fun q hq=>hp q (by simp [hq]))
  exact ⟨g1,by simp only [List.length_cons]; omega⟩
def nb (m:AM Node) (met:AM Unit):missing m met<=m.length:=List.length_filter_le _ _
def oG (s:eu) (x:fx):Bool×VS:=dy (pO s x.at') 200001 x.ino ([],[])
def vi (s:eu) (x:fx):List Node:=tV (oG s x).2.2
attribute [local irreducible] cJ cE gD gK bG kr ai ak aV aF
def rh (s:eu) (x:fx) (m:AM Node):ag:=[.cells (a8 s),.cells (dL x),.map (tw m) (iV aX m),.cells [.cz 2]]
def Oo {s:eu} {x:fx} (hn:s.cv.length<=100000) {k:List K} {fin:AM Node} {r:Option (ae×ag)}
  (hx:∀e,kr (ai aQ) [.tmp 4,.tmp 5] 0 k ⟨.exit 0,(2,.ptr 0 0)::(3,.ptr 1 0)::(6,.ptr 3 0)::e,rh s x fin⟩=r) :
  ∀(l pre:List jK) (m:AM Node),s.cv=pre++l->l.foldl (fQ x.at') m=fin->cJ (ai aQ) [.tmp 4,.tmp 5] 0 k (.loop [2,3,6,17,18,19] SE) [(2,.ptr 0 0),(3,.ptr 1 0),(6,.ptr 3 0),(17,mX s.cv),(18,.int .i64 s.cv.length),(19,.int .i64 pre.length)] (rh s x m)=r:=by
 intro l
 induction l with
 |nil =>
  intro pre m h hfin
  rw [aB]
  rw [List.foldl_nil] at hfin
  subst hfin
  simp only [rh,Mp,c9 h,EW,simprocAttr] at hx ⊢
  exact hx _
 |cons p rest ih =>
  intro pre m h hfin
  rw [aB]
  have hlen:pre.length+1<=100000:=by rw [h] at hn; simp at hn; omega
  have hw:IntKind.i64.wrap ((pre.length:Int)+1)=((pre++[p]).length:Int):=by rw [bD (by omega) (by omega)]; exact bK
  rw [List.foldl_cons] at hfin
  have hi1:=ih (pre++[p]) (fQ x.at' m p) (by rw [h]; simp) hfin
  clear hfin
  have hput:=kR aX m p.node.ino p.node
  unfold fQ at hi1
  simp only [rh,a8,dL,aX,aw,List.length_append,List.length_cons,List.length_nil,Nat.zero_add] at hi1 hput
  simp only [rh,Mp,cC h,cn h,a8,dL,iw,aw,EW,simprocAttr]
  cases h1:decide (p.nU<=x.at')<;>cases h2:decide (x.at'<p.CZ)<;>simp only [h1,h2,Mp,hw,hput,mapOf.eq_1,Bool.and_self,Bool.and_true,Bool.and_false,Bool.false_eq_true,if_true,if_false,MB,EW,simprocAttr] at hi1 ⊢
  all_goals exact hi1
def Oq {s:eu} {x:fx} (hn:s.now.nodes.length<=100000) (hl:s.since.length=s.now.nodes.length) {k:List K} {fin:AM Node} {r:Option (ae×ag)}
  (hx:∀e,kr (ai aQ) [.tmp 4,.tmp 5] 0 k ⟨.exit 2,(2,.ptr 0 0)::(3,.ptr 1 0)::(6,.ptr 3 0)::e,rh s x fin⟩=r) :
  ∀(l pre:List Node) (y ypre:List Int) (m:AM Node),s.now.nodes=pre++l->s.since=ypre++y->ypre.length=pre.length->kS x.at' l y m=fin->cJ (ai aQ) [.tmp 4,.tmp 5] 0 k (.loop [2,3,6,44,45,46] SF) [(2,.ptr 0 0),(3,.ptr 1 0),(6,.ptr 3 0),(44,az s.now.nodes),(45,.int .i64 s.now.nodes.length),(46,.int .i64 pre.length)] (rh s x m)=r:=by
 intro l
 induction l with
 |nil =>
  intro pre y ypre m h hy hyl hfin
  rw [aB]
  have hg:kS x.at' [] y m=m:=by unfold kS; rfl
  rw [hg] at hfin
  subst hfin
  simp only [rh,Mp,c9 h,EW,simprocAttr] at hx ⊢
  exact hx _
 |cons n rest ih =>
  intro pre y ypre m h hy hyl hfin
  rw [aB]
  have hlen:pre.length+1<=100000:=by rw [h] at hn; simp at hn; omega
  have hw:IntKind.i64.wrap ((pre.length:Int)+1)=((pre++[n]).length:Int):=by rw [bD (by omega) (by omega)]; exact bK
  cases y with
  |nil=>have h1:=congrArg List.length h; have h2:=congrArg List.length hy; simp at h1 h2; omega
  |cons c y =>
   have hxa:s.since[pre.length]?=some c:=by rw [hy,<-hyl]; simp
   have hi1:=ih (pre++[n]) y (ypre++[c]) (if decide (c<=x.at')=true then fP m n.ino n else m) (by rw [h]; simp) (by rw [hy]; simp) (by simp [hyl]) (by rw [<-hfin,kS])
   clear hfin
   have hput:=kR aX m n.ino n
   simp only [rh,a8,dL,aX,aw,List.length_append,List.length_cons,List.length_nil,Nat.zero_add] at hi1 hput
   simp only [rh,Mp,cC h,cn h,a8,dL,aw,hxa,EW,simprocAttr]
   cases h1:decide (c<=x.at')<;>simp only [h1,Mp,hw,hput,mapOf.eq_1,Bool.false_eq_true,if_true,if_false,MB,EW,simprocAttr] at hi1 ⊢
   all_goals exact hi1
def wv (s:eu) (x:fx) (all:AM Node) (st:VS):ag:=[.cells (a8 s),.cells (dL x),.map (tw all) (iV aX all),.cells [.cz 2],.map (tw st.1) (iV eU st.1),.cells [.cz 4],.arr 6 st.2.length (st.2.map aX),.cells [.aZ 6 st.2.length 6 0 st.2.length],.cells [.func 157 [.ptr 5 0,.ptr 3 0,.ptr 7 0,.ptr 8 0]]]
end
section
def yk {α:Type}:tw ([]:AM α)=[]:=rfl
def yl {α:Type} (enc:α->ae):iV enc ([]:AM α)=[]:=rfl
def VN {s:eu} {x:fx} {all:AM Node} {ino:Int} {st':VS} {b:Bool} (h:ai aQ 157 [.int .i64 ino,.ptr 0 0,.ptr 1 0,.ptr 2 0,.ptr 3 0] (fC all ([],[]))=some (.bool b,fC all st')) :
  ak (ai aQ) 157 [.int .i64 ino,.ptr 5 0,.ptr 3 0,.ptr 7 0,.ptr 8 0] (wv s x all ([],[]))=some (.bool b,wv s x all st'):=by
 have i1:iE (wv s x all ([],[])) [5,3,7,8]=[4,2,6,5,3,7,8]:=rfl
 have i2:iE (wv s x all ([],[])) [5,3,7,8,4,2,6]=[4,2,6,5,3,7,8]:=by
  show [4,2,6,5,3,7,8]++([]++((iV aX all).flatMap ae.ids++([]++[])))=_
  rw [WK]; rfl
 have e0:dU [] [5,3,7,8]=[5,3,7,8]:=rfl
 have e1:dU [5,3,7,8] [4,2,6,5,3,7,8]=[5,3,7,8,4,2,6]:=rfl
 have e2:dU [5,3,7,8,4,2,6] [4,2,6,5,3,7,8]=[5,3,7,8,4,2,6]:=rfl
 have hr:reach (wv s x all ([],[])) [5,3,7,8]=[5,3,7,8,4,2,6]/\ep (wv s x all ([],[])) [5,3,7,8,4,2,6]=[5,3,7,8,4,2,6]:=by
  simp only [reach,ep,e0,i1,e1,i2,e2,and_self]
 have hp:dv (wv s x all ([],[])) (cM [5,3,7,8,4,2,6]) [5,3,7,8,4,2,6]=some (fC all ([],[])):=by
  simp only [wv,dv,nth,aK.flat,flN,flU,aE,if_true,aK.ik,ZY,ZZ]
  rfl
 refine eh (ids:=[5,3,7,8,4,2,6]) rfl hr.1 hp hr.2 rfl h rfl rfl (Py all st') rfl ?_
 simp only [fC,wv,eJ,aK.ik,ZY,ZZ,cS]
 rfl
def Zp (n:Nat) (xs:List ae) (b0 b1 b2 b3 b4 b5 b7 b8:aK):dv [b0,b1,b2,b3,b4,b5,.arr 6 n xs,b7,b8] (cM [6]) [6]=some [.arr 6 n xs]:=rfl
def FV {l:List Node} (hl:l.length<=1000000) (hn:(l.map Node.ino).Nodup):ai aQ 158 [.aZ 0 l.length 6 0 l.length,.func 159 []] [.arr 6 l.length (l.map aX)]=some (.tuple [],[.arr 6 l.length ((tV l).map aX)]):=by
 refine bz (g:=lF 6 0 159) rfl ?_
 unfold lF
 simp only [nth]
 have ht:(l.map aX).take l.length=l.map aX:=List.take_of_length_le (by simp)
 have hd:(l.map aX).drop l.length=[]:=List.drop_eq_nil_of_le (by simp)
 rw [ht,hd,vW,List.append_nil]
 rw [aM]
 ·rfl
 ·refine ⟨trivial,trivial,trivial,by simp,trivial,by omega,?_,?_⟩
  ·intro x hx
   obtain ⟨n,_,rfl⟩:=List.mem_map.1 hx
   rfl
  ·rw [List.map_map]
   exact hn
attribute [local irreducible] cJ cE gD gK bG kr ai ak aV aF
def Ar (x:Node):∀l,(yu x l).length=l.length+1
 | []=>rfl
 |y::r=>by simp only [yu]; split<;>simp [Ar x r]
def sU:∀l,(tV l).length=l.length
 | []=>rfl
 |x::r=>by simp [tV,Ar,sU r]
def c84 (s:eu) (x:fx) (hp:s.cv.length<=100000) (hpe:∀p,p∈s.cv->p.node.av.length<=100000) (hz:Sz 200 s.now) (hl:s.since.length=s.now.nodes.length) :
  ai aQ 84 [iy s,gZ x] []=some (.tuple [az (vi s x),.bool (oG s x).1],[]):=by
 refine aq ?_
 obtain ⟨g1,g2⟩:=ot x.at' s.cv [] ⟨fun k n h=>(by cases h),fun k n h=>(by cases h)⟩ hpe
 obtain ⟨g3,g4⟩:=sH x.at' s.now.nodes s.since (s.cv.foldl (fQ x.at') []) g1 (fun n hn=>by have:=hz.av n hn; omega)
 have hall:(pO s x.at').length<=100200:=by have:=hz.nodes; simp at g2; unfold pO; omega
 have hv:=abe (all:=pO s x.at') g3.own g3.av 200001 x.ino ([],[]) (by have:=nb (pO s x.at') []; simp only; omega) (by have:=nb (pO s x.at') []; simp only [List.length_nil]; omega)
 have hg:=oH (all:=pO s x.at') g3.own 200001 x.ino ([],[])
 have hnd:=(hg.nodup (by simp) (by simp)).1
 have hlen:(oG s x).2.2.length<=100200:=by have:=hg.len; have h2:=nb (pO s x.at') []; simp only [List.length_nil] at this; unfold oG; omega
 have q:=VN (s:=s) (x:=x) hv
 have hs:=FV (l:=(oG s x).2.2) (by omega) hnd
 have q2:∀b0 b1 b2 b3 b4 b5 b7 b8,ak (ai aQ) 158 [.aZ 6 (oG s x).2.2.length 6 0 (oG s x).2.2.length,.func 159 []] [b0,b1,b2,b3,b4,b5,.arr 6 (oG s x).2.2.length ((oG s x).2.2.map aX),b7,b8] =
   some (.tuple [],[b0,b1,b2,b3,b4,b5,.arr 6 (oG s x).2.2.length ((vi s x).map aX),b7,b8]):=fun b0 b1 b2 b3 b4 b5 b7 b8 =>
  eh (ids:=[6]) rfl rfl (Zp _ _ ..) rfl rfl hs rfl rfl rfl rfl rfl
 have ht:List.take (oG s x).2.2.length ((vi s x).map aX)=(vi s x).map aX:=List.take_of_length_le (by simp [vi,sU])
 have l2:=Oq (s:=s) (x:=x) (by have:=hz.nodes; omega) hl (fin:=pO s x.at') (r:=some (.tuple [az (vi s x),.bool (oG s x).1],[])) (k:=[.block 2,.seq TA]) (fun e=>by
  clear g1 g2 g3 g4 hv hg hnd hs
  have hvv:dy (pO s x.at') 200001 x.ino ([],[])=oG s x:=rfl
  rw [hvv] at q
  generalize oG s x=v at q q2 ht hlen ⊢
  obtain ⟨b,met,out⟩:=v
  simp only [wv,a8,dL,List.length_nil,List.map_nil,yk,yl] at q q2 ht
  simp only [rh,a8,dL,Mp,q,q2,ht,EW,simprocAttr]) s.now.nodes [] s.since [] (s.cv.foldl (fQ x.at') []) rfl rfl rfl rfl
 have l1:=Oo (s:=s) (x:=x) hp (fin:=s.cv.foldl (fQ x.at') []) (r:=some (.tuple [az (vi s x),.bool (oG s x).1],[])) (k:=[.block 0,.seq TB]) (fun e=>by
  simp only [rh,a8,dL,List.length_nil] at l2
  simp only [rh,a8,dL,Mp,EW,simprocAttr]
  exact l2) s.cv [] [] rfl rfl
 simp only [rh,a8,dL,List.length_nil,yk,yl] at l1
 simp only [Rh,Mp,iy,gZ,a8,dL,EW,simprocAttr]
 exact l1
def k84 (s:eu) (x:fx) (hp:s.cv.length<=100000) (hpe:∀p,p∈s.cv->p.node.av.length<=100000) (hz:Sz 200 s.now) (hl:s.since.length=s.now.nodes.length) (M:ag) :
  ak (ai aQ) 84 [.agg (a8 s),.agg (dL x)] M=some (.tuple [az (vi s x),.bool (oG s x).1],M):=cO (c84 s x hp hpe hz hl) M
def ue (s:eu) (id:Int):Int×List Node×Int:=match s.taken.find? (fun x=>x.id==id) with
 |some x=>(x.ino,vi s x,0)
 |none=>(0,[],100)
def NV {s:eu} {id:Int} (hk:s.taken.length<=100000) (hp:s.cv.length<=100000) (hpe:∀p,p∈s.cv->p.node.av.length<=100000) (hz:Sz 200 s.now) (hl:s.since.length=s.now.nodes.length) :
  ∀(l pre:List fx),s.taken=pre++l->cJ (ai aQ) [.tmp 4,.tmp 5,.tmp 6] 0 [.block 0,.seq Th] (.loop [1,2,12,13,14] Nv) [(1,.int .i64 id),(2,.ptr 0 0),(12,fb s.taken),(13,.int .i64 s.taken.length),(14,.int .i64 pre.length)] [.cells (a8 s)] =
   some (match l.find? (fun x=>x.id==id) with|some x => .tuple [.int .i64 x.ino,az (vi s x),.int .i64 0]|none => .tuple [.int .i64 0,az [],.int .i64 100],[]):=by
 intro l
 induction l with
 |nil =>
  intro pre h
  rw [aB]
  simp only [Md,c9 h,List.find?_nil,a8,EW,simprocAttr]
  rfl
 |cons x rest ih =>
  intro pre h
  rw [aB]
  have hlen:pre.length+1<=100000:=by rw [h] at hk; simp at hk; omega
  have hw:IntKind.i64.wrap ((pre.length:Int)+1)=((pre++[x]).length:Int):=by rw [bD (by omega) (by omega)]; exact bK
  have hi1:=ih (pre++[x]) (by rw [h]; simp)
  have q:=k84 s x hp hpe hz hl
  simp only [List.length_append,List.length_cons,List.length_nil,Nat.zero_add,a8,dL] at hi1 q
  rw [List.find?_cons]
  simp only [Md,cC h,cn h,a8,dL,EW,simprocAttr]
  cases he:x.id==id<;>simp only [Md,he,q,hw,EW,simprocAttr]
  exact hi1
def aa6 (s:eu) (id:Int) (hk:s.taken.length<=100000) (hp:s.cv.length<=100000) (hpe:∀p,p∈s.cv->p.node.av.length<=100000) (hz:Sz 200 s.now) (hl:s.since.length=s.now.nodes.length) :
  ai aQ 143 [iy s,.int .i64 id] []=some (.tuple [.int .i64 (ue s id).1,az (ue s id).2.1,.int .i64 (ue s id).2.2],[]):=by
 refine aq ?_
 have hq:=NV (id:=id) hk hp hpe hz hl s.taken [] rfl
 simp only [a8,List.length_nil] at hq
 simp only [Hn,Md,iy,a8,EW,simprocAttr]
 refine Eq.trans hq ?_
 unfold ue
 split<;>rfl
def acE (s:eu) (id:Int) (hk:s.taken.length<=100000) (hp:s.cv.length<=100000) (hpe:∀p,p∈s.cv->p.node.av.length<=100000) (hz:Sz 200 s.now) (hl:s.since.length=s.now.nodes.length) (M:ag) :
  ak (ai aQ) 143 [.agg (a8 s),.int .i64 id] M=some (.tuple [.int .i64 (ue s id).1,az (ue s id).2.1,.int .i64 (ue s id).2.2],M):=cO (aa6 s id hk hp hpe hz hl) M
end
noncomputable def ko:qm:=⟨fun f=>if f=201 then some z8 else code f,fT⟩
def OY:nL Tryz.prog ko:=by
 refine ⟨fun f fn h=>?_,DX⟩
 simp only [ko] at h
 split at h
 ·rename_i hf
  injection h with h; subst h; subst hf
  exact ⟨_,_,Tryz.func201,Yu⟩
 ·exact Dl f fn h
def TN:hU Tryz.prog (ai ko):=lq (by kernel_rfl) OY
def Bl:∀n,mR (dz aQ n) (dz ko n)
 |0,f,a,M,x,h=>by rw [dz] at h ⊢; exact h
 |n+1,f,a,M,x,h=>by
  rw [dz] at h ⊢
  have hp:ko.fT f=aQ.fT f:=rfl
  rw [hp]
  split at h
  ·rename_i g hg; exact h
  ·rename_i hg
   split at h
   ·cases h
   ·rename_i fn hfn
    have hc:ko.code f=some fn:=by
     simp only [ko]
     split
     ·rename_i hf; subst hf; cases hfn
     ·exact hfn
    rw [hc]
    split at h
    ·rename_i hl
     simp only [if_pos hl]
     obtain ⟨o,ho,h⟩:=au h
     rw [dJ (Bl n) _ ho,aE]
     exact h
    ·cases h
def O0 {f:Nat} {a:List ae} {M:ag} {x:ae×ag} (h:ai aQ f a M=some x):ai ko f a M=some x:=by
 obtain ⟨n,hn⟩:=na h
 exact gN (fun n x h=>jo ko n f a M x h) (Bl n f a M x hn)
def lW {f:Nat} {vs:List ae} {M:ag} {x:ae×ag} (h:ak (ai aQ) f vs M=some x):ak (ai ko) f vs M=some x:=by
 obtain ⟨a,B,y,h1,h2⟩:=gL h
 exact h2 _ (O0 h1)
def rf (t:Tree) (q:bp):Bool := !(find t.nodes q.ino).isSome
def eM (n:bp):(eL n).all ae.c8=true:=rfl
def Tc (xs:List ae) (z:Tree):dv [.arr 3 0 xs,.cells (ar z)] (cM [0,1]) [0,1]=some [.arr 3 0 xs,.cells (ar z)]:=rfl
section
def Td (z:Tree):dv [.cells (ar z)] (cM [0]) [0]=some [.cells (ar z)]:=rfl
section
attribute [local irreducible] cJ cE gD gK bG kr ai ak aV aF
def abu (q:bp) (t:Tree) (ht:Rt t):ai ko 203 [bA q,.ptr 0 0] [.cells (ar t)]=some (.bool (rf t q),[.cells (ar t)]):=by
 refine aq ?_
 have q1:=fun M=>lW (Ma t q.ino ht.small ht.ft M)
 unfold rf
 simp only [aw] at q1
 simp only [HJ,aac,bA,eL,ar,q1,aw,wc,eM,EW,simprocAttr]
def W0 (q:bp) (t:Tree) (ht:Rt t) (p:Nat) (M:ag) (hM:nth M p=some (.cells (ar t))):ak (ai ko) 203 [.agg (eL q),.ptr p 0] M=some (.bool (rf t q),M) :=
 oV (f:=203) (p:=p) (vs:=[.agg (eL q)]) hM (abu q t ht) rfl rfl rfl rfl rfl rfl rfl rfl rfl
def su (z:Tree):List bp->Nat->Int
 | [],_ => -1
 |e::r,i=>if rf z e=true then (i:Int) else su z r (i+1)
def Oe {xs:List bp} {z:Tree} (hz:Rt z) (hn:xs.length<=100000) {k:List K} {R:Int->Option (ae×ag)}
  (hx:∀e,kr (ai ko) [.tmp 4] 2 k ⟨.exit 0,e,[.arr 3 0 (xs.map bA),.cells (ar z)]⟩=R (-1)) (hr:∀(i:Nat),kr (ai ko) [.tmp 4] 2 k ⟨.ret,[(4,.int .i64 i)],[.arr 3 0 (xs.map bA),.cells (ar z)]⟩=R i) :
  ∀(l pre:List bp),xs=pre++l->cJ (ai ko) [.tmp 4] 2 k (.loop [0,1,7,8] NK) [(0,.aZ 0 0 3 0 xs.length),(1,.func 203 [.ptr 1 0]),(7,.int .i64 xs.length),(8,.int .i64 pre.length)] [.arr 3 0 (xs.map bA),.cells (ar z)]=R (su z l pre.length):=by
 intro l
 induction l with
 |nil =>
  intro pre h
  rw [aB]
  simp only [x8,c9 h,wc,eM,EW,simprocAttr]
  exact hx _
 |cons n rest ih =>
  intro pre h
  rw [aB]
  have hlen:pre.length+1<=100000:=by rw [h] at hn; simp at hn; omega
  have hw:IntKind.i64.wrap ((pre.length:Int)+1)=((pre++[n]).length:Int):=by rw [bD (by omega) (by omega)]; exact bK
  have hi:=ih (pre++[n]) (by rw [h]; simp)
  simp only [List.length_append,List.length_cons,List.length_nil] at hi
  have q59:=fun e=>W0 e z hz 1 [.arr 3 0 (xs.map bA),.cells (ar z)] rfl
  have hlt:((pre.length:Int)<((xs.length-0:Nat):Int))=True:=by simp only [eq_iff_iff,iff_true]; rw [h]; simp; omega
  rw [su]
  simp only [x8,cC h,cn h,Z1,Z0,q59,hlt,wc,eM,EW,simprocAttr]
  refine aC (fun hb=>?_) (fun hb=>?_)
  ·simp only [x8,hb,wc,eM,EW,simprocAttr]
   exact hr _
  ·simp only [x8,hb,hw,Bool.false_eq_true,wc,eM,EW,simprocAttr]
   exact hi
def abX (xs:List bp) (z:Tree) (hz:Rt z) (hn:xs.length<=100000):ai ko 259 [.aZ 0 0 3 0 xs.length,.func 203 [.ptr 1 0]] [.arr 3 0 (xs.map bA),.cells (ar z)]=some (.int .i64 (su z xs 0),[.arr 3 0 (xs.map bA),.cells (ar z)]):=by
 refine aq ?_
 simp only [Du,x8,Nat.sub_zero,wc,eM,EW,simprocAttr]
 exact Oe hz hn (R:=fun i=>some (.int .i64 i,[.arr 3 0 (xs.map bA),.cells (ar z)])) (fun e=>by simp only [x8,wc,eM,EW,simprocAttr]) (fun i=>by simp only [x8,wc,eM,EW,simprocAttr]) xs [] rfl
def acU (xs:List bp) (z:Tree) (hz:Rt z) (hn:xs.length<=100000):ak (ai ko) 259 [.aZ 0 0 3 0 xs.length,.func 203 [.ptr 1 0]] [.arr 3 0 (xs.map bA),.cells (ar z)]=some (.int .i64 (su z xs 0),[.arr 3 0 (xs.map bA),.cells (ar z)]) :=
 eh (ids:=[0,1]) rfl rfl (Tc ..) rfl rfl (abX xs z hz hn) rfl rfl rfl rfl rfl
def dE (z:Tree) (l:List bp):List bp:=l.filter fun e => !rf z e
def p7 (z:Tree) (x:bp) (l:List bp):dE z (x::l)=if rf z x=true then dE z l else x::dE z l:=by
 unfold dE
 rw [List.filter_cons]
 cases rf z x<;>rfl
def LV (xs:List bp) (b:Nat) (o n:bp) (h:xs[b]?=some o):(cS (xs.map bA) b (putCells (bA o) 0 (eL n)))=(xs.set b n).map bA:=by
 have:putCells (bA o) 0 (eL n)=bA n:=rfl
 rw [this,cd,List.map_set]
def Tf (x:bp):(eL x).all ae.plainCell=true:=rfl
def N3 {z:Tree} (hz:Rt z) {N:Nat} (hN:N<=100000) {k:List K} {R:List bp->Nat->Option (ae×ag)}
  (hx:∀(A G:List bp) v q,A.length+G.length=N->G≠[]->kr (ai ko) [.tmp 4] 2 k ⟨.exit 0,[(0,.aZ 0 0 3 0 N),(1,.func 203 [.ptr 1 0]),(5,.int .i64 A.length),(6,v),(19,q)],[.arr 3 0 ((A++G).map bA),.cells (ar z)]⟩=R A G.length) :
  ∀(T A G:List bp),A.length+G.length+T.length=N->G≠[]->cJ (ai ko) [.tmp 4] 2 k (.loop [0,1,5,6] NB) [(0,.aZ 0 0 3 0 N),(1,.func 203 [.ptr 1 0]),(5,.int .i64 A.length),(6,.int .i64 ((A.length+G.length:Nat):Int))] [.arr 3 0 ((A++G++T).map bA),.cells (ar z)]=R (A++dE z T) (N-(A++dE z T).length):=by
 intro T
 induction T with
 |nil =>
  intro A G hl hg
  have hlt:(((A.length+G.length:Nat):Int)<((N-0:Nat):Int))=False:=by simp only [eq_iff_iff,iff_false]; simp at hl ⊢; omega
  have hk:dE z []=[]:=rfl
  have hgl:N-(A++dE z []).length=G.length:=by rw [hk]; simp at hl ⊢; omega
  rw [hgl,hk,List.append_nil,List.append_nil]
  rw [aB]
  simp only [x6,hlt,wc,eM,EW,simprocAttr]
  exact hx A G _ _ (by simpa using hl) hg
 |cons x T ih =>
  intro A G hl hg
  simp only [List.length_cons] at hl
  have hlt:(((A.length+G.length:Nat):Int)<((N-0:Nat):Int))=True:=by simp only [eq_iff_iff,iff_true]; omega
  have hnn:((0:Int)<=((A.length+G.length:Nat):Int))=True:=by simp only [eq_iff_iff,iff_true]; omega
  have hat:(A++G++x::T)[A.length+G.length]?=some x:=by
   rw [List.getElem?_append_right (by simp)]; simp
  have hw:IntKind.i64.wrap (((A.length+G.length:Nat):Int)+1)=((A.length+G.length+1:Nat):Int):=by rw [bD (by omega) (by omega)]; omega
  have hw1:IntKind.i64.wrap ((A.length:Int)+1)=((A.length+1:Nat):Int):=by rw [bD (by omega) (by omega)]; omega
  have q59:=fun e a b M=>W0 e z hz 1 (a :: .cells (ar z)::b::M) rfl
  obtain ⟨g,G',hG⟩:=List.exists_cons_of_ne_nil hg
  have hga:(A++G++x::T)[A.length]?=some g:=by rw [hG]; simp
  have hset:(A++G++x::T).set A.length x=(A++[x])++(G'++[x])++T:=by rw [hG]; simp
  have hlt2:((A.length:Int)<((N-0:Nat):Int))=True:=by simp only [eq_iff_iff,iff_true]; omega
  have h1:=ih (A++[x]) (G'++[x]) (by rw [hG] at hl; simp at hl ⊢; omega) (by simp)
  have h2:=ih A (G++[x]) (by simp; omega) (by simp)
  have hl1:(((A++[x]).length+(G'++[x]).length:Nat):Int)=((A.length+G.length+1:Nat):Int):=by rw [hG]; simp; omega
  have hl2:((A.length+(G++[x]).length:Nat):Int)=((A.length+G.length+1:Nat):Int):=by simp; omega
  have hl3:((A++[x]).length:Int)=((A.length+1:Nat):Int):=by simp
  have e2:A++(G++[x])++T=A++G++x::T:=by simp
  have e1:A++[x]++dE z T=A++x::dE z T:=by simp
  rw [hl1,hl3,e1] at h1
  rw [hl2,e2] at h2
  simp only [List.length_append,List.length_cons] at h1 h2
  have hput:=LV (A++G++x::T) A.length g x hga
  rw [hset] at hput
  rw [p7]
  rw [aB]
  simp only [x6,hlt,hnn,hat,Z1,Z0,Qo,q59,wc,eM,EW,simprocAttr]
  refine aC (fun hb=>?_) (fun hb=>?_)
  ·have hb':rf z x=false:=by simpa using hb
   simp only [x6,hb',hlt2,hga,hput,Z1,Z0,Tf,hw,hw1,Bool.false_eq_true,wc,eM,EW,simprocAttr]
   exact h1
  ·have hb':rf z x=true:=by simpa using hb
   simp only [x6,hb',hw,wc,eM,EW,simprocAttr]
   exact h2
def C7:bp:=⟨0,0,0⟩
def xa (z:Tree):∀(l:List bp) (i:Nat),su z l i = -1->dE z l=l
 | [],_,_=>rfl
 |x::l,i,h=>by
  rw [su] at h
  split at h
  ·omega
  ·rename_i hx
   rw [p7,if_neg hx,xa z l _ h]
def xc (z:Tree):∀(l:List bp) (i:Nat),su z l i ≠ -1->∃A x T,l=A++x::T/\su z l i=((i+A.length:Nat):Int)/\dE z l=A++dE z T
 | [],_,h=>absurd rfl h
 |x::l,i,h=>by
  rw [su] at h ⊢
  rw [p7]
  split
  ·rename_i hx; exact ⟨[],x,l,rfl,rfl,rfl⟩
  ·rename_i hx
   rw [if_neg hx] at h
   obtain ⟨A,y,T,h1,h2,h3⟩:=xc z l (i+1) h
   exact ⟨x::A,y,T,by rw [h1]; rfl,by rw [h2]; simp; omega,by rw [h3]; rfl⟩
def FX (m:Nat):ae:=if m=0 then .slice .sh [] else .aZ 0 0 3 0 m
def EG (A G:List bp):((A++G).map bA).take A.length++(List.replicate G.length (ae.agg [.int .i64 0,.int .i64 0,.int .i64 0])++((A++G).map bA).drop (A++G).length)=(A++List.replicate G.length C7).map bA:=by
 have h1:((A++G).map bA).take A.length=A.map bA:=by simp [List.take_append_of_le_length]
 have h2:((A++G).map bA).drop (A++G).length=[]:=by rw [List.drop_eq_nil_iff]; simp
 rw [h1,h2]
 simp [List.map_replicate]
 exact .inr rfl
def abt (xs:List bp) (z:Tree) (hz:Rt z) (hn:xs.length<=100000) (h0:xs≠[]):ai ko 201 [.aZ 0 0 3 0 xs.length,.func 203 [.ptr 1 0]] [.arr 3 0 (xs.map bA),.cells (ar z)] =
  some (FX (dE z xs).length,[.arr 3 0 ((dE z xs++List.replicate (xs.length-(dE z xs).length) C7).map bA),.cells (ar z)]):=by
 have q168:=acU xs z hz hn
 refine aq ?_
 by_cases hi:su z xs 0 = -1
 ·have hk:=xa z xs 0 hi
  have hb:(su z xs 0 == -1)=true:=by simpa using hi
  have hl:xs.length≠0:=fun hh=>h0 (List.length_eq_zero_iff.1 hh)
  rw [hk]
  simp only [z8,x6,q168,hb,wc,eM,EW,simprocAttr]
  simp [FX,hl]
 ·obtain ⟨A,x,T,h1,h2,h3⟩:=xc z xs 0 hi
  have hb:(su z xs 0 == -1)=false:=by simpa using hi
  simp only [Nat.zero_add] at h2
  have hlen:xs.length=A.length+(T.length+1):=by rw [h1]; simp
  have hw:IntKind.i64.wrap ((A.length:Int)+1)=((A.length+[x].length:Nat):Int):=by rw [bD (by omega) (by omega)]; simp
  have hlp:=fun k R hx=>N3 (z:=z) hz hn (k:=k) (R:=R) hx T A [x] (by simp; omega) (by simp)
  have e1:A++[x]++T=xs:=by rw [h1]; simp
  rw [e1] at hlp
  rw [h2] at hb q168
  rw [h3]
  simp only [z8,x6,q168,hb,hw,wc,eM,EW,simprocAttr]
  refine (hlp _ (fun A' g=>some (FX A'.length,[.arr 3 0 ((A'++List.replicate g C7).map bA),.cells (ar z)])) (fun A' G v q hl hg=>?_)).trans (by simp only [List.length_append])
  have hgl:G.length≠0:=fun hh=>hg (List.length_eq_zero_iff.1 hh)
  have b1:(((A'.length:Nat):Int)<=(xs.length:Int))=True:=by simp only [eq_iff_iff,iff_true]; omega
  have b2:(((A'.length:Nat):Int)==(xs.length:Int))=false:=by simp; omega
  have hcl:=EG A' G
  have hN:(A'++G).length=xs.length:=by simp; omega
  have hd:xs.length-A'.length=G.length:=by omega
  rw [hN] at hcl
  have hz0:Int.toNat ((0:Nat):Int)=0:=rfl
  have hb0:((0:Int)<=((A'.length:Nat):Int))=True:=by simp
  by_cases hA:A'.length=0
  ·have b3:((0:Int)==((A'.length:Nat):Int))=true:=by simp [hA]
   simp only [x6,bO,Nat.sub_zero,Int.le_refl,b1,b2,hd,hcl,b3,hz0,hb0,wc,eM,EW,simprocAttr]
   simp [FX,hA]
  ·have b3:((0:Int)==((A'.length:Nat):Int))=false:=by simp; omega
   simp only [x6,bO,Nat.sub_zero,Int.le_refl,b1,b2,hd,hcl,b3,hz0,hb0,wc,eM,EW,simprocAttr]
   simp [FX,hA]
end
def VL (z:Tree):ai ko 259 [.slice .sh [],.func 203 [.ptr 0 0]] [.cells (ar z)]=some (.int .i64 (-1),[.cells (ar z)]):=by
 refine aq ?_
 simp only [Du,x8,ar,wc,eM,EW,simprocAttr]
 rw [aB]
 have h0:((0:Int)<((0:Nat):Int))=False:=by simp
 simp only [x8,ar,h0,wc,eM,EW,simprocAttr]
def VD (z:Tree):ai ko 201 [.slice .sh [],.func 203 [.ptr 0 0]] [.cells (ar z)]=some (.slice .sh [],[.cells (ar z)]):=by
 have h11:((-1:Int) == -1)=true:=rfl
 have q:ak (ai ko) 259 [.slice .sh [],.func 203 [.ptr 0 0]] [.cells (ar z)]=some (.int .i64 (-1),[.cells (ar z)]):=eh (ids:=[0]) rfl rfl (Td z) rfl rfl (VL z) rfl rfl rfl rfl rfl
 refine aq ?_
 simp only [ar] at q
 simp only [z8,x6,ar,q,h11,wc,eM,EW,simprocAttr]
end
noncomputable def tM (args:List ae) (M:ag):Option (ae×ag):=aF (ai ko 201 args M) fun x=>aV (x.1.di=false) (some (x.1.mY x.2,kh x.2 x.1.ids))
def B1 {args:List ae} {M:ag} {x:ae×ag} (h:tM args M=some x):ba Tryz.prog 201 args M x:=by
 obtain ⟨y,h1,h2⟩:=au h
 obtain ⟨hp,h2⟩:=aP h2
 injection h2 with h2; subst h2
 exact wV (TN _ _ _ _ h1).2 hp
def FR (z:Tree):tM [.slice .sh [],.func 203 [.ptr 0 0]] [.cells (ar z)]=some (.slice .sh [],[.cells (ar z)]):=by
 unfold tM
 rw [VD,aE]
 exact aM rfl
def Still (b:aK):Prop:=(∀B M,b.back B M=b)/\b.flat=true/\(∀ρ,b.ik ρ=b)
def Lk (xs:List bp) (z:Tree) (hz:Rt z) (hn:xs.length<=100000) (h0:xs≠[]):∃b,Still b/\tM [.aZ 0 0 3 0 xs.length,.func 203 [.ptr 1 0]] [.arr 3 0 (xs.map bA),.cells (ar z)]=some (bC (dE z xs),[b,.cells (ar z)]):=by
 have h:=abt xs z hz hn h0
 unfold tM
 rw [h,aE]
 unfold FX
 by_cases hl:(dE z xs).length=0
 ·have h1:dE z xs=[]:=List.length_eq_zero_iff.1 hl
  refine ⟨.arr 3 0 ((dE z xs++List.replicate (xs.length-(dE z xs).length) C7).map bA),⟨fun _ _=>rfl,rfl,fun _=>rfl⟩,?_⟩
  rw [if_pos hl]
  refine (aM rfl).trans ?_
  rw [h1]
  rfl
 ·refine ⟨.tick 3 ((dE z xs++List.replicate (xs.length-(dE z xs).length) C7).map bA).length,⟨fun _ _=>rfl,rfl,fun _=>rfl⟩,?_⟩
  rw [if_neg hl]
  refine (aM rfl).trans ?_
  have ht:List.drop 0 (List.take (dE z xs).length ((dE z xs++List.replicate (xs.length-(dE z xs).length) C7).map bA))=(dE z xs).map bA:=by
   simp [List.take_append_of_le_length]
  show some (ae.slice .sh (List.drop 0 (List.take (dE z xs).length ((dE z xs++List.replicate (xs.length-(dE z xs).length) C7).map bA))),_)=_
  rw [ht]
  rfl
noncomputable def gv (T:qm) (f0:Nat) (g:List ae->ag->Option (ae×ag)):qm:=⟨T.code,fun f=>if f=f0 then some g else T.fT f⟩
def oJ {P:Program} {T:qm} (hT:nL P T) {f0:Nat} {g:List ae->ag->Option (ae×ag)} (he:fu P f0=true) (hg:∀ {args:List ae} {M:ag} {x:ae×ag},g args M=some x->ba P f0 args M x):nL P (gv T f0 g):=by
 refine ⟨hT.code,fun f g' h args M x hx=>?_⟩
 simp only [gv] at h
 split at h
 ·rename_i hf
  injection h with h; subst h; subst hf
  exact ⟨he,hg hx⟩
 ·exact hT.fT f g' h args M x hx
def rN {T:qm} {f0:Nat} {g:List ae->ag->Option (ae×ag)} (h1:T.code f0=none) (h2:T.fT f0=none):∀n,mR (dz T n) (dz (gv T f0 g) n)
 |0,f,a,M,x,h=>by
  by_cases hf:f=f0
  ·subst hf
   rw [dz,h2] at h
   cases h
  ·have hp:(gv T f0 g).fT f=T.fT f:=by simp [gv,hf]
   rw [dz] at h ⊢
   rw [hp]
   exact h
 |n+1,f,a,M,x,h=>by
  by_cases hf:f=f0
  ·subst hf
   rw [dz,h2,h1] at h
   cases h
  ·have hp:(gv T f0 g).fT f=T.fT f:=by simp [gv,hf]
   rw [dz] at h ⊢
   rw [hp]
   split at h
   ·rename_i g hg; exact h
   ·rename_i hg
    have hc:(gv T f0 g).code f=T.code f:=rfl
    rw [hc]
    split at h
    ·cases h
    ·rename_i fn hfn
     split at h
     ·rename_i hl
      simp only [if_pos hl]
      obtain ⟨o,ho,h⟩:=au h
      rw [dJ (rN h1 h2 n) _ ho,aE]
      exact h
     ·cases h
def oI {T:qm} {f0:Nat} {g:List ae->ag->Option (ae×ag)} (h1:T.code f0=none) (h2:T.fT f0=none) {f:Nat} {a:List ae} {M:ag} {x:ae×ag} (h:ai T f a M=some x):ai (gv T f0 g) f a M=some x:=by
 obtain ⟨n,hn⟩:=na h
 exact gN (fun n x h=>jo _ n f a M x h) (rN h1 h2 n f a M x hn)
noncomputable def ZJ:qm:=gv aQ 201 tM
def OZ:nL Tryz.prog ZJ:=oJ TQ (by kernel_rfl) (fun h=>B1 h)
noncomputable def bV:qm:=gv ZJ 144 vJ
def Eb:nL Tryz.prog bV:=oJ OZ (by kernel_rfl) (fun h=>F5 h)
def CW:hU Tryz.prog (ai bV):=lq (by kernel_rfl) Eb
def Ec {f:Nat} {a:List ae} {M:ag} {x:ae×ag} (h:ai aQ f a M=some x):ai bV f a M=some x:=oI rfl rfl (oI rfl rfl h)
def ZV {f:Nat} {a:List ae} {M:ag} {x:ae×ag} (h:ai aQ f a M=some x):ai bV f a M=some x:=Ec h
def lS {f:Nat} {vs:List ae} {M:ag} {x:ae×ag} (h:ak (ai aQ) f vs M=some x):ak (ai bV) f vs M=some x:=by
 obtain ⟨a,B,y,h1,h2⟩:=gL h
 exact h2 _ (Ec h1)
def RA (s:Bytes) (hs:s.length<=100000) (M:ag):ak (ai bV) 144 [.str s] M=some (.tuple [fN (cg s).1,.int .i64 (cg s).2],M):=by
 have h:ai bV 144 [.str s] []=some (.tuple [fN (cg s).1,.int .i64 (cg s).2],[]):=by
  refine bz (g:=vJ) rfl ?_
  unfold vJ
  simp only []
  rw [if_pos ⟨trivial,hs⟩]
 exact fj h rfl rfl rfl rfl rfl M
section
def qf {s:Bytes} (h:cD s=true):s.length<=32:=by
 unfold cD at h
 simp only [Bool.and_eq_true,Bool.not_eq_true',Bool.or_eq_false_iff,decide_eq_false_iff_not] at h
 omega
def Bj:∀(x:List (Bytes×Bool)) (n:Nat) (l:List Bytes),il x n=some l->n<=12->(∀s,s∈l->cD s=true)/\l.length+n<=12
 | [],n,l,h,hn=>by
  simp only [il,Option.some.injEq] at h
  subst h
  exact ⟨fun s hs=>by simp at hs,by simp; omega⟩
 |x::r,n,l,h,hn=>by
  rw [il] at h
  split at h
  ·cases h
  ·rename_i hb
   cases hr:il r (n+1) with
   |none=>rw [hr] at h; cases h
   |some k =>
    rw [hr] at h
    simp only [Option.map_some,Option.some.injEq] at h
    subst h
    have hb':wi x n=false:=by simpa using hb
    unfold wi at hb'
    simp only [Bool.or_eq_false_iff,Bool.not_eq_false',beq_eq_false_iff_ne] at hb'
    obtain ⟨g1,g2⟩:=Bj r (n+1) k hr (by omega)
    refine ⟨fun s hs=>?_,by simp; omega⟩
    rcases List.mem_cons.1 hs with h1|h1
    ·subst h1; exact hb'.1.2
    ·exact g1 s h1
def pd (s:Bytes):(∀x,x∈(cg s).1->cD x=true)/\(cg s).1.length<=12:=by
 unfold cg
 split
 ·exact ⟨fun s hs=>by simp at hs,by simp⟩
 ·split
  ·exact ⟨fun s hs=>by simp at hs,by simp⟩
  ·exact ⟨fun s hs=>by simp at hs,by simp⟩
  ·rename_i l hl
   obtain ⟨g1,g2⟩:=Bj _ 0 _ hl (by omega)
   exact ⟨g1,by omega⟩
def vY:∀l:List Bytes,sX (l.map ae.str)=some l
 | []=>rfl
 |s::r=>by
  show aF (sX (r.map ae.str)) (fun l=>some (s::l))=_
  rw [vY r]; rfl
def vn (l:List Bytes) (h:∀x,x∈l->cD x=true):(Lib.join l [47]).length<=33*l.length:=by
 induction l with
 |nil=>simp [Lib.join]
 |cons a r ih =>
  have h1:=qf (h a (by simp))
  have h2:=ih (fun x hx=>h x (by simp [hx]))
  cases r with
  |nil=>simp [Lib.join]; omega
  |cons b r=>simp [Lib.join] at h2 ⊢; omega
def xh (l:List Bytes):Bytes:=if ((l.length:Int)==0)=true then [47] else [47]++Lib.join l [47]
def Fh (l:List Bytes) (h:∀x,x∈l->cD x=true) (hl:l.length<=12):(xh l).length<=1000:=by
 unfold xh
 have:=vn l h
 split<;>simp<;>omega
def ac0 (l:List Bytes) (h:∀x,x∈l->cD x=true) (hl:l.length<=12) (M:ag):ak (ai aQ) 289 [fN l,.str [47]] M=some (.str (Lib.join l [47]),M):=by
 have hq:ai aQ 289 [fN l,.str [47]] []=some (.str (Lib.join l [47]),[]):=by
  refine bz (g:=AU) rfl ?_
  unfold AU
  simp only []
  rw [vY,aE,if_pos]
  have:=vn l h
  omega
 exact fj hq rfl rfl rfl rfl rfl M
attribute [local irreducible] cJ cE gD gK bG kr ai ak aV aF
def abU (l:List Bytes) (h:∀x,x∈l->cD x=true) (hl:l.length<=12):ai aQ 253 [fN l] []=some (.str (xh l),[]):=by
 refine aq ?_
 have q:=ac0 l h hl
 have hm:(IntKind.i64.max<((1+(Lib.join l [47]).length:Nat):Int))=False:=max_lt _ (by have:=vn l h; omega)
 unfold xh
 simp only [H9,Uh,q,EW,simprocAttr]
 cases h0:(l.length:Int)==0<;>simp only [Uh,h0,Bool.false_eq_true,if_true,if_false,q,hm,EW,simprocAttr]
def acT (l:List Bytes) (h:∀x,x∈l->cD x=true) (hl:l.length<=12) (M:ag):ak (ai aQ) 253 [fN l] M=some (.str (xh l),M):=cO (abU l h hl) M
def jl (s:Bytes):Bytes×Bytes×Int :=
 if ((cg s).2 != 0||(((cg s).1.length:Int)==0))=true then ([],[],60)
 else ((cg s).1.getD ((cg s).1.length-1) [],xh ((cg s).1.take ((cg s).1.length-1)),0)
def abo (s:Bytes) (hs:s.length<=100000):ai bV 195 [.str s] []=some (.tuple [.str (jl s).1,.str (jl s).2.1,.int .i64 (jl s).2.2],[]):=by
 refine aq ?_
 have q:=RA s hs
 obtain ⟨h1,h2⟩:=pd s
 unfold jl
 generalize cg s=l at q h1 h2 ⊢
 obtain ⟨l,e⟩:=l
 simp only at h1 h2
 have q2:=fun M=>lS (acT (l.take (l.length-1)) (fun x hx=>h1 x (List.mem_of_mem_take hx)) (by simp; omega) M)
 simp only [fN,List.map_take] at q2
 simp only [HD,Mf,q,EW,simprocAttr]
 cases he:e != 0
 ·cases h0:(l.length:Int)==0
  ·have hne:0<l.length:=by
    have:¬((l.length:Int)=0):=by simpa using h0
    omega
   have hw:IntKind.i64.wrap ((l.length:Int)-1)=((l.length-1:Nat):Int):=by rw [bD (by omega) (by omega)]; omega
   have hx:=List.getElem?_eq_getElem (show l.length-1<l.length by omega)
   have hg:l.getD (l.length-1) []=l[l.length-1]:=by simp [List.getD,hx]
   have hle:((l.length-1:Nat):Int)<=(l.length:Int):=by omega
   have hz:((0:Int)<=((l.length-1:Nat):Int))=True:=by simp
   simp only [Mf,he,h0,hw,hx,q2,hg,hle,hz,Bool.or_self,Bool.false_eq_true,if_false,EW,simprocAttr]
  ·simp only [Mf,he,h0,Bool.or_true,if_true,EW,simprocAttr]
 ·simp only [Mf,he,Bool.true_or,if_true,EW,simprocAttr]
def acK (s:Bytes) (hs:s.length<=100000) (M:ag):ak (ai bV) 195 [.str s] M=some (.tuple [.str (jl s).1,.str (jl s).2.1,.int .i64 (jl s).2.2],M):=cO (abo s hs) M
def xk (s:Bytes) (_hs:s.length<=100000):(jl s).1.length<=1000/\(jl s).2.1.length<=1000:=by
 obtain ⟨h1,h2⟩:=pd s
 unfold jl
 split
 ·exact ⟨by simp,by simp⟩
 ·refine ⟨?_,Fh _ (fun x hx=>h1 x (List.mem_of_mem_take hx)) (by simp; omega)⟩
  simp only [List.getD]
  cases hx:(cg s).1[(cg s).1.length-1]? with
  |none=>simp
  |some x=>have:=qf (h1 x (List.mem_of_getElem? hx)); simp; omega
def tf (nodes:List Node):List Bytes->Int->Int×Int
 | [],ino=>(ino,0)
 |s::r,ino=>if ((bU nodes ino s).2 != 0)=true then (0,(bU nodes ino s).2) else tf nodes r (bU nodes ino s).1
def ec (t:Tree) (path:Bytes):Int×Int:=if ((cg path).2 != 0)=true then (0,(cg path).2) else tf t.nodes (cg path).1 1
def N2 {t:Tree} (ht:Small t) (hr:ji t) {xs:List Bytes} (hxs:∀x,x∈xs->x.length<=100000) (hn:xs.length<=100000) :
  ∀(l pre:List Bytes) (ino:Int),xs=pre++l->cJ (ai bV) [.tmp 4,.tmp 5] 0 [.block 0,.seq Tl] (.loop [2,8,19,20,21] NA) [(2,.ptr 0 0),(8,.int .i64 ino),(19,fN xs),(20,.int .i64 xs.length),(21,.int .i64 pre.length)] [.cells (ar t)] =
   some (.tuple [.int .i64 (tf t.nodes l ino).1,.int .i64 (tf t.nodes l ino).2],[]):=by
 intro l
 induction l with
 |nil =>
  intro pre ino h
  rw [aB]
  simp only [Bt,c9 h,ar,tf,EW,simprocAttr]
 |cons s rest ih =>
  intro pre ino h
  rw [aB]
  have hlen:pre.length+1<=100000:=by rw [h] at hn; simp at hn; omega
  have hw:IntKind.i64.wrap ((pre.length:Int)+1)=((pre++[s]).length:Int):=by rw [bD (by omega) (by omega)]; exact bK
  have hi1:=ih (pre++[s]) (bU t.nodes ino s).1 (by rw [h]; simp)
  have q:=fun M=>lS (Ng t.nodes t.next t.af ino s ht hr (hxs s (by rw [h]; simp)) trivial M)
  rw [tf]
  generalize bU t.nodes ino s=v at q hi1 ⊢
  simp only [List.length_append,List.length_cons,List.length_nil,Nat.zero_add,ar] at hi1
  simp only [Bt,cC h,cn h,ar,q,EW,simprocAttr]
  cases he:v.2 != 0
  ·simp only [Bt,he,hw,Bool.false_eq_true,if_false,EW,simprocAttr]
   exact hi1
  ·simp only [Bt,he,if_true,EW,simprocAttr]
def c193 (t:Tree) (path:Bytes) (ht:Small t) (hr:ji t) (hp:path.length<=100000):ai bV 193 [bj t,.str path] []=some (.tuple [.int .i64 (ec t path).1,.int .i64 (ec t path).2],[]):=by
 refine aq ?_
 have q:=RA path hp
 obtain ⟨h1,h2⟩:=pd path
 have hl:=N2 ht hr (xs:=(cg path).1) (fun x hx=>by have:=qf (h1 x hx); omega) (by omega) (cg path).1 [] 1 rfl
 unfold ec
 generalize cg path=v at q hl ⊢
 simp only [ar,List.length_nil] at hl
 simp only [HB,Bt,bj,ar,q,EW,simprocAttr]
 cases he:v.2 != 0
 ·simp only [Bt,he,Bool.false_eq_true,if_false,EW,simprocAttr]
  exact hl
 ·simp only [Bt,he,if_true,EW,simprocAttr]
def WV (t:Tree) (path:Bytes) (ht:Small t) (hr:ji t) (hp:path.length<=100000) (M:ag):ak (ai bV) 193 [.agg [az t.nodes,.int .i64 t.next,.int .i64 t.af],.str path] M=some (.tuple [.int .i64 (ec t path).1,.int .i64 (ec t path).2],M) :=
 cO (c193 t path ht hr hp) M
def bP (e:Int):ae := .fK (.iface 42 (.int .i64 e))
def c78 (e:Int):ai bV 78 [.int .i64 e] []=some (if (e != 0)=true then bP e else .tuple [],[]):=by
 refine aq ?_
 simp only [Rg,E78,EW,simprocAttr]
 cases he:e != 0
 ·simp only [E78,Bool.false_eq_true,if_false,EW,simprocAttr]
 ·simp only [E78,if_true,valOf,bP,EW,simprocAttr]
def lj (e:Int) (M:ag):ak (ai bV) 78 [.int .i64 e] M=some (if (e != 0)=true then bP e else .tuple [],M) :=
 fj (c78 e) rfl rfl (by split<;>rfl) rfl (by split<;>rfl) M
def c28 (b:Bool) (e:Int) (he:(e != 0)=true):ai bV 28 [.bool b,.int .i64 e] []=some (if b=true then .tuple [] else bP e,[]):=by
 refine aq ?_
 have q:=lj e
 rw [if_pos he] at q
 cases b<;>simp only [Q7,E28,q,bP,Bool.false_eq_true,if_true,if_false,EW,simprocAttr]
def Gm (b:Bool) (e:Int) (he:(e != 0)=true) (M:ag):ak (ai bV) 28 [.bool b,.int .i64 e] M=some (if b=true then .tuple [] else bP e,M) :=
 fj (c28 b e he) rfl rfl (by split<;>rfl) rfl (by split<;>rfl) M
end
section
attribute [local irreducible] cJ cE gD gK bG kr ai ak aV aF
def aG (f:aa) (o:er):List ae:=[az f.s.now.nodes,.int .i64 f.s.now.next,.int .i64 f.s.now.af,.int .i64 f.s.tick,nS f.s.since,mX f.s.cv,fb f.s.taken,.int .i64 f.s.next,dC f.holds,bC f.bJ,
 .int .i64 o.kind,.int .i64 o.bq,.str o.path,.str o.nj,.int .i64 o.n,.int .i64 o.m,.int .i64 o.handle,dg o.data,
 .int .i64 0,.int .i64 0,.int .i64 0,.int .i64 0,.int .i64 0,.slice .c0 [],.slice .c0 []]
abbrev aI (f:aa) (o:er):aK := .cells (aG f o)
def aW (f:aa) (o:er) (a:Gj) (x y:ae):aK := .cells [az f.s.now.nodes,.int .i64 f.s.now.next,.int .i64 f.s.now.af,.int .i64 f.s.tick,nS f.s.since,mX f.s.cv,fb f.s.taken,.int .i64 f.s.next,dC f.holds,bC f.bJ,
 .int .i64 o.kind,.int .i64 o.bq,.str o.path,.str o.nj,.int .i64 o.n,.int .i64 o.m,.int .i64 o.handle,dg o.data,
 .int .i64 a.err,.int .i64 a.ino,.int .i64 a.kind,.int .i64 a.n,.int .i64 a.m,x,y]
def Row (x:ae) (xs:List ae):Prop:=x = .slice .sh xs\/(x = .slice .c0 []/\xs=[])
def gH (K:Nat) (f:aa) (o:er) (r:aa×Gj×Int):Prop :=
 ∃x y,Row x (r.2.1.names.map ae.str)/\Row y (r.2.1.data.map jk)/\ai bV K [.ptr 0 0] [.cells (aG f o)]=some (if (r.2.2 != 0)=true then bP r.2.2 else .tuple [],[aW r.1 o r.2.1 x y])
def bM:Gj:=⟨0,0,0,0,0,[],[]⟩
def Av {C:bt} {g p:Nat} {vs:List ae} {r:ae} {M:ag} {f f':aa} {o o':er} (hM:nth M p=some (aI f o)) (h:C g (.ptr 0 0::vs) [aI f o]=some (r,[aI f' o']))
  (h1:vs.all ae.flat=true) (h2:vs.flatMap ae.ids=[]) (h3:r.pB=true) (h4:∀p,vs.map (ae.ik (cM [p]))=vs) (h5:∀p,r.ui (pn [p])=r) :
  ak C g (.ptr p 0::vs) M=some (r,cS M p (aI f' o')) :=
 gb hM h h1 h2 h3 (h4 p) (h5 p) rfl rfl rfl rfl rfl
def c194 (f:aa) (o:er) (ino:Int) (ht:Small f.s.now) (hr:ji f.s.now):ai bV 194 [.ptr 0 0,.int .i64 ino] [aI f o]=some (.agg (aw (aA f.s.now.nodes ino)),[aI f o]):=by
 refine aq ?_
 have q:=fun M=>lS (Ma f.s.now ino ht hr M)
 simp only [aw] at q
 simp only [HC,aaa,aI,aG,q,aw,EW,simprocAttr]
def WW (f:aa) (o:er) (ino:Int) (ht:Small f.s.now) (hr:ji f.s.now) {p:Nat} {M:ag} (hM:nth M p=some (aI f o)):ak (ai bV) 194 [.ptr p 0,.int .i64 ino] M=some (.agg (aw (aA f.s.now.nodes ino)),M):=by
 have:=Av hM (c194 f o ino ht hr) rfl rfl rfl (fun _=>rfl) (fun _=>rfl)
 rwa [gG hM] at this
def aaP (f:aa) (o:er) (path:Bytes) (ht:Small f.s.now) (hr:ji f.s.now) (hp:path.length<=100000):ai bV 124 [.ptr 0 0,.str path] [aI f o] =
  some (if ((ec f.s.now path).2 != 0)=true then bP (ec f.s.now path).2 else .agg (aw (aA f.s.now.nodes (ec f.s.now path).1)),[aI f o]):=by
 refine aq ?_
 have q1:=WV f.s.now path ht hr hp
 generalize ec f.s.now path=v at q1 ⊢
 have q2:=lj v.2
 have q3:∀b,ak (ai bV) 194 [.ptr 0 0,.int .i64 v.1] [aI f o,b]=some (.agg (aw (aA f.s.now.nodes v.1)),[aI f o,b]):=fun b=>WW f o v.1 ht hr (p:=0) rfl
 simp only [aI,aG,aw] at q3
 simp only [G9,Qa,aI,aG,q1,EW,simprocAttr]
 cases he:v.2 != 0<;>simp only [he,Bool.false_eq_true,if_true,if_false,bP] at q2 ⊢
 ·simp only [Qa,q2,q3,aw,EW,simprocAttr]
 ·simp only [Qa,q2,EW,simprocAttr]
def Cp (f:aa) (o:er) (path:Bytes) (ht:Small f.s.now) (hr:ji f.s.now) (hp:path.length<=100000) {p:Nat} {M:ag} (hM:nth M p=some (aI f o)):ak (ai bV) 124 [.ptr p 0,.str path] M =
  some (if ((ec f.s.now path).2 != 0)=true then bP (ec f.s.now path).2 else .agg (aw (aA f.s.now.nodes (ec f.s.now path).1)),M):=by
 have:=Av hM (aaP f o path ht hr hp) rfl rfl (by split<;>rfl) (fun _=>rfl) (fun _=>by split<;>rfl)
 rwa [gG hM] at this
def fi (t:Tree) (path:Bytes):Int×Bytes×Int :=
 if ((jl path).2.2 != 0)=true then (0,[],(jl path).2.2)
 else if ((ec t (jl path).2.1).2 != 0)=true then (0,[],(ec t (jl path).2.1).2)
 else ((ec t (jl path).2.1).1,(jl path).1,0)
def aaQ (f:aa) (o:er) (path:Bytes) (ht:Small f.s.now) (hr:ji f.s.now) (hp:path.length<=100000):ai bV 125 [.ptr 0 0,.str path] [aI f o] =
  some (if ((fi f.s.now path).2.2 != 0)=true then bP (fi f.s.now path).2.2 else .tuple [.int .i64 (fi f.s.now path).1,.str (fi f.s.now path).2.1],[aI f o]):=by
 refine aq ?_
 have q1:=acK path hp
 have hl:=xk path hp
 have q4:=WV f.s.now (jl path).2.1 ht hr (by omega)
 unfold fi
 generalize jl path=l at q1 q4 ⊢
 have q2:=lj l.2.2
 generalize ec f.s.now l.2.1=v at q4 ⊢
 have q3:=lj v.2
 simp only [Ha,Mb,aI,aG,q1,EW,simprocAttr]
 cases he:l.2.2 != 0<;>simp only [he,Bool.false_eq_true,if_true,if_false,bP] at q2 ⊢
 ·cases hv:v.2 != 0<;>simp only [hv,Bool.false_eq_true,if_true,if_false,bP] at q3 ⊢
  ·simp only [Mb,q2,q4,q3,bne_self_eq_false,Bool.false_eq_true,if_false,EW,simprocAttr]
  ·simp only [Mb,q2,q4,q3,hv,if_true,EW,simprocAttr]
 ·simp only [Mb,q2,he,if_true,EW,simprocAttr]
def IU (f:aa) (o:er) (path:Bytes) (ht:Small f.s.now) (hr:ji f.s.now) (hp:path.length<=100000) {p:Nat} {M:ag} (hM:nth M p=some (aI f o)):ak (ai bV) 125 [.ptr p 0,.str path] M =
  some (if ((fi f.s.now path).2.2 != 0)=true then bP (fi f.s.now path).2.2 else .tuple [.int .i64 (fi f.s.now path).1,.str (fi f.s.now path).2.1],M):=by
 have:=Av hM (aaQ f o path ht hr hp) rfl rfl (by split<;>rfl) (fun _=>rfl) (fun _=>by split<;>rfl)
 rwa [gG hM] at this
def rJ (n:Node):Int:=if (n.data.length:Int)<(n.av.length:Int) then (n.av.length:Int) else (n.data.length:Int)
def aaZ (n:Node):ai bV 134 [aX n] []=some (.int .i64 (rJ n),[]):=by
 refine aq ?_
 simp only [Hj,Z3,aX,aw,rJ,EW,simprocAttr]
def NU {xs:List b9} (hn:xs.length<=100000) {k:List K} {R:List Bytes->Option (ae×ag)}
  (hx:∀(out:List Bytes) e,kr (ai bV) [.tmp 2] 0 k ⟨.exit 0,(3,.slice (.own 0) (out.map ae.str))::e,[.tick 1 out.length]⟩=R out) :
  ∀(l pre:List b9) (out:List Bytes),xs=pre++l->out.length<=pre.length->cJ (ai bV) [.tmp 2] 0 k (.loop [3,6,7,8] Ns) [(3,.slice (.own 0) (out.map ae.str)),(6,fa xs),(7,.int .i64 xs.length),(8,.int .i64 pre.length)] [.tick 1 out.length]=R (out++l.map b9.name):=by
 intro l
 induction l with
 |nil =>
  intro pre out h ho
  rw [aB]
  simp only [Mc,c9 h,List.map_nil,List.append_nil,EW,simprocAttr]
  exact hx _ _
 |cons n rest ih =>
  intro pre out h ho
  rw [aB]
  have hlen:pre.length+1<=100000:=by rw [h] at hn; simp at hn; omega
  have hw:IntKind.i64.wrap ((pre.length:Int)+1)=((pre++[n]).length:Int):=by rw [bD (by omega) (by omega)]; exact bK
  have hi:=ih (pre++[n]) (out++[n.name]) (by rw [h]; simp) (by simp; omega)
  simp only [List.length_append,List.length_cons,List.length_nil,List.map_append,List.map_cons,List.map_nil,Nat.zero_add,List.append_assoc,List.cons_append,List.nil_append] at hi
  have r1:bB (out.length+1) 16=True:=dj (by omega) (by omega)
  simp only [Mc,cC h,cn h,cI,r1,hw,List.map_cons,EW,simprocAttr]
  exact hi
def aaY (l:List b9) (hn:l.length<=100000):ai bV 133 [fa l] []=some (fN (l.map b9.name),[]):=by
 refine aq ?_
 have hl:=NU hn (k:=[.block 0,.seq Tg]) (R:=fun out=>some (fN out,[])) (fun out e=>by simp only [Mc,EW,simprocAttr]) l [] [] rfl (Nat.le_refl _)
 simp only [List.map_nil,List.length_nil] at hl
 simp only [Hi,Mc,EW,simprocAttr]
 exact hl
def Rx (l:List b9) (hn:l.length<=100000) (M:ag):ak (ai bV) 133 [fa l] M=some (fN (l.map b9.name),M):=cO (aaY l hn) M
def Ry (n:Node) (M:ag):ak (ai bV) 134 [.agg (aw n)] M=some (.int .i64 (rJ n),M):=cO (aaZ n) M
end
section
abbrev eI:Int->ae:=fun n => .int .i64 n
def Vw (B:Nat) (M:ag) (l:AM Int):List.map (ae.eb B M) (iV eI l)=iV eI l:=MC _ _ _ (fun _=>rfl) l
attribute [local irreducible] cJ cE gD gK bG kr ai ak aV aF
def qY (nodes:List Node) (dom:Int):List b9->AM Int->Option (AM Int)
 | [],m=>some m
 |e::r,m=>if ((aA nodes e.ino).kind==1&&(bR m e.ino).isSome&&((bR m e.ino).getD 0 != dom))=true then none else qY nodes dom r (fP m e.ino dom)
def kL (nodes:List Node) (l:List bp):List Node->AM Int->Bool
 | [],_=>true
 |d::r,m=>if ((d.av.length:Int)==0)=true then kL nodes l r m else match qY nodes (qZ nodes l d.ino) d.av m with
  |none=>false
  |some m'=>kL nodes l r m'
def jA (t:Tree) (l:List bp):Bool:=kL t.nodes l t.nodes []
def Oj {t:Tree} (ht:Small t) (hr:ji t) {ql:List bp} {d:Node} {dom i n0:Int} {k:List K} {R:Option (AM Int)->Option (ae×ag)} (hn:d.av.length<=100000)
  (hx:∀m e,kr (ai aQ) [.tmp 4] 0 k ⟨.exit 2,(1,bC ql)::(2,.ptr 0 0)::(5,.cz 1)::(8,.int .i64 dom)::(17,az t.nodes)::(18,.int .i64 n0)::(19,.int .i64 i)::e,[.cells (ar t),.map (tw m) (iV eI m),.cells (aw d)]⟩=R (some m))
  (hret:∀m b1 b2,kr (ai aQ) [.tmp 4] 0 k ⟨.ret,[(4,.bool false)],[.cells (ar t),.map (tw m) (iV eI m),.cells (aw d),b1,b2]⟩=R none) :
  ∀(l pre:List b9) (m:AM Int),d.av=pre++l->cJ (ai aQ) [.tmp 4] 0 k (.loop [1,2,5,8,17,18,19,33,34,35] Sy) [(1,bC ql),(2,.ptr 0 0),(5,.cz 1),(8,.int .i64 dom),(17,az t.nodes),(18,.int .i64 n0),(19,.int .i64 i),(33,fa d.av),(34,.int .i64 d.av.length),(35,.int .i64 pre.length)] [.cells (ar t),.map (tw m) (iV eI m),.cells (aw d)] =
   R (qY t.nodes dom l m):=by
 simp only [ar,aw] at hx hret ⊢
 intro l
 induction l with
 |nil =>
  intro pre m h
  rw [aB]
  simp only [Gs,c9 h,qY,Vw,EW,simprocAttr]
  exact hx _ _
 |cons e rest ih =>
  intro pre m h
  rw [aB]
  have hlen:pre.length+1<=100000:=by rw [h] at hn; simp at hn; omega
  have hw:IntKind.i64.wrap ((pre.length:Int)+1)=((pre++[e]).length:Int):=by rw [bD (by omega) (by omega)]; exact bK
  have q1:=Ma t e.ino ht hr
  have hput:=kR eI m e.ino dom
  have hi:=ih (pre++[e]) (fP m e.ino dom) (by rw [h]; simp)
  rw [qY]
  simp only [aw,List.length_append,List.length_cons,List.length_nil,Nat.zero_add] at q1 hi
  simp only [Gs,cC h,cn h,cI,q1,gP,mapOf.eq_1,EW,simprocAttr]
  cases hm:bR m e.ino with
  |none =>
   cases hk:(aA t.nodes e.ino).kind==1<;>simp only [Gs,hm,hk,KB,hput,hw,mapOf.eq_1,Vw,Option.map_none,Option.isSome_none,Bool.and_false,Bool.false_and,Bool.false_eq_true,if_false,EW,simprocAttr]
   ·exact hi
   ·exact hi
  |some v =>
   cases hk:(aA t.nodes e.ino).kind==1<;>cases hd:v != dom<;>simp only [Gs,hm,hk,hd,DM,hput,hw,mapOf.eq_1,Vw,Option.map_some,Option.isSome_some,Option.getD_some,Bool.and_false,Bool.false_and,Bool.and_true,Bool.true_and,Bool.false_eq_true,if_true,if_false,EW,simprocAttr]
   ·exact hi
   ·exact hi
   ·exact hi
   ·exact hret _ _ _
def Ol {t:Tree} {dep:Int->Nat} (ht:bm t dep 0) {ql:List bp} (hq:lg ql) (hql:ql.length<=100000) :
  ∀(l pre:List Node) (m:AM Int),t.nodes=pre++l->cJ (ai aQ) [.tmp 4] 0 [.block 0,.seq LB] (.loop [1,2,5,17,18,19] Kz) [(1,bC ql),(2,.ptr 0 0),(5,.cz 1),(17,az t.nodes),(18,.int .i64 t.nodes.length),(19,.int .i64 pre.length)] [.cells (ar t),.map (tw m) (iV eI m)] =
   some (.bool (kL t.nodes ql l m),[]):=by
 intro l
 induction l with
 |nil =>
  intro pre m h
  rw [aB]
  simp only [Gs,c9 h,kL,ar,EW,simprocAttr]
 |cons d rest ih =>
  intro pre m h
  rw [aB]
  have hn:=ht.nodes
  have hlen:pre.length+1<=200:=by rw [h] at hn; simp at hn; omega
  have hw:IntKind.i64.wrap ((pre.length:Int)+1)=((pre++[d]).length:Int):=by rw [bD (by omega) (by omega)]; exact bK
  have hi:=fun m=>ih (pre++[d]) m (by rw [h]; simp)
  have hfd:find t.nodes d.ino=some d:=(dM ht.ft.gA).2 ⟨by rw [h]; simp,rfl⟩
  rw [kL]
  simp only [ar,List.length_append,List.length_cons,List.length_nil,Nat.zero_add] at hi
  simp only [Gs,cC h,cn h,ar,aw,EW,simprocAttr]
  cases he:(d.av.length:Int)==0
  ·have hk:d.kind=2:=by
    rcases ht.kind _ _ hfd with h1|h1
    ·rw [(ht.file _ _ hfd h1).1] at he; simp at he
    ·exact h1
   have q1:=k94 ht hq hql hfd hk
   have hin:=Oj ht.sz.yR ht.ft (ql:=ql) (d:=d) (dom:=qZ t.nodes ql d.ino) (i:=pre.length) (n0:=t.nodes.length) (k:=[.block 2,.block 1,.seq Tx,.loop [1,2,5,17,18,19] 2 Kz,.block 0,.seq LB])
    (R:=fun o=>some (.bool (match o with|none=>false|some m'=>kL t.nodes ql rest m'),[])) (by have:=(ht.po _ _ hfd).2; omega)
    (fun m e=>by
     have:=hi m
     simp only [ar,aw,Gs,hw,Vw,EW,simprocAttr]
     exact this)
    (fun m b1 b2=>by simp only [ar,aw,Gs,EW,simprocAttr]) d.av [] m rfl
   simp only [ar,aw,List.length_nil] at hin
   simp only [Gs,he,q1,Bool.false_eq_true,if_false,EW,simprocAttr]
   refine hin.trans ?_
   rfl
  ·simp only [Gs,he,hw,if_true,Vw,EW,simprocAttr]
   exact hi m
def c32 (t:Tree) (l:List bp) (ht:Rt t) (hq:lg l) (hl:l.length<=100000):ai aQ 32 [bj t,bC l] []=some (.bool (jA t l),[]):=by
 obtain ⟨dep,ht⟩:=ht
 refine aq ?_
 have h:=Ol ht hq hl t.nodes [] [] rfl
 simp only [ar,List.length_nil] at h
 simp only [Q8,Gs,bj,ar,EW,simprocAttr]
 exact h
def k32 (t:Tree) (l:List bp) (ht:Rt t) (hq:lg l) (hl:l.length<=100000) (M:ag):ak (ai aQ) 32 [.agg [az t.nodes,.int .i64 t.next,.int .i64 t.af],bC l] M=some (.bool (jA t l),M):=cO (c32 t l ht hq hl) M
end
section
def xE {args:List ae} {M:ag} {x:ae×ag} (h:tM args M=some x):ai bV 201 args M=some x:=bz (T:=bV) (g:=tM) rfl h
def Zn (xs:List ae) (z:Tree) (W:aK):dv [W,.cells (ar z),.arr 3 0 xs] (cM [2,1]) [2,1]=some [.arr 3 0 xs,.cells (ar z)]:=rfl
def S9 (z:Tree) (W:aK):dv [W,.cells (ar z)] (cM [1]) [1]=some [.cells (ar z)]:=rfl
attribute [local irreducible] cJ cE gD gK bG kr ai ak aV aF
def WZ (z:Tree) (W:aK):ak (ai bV) 201 [.slice .sh [],.func 203 [.ptr 1 0]] [W,.cells (ar z)]=some (.slice .sh [],[W,.cells (ar z)]) :=
 eh (ids:=[1]) rfl rfl (S9 z W) rfl rfl (xE (FR z)) rfl rfl rfl rfl rfl
def acL (xs:List bp) (z:Tree) (hz:Rt z) (hn:xs.length<=100000) (h0:xs≠[]) (W:aK):∃b,Still b/\ak (ai bV) 201 [.aZ 2 0 3 0 xs.length,.func 203 [.ptr 1 0]] [W,.cells (ar z),.arr 3 0 (xs.map bA)] =
  some (bC (dE z xs),[W,.cells (ar z),b]):=by
 obtain ⟨b,hb,h⟩:=Lk xs z hz hn h0
 refine ⟨b,hb,eh (ids:=[2,1]) rfl rfl (Zn _ z W) rfl rfl (xE h) rfl rfl ?_ rfl ?_⟩
 ·simp only [List.all_cons,hb.2.1]; rfl
 ·simp only [eJ,hb.2.2]; rfl
def iY (l:List bT):List Int->Tree->Tree
 | [],t=>t
 |i::r,t=>iY l r (if (!vj l i)=true then (ig t i).1 else t)
def si (l:List bT):∀(r:List Int) (t:Tree),Rt t->Rt (iY l r t)
 | [],t,h=>h
 |i::r,t,h=>by
  rw [iY]
  refine si l r _ ?_
  split
  ·exact h.free i
  ·exact h
def KC {f:aa} {o:er} {q:List bp} (hh:f.holds.length<=100000) {xs:List Int} (hn:xs.length<=100000) {fin:Tree} {k:List K} {r:Option (ae×ag)}
  (hx:∀e,kr (ai bV) [] 1 k ⟨.exit 0,(0,.ptr 0 0)::(2,bC q)::(4,.ptr 1 0)::e,[aI f o,.cells (ar fin)]⟩=r) :
  ∀(l pre:List Int) (t:Tree),xs=pre++l->Rt t->iY f.holds l t=fin->cJ (ai bV) [] 1 k (.loop [0,2,4,13,14,15] Nr) [(0,.ptr 0 0),(2,bC q),(4,.ptr 1 0),(13,nS xs),(14,.int .i64 xs.length),(15,.int .i64 pre.length)] [aI f o,.cells (ar t)]=r:=by
 simp only [aI,aG,ar] at hx ⊢
 intro l
 induction l with
 |nil =>
  intro pre t h ht hfin
  rw [aB]
  rw [iY] at hfin
  subst hfin
  simp only [kb,c9 h,EW,simprocAttr]
  exact hx _
 |cons i rest ih =>
  intro pre t h ht hfin
  rw [aB]
  have hlen:pre.length+1<=100000:=by rw [h] at hn; simp at hn; omega
  have hw:IntKind.i64.wrap ((pre.length:Int)+1)=((pre++[i]).length:Int):=by rw [bD (by omega) (by omega)]; exact bK
  rw [iY] at hfin
  have hi1:=ih (pre++[i]) t (by rw [h]; simp) ht
  have hi2:=ih (pre++[i]) (ig t i).1 (by rw [h]; simp) (ht.free i)
  have q1:∀M,nth M 2=some (.cells [.int .i64 i])->ak (ai bV) 164 [dC f.holds,.func 199 [.ptr 2 0]] M=some (.bool (vj f.holds i),M):=fun M hM=>lS (qR hM (VC f.holds i hh) rfl rfl rfl)
  have q2:=fun M=>lS (WY t i ht.small ht.ft M)
  simp only [ar,List.length_append,List.length_cons,List.length_nil,Nat.zero_add] at hi1 hi2 q2
  simp only [kb,cC h,cn h,q1,EW,simprocAttr]
  cases he:vj f.holds i<;>rw [he] at hfin
  ·simp only [Bool.not_false,if_true] at hfin
   have:=hi2 hfin
   simp only [kb,he,q2,hw,EW,simprocAttr]
   exact this
  ·simp only [Bool.not_true,Bool.false_eq_true,if_false] at hfin
   have:=hi1 hfin
   simp only [kb,he,hw,EW,simprocAttr]
   exact this
def fp (t:Tree) (q:bp):Bool := !(decide ((eN t.nodes q.ino).1<=q.nodes)&&decide ((eN t.nodes q.ino).2<=q.bytes))
def Ft {f:aa} {o:er} {t:Tree} (ht:Rt t) {xs:List bp} (hn:xs.length<=100000) {k:List K} {r:Option (ae×ag)}
  (hx:∀e,xs.any (fp t)=false->kr (ai bV) [] 1 k ⟨.exit 2,(0,.ptr 0 0)::(2,bC xs)::(4,.ptr 1 0)::e,[aI f o,.cells (ar t)]⟩=r)
  (hp:∀c,xs.any (fp t)=true->kr (ai bV) [] 1 k ⟨.fK (.iface 42 (.int .i64 90)),[],[aI f o,.cells (ar t),c]⟩=r) :
  ∀(l pre:List bp),xs=pre++l->pre.any (fp t)=false->cJ (ai bV) [] 1 k (.loop [0,2,4,42,43,44] DG) [(0,.ptr 0 0),(2,bC xs),(4,.ptr 1 0),(42,bC xs),(43,.int .i64 xs.length),(44,.int .i64 pre.length)] [aI f o,.cells (ar t)]=r:=by
 simp only [aI,aG,ar] at hx hp ⊢
 intro l
 induction l with
 |nil =>
  intro pre h hpre
  rw [aB]
  have hany:xs.any (fp t)=false:=by rw [h,List.append_nil]; exact hpre
  simp only [kb,c9 h,EW,simprocAttr]
  exact hx _ hany
 |cons q rest ih =>
  intro pre h hpre
  rw [aB]
  have hlen:pre.length+1<=100000:=by rw [h] at hn; simp at hn; omega
  have hw:IntKind.i64.wrap ((pre.length:Int)+1)=((pre++[q]).length:Int):=by rw [bD (by omega) (by omega)]; exact bK
  have q1:=fun M=>lS (k93 ht q.ino M)
  have q2:=fun bb=>Gm bb 90 rfl
  have hov:∀z,fp t q=z->(decide ((eN t.nodes q.ino).1<=q.nodes)&&decide ((eN t.nodes q.ino).2<=q.bytes)) = !z:=fun z hz=>by rw [<-hz]; unfold fp; simp
  simp only [kb,cC h,cn h,eL,q1,EW,simprocAttr]
  cases ho:fp t q
  ·have hi:=ih (pre++[q]) (by rw [h]; simp) (by simp [hpre,ho])
   have hv:=hov _ ho
   simp only [List.length_append,List.length_cons,List.length_nil,Nat.zero_add] at hi
   simp only [Bool.not_false,Bool.and_eq_true] at hv
   simp only [kb,hv.1,hv.2,q2,hw,if_true,EW,simprocAttr]
   exact hi
  ·have hany:xs.any (fp t)=true:=by rw [h]; simp [ho]
   have hv:=hov _ ho
   cases h1:decide ((eN t.nodes q.ino).1<=q.nodes)<;>cases h2:decide ((eN t.nodes q.ino).2<=q.bytes)<;>simp only [h1,h2,Bool.and_self,Bool.not_true] at hv
   ·simp only [kb,h1,h2,q2,bP,Bool.false_eq_true,if_false,EW,simprocAttr]
    exact hp _ hany
   ·simp only [kb,h1,h2,q2,bP,Bool.false_eq_true,if_false,EW,simprocAttr]
    exact hp _ hany
   ·simp only [kb,h1,h2,q2,bP,Bool.false_eq_true,if_false,EW,simprocAttr]
    exact hp _ hany
   ·cases hv
def Fs {f:aa} {o:er} {t:Tree} (ht:Rt t) {xs:List bp} (hn:xs.length<=100000) {b:aK} (hbb:Still b) {k:List K} {r:Option (ae×ag)}
  (hx:∀e,xs.any (fp t)=false->kr (ai bV) [] 1 k ⟨.exit 2,(0,.ptr 0 0)::(2,bC xs)::(4,.ptr 1 0)::e,[aI f o,.cells (ar t),b]⟩=r)
  (hp:∀c,xs.any (fp t)=true->kr (ai bV) [] 1 k ⟨.fK (.iface 42 (.int .i64 90)),[],[aI f o,.cells (ar t),b,c]⟩=r) :
  ∀(l pre:List bp),xs=pre++l->pre.any (fp t)=false->cJ (ai bV) [] 1 k (.loop [0,2,4,42,43,44] DG) [(0,.ptr 0 0),(2,bC xs),(4,.ptr 1 0),(42,bC xs),(43,.int .i64 xs.length),(44,.int .i64 pre.length)] [aI f o,.cells (ar t),b]=r:=by
 simp only [aI,aG,ar] at hx hp ⊢
 intro l
 induction l with
 |nil =>
  intro pre h hpre
  rw [aB]
  have hany:xs.any (fp t)=false:=by rw [h,List.append_nil]; exact hpre
  simp only [kb,c9 h,EW,simprocAttr]
  exact hx _ hany
 |cons q rest ih =>
  intro pre h hpre
  rw [aB]
  have hlen:pre.length+1<=100000:=by rw [h] at hn; simp at hn; omega
  have hw:IntKind.i64.wrap ((pre.length:Int)+1)=((pre++[q]).length:Int):=by rw [bD (by omega) (by omega)]; exact bK
  have q1:=fun M=>lS (k93 ht q.ino M)
  have q2:=fun bb=>Gm bb 90 rfl
  have hov:∀z,fp t q=z->(decide ((eN t.nodes q.ino).1<=q.nodes)&&decide ((eN t.nodes q.ino).2<=q.bytes)) = !z:=fun z hz=>by rw [<-hz]; unfold fp; simp
  simp only [kb,cC h,cn h,eL,q1,EW,simprocAttr]
  cases ho:fp t q
  ·have hi:=ih (pre++[q]) (by rw [h]; simp) (by simp [hpre,ho])
   have hv:=hov _ ho
   simp only [List.length_append,List.length_cons,List.length_nil,Nat.zero_add] at hi
   simp only [Bool.not_false,Bool.and_eq_true] at hv
   simp only [kb,hv.1,hv.2,q2,hw,if_true,hbb.1,EW,simprocAttr]
   exact hi
  ·have hany:xs.any (fp t)=true:=by rw [h]; simp [ho]
   have hv:=hov _ ho
   cases h1:decide ((eN t.nodes q.ino).1<=q.nodes)<;>cases h2:decide ((eN t.nodes q.ino).2<=q.bytes)<;>simp only [h1,h2,Bool.and_self,Bool.not_true] at hv
   ·simp only [kb,h1,h2,q2,bP,Bool.false_eq_true,if_false,EW,simprocAttr]
    exact hp _ hany
   ·simp only [kb,h1,h2,q2,bP,Bool.false_eq_true,if_false,EW,simprocAttr]
    exact hp _ hany
   ·simp only [kb,h1,h2,q2,bP,Bool.false_eq_true,if_false,EW,simprocAttr]
    exact hp _ hany
   ·cases hv
def db (f:aa) (t:Tree) (q:List bp):aa×Int :=
 if (!jA (iY f.holds (fe t) t) (dE (iY f.holds (fe t) t) q))=true then (f,91)
 else if ((dE (iY f.holds (fe t) t) q).any (fp (iY f.holds (fe t) t)))=true then (f,90)
 else (⟨lG f.s (iY f.holds (fe t) t),f.holds,dE (iY f.holds (fe t) t) q⟩,0)
structure nK (f:aa):Prop where
 rt:Rt f.s.now
 len:f.s.since.length=f.s.now.nodes.length
 cv:f.s.cv.length<=90000
 CP:∀p,p∈f.s.cv->p.node.av.length<=64/\p.node.data.length<=4096
 taken:f.s.taken.length<=16
 holds:qp f.holds
 hlen:f.holds.length<=64
 bJ:lg f.bJ
 pv:f.bJ.length<=16
def WO (s:eu) (t:Tree) (hs:ji s.now) (hz:Sz 200 s.now) (ht:ji t) (hzt:Sz 200 t) (hk:s.taken.length<=100000) (hl:s.since.length=s.now.nodes.length) (hp:s.cv.length<=100000) (M:ag) :
  ak (ai aQ) 137 [.agg (a8 s),.agg [az t.nodes,.int .i64 t.next,.int .i64 t.af]] M=some (.agg (a8 (lG s t)),M):=cO (aa2 s t hs hz ht hzt hk hl hp) M
def xi {t:Tree} {q:List bp} (h:lg q):lg (dE t q):=List.Pairwise.filter _ h
def sw (t:Tree) (q:List bp):(dE t q).length<=q.length:=List.length_filter_le _ _
def aaS (f:aa) (o:er) (t:Tree) (q:List bp) (hf:nK f) (ht:Rt t) (hq:lg q) (hql:q.length<=16):ai bV 127 [.ptr 0 0,bj t,bC q] [aI f o] =
  some (if ((db f t q).2 != 0)=true then bP (db f t q).2 else .tuple [],[aI (db f t q).1 o]):=by
 refine aq ?_
 have q0:=fun M=>lS (k90 t (by have:=ht.sz.nodes; omega) M)
 have hor:(fe t).length<=100000:=by have:=ht.sz.nodes; have h2:=List.length_filter_le lC t.nodes; unfold fe; simp; omega
 have hl:=KC (f:=f) (o:=o) (q:=q) (by have:=hf.hlen; omega) (xs:=fe t) hor (fin:=iY f.holds (fe t) t) (k:=[.block 0,.seq OL])
  (r:=some (if ((db f t q).2 != 0)=true then bP (db f t q).2 else .tuple [],[aI (db f t q).1 o])) ?_ (fe t) [] t rfl ht rfl
 ·simp only [aI,aG,ar,List.length_nil] at hl
  simp only [Hc,kb,aI,aG,bj,ar,q0,EW,simprocAttr]
  exact hl
 ·intro e
  have ht1:=si f.holds (fe t) t ht
  unfold db
  generalize iY f.holds (fe t) t=t1 at ht1 ⊢
  have q1:=fun M=>lS (k32 t1 (dE t1 q) ht1 (xi hq) (by have:=sw t1 q; omega) M)
  have q2:=fun bb=>Gm bb 91 rfl
  have q3:=fun M=>lS (WO f.s t1 hf.rt.ft hf.rt.sz ht1.ft ht1.sz (by have:=hf.taken; omega) hf.len (by have:=hf.cv; omega) M)
  generalize lG f.s t1=ps at q3 ⊢
  simp only [a8] at q3
  by_cases h0:q=[]
  ·have p1:=fun M=>ZV (ve bA (f:=202) (sz:=3) (bytes:=24) rfl h0 M)
   have hk0:dE t1 q=[]:=by subst h0; rfl
   rw [hk0] at q1 ⊢
   have q1:∀M,ak (ai bV) 32 [.agg [az t1.nodes,.int .i64 t1.next,.int .i64 t1.af],.slice .sh []] M=some (.bool (jA t1 []),M):=q1
   have p2:=WZ t1 (aI f o)
   cases hd:jA t1 []
   ·rw [hd] at q1
    simp only [aI,aG,ar,bP] at p2 ⊢
    simp only [kb,p1,p2,q1,q2,bP,hd,Bool.not_false,Bool.false_eq_true,if_true,if_false,EW,simprocAttr]
   ·rw [hd] at q1
    have hlp:=Ft (f:=f) (o:=o) (t:=t1) ht1 (xs:=[]) (by simp) (k:=[.block 2,.seq DZ]) (r:=some (.tuple [],[aI ⟨ps,f.holds,[]⟩ o]))
     (fun e _=>by simp only [aI,aG,ar,kb,q3,a8,EW,simprocAttr]; rfl) (fun c h=>by cases h) [] [] rfl rfl
    simp only [aI,aG,ar,bP,List.length_nil] at p2 hlp ⊢
    simp only [kb,p1,p2,q1,q2,hd,bP,Bool.not_true,Bool.false_eq_true,if_true,if_false,List.any_nil,bne_self_eq_false,EW,simprocAttr]
    exact hlp
  ·obtain ⟨b,hb,p2⟩:=acL q t1 ht1 (by omega) h0 (aI f o)
   have p1:=fun M=>ZV (um bA (f:=202) (sz:=3) (bytes:=24) rfl (fun _=>rfl) (by omega) h0 (by omega) M)
   have hkl:(dE t1 q).length<=100000:=by have:=sw t1 q; omega
   generalize dE t1 q=kq at q1 p2 hkl ⊢
   cases hd:jA t1 kq
   ·rw [hd] at q1
    simp only [aI,aG,ar,bP] at p2 ⊢
    simp only [kb,p1,p2,q1,q2,bP,hd,hb.1,Bool.not_false,Bool.false_eq_true,if_true,if_false,EW,simprocAttr]
   ·rw [hd] at q1
    have hlp:=Fs (f:=f) (o:=o) (t:=t1) ht1 (xs:=kq) hkl hb (k:=[.block 2,.seq DZ]) (r:=some (if (kq.any (fp t1))=true then bP 90 else .tuple [],[aI (if (kq.any (fp t1))=true then f else ⟨ps,f.holds,kq⟩) o]))
     (fun e h=>by simp only [h,Bool.false_eq_true,if_false,aI,aG,ar,kb,q3,a8,EW,simprocAttr]) (fun c h=>by simp only [h,if_true,aI,aG,ar,kb,bP,EW,simprocAttr]) kq [] rfl rfl
    simp only [aI,aG,ar,bP,List.length_nil] at p2 hlp ⊢
    simp only [kb,p1,p2,q1,q2,hd,bP,Bool.not_true,Bool.false_eq_true,if_true,if_false,EW,simprocAttr]
    refine hlp.trans ?_
    cases kq.any (fp t1)<;>rfl
end
section
attribute [local irreducible] cJ cE gD gK bG kr ai ak aV aF
structure uc (o:er):Prop where
 path:o.path.length<=90000
 nj:o.nj.length<=90000
 data:o.data.length<=90000
def bm.L9 {t:Tree} {dep:Int->Nat} (h:bm t dep 0) (to:Int) (nm:Bytes):∀e,ck (cP t.nodes to).1.av nm=some e->(aA t.nodes e.ino).ino≠to:=by
 intro e he
 unfold cP at he
 split at he
 ·cases he
 ·rename_i n hn
  split at he
  ·have hem:=(dr he).1
   obtain ⟨_,_,_,_,m,hm,_⟩:=h.uf _ _ e hn hem
   simp only [aA,hm,Option.getD_some,(aY hm).2]
   exact h.nT hn hem
  ·cases he
def Fi (f:aa) (o:er) (t:Tree) (q:List bp) (hf:nK f) (ht:Rt t) (hq:lg q) (hql:q.length<=16) {p:Nat} {M:ag} (hM:nth M p=some (aI f o)):ak (ai bV) 127 [.ptr p 0,.agg [az t.nodes,.int .i64 t.next,.int .i64 t.af],bC q] M =
  some (if ((db f t q).2 != 0)=true then bP (db f t q).2 else .tuple [],cS M p (aI (db f t q).1 o)) :=
 Av hM (aaS f o t q hf ht hq hql) rfl rfl (by split<;>rfl) (fun _=>rfl) (fun _=>by split<;>rfl)
def acv (t:Tree) (ht:Rt t) (dir:Int) (s:Bytes) (kind:Int) (hs:s.length<=100000) (M:ag):ak (ai bV) 126 [.agg [az t.nodes,.int .i64 t.next,.int .i64 t.af],.int .i64 dir,.str s,.int .i64 kind] M =
  some (.tuple [.agg [az (pN t dir s kind).1.nodes,.int .i64 (pN t dir s kind).1.next,.int .i64 (pN t dir s kind).1.af],.int .i64 (pN t dir s kind).2.1,.int .i64 (pN t dir s kind).2.2],M):=by
 obtain ⟨dep,h⟩:=ht
 have:=aaR t dir s kind (h.sz.up (by omega)) h.ft hs trivial h.dH
 rw [Mr h] at this
 exact lS (fj this rfl rfl rfl rfl rfl M)
def acw (t:Tree) (ht:Rt t) (ino dir:Int) (s:Bytes) (hs:s.length<=100000) (M:ag):ak (ai bV) 128 [.agg [az t.nodes,.int .i64 t.next,.int .i64 t.af],.int .i64 ino,.int .i64 dir,.str s] M =
  some (.tuple [.agg [az (CD t ino dir s).1.nodes,.int .i64 (CD t ino dir s).1.next,.int .i64 (CD t ino dir s).1.af],.int .i64 (CD t ino dir s).2],M):=by
 obtain ⟨dep,h⟩:=ht
 have:=aaT t ino dir s (h.sz.up (by omega)) h.ft hs trivial
 rw [SH h] at this
 exact lS (fj this rfl rfl rfl rfl rfl M)
def acx (t:Tree) (ht:Rt t) (dir:Int) (s:Bytes) (hs:s.length<=100000) (M:ag):ak (ai bV) 129 [.agg [az t.nodes,.int .i64 t.next,.int .i64 t.af],.int .i64 dir,.str s] M =
  some (.tuple [.agg [az (C2 t dir s).1.nodes,.int .i64 (C2 t dir s).1.next,.int .i64 (C2 t dir s).1.af],.int .i64 (C2 t dir s).2.1,.int .i64 (C2 t dir s).2.2],M):=by
 obtain ⟨dep,h⟩:=ht
 have:=aaU t dir s (h.sz.up (by omega)) h.ft hs trivial
 rw [TW h] at this
 exact lS (fj this rfl rfl rfl rfl rfl M)
def acy (t:Tree) (ht:Rt t) (dir:Int) (s:Bytes) (to:Int) (nm:Bytes) (hs:s.length<=100000) (hn:nm.length<=100000) (M:ag):ak (ai bV) 131 [.agg [az t.nodes,.int .i64 t.next,.int .i64 t.af],.int .i64 dir,.str s,.int .i64 to,.str nm] M =
  some (.tuple [.agg [az (xy t dir s to nm).1.nodes,.int .i64 (xy t dir s to nm).1.next,.int .i64 (xy t dir s to nm).1.af],.int .i64 (xy t dir s to nm).2.1,.int .i64 (xy t dir s to nm).2.2],M):=by
 obtain ⟨dep,h⟩:=ht
 have:=aaW t dir s to nm (h.sz.up (by omega)) h.ft hs trivial hn trivial (fun e he=>h.L9 to nm e he)
 rw [SP h] at this
 exact lS (fj this rfl rfl rfl rfl rfl M)
def ac7 (t:Tree) (ht:Rt t) (ino:Int) (s:Bytes) (hs:s.length<=100000) (M:ag):ak (ai bV) 130 [.agg [az t.nodes,.int .i64 t.next,.int .i64 t.af],.int .i64 ino,.str s] M =
  some (.tuple [.int .i64 (bU t.nodes ino s).1,.int .i64 (bU t.nodes ino s).2],M):=lS (Ng t.nodes t.next t.af ino s ht.small ht.ft hs trivial M)
def Xj (t:Tree) (ht:Rt t) (ino:Int) (d:Bytes) (hd:d.length<=100000) (M:ag):ak (ai bV) 227 [.agg [az t.nodes,.int .i64 t.next,.int .i64 t.af],.int .i64 ino,dg d] M =
  some (.tuple [.agg [az (nF t ino d).1.nodes,.int .i64 (nF t ino d).1.next,.int .i64 (nF t ino d).1.af],.int .i64 (nF t ino d).2],M):=lS (cO (abJ t ino d ht.small ht.ft hd) M)
def Rt.add {t:Tree} (h:Rt t) (dir:Int) (s:Bytes) (kind:Int):Rt (pN t dir s kind).1:=let ⟨_,g⟩:=h; GA g dir s kind (fun h=>h)
def Rt.ln {t:Tree} (h:Rt t) (ino dir:Int) (s:Bytes):Rt (CD t ino dir s).1:=let ⟨_,g⟩:=h; ⟨_,NQ g ino dir s (fun h=>h)⟩
def Rt.un {t:Tree} (h:Rt t) (dir:Int) (s:Bytes):Rt (C2 t dir s).1:=let ⟨_,g⟩:=h; ⟨_,O3 g dir s⟩
def Rt.mv {t:Tree} (h:Rt t) (dir:Int) (s:Bytes) (to:Int) (nm:Bytes):Rt (xy t dir s to nm).1:=let ⟨_,g⟩:=h; Ot g dir s to nm (fun h=>h)
def Rt.put {t:Tree} (h:Rt t) (ino:Int) (d:Bytes):Rt (nF t ino d).1:=let ⟨_,g⟩:=h; ⟨_,Ls g ino d⟩
def mH (t:Tree) (s:Bytes) (hs:s.length<=100000):(fi t s).2.1.length<=1000:=by
 have:=xk s hs
 unfold fi
 split
 ·simp
 ·split
  ·simp
  ·simp only; omega
abbrev Wk:=aa×Gj×Int
def tI (f:aa) (o:er):Wk :=
 if ((ec f.s.now o.path).2 != 0)=true then (f,bM,(ec f.s.now o.path).2)
 else (f,⟨0,(aA f.s.now.nodes (ec f.s.now o.path).1).ino,(aA f.s.now.nodes (ec f.s.now o.path).1).kind,0,0,[],[]⟩,0)
def c61 (f:aa) (o:er) (hf:nK f) (ho:uc o):gH 61 f o (tI f o):=by
 unfold gH
 refine ⟨.slice .c0 [],.slice .c0 [],.inr ⟨rfl,?_⟩,.inr ⟨rfl,?_⟩,aq ?_⟩
 ·unfold tI; split<;>rfl
 ·unfold tI; split<;>rfl
 have q1:=fun {M}=>Cp f o o.path hf.rt.small hf.rt.ft (by have:=ho.path; omega) (p:=0) (M:=M)
 unfold tI
 generalize ec f.s.now o.path=v at q1 ⊢
 simp only [aI,aG,aw] at q1
 cases he:v.2 != 0
 ·simp only [he,Bool.false_eq_true,if_false] at q1 ⊢
  simp only [M4,E61,aI,aG,aW,q1,bne_self_eq_false,Bool.false_eq_true,if_false,EW,simprocAttr]
 ·simp only [he,if_true,bP] at q1 ⊢
  simp only [M4,E61,aI,aG,aW,bM,q1,he,if_true,bP,EW,simprocAttr]
def tJ (f:aa) (o:er):Wk :=
 let v:=fi f.s.now o.path
 let w:=pN f.s.now v.1 v.2.1 o.n
 let r:=db f w.1 f.bJ
 if (v.2.2 != 0)=true then (f,bM,v.2.2)
 else if (w.2.2 != 0)=true then (f,bM,w.2.2)
 else if (r.2 != 0)=true then (r.1,bM,r.2)
 else (r.1,⟨0,w.2.1,o.n,0,0,[],[]⟩,0)
def c62 (f:aa) (o:er) (hf:nK f) (ho:uc o):gH 62 f o (tJ f o):=by
 unfold gH
 refine ⟨.slice .c0 [],.slice .c0 [],.inr ⟨rfl,?_⟩,.inr ⟨rfl,?_⟩,aq ?_⟩
 ·unfold tJ; simp only []; split<;>(try split)<;>(try split)<;>rfl
 ·unfold tJ; simp only []; split<;>(try split)<;>(try split)<;>rfl
 have hp:o.path.length<=100000:=by have:=ho.path; omega
 have q1:=fun {M}=>IU f o o.path hf.rt.small hf.rt.ft hp (p:=0) (M:=M)
 have hl:=mH f.s.now o.path hp
 unfold tJ
 simp only []
 generalize fi f.s.now o.path=v at q1 hl ⊢
 have q2:=acv f.s.now hf.rt v.1 v.2.1 o.n (by omega)
 have hr:=hf.rt.add v.1 v.2.1 o.n
 generalize pN f.s.now v.1 v.2.1 o.n=w at q2 hr ⊢
 have q3:=lj w.2.2
 have q4:=fun {M}=>Fi f o w.1 f.bJ hf hr hf.bJ hf.pv (p:=0) (M:=M)
 generalize db f w.1 f.bJ=r at q4 ⊢
 simp only [aI,aG] at q1 q4
 cases he:v.2.2 != 0
 ·simp only [he,Bool.false_eq_true,if_false] at q1 ⊢
  cases hw:w.2.2 != 0
  ·simp only [hw,Bool.false_eq_true,if_false] at q3 ⊢
   cases hs:r.2 != 0
   ·simp only [hs,Bool.false_eq_true,if_false] at q4 ⊢
    simp only [E3,ZO,aI,aG,aW,q1,q2,q3,q4,bne_self_eq_false,Bool.false_eq_true,if_false,EW,simprocAttr]
   ·simp only [hs,if_true,bP] at q4 ⊢
    simp only [E3,ZO,aI,aG,aW,bM,q1,q2,q3,q4,hs,if_true,EW,simprocAttr]
  ·simp only [hw,if_true,bP] at q3 ⊢
   simp only [E3,ZO,aI,aG,aW,bM,q1,q2,q3,hw,if_true,EW,simprocAttr]
 ·simp only [he,if_true,bP] at q1 ⊢
  simp only [E3,ZO,aI,aG,aW,bM,q1,he,if_true,EW,simprocAttr]
def ac8 (t:Tree) (ht:Rt t) (l:List bT) (c h ino:Int) (hl:qp l) (hn:l.length<=64) (M:ag):ak (ai bV) 135 [.agg [az t.nodes,.int .i64 t.next,.int .i64 t.af],dC l,.int .i64 c,.int .i64 h,.int .i64 ino] M=some (.tuple [dC (nA t l c h ino).1,.int .i64 (nA t l c h ino).2],M):=lS (acA t l c h ino ht.small ht.ft hl hn M)
def ac9 (t:Tree) (ht:Rt t) (l:List bT) (c h:Int) (hn:l.length<=64) (M:ag):ak (ai bV) 136 [.agg [az t.nodes,.int .i64 t.next,.int .i64 t.af],dC l,.int .i64 c,.int .i64 h] M=some (.tuple [.agg (ar (eY t l c h).1),dC (eY t l c h).2.1,.int .i64 (eY t l c h).2.2],M):=lS (WN t l c h ht.small ht.ft hn M)
def acC (t:Tree) (l:List bp) (ino nodes bytes:Int) (ht:Rt t) (hq:lg l) (hn:l.length<=16) (M:ag):ak (ai bV) 141 [.agg [az t.nodes,.int .i64 t.next,.int .i64 t.af],bC l,.int .i64 ino,.int .i64 nodes,.int .i64 bytes] M=some (.tuple [bC (lX t l ino nodes bytes).1,.int .i64 (lX t l ino nodes bytes).2],M) :=
 lS (cO (aa4 t l ino nodes bytes ht hq hn) M)
def Xk (f:aa) (hf:nK f) (t:Tree) (ht:Rt t) (M:ag):ak (ai bV) 137 [.agg (a8 f.s),.agg [az t.nodes,.int .i64 t.next,.int .i64 t.af]] M=some (.agg (a8 (lG f.s t)),M) :=
 lS (WO f.s t hf.rt.ft hf.rt.sz ht.ft ht.sz (by have:=hf.taken; omega) hf.len (by have:=hf.cv; omega) M)
def Rt.gone {t:Tree} (h:Rt t) (c:Int):∀(l k:List bT),Rt (iZ c l t k).1:=by
 intro l
 induction l generalizing t with
 |nil=>intro k; exact h
 |cons x r ih =>
  intro k
  rw [iZ]
  split
  ·exact ih (h.close _ _ _) _
  ·exact ih h _
def DA {α:Type} {lt:α->Bool} {R:α->α->Prop} {l:List α} {b:Nat} (h:l.Pairwise R) (hl:Gw lt l b) {x:α} (h1:∀y,y∈l->lt y=true->R y x) (h2:∀y,y∈l->lt y=false->R x y) (ht:∀a b c,R a b->R b c->R a c):(l.take b++x::l.drop b).Pairwise R:=by
 have hT:∀y,y∈l.take b->R y x:=by
  intro y hy
  obtain ⟨i,hi⟩:=List.getElem?_of_mem hy
  rw [List.getElem?_take] at hi
  split at hi
  ·rename_i hib
   exact h1 y (List.mem_of_getElem? hi) ((hl.lt i y hi).2 hib)
  ·cases hi
 have hD:∀y,y∈l.drop b->R x y:=by
  intro y hy
  obtain ⟨i,hi⟩:=List.getElem?_of_mem hy
  rw [List.getElem?_drop] at hi
  refine h2 y (List.mem_of_getElem? hi) ?_
  cases he:lt y
  ·rfl
  ·have:=(hl.lt _ y hi).1 he; omega
 rw [List.pairwise_append]
 refine ⟨h.sublist (List.take_sublist _ _),List.pairwise_cons.2 ⟨hD,h.sublist (List.drop_sublist _ _)⟩,?_⟩
 intro a ha c hc
 rcases List.mem_cons.1 hc with rfl|hc
 ·exact hT a ha
 ·exact ht _ _ _ (hT a ha) (hD c hc)
def xK {t:Tree} {l:List bp} (hq:lg l) (hn:l.length<=16) (ino nodes bytes:Int):lg (lX t l ino nodes bytes).1/\(lX t l ino nodes bytes).1.length<=16:=by
 have hlow:=sy hq ino
 have hat:=GD (key:=bp.ino) hq ino
 have e1:IP bp.ino l ino=Co l ino:=rfl
 have e2:mu bp.ino l ino=sx l ino:=rfl
 rw [e1,e2] at hat
 unfold lX
 split
 ·exact ⟨hq,hn⟩
 split
 ·exact ⟨hq,hn⟩
 split
 ·split
  ·exact ⟨hq.sublist (List.eraseIdx_sublist _ _),Nat.le_trans (List.eraseIdx_sublist _ _).length_le hn⟩
  ·exact ⟨hq,hn⟩
 split
 ·exact ⟨hq,hn⟩
 split
 ·rename_i hi
  rcases hat with ⟨_,n,h2,h3,_⟩|⟨h1,_⟩
  ·refine ⟨?_,by simpa using hn⟩
   have hm:((l.set (sx l ino) ⟨ino,nodes,bytes⟩).map bp.ino)=l.map bp.ino:=by
    rw [List.map_set]
    have hlt:=(List.getElem?_eq_some_iff.1 h2).1
    refine List.ext_getElem? fun i=>?_
    rw [List.getElem?_set]
    split
    ·rename_i hh
     subst hh
     simp only [List.length_map,hlt,if_true,List.getElem?_map,h2,Option.map_some,h3]
    ·rfl
   have:((l.set (sx l ino) ⟨ino,nodes,bytes⟩).map bp.ino).Pairwise (· < ·):=by rw [hm]; exact List.pairwise_map.2 hq
   exact List.pairwise_map.1 this
  ·rw [hi] at h1; cases h1
 split
 ·exact ⟨hq,hn⟩
 ·rename_i hi hlen
  have hne:∀y,y∈l->y.ino≠ino:=by
   rcases hat with ⟨h1,_⟩|⟨_,h2⟩
   ·exact absurd h1 hi
   ·intro y hy; have:=List.find?_eq_none.1 h2 y hy; simpa using this
  simp only [ge_iff_le,decide_eq_true_eq] at hlen
  refine ⟨DA hq hlow (fun y hy h=>?_) (fun y hy h=>?_) (fun a b c h1 h2=>Int.lt_trans h1 h2),by simp; have:=hlow.le; omega⟩
  ·simp only [decide_eq_true_eq,oW] at h; exact h
  ·simp only [decide_eq_false_iff_not,oW] at h; have:=hne y hy; simp only; omega
def tG (f:aa) (o:er):Wk :=
 let v:=ec f.s.now o.path
 let n:=aA f.s.now.nodes v.1
 let s:=fi f.s.now o.nj
 let w:=CD f.s.now n.ino s.1 s.2.1
 let r:=db f w.1 f.bJ
 if (v.2 != 0)=true then (f,bM,v.2) else
 if (s.2.2 != 0)=true then (f,bM,s.2.2) else
 if (w.2 != 0)=true then (f,bM,w.2) else
 if (r.2 != 0)=true then (r.1,bM,r.2) else
 (r.1,⟨0,n.ino,0,0,0,[],[]⟩,0)
def c63 (f:aa) (o:er) (hf:nK f) (ho:uc o):gH 63 f o (tG f o):=by
 unfold gH
 have hp:o.path.length<=100000:=by have:=ho.path; omega
 have hto:o.nj.length<=100000:=by have:=ho.nj; omega
 refine ⟨.slice .c0 [],.slice .c0 [],.inr ⟨rfl,?_⟩,.inr ⟨rfl,?_⟩,aq ?_⟩
 ·unfold tG; simp only []; split<;>(try split)<;>(try split)<;>(try split)<;>rfl
 ·unfold tG; simp only []; split<;>(try split)<;>(try split)<;>(try split)<;>rfl
 unfold tG
 simp only []
 have q1:=fun {M}=>Cp f o o.path hf.rt.small hf.rt.ft hp (p:=0) (M:=M)
 generalize ec f.s.now o.path=v at q1 ⊢
 have q1:=@q1
 generalize aA f.s.now.nodes v.1=n at q1 ⊢
 have hl:=mH f.s.now o.nj hto
 have q2:=fun {M}=>IU f o o.nj hf.rt.small hf.rt.ft hto (p:=0) (M:=M)
 have hl:=hl
 generalize fi f.s.now o.nj=s at q2 hl ⊢
 have q3:=acw f.s.now hf.rt n.ino s.1 s.2.1 (by omega)
 have hr:=hf.rt.ln n.ino s.1 s.2.1
 generalize CD f.s.now n.ino s.1 s.2.1=w at q3 hr ⊢
 have q5:=fun {M}=>Fi f o w.1 f.bJ hf hr hf.bJ hf.pv (p:=0) (M:=M)
 generalize db f w.1 f.bJ=r at q5 ⊢
 simp only [aI,aG,aw,a8,ar] at q1 q2 q3 q5
 cases h0:v.2 != 0
 ·
  cases h1:s.2.2 != 0
  ·
   cases h2:w.2 != 0
   ·
    cases h3:r.2 != 0
    ·
     simp only [Ci,Uj,aI,aG,aW,bM,q1,q2,q3,q5,h0,h1,h2,h3,lj,bne_self_eq_false,Bool.false_eq_true,if_true,if_false,EW,simprocAttr]
    ·
     simp only [Ci,Uj,aI,aG,aW,bM,q1,q2,q3,q5,h0,h1,h2,h3,bP,lj,bne_self_eq_false,Bool.false_eq_true,if_true,if_false,EW,simprocAttr]
   ·
    simp only [Ci,Uj,aI,aG,aW,bM,q1,q2,q3,q5,h0,h1,h2,bP,lj,bne_self_eq_false,Bool.false_eq_true,if_true,if_false,EW,simprocAttr]
  ·
   simp only [Ci,Uj,aI,aG,aW,bM,q1,q2,q3,q5,h0,h1,bP,lj,bne_self_eq_false,Bool.false_eq_true,if_true,if_false,EW,simprocAttr]
 ·
  simp only [Ci,Uj,aI,aG,aW,bM,q1,q2,q3,q5,h0,bP,lj,bne_self_eq_false,Bool.false_eq_true,if_true,if_false,EW,simprocAttr]
def lI (f:aa) (o:er):Wk :=
 let s:=fi f.s.now o.path
 let w:=C2 f.s.now s.1 s.2.1
 let r:=db f w.1 f.bJ
 if (s.2.2 != 0)=true then (f,bM,s.2.2) else
 if (w.2.2 != 0)=true then (f,bM,w.2.2) else
 if (r.2 != 0)=true then (r.1,bM,r.2) else
 (r.1,⟨0,w.2.1,0,0,0,[],[]⟩,0)
def c64 (f:aa) (o:er) (hf:nK f) (ho:uc o):gH 64 f o (lI f o):=by
 unfold gH
 have hp:o.path.length<=100000:=by have:=ho.path; omega
 have hto:o.nj.length<=100000:=by have:=ho.nj; omega
 refine ⟨.slice .c0 [],.slice .c0 [],.inr ⟨rfl,?_⟩,.inr ⟨rfl,?_⟩,aq ?_⟩
 ·unfold lI; simp only []; split<;>(try split)<;>(try split)<;>rfl
 ·unfold lI; simp only []; split<;>(try split)<;>(try split)<;>rfl
 unfold lI
 simp only []
 have hl:=mH f.s.now o.path hp
 have q2:=fun {M}=>IU f o o.path hf.rt.small hf.rt.ft hp (p:=0) (M:=M)
 have hl:=hl
 generalize fi f.s.now o.path=s at q2 hl ⊢
 have q3:=acx f.s.now hf.rt s.1 s.2.1 (by omega)
 have hr:=hf.rt.un s.1 s.2.1
 generalize C2 f.s.now s.1 s.2.1=w at q3 hr ⊢
 have q5:=fun {M}=>Fi f o w.1 f.bJ hf hr hf.bJ hf.pv (p:=0) (M:=M)
 generalize db f w.1 f.bJ=r at q5 ⊢
 simp only [aI,aG,aw,a8,ar] at q2 q3 q5
 cases h0:s.2.2 != 0
 ·
  cases h1:w.2.2 != 0
  ·
   cases h2:r.2 != 0
   ·
    simp only [E4,ZP,aI,aG,aW,bM,q2,q3,q5,h0,h1,h2,lj,bne_self_eq_false,Bool.false_eq_true,if_true,if_false,EW,simprocAttr]
   ·
    simp only [E4,ZP,aI,aG,aW,bM,q2,q3,q5,h0,h1,h2,bP,lj,bne_self_eq_false,Bool.false_eq_true,if_true,if_false,EW,simprocAttr]
  ·
   simp only [E4,ZP,aI,aG,aW,bM,q2,q3,q5,h0,h1,bP,lj,bne_self_eq_false,Bool.false_eq_true,if_true,if_false,EW,simprocAttr]
 ·
  simp only [E4,ZP,aI,aG,aW,bM,q2,q3,q5,h0,bP,lj,bne_self_eq_false,Bool.false_eq_true,if_true,if_false,EW,simprocAttr]
def lH (f:aa) (o:er):Wk :=
 let s:=fi f.s.now o.path
 let u:=fi f.s.now o.nj
 let l:=bU f.s.now.nodes s.1 s.2.1
 let w:=xy f.s.now s.1 s.2.1 u.1 u.2.1
 let r:=db f w.1 f.bJ
 if (s.2.2 != 0)=true then (f,bM,s.2.2) else
 if (u.2.2 != 0)=true then (f,bM,u.2.2) else
 if (l.2 != 0)=true then (f,bM,l.2) else
 if (w.2.2 != 0)=true then (f,bM,w.2.2) else
 if (r.2 != 0)=true then (r.1,bM,r.2) else
 (r.1,⟨0,l.1,0,0,0,[],[]⟩,0)
def c65 (f:aa) (o:er) (hf:nK f) (ho:uc o):gH 65 f o (lH f o):=by
 unfold gH
 have hp:o.path.length<=100000:=by have:=ho.path; omega
 have hto:o.nj.length<=100000:=by have:=ho.nj; omega
 refine ⟨.slice .c0 [],.slice .c0 [],.inr ⟨rfl,?_⟩,.inr ⟨rfl,?_⟩,aq ?_⟩
 ·unfold lH; simp only []; split<;>(try split)<;>(try split)<;>(try split)<;>(try split)<;>rfl
 ·unfold lH; simp only []; split<;>(try split)<;>(try split)<;>(try split)<;>(try split)<;>rfl
 unfold lH
 simp only []
 have hl:=mH f.s.now o.path hp
 have q1:=fun {M}=>IU f o o.path hf.rt.small hf.rt.ft hp (p:=0) (M:=M)
 have hl:=hl
 generalize fi f.s.now o.path=s at q1 hl ⊢
 have hl2:=mH f.s.now o.nj hto
 have q2:=fun {M}=>IU f o o.nj hf.rt.small hf.rt.ft hto (p:=0) (M:=M)
 have hl2:=hl2
 generalize fi f.s.now o.nj=u at q2 hl2 ⊢
 have q3:=ac7 f.s.now hf.rt s.1 s.2.1 (by omega)
 generalize bU f.s.now.nodes s.1 s.2.1=l at q3 ⊢
 have q4:=acy f.s.now hf.rt s.1 s.2.1 u.1 u.2.1 (by omega) (by omega)
 have hr:=hf.rt.mv s.1 s.2.1 u.1 u.2.1
 generalize xy f.s.now s.1 s.2.1 u.1 u.2.1=w at q4 hr ⊢
 have q5:=fun {M}=>Fi f o w.1 f.bJ hf hr hf.bJ hf.pv (p:=0) (M:=M)
 generalize db f w.1 f.bJ=r at q5 ⊢
 simp only [aI,aG,aw,a8,ar] at q1 q2 q3 q4 q5
 cases h0:s.2.2 != 0
 ·
  cases h1:u.2.2 != 0
  ·
   cases h2:l.2 != 0
   ·
    cases h3:w.2.2 != 0
    ·
     cases h4:r.2 != 0
     ·
      simp only [Ae,TZ,aI,aG,aW,bM,q1,q2,q3,q4,q5,h0,h1,h2,h3,h4,lj,bne_self_eq_false,Bool.false_eq_true,if_true,if_false,EW,simprocAttr]
     ·
      simp only [Ae,TZ,aI,aG,aW,bM,q1,q2,q3,q4,q5,h0,h1,h2,h3,h4,bP,lj,bne_self_eq_false,Bool.false_eq_true,if_true,if_false,EW,simprocAttr]
    ·
     simp only [Ae,TZ,aI,aG,aW,bM,q1,q2,q3,q4,q5,h0,h1,h2,h3,bP,lj,bne_self_eq_false,Bool.false_eq_true,if_true,if_false,EW,simprocAttr]
   ·
    simp only [Ae,TZ,aI,aG,aW,bM,q1,q2,q3,q4,q5,h0,h1,h2,bP,lj,bne_self_eq_false,Bool.false_eq_true,if_true,if_false,EW,simprocAttr]
  ·
   simp only [Ae,TZ,aI,aG,aW,bM,q1,q2,q3,q4,q5,h0,h1,bP,lj,bne_self_eq_false,Bool.false_eq_true,if_true,if_false,EW,simprocAttr]
 ·
  simp only [Ae,TZ,aI,aG,aW,bM,q1,q2,q3,q4,q5,h0,bP,lj,bne_self_eq_false,Bool.false_eq_true,if_true,if_false,EW,simprocAttr]
def tX (f:aa) (o:er):Wk :=
 let v:=ec f.s.now o.path
 let n:=aA f.s.now.nodes v.1
 if (v.2 != 0)=true then (f,bM,v.2) else
 (f,⟨0,n.ino,n.kind,n.bw,rJ n,[],[]⟩,0)
def c67 (f:aa) (o:er) (hf:nK f) (ho:uc o):gH 67 f o (tX f o):=by
 unfold gH
 have hp:o.path.length<=100000:=by have:=ho.path; omega
 have hto:o.nj.length<=100000:=by have:=ho.nj; omega
 refine ⟨.slice .c0 [],.slice .c0 [],.inr ⟨rfl,?_⟩,.inr ⟨rfl,?_⟩,aq ?_⟩
 ·unfold tX; simp only []; split<;>rfl
 ·unfold tX; simp only []; split<;>rfl
 unfold tX
 simp only []
 have q1:=fun {M}=>Cp f o o.path hf.rt.small hf.rt.ft hp (p:=0) (M:=M)
 generalize ec f.s.now o.path=v at q1 ⊢
 have q1:=@q1
 generalize aA f.s.now.nodes v.1=n at q1 ⊢
 have q2:=fun M=>Ry n M
 simp only [aI,aG,aw,a8,ar] at q1 q2
 cases h0:v.2 != 0
 ·
  simp only [M5,E67,aI,aG,aW,bM,q1,q2,h0,bne_self_eq_false,Bool.false_eq_true,if_true,if_false,EW,simprocAttr]
 ·
  simp only [M5,E67,aI,aG,aW,bM,q1,q2,h0,bP,bne_self_eq_false,Bool.false_eq_true,if_true,if_false,EW,simprocAttr]
def tK (f:aa) (o:er):Wk :=
 let v:=ec f.s.now o.path
 let n:=aA f.s.now.nodes v.1
 let w:=nA f.s.now f.holds o.bq o.handle n.ino
 if (v.2 != 0)=true then (f,bM,v.2) else
 if (w.2 != 0)=true then (f,bM,w.2) else
 (⟨f.s,w.1,f.bJ⟩,⟨0,n.ino,0,0,0,[],[]⟩,0)
def c68 (f:aa) (o:er) (hf:nK f) (ho:uc o):gH 68 f o (tK f o):=by
 unfold gH
 have hp:o.path.length<=100000:=by have:=ho.path; omega
 have hto:o.nj.length<=100000:=by have:=ho.nj; omega
 refine ⟨.slice .c0 [],.slice .c0 [],.inr ⟨rfl,?_⟩,.inr ⟨rfl,?_⟩,aq ?_⟩
 ·unfold tK; simp only []; split<;>(try split)<;>rfl
 ·unfold tK; simp only []; split<;>(try split)<;>rfl
 unfold tK
 simp only []
 have q1:=fun {M}=>Cp f o o.path hf.rt.small hf.rt.ft hp (p:=0) (M:=M)
 generalize ec f.s.now o.path=v at q1 ⊢
 have q1:=@q1
 generalize aA f.s.now.nodes v.1=n at q1 ⊢
 have q2:=ac8 f.s.now hf.rt f.holds o.bq o.handle n.ino hf.holds hf.hlen
 generalize nA f.s.now f.holds o.bq o.handle n.ino=w at q2 ⊢
 simp only [aI,aG,aw,a8,ar] at q1 q2
 cases h0:v.2 != 0
 ·
  cases h1:w.2 != 0
  ·
   simp only [Iq,E68,aI,aG,aW,bM,q1,q2,h0,h1,lj,bne_self_eq_false,Bool.false_eq_true,if_true,if_false,EW,simprocAttr]
  ·
   simp only [Iq,E68,aI,aG,aW,bM,q1,q2,h0,h1,bP,lj,bne_self_eq_false,Bool.false_eq_true,if_true,if_false,EW,simprocAttr]
 ·
  simp only [Iq,E68,aI,aG,aW,bM,q1,q2,h0,bP,lj,bne_self_eq_false,Bool.false_eq_true,if_true,if_false,EW,simprocAttr]
def nR (f:aa) (o:er):Wk :=
 let w:=eY f.s.now f.holds o.bq o.handle
 let p:=lG f.s w.1
 if (w.2.2 != 0)=true then (f,bM,w.2.2) else
 (⟨p,w.2.1,f.bJ⟩,bM,0)
def c69 (f:aa) (o:er) (hf:nK f) (ho:uc o):gH 69 f o (nR f o):=by
 unfold gH
 have hp:o.path.length<=100000:=by have:=ho.path; omega
 have hto:o.nj.length<=100000:=by have:=ho.nj; omega
 refine ⟨.slice .c0 [],.slice .c0 [],.inr ⟨rfl,?_⟩,.inr ⟨rfl,?_⟩,aq ?_⟩
 ·unfold nR; simp only []; split<;>rfl
 ·unfold nR; simp only []; split<;>rfl
 unfold nR
 simp only []
 have q2:=ac9 f.s.now hf.rt f.holds o.bq o.handle hf.hlen
 have hr:=hf.rt.close f.holds o.bq o.handle
 generalize eY f.s.now f.holds o.bq o.handle=w at q2 hr ⊢
 have q3:=Xk f hf w.1 hr
 generalize lG f.s w.1=p at q3 ⊢
 simp only [aI,aG,aw,a8,ar] at q2 q3
 cases h0:w.2.2 != 0
 ·
  simp only [M6,E69,aI,aG,aW,bM,q2,q3,h0,lj,bne_self_eq_false,Bool.false_eq_true,if_true,if_false,EW,simprocAttr]
 ·
  simp only [M6,E69,aI,aG,aW,bM,q2,q3,h0,bP,lj,bne_self_eq_false,Bool.false_eq_true,if_true,if_false,EW,simprocAttr]
def oe (f:aa) (o:er):Wk :=
 let v:=ec f.s.now o.path
 let n:=aA f.s.now.nodes v.1
 let w:=lX f.s.now f.bJ n.ino o.n o.m
 let r:=db f f.s.now w.1
 if (v.2 != 0)=true then (f,bM,v.2) else
 if (w.2 != 0)=true then (f,bM,w.2) else
 if (r.2 != 0)=true then (r.1,bM,r.2) else
 (r.1,⟨0,n.ino,0,0,0,[],[]⟩,0)
def c73 (f:aa) (o:er) (hf:nK f) (ho:uc o):gH 73 f o (oe f o):=by
 unfold gH
 have hp:o.path.length<=100000:=by have:=ho.path; omega
 have hto:o.nj.length<=100000:=by have:=ho.nj; omega
 refine ⟨.slice .c0 [],.slice .c0 [],.inr ⟨rfl,?_⟩,.inr ⟨rfl,?_⟩,aq ?_⟩
 ·unfold oe; simp only []; split<;>(try split)<;>(try split)<;>rfl
 ·unfold oe; simp only []; split<;>(try split)<;>(try split)<;>rfl
 unfold oe
 simp only []
 have q1:=fun {M}=>Cp f o o.path hf.rt.small hf.rt.ft hp (p:=0) (M:=M)
 generalize ec f.s.now o.path=v at q1 ⊢
 have q1:=@q1
 generalize aA f.s.now.nodes v.1=n at q1 ⊢
 have q2:=acC f.s.now f.bJ n.ino o.n o.m hf.rt hf.bJ hf.pv
 have hr:=xK (t:=f.s.now) hf.bJ hf.pv n.ino o.n o.m
 generalize lX f.s.now f.bJ n.ino o.n o.m=w at q2 hr ⊢
 have q5:=fun {M}=>Fi f o f.s.now w.1 hf hf.rt hr.1 hr.2 (p:=0) (M:=M)
 generalize db f f.s.now w.1=r at q5 ⊢
 simp only [aI,aG,aw,a8,ar] at q1 q2 q5
 cases h0:v.2 != 0
 ·
  cases h1:w.2 != 0
  ·
   cases h2:r.2 != 0
   ·
    simp only [E5,ZQ,aI,aG,aW,bM,q1,q2,q5,h0,h1,h2,lj,bne_self_eq_false,Bool.false_eq_true,if_true,if_false,EW,simprocAttr]
   ·
    simp only [E5,ZQ,aI,aG,aW,bM,q1,q2,q5,h0,h1,h2,bP,lj,bne_self_eq_false,Bool.false_eq_true,if_true,if_false,EW,simprocAttr]
  ·
   simp only [E5,ZQ,aI,aG,aW,bM,q1,q2,q5,h0,h1,bP,lj,bne_self_eq_false,Bool.false_eq_true,if_true,if_false,EW,simprocAttr]
 ·
  simp only [E5,ZQ,aI,aG,aW,bM,q1,q2,q5,h0,bP,lj,bne_self_eq_false,Bool.false_eq_true,if_true,if_false,EW,simprocAttr]
def tY (f:aa) (o:er):Wk :=
 let v:=ec f.s.now o.path
 let n:=aA f.s.now.nodes v.1
 let w:=takeN f.s n.ino
 if (v.2 != 0)=true then (f,bM,v.2) else
 if (w.2.2 != 0)=true then (f,bM,w.2.2) else
 (⟨w.1,f.holds,f.bJ⟩,⟨0,0,0,w.2.1,0,[],[]⟩,0)
def c74 (f:aa) (o:er) (hf:nK f) (ho:uc o):gH 74 f o (tY f o):=by
 unfold gH
 have hp:o.path.length<=100000:=by have:=ho.path; omega
 have hto:o.nj.length<=100000:=by have:=ho.nj; omega
 refine ⟨.slice .c0 [],.slice .c0 [],.inr ⟨rfl,?_⟩,.inr ⟨rfl,?_⟩,aq ?_⟩
 ·unfold tY; simp only []; split<;>(try split)<;>rfl
 ·unfold tY; simp only []; split<;>(try split)<;>rfl
 unfold tY
 simp only []
 have q1:=fun {M}=>Cp f o o.path hf.rt.small hf.rt.ft hp (p:=0) (M:=M)
 generalize ec f.s.now o.path=v at q1 ⊢
 have q1:=@q1
 generalize aA f.s.now.nodes v.1=n at q1 ⊢
 have q2:=fun M=>lS (acD f.s n.ino hf.rt.small hf.rt.ft hf.taken M)
 generalize takeN f.s n.ino=w at q2 ⊢
 simp only [aI,aG,aw,a8,ar] at q1 q2
 cases h0:v.2 != 0
 ·
  cases h1:w.2.2 != 0
  ·
   simp only [It,E74,aI,aG,aW,bM,q1,q2,h0,h1,lj,bne_self_eq_false,Bool.false_eq_true,if_true,if_false,EW,simprocAttr]
  ·
   simp only [It,E74,aI,aG,aW,bM,q1,q2,h0,h1,bP,lj,bne_self_eq_false,Bool.false_eq_true,if_true,if_false,EW,simprocAttr]
 ·
  simp only [It,E74,aI,aG,aW,bM,q1,q2,h0,bP,lj,bne_self_eq_false,Bool.false_eq_true,if_true,if_false,EW,simprocAttr]
def tu (f:aa) (o:er):Wk :=
 let w:=ra f.s o.n
 if (w.2 != 0)=true then (f,bM,w.2) else
 (⟨w.1,f.holds,f.bJ⟩,bM,0)
def c76 (f:aa) (o:er) (hf:nK f) (ho:uc o):gH 76 f o (tu f o):=by
 unfold gH
 have hp:o.path.length<=100000:=by have:=ho.path; omega
 have hto:o.nj.length<=100000:=by have:=ho.nj; omega
 refine ⟨.slice .c0 [],.slice .c0 [],.inr ⟨rfl,?_⟩,.inr ⟨rfl,?_⟩,aq ?_⟩
 ·unfold tu; simp only []; split<;>rfl
 ·unfold tu; simp only []; split<;>rfl
 unfold tu
 simp only []
 have q2:=fun M=>lS (acG f.s o.n (by have:=hf.taken; omega) (by have:=hf.cv; omega) M)
 generalize ra f.s o.n=w at q2 ⊢
 simp only [aI,aG,aw,a8,ar] at q2
 cases h0:w.2 != 0
 ·
  simp only [M7,E76,aI,aG,aW,bM,q2,h0,lj,bne_self_eq_false,Bool.false_eq_true,if_true,if_false,EW,simprocAttr]
 ·
  simp only [M7,E76,aI,aG,aW,bM,q2,h0,bP,lj,bne_self_eq_false,Bool.false_eq_true,if_true,if_false,EW,simprocAttr]
def pV (f:aa) (o:er):Wk :=
 let w:=tD f.s.now f.holds o.bq
 let p:=lG f.s w.1
 (⟨p,w.2,f.bJ⟩,bM,0)
def c77 (f:aa) (o:er) (hf:nK f) (ho:uc o):gH 77 f o (pV f o):=by
 unfold gH
 have hp:o.path.length<=100000:=by have:=ho.path; omega
 have hto:o.nj.length<=100000:=by have:=ho.nj; omega
 refine ⟨.slice .c0 [],.slice .c0 [],.inr ⟨rfl,?_⟩,.inr ⟨rfl,?_⟩,aq ?_⟩
 ·unfold pV; simp only []; skip<;>rfl
 ·unfold pV; simp only []; skip<;>rfl
 unfold pV
 simp only []
 have q2:=fun M=>lS (acH f.s.now f.holds o.bq hf.rt hf.hlen M)
 have hr:=(show Rt (tD f.s.now f.holds o.bq).1 from hf.rt.gone o.bq _ _)
 generalize tD f.s.now f.holds o.bq=w at q2 hr ⊢
 have q3:=Xk f hf w.1 hr
 generalize lG f.s w.1=p at q3 ⊢
 simp only [aI,aG,aw,a8,ar] at q2 q3
 simp only [Rf,E77,aI,aG,aW,bM,q2,q3,bne_self_eq_false,Bool.false_eq_true,if_true,if_false,EW,simprocAttr]
def cR (f:aa) (o:er):Node×Int :=
 if ((yt f.holds o.bq o.handle).2 != 0)=true then (Node.zero,(yt f.holds o.bq o.handle).2)
 else if decide (0<=o.n)=true then (aA f.s.now.nodes (yt f.holds o.bq o.handle).1,0) else (Node.zero,1)
def c138 (f:aa) (o:er) (hf:nK f):ai bV 138 [.ptr 0 0] [aI f o]=some (if ((cR f o).2 != 0)=true then bP (cR f o).2 else .agg (aw (cR f o).1),[aI f o]):=by
 refine aq ?_
 have q1:=fun M=>lS (acR f.holds o.bq o.handle (by have:=hf.hlen; omega) M)
 have q2:=fun bb=>Gm bb 1 rfl
 unfold cR
 generalize yt f.holds o.bq o.handle=v at q1 ⊢
 have q3:=fun {M}=>WW f o v.1 hf.rt.small hf.rt.ft (p:=0) (M:=M)
 simp only [aI,aG,aw] at q3
 cases h0:v.2 != 0
 ·cases h1:decide (0<=o.n)
  ·simp only [zX,Qe,aI,aG,aw,q1,q2,q3,lj,h0,h1,bP,bne_self_eq_false,Bool.false_eq_true,if_true,if_false,EW,simprocAttr]
  ·simp only [zX,Qe,aI,aG,aw,q1,q2,q3,lj,h0,h1,bP,bne_self_eq_false,Bool.false_eq_true,if_true,if_false,EW,simprocAttr]
 ·simp only [zX,Qe,aI,aG,aw,q1,q2,q3,lj,h0,bP,bne_self_eq_false,Bool.false_eq_true,if_true,if_false,EW,simprocAttr]
def Rz (f:aa) (o:er) (hf:nK f) {p:Nat} {M:ag} (hM:nth M p=some (aI f o)):ak (ai bV) 138 [.ptr p 0] M=some (if ((cR f o).2 != 0)=true then bP (cR f o).2 else .agg (aw (cR f o).1),M):=by
 have:=Av (vs:=[]) hM (c138 f o hf) rfl rfl (by split<;>rfl) (fun _=>rfl) (fun _=>by split<;>rfl)
 rwa [gG hM] at this
def iC (f:aa) (o:er) (ino:Int) (d:Bytes):Wk :=
 let w:=nF f.s.now ino d
 let r:=db f w.1 f.bJ
 if (w.2 != 0)=true then (f,bM,w.2) else
 if (r.2 != 0)=true then (r.1,bM,r.2) else
 (r.1,⟨0,ino,0,0,d.length,[],[]⟩,0)
def aa3 (f:aa) (o:er) (hf:nK f) (ino:Int) (d:Bytes) (hd:d.length<=100000):ai bV 140 [.ptr 0 0,.int .i64 ino,dg d] [aI f o] =
  some (if ((iC f o ino d).2.2 != 0)=true then bP (iC f o ino d).2.2 else .tuple [],[aW (iC f o ino d).1 o (iC f o ino d).2.1 (.slice .c0 []) (.slice .c0 [])]):=by
 refine aq ?_
 unfold iC
 simp only []
 have q1:=Xj f.s.now hf.rt ino d hd
 have hr:=hf.rt.put ino d
 generalize nF f.s.now ino d=w at q1 hr ⊢
 have q5:=fun {M}=>Fi f o w.1 f.bJ hf hr hf.bJ hf.pv (p:=0) (M:=M)
 generalize db f w.1 f.bJ=r at q5 ⊢
 simp only [aI,aG] at q5
 cases h0:w.2 != 0
 ·cases h1:r.2 != 0
  ·simp only [zY,Qf,aI,aG,aW,bM,q1,q5,lj,h0,h1,bne_self_eq_false,Bool.false_eq_true,if_true,if_false,EW,simprocAttr]
  ·simp only [zY,Qf,aI,aG,aW,bM,q1,q5,lj,h0,h1,bP,bne_self_eq_false,Bool.false_eq_true,if_true,if_false,EW,simprocAttr]
 ·simp only [zY,Qf,aI,aG,aW,bM,q1,q5,lj,h0,bP,bne_self_eq_false,Bool.false_eq_true,if_true,if_false,EW,simprocAttr]
def WQ (f:aa) (o:er) (hf:nK f) (ino:Int) (d:Bytes) (hd:d.length<=100000) {p:Nat} {M:ag} (hM:nth M p=some (aI f o)):ak (ai bV) 140 [.ptr p 0,.int .i64 ino,dg d] M =
  some (if ((iC f o ino d).2.2 != 0)=true then bP (iC f o ino d).2.2 else .tuple [],cS M p (aW (iC f o ino d).1 o (iC f o ino d).2.1 (.slice .c0 []) (.slice .c0 []))) :=
 gb hM (aa3 f o hf ino d hd) rfl rfl (by split<;>rfl) rfl (by split<;>rfl) rfl rfl rfl rfl rfl
end
section
def ada (d:Bytes) (hd:d.length<=100000) (M:ag):ak (ai bV) 139 [dg d] M=some (dg d,M):=by
 have h:ai aQ 139 [dg d] []=some (dg d,[]):=by
  refine bz (g:=S7 1 1) rfl ?_
  show AQ 1 1 [dg d] []=_
  unfold AQ
  simp only []
  have hw:wid (d.map jk) 1:=by have:=jD d; simpa using this
  have hr:bB (d.map jk).length 1:=by have:=dj (a:=d.length) (b:=1) (by omega) (by omega); simpa using this
  exact aM ⟨hw,hr⟩
 exact lS (fj h rfl rfl rfl rfl rfl M)
def tc (X w:Bytes) (N:Nat) (h:N+w.length<=X.length):List.take X.length (List.take N (X.map jk)++(List.take w.length (w.map jk)++List.drop (N+w.length) (X.map jk)))=(X.take N++(w++X.drop (N+w.length))).map jk:=by
 rw [List.take_of_length_le (by simp; omega),List.take_of_length_le (l:=w.map jk) (by simp)]
 simp
def Br (k:Nat):List.replicate k (ae.agg [.int .u8 0]).norm=(List.replicate k (0:UInt8)).map jk:=by
 rw [List.map_replicate]; rfl
def Iw (M:ag) (id ver sz lo hi:Nat):ae.mY M (.aZ id ver sz lo hi)=match nth M id with
  |some (.arr _ v xs)=>if v=ver then .slice .sh ((xs.take hi).drop lo) else .any
  |_ => .any:=rfl
def p93 {d:Bytes} (h0:d≠[]) (hd:d.length<=100000) (b:aK) (M:ag):ai bV 139 [.slice .sh (d.map jk)] (b::M)=some (.aZ (M.length+1) 0 1 0 d.length,(b::M)++[.arr 1 0 (d.map jk)]):=by
 refine ZV (bz (g:=S7 1 1) rfl ?_)
 show fg 1 1 [.slice .sh (d.map jk)] (b::M)=_
 obtain ⟨a,r,rfl⟩:=List.exists_cons_of_ne_nil h0
 have hw:wid ((a::r).map jk) 1:=by have:=jD (a::r); simpa using this
 have hr:bB ((a::r).map jk).length 1:=by have:=dj (a:=(a::r).length) (b:=1) (by omega) (by omega); simpa using this
 unfold fg
 simp only [List.map_cons] at hw hr ⊢
 rw [aM ⟨hw,hr⟩]
 simp
def Zk {d:Bytes} (h0:d=[]) (b:aK) (M:ag):ai bV 139 [.slice .sh (d.map jk)] (b::M)=some (.slice .c0 [],b::M):=by
 subst h0
 exact ZV (bz (g:=S7 1 1) rfl rfl)
def wz (a:Int) (n:Nat):Nat:=(if (n:Int)<a then (n:Int) else a).toNat
def yD {a:Int} (h:0<=a) (n:Nat):(if (n:Int)<a then (n:Int) else a)=(wz a n:Int)/\wz a n<=n:=by
 unfold wz; split<;>omega
def yq {f:aa} {o:er} (h:((cR f o).2 != 0)=false):0<=o.n/\∃i,(cR f o).1=aA f.s.now.nodes i:=by
 unfold cR at h ⊢
 split at h
 ·rename_i h1; rw [h1] at h; cases h
 ·rename_i h1
  split at h
  ·rename_i h2; rw [if_neg h1,if_pos h2]; exact ⟨by simpa using h2,_,rfl⟩
  ·cases h
def vD {f:aa} (hf:nK f) (i:Int):(aA f.s.now.nodes i).data.length<=4096/\(aA f.s.now.nodes i).av.length<=64:=by
 obtain ⟨dep,h⟩:=hf.rt
 unfold aA
 cases hi:find f.s.now.nodes i with
 |none=>simp [Node.zero]
 |some n =>
  simp only [Option.getD_some]
  refine ⟨?_,(h.po _ _ hi).2⟩
  rcases h.kind _ _ hi with h1|h1
  ·exact (h.file _ _ hi h1).2.2
  ·rw [h.dir _ _ hi h1]; simp
attribute [local irreducible] cJ cE gD gK bG kr ai ak aV aF
def zL (f:aa) (o:er):Wk :=
 if ((cR f o).2 != 0)=true then (f,bM,(cR f o).2)
 else iC f o (cR f o).1.ino ((cR f o).1.data.take (wz o.n (cR f o).1.data.length))
def oZ (f:aa) (o:er) (ino:Int) (d:Bytes):(iC f o ino d).2.1.names=[]/\(iC f o ino d).2.1.data=[]:=by
 unfold iC; simp only []; split
 ·exact ⟨rfl,rfl⟩
 ·split<;>exact ⟨rfl,rfl⟩
def c72 (f:aa) (o:er) (hf:nK f) (ho:uc o):gH 72 f o (zL f o):=by
 unfold gH
 refine ⟨.slice .c0 [],.slice .c0 [],.inr ⟨rfl,?_⟩,.inr ⟨rfl,?_⟩,aq ?_⟩
 ·unfold zL; split
  ·rfl
  ·rw [(oZ ..).1]; rfl
 ·unfold zL; split
  ·rfl
  ·rw [(oZ ..).2]; rfl
 have q1:=fun {M}=>Rz f o hf (p:=0) (M:=M)
 have hn:=yq (f:=f) (o:=o)
 unfold zL
 cases h0:(cR f o).2 != 0
 ·obtain ⟨hn0,i,hi⟩:=hn h0
  have hsz:=(vD hf i).1
  rw [<-hi] at hsz
  generalize (cR f o).1=n at q1 hsz ⊢
  generalize (cR f o).2=e at q1 h0 ⊢
  obtain ⟨m1,m2⟩:=yD hn0 n.data.length
  generalize wz o.n n.data.length=mn at m1 m2 ⊢
  have q2:=fun {M}=>WQ f o hf n.ino (n.data.take mn) (by simp; omega) (p:=0) (M:=M)
  generalize iC f o n.ino (n.data.take mn)=r at q2 ⊢
  have hle:((mn:Int)<=(n.data.length:Int))=True:=by simp; omega
  have hz:((0:Int)<=(mn:Int))=True:=by simp
  simp only [aI,aG,aW,aw,dg,List.map_take] at q1 q2
  cases h1:r.2.2 != 0
  ·simp only [Ir,E72,aI,aG,aW,aw,q1,q2,h0,h1,m1,hle,hz,bO,bP,Bool.false_eq_true,if_true,if_false,EW,simprocAttr]
  ·simp only [Ir,E72,aI,aG,aW,aw,q1,q2,h0,h1,m1,hle,hz,bO,bP,Bool.false_eq_true,if_true,if_false,EW,simprocAttr]
 ·simp only [aI,aG,aw] at q1
  simp only [Ir,E72,aI,aG,aW,bM,aw,q1,h0,bP,Bool.false_eq_true,if_true,if_false,EW,simprocAttr]
def xL (f:aa) (o:er):Wk :=
 if ((cR f o).2 != 0)=true then (f,bM,(cR f o).2) else
 if (!(decide (0<=o.m)&&decide (o.m<=4096)))=true then (f,bM,1) else
 (f,⟨0,(cR f o).1.ino,0,0,0,[],((cR f o).1.data.drop (wz o.n (cR f o).1.data.length)).take (wz o.m ((cR f o).1.data.length-wz o.n (cR f o).1.data.length))⟩,0)
def c70 (f:aa) (o:er) (hf:nK f) (ho:uc o):gH 70 f o (xL f o):=by
 unfold gH
 have q1:=fun {M}=>Rz f o hf (p:=0) (M:=M)
 have hn:=yq (f:=f) (o:=o)
 have q2:=fun bb=>Gm bb 1 rfl
 unfold xL
 cases h0:(cR f o).2 != 0
 ·obtain ⟨hn0,i,hi⟩:=hn h0
  have hsz:=(vD hf i).1
  rw [<-hi] at hsz
  generalize (cR f o).1=n at q1 hsz ⊢
  generalize (cR f o).2=e at q1 h0 ⊢
  obtain ⟨m1,m2⟩:=yD hn0 n.data.length
  generalize wz o.n n.data.length=mn at m1 m2 ⊢
  have hle:((mn:Int)<=(n.data.length:Int))=True:=by simp; omega
  have hz:∀k:Nat,((0:Int)<=(k:Int))=True:=fun k=>by simp
  have ht:List.take n.data.length (n.data.map jk)=n.data.map jk:=List.take_of_length_le (by simp)
  have hlen:(List.drop mn (n.data.map jk)).length=n.data.length-mn:=by simp
  cases h1:(!(decide (0<=o.m)&&decide (o.m<=4096)))
  ·have h1':decide (0<=o.m)=true/\decide (o.m<=4096)=true:=by simpa using h1
   have hm0:0<=o.m:=by simpa using h1'.1
   obtain ⟨p1,p2⟩:=yD hm0 (n.data.length-mn)
   generalize wz o.m (n.data.length-mn)=mm at p1 p2 ⊢
   have hle2:((mm:Int)<=((n.data.length-mn:Nat):Int))=True:=by simp; omega
   have hw1:wid (List.drop mn (n.data.map jk)) 1=True:=by have:=jD (n.data.drop mn); rwa [List.map_drop] at this
   have q3:=fun M=>ada ((n.data.drop mn).take mm) (by simp; omega) M
   refine ⟨.slice .c0 [],dg ((n.data.drop mn).take mm),.inr ⟨rfl,rfl⟩,.inl rfl,aq ?_⟩
   simp only [aI,aG,aw,dg,List.map_take,List.map_drop] at q1 q3
   simp only [Cj,Uk,aI,aG,aW,aw,q1,q2,q3,h0,h1'.1,h1'.2,m1,p1,hle,hle2,hz,ht,hlen,hw1,bO,dg,List.map_drop,Int.le_refl,bne_self_eq_false,Bool.false_eq_true,if_true,if_false,EW,simprocAttr]
  ·refine ⟨.slice .c0 [],.slice .c0 [],.inr ⟨rfl,rfl⟩,.inr ⟨rfl,rfl⟩,aq ?_⟩
   have h1':(decide (0<=o.m)&&decide (o.m<=4096))=false:=by
    cases hx:(decide (0<=o.m)&&decide (o.m<=4096))
    ·rfl
    ·rw [hx] at h1; cases h1
   simp only [aI,aG,aw,dg] at q1
   cases ha:decide (0<=o.m)<;>cases hb:decide (o.m<=4096)<;>simp only [ha,hb,Bool.and_self,Bool.and_false,Bool.false_and,Bool.and_true] at h1'
   ·simp only [Cj,Uk,aI,aG,aW,bM,aw,q1,q2,h0,ha,hb,bP,Bool.false_eq_true,if_true,if_false,EW,simprocAttr]
   ·simp only [Cj,Uk,aI,aG,aW,bM,aw,q1,q2,h0,ha,hb,bP,Bool.false_eq_true,if_true,if_false,EW,simprocAttr]
   ·simp only [Cj,Uk,aI,aG,aW,bM,aw,q1,q2,h0,ha,hb,bP,Bool.false_eq_true,if_true,if_false,EW,simprocAttr]
   ·cases h1'
 ·refine ⟨.slice .c0 [],.slice .c0 [],.inr ⟨rfl,rfl⟩,.inr ⟨rfl,rfl⟩,aq ?_⟩
  simp only [aI,aG,aw] at q1
  simp only [Cj,Uk,aI,aG,aW,bM,aw,q1,h0,bP,Bool.false_eq_true,if_true,if_false,EW,simprocAttr]
def fS (d:Bytes) (n:Nat) (w:Bytes):Bytes :=
 if w=[] then d else (d++List.replicate (n+w.length-d.length) 0).take n++(w++(d++List.replicate (n+w.length-d.length) 0).drop (n+w.length))
def oL (f:aa) (o:er):Wk :=
 if ((cR f o).2 != 0)=true then (f,bM,(cR f o).2) else
 if (!decide (o.n<=4096))=true then (f,bM,1) else
 if (!decide (((o.n.toNat+o.data.length:Nat):Int)<=4096))=true then (f,bM,2) else
 iC f o (cR f o).1.ino (fS (cR f o).1.data o.n.toNat o.data)
def c71 (f:aa) (o:er) (hf:nK f) (ho:uc o):gH 71 f o (oL f o):=by
 unfold gH
 refine ⟨.slice .c0 [],.slice .c0 [],.inr ⟨rfl,?_⟩,.inr ⟨rfl,?_⟩,aq ?_⟩
 ·unfold oL; split
  ·rfl
  ·split
   ·rfl
   ·split
    ·rfl
    ·rw [(oZ ..).1]; rfl
 ·unfold oL; split
  ·rfl
  ·split
   ·rfl
   ·split
    ·rfl
    ·rw [(oZ ..).2]; rfl
 have q1:=fun {M}=>Rz f o hf (p:=0) (M:=M)
 have hn:=yq (f:=f) (o:=o)
 have q2:=fun bb=>Gm bb 1 rfl
 have q3:=fun bb=>Gm bb 2 rfl
 unfold oL
 cases h0:(cR f o).2 != 0
 ·obtain ⟨hn0,i,hi⟩:=hn h0
  have hsz:=(vD hf i).1
  rw [<-hi] at hsz
  generalize (cR f o).1=n at q1 hsz ⊢
  generalize (cR f o).2=e at q1 h0 ⊢
  simp only [aI,aG,aw] at q1
  cases h1:decide (o.n<=4096)
  ·simp only [wu,Pb,aI,aG,aW,bM,aw,q1,q2,h0,h1,bP,Bool.false_eq_true,if_true,if_false,EW,simprocAttr]
  ·have hn1:o.n<=4096:=by simpa using h1
   obtain ⟨N,hN⟩:∃N:Nat,o.n=(N:Int):=⟨o.n.toNat,by omega⟩
   have hdl:=ho.data
   have hw:IntKind.i64.wrap ((N:Int)+(o.data.length:Int))=((N+o.data.length:Nat):Int):=by rw [bD (by omega) (by omega)]; omega
   have hT:o.n.toNat=N:=by omega
   rw [hT]
   rw [hN] at q1 h1
   cases h2:decide (((N+o.data.length:Nat):Int)<=4096)
   ·simp only [wu,Pb,aI,aG,aW,bM,aw,q1,q2,q3,h0,h1,h2,hw,hN,bP,Bool.not_true,Bool.not_false,Bool.false_eq_true,if_true,if_false,EW,simprocAttr]
   ·have hE:N+o.data.length<=4096:=by
     have:((N+o.data.length:Nat):Int)<=4096:=by simpa using h2
     omega
    have hwl:(fS n.data N o.data).length<=100000:=by
     unfold fS; split
     ·omega
     ·simp; omega
    have q4:=fun {M}=>WQ f o hf n.ino (fS n.data N o.data) hwl (p:=0) (M:=M)
    generalize iC f o n.ino (fS n.data N o.data)=r at q4 ⊢
    simp only [aI,aG,aW,dg,hN] at q4
    by_cases hD:o.data=[]
    ·have hg:((0:Int)<(o.data.length:Int))=False:=by simp [hD]
     have hwr:fS n.data N o.data=n.data:=by unfold fS; rw [if_pos hD]
     rw [hwr] at q4
     by_cases hd0:n.data=[]
     ·have p1:=Zk (d:=n.data) hd0
      rw [hd0] at q4
      simp only [List.map_nil] at q4
      cases h3:r.2.2 != 0<;>simp only [wu,Pb,aI,aG,aW,aw,q1,q2,q3,q4,p1,h0,h1,h2,h3,hN,hw,hg,bP,dg,FZ,Iw,kh,Bool.not_true,Bool.false_eq_true,if_true,if_false,EW,simprocAttr]
     ·have p1:=p93 (d:=n.data) hd0 (by omega)
      have ht:List.take n.data.length (n.data.map jk)=n.data.map jk:=List.take_of_length_le (by simp)
      cases h3:r.2.2 != 0<;>simp only [wu,Pb,aI,aG,aW,aw,q1,q2,q3,q4,p1,h0,h1,h2,h3,hN,hw,hg,ht,bP,dg,FZ,Iw,kh,Bool.not_true,Bool.false_eq_true,if_true,if_false,EW,simprocAttr]
    ·have hdl0:0<o.data.length:=List.length_pos_iff.2 hD
     have hg:((0:Int)<(o.data.length:Int))=True:=by simp; omega
     have hwb:=jD o.data
     by_cases hd0:n.data=[]
     ·have p1:=Zk (d:=n.data) hd0
      have hk:IntKind.i64.wrap (((N+o.data.length:Nat):Int)-0)=((N+o.data.length:Nat):Int):=by rw [bD (by omega) (by omega)]; simp
      have hm:(((N+o.data.length:Nat):Int)<0)=False:=by simp; omega
      have hmi:min o.data.length (N+o.data.length-N)=o.data.length:=by omega
      have rk:bB (N+o.data.length) 1=True:=dj (by omega) (by omega)
      have b0:(((N+o.data.length:Nat):Int)==0)=false:=by simp; omega
      have b1:((N:Int)==((N+o.data.length:Nat):Int))=false:=by simp; omega
      have b2:((N:Int)<=((N+o.data.length:Nat):Int))=True:=by simp; omega
      have b3:(((N+o.data.length:Nat):Int)<=((N+o.data.length:Nat):Int))=True:=by simp
      have hz:=Br (N+o.data.length)
      have htl:=tc (List.replicate (N+o.data.length) 0) o.data N (by simp)
      have hwr:fS n.data N o.data=(List.replicate (N+o.data.length) 0).take N++(o.data++(List.replicate (N+o.data.length) 0).drop (N+o.data.length)):=by
       unfold fS; rw [if_neg hD,hd0]; simp
      rw [hwr,<-htl] at q4
      rw [List.length_replicate] at q4
      have l1:(0<((List.replicate (N+o.data.length) (0:UInt8)).map jk).length)=True:=by simp; omega
      generalize (List.replicate (N+o.data.length) (0:UInt8)).map jk=X at hz q4 l1
      cases h3:r.2.2 != 0<;>simp only [wu,Pb,aI,aG,aW,aw,q1,q2,q3,q4,p1,h0,h1,h2,h3,hN,hw,hg,hk,hm,hmi,hwb,rk,b0,b1,b2,b3,hz,l1,bO,bP,dg,FZ,Iw,kh,Nat.sub_zero,Bool.not_true,Bool.false_eq_true,if_true,if_false,EW,simprocAttr]
     ·have p1:=p93 (d:=n.data) hd0 (by omega)
      have hL0:0<n.data.length:=List.length_pos_iff.2 hd0
      have l0:(0<n.data.length)=True:=by simp; omega
      have hwn:=jD n.data
      by_cases hE2:N+o.data.length<=n.data.length
      ·have hk:IntKind.i64.wrap (((N+o.data.length:Nat):Int)-(n.data.length:Int))=((N+o.data.length:Nat):Int)-(n.data.length:Int):=bD (by omega) (by omega)
       have hmx:(if ((N+o.data.length:Nat):Int)-(n.data.length:Int)<0 then (0:Int) else ((N+o.data.length:Nat):Int)-(n.data.length:Int))=0:=by split<;>omega
       have hmi:min o.data.length (n.data.length-N)=o.data.length:=by omega
       have rk:bB (n.data.length+0) 1=True:=dj (by omega) (by omega)
       have rk0:bB n.data.length 1=True:=dj (by omega) (by omega)
       have b1:((N:Int)==(n.data.length:Int))=false:=by simp; omega
       have b2:((N:Int)<=(n.data.length:Int))=True:=by simp; omega
       have htl:=tc n.data o.data N hE2
       have hwr:fS n.data N o.data=n.data.take N++(o.data++n.data.drop (N+o.data.length)):=by
        unfold fS; rw [if_neg hD,show N+o.data.length-n.data.length=0 by omega]; simp
       rw [hwr,<-htl] at q4
       cases h3:r.2.2 != 0<;>simp only [wu,Pb,aI,aG,aW,aw,q1,q2,q3,q4,p1,h0,h1,h2,h3,hN,hw,hg,hk,hmx,hmi,hwb,hwn,rk,rk0,l0,b1,b2,bO,bP,dg,C0,Int.le_refl,FZ,Iw,kh,Nat.sub_zero,Bool.not_true,Bool.false_eq_true,if_true,if_false,EW,simprocAttr]
      ·have hk:IntKind.i64.wrap (((N+o.data.length:Nat):Int)-(n.data.length:Int))=((N+o.data.length:Nat):Int)-(n.data.length:Int):=bD (by omega) (by omega)
       have hmx:(if ((N+o.data.length:Nat):Int)-(n.data.length:Int)<0 then (0:Int) else ((N+o.data.length:Nat):Int)-(n.data.length:Int))=((N+o.data.length-n.data.length:Nat):Int):=by split<;>omega
       have hsum:n.data.length+(N+o.data.length-n.data.length)=N+o.data.length:=by omega
       have hmi:min o.data.length (N+o.data.length-N)=o.data.length:=by omega
       have rk:bB (N+o.data.length) 1=True:=dj (by omega) (by omega)
       have b0:(((N+o.data.length-n.data.length:Nat):Int)==0)=false:=by simp; omega
       have b1:((N:Int)==((N+o.data.length:Nat):Int))=false:=by simp; omega
       have b2:((N:Int)<=((N+o.data.length:Nat):Int))=True:=by simp; omega
       have hz:=Br (N+o.data.length-n.data.length)
       have htl:=tc (n.data++List.replicate (N+o.data.length-n.data.length) 0) o.data N (by simp; omega)
       have hwr:fS n.data N o.data=(n.data++List.replicate (N+o.data.length-n.data.length) 0).take N++(o.data++(n.data++List.replicate (N+o.data.length-n.data.length) 0).drop (N+o.data.length)):=by
        unfold fS; rw [if_neg hD]
       rw [hwr,<-htl] at q4
       have hlX:(n.data++List.replicate (N+o.data.length-n.data.length) (0:UInt8)).length=N+o.data.length:=by simp; omega
       rw [hlX,List.map_append] at q4
       have l1:(0<N+o.data.length)=True:=by simp; omega
       have lz:((List.replicate (N+o.data.length-n.data.length) (0:UInt8)).map jk).length=N+o.data.length-n.data.length:=by simp
       generalize (List.replicate (N+o.data.length-n.data.length) (0:UInt8)).map jk=Z at hz q4 lz
       cases h3:r.2.2 != 0<;>simp only [wu,Pb,aI,aG,aW,aw,q1,q2,q3,q4,p1,h0,h1,h2,h3,hN,hw,hg,hk,hmx,hsum,hmi,hwb,hwn,rk,l0,l1,lz,b0,b1,b2,hz,bO,bP,dg,C0,Int.le_refl,FZ,Iw,kh,Nat.sub_zero,Bool.not_true,Bool.false_eq_true,if_true,if_false,EW,simprocAttr]
 ·simp only [aI,aG,aw] at q1
  simp only [wu,Pb,aI,aG,aW,bM,aw,q1,h0,bP,Bool.false_eq_true,if_true,if_false,EW,simprocAttr]
end
section
attribute [local irreducible] cJ cE gD gK bG kr ai ak aV aF
def Vy (z:Int):ai aQ 145 [.slice .sh [],.func 215 [.ptr 0 0]] [.cells [.int .i64 z]]=some (.int .i64 (-1),[.cells [.int .i64 z]]):=by
 have h00:decide ((0:Int)<0)=false:=rfl
 have hz:((0:Nat):Int)=0:=rfl
 refine aq ?_
 simp only [z6,pj,hz,EN,simprocAttr]
 rw [aB]
 simp only [pj,h00,EN,simprocAttr]
end
def WR (z:Int):ak (ai aQ) 145 [.slice .sh [],.func 215 [.ptr 0 0]] [.cells [.int .i64 z]]=some (.int .i64 (-1),[.cells [.int .i64 z]]) :=
 eh (ids:=[0]) rfl rfl (show dv [.cells [.int .i64 z]] (cM [0]) [0]=some [.cells [.int .i64 z]] from rfl) rfl rfl (Vy z) rfl rfl rfl rfl rfl
section
attribute [local irreducible] cJ cE gD gK bG kr ai ak aV aF
def VG (z:Int):ai aQ 213 [.slice .sh [],.func 215 [.ptr 0 0]] [.cells [.int .i64 z]]=some (.slice .sh [],[.cells [.int .i64 z]]):=by
 have h11:((-1:Int) == -1)=true:=rfl
 refine aq ?_
 simp only [Aa,x7,WR,h11,EN,simprocAttr]
end
def W9 (z:Int) (b0 b2 b3:aK):ak (ai aQ) 213 [.slice .sh [],.func 215 [.ptr 1 0]] [b0,.cells [.int .i64 z],b2,b3]=some (.slice .sh [],[b0,.cells [.int .i64 z],b2,b3]) :=
 eh (ids:=[1]) rfl rfl (show dv [b0,.cells [.int .i64 z],b2,b3] (cM [1]) [1]=some [.cells [.int .i64 z]] from rfl) rfl rfl (VG z) rfl rfl rfl rfl rfl
def PU (b0 b2 b3:aK) (xs:List ae) (z:Int):dv [b0,.cells [.int .i64 z],b2,b3,.arr 3 0 xs] (cM [4,1]) [4,1]=some [.arr 3 0 xs,.cells [.int .i64 z]]:=rfl
def acN (xs:List b9) (z:Int) (hn:xs.length<=100000) (h0:xs≠[]) (hk:eF z xs≠[]) (b0 b2 b3:aK):ak (ai aQ) 213 [.aZ 4 0 3 0 xs.length,.func 215 [.ptr 1 0]] [b0,.cells [.int .i64 z],b2,b3,.arr 3 0 (xs.map cQ)] =
  some (.aZ 4 0 3 0 (eF z xs).length,[b0,.cells [.int .i64 z],b2,b3,.arr 3 0 ((eF z xs++List.replicate (xs.length-(eF z xs).length) Bp).map cQ)]):=by
 have h:=VF xs z hn h0
 have hl:(eF z xs).length≠0:=fun hh=>hk (List.length_eq_zero_iff.1 hh)
 have hr:yO (eF z xs).length = .aZ 0 0 3 0 (eF z xs).length:=by simp [yO,hl]
 rw [hr] at h
 exact eh (ids:=[4,1]) rfl rfl (PU ..) rfl rfl h rfl rfl rfl rfl rfl
def Xa (xs:List b9) (z:Int) (hn:xs.length<=100000) (h0:xs≠[]) (hk:eF z xs=[]) (b0 b2 b3:aK):ak (ai aQ) 213 [.aZ 4 0 3 0 xs.length,.func 215 [.ptr 1 0]] [b0,.cells [.int .i64 z],b2,b3,.arr 3 0 (xs.map cQ)] =
  some (.slice .sh [],[b0,.cells [.int .i64 z],b2,b3,.arr 3 0 ((List.replicate xs.length Bp).map cQ)]):=by
 have h:=VF xs z hn h0
 have hr:yO (eF z xs).length = .slice .sh []:=by simp [yO,hk]
 rw [hr,hk] at h
 simp only [List.nil_append,List.length_nil,Nat.sub_zero] at h
 exact eh (ids:=[4,1]) rfl rfl (PU ..) rfl rfl h rfl rfl rfl rfl rfl
section
attribute [local irreducible] cJ cE gD gK bG kr ai ak aV aF
end
section
def xd (x:b9):List b9->List b9
 | []=>[x]
 |y::r=>if x.af<y.af then x::y::r else y::xd x r
def k7:List b9->List b9
 | []=>[]
 |x::r=>xd x (k7 r)
def ac5 (n:b9):kj 2 (cQ n)=n.af:=rfl
def Ao (x:b9):∀l:List b9,vl 2 (cQ x) (l.map cQ)=(xd x l).map cQ
 | []=>rfl
 |y::r=>by
  simp only [List.map_cons,vl,xd,ac5]
  by_cases h:x.af<y.af
  ·simp only [h,if_true,List.map_cons]
  ·simp only [h,if_false,List.map_cons,Ao x r]
def xO:∀l:List b9,je 2 (l.map cQ)=(k7 l).map cQ
 | []=>rfl
 |x::r=>by simp only [List.map_cons,je,k7,xO r,Ao]
def xe (x:b9):∀l,(xd x l).length=l.length+1
 | []=>rfl
 |y::r=>by simp only [xd]; split<;>simp [xe x r]
def qi:∀l,(k7 l).length=l.length
 | []=>rfl
 |x::r=>by simp [k7,xe,qi r]
def CR {l Z:List b9} {v:Nat} (hl:l.length<=1000000) (hn:(l.map b9.af).Nodup):ai aQ 216 [.aZ 0 v 3 0 l.length,.func 217 []] [.arr 3 v ((l++Z).map cQ)]=some (.tuple [],[.arr 3 v ((k7 l++Z).map cQ)]):=by
 refine bz (g:=lF 3 2 217) rfl ?_
 unfold lF
 simp only [nth]
 have ht:((l++Z).map cQ).take l.length=l.map cQ:=by simp [List.take_append_of_le_length]
 have hd:((l++Z).map cQ).drop l.length=Z.map cQ:=by simp
 rw [ht,hd,xO,<-List.map_append]
 rw [aM]
 ·rfl
 ·refine ⟨trivial,trivial,trivial,by simp,trivial,by omega,?_,?_⟩
  ·intro x hx
   obtain ⟨n,_,rfl⟩:=List.mem_map.1 hx
   rfl
  ·rw [List.map_map]
   exact hn
def Zo (xs:List ae) (v:Nat) (b0 b1 b2 b3:aK):dv [b0,b1,b2,b3,.arr 3 v xs] (cM [4]) [4]=some [.arr 3 v xs]:=rfl
attribute [local irreducible] cJ cE gD gK bG kr ai ak aV aF
def acO {l Z:List b9} {v:Nat} (hl:l.length<=1000000) (hn:(l.map b9.af).Nodup) (b0 b1 b2 b3:aK):ak (ai aQ) 216 [.aZ 4 v 3 0 l.length,.func 217 []] [b0,b1,b2,b3,.arr 3 v ((l++Z).map cQ)]=some (.tuple [],[b0,b1,b2,b3,.arr 3 v ((k7 l++Z).map cQ)]) :=
 eh (ids:=[4]) rfl rfl (Zo _ _ ..) rfl rfl (CR hl hn) rfl rfl rfl rfl rfl
def PK (M:ag):ak (ai aQ) 216 [.slice .sh [],.func 217 []] M=some (.tuple [],M):=by
 have h:ai aQ 216 [.slice .sh [],.func 217 []] []=some (.tuple [],[]):=by
  refine bz (g:=lF 3 2 217) rfl ?_
  unfold lF
  simp only [if_true]
 exact fj h rfl rfl rfl rfl rfl M
def vd (nodes:List Node) (ino z:Int):List b9:=k7 (eF z (cP nodes ino).1.av)
def oh (t:Tree) (ino z m:Int):List b9×Int×Int :=
 if (decide (z<0)||(decide (m<1)||decide (64<m)))=true then ([],0,1)
 else if ((cP t.nodes ino).2 != 0)=true then ([],0,(cP t.nodes ino).2)
 else if decide (((vd t.nodes ino z).length:Int)<=m)=true then (vd t.nodes ino z,0,0)
 else ((vd t.nodes ino z).take m.toNat,fR (((vd t.nodes ino z).getD (m.toNat-1) Bp).af+1),0)
def wN {t:Tree} {dep:Int->Nat} (h:bm t dep 0) (ino:Int):((cP t.nodes ino).1.av.map b9.af).Nodup/\(cP t.nodes ino).1.av.length<=64:=by
 unfold cP
 cases hi:find t.nodes ino with
 |none=>exact ⟨List.nodup_nil,by simp [Node.zero]⟩
 |some n =>
  simp only
  split
  ·exact ⟨by rw [List.nodup_iff_pairwise_ne,List.pairwise_map]; exact (h.po _ _ hi).1,(h.po _ _ hi).2⟩
  ·exact ⟨List.nodup_nil,by simp [Node.zero]⟩
def aaX (t:Tree) (ht:Rt t) (ino z m:Int):ai aQ 132 [bj t,.int .i64 ino,.int .i64 z,.int .i64 m] []=some (.tuple [fa (oh t ino z m).1,.int .i64 (oh t ino z m).2.1,.int .i64 (oh t ino z m).2.2],[]):=by
 obtain ⟨dep,h⟩:=ht
 refine aq ?_
 have q1:=fun b c M=>Nj t.nodes t.next t.af ino h.ft.gA (by have:=h.nodes; omega) 2 (b::c :: .cells [az t.nodes,.int .i64 t.next,.int .i64 t.af]::M) rfl
 obtain ⟨hnd,h64⟩:=wN h ino
 have hknd:((eF z (cP t.nodes ino).1.av).map b9.af).Nodup:=(List.filter_sublist.map _).nodup hnd
 have hkl:(eF z (cP t.nodes ino).1.av).length<=64:=Nat.le_trans (List.length_filter_le _ _) h64
 unfold oh vd
 generalize cP t.nodes ino=d at q1 hnd h64 hknd hkl ⊢
 simp only [aX,aw] at q1
 cases g1:decide (z<0)
 ·cases g2:decide (m<1)
  ·cases g3:decide (64<m)
   ·cases g4:d.2 != 0
    ·obtain ⟨M,hM⟩:∃M:Nat,m=(M:Int):=⟨m.toNat,by simp at g2; omega⟩
     subst hM
     have hM1:1<=M:=by simp at g2; omega
     have hM64:M<=64:=by simp at g3; omega
     generalize hE:d.1.av=E at q1 hknd hkl h64 ⊢
     have c0:∀b0 b2 b3,ak (ai aQ) 213 [.slice .sh [],.func 215 [.ptr 1 0]] [b0,.cells [.int .i64 z],b2,b3]=some (.slice .sh [],[b0,.cells [.int .i64 z],b2,b3]):=fun b0 b2 b3=>W9 z b0 b2 b3
     have z0:((0:Int)<=(M:Int))=True:=by simp
     by_cases hE0:E=[]
     ·have p1:∀M,ai aQ 214 [fa E] M=some (.slice .c0 [],M):=fun M=>by subst hE0; exact Zj M
      have hk:k7 (eF z E)=[]:=by subst hE0; rfl
      rw [hk]
      simp only [pC,yZ,bj,ar,q1,g1,g2,g3,g4,p1,c0,PK,z0,List.length_nil,aw,Bool.or_self,Bool.false_eq_true,if_true,if_false,EW,simprocAttr]
      rfl
     ·have p1:=fun M=>p58 (l:=E) hE0 (by omega) M
      by_cases hK0:eF z E=[]
      ·have p2:=fun b0 b2 b3=>Xa E z (by omega) hE0 hK0 b0 b2 b3
       have hk:k7 (eF z E)=[]:=by rw [hK0]; rfl
       rw [hk]
       simp only [pC,yZ,bj,ar,q1,g1,g2,g3,g4,p1,p2,PK,z0,List.length_nil,aw,Bool.or_self,Bool.false_eq_true,if_true,if_false,EW,simprocAttr]
       rfl
      ·have p2:=fun b0 b2 b3=>acN E z (by omega) hE0 hK0 b0 b2 b3
       have hsl:=qi (eF z E)
       generalize eF z E=kk at p2 hknd hkl hK0 hsl ⊢
       generalize List.replicate (E.length-kk.length) Bp=Z at p2
       have p3:=fun b0 b1 b2 b3=>acO (l:=kk) (Z:=Z) (v:=0) (by omega) hknd b0 b1 b2 b3
       generalize k7 kk=ss at p3 hsl ⊢
       have tk:List.take kk.length ((ss++Z).map cQ)=ss.map cQ:=by rw [<-hsl]; simp [List.take_append_of_le_length]
       cases g5:decide ((kk.length:Int)<=(M:Int))
       ·have hlt:M<kk.length:=by simp at g5; omega
        have g6:decide ((ss.length:Int)<=(M:Int))=false:=by rw [hsl]; exact g5
        have hw1:IntKind.i64.wrap ((M:Int)-1)=((M-1:Nat):Int):=by rw [bD (by omega) (by omega)]; omega
        have hx:=List.getElem?_eq_getElem (show M-1<ss.length by omega)
        have hg:ss.getD (M-1) Bp=ss[M-1]:=by simp [List.getD,hx]
        have hat:(ss++Z)[M-1]?=some ss[M-1]:=by rw [List.getElem?_append_left (by omega)]; exact hx
        have tm:List.take M ((ss++Z).map cQ)=(ss.take M).map cQ:=by
         rw [<-List.map_take,List.take_append_of_le_length (by omega)]
        have b1:((M:Int)<=(kk.length:Int))=True:=by simp; omega
        have b2:((M:Int)==0)=false:=by simp; omega
        have b3:((0:Int)==(M:Int))=false:=by simp; omega
        have b4:(((M-1:Nat):Int)<(kk.length:Int))=True:=by simp; omega
        simp only [pC,yZ,bj,ar,q1,g1,g2,g3,g4,g5,g6,p1,p2,p3,z0,hw1,hg,hat,tm,b1,b2,b3,b4,bO,Int.le_refl,Nat.sub_zero,cI,aw,Bool.or_self,Bool.false_eq_true,if_true,if_false,EW,simprocAttr]
        rw [<-List.map_take]
       ·have g6:decide ((ss.length:Int)<=(M:Int))=true:=by rw [hsl]; exact g5
        simp only [pC,yZ,bj,ar,q1,g1,g2,g3,g4,g5,g6,p1,p2,p3,tk,Nat.sub_zero,aw,Bool.or_self,Bool.false_eq_true,if_true,if_false,EW,simprocAttr]
    ·simp only [pC,yZ,bj,ar,q1,g1,g2,g3,g4,aw,Bool.or_self,Bool.false_eq_true,if_true,if_false,EW,simprocAttr]
     rfl
   ·simp only [pC,yZ,bj,ar,g1,g2,g3,aw,Bool.or_true,Bool.or_self,Bool.false_eq_true,if_true,if_false,EW,simprocAttr]
    rfl
  ·simp only [pC,yZ,bj,ar,g1,g2,aw,Bool.true_or,Bool.or_true,Bool.or_self,Bool.false_eq_true,if_true,if_false,EW,simprocAttr]
   rfl
 ·simp only [pC,yZ,bj,ar,g1,aw,Bool.true_or,Bool.or_self,Bool.false_eq_true,if_true,if_false,EW,simprocAttr]
  rfl
def acz (t:Tree) (ht:Rt t) (ino z m:Int) (M:ag):ak (ai bV) 132 [.agg [az t.nodes,.int .i64 t.next,.int .i64 t.af],.int .i64 ino,.int .i64 z,.int .i64 m] M=some (.tuple [fa (oh t ino z m).1,.int .i64 (oh t ino z m).2.1,.int .i64 (oh t ino z m).2.2],M) :=
 lS (cO (aaX t ht ino z m) M)
def Fq {t:Tree} (ht:Rt t) (ino z m:Int):(oh t ino z m).1.length<=100000:=by
 obtain ⟨dep,h⟩:=ht
 have h64:=(wN h ino).2
 have hf:(vd t.nodes ino z).length<=64:=by unfold vd; rw [qi]; exact Nat.le_trans (List.length_filter_le _ _) h64
 unfold oh
 split
 ·simp
 ·split
  ·simp
  ·split
   ·simp only; omega
   ·simp; omega
def xm (f:aa) (o:er):Wk :=
 let v:=ec f.s.now o.path
 let l:=oh f.s.now (aA f.s.now.nodes v.1).ino o.n o.m
 if (v.2 != 0)=true then (f,bM,v.2) else
 if (l.2.2 != 0)=true then (f,bM,l.2.2) else
 (f,⟨0,0,0,l.2.1,0,l.1.map b9.name,[]⟩,0)
def c66 (f:aa) (o:er) (hf:nK f) (ho:uc o):gH 66 f o (xm f o):=by
 unfold gH
 have q1:=fun {M}=>Cp f o o.path hf.rt.small hf.rt.ft (by have:=ho.path; omega) (p:=0) (M:=M)
 unfold xm
 simp only []
 generalize ec f.s.now o.path=v at q1 ⊢
 generalize aA f.s.now.nodes v.1=n at q1 ⊢
 have q2:=acz f.s.now hf.rt n.ino o.n o.m
 have hl:=Fq hf.rt n.ino o.n o.m
 generalize oh f.s.now n.ino o.n o.m=l at q2 hl ⊢
 have q3:=Rx l.1 hl
 simp only [aI,aG,aw] at q1
 cases h0:v.2 != 0
 ·cases h1:l.2.2 != 0
  ·refine ⟨fN (l.1.map b9.name),.slice .c0 [],.inl rfl,.inr ⟨rfl,rfl⟩,aq ?_⟩
   simp only [Ip,E66,aI,aG,aW,aw,q1,q2,q3,lj,h0,h1,bne_self_eq_false,Bool.false_eq_true,if_true,if_false,EW,simprocAttr]
  ·refine ⟨.slice .c0 [],.slice .c0 [],.inr ⟨rfl,rfl⟩,.inr ⟨rfl,rfl⟩,aq ?_⟩
   simp only [Ip,E66,aI,aG,aW,bM,aw,q1,q2,q3,lj,h0,h1,bP,bne_self_eq_false,Bool.false_eq_true,if_true,if_false,EW,simprocAttr]
 ·refine ⟨.slice .c0 [],.slice .c0 [],.inr ⟨rfl,rfl⟩,.inr ⟨rfl,rfl⟩,aq ?_⟩
  simp only [Ip,E66,aI,aG,aW,bM,aw,q1,h0,bP,bne_self_eq_false,Bool.false_eq_true,if_true,if_false,EW,simprocAttr]
end
section
attribute [local irreducible] cJ cE gD gK bG kr ai ak aV aF
def aa8 (e:b9) (s:Bytes):ai aQ 146 [cQ e,.ptr 0 0] [.cells [.str s]]=some (.bool (e.name==s),[.cells [.str s]]):=by
 refine aq ?_
 simp only [Ho,Z4,cQ,cI,EW,simprocAttr]
def KF {xs:List b9} {s:Bytes} (hn:xs.length<=100000) {k:List K} {R:Int->Option (ae×ag)}
  (hx:∀e,kr (ai aQ) [.tmp 4] 1 k ⟨.exit 0,e,[aK.cells [.str s]]⟩=R (-1)) (hr:∀(i:Nat),kr (ai aQ) [.tmp 4] 1 k ⟨.ret,[(4,.int .i64 i)],[aK.cells [.str s]]⟩=R i) :
  ∀(l pre:List b9),xs=pre++l->cJ (ai aQ) [.tmp 4] 1 k (.loop [0,1,7,8] DH) [(0,.slice .sh (xs.map cQ)),(1,.func 146 [.ptr 0 0]),(7,.int .i64 xs.length),(8,.int .i64 pre.length)] [aK.cells [.str s]]=R (jy (fun e:b9=>e.name==s) l pre.length):=by
 intro l
 induction l with
 |nil =>
  intro pre h
  rw [aB]
  simp only [pj,c9 h,EW,simprocAttr]
  exact hx _
 |cons n rest ih =>
  intro pre h
  rw [aB]
  have hlen:pre.length+1<=100000:=by rw [h] at hn; simp at hn; omega
  have hw:IntKind.i64.wrap ((pre.length:Int)+1)=((pre++[n]).length:Int):=by rw [bD (by omega) (by omega)]; exact bK
  have hi:=ih (pre++[n]) (by rw [h]; simp)
  simp only [List.length_append,List.length_cons,List.length_nil] at hi
  have hk:∀x:b9,ak (ai aQ) 146 [.agg (cI x),.ptr 0 0] [aK.cells [.str s]]=some (.bool ((fun e:b9=>e.name==s) x),[aK.cells [.str s]]):=fun x=>oV (f:=146) (p:=0) (vs:=[.agg (cI x)]) (M:=[aK.cells [.str s]]) rfl (aa8 x s) rfl rfl rfl rfl rfl rfl rfl rfl rfl
  rw [jy]
  simp only [pj,cC h,cn h,hk,EW,simprocAttr]
  refine aC (fun hb=>?_) (fun hb=>?_)
  ·simp only [pj,hb,EW,simprocAttr]
   exact hr _
  ·simp only [pj,hb,hw,Bool.false_eq_true,EW,simprocAttr]
   exact hi
def Vz (xs:List b9) (s:Bytes) (hn:xs.length<=100000):ai aQ 145 [.slice .sh (xs.map cQ),.func 146 [.ptr 0 0]] [aK.cells [.str s]]=some (.int .i64 (jy (fun e:b9=>e.name==s) xs 0),[aK.cells [.str s]]):=by
 refine aq ?_
 simp only [z6,pj,EW,simprocAttr]
 exact KF (R:=fun i=>some (.int .i64 i,[aK.cells [.str s]])) hn (fun e=>by simp only [pj,EW,simprocAttr]) (fun i=>by simp only [pj,EW,simprocAttr]) xs [] rfl
def Ee:List ae:=[.int .i64 0,.int .i64 0,.int .i64 0,.slice .c0 [],.slice .c0 [],.int .i64 0]
def nD (o:Option Node):List ae:=match o with
 |some n=>aw n
 |none=>Ee
def PM (o:Option Node):ja (.agg [.int .i64 0,.int .i64 0,.int .i64 0,.slice .c0 [],.slice .c0 [],.int .i64 0]) false (o.map aX) = .agg (nD o):=by cases o<;>rfl
def dq (all:AM Node):List Bytes->Option Node->Option Node×Int
 | [],o=>(o,0)
 |s::r,o=>if (!((o.getD Node.zero).kind==2))=true then (o,73) else match (o.getD Node.zero).av.find? (fun e=>e.name==s) with
  |none=>(o,70)
  |some e=>dq all r (bR all e.ino)
def bW (l:List Node) (m:AM Node):AM Node:=l.foldl (fun m n=>fP m n.ino n) m
def Om {W:aa×er} {at':Int} {p:List Bytes} {xs:List Node} (hn:xs.length<=200000) {fin:AM Node} {k:List K} {r:Option (ae×ag)}
  (hx:∀e,kr (ai bV) [] 1 k ⟨.exit 0,(0,.ptr 0 0)::(2,.int .i64 at')::(5,fN p)::(6,.cz 1)::e,[aI W.1 W.2,.map (tw fin) (iV aX fin)]⟩=r) :
  ∀(l pre:List Node) (m:AM Node),xs=pre++l->bW l m=fin->cJ (ai bV) [] 1 k (.loop [0,2,5,6,42,43,44] SC) [(0,.ptr 0 0),(2,.int .i64 at'),(5,fN p),(6,.cz 1),(42,az xs),(43,.int .i64 xs.length),(44,.int .i64 pre.length)] [aI W.1 W.2,.map (tw m) (iV aX m)]=r:=by
 obtain ⟨f,o⟩:=W
 simp only [aI,aG] at hx ⊢
 intro l
 induction l with
 |nil =>
  intro pre m h hfin
  rw [aB]
  simp only [bW,List.foldl_nil] at hfin
  subst hfin
  simp only [C9,c9 h,EW,simprocAttr]
  exact hx _
 |cons n rest ih =>
  intro pre m h hfin
  rw [aB]
  have hlen:pre.length+1<=200000:=by rw [h] at hn; simp at hn; omega
  have hw:IntKind.i64.wrap ((pre.length:Int)+1)=((pre++[n]).length:Int):=by rw [bD (by omega) (by omega)]; exact bK
  have hi1:=ih (pre++[n]) (fP m n.ino n) (by rw [h]; simp) hfin
  have hput:=kR aX m n.ino n
  simp only [aX,aw,List.length_append,List.length_cons,List.length_nil,Nat.zero_add] at hi1 hput
  simp only [C9,cC h,cn h,aw,hw,hput,mapOf.eq_1,MB,EW,simprocAttr]
  exact hi1
def On {W:aa×er} {all:AM Node} (hall:∀k n,bR all k=some n->n.av.length<=100000) {xs:List Bytes} (hn:xs.length<=100000) {fin:Option Node×Int} {k:List K} {r:Option (ae×ag)}
  (hx:fin.2=0->∀e,kr (ai bV) [] 1 k ⟨.exit 2,(0,.ptr 0 0)::(6,.cz 1)::(9,.ptr 2 0)::e,[aI W.1 W.2,.map (tw all) (iV aX all),.cells (nD fin.1)]⟩=r)
  (hp:(fin.2 != 0)=true->∀c d,kr (ai bV) [] 1 k ⟨.fK (.iface 42 (.int .i64 fin.2)),[],[aI W.1 W.2,.map (tw all) (iV aX all),.cells c,d]⟩=r) :
  ∀(l pre:List Bytes) (o:Option Node),xs=pre++l->(∀n,o=some n->n.av.length<=100000)->dq all l o=fin->cJ (ai bV) [] 1 k (.loop [0,6,9,56,57,58] SD) [(0,.ptr 0 0),(6,.cz 1),(9,.ptr 2 0),(56,fN xs),(57,.int .i64 xs.length),(58,.int .i64 pre.length)] [aI W.1 W.2,.map (tw all) (iV aX all),.cells (nD o)]=r:=by
 obtain ⟨f,op⟩:=W
 simp only [aI,aG] at hx hp ⊢
 intro l
 induction l with
 |nil =>
  intro pre o h ho hfin
  rw [aB]
  rw [dq] at hfin
  subst hfin
  cases o<;>simp only [nD,Ee,aw,C9,c9 h,MB,EW,simprocAttr] at hx ⊢ <;> exact hx trivial _
 |cons s rest ih =>
  intro pre o h ho hfin
  rw [aB]
  have hlen:pre.length+1<=100000:=by rw [h] at hn; simp at hn; omega
  have hw:IntKind.i64.wrap ((pre.length:Int)+1)=((pre++[s]).length:Int):=by rw [bD (by omega) (by omega)]; exact bK
  have q2:=fun bb=>Gm bb 73 rfl
  have q3:=fun bb=>Gm bb 70 rfl
  cases o with
  |none =>
   have hf:dq all (s::rest) none=(none,73):=rfl
   rw [hf] at hfin
   subst hfin
   have h02:((0:Int)==2)=false:=rfl
   simp only [nD,Ee,C9,cC h,cn h,h02,q2,bP,Bool.false_eq_true,if_false,EW,simprocAttr]
   exact hp rfl _ _
  |some n =>
   rw [dq] at hfin
   simp only [Option.getD_some] at hfin
   cases hk:n.kind==2
   ·rw [hk] at hfin
    simp only [Bool.not_false,if_true] at hfin
    subst hfin
    simp only [nD,aw,C9,cC h,cn h,hk,q2,bP,Bool.false_eq_true,if_false,EW,simprocAttr]
    exact hp rfl _ _
   ·rw [hk] at hfin
    simp only [Bool.not_true,Bool.false_eq_true,if_false] at hfin
    have hne:=ho n rfl
    have q4:∀M,nth M 3=some (.cells [.str s])->ak (ai bV) 145 [fa n.av,.func 146 [.ptr 3 0]] M=some (.int .i64 (jy (fun e:b9=>e.name==s) n.av 0),M):=fun M hM=>lS (qR hM (Vz n.av s hne) rfl rfl rfl)
    rcases o4 (fun e:b9=>e.name==s) n.av 0 with ⟨i1,i2⟩|⟨j,e,i1,i2,i3,_⟩
    ·rw [i2] at hfin
     simp only at hfin
     subst hfin
     rw [i1] at q4
     have hneg:(0<=(-1:Int))=False:=by simp
     simp only [nD,aw,C9,cC h,cn h,hk,q2,q3,q4,hneg,bP,Bool.false_eq_true,if_true,if_false,EW,simprocAttr]
     exact hp rfl _ _
    ·rw [i3] at hfin
     simp only at hfin
     rw [i1,Nat.zero_add] at q4
     have hi:=ih (pre++[s]) (bR all e.ino) (by rw [h]; simp) (fun m hm=>hall _ _ hm) hfin
     have hlg:=PM (bR all e.ino)
     simp only [List.length_append,List.length_cons,List.length_nil,Nat.zero_add] at hi
     have hisC:(nD (bR all e.ino)).all ae.c8=true:=by cases bR all e.ino<;>rfl
     have hlC:(nD (bR all e.ino)).length=6:=by cases bR all e.ino<;>rfl
     have hbC:∀B M,List.map (ae.ew B M) (nD (bR all e.ino))=nD (bR all e.ino):=fun B M=>by cases bR all e.ino<;>rfl
     generalize nD (bR all e.ino)=gc at hi hlg hisC hlC hbC
     simp only [nD,aw,cI,C9,cC h,cn h,hk,q2,q3,q4,i2,gP,hlg,hisC,hlC,hbC,hw,mapOf.eq_1,MB,Bool.false_eq_true,if_true,if_false,EW,simprocAttr]
     exact hi
def Gc {all:AM Node} {P:Node->Prop} (hall:∀k n,bR all k=some n->P n):∀(f:Nat) (ino:Int) (st:VS),(∀n,n∈st.2->P n)->∀n,n∈(dy all f ino st).2.2->P n:=by
 intro f
 induction f with
 |zero=>intro ino st h; exact h
 |succ f ih =>
  intro ino st h
  rw [dy]
  split
  ·exact h
  ·split
   ·exact h
   ·rename_i h1
    cases hn:bR all ino with
    |none=>simp [hn] at h1
    |some n =>
     simp only [Option.getD_some]
     have hfold:∀(l:List b9) (w:Bool×VS),(∀n,n∈w.2.2->P n)->∀n,n∈(l.foldl (fun w e=>((dy all f e.ino w.2).1&&w.1,(dy all f e.ino w.2).2)) w).2.2->P n:=by
      intro l
      induction l with
      |nil=>intro w hw; exact hw
      |cons e r ihr =>
       intro w hw
       rw [List.foldl_cons]
       exact ihr _ (ih e.ino w.2 hw)
     refine hfold _ _ ?_
     intro m hm
     simp only [List.mem_append,List.mem_singleton] at hm
     rcases hm with hm|rfl
     ·exact h m hm
     ·exact hall _ _ hn
def AI (x y:Node):∀l:List Node,y∈yu x l->y=x\/y∈l
 | [],h=>by simp [yu] at h; exact .inl h
 |z::r,h=>by
  simp only [yu] at h
  split at h
  ·simpa using h
  ·rcases List.mem_cons.1 h with h|h
   ·exact .inr (by simp [h])
   ·rcases AI x y r h with h|h
    ·exact .inl h
    ·exact .inr (by simp [h])
def xx (y:Node):∀l:List Node,y∈tV l->y∈l
 | [],h=>h
 |x::r,h=>by
  rcases AI x y _ h with h|h
  ·simp [h]
  ·exact List.mem_cons_of_mem _ (xx y r h)
def vy:∀(l:List Node) (m:AM Node) (k:Int) (n:Node),bR (bW l m) k=some n->n∈l\/bR m k=some n
 | [],m,k,n,h => .inr h
 |x::r,m,k,n,h=>by
  have h':bR (bW r (fP m x.ino x)) k=some n:=h
  rcases vy r _ k n h' with h|h
  ·exact .inl (by simp [h])
  ·rw [fO] at h
   split at h
   ·injection h with h; exact .inl (by simp [h])
   ·exact .inr h
def nK.all {f:aa} (hf:nK f) (a:Int):py (pO f.s a)/\(pO f.s a).length<=100200:=by
 obtain ⟨g1,g2⟩:=ot a f.s.cv [] ⟨fun k n h=>(by cases h),fun k n h=>(by cases h)⟩ (fun p hp=>by have:=(hf.CP p hp).1; omega)
 obtain ⟨g3,g4⟩:=sH a f.s.now.nodes f.s.since (f.s.cv.foldl (fQ a) []) g1 (fun n hn=>by have:=hf.rt.sz.av n hn; omega)
 refine ⟨g3,?_⟩
 have:=hf.rt.sz.nodes; have h3:=hf.cv
 simp at g2; unfold pO; omega
def Qt {f:aa} (hf:nK f) (id:Int):(ue f.s id).2.1.length<=200000/\∀n,n∈(ue f.s id).2.1->n.av.length<=100000:=by
 unfold ue
 split
 ·rename_i x _
  obtain ⟨h1,h2⟩:=hf.all x.at'
  have hg:=oH (all:=pO f.s x.at') h1.own 200001 x.ino ([],[])
  refine ⟨?_,fun n hn=>?_⟩
  ·have:=hg.len; have h3:=nb (pO f.s x.at') []
   simp only [List.length_nil] at this
   simp only [vi,sU,oG]; omega
  ·have:=xx n _ hn
   exact Gc (P:=fun n=>n.av.length<=100000) h1.av 200001 x.ino ([],[]) (fun n h=>by cases h) n this
 ·exact ⟨by simp,fun n h=>by cases h⟩
def xD (f:aa) (o:er):Wk :=
 let a:=ue f.s o.n
 let p:=cg o.path
 let r:=dq (bW a.2.1 []) p.1 (bR (bW a.2.1 []) a.1)
 if (a.2.2 != 0)=true then (f,bM,a.2.2) else
 if (p.2 != 0)=true then (f,bM,p.2) else
 if (r.2 != 0)=true then (f,bM,r.2) else
 (f,⟨0,(r.1.getD Node.zero).ino,(r.1.getD Node.zero).kind,(r.1.getD Node.zero).bw,rJ (r.1.getD Node.zero),(r.1.getD Node.zero).av.map b9.name,(r.1.getD Node.zero).data⟩,0)
def tN {all:AM Node} (hall:∀k n,bR all k=some n->n.av.length<=100000):∀(p:List Bytes) (o:Option Node),(∀n,o=some n->n.av.length<=100000)->∀n,(dq all p o).1=some n->n.av.length<=100000
 | [],o,ho,n,h=>ho n h
 |s::r,o,ho,n,h=>by
  rw [dq] at h
  split at h
  ·exact ho n h
  ·split at h
   ·exact ho n h
   ·exact tN hall r _ (fun m hm=>hall _ _ hm) n h
def c75 (f:aa) (o:er) (hf:nK f) (ho:uc o):gH 75 f o (xD f o):=by
 unfold gH
 have q1:=fun M=>lS (acE f.s o.n (by have:=hf.taken; omega) (by have:=hf.cv; omega) (fun p hp=>by have:=(hf.CP p hp).1; omega) hf.rt.sz hf.len M)
 have ha:=Qt hf o.n
 have q2:=RA o.path (by have:=ho.path; omega)
 have hp:=(pd o.path).2
 unfold xD
 simp only []
 generalize ue f.s o.n=a at q1 ha ⊢
 generalize cg o.path=p at q2 hp ⊢
 have hall:∀k n,bR (bW a.2.1 []) k=some n->n.av.length<=100000:=fun k n h=>by
  rcases vy _ _ _ _ h with h|h
  ·exact ha.2 n h
  ·cases h
 have hpe:=tN hall p.1 (bR (bW a.2.1 []) a.1) (fun n h=>hall _ _ h)
 simp only [a8] at q1
 have k134z:∀M,ak (ai bV) 134 [.agg [.int .i64 0,.int .i64 0,.int .i64 0,.slice .sh [],.slice .sh [],.int .i64 0]] M=some (.int .i64 (rJ Node.zero),M):=fun M=>Ry Node.zero M
 have k133z:∀M,ak (ai bV) 133 [.slice .sh []] M=some (.slice .sh [],M):=fun M=>Rx [] (by simp) M
 cases h0:a.2.2 != 0
 ·cases h1:p.2 != 0
  ·have hlg:=PM (bR (bW a.2.1 []) a.1)
   have hisC:(nD (bR (bW a.2.1 []) a.1)).all ae.c8=true:=by cases bR (bW a.2.1 []) a.1<;>rfl
   have hlC:(nD (bR (bW a.2.1 []) a.1)).length=6:=by cases bR (bW a.2.1 []) a.1<;>rfl
   have main:∀x y,(Row x (((dq (bW a.2.1 []) p.1 (bR (bW a.2.1 []) a.1)).1.getD Node.zero).av.map b9.name |>.map ae.str)/\x=fN (((dq (bW a.2.1 []) p.1 (bR (bW a.2.1 []) a.1)).1.getD Node.zero).av.map b9.name)) ->
     (y=match (dq (bW a.2.1 []) p.1 (bR (bW a.2.1 []) a.1)).1 with|some n=>dg n.data|none => .slice .c0 []) ->
     ai bV 75 [.ptr 0 0] [.cells (aG f o)]=some (if ((dq (bW a.2.1 []) p.1 (bR (bW a.2.1 []) a.1)).2 != 0)=true then bP (dq (bW a.2.1 []) p.1 (bR (bW a.2.1 []) a.1)).2 else .tuple [],
      [if ((dq (bW a.2.1 []) p.1 (bR (bW a.2.1 []) a.1)).2 != 0)=true then aW f o bM (.slice .c0 []) (.slice .c0 []) else
       aW f o ⟨0,((dq (bW a.2.1 []) p.1 (bR (bW a.2.1 []) a.1)).1.getD Node.zero).ino,((dq (bW a.2.1 []) p.1 (bR (bW a.2.1 []) a.1)).1.getD Node.zero).kind,((dq (bW a.2.1 []) p.1 (bR (bW a.2.1 []) a.1)).1.getD Node.zero).bw,rJ ((dq (bW a.2.1 []) p.1 (bR (bW a.2.1 []) a.1)).1.getD Node.zero),[],[]⟩ x y]):=by
    rintro x y ⟨_,hx⟩ hy
    subst hx hy
    refine aq ?_
    have hb:=On (W:=(f,o)) hall (xs:=p.1) (by omega) (fin:=dq (bW a.2.1 []) p.1 (bR (bW a.2.1 []) a.1)) (k:=[.block 2,.seq Ty]) (r:=some (if ((dq (bW a.2.1 []) p.1 (bR (bW a.2.1 []) a.1)).2 != 0)=true then bP (dq (bW a.2.1 []) p.1 (bR (bW a.2.1 []) a.1)).2 else .tuple [],
      [if ((dq (bW a.2.1 []) p.1 (bR (bW a.2.1 []) a.1)).2 != 0)=true then aW f o bM (.slice .c0 []) (.slice .c0 []) else
       aW f o ⟨0,((dq (bW a.2.1 []) p.1 (bR (bW a.2.1 []) a.1)).1.getD Node.zero).ino,((dq (bW a.2.1 []) p.1 (bR (bW a.2.1 []) a.1)).1.getD Node.zero).kind,((dq (bW a.2.1 []) p.1 (bR (bW a.2.1 []) a.1)).1.getD Node.zero).bw,rJ ((dq (bW a.2.1 []) p.1 (bR (bW a.2.1 []) a.1)).1.getD Node.zero),[],[]⟩ (fN (((dq (bW a.2.1 []) p.1 (bR (bW a.2.1 []) a.1)).1.getD Node.zero).av.map b9.name)) (match (dq (bW a.2.1 []) p.1 (bR (bW a.2.1 []) a.1)).1 with|some n=>dg n.data|none => .slice .c0 [])]))
     (fun hz e=>by
      generalize dq (bW a.2.1 []) p.1 (bR (bW a.2.1 []) a.1)=r at hz hpe ⊢
      obtain ⟨o',e'⟩:=r
      simp only at hz
      subst hz
      cases o' with
      |none =>
       simp only [aI,aG,aW,nD,Ee,k133z,k134z,C9,Option.getD_none,bne_self_eq_false,Bool.false_eq_true,if_false,EW,simprocAttr]
       rfl
      |some n =>
       have q5:=Rx n.av (hpe n rfl)
       have q6:=Ry n
       simp only [aw] at q6
       simp only [aI,aG,aW,nD,aw,q5,q6,C9,Option.getD_some,bne_self_eq_false,Bool.false_eq_true,if_false,EW,simprocAttr])
     (fun hz c d=>by
      rw [if_pos hz,if_pos hz]
      simp only [aI,aG,aW,bM,C9,bP,EW,simprocAttr]) p.1 [] (bR (bW a.2.1 []) a.1) rfl (fun n h=>hall _ _ h) rfl
    generalize dq (bW a.2.1 []) p.1 (bR (bW a.2.1 []) a.1)=r at hb ⊢
    have hl:=Om (W:=(f,o)) (at':=a.1) (p:=p.1) (xs:=a.2.1) ha.1 (fin:=bW a.2.1 []) (k:=[.block 0,.seq Tz]) (r:=some (if (r.2 != 0)=true then bP r.2 else .tuple [],[if (r.2 != 0)=true then aW f o bM (.slice .c0 []) (.slice .c0 []) else
       aW f o ⟨0,(r.1.getD Node.zero).ino,(r.1.getD Node.zero).kind,(r.1.getD Node.zero).bw,rJ (r.1.getD Node.zero),[],[]⟩ (fN ((r.1.getD Node.zero).av.map b9.name)) (match r.1 with|some n=>dg n.data|none => .slice .c0 [])]))
     (fun e=>by
      generalize bW a.2.1 []=al at hlg hisC hlC hb ⊢
      generalize nD (bR al a.1)=gc at hlg hisC hlC hb
      simp only [aI,aG,List.length_nil] at hb
      simp only [aI,aG,C9,gP,mapOf.eq_1,hlg,hisC,hlC,EW,simprocAttr]
      exact hb) a.2.1 [] [] rfl rfl
    simp only [aI,aG,List.length_nil,yk,yl] at hl
    simp only [Iu,C9,aI,aG,q1,q2,lj,h0,h1,Bool.false_eq_true,if_false,EW,simprocAttr]
    exact hl
   generalize dq (bW a.2.1 []) p.1 (bR (bW a.2.1 []) a.1)=r at main ⊢
   cases h2:r.2 != 0
   ·refine ⟨fN ((r.1.getD Node.zero).av.map b9.name),(match r.1 with|some n=>dg n.data|none => .slice .c0 []),.inl rfl,?_,?_⟩
    ·obtain ⟨o',e'⟩:=r
     cases o'
     ·exact .inr ⟨rfl,rfl⟩
     ·exact .inl rfl
    ·have:=main _ _ ⟨.inl rfl,rfl⟩ rfl
     rw [h2] at this
     simpa only [Bool.false_eq_true,if_false,bne_self_eq_false,aW] using this
   ·refine ⟨.slice .c0 [],.slice .c0 [],.inr ⟨rfl,rfl⟩,.inr ⟨rfl,rfl⟩,?_⟩
    have:=main _ _ ⟨.inl rfl,rfl⟩ rfl
    rw [h2] at this
    simpa only [Bool.false_eq_true,if_true,if_false,h2] using this
  ·refine ⟨.slice .c0 [],.slice .c0 [],.inr ⟨rfl,rfl⟩,.inr ⟨rfl,rfl⟩,aq ?_⟩
   simp only [Iu,C9,aI,aG,aW,bM,q1,q2,lj,h0,h1,bP,Bool.false_eq_true,if_true,if_false,EW,simprocAttr]
 ·refine ⟨.slice .c0 [],.slice .c0 [],.inr ⟨rfl,rfl⟩,.inr ⟨rfl,rfl⟩,aq ?_⟩
  simp only [Iu,C9,aI,aG,aW,bM,q1,lj,h0,bP,Bool.false_eq_true,if_true,if_false,EW,simprocAttr]
end
end Go.Proofs.YtahkjijkflobhaaGreatDoor
namespace Go.Proofs.YtahkjijkflobhaaGreatDoor
section
open Go Go.RowKit Go.Extern.Stop Go.Stop Go.Extern
def CF (h:Value) (w:World):(Go.method 486 177 (.agg #[h]) "Kind").run Tryz.prog w = .ok (349,h) w:=by kernel_rfl
def CE (h:Value) (w:World):(Go.method 486 177 (.agg #[h]) "Elem").run Tryz.prog w = .ok (359,.agg #[h]) w:=by kernel_rfl
def sF (h:Value) (w:World):(Go.method 486 177 (.agg #[h]) "Implements").run Tryz.prog w = .ok (360,.agg #[h]) w:=by kernel_rfl
def qd (h:Value) (w:World):(Go.method 486 177 (.agg #[h]) "AssignableTo").run Tryz.prog w = .ok (357,.agg #[h]) w:=by kernel_rfl
def rlm (z:Sem Value) (f:TypeId->Addr->Nat->Nat->Sem Value) (v:Value) :
  ReflectliteValue.method z f #[v]=(do match <-ReflectliteValue.parts v with|none=>z|some (t,a,fl)=>f t a fl (fl % 32)):=rfl
def rls (v x:Value):ReflectliteValue.set #[v,x]=(do
  let (some (dst,a,fl),some (src,b,_)):=(<-ReflectliteValue.parts v,<-ReflectliteValue.parts x)
   |unsupported (.noEntry "extern/(internal/reflectlite.Value).Set.zeroValue")
  if fl / ReflectliteValue.flagAddr % 2==0 then unsupported (.noEntry "extern/(internal/reflectlite.Value).Set.unaddressable")
  let val <-loadVar src b
  if <-Rtype.directlyAssignable dst src then storeVar dst a val
  else if <-Rtype.implements dst src then
   if (<-Rtype.kind src)==20 then
    match val with
    | .nilIface=>unsupported (.noEntry "extern/reflectlite: a nil value of one interface type handed on as a value of another")
    |_=>storeVar dst a val
   else storeVar dst a (.iface src val)
  else panicString ("reflectlite.Set: value of type " ++ (<-Rtype.spelt src) ++ " is not assignable to type " ++ (<-Rtype.spelt dst))
  pure (.tuple #[])):=rfl
def Cd (t:Addr) (w:World):(ReflectliteValue.unpack (.iface 73 (.pointer (some t)))).run Tryz.prog w
  = .ok (.agg #[.pointer (some ⟨2,73,none⟩),.pointer (some ⟨w.heap.size,0,none⟩),.int .u64 150]) (w.alloc (.cells #[.pointer (some t)] 73)):=by kernel_rfl
def MX (a:Addr) (w:World):(ReflectliteValue.methodAny (ReflectliteValue.valueError "reflectlite.Value.Type" 0) (fun t _ _ _=>ReflectliteType.toType t) #[.agg #[.pointer (some ⟨2,73,none⟩),.pointer (some a),.int .u64 150]]).run Tryz.prog w
  = .ok (.iface 177 (.agg #[.pointer (some ⟨2,73,none⟩)])) w:=by kernel_rfl
def MV (w:World):((ReflectliteType.abiMethod fun t=>Functor.map (fun a:Nat=>Value.int IntKind.u8 (a:Int)) (Rtype.kind t)) #[.pointer (some ⟨2,73,none⟩)]).run Tryz.prog w = .ok (.int .u8 22) w:=by kernel_rfl
def MW (w:World):((ReflectliteType.abiMethod fun t=>Functor.map (fun a:Nat=>Value.int IntKind.u8 (a:Int)) (Rtype.kind t)) #[.pointer (some ⟨2,42,none⟩)]).run Tryz.prog w = .ok (.int .u8 2) w:=by kernel_rfl
def zP (a:Addr) (w:World):(ReflectliteValue.parts (.agg #[.pointer (some ⟨2,73,none⟩),.pointer (some a),.int .u64 150])).run Tryz.prog w = .ok (some (73,a,150)) w:=by kernel_rfl
def GU (a p:Addr) (W:World) (ha:W.cell? a=some (.pointer (some p))) :
  (ReflectliteValue.method (ReflectliteValue.valueError "reflectlite.Value.IsNil" 0) ReflectliteValue.isNil #[.agg #[.pointer (some ⟨2,73,none⟩),.pointer (some a),.int .u64 150]]).run Tryz.prog W = .ok (.bool false) W:=by
 rw [rlm]
 simp only [Sem.run_bind,zP,Result.andThen]
 simp [ReflectliteValue.isNil,loadVar,isAgg,underlying,Tryz.underlying73,ha,Result.andThen]
def MU (w:World):(ReflectliteType.method ReflectliteType.elem #[.agg #[.pointer (some ⟨2,73,none⟩)]]).run Tryz.prog w = .ok (.iface 177 (.agg #[.pointer (some ⟨2,42,none⟩)])) w:=by kernel_rfl
def wo (w:World):(ReflectliteType.relation "Implements" ReflectliteType.implements_ #[.agg #[.pointer (some ⟨2,42,none⟩)],.iface 177 (.agg #[.pointer (some ⟨2,70,none⟩)])]).run Tryz.prog w = .ok (.bool true) w:=by kernel_rfl
def E0 (v:Value) (w:World):(ReflectliteType.typeOf #[.iface 42 v]).run Tryz.prog w = .ok (.iface 177 (.agg #[.pointer (some ⟨2,42,none⟩)])) w:=by kernel_rfl
def wm (w:World):(ReflectliteType.relation "AssignableTo" ReflectliteType.assignableTo #[.agg #[.pointer (some ⟨2,42,none⟩)],.iface 177 (.agg #[.pointer (some ⟨2,42,none⟩)])]).run Tryz.prog w = .ok (.bool true) w:=by kernel_rfl
def Ce (e:Int) (w:World):(ReflectliteValue.unpack (.iface 42 (.int .i64 e))).run Tryz.prog w
  = .ok (.agg #[.pointer (some ⟨2,42,none⟩),.pointer (some ⟨w.heap.size,0,none⟩),.int .u64 130]) (w.alloc (.cells #[.int .i64 e] 42)):=by kernel_rfl
def EY (w:World):(Rtype.elem? 73).run Tryz.prog w = .ok (some 42) w:=by kernel_rfl
def Wc (p:Addr) (w:World):(ReflectliteValue.mk 42 p ReflectliteValue.flagAddr).run Tryz.prog w = .ok (.agg #[.pointer (some ⟨2,42,none⟩),.pointer (some p),.int .u64 386]) w:=by kernel_rfl
def GS (a p:Addr) (W:World) (ha:W.cell? a=some (.pointer (some p))) :
  (ReflectliteValue.method (ReflectliteValue.valueError "reflectlite.Value.Elem" 0) ReflectliteValue.elem #[.agg #[.pointer (some ⟨2,73,none⟩),.pointer (some a),.int .u64 150]]).run Tryz.prog W
   = .ok (.agg #[.pointer (some ⟨2,42,none⟩),.pointer (some p),.int .u64 386]) W:=by
 rw [rlm]
 simp only [Sem.run_bind,zP,Result.andThen]
 simp [ReflectliteValue.elem,loadVar,isAgg,underlying,Tryz.underlying73,ha,Result.andThen,EY,Wc]
def EZ (a:Addr) (w:World):(ReflectliteValue.parts (.agg #[.pointer (some ⟨2,42,none⟩),.pointer (some a),.int .u64 386])).run Tryz.prog w = .ok (some (42,a,386)) w:=by kernel_rfl
def GV (a:Addr) (w:World):(ReflectliteValue.parts (.agg #[.pointer (some ⟨2,42,none⟩),.pointer (some a),.int .u64 130])).run Tryz.prog w = .ok (some (42,a,130)) w:=by kernel_rfl
def EX (w:World):(Rtype.directlyAssignable 42 42).run Tryz.prog w = .ok true w:=by kernel_rfl
def QZ (ta b:Addr) (e:Int) (mP:Value) (W:World) (hb:W.cell? b=some (.int .i64 e)) (ht:W.cell? ta=some mP) (hf:W.frozen? ta=false) :
  (ReflectliteValue.set #[.agg #[.pointer (some ⟨2,42,none⟩),.pointer (some ta),.int .u64 386],.agg #[.pointer (some ⟨2,42,none⟩),.pointer (some b),.int .u64 130]]).run Tryz.prog W
   = .ok (.tuple #[]) (W.setCell ta (.int .i64 e)):=by
 have hz:=Tryz.sizeOf42
 have hadd:∀a:Addr,a.add 0=a:=fun a=>by simp [Addr.add]
 rw [rls]
 simp only [Sem.run_bind,EZ,GV,Result.andThen]
 simp [ReflectliteValue.flagAddr,loadVar,isAgg,underlying,Tryz.underlying42,hb,Result.andThen,EX,storeVar,Value.cells,storeCells,loadCells,loadCellsFrom,hz,hadd]
 rw [run_store Tryz.prog W ta _ _ (by rfl)]
 simp [ht,hf]
set_option maxHeartbeats 4000000 in
set_option maxRecDepth 40000 in
def Wb (e:Int) (t:Addr) (mP:Value) (w:World) (hg:w.cell? ⟨0,0,none⟩=some (.iface 177 (.agg #[.pointer (some ⟨2,70,none⟩)]))) (ht0:w.cell? t=some mP) (hf0:w.frozen? t=false) :
  Calls Tryz.prog 26 #[.iface 42 (.int .i64 e),.iface 73 (.pointer (some t))] w fun ev w'=>ev = .returned (.bool true)/\w'=((((w.alloc (.cells #[.pointer (some t)] 73)).alloc (.cells #[.pointer (some ⟨2,73,none⟩),.pointer (some ⟨w.heap.size,0,none⟩),.int .u64 150] 117)).alloc (.cells #[.pointer (some ⟨2,73,none⟩),.pointer (some ⟨w.heap.size,0,none⟩),.int .u64 150] 117)).alloc (.cells #[.int .i64 e] 42)).setCell t (.int .i64 e):=by
 have h6:=@run_callFunc_extern Tryz.prog 57 _ (fun args=>ReflectliteValue.unpack (args.getD 0 (.tuple #[]))) Tryz.func57 (by kernel_rfl) (by kernel_rfl) (by kernel_rfl) (by kernel_rfl)
 have h7:=@run_callFunc_extern Tryz.prog 58 _ (ReflectliteValue.methodAny (ReflectliteValue.valueError "reflectlite.Value.Type" 0) (fun t _ _ _=>ReflectliteType.toType t)) Tryz.func58 (by kernel_rfl) (by kernel_rfl) (by kernel_rfl) (by kernel_rfl)
 have h8:=@run_callFunc_extern Tryz.prog 59 _ (ReflectliteValue.method (ReflectliteValue.valueError "reflectlite.Value.IsNil" 0) ReflectliteValue.isNil) Tryz.func59 (by kernel_rfl) (by kernel_rfl) (by kernel_rfl) (by kernel_rfl)
 have h27:=@run_callFunc_extern Tryz.prog 349 _ (ReflectliteType.abiMethod fun t=>do pure (.int .u8 (<-Rtype.kind t))) Tryz.func349 (by kernel_rfl) (by kernel_rfl) (by kernel_rfl) (by kernel_rfl)
 have h37:=@run_callFunc_extern Tryz.prog 359 _ (ReflectliteType.method ReflectliteType.elem) Tryz.func359 (by kernel_rfl) (by kernel_rfl) (by kernel_rfl) (by kernel_rfl)
 have h38:=@run_callFunc_extern Tryz.prog 360 _ (ReflectliteType.relation "Implements" ReflectliteType.implements_) Tryz.func360 (by kernel_rfl) (by kernel_rfl) (by kernel_rfl) (by kernel_rfl)
 have h10:=@run_callFunc_extern Tryz.prog 121 _ ReflectliteType.typeOf Tryz.func121 (by kernel_rfl) (by kernel_rfl) (by kernel_rfl) (by kernel_rfl)
 have h35:=@run_callFunc_extern Tryz.prog 357 _ (ReflectliteType.relation "AssignableTo" ReflectliteType.assignableTo) Tryz.func357 (by kernel_rfl) (by kernel_rfl) (by kernel_rfl) (by kernel_rfl)
 have h11:=@run_callFunc_extern Tryz.prog 122 _ (ReflectliteValue.method (ReflectliteValue.valueError "reflectlite.Value.Elem" 0) ReflectliteValue.elem) Tryz.func122 (by kernel_rfl) (by kernel_rfl) (by kernel_rfl) (by kernel_rfl)
 have h12:=@run_callFunc_extern Tryz.prog 123 _ ReflectliteValue.set Tryz.func123 (by kernel_rfl) (by kernel_rfl) (by kernel_rfl) (by kernel_rfl)
 have tO:=E0
 have mA:=qd
 have a25:=wm
 have v25:=Ce
 have f6:=Cd
 have f7:=MX
 have mK:=CF
 have mE:=CE
 have mI:=sF
 have ZU:=MV
 have k25:=MW
 have e27:=MU
 have i25:=wo
 have n8:=GU ⟨w.heap.size,0,none⟩ t ((w.alloc (.cells #[.pointer (some t)] 73)).alloc (.cells #[.pointer (some ⟨2,73,none⟩),.pointer (some ⟨w.heap.size,0,none⟩),.int .u64 150] 117)) (by simp)
 have hlt:0<w.heap.size:=by
  rcases Nat.eq_zero_or_pos w.heap.size with h0|h
  ·simp [World.cell?,h0] at hg
  ·exact h
 have hg2:((w.alloc (.cells #[.pointer (some t)] 73)).alloc (.cells #[.pointer (some ⟨2,73,none⟩),.pointer (some ⟨w.heap.size,0,none⟩),.int .u64 150] 117)).cell? ⟨0,0,none⟩=some (.iface 177 (.agg #[.pointer (some ⟨2,70,none⟩)])):=by
  rw [World.cell?_alloc_lt _ _ ⟨0,0,none⟩ (by simp),World.cell?_alloc_lt _ _ ⟨0,0,none⟩ hlt]; exact hg
 have htl:t.block<w.heap.size:=by
  rcases Nat.lt_or_ge t.block w.heap.size with h|h
  ·exact h
  ·simp [World.cell?,Array.getElem?_eq_none h] at ht0
 have el:=GS ⟨w.heap.size,0,none⟩ t (((w.alloc (.cells #[.pointer (some t)] 73)).alloc (.cells #[.pointer (some ⟨2,73,none⟩),.pointer (some ⟨w.heap.size,0,none⟩),.int .u64 150] 117)).alloc (.cells #[.pointer (some ⟨2,73,none⟩),.pointer (some ⟨w.heap.size,0,none⟩),.int .u64 150] 117)) (by rw [World.cell?_alloc_lt _ _ ⟨w.heap.size,0,none⟩ (by simp; omega)]; simp)
 have st:=QZ t ⟨w.heap.size+1+1+1,0,none⟩ e mP ((((w.alloc (.cells #[.pointer (some t)] 73)).alloc (.cells #[.pointer (some ⟨2,73,none⟩),.pointer (some ⟨w.heap.size,0,none⟩),.int .u64 150] 117)).alloc (.cells #[.pointer (some ⟨2,73,none⟩),.pointer (some ⟨w.heap.size,0,none⟩),.int .u64 150] 117)).alloc (.cells #[.int .i64 e] 42))
  (by rw [World.cell?_alloc_at _ _ _ _ (by simp)]; rfl)
  (by rw [World.cell?_alloc_lt _ _ t (by simp; omega),World.cell?_alloc_lt _ _ t (by simp; omega),World.cell?_alloc_lt _ _ t (by simp; omega),World.cell?_alloc_lt _ _ t htl]; exact ht0)
  (by rw [World.frozen?_alloc_old _ _ t (by simp; omega),World.frozen?_alloc_old _ _ t (by simp; omega),World.frozen?_alloc_old _ _ t (by simp; omega),World.frozen?_alloc_old _ _ t (Nat.ne_of_lt htl)]; exact hf0)
 go_enter Tryz.func26,Tryz.ntmps26
 go_wp2
 refine wp_loop_rounds 1 ?_
 rw [rounds_succ]
 go_wp2
 go_ret
 exact ⟨rfl,rfl⟩
end
end Go.Proofs.YtahkjijkflobhaaGreatDoor
set_option linter.defProp false
namespace Go.Proofs.YtahkjijkflobhaaGreatDoor
open Go Go.Abs
def xG:aO :=
 (.seq (.region [
 ob 36 (.mv (.tmp 8)),
 ob 37 (.MH (.tmp 36)),
 ob 38 (.cX 0 (.tmp 37)),
 ob 39 (.eG 10 (.tmp 38)),
 ob 40 (.mv (.tmp 8)),
 ob 41 (.MH (.tmp 40)),
 ob 42 (.cX 18 (.tmp 41)),
 ob 43 (.eG 7 (.tmp 42)),
 ⟨none,.store 10 (.tmp 4) (.tmp 39),none,true,false,[42],true⟩,
 ox (.store 7 (.tmp 5) (.tmp 43))] true [4,5]) (.ret))
def xH:aO :=
 (.seq (.region [
 ob 33 (.mv (.tmp 6)),
 ob 34 (.mv (.tmp 8)),
 ob 35 (.nr (.tmp 33) [(.tmp 34)])] false [4,5,8]) xG)
def xI:aO :=
 (.seq (.region [
 ob 29 (.eG 10 (.tmp 2)),
 ob 30 (.eG 8 (.tmp 3)),
 ob 31 (.build [(.slice .c0 []),(.int .i64 0),(.int .i64 0),(.int .i64 0),(.slice .c0 []),(.slice .c0 []),(.slice .c0 []),(.int .i64 0),(.slice .c0 []),(.slice .c0 []),(.int .i64 0),(.int .i64 0),(.str []),(.str []),(.int .i64 0),(.int .i64 0),(.int .i64 0),(.slice .c0 []),(.int .i64 0),(.int .i64 0),(.int .i64 0),(.int .i64 0),(.int .i64 0),(.slice .c0 []),(.slice .c0 [])] [(0,10,(.tmp 29)),(10,8,(.tmp 30))]),
 ob 32 (.box (.tmp 31)),
 ob 8 (.mv (.tmp 32))] false [4,5,6,8]) xH)
def xJ:aO :=
 (.seq (.region [
 ob 17 (.mv (.tmp 7)),
 ob 18 (.mv (.tmp 17)),
 og 19 18 true (.cX 1 (.tmp 3)),
 og 20 18 true (.cB (.tmp 19)),
 og 21 18 true (.bin .geq (.tmp 20) (.dX (.int .i64 0))),
 ob 22 (.pick (.tmp 18) (.tmp 21) (.dX (.bool false))),
 ob 23 (.mv (.tmp 22)),
 og 24 23 true (.cX 1 (.tmp 3)),
 og 25 23 true (.cB (.tmp 24)),
 og 26 23 true (.bin .lss (.tmp 25) (.dX (.int .i64 16))),
 ob 27 (.pick (.tmp 23) (.tmp 26) (.dX (.bool false))),
 ob 28 (.call 28 [(.tmp 27),(.dX (.int .i64 1))])] false [2,3,4,5,6]) xI)
noncomputable def Po:Code:=match Tryz.f14.body with|some (.seq _ (.seq _ r))=>r|_ => .skip
def GB:we:={ n:=44,own:=[],lv:=[(2,[2,3,4,5,6,7]),(3,[2,3,4,5,6]),(4,[4,5,6,8]),(5,[4,5,8]),(6,[4,5])],lp:=[] }
def nt:aO :=
 (.seq (.region [
 ⟨(some 11),.call 27 [],none,true,false,[],false⟩,
 ob 12 (.cX 0 (.tmp 3)),
 ob 13 (.cB (.tmp 12)),
 ob 14 (.look .i (.raw .nilFunc) true (.tmp 11) (.tmp 13)),
 ob 10 (.mv (.tmp 14)),
 ob 15 (.extract (.tmp 10) 0),
 ob 16 (.extract (.tmp 10) 1),
 ob 6 (.mv (.tmp 15)),
 ob 7 (.mv (.tmp 16))] true [2,3,4,5,6,7]) xJ)
def X1:comp Tryz.prog GB Po=some nt:=by kernel_rfl
noncomputable def Pp:Code:=match Tryz.f25.body with|some (.seq _ (.seq _ (.cond _ (.seq _ (.seq _ r)) _)))=>r|_ => .skip
def Qr:we:={ n:=20,own:=[],lv:=[(5,[])],lp:=[] }
def pA:aO :=
 (.region [
 ob 17 (.eG 10 (.tmp 0)),
 ob 18 (.cB (.tmp 5)),
 ob 19 (.build [(.int .i64 0),(.int .i64 0),(.int .i64 0),(.int .i64 0),(.int .i64 0),(.slice .c0 []),(.slice .c0 [])] [(0,1,(.tmp 18))]),
 ox (.store 10 (.tmp 1) (.tmp 17)),
 ox (.store 7 (.tmp 2) (.tmp 19))] false [])
def Y5:comp Tryz.prog Qr Pp=some pA:=by kernel_rfl
noncomputable def Pn:Code:=match Tryz.f14.body with|some (.seq r _)=>r|_ => .skip
def Qp:we:={ n:=44,own:=[],lv:=[(0,[2,3,4,5])],lp:=[] }
def Dh:aO :=
 (.region [
 ob 2 (.box (.tmp 0)),
 ob 3 (.box (.tmp 1)),
 ob 4 (.ib [(.slice .c0 []),(.int .i64 0),(.int .i64 0),(.int .i64 0),(.slice .c0 []),(.slice .c0 []),(.slice .c0 []),(.int .i64 0),(.slice .c0 []),(.slice .c0 [])]),
 ob 5 (.ib [(.int .i64 0),(.int .i64 0),(.int .i64 0),(.int .i64 0),(.int .i64 0),(.slice .c0 []),(.slice .c0 [])])] false [2,3,4,5])
def X0:comp Tryz.prog Qp Pn=some Dh:=by kernel_rfl
end Go.Proofs.YtahkjijkflobhaaGreatDoor
namespace Go.Proofs.YtahkjijkflobhaaGreatDoor
open Go Go.Abs
def BF (w:World):(Instr.typeAssert .nilIface 20 70 true).run Tryz.prog w = .ok (.tuple #[.nilIface,.bool false]) w:=by kernel_rfl
def BE (v:Value) (w:World):(Instr.typeAssert (.iface 42 v) 20 70 true).run Tryz.prog w = .ok (.tuple #[.iface 42 v,.bool true]) w:=by kernel_rfl
set_option maxRecDepth 40000 in
def BN (p q r:Value) (w:World) :
  CallsD Tryz.prog 25 #[p,q,r] .returning w fun e u' w'=>e = .returned (.tuple #[])/\u' = .returning/\w'=w:=by
 refine callsD_of_wpS Tryz.func25 rfl fun c₀ cs hu=>?_
 simp only [Tryz.ntmps25,List.size_toArray,List.length_cons,List.length_nil,Nat.reduceAdd,Nat.reduceSub,Array.replicate_succ,Array.replicate_zero,List.push_toArray,List.append_toArray,List.cons_append,List.nil_append]
 apply wpS_seq
 apply wpS_region
 simp [wpOpsS,go_sem,recoverD,hu,Exit.thenS,BF]
 apply wpS_seq
 apply wpS_region
 simp [wpOpsS,go_sem,Exit.thenS]
 refine wpS_cond (t:=false) (by simp [Act.eval]) ?_
 simp only [Bool.false_eq_true,if_false]
 refine wpS_of_wp (wp_skip ?_)
 cases c₀
 simp_all [bodyPostS,results,Tryz.results25]
def yc (w:World) (o:Obj):(w.alloc o).heap=w.heap.push o:=rfl
def Lr {e:Int} {j:J} {M:ag} {w W:World} (hr:Rel j M w) (hsz:w.heap.size<W.heap.size) (hos:W.os=w.os) (ht:W.tape=w.tape) (hou:W.output=w.output) (dH:W.heap[w.heap.size]?=some (.cells #[.int .i64 e] 42 (0,0))) (hb:∀b,b<w.heap.size->W.heap[b]?=w.heap[b]?) :
  Rel (bX j M.length (some w.heap.size)) (M++[.cells [.int .i64 e]]) W/\Ext j M w (bX j M.length (some w.heap.size)) (M++[.cells [.int .i64 e]]) W:=by
 have hob:∀b,some w.heap.size=some b->w.heap.size<=b/\b<W.heap.size:=fun b h=>by injection h with h; omega
 have q:Quiet w W:=⟨by omega,hos,ht,hou⟩
 refine ⟨hr.push hob q hb (fun _=>⟨_,rfl,fun j' M' _=>⟨_,_,dH,rfl,fun i c v hc hv=>?_⟩⟩) (fun sz n b h=>by cases h),Ext.push (fun b h=>(hob b h).1) q hb⟩
 match i with
 |0 =>
  simp at hc hv
  subst hc; subst hv
  exact .plain (.int _ _)
 |i+1=>simp at hc
def ED {e:Int} {j:J} {M:ag} {w:World} (hr:Rel j M w) (hG:j4 j M w) {p q r:Value} {xp xq xr:ae} (hp:bQ j M w xp p) (hq:bQ j M w xq q) (hr':bQ j M w xr r) {o:Out}
  (ho:br (ai bV) pA [(0,xp),(1,xq),(2,xr),(5,.ptr M.length 0)] (M++[.cells [.int .i64 e]])=some o) (hn:o.e = .normal) :
  CallsD Tryz.prog 25 #[p,q,r] (.panicking [{ v := .iface 42 (.int .i64 e),recovered:=false }]) w fun ed u' w' =>
   ed = .returned (.tuple #[])/\u' = .panicking [{ v := .iface 42 (.int .i64 e),recovered:=true }]/\∃j',Rel j' o.mem w'/\Ext j M w j' o.mem w':=by
 have hg:=(hG.g 0 [zQ] 0 zQ rfl rfl).2
 have hlt:0<w.heap.size:=(hG.g 0 [zQ] 0 zQ rfl rfl).1.lt
 refine callsD_of_wpS Tryz.func25 rfl fun c₀ cs hu=>?_
 simp only [Tryz.ntmps25,List.size_toArray,List.length_cons,List.length_nil,Nat.reduceAdd,Nat.reduceSub,Array.replicate_succ,Array.replicate_zero,List.push_toArray,List.append_toArray,List.cons_append,List.nil_append]
 apply wpS_seq
 apply wpS_region
 simp [wpOpsS,go_sem,recoverD,hu,Exit.thenS,BE]
 apply wpS_seq
 apply wpS_region
 simp [wpOpsS,go_sem,Exit.thenS]
 refine wpS_cond (t:=true) (by simp [Act.eval]) ?_
 simp only [if_true]
 refine wpS_of_wp ?_
 refine wp_seq (wp_region ?_)
 simp [wpOps,go_sem,Exit.then]
 refine .inl (wp_seq (wp_seq (wp_region ?_)))
 simp [wpOps,go_sem,Exit.then]
 repeat' refine Or.inl ?_
 refine (Wb e ⟨w.heap.size,0,none⟩ (.int .i64 0) _ ?_ ?_ ?_).mono ?_
 ·rw [World.cell?_alloc_lt _ _ ⟨0,0,none⟩ hlt]; exact hg
 ·simp
 ·simp
 rintro ev w' ⟨rfl,rfl⟩
 simp [go_sem]
 refine .inl (wp_cond (t:=false) ?_ ?_)
 ·simp [Act.eval]
 simp only [Bool.false_eq_true,if_false]
 refine wp_skip ?_
 simp only [Exit.then]
 have hR:=Lr (e:=e) hr (W:=((((w.alloc (.cells #[.int .i64 e] 42)).alloc (.cells #[.pointer (some ⟨w.heap.size,0,none⟩)] 73)).alloc (.cells #[.pointer (some ⟨2,73,none⟩),.pointer (some ⟨w.heap.size+1,0,none⟩),.int .u64 150] 117)).alloc (.cells #[.pointer (some ⟨2,73,none⟩),.pointer (some ⟨w.heap.size+1,0,none⟩),.int .u64 150] 117)).alloc (.cells #[.int .i64 e] 42))
  (by simp only [yc,Array.size_push]; omega) rfl rfl rfl (by
   have h2:w.heap.size≠w.heap.size+1+1:=by omega
   have h3:w.heap.size≠w.heap.size+1+1+1:=by omega
   have h4:w.heap.size≠w.heap.size+1+1+1+1:=by omega
   simp only [yc]; simp [Array.getElem?_push,h2,h3,h4]) (fun b hb=>by
   have h1:b≠w.heap.size:=by omega
   have h2:b≠w.heap.size+1:=by omega
   have h3:b≠w.heap.size+1+1:=by omega
   have h4:b≠w.heap.size+1+1+1:=by omega
   have h5:b≠w.heap.size+1+1+1+1:=by omega
   simp only [yc]; simp [Array.getElem?_push,h1,h2,h3,h4,h5])
 have hG':=hG.mono hR.2
 have key:=wpIn_wide.1 (eZ (rd:=none) (nd:=0) (by kernel_rfl) CW Pp Y5 ho hR.1 hG' (a:={ tmps := #[p,q,r,.iface 42 (.int .i64 e),.bool true,.pointer (some ⟨w.heap.size,0,none⟩),.tuple #[.iface 42 (.int .i64 e),.bool true],.iface 42 (.int .i64 e),.tuple #[.iface 42 (.int .i64 e),.bool true],.iface 42 (.int .i64 e),.bool true,.bool true,.iface 42 (.int .i64 e),.iface 73 (.pointer (some ⟨w.heap.size,0,none⟩)),.bool true,.bool false,undef,undef,undef,undef],defers:=[] }) ?_ rfl)
 ·refine wp_mono key ?_
  rintro ex a' w' ⟨h1,h2,h3,j',h4,h5,h6⟩
  rw [hn] at h1
  simp only [jj] at h1
  subst h1
  simp [bodyPostS,results,Tryz.results25,h3]
  exact ⟨j',h4,hR.2.trans h6⟩
 ·refine ⟨fun t=>?_,hG'⟩
  match t with
  |0=>exact hp.mono hR.2
  |1=>exact hq.mono hR.2
  |2=>exact hr'.mono hR.2
  |5=>exact .ptr (by simp) ⟨_,fZ⟩ (by simp [bX])
  |3=>exact .any _
  |4=>exact .any _
  |t+6=>exact .any _
end Go.Proofs.YtahkjijkflobhaaGreatDoor
namespace Go.Abs
section
open Go
variable [dQ]
def Lu {a:Act} {d:Option Nat} {v:Value} {t:Nat} (h:d≠some t):(a.put d v).tmps.getD t undef=a.tmps.getD t undef:=by
 cases d with
 |none=>rfl
 |some s =>
  have hne:s≠t:=fun e=>h (by rw [e])
  simp [Act.put,Array.getD_eq_getD_getElem?,Array.getElem?_setIfInBounds_ne hne]
def IW {F:Fence} {n:Nat} {P:Program} {ops:Array Oper} {Q:Exit->Act->World->Prop} {ks:List Nat} {v0:Nat->Value}:∀(l:List Nat) (a:Act) (w:World),
  (∀i o,i∈l->ops[i]?=some o->∀t,t∈ks->o.dst≠some t)->(∀t,t∈ks->a.tmps.getD t undef=v0 t)->wpOpsIn F n P ops Q l a w->wpOpsIn F n P ops (fun e a' w'=>Q e a' w'/\(e = .outgrown\/∀t,t∈ks->a'.tmps.getD t undef=v0 t)) l a w:=by
 intro l
 induction l with
 |nil=>exact fun a w _ hv h=>⟨h,.inr hv⟩
 |cons i rest ih =>
  intro a w hd hv h
  have hd':∀i o,i∈rest->ops[i]?=some o->∀t,t∈ks->o.dst≠some t:=fun i o hi=>hd i o (List.mem_cons_of_mem _ hi)
  simp only [wpOpsIn] at h ⊢
  cases ho:ops[i]? with
  |none=>rw [ho] at h; exact ih a w hd' hv h
  |some o =>
   rw [ho] at h
   have hdo:=hd i o List.mem_cons_self ho
   have hp:∀(a:Act) v,(∀t,t∈ks->a.tmps.getD t undef=v0 t)->∀t,t∈ks->(a.put o.dst v).tmps.getD t undef=v0 t:=fun a v h t ht=>(Lu (hdo t ht)).trans (h t ht)
   simp only at h ⊢
   split at h
   ·rename_i hw
    rw [if_pos hw]
    refine ⟨h.1,?_⟩
    have h:=h.2
    unfold Oper.uponIn at h ⊢
    split at h
    ·exact ih _ _ hd' (hp _ _ hv) h
    ·exact ih _ _ hd' (hp _ _ hv) h
    ·exact ih _ _ hd' (hp _ _ hv) h
    ·refine ⟨h.1,h.2.mono fun e w' h=>?_⟩
     cases e with
     |returned v=>exact ih _ _ hd' (hp _ _ hv) h
     |panicked c=>exact ⟨h,.inr hv⟩
     |outgrown=>obtain ⟨a1,w1,h⟩:=h; exact ⟨a1,w1,h,.inl rfl⟩
    ·exact ⟨h.1,h.2.mono fun v w' h=>ih _ _ hd' (hp _ _ hv) h⟩
    ·refine ⟨h.1,h.2.mono fun e w' h=>?_⟩
     cases e with
     |returned v=>exact ih _ _ hd' (hp _ _ hv) h
     |panicked c=>exact ⟨h,.inr hv⟩
     |outgrown=>obtain ⟨a1,w1,h⟩:=h; exact ⟨a1,w1,h,.inl rfl⟩
    ·exact ⟨h,.inr hv⟩
    ·exact h.elim
   ·rename_i hw
    rw [if_neg hw]
    exact ⟨h.1,ih _ _ hd' (hp _ _ hv) h.2⟩
def ug (ks:List Nat) (env:Env) (o:Out):Out:=match o.e with
 | .fK v=>⟨.fK v,fI env ks,o.mem⟩
 |_=>o
noncomputable def jY (C:bt) (ks:List Nat):aO->Env->ag->Option Out
 | .seq x y,env,M=>aF (jY C ks x env M) fun o=>lQ o (jY C ks y)
 | .region ops d live,env,M=>aF (br C (.region ops d live) env M) fun o=>some (if d=true then o else ug ks env o)
 |c,env,M=>br C c env M
def Ag (ks:List Nat):Code->Bool
 | .seq x y=>Ag ks x&&Ag ks y
 | .region _ ops _=>ops.toList.all fun o=>match o.dst with|some d => !ks.contains d|none=>true
 |_=>true
def Bf {P:Program} {C:bt} {A:we} (hmix:P.follows .mixedOrders=true) (hC:hU P C) {rd:Option Nat} {nd:Nat} {ks:List Nat}:∀(c:Code) {ac:aO},comp P A c=some ac->Ag ks c=true->∀ {env:Env} {M:ag} {o:Out},jY C ks ac env M=some o ->
  ∀ {j:J} {w:World} {a:Act},Rel j M w->j4 j M w->aL j M w env a->a.tmps.size=A.n->c.wpIn (Wd rd) nd P (Mq A j M w a o) a w:=by
 intro c
 induction c with
 |seq x y ihx ihy =>
  intro ac hc hf env M o h j w a hr hG he hs
  simp only [comp] at hc
  obtain ⟨ax,hx,hc⟩:=an hc
  obtain ⟨ay,hy,hc⟩:=an hc
  injection hc with hc; subst hc
  simp only [Ag,Bool.and_eq_true] at hf
  simp only [jY] at h
  obtain ⟨o1,h1,h⟩:=au h
  refine wpIn_seq (wpIn_mono (ihx hx hf.1 h1 hr hG he hs) ?_)
  rintro e a1 w1 ⟨he1,hs1,hd1,j1,r1,e1,x1⟩
  rcases kN h with ⟨hn,h2⟩|⟨hn,h2⟩
  ·rw [hn] at he1
   subst he1
   refine wpIn_mono (ihy hy hf.2 h2 r1 (hG.mono x1) e1 hs1) ?_
   rintro e a2 w2 ⟨he2,hs2,hd2,j2,r2,e2,x2⟩
   exact ⟨he2,hs2,hd2.trans hd1,j2,r2,e2,x1.trans x2⟩
  ·subst h2
   have:jj o.e ≠ .normal:=by cases ho:o.e<;>simp_all [jj]
   subst he1
   cases hx:jj o.e<;>first
    |exact absurd hx this
    |exact ⟨hx.symm,hs1,hd1,j1,r1,e1,x1⟩
 |region id ops draw =>
  intro ac hc hf env M o h j w a hr hG he hs
  cases draw with
  |true =>
   have hc0:=hc
   simp only [comp,if_true] at hc
   obtain ⟨l0,hl0,hc⟩:=an hc
   obtain ⟨l,hl,hc⟩:=an hc
   injection hc with hc; subst hc
   simp only [jY,if_true] at h
   obtain ⟨o1,h1,h⟩:=au h
   injection h with h; subst h
   exact eZ hmix hC _ hc0 h1 hr hG he hs
  |false =>
   have hc0:=hc
   simp only [comp,Bool.false_eq_true,if_false] at hc
   obtain ⟨l,hl,hc⟩:=an hc
   injection hc with hc; subst hc
   simp only [jY,Bool.false_eq_true,if_false] at h
   obtain ⟨o1,h1,h⟩:=au h
   injection h with h; subst h
   simp only [br] at h1
   obtain ⟨x,hx,h1⟩:=au h1
   injection h1 with h1; subst h1
   have hdst:∀i o,i∈List.range ops.size->ops[i]?=some o->∀t,t∈ks->o.dst≠some t:=by
    intro i o _ hio t ht hd
    simp only [Ag,List.all_eq_true] at hf
    have:=hf o (Array.mem_toList_iff.2 (Array.mem_of_getElem? hio))
    rw [hd] at this
    simp [ht] at this
   refine wpIn_mono (wpIn_region (IW (v0:=fun t=>a.tmps.getD t undef) _ a w hdst (fun _ _=>rfl) (by
    rw [List.range_eq_range']
    exact o9 hC (grow:=[]) ops.toList 0 (by simp) hl hx hr hG he hs fun a' w' j' h1 h2 h3 h4 h5=>sO (live:=find A.lv id) h1 h2 h3 h4 h5))) ?_
   rintro e a1 w1 ⟨⟨he1,hs1,hd1,j1,r1,e1,x1⟩,hk⟩
   clear hx
   generalize x.iM (find A.lv id)=y at he1 r1 e1 x1 ⊢
   cases hye:y.e with
   |fK v =>
    have hp:ug ks env y=⟨.fK v,fI env ks,y.mem⟩:=by unfold ug; rw [hye]
    rw [hp]
    have hk':=hk.resolve_left (by rw [he1,hye]; simp [jj])
    refine ⟨by rw [he1,hye],hs1,hd1,j1,r1,⟨fun t=>?_,hG.mono x1⟩,x1⟩
    rw [pY]
    split
    ·rename_i ht
     rw [hk' t ht]
     exact (he.at' t).mono x1
    ·exact .any _
   |normal =>
    have hp:ug ks env y=y:=by unfold ug; rw [hye]
    rw [hp]; exact ⟨he1,hs1,hd1,j1,r1,e1,x1⟩
   |ret =>
    have hp:ug ks env y=y:=by unfold ug; rw [hye]
    rw [hp]; exact ⟨he1,hs1,hd1,j1,r1,e1,x1⟩
   |exit i =>
    have hp:ug ks env y=y:=by unfold ug; rw [hye]
    rw [hp]; exact ⟨he1,hs1,hd1,j1,r1,e1,x1⟩
 |_ =>
  intro ac hc hf env M o h j w a hr hG he hs
  refine eZ hmix hC _ hc (o:=o) ?_ hr hG he hs
  simp only [comp] at hc
  first
   |(injection hc with hc; subst hc; exact h)
   |(obtain ⟨_,_,hc⟩:=an hc; injection hc with hc; subst hc; exact h)
   |(obtain ⟨_,_,hc⟩:=an hc; obtain ⟨_,_,hc⟩:=an hc; obtain ⟨_,_,hc⟩:=an hc; injection hc with hc; subst hc; exact h)
   |cases hc
end
end Go.Abs
namespace Go.Proofs.YtahkjijkflobhaaGreatDoor
open Go Go.Abs
def OU:List lL:=[.eE 4 10,.eE 5 7]
noncomputable def Dn (o1 o2:Out):Option (ae×ag) :=
 match o2.e with
 | .ret=>aF (j9 o2.env o2.mem OU) fun l=>some ((Abs.one l).eX 0 o2.mem,eW 0 o2.mem)
 | .fK (.iface 42 (.int .i64 e)) =>
  aF (br (ai bV) pA [(0,cL o1.env 2),(1,cL o1.env 4),(2,cL o1.env 5),(5,.ptr o2.mem.length 0)] (o2.mem++[.cells [.int .i64 e]])) fun o3 =>
  match o3.e with
  | .normal=>aF (j9 o2.env o3.mem OU) fun l=>some ((Abs.one l).eX 0 o3.mem,eW 0 o3.mem)
  |_=>none
 |_=>none
noncomputable def S8:List ae->ag->Option (ae×ag):=fun args M =>
 match M with
 |_::_=>none
 | []=>if args.length=2 then
   aF (br (ai bV) Dh (fh 0 args) []) fun o1 =>
   match o1.e with
   | .normal=>aF (jY (ai bV) [4,5] nt (fI o1.env [2,3,4,5]) o1.mem) fun o2=>Dn o1 o2
   |_=>none
  else none
def GP {args:List ae} {M:ag} {x:ae×ag} (h:S8 args M=some x):ba Tryz.prog 14 args M x:=by
 unfold S8 at h
 split at h
 ·cases h
 split at h
 rotate_left
 ·cases h
 rename_i hlen
 obtain ⟨o1,ho1,h⟩:=au h
 split at h
 rotate_left
 ·cases h
 rename_i hn1
 obtain ⟨o2,ho2,h⟩:=au h
 intro j w vs hr hG hvl hv
 refine calls_of_wp_defers Tryz.func14 rfl ?_
 refine wp_seq ?_
 have hsz:(vs++Array.replicate (Tryz.f14.ntmps-vs.size) undef).size=44:=by rw [Tryz.ntmps14]; simp; omega
 have he:aL j [] w (fh 0 args) { tmps:=vs++Array.replicate (Tryz.f14.ntmps-vs.size) undef,defers:=[] }:=by
  refine ⟨fun t=>?_,hG⟩
  rw [sk,if_pos (Nat.zero_le _),Nat.sub_zero]
  rcases Nat.lt_or_ge t args.length with ht|ht
  ·have h1:=List.getElem?_eq_getElem ht
   have hlt:t<vs.size:=by omega
   have h2:=Array.getElem?_eq_getElem hlt
   rw [h1]
   have h3:=hv t _ _ h1 h2
   have:(vs++Array.replicate (Tryz.f14.ntmps-vs.size) undef).getD t undef=vs[t]:=by
    simp [Array.getD_eq_getD_getElem?,Array.getElem?_append_left hlt,h2]
   rw [this]
   exact h3
  ·rw [List.getElem?_eq_none ht]; exact .any _
 refine wp_mono (wpIn_wide.1 (eZ (rd:=none) (nd:=0) (by kernel_rfl) CW Pn X0 ho1 hr hG he hsz)) ?_
 rintro ex a1 w1 ⟨h1,h2,h3,j1,r1,e1,x1⟩
 rw [hn1] at h1
 simp only [jj] at h1
 subst h1
 simp only [Exit.then]
 refine wp_seq (wp_region ?_)
 obtain ⟨t1,d1⟩:=a1
 simp only at h2 h3
 subst h3
 have hmf:∀(fn:Fn) (first cap:Array Value) (w:World),(Instr.makeFunc fn first cap).run Tryz.prog w = .ok (.func fn first cap) w:=fun _ _ _ _=>rfl
 have h2':t1.size=44:=h2
 have h9:9<t1.size:=by omega
 simp [wpOps,go_sem,Exit.then,hmf,h9,Array.getElem?_setIfInBounds,Array.getElem?_setIfInBounds_self]
 repeat' refine Or.inl ?_
 have key:∀d:List Deferred,aL j1 o1.mem w1 (fI o1.env [2,3,4,5]) { tmps:=t1.setIfInBounds 9 (.func (.func 25) #[] #[t1[2]?.getD undef,t1[4]?.getD undef,t1[5]?.getD undef]),defers:=d }:=fun d=>by
  refine ⟨fun t=>?_,e1.gl⟩
  rw [pY]
  split
  ·rename_i hm
   have hne:9≠t:=by rintro rfl; simp at hm
   have:=e1.at' t
   simp only [Array.getD_eq_getD_getElem?] at this ⊢
   rw [Array.getElem?_setIfInBounds_ne hne]
   exact this
  ·exact .any _
 refine wp_mono (wpIn_wide.1 (Bf (rd:=none) (nd:=0) (by kernel_rfl) CW Po X1 (by kernel_rfl) ho2 r1 e1.gl (key _) (by simpa [GB] using h2'))) ?_
 rintro ex a2 w2 ⟨g1,g2,g3,j2,r2,e2,x2⟩
 have hp:=(e1.at' 2).mono x2
 have hq:=(e1.at' 4).mono x2
 have hs:=(e1.at' 5).mono x2
 simp only [Array.getD_eq_getD_getElem?] at hp hq hs
 have hb0:0<=o2.mem.length:=Nat.zero_le _
 have fin:∀(j3:J) (M3:ag) (w3:World) (y:ae×ag),Rel j3 M3 w3->aL j3 M3 w3 o2.env a2->Ext j [] w j3 M3 w3->(aF (j9 o2.env M3 OU) fun l=>some ((Abs.one l).eX 0 M3,eW 0 M3))=some y ->
   ∃v,(results Tryz.f14 a2.tmps).run Tryz.prog w3 = .ok v w3/\mQ j [] w y (.returned v) w3:=by
  intro j3 M3 w3 y r3 e3 x3 hy
  obtain ⟨l,hl,hy⟩:=au hy
  injection hy with hy; subst hy
  obtain ⟨us,u1,u2,u3⟩:=uw (P:=Tryz.prog) (rs:=Tryz.f14.results.toList) r3 e3 (by kernel_rfl:zA Tryz.prog Tryz.f14.results.toList=some OU) hl
  have hres:(results Tryz.f14 a2.tmps).run Tryz.prog w3 = .ok (if h:us.toArray.size=1 then us.toArray[0] else .tuple us.toArray) w3:=by
   unfold results
   rw [Array.mapM_eq_mapM_toList,Sem.run_bind,Sem.run_map]
   refine Eq.trans (congrArg (fun r:Result (List Value)=>Result.andThen (r.andThen fun a w' => .ok a.toArray w') _) (Eq.trans ?_ u1)) rfl
   rfl
  exact ⟨_,hres,.inl ⟨_,rfl,j3,qF (Nat.zero_le _) r3,nN (Nat.zero_le _) rfl x3,wG (Nat.zero_le _) r3 (DS u2 u3)⟩⟩
 unfold Dn at h
 split at h
 ·rename_i hret
  rw [hret] at g1
  simp only [jj] at g1
  subst g1
  simp only [bodyPostD,g3]
  refine leaves_cons (f:=25) (args := #[t1[2]?.getD undef,t1[4]?.getD undef,t1[5]?.getD undef]) (by simp) (by simp [go_sem]) ?_
  refine (BN _ _ _ _).mono ?_
  rintro ed u' w'' ⟨rfl,rfl,rfl⟩
  simp only [Leaves,settle]
  exact fin _ _ _ _ r2 e2 (x1.trans x2) h
 ·rename_i e hpan
  obtain ⟨o3,ho3,h⟩:=au h
  split at h
  rotate_left
  ·cases h
  rename_i hn3
  rw [hpan] at g1
  simp only [jj] at g1
  subst g1
  simp only [bodyPostD,g3]
  refine leaves_cons (f:=25) (args := #[t1[2]?.getD undef,t1[4]?.getD undef,t1[5]?.getD undef]) (by simp) (by simp [go_sem]) ?_
  refine (ED r2 e2.gl hp hq hs ho3 hn3).mono ?_
  rintro ed u' w'' ⟨rfl,rfl,j3,r3,x3⟩
  simp only [Leaves,settle]
  exact fin _ _ _ _ r3 (e2.mono x3) ((x1.trans x2).trans x3) h
 ·cases h
noncomputable def jC:qm:=gv bV 14 S8
def OW:nL Tryz.prog jC:=oJ Eb (by kernel_rfl) (fun h=>GP h)
def TM:hU Tryz.prog (ai jC):=lq (by kernel_rfl) OW
def L2 {f:Nat} {a:List ae} {M:ag} {x:ae×ag} (h:ai bV f a M=some x):ai jC f a M=some x:=oI rfl rfl h
def lD {f:Nat} {vs:List ae} {M:ag} {x:ae×ag} (h:ak (ai bV) f vs M=some x):ak (ai jC) f vs M=some x:=by
 obtain ⟨a,B,y,h1,h2⟩:=gL h
 exact h2 _ (L2 h1)
section
attribute [local irreducible] cJ cE gD gK bG kr ai ak aV aF
def jh:AM Nat:=[(1,61),(2,62),(3,63),(4,64),(5,65),(6,66),(7,67),(8,68),(9,69),(10,70),(11,71),(12,72),(13,73),(14,74),(15,75),(16,76),(17,77)]
def M8 (K:Nat):ae := .raw (.func (.func K) ⟨[]⟩ ⟨[]⟩)
def c27:ai bV 27 [] []=some (.du (tw jh) (iV M8 jh),[]):=by
 refine aq ?_
 simp only [Q6,E27,om,fq,gV,jc,Int.reduceBEq,Int.reduceEq,↓reduceIte,beq_self_eq_true,bne_self_eq_false,EW,simprocAttr]
 rfl
end
def ka (K:Nat) (f:aa) (o:er):aa×Gj×Int :=
 if K=61 then tI f o else if K=62 then tJ f o else if K=63 then tG f o else if K=64 then lI f o else if K=65 then lH f o else if K=66 then xm f o else if K=67 then tX f o else if K=68 then tK f o else if K=69 then nR f o else if K=70 then xL f o else if K=71 then oL f o else if K=72 then zL f o else if K=73 then oe f o else if K=74 then tY f o else if K=75 then xD f o else if K=76 then tu f o else if K=77 then pV f o else (f,bM,0)
def GQ {k:Int} {K:Nat} (hk:bR jh k=some K) {f:aa} {o:er} (hf:nK f) (ho:uc o):gH K f o (ka K f o):=by
 have hm:=oo _ _ _ hk
 simp only [jh,List.mem_cons,Prod.mk.injEq,List.not_mem_nil,or_false] at hm
 rcases hm with ⟨_,rfl⟩|⟨_,rfl⟩|⟨_,rfl⟩|⟨_,rfl⟩|⟨_,rfl⟩|⟨_,rfl⟩|⟨_,rfl⟩|⟨_,rfl⟩|⟨_,rfl⟩|⟨_,rfl⟩|⟨_,rfl⟩|⟨_,rfl⟩|⟨_,rfl⟩|⟨_,rfl⟩|⟨_,rfl⟩|⟨_,rfl⟩|⟨_,rfl⟩
 ·exact c61 f o hf ho
 ·exact c62 f o hf ho
 ·exact c63 f o hf ho
 ·exact c64 f o hf ho
 ·exact c65 f o hf ho
 ·exact c66 f o hf ho
 ·exact c67 f o hf ho
 ·exact c68 f o hf ho
 ·exact c69 f o hf ho
 ·exact c70 f o hf ho
 ·exact c71 f o hf ho
 ·exact c72 f o hf ho
 ·exact c73 f o hf ho
 ·exact c74 f o hf ho
 ·exact c75 f o hf ho
 ·exact c76 f o hf ho
 ·exact c77 f o hf ho
def ou (c:Bool) (b:Bool) (M:ag) (k:Option Out):tP c ((.bool b),M) k=k:=rfl
def rA (c:Bool) (i:IntKind) (n:Int) (M:ag) (k:Option Out):tP c ((.int i n),M) k=k:=rfl
def rE (c:Bool) (b:Bytes) (M:ag) (k:Option Out):tP c ((.str b),M) k=k:=rfl
def mD (c:Bool) (t:Tk) (l:List ae) (M:ag) (k:Option Out):tP c ((.slice t l),M) k=k:=rfl
def ry (c:Bool) (l:List ae) (M:ag) (k:Option Out):tP c ((.agg l),M) k=k:=rfl
def mF (c:Bool) (l:List ae) (M:ag) (k:Option Out):tP c ((.tuple l),M) k=k:=rfl
def rC (c:Bool) (i n:Nat) (M:ag) (k:Option Out):tP c ((.ptr i n),M) k=k:=rfl
def ov (c:Bool) (a b:List ae) (M:ag) (k:Option Out):tP c ((.du a b),M) k=k:=rfl
def rD (c:Bool) (v:Value) (M:ag) (k:Option Out):tP c ((.raw v),M) k=k:=rfl
def rz (c:Bool)  (M:ag) (k:Option Out):tP c (.any,M) k=k:=rfl
def rB (v:Value) (M:ag) (k:Option Out):tP true (.fK v,M) k=some ⟨.fK v,[],M⟩:=rfl
def vf (e:Env) (M:ag) (k:Env->ag->Option Out):lQ ⟨.normal,e,M⟩ k=k e M:=rfl
def vg (v:Value) (e:Env) (M:ag) (k:Env->ag->Option Out):lQ ⟨.fK v,e,M⟩ k=some ⟨.fK v,e,M⟩:=rfl
def IA (e:Env) (M:ag) (k:Env->ag->Option Out):lQ ⟨.ret,e,M⟩ k=some ⟨.ret,e,M⟩:=rfl
def IX (live:List Nat) (e:Env) (M:ag):Out.iM live ⟨.ret,e,M⟩=⟨.ret,e,M⟩:=rfl
def Lm (ks:List Nat) (env e:Env) (M:ag):ug ks env ⟨.ret,e,M⟩=⟨.ret,e,M⟩:=rfl
def vo (live:List Nat) (e:Env) (M:ag):Out.iM live ⟨.normal,e,M⟩=⟨.normal,fI e live,M⟩:=rfl
def vp (live:List Nat) (v:Value) (e:Env) (M:ag):Out.iM live ⟨.fK v,e,M⟩=⟨.fK v,e,M⟩:=rfl
def vK (ks:List Nat) (env e:Env) (M:ag):ug ks env ⟨.normal,e,M⟩=⟨.normal,e,M⟩:=rfl
def vL (ks:List Nat) (env:Env) (v:Value) (e:Env) (M:ag):ug ks env ⟨.fK v,e,M⟩=⟨.fK v,fI env ks,M⟩:=rfl
def zw:(false==true)=false:=rfl
def zx:(true==false)=false:=rfl
def zu:(false==false)=true:=rfl
def zy:(true==true)=true:=rfl
def uY (e:Int):Gj:=⟨e,0,0,0,0,[],[]⟩
def pq (f:aa) (o:er):aa×Gj :=
 match bR jh o.kind with
 |none=>(f,uY 1)
 |some K=>if 0<=o.bq/\o.bq<16 then (if (ka K f o).2.2=0 then ((ka K f o).1,(ka K f o).2.1) else (f,uY (ka K f o).2.2)) else (f,uY 1)
def Bq:List ae:=[.slice .c0 [],.int .i64 0,.int .i64 0,.int .i64 0,.slice .c0 [],.slice .c0 [],.slice .c0 [],.int .i64 0,.slice .c0 [],.slice .c0 []]
def wb:List ae:=[.int .i64 0,.int .i64 0,.int .i64 0,.int .i64 0,.int .i64 0,.slice .c0 [],.slice .c0 []]
def pz (f:aa) (o:er):ag:=[.cells (dB f),.cells (gM o),.cells Bq,.cells wb]
def lx:Env:=[(2,.ptr 0 0),(3,.ptr 1 0),(4,.ptr 2 0),(5,.ptr 3 0)]
def tv (a:Gj) (x y:ae):List ae:=[.int .i64 a.err,.int .i64 a.ino,.int .i64 a.kind,.int .i64 a.n,.int .i64 a.m,x,y]
section
attribute [local irreducible] ai ak aV aF
def TE (f:aa) (o:er):br (ai bV) Dh (fh 0 [.agg (dB f),.agg (gM o)]) []=some ⟨.normal,lx,pz f o⟩:=by
 simp only [Dh,dB,gM,pz,lx,Bq,wb,br,bN,lQ,nB,tP,EV,simprocAttr]
 rfl
def ZU (M:ag):ak (ai bV) 27 [] M=some (.du (tw jh) (iV M8 jh),M):=fj c27 rfl rfl rfl rfl rfl M
def LN (f:aa) (o:er) (e:Int):br (ai bV) pA [(0,.ptr 0 0),(1,.ptr 2 0),(2,.ptr 3 0),(5,.ptr 4 0)] (pz f o++[.cells [.int .i64 e]]) =
  some ⟨.normal,[],.cells (dB f) :: .cells (gM o) :: .cells (dB f) :: .cells (tv (uY e) (.slice .c0 []) (.slice .c0 []))::[.cells [.int .i64 e]]⟩:=by
 simp only [pA,dB,gM,pz,Bq,wb,tv,uY,br,bN,lQ,nB,tP,EV,simprocAttr]
 rfl
def TI (f:aa) (o:er) (b:aK) (e:Int):br (ai bV) pA [(0,.ptr 0 0),(1,.ptr 2 0),(2,.ptr 3 0),(5,.ptr 5 0)] (pz f o++[b]++[.cells [.int .i64 e]]) =
  some ⟨.normal,[],.cells (dB f) :: .cells (gM o) :: .cells (dB f) :: .cells (tv (uY e) (.slice .c0 []) (.slice .c0 []))::[b,.cells [.int .i64 e]]⟩:=by
 simp only [pA,dB,gM,pz,Bq,wb,tv,uY,br,bN,lQ,nB,tP,EV,simprocAttr]
 rfl
def TG (f:aa) (o:er) (h:bR jh o.kind=none):jY (ai bV) [4,5] nt (fI lx [2,3,4,5]) (pz f o)=some ⟨.fK (.iface 42 (.int .i64 1)),[(4,.ptr 2 0),(5,.ptr 3 0)],pz f o⟩:=by
 have g:=gP M8 jh o.kind
 rw [h] at g
 have q:=fun M=>Gm false 1 rfl M
 simp only [Bool.false_eq_true,if_false,bP] at q
 have q0:=ZU
 simp only [nt,xG,xH,xI,xJ,dB,gM,pz,lx,jY,br,bN,ou,rA,rE,mD,ry,mF,rC,ov,rD,rz,rB,vf,vg,vo,vp,vK,vL,zw,zx,zu,zy,Bool.false_eq_true,if_true,if_false,mapOf.eq_2,ja,q0,g,q,Option.map_none,Option.getD_none,Option.isSome_none,EV,simprocAttr]
def TF (f:aa) (o:er) (K:Nat) (h:bR jh o.kind=some K) (hc:¬(0<=o.bq/\o.bq<16)):jY (ai bV) [4,5] nt (fI lx [2,3,4,5]) (pz f o)=some ⟨.fK (.iface 42 (.int .i64 1)),[(4,.ptr 2 0),(5,.ptr 3 0)],pz f o⟩:=by
 have g:=gP M8 jh o.kind
 rw [h] at g
 have q:=fun M=>Gm false 1 rfl M
 simp only [Bool.false_eq_true,if_false,bP] at q
 have q0:=ZU
 by_cases h1:0<=o.bq
 ·have h2:(o.bq<16)=False:=by simp only [eq_iff_iff,iff_false]; omega
  have h1:(0<=o.bq)=True:=by simp only [eq_iff_iff,iff_true]; exact h1
  simp only [nt,xG,xH,xI,xJ,dB,gM,pz,lx,jY,br,bN,ou,rA,rE,mD,ry,mF,rC,ov,rD,rz,rB,vf,vg,vo,vp,vK,vL,zw,zx,zu,zy,Bool.false_eq_true,if_true,if_false,mapOf.eq_2,ja,q0,g,q,Option.map_some,Option.getD_some,Option.isSome_some,M8,h1,h2,EV,simprocAttr]
 ·have h1:(0<=o.bq)=False:=by simp only [eq_iff_iff,iff_false]; exact h1
  simp only [nt,xG,xH,xI,xJ,dB,gM,pz,lx,jY,br,bN,ou,rA,rE,mD,ry,mF,rC,ov,rD,rz,rB,vf,vg,vo,vp,vK,vL,zw,zx,zu,zy,Bool.false_eq_true,if_true,if_false,mapOf.eq_2,ja,q0,g,q,Option.map_some,Option.getD_some,Option.isSome_some,M8,h1,EV,simprocAttr]
def TH (f:aa) (o:er) (K:Nat) (r:aa×Gj×Int) (h:bR jh o.kind=some K) (hc0:0<=o.bq) (hc1:o.bq<16) (hd:gH K f o r) :
  ∃x y,Row x (r.2.1.names.map ae.str)/\Row y (r.2.1.data.map jk)/\jY (ai bV) [4,5] nt (fI lx [2,3,4,5]) (pz f o) =
   some (if (r.2.2 != 0)=true then ⟨.fK (.iface 42 (.int .i64 r.2.2)),[(4,.ptr 2 0),(5,.ptr 3 0)],pz f o++[aW r.1 o r.2.1 x y]⟩
    else ⟨.ret,[(4,.ptr 2 0),(5,.ptr 3 0)],[.cells (dB f),.cells (gM o),.cells (dB r.1),.cells (tv r.2.1 x y),aW r.1 o r.2.1 x y]⟩):=by
 obtain ⟨x,y,hx,hy,ha⟩:=hd
 refine ⟨x,y,hx,hy,?_⟩
 have cx:x.c8=true:=by rcases hx with h|⟨h,_⟩<;>rw [h]<;>rfl
 have cy:y.c8=true:=by rcases hy with h|⟨h,_⟩<;>rw [h]<;>rfl
 have g:=gP M8 jh o.kind
 rw [h] at g
 have q:=fun M=>Gm true 1 rfl M
 simp only [if_true] at q
 have q0:=ZU
 have h1:(0<=o.bq)=True:=by simp only [eq_iff_iff,iff_true]; exact hc0
 have h2:(o.bq<16)=True:=by simp only [eq_iff_iff,iff_true]; exact hc1
 have q5:ak (ai bV) K [.ptr 4 0] (pz f o++[.cells (aG f o)])=some (if (r.2.2 != 0)=true then bP r.2.2 else .tuple [],pz f o++[aW r.1 o r.2.1 x y]):=by
  obtain ⟨f',a,e⟩:=r
  simp only at hx hy ha ⊢
  unfold aW at ha ⊢
  rcases hx with rfl|⟨rfl,_⟩<;>rcases hy with rfl|⟨rfl,_⟩<;>exact gb (vs:=[]) (p:=4) rfl ha rfl rfl (by split<;>rfl) rfl (by split<;>rfl) rfl rfl rfl rfl rfl
 obtain ⟨f',a,e⟩:=r
 simp only at q5 ⊢
 simp only [pz,dB,gM,aG,aW,Bq,wb,List.cons_append,List.nil_append,bP] at q5 ⊢
 cases he:e != 0<;>simp only [he,Bool.false_eq_true,if_true,if_false] at q5 ⊢
 ·simp only [Bq,wb,IA,IX,Lm,nt,xG,xH,xI,xJ,dB,gM,pz,lx,jY,br,bN,ou,rA,rE,mD,ry,mF,rC,ov,rD,rz,rB,vf,vg,vo,vp,vK,vL,zw,zx,zu,zy,Bool.false_eq_true,if_true,if_false,mapOf.eq_2,ja,q0,g,q,Option.map_some,Option.getD_some,Option.isSome_some,M8,h1,h2,q5,tv,cx,cy,Bool.true_and,EV,simprocAttr]
 ·simp only [Bq,wb,IA,IX,Lm,nt,xG,xH,xI,xJ,dB,gM,pz,lx,jY,br,bN,ou,rA,rE,mD,ry,mF,rC,ov,rD,rz,rB,vf,vg,vo,vp,vK,vL,zw,zx,zu,zy,Bool.false_eq_true,if_true,if_false,mapOf.eq_2,ja,q0,g,q,Option.map_some,Option.getD_some,Option.isSome_some,M8,h1,h2,q5,EV,simprocAttr]
end
def EU (f:aa) (o:er) (e:Int) {R:ag} {M3:ag} (h:br (ai bV) pA [(0,.ptr 0 0),(1,.ptr 2 0),(2,.ptr 3 0),(5,.ptr (pz f o++R).length 0)] (pz f o++R++[.cells [.int .i64 e]])=some ⟨.normal,[],.cells (dB f) :: .cells (gM o) :: .cells (dB f) :: .cells (tv (uY e) (.slice .c0 []) (.slice .c0 []))::M3⟩) :
  Dn ⟨.normal,lx,pz f o⟩ ⟨.fK (.iface 42 (.int .i64 e)),[(4,.ptr 2 0),(5,.ptr 3 0)],pz f o++R⟩=some (.tuple [.agg (dB f),.agg (gq (uY e))],[]):=by
 show aF (br (ai bV) pA [(0,.ptr 0 0),(1,.ptr 2 0),(2,.ptr 3 0),(5,.ptr (pz f o++R).length 0)] (pz f o++R++[.cells [.int .i64 e]])) _=_
 rw [h,aE]
 rfl
def Ll (f:aa) (o:er):S8 [.agg (dB f),.agg (gM o)] []=aF (jY (ai bV) [4,5] nt (fI lx [2,3,4,5]) (pz f o)) fun o2=>Dn ⟨.normal,lx,pz f o⟩ o2:=by
 unfold S8
 simp only []
 have h2:[ae.agg (dB f),ae.agg (gM o)].length=2:=rfl
 rw [if_pos h2,TE,aE]
def c14 (f:aa) (o:er) (hf:nK f) (ho:uc o):ai jC 14 [.agg (dB f),.agg (gM o)] []=some (.tuple [.agg (dB (pq f o).1),.agg (gq (pq f o).2)],[]):=by
 have bad:∀e,pq f o=(f,uY e)->∀R M3,jY (ai bV) [4,5] nt (fI lx [2,3,4,5]) (pz f o)=some ⟨.fK (.iface 42 (.int .i64 e)),[(4,.ptr 2 0),(5,.ptr 3 0)],pz f o++R⟩ ->
   br (ai bV) pA [(0,.ptr 0 0),(1,.ptr 2 0),(2,.ptr 3 0),(5,.ptr (pz f o++R).length 0)] (pz f o++R++[.cells [.int .i64 e]])=some ⟨.normal,[],.cells (dB f) :: .cells (gM o) :: .cells (dB f) :: .cells (tv (uY e) (.slice .c0 []) (.slice .c0 []))::M3⟩ ->
   ai jC 14 [.agg (dB f),.agg (gM o)] []=some (.tuple [.agg (dB (pq f o).1),.agg (gq (pq f o).2)],[]):=by
  intro e he R M3 h1 h2
  rw [he]
  refine bz (g:=S8) rfl ?_
  rw [Ll,h1,aE]
  exact EU f o e h2
 cases hk:bR jh o.kind with
 |none =>
  refine bad 1 (by unfold pq; rw [hk]) [] [.cells [.int .i64 1]] ?_ ?_
  ·rw [TG f o hk,List.append_nil]
  ·rw [List.append_nil]; exact LN f o 1
 |some K =>
  by_cases hc:0<=o.bq/\o.bq<16
  ·obtain ⟨x,y,hx,hy,hs⟩:=TH f o K (ka K f o) hk hc.1 hc.2 (GQ hk hf ho)
   by_cases he:(ka K f o).2.2=0
   ·have hd:pq f o=((ka K f o).1,(ka K f o).2.1):=by unfold pq; rw [hk]; simp only [if_pos hc,if_pos he]
    rw [hd]
    refine bz (g:=S8) rfl ?_
    rw [Ll,hs,if_neg (by simp [he]),aE]
    generalize ka K f o=r at hx hy ⊢
    obtain ⟨f',⟨a1,a2,a3,a4,a5,ns,dt⟩,e⟩:=r
    simp only at hx hy
    rcases hx with rfl|⟨rfl,hn⟩<;>rcases hy with rfl|⟨rfl,hm⟩
    ·rfl
    ·rw [List.map_eq_nil_iff] at hm; subst hm; rfl
    ·rw [List.map_eq_nil_iff] at hn; subst hn; rfl
    ·rw [List.map_eq_nil_iff] at hn hm; subst hn; subst hm; rfl
   ·refine bad (ka K f o).2.2 (by unfold pq; rw [hk]; simp only [if_pos hc,if_neg he]) [aW (ka K f o).1 o (ka K f o).2.1 x y] _ ?_ (TI f o _ _)
    rw [hs,if_pos (by simpa using he)]
  ·refine bad 1 (by unfold pq; rw [hk]; simp only [if_neg hc]) [] [.cells [.int .i64 1]] ?_ ?_
   ·rw [TF f o K hk hc,List.append_nil]
   ·rw [List.append_nil]; exact LN f o 1
def Wd (nodes:List Node) (i:Int):Nat:=(aA nodes i).data.length
def dG (m:AM Bool):List Int:=m.map Prod.fst
def pw (nodes:List Node) (l:List Int):Nat:=(l.map (Wd nodes)).sum
structure Seen (nodes:List Node) (m:AM Bool):Prop where
 nd:(dG m).Nodup
 tr:∀p,p∈m->p.2=true
 inn:∀k,k∈dG m->(find nodes k).isSome=true
inductive Un (nodes:List Node):Int->Int->Prop
 |one {i:Int} {e:b9}:e∈(aA nodes i).av->Un nodes i e.ino
 |step {i x:Int} {e:b9}:e∈(aA nodes i).av->Un nodes e.ino x->Un nodes i x
def AJ:∀(m:AM Bool) (k:Int),k∈dG m->∃v,bR m k=some v
 | [],k,h=>by simp [dG] at h
 |(a,v)::m,k,h=>by
  rw [bR]
  split
  ·exact ⟨v,rfl⟩
  ·rename_i hk
   refine AJ m k ?_
   simp only [dG,List.map_cons,List.mem_cons] at h ⊢
   exact h.resolve_left hk
def Seen.get {nodes:List Node} {m:AM Bool} (h:Seen nodes m) (k:Int):(bR m k).getD false=true↔k∈dG m:=by
 constructor
 ·intro hg
  cases hm:bR m k with
  |none=>rw [hm] at hg; cases hg
  |some v=>exact List.mem_map.2 ⟨_,oo _ _ _ hm,rfl⟩
 ·intro hk
  obtain ⟨v,hv⟩:=AJ m k hk
  have:=h.tr _ (oo _ _ _ hv)
  rw [hv]; exact this
def AK:∀(m:AM Bool) (k:Int) (v:Bool),k∉dG m->fP m k v=m++[(k,v)]
 | [],k,v,_=>rfl
 |(a,w)::m,k,v,h=>by
  simp only [dG,List.map_cons,List.mem_cons,not_or] at h
  rw [fP,if_neg h.1,AK m k v h.2]; rfl
def Seen.put {nodes:List Node} {m:AM Bool} (h:Seen nodes m) {k:Int} (hk:k∉dG m) (hf:(find nodes k).isSome=true):Seen nodes (fP m k true)/\dG (fP m k true)=dG m++[k]:=by
 rw [AK m k true hk]
 have e:dG (m++[(k,true)])=dG m++[k]:=by simp [dG]
 refine ⟨⟨?_,fun p hp=>?_,fun x hx=>?_⟩,e⟩
 ·rw [e]
  refine List.nodup_append.2 ⟨h.nd,by simp,fun a ha b hb=>?_⟩
  rw [List.mem_singleton.1 hb]
  rintro rfl; exact hk ha
 ·rcases List.mem_append.1 hp with hp|hp
  ·exact h.tr p hp
  ·rw [List.mem_singleton.1 hp]
 ·rw [e] at hx
  rcases List.mem_append.1 hx with hx|hx
  ·exact h.inn x hx
  ·rw [List.mem_singleton.1 hx]; exact hf
def Pe {t:Tree} {dep:Int->Nat} (h:bm t dep 0) (i:Int):Wd t.nodes i<=4096:=by
 unfold Wd aA
 cases hi:find t.nodes i with
 |none=>simp [Node.zero]
 |some n =>
  rcases h.kind _ _ hi with h1|h1
  ·exact (h.file _ _ hi h1).2.2
  ·simp [h.dir _ _ hi h1]
def D9 {t:Tree} {dep:Int->Nat} (h:bm t dep 0):∀l:List Int,pw t.nodes l<=4096*l.length
 | []=>by simp [pw]
 |i::l=>by
  have h1:=Pe h i
  have h2:=D9 h l
  simp only [pw,List.map_cons,List.sum_cons,List.length_cons] at h2 ⊢
  omega
def Seen.len {t:Tree} {dep:Int->Nat} (h:bm t dep 0) {m:AM Bool} (hs:Seen t.nodes m):(dG m).length<=200:=by
 have:=AN (dG m) (t.nodes.map Node.ino) hs.nd (fun x hx=>by
  obtain ⟨n,hn⟩:=Option.isSome_iff_exists.1 (hs.inn x hx)
  exact List.mem_map.2 ⟨n,(aY hn).1,(aY hn).2⟩)
 have h2:=h.nodes
 simp at this; omega
structure Fol (nodes:List Node) (r i:Int) (l:List b9) (s s':Int×AM Bool):Prop where
 seen:Seen nodes s'.2
 sum:s'.1=(Wd nodes r:Int)+pw nodes (dG s'.2)
 sub:∀x,x∈dG s.2->x∈dG s'.2
 all:∀e,e∈l->e.ino∈dG s'.2
 new:∀x,x∈dG s'.2->x∈dG s.2\/((∀e,e∈(aA nodes x).av->e.ino∈dG s'.2)/\Un nodes i x)
def Af {t:Tree} {dep:Int->Nat} (h:bm t dep 0) (r:Int):∀(f:Nat) (ino:Int) (s:Int×AM Bool),(∀n,find t.nodes ino=some n->n.kind=2->13<f+dep ino)->0<f ->
  Seen t.nodes s.2->s.1+Wd t.nodes ino=(Wd t.nodes r:Int)+pw t.nodes (dG s.2)->Fol t.nodes r ino (aA t.nodes ino).av s (fc t.nodes f ino s):=by
 intro f
 induction f with
 |zero=>intro _ _ _ h0; omega
 |succ f ih =>
  intro ino s hd _ hs hq
  have key:∀(l:List b9) (u:Int×AM Bool),(∀e,e∈l->e∈(aA t.nodes ino).av)->Seen t.nodes u.2->u.1=(Wd t.nodes r:Int)+pw t.nodes (dG u.2) ->
    Fol t.nodes r ino l u (l.foldl (fun s e=>if (!((bR s.2 e.ino).getD false))=true then fc t.nodes f e.ino (s.1,fP s.2 e.ino true) else s) u):=by
   intro l
   induction l with
   |nil=>intro u _ h1 h2; exact ⟨h1,h2,fun x hx=>hx,fun e he=>(by cases he),fun x hx => .inl hx⟩
   |cons e l ihl =>
    intro u hl h1 h2
    rw [List.foldl_cons]
    have he:=hl e List.mem_cons_self
    by_cases hk:e.ino∈dG u.2
    ·rw [if_neg (by rw [(h1.get _).2 hk]; simp)]
     have g:=ihl u (fun x hx=>hl x (List.mem_cons_of_mem _ hx)) h1 h2
     refine ⟨g.seen,g.sum,g.sub,fun x hx=>?_,g.new⟩
     rcases List.mem_cons.1 hx with rfl|hx
     ·exact g.sub _ hk
     ·exact g.all x hx
    ·have hb:(bR u.2 e.ino).getD false=false:=by
      cases hc:(bR u.2 e.ino).getD false with
      |false=>rfl
      |true=>exact absurd ((h1.get _).1 hc) hk
     rw [hb,if_pos (show (!false)=true from rfl)]
     obtain ⟨n,hi⟩:∃n,find t.nodes ino=some n:=by
      cases hi:find t.nodes ino with
      |none=>simp [aA,hi,Node.zero] at he
      |some n=>exact ⟨n,rfl⟩
     have he':e∈n.av:=by simpa [aA,hi] using he
     have hk2:n.kind=2:=by
      rcases h.kind _ _ hi with h3|h3
      ·rw [(h.file _ _ hi h3).1] at he'; cases he'
      ·exact h3
     obtain ⟨_,_,e1,_,m,hm,hu⟩:=h.uf _ _ _ hi he'
     obtain ⟨p1,p2⟩:=h1.put hk (by rw [hm]; rfl)
     have hsum:pw t.nodes (dG (fP u.2 e.ino true))=pw t.nodes (dG u.2)+Wd t.nodes e.ino:=by rw [p2]; simp [pw]
     have g1:=ih e.ino (u.1,fP u.2 e.ino true) (fun n' hn' hk'=>by
      rw [hm] at hn'; injection hn' with hn'; subst hn'
      have h3:=(h.j7 _ _ hm hk' e1).1
      have h4:=hd n hi hk2
      rw [hu hk'] at h3
      omega) (by
      have h4:=hd n hi hk2
      have h5:=(h.deep _ _ hi hk2).1
      omega) p1 (by simp only; rw [hsum,h2]; omega)
     have g2:=ihl _ (fun x hx=>hl x (List.mem_cons_of_mem _ hx)) g1.seen g1.sum
     have hin:e.ino∈dG (fP u.2 e.ino true):=by rw [p2]; simp
     refine ⟨g2.seen,g2.sum,fun x hx=>g2.sub _ (g1.sub _ (by simp only; rw [p2]; simp [hx])),fun x hx=>?_,fun x hx=>?_⟩
     ·rcases List.mem_cons.1 hx with rfl|hx
      ·exact g2.sub _ (g1.sub _ hin)
      ·exact g2.all x hx
     ·rcases g2.new x hx with hx|hx
      ·rcases g1.new x hx with hx|⟨hx,hr⟩
       ·simp only at hx
        rw [p2] at hx
        rcases List.mem_append.1 hx with hx|hx
        ·exact .inl hx
        ·rw [List.mem_singleton.1 hx]
         exact .inr ⟨fun e' he'=>g2.sub _ (g1.all e' he'),.one he⟩
       ·exact .inr ⟨fun e' he'=>g2.sub _ (hx e' he'),.step he hr⟩
      ·exact .inr hx
  have hw:fR (s.1+(aA t.nodes ino).data.length)=s.1+Wd t.nodes ino:=by
   have h1:=Pe h r
   have h2:=D9 h (dG s.2)
   have h3:=hs.len h
   have hW:((aA t.nodes ino).data.length:Int)=(Wd t.nodes ino:Int):=rfl
   rw [hW]
   exact bD (by omega) (by omega)
  have g:=key (aA t.nodes ino).av (s.1+Wd t.nodes ino,s.2) (fun _ h=>h) hs hq
  rw [fc,hw]
  exact ⟨g.seen,g.sum,g.sub,g.all,g.new⟩
def Qn (nodes:List Node) (ino x:Int):Prop:=∃d e,d∈nodes/\d.kind=2/\cH nodes d.ino ino=true/\e∈d.av/\e.ino=x
def TC {t:Tree} {dep:Int->Nat} (h:bm t dep 0) {ino:Int}:∀ {i x:Int},Un t.nodes i x->(∃d,find t.nodes i=some d/\(d.kind=2->cH t.nodes i ino=true))->Qn t.nodes ino x:=by
 intro i x hr
 induction hr with
 |one he =>
  rintro ⟨d,hd,hb⟩
  rename_i i e
  have he':e∈d.av:=by simpa [aA,hd] using he
  have hk:d.kind=2:=by
   rcases h.kind _ _ hd with h3|h3
   ·rw [(h.file _ _ hd h3).1] at he'; cases he'
   ·exact h3
  exact ⟨d,e,(aY hd).1,hk,by rw [(aY hd).2]; exact hb hk,he',rfl⟩
 |step he _ ih =>
  rintro ⟨d,hd,hb⟩
  rename_i i x e _
  have he':e∈d.av:=by simpa [aA,hd] using he
  have hk:d.kind=2:=by
   rcases h.kind _ _ hd with h3|h3
   ·rw [(h.file _ _ hd h3).1] at he'; cases he'
   ·exact h3
  obtain ⟨_,_,e1,_,m,hm,hu⟩:=h.uf _ _ _ hd he'
  refine ih ⟨m,hm,fun hk'=>?_⟩
  by_cases ho:e.ino=ino
  ·rw [ho]; exact bm.ga ino
  ·rw [h.kH hm hk' e1 ho,hu hk']
   exact hb hk
def yX {t:Tree} {dep:Int->Nat} (h:bm t dep 0) {ino:Int} {d:Node} (hd:find t.nodes ino=some d) (hk:d.kind=2) :
  ∃K:List Int,K.Nodup/\(∀x,x∈K↔Qn t.nodes ino x)/\(∀x,x∈K->(find t.nodes x).isSome=true)/\eN t.nodes ino=((K.length:Int),(pw t.nodes K:Int)):=by
 have g:=Af h ino 14 ino (0,[]) (fun n hn hk=>by omega) (by omega) ⟨by simp [dG],fun p hp=>(by cases hp),fun k hk=>(by simp [dG] at hk)⟩ (by simp [dG,pw])
 have hu:eN t.nodes ino=(((fc t.nodes 14 ino (0,[])).2.length:Int),(fc t.nodes 14 ino (0,[])).1):=by
  unfold eN
  rw [if_pos (by simp [aA,hd,hk])]
 generalize fc t.nodes 14 ino (0,[])=s' at g hu
 have w0:Wd t.nodes ino=0:=by simp [Wd,aA,hd,h.dir _ _ hd hk]
 have cl:∀x,x∈dG s'.2->∀e,e∈(aA t.nodes x).av->e.ino∈dG s'.2:=fun x hx=>by
  rcases g.new x hx with h1|h1
  ·simp [dG] at h1
  ·exact h1.1
 refine ⟨dG s'.2,g.seen.nd,fun x=>⟨fun hx=>?_,fun hx=>?_⟩,g.seen.inn,?_⟩
 ·rcases g.new x hx with h1|h1
  ·simp [dG] at h1
  ·exact TC h h1.2 ⟨d,hd,fun _=>bm.ga ino⟩
 ·obtain ⟨p,e,hp,hpk,hb,he,rfl⟩:=hx
  have key:∀(m:Nat) (i:Int) (n:Node),find t.nodes i=some n->n.kind=2->dep i=m->cH t.nodes i ino=true->∀e,e∈n.av->e.ino∈dG s'.2:=by
   intro m
   induction m with
   |zero =>
    intro i n hi hnk hm hb e he
    by_cases ho:i=ino
    ·subst ho
     exact g.all e (by simpa [aA,hi] using he)
    ·by_cases h1:i=1
     ·subst h1
      rw [bm.jt (fun hh=>ho hh.symm)] at hb; cases hb
     ·have:=(h.j7 _ _ hi hnk h1).1; omega
   |succ m ihm =>
    intro i n hi hnk hm hb e he
    by_cases ho:i=ino
    ·subst ho
     exact g.all e (by simpa [aA,hi] using he)
    ·have h1:i≠1:=fun hh=>by subst hh; have:=h.uV; omega
     rw [h.kH hi hnk h1 ho] at hb
     obtain ⟨a,q,hq,hqk⟩:=h.j7 _ _ hi hnk h1
     obtain ⟨p,e',p1,p2,p3,p4⟩:=h.named hi hnk h1 (by have:=(h.num _ _ hi).1; omega)
     have:=ihm n.up p p1 p2 (by omega) hb e' p3
     rw [p4] at this
     exact cl i this e (by simpa [aA,hi] using he)
  have hpf:find t.nodes p.ino=some p:=(dM h.ft.gA).2 ⟨hp,rfl⟩
  exact key _ _ p hpf hpk rfl hb e he
 ·rw [hu,g.sum,w0]
  simp [dG]
def nw (e:Int) (nodes:List Node) (met:List Bool):List Bool:=List.zipWith (fun n b=>b||n.ino==e) nodes met
def vw (nodes:List Node) (ino:Int) (met:List Bool) (d:Node):List Bool:=if (d.kind==2&&cH nodes d.ino ino)=true then d.av.foldl (fun m e=>nw e.ino nodes m) met else met
def iT (nodes:List Node) (ino:Int):List Bool:=nodes.foldl (vw nodes ino) (nodes.map fun _=>false)
def jO (met:List Bool):Nat:=met.countP id
def rK (nodes:List Node) (met:List Bool):Nat:=((nodes.zip met).map fun p=>if p.2=true then p.1.data.length else 0).sum
def xv (e:Int) (p:Node->Bool):∀l:List Node,nw e l (l.map p)=l.map fun n=>p n||n.ino==e
 | []=>rfl
 |n::l=>by
  have:=xv e p l
  simp only [nw,List.map_cons,List.zipWith_cons_cons] at this ⊢
  rw [this]
def vx (nodes:List Node):∀(l:List b9) (p:Node->Bool),l.foldl (fun m e=>nw e.ino nodes m) (nodes.map p)=nodes.map fun n=>p n||l.any fun e=>n.ino==e.ino
 | [],p=>by simp
 |e::l,p=>by
  rw [List.foldl_cons,xv,vx nodes l]
  simp only [List.any_cons,Bool.or_assoc]
def pU (nodes:List Node) (ino:Int):∀(l:List Node) (p:Node->Bool),∃q:Node->Bool,l.foldl (vw nodes ino) (nodes.map p)=nodes.map q /\
  ∀n,q n=true↔p n=true\/∃d e,d∈l/\d.kind=2/\cH nodes d.ino ino=true/\e∈d.av/\e.ino=n.ino
 | [],p=>⟨p,rfl,fun n=>by simp⟩
 |d::l,p=>by
  rw [List.foldl_cons,vw]
  by_cases hd:(d.kind==2&&cH nodes d.ino ino)=true
  ·rw [if_pos hd,vx]
   obtain ⟨q,h1,h2⟩:=pU nodes ino l fun n=>p n||d.av.any fun e=>n.ino==e.ino
   refine ⟨q,h1,fun n=>?_⟩
   rw [h2]
   rw [Bool.and_eq_true,beq_iff_eq] at hd
   simp only [Bool.or_eq_true,List.any_eq_true,beq_iff_eq,List.mem_cons]
   constructor
   ·rintro ((h|⟨e,h3,h4⟩)|⟨d',e,h3,h4⟩)
    ·exact .inl h
    ·exact .inr ⟨d,e,.inl rfl,hd.1,hd.2,h3,h4.symm⟩
    ·exact .inr ⟨d',e,.inr h3,h4⟩
   ·rintro (h|⟨d',e,rfl|h3,h4,h5,h6,h7⟩)
    ·exact .inl (.inl h)
    ·exact .inl (.inr ⟨e,h6,h7.symm⟩)
    ·exact .inr ⟨d',e,h3,h4,h5,h6,h7⟩
  ·rw [if_neg hd]
   obtain ⟨q,h1,h2⟩:=pU nodes ino l p
   refine ⟨q,h1,fun n=>?_⟩
   rw [h2]
   rw [Bool.and_eq_true,beq_iff_eq] at hd
   simp only [List.mem_cons]
   constructor
   ·rintro (h|⟨d',e,h3,h4⟩)
    ·exact .inl h
    ·exact .inr ⟨d',e,.inr h3,h4⟩
   ·rintro (h|⟨d',e,rfl|h3,h4,h5,h6⟩)
    ·exact .inl h
    ·exact absurd ⟨h4,h5⟩ hd
    ·exact .inr ⟨d',e,h3,h4,h5,h6⟩
def tq (nodes:List Node) (ino:Int):∃q:Node->Bool,iT nodes ino=nodes.map q/\∀n,q n=true↔Qn nodes ino n.ino:=by
 obtain ⟨q,h1,h2⟩:=pU nodes ino nodes fun _=>false
 exact ⟨q,h1,fun n=>by rw [h2]; simp [Qn]⟩
def qT (q:Node->Bool):∀l:List Node,jO (l.map q)=(l.filter q).length
 | []=>rfl
 |n::l=>by
  have:=qT q l
  simp only [jO,List.map_cons,List.countP_cons,List.filter_cons,id] at this ⊢
  split<;>simp [this]
def uA (q:Node->Bool):∀l:List Node,rK l (l.map q)=((l.filter q).map fun n=>n.data.length).sum
 | []=>rfl
 |n::l=>by
  have:=uA q l
  simp only [rK,List.map_cons,List.zip_cons_cons,List.sum_cons,List.filter_cons] at this ⊢
  rw [this]
  split<;>simp
def yh {t:Tree} {dep:Int->Nat} (h:bm t dep 0) {ino:Int} {d:Node} (hd:find t.nodes ino=some d) (hk:d.kind=2) :
  eN t.nodes ino=((jO (iT t.nodes ino):Int),(rK t.nodes (iT t.nodes ino):Int)):=by
 obtain ⟨K,k1,k2,k3,k4⟩:=yX h hd hk
 obtain ⟨q,q1,q2⟩:=tq t.nodes ino
 have hasc:=h.ft.gA
 have hp:K.Perm ((t.nodes.filter q).map Node.ino):=by
  refine (List.perm_ext_iff_of_nodup k1 ?_).2 fun x=>?_
  ·have:((t.nodes.filter q).map Node.ino).Pairwise (· < ·):=List.pairwise_map.2 (List.Pairwise.filter _ hasc)
   exact this.imp fun h=>by omega
  ·rw [k2]
   constructor
   ·intro hx
    obtain ⟨n,hn⟩:=Option.isSome_iff_exists.1 (k3 x ((k2 x).2 hx))
    refine List.mem_map.2 ⟨n,List.mem_filter.2 ⟨(aY hn).1,(q2 n).2 ?_⟩,(aY hn).2⟩
    rw [(aY hn).2]; exact hx
   ·intro hx
    obtain ⟨n,hn,rfl⟩:=List.mem_map.1 hx
    exact (q2 n).1 (List.mem_filter.1 hn).2
 rw [k4,q1,qT,uA]
 have h1:K.length=(t.nodes.filter q).length:=by rw [hp.length_eq,List.length_map]
 have h2:pw t.nodes K=((t.nodes.filter q).map fun n=>n.data.length).sum:=by
  unfold pw
  rw [(hp.map (Wd t.nodes)).sum_nat,List.map_map]
  congr 1
  refine List.map_congr_left fun n hn=>?_
  have:find t.nodes n.ino=some n:=(dM hasc).2 ⟨(List.mem_filter.1 hn).1,rfl⟩
  simp [Wd,aA,this]
 rw [h1,h2]
abbrev NOk (n:Node):Prop:=n.av.length<=64/\n.data.length<=4096
structure FB (k:Nat) (f:aa):Prop where
 ok:nK f
 past:f.s.cv.length<=k
def FB.mono {k m:Nat} {f:aa} (h:FB k f) (hm:k<=m):FB m f:=⟨h.ok,Nat.le_trans h.past hm⟩
def Rt.nok {t:Tree} (h:Rt t) {n:Node} (hn:n∈t.nodes):NOk n:=by
 obtain ⟨dep,h⟩:=h
 have hi:find t.nodes n.ino=some n:=(dM h.ft.gA).2 ⟨hn,rfl⟩
 refine ⟨(h.po _ _ hi).2,?_⟩
 rcases h.kind _ _ hi with h1|h1
 ·exact (h.file _ _ hi h1).2.2
 ·rw [h.dir _ _ hi h1]; simp
def xC (t:Tree) (tk:List fx) (c:Int):∀(l:List Node) (y:List Int),(jB t tk c l y).length<=l.length/\∀p,p∈jB t tk c l y->p.node∈l
 | [],y=>⟨by simp [jB],fun p h=>by simp [jB] at h⟩
 |n::r,[]=>⟨by simp [jB],fun p h=>by simp [jB] at h⟩
 |n::r,x::y=>by
  obtain ⟨h1,h2⟩:=xC t tk c r y
  rw [jB]
  refine ⟨?_,fun p hp=>?_⟩
  ·rw [List.length_append,List.length_cons]
   split<;>simp<;>omega
  ·rcases List.mem_append.1 hp with hp|hp
   ·split at hp
    ·rw [List.mem_singleton.1 hp]; exact List.mem_cons_self
    ·cases hp
   ·exact List.mem_cons_of_mem _ (h2 p hp)
def FB.put {k:Nat} {f:aa} (h:FB k f) (hk:k<=89000) {t:Tree} (ht:Rt t) {H:List bT} (hH:qp H) (hl:H.length<=64) {Q:List bp} (hQ:lg Q) (hq:Q.length<=16):FB (k+200) ⟨lG f.s t,H,Q⟩:=by
 have hf:=h.ok
 have hp:=h.past
 unfold lG
 split
 ·exact ⟨⟨hf.rt,hf.len,hf.cv,hf.CP,hf.taken,hH,hl,hQ,hq⟩,by simp only; omega⟩
 ·obtain ⟨h1,h2⟩:=xC t f.s.taken (fR (f.s.tick+1)) f.s.now.nodes f.s.since
  have h3:=hf.rt.sz.nodes
  have h4:(f.s.cv++jB t f.s.taken (fR (f.s.tick+1)) f.s.now.nodes f.s.since).length<=k+200:=by rw [List.length_append]; omega
  refine ⟨⟨ht,by simp,by simp only; omega,fun p hp=>?_,hf.taken,hH,hl,hQ,hq⟩,h4⟩
  rcases List.mem_append.1 hp with hp|hp
  ·exact hf.CP p hp
  ·exact hf.rt.nok (h2 p hp)
def FB.settle {k:Nat} {f:aa} (h:FB k f) (hk:k<=89000) {t:Tree} (ht:Rt t) {Q:List bp} (hQ:lg Q) (hq:Q.length<=16):FB (k+200) (db f t Q).1:=by
 unfold db
 split
 ·exact h.mono (by omega)
 split
 ·exact h.mono (by omega)
 ·exact h.put hk (si _ _ _ ht) h.ok.holds h.ok.hlen (xi hQ) (Nat.le_trans (sw _ _) hq)
def Lh {t:Tree} {l:List bT} (hl:qp l) (hn:l.length<=64) (c g ino:Int):qp (nA t l c g ino).1/\(nA t l c g ino).1.length<=64:=by
 have hlow:=vu hl c g
 unfold nA
 split
 ·exact ⟨hl,hn⟩
 split
 ·exact ⟨hl,hn⟩
 split
 ·exact ⟨hl,hn⟩
 split
 ·exact ⟨hl,hn⟩
 split
 ·exact ⟨hl,hn⟩
 ·rename_i hi hlen
  simp only [decide_eq_true_eq] at hlen
  have hat:∀(i:Nat) (y:bT),l[i]?=some y->decide (cF y c g<0)=false->nV ⟨c,g,ino⟩ y:=by
   intro i y hy hge
   have h1:=hlow.le
   by_cases he:i=jm (fun x=>decide (cF x c g<0)) l
   ·subst he
    have hne:¬(y.bq=c/\y.handle=g):=fun hh=>hi (by unfold kQ; rw [hy]; simpa using (Cm y c g).2 hh)
    have hlt:=kO y c g
    simp only [decide_eq_false_iff_not,hlt] at hge
    unfold nV; simp only
    omega
   ·have hlt:=kO y c g
    simp only [decide_eq_false_iff_not,hlt] at hge
    have hgt:jm (fun x=>decide (cF x c g<0)) l<i:=by
     rcases Nat.lt_or_ge (jm (fun x=>decide (cF x c g<0)) l) i with h|h
     ·exact h
     ·exact absurd ((hlow.lt i y hy).2 (by omega)) (by simp only [decide_eq_true_eq,hlt]; exact hge)
    have hi':=(List.getElem?_eq_some_iff.1 hy).1
    have hz:l[jm (fun x=>decide (cF x c g<0)) l]?=some l[jm (fun x=>decide (cF x c g<0)) l]:=List.getElem?_eq_getElem (by omega)
    have hp:nV l[jm (fun x=>decide (cF x c g<0)) l] y:=by
     have:=(List.pairwise_iff_getElem.1 hl) _ i (by omega) hi' hgt
     rw [<-(List.getElem?_eq_some_iff.1 hy).2]; exact this
    generalize l[jm (fun x=>decide (cF x c g<0)) l]=z at hz hp
    have hzl:¬cF z c g<0:=fun h=>by
     have:=(hlow.lt _ z hz).1 (by simpa using h)
     omega
    rw [kO] at hzl
    unfold nV at hp ⊢; simp only
    omega
  refine ⟨DA hl hlow (fun y hy h=>?_) (fun y hy h=>?_) (fun a b d h1 h2=>?_),by simp; have:=hlow.le; omega⟩
  ·simp only [decide_eq_true_eq,kO] at h; unfold nV; simp only; omega
  ·obtain ⟨i,hy'⟩:=List.getElem?_of_mem hy
   exact hat i y hy' h
  ·unfold nV at *; omega
def uS {t:Tree} {l:List bT} (hl:qp l) (c g:Int):qp (eY t l c g).2.1:=by
 unfold eY
 split
 ·exact hl
 ·exact hl.sublist List.eraseP_sublist
def sm (c:Int):∀(r l:List bT) (t:Tree),qp l->l.length<=64->qp (iZ c r t l).2/\(iZ c r t l).2.length<=64
 | [],l,t,h1,h2=>⟨h1,h2⟩
 |x::r,l,t,h1,h2=>by
  rw [iZ]
  split
  ·exact sm c r _ _ (uS h1 _ _) (Nat.le_trans (pT _ _ _ _) h2)
  ·exact sm c r l t h1 h2
def FB.set {k:Nat} {f:aa} (h:FB k f) {H:List bT} (hH:qp H) (hl:H.length<=64):FB (k+200) ⟨f.s,H,f.bJ⟩ :=
 ⟨⟨h.ok.rt,h.ok.len,h.ok.cv,h.ok.CP,h.ok.taken,hH,hl,h.ok.bJ,h.ok.pv⟩,by have:=h.past; simp only; omega⟩
def FB.Ai {k:Nat} {f:aa} (h:FB k f) (hk:k<=89000) (o:er) (ino:Int) (d:Bytes):FB (k+200) (iC f o ino d).1:=by
 have hr:=h.settle hk (h.ok.rt.put ino d) h.ok.bJ h.ok.pv
 unfold iC
 simp only []
 split
 ·exact h.mono (by omega)
 split<;>exact hr
def jS {α:Type} {P:α->Prop} {c:Prop} [Decidable c] {a b:α} (ha:P a) (hb:P b):P (if c then a else b):=by
 split
 ·exact ha
 ·exact hb
def Ed {P:Wk->Prop} {f:aa} {o:er} (h55:P (tI f o)) (h56:P (tJ f o)) (h57:P (tG f o)) (h58:P (lI f o)) (h59:P (lH f o)) (h60:P (xm f o)) (h61:P (tX f o)) (h62:P (tK f o)) (h63:P (nR f o)) (h64:P (xL f o)) (h65:P (oL f o)) (h66:P (zL f o)) (h67:P (oe f o)) (h68:P (tY f o)) (h69:P (xD f o)) (h70:P (tu f o)) (h71:P (pV f o)) (h0:P (f,bM,0)) (K:Nat):P (ka K f o) :=
 jS h55 (jS h56 (jS h57 (jS h58 (jS h59 (jS h60 (jS h61 (jS h62 (jS h63 (jS h64 (jS h65 (jS h66 (jS h67 (jS h68 (jS h69 (jS h70 (jS h71 (h0)))))))))))))))))
def L7 {k:Nat} {f:aa} (h:FB k f) (hk:k<=89000) (K:Nat) (o:er):FB (k+200) (ka K f o).1:=by
 have h0:FB (k+200) f:=h.mono (by omega)
 have hp {t:Tree} (ht:Rt t):=h.settle hk ht h.ok.bJ h.ok.pv
 refine Ed (P:=fun r=>FB (k+200) r.1) ?_ ?_ ?_ ?_ ?_ ?_ ?_ ?_ ?_ ?_ ?_ ?_ ?_ ?_ ?_ ?_ ?_ ?_ K
 ·unfold tI; split<;>exact h0
 ·have hr:=hp (h.ok.rt.add (fi f.s.now o.path).1 (fi f.s.now o.path).2.1 o.n)
  unfold tJ; simp only []
  split
  ·exact h0
  split
  ·exact h0
  split<;>exact hr
 ·have hr:=hp (h.ok.rt.ln (aA f.s.now.nodes (ec f.s.now o.path).1).ino (fi f.s.now o.nj).1 (fi f.s.now o.nj).2.1)
  unfold tG; simp only []
  split
  ·exact h0
  split
  ·exact h0
  split
  ·exact h0
  split<;>exact hr
 ·have hr:=hp (h.ok.rt.un (fi f.s.now o.path).1 (fi f.s.now o.path).2.1)
  unfold lI; simp only []
  split
  ·exact h0
  split
  ·exact h0
  split<;>exact hr
 ·have hr:=hp (h.ok.rt.mv (fi f.s.now o.path).1 (fi f.s.now o.path).2.1 (fi f.s.now o.nj).1 (fi f.s.now o.nj).2.1)
  unfold lH; simp only []
  split
  ·exact h0
  split
  ·exact h0
  split
  ·exact h0
  split
  ·exact h0
  split<;>exact hr
 ·unfold xm; simp only []
  split
  ·exact h0
  split<;>exact h0
 ·unfold tX; simp only []; split<;>exact h0
 ·obtain ⟨g1,g2⟩:=Lh (t:=f.s.now) h.ok.holds h.ok.hlen o.bq o.handle (aA f.s.now.nodes (ec f.s.now o.path).1).ino
  unfold tK; simp only []
  split
  ·exact h0
  split
  ·exact h0
  ·exact h.set g1 g2
 ·have hr:=h.put hk (h.ok.rt.close f.holds o.bq o.handle) (uS (t:=f.s.now) h.ok.holds o.bq o.handle) (Nat.le_trans (pT _ _ _ _) h.ok.hlen) h.ok.bJ h.ok.pv
  unfold nR; simp only []
  split
  ·exact h0
  ·exact hr
 ·unfold xL
  split
  ·exact h0
  split<;>exact h0
 ·unfold oL
  split
  ·exact h0
  split
  ·exact h0
  split
  ·exact h0
  ·exact h.Ai hk o _ _
 ·unfold zL
  split
  ·exact h0
  ·exact h.Ai hk o _ _
 ·obtain ⟨g1,g2⟩:=xK (t:=f.s.now) h.ok.bJ h.ok.pv (aA f.s.now.nodes (ec f.s.now o.path).1).ino o.n o.m
  have hr:=h.settle hk h.ok.rt g1 g2
  unfold oe; simp only []
  split
  ·exact h0
  split
  ·exact h0
  split<;>exact hr
 ·unfold tY; simp only []
  split
  ·exact h0
  split
  ·exact h0
  ·rename_i hh
   unfold takeN at hh ⊢
   split
   ·exact h0
   split
   ·exact h0
   split
   ·exact h0
   ·rename_i hlen
    refine ⟨⟨h.ok.rt,h.ok.len,h.ok.cv,h.ok.CP,?_,h.ok.holds,h.ok.hlen,h.ok.bJ,h.ok.pv⟩,by have:=h.past; simp only; omega⟩
    simp only [Bool.or_eq_true,decide_eq_true_eq,not_or] at hlen
    simp; omega
 ·unfold xD; simp only []
  split
  ·exact h0
  split
  ·exact h0
  split<;>exact h0
 ·unfold tu; simp only []
  split
  ·exact h0
  ·unfold ra
   split
   ·exact h0
   ·refine ⟨⟨h.ok.rt,h.ok.len,Nat.le_trans (List.length_filter_le _ _) h.ok.cv,fun p hp=>h.ok.CP p (List.mem_filter.1 hp).1,Nat.le_trans (List.length_filter_le _ _) h.ok.taken,h.ok.holds,h.ok.hlen,h.ok.bJ,h.ok.pv⟩,?_⟩
    have:=h.past
    have h2:=List.length_filter_le (rH (f.s.taken.filter (mC o.n))) f.s.cv
    simp only; omega
 ·obtain ⟨g1,g2⟩:=sm o.bq f.holds f.holds f.s.now h.ok.holds h.ok.hlen
  exact h.put hk (h.ok.rt.gone o.bq f.holds f.holds) g1 g2 h.ok.bJ h.ok.pv
 ·exact h0
def lO {k:Nat} {f:aa} (h:FB k f) (hk:k<=89000) (o:er):FB (k+200) (pq f o).1:=by
 unfold pq
 split
 ·exact h.mono (by omega)
 ·split
  ·split
   ·exact L7 h hk _ o
   ·exact h.mono (by omega)
  ·exact h.mono (by omega)
def Ex {t:Tree} {dep:Int->Nat} (h:bm t dep 0) {q:Int}:∀(m:Nat) (i:Int) (n:Node),find t.nodes i=some n->n.kind=2->dep i=m->cH t.nodes i q=true->∃d,find t.nodes q=some d/\d.kind=2:=by
 intro m
 induction m with
 |zero =>
  intro i n hi hk hm hb
  by_cases ho:i=q
  ·subst ho; exact ⟨n,hi,hk⟩
  by_cases h1:i=1
  ·subst h1; rw [bm.jt (fun hh=>ho hh.symm)] at hb; cases hb
  ·have:=(h.j7 _ _ hi hk h1).1; omega
 |succ m ih =>
  intro i n hi hk hm hb
  by_cases ho:i=q
  ·subst ho; exact ⟨n,hi,hk⟩
  have h1:i≠1:=fun hh=>by subst hh; have:=h.uV; omega
  rw [h.kH hi hk h1 ho] at hb
  obtain ⟨a,p,hp,hpk⟩:=h.j7 _ _ hi hk h1
  exact ih _ p hp hpk (by omega) hb
def mW {t:Tree} {dep:Int->Nat} (h:bm t dep 0) {q:Int} (hq:∀d,find t.nodes q=some d->d.kind≠2):eN t.nodes q=(0,0)/\jO (iT t.nodes q)=0/\rK t.nodes (iT t.nodes q)=0:=by
 have hin:∀x,¬Qn t.nodes q x:=by
  rintro x ⟨d,e,hd,hk,hb,_,_⟩
  obtain ⟨p,p1,p2⟩:=Ex h _ _ d ((dM h.ft.gA).2 ⟨hd,rfl⟩) hk rfl hb
  exact hq p p1 p2
 obtain ⟨p,p1,p2⟩:=tq t.nodes q
 have hf:t.nodes.filter p=[]:=List.filter_eq_nil_iff.2 fun n _ hn=>hin _ ((p2 n).1 hn)
 refine ⟨?_,by rw [p1,qT,hf]; rfl,by rw [p1,uA,hf]; rfl⟩
 unfold eN
 rw [if_neg]
 intro hc
 rw [Bool.and_eq_true,beq_iff_eq] at hc
 obtain ⟨d,hd⟩:=Option.isSome_iff_exists.1 hc.1
 exact hq d hd (by simpa [aA,hd] using hc.2)
def yW {t:Tree} (h:Rt t) (q:Int):eN t.nodes q=((jO (iT t.nodes q):Int),(rK t.nodes (iT t.nodes q):Int)):=by
 obtain ⟨dep,h⟩:=h
 by_cases hq:∃d,find t.nodes q=some d/\d.kind=2
 ·obtain ⟨d,h1,h2⟩:=hq
  exact yh h h1 h2
 ·obtain ⟨h1,h2,h3⟩:=mW h (q:=q) fun d hd hk=>hq ⟨d,hd,hk⟩
  rw [h1,h2,h3]; rfl
def Ga {t:Tree} (h:Rt t) (i q:Int):eN (ig t i).1.nodes q=eN t.nodes q:=by
 obtain ⟨dep,h⟩:=h
 have h':=wU h i
 have hcase:(ig t i).1=t\/(∃m,find t.nodes i=some m/\m.kind=1/\lu t.nodes i=0/\(ig t i).1=⟨ct t.nodes i,t.next,t.af⟩):=by
  unfold ig
  split
  ·exact .inl rfl
  split
  ·exact .inl rfl
  split
  ·exact .inl rfl
  ·rename_i h1 h2 h3
   right
   cases hi:find t.nodes i with
   |none=>simp [hi] at h1
   |some m =>
    simp only [aA,hi,Option.getD_some,beq_iff_eq,decide_eq_true_eq] at h2 h3
    have hl:=h.bw _ _ hi
    have hm:=(h.num _ _ hi).1
    rw [if_neg (by omega)] at hl
    exact ⟨m,rfl,(h.kind _ _ hi).resolve_right h2,by omega,rfl⟩
 rcases hcase with e|⟨m,hm,hmk,hc,e⟩
 ·rw [e]
 rw [e] at h' ⊢
 have hff:=jE h.ft.gA i
 have hne:∀j n,find t.nodes j=some n->n.kind=2->j≠i:=by
  rintro j n hj hk rfl
  rw [hm] at hj; injection hj with hj; subst hj
  omega
 have fd:∀j n,find t.nodes j=some n->n.kind=2->find (ct t.nodes i) j=some n:=fun j n hj hk=>by rw [hff,if_neg (hne j n hj hk),hj]
 have bel:∀(m:Nat) (j:Int) (n:Node),find t.nodes j=some n->n.kind=2->dep j=m->cH (ct t.nodes i) j q=cH t.nodes j q:=by
  intro m
  induction m with
  |zero =>
   intro j n hj hk hd
   by_cases ho:j=q
   ·subst ho
    exact (bm.ga (t:=⟨ct t.nodes i,t.next,t.af⟩) j).trans (bm.ga j).symm
   by_cases h1:j=1
   ·subst h1
    exact (bm.jt (t:=⟨ct t.nodes i,t.next,t.af⟩) fun hh=>ho hh.symm).trans (bm.jt fun hh=>ho hh.symm).symm
   ·have:=(h.j7 _ _ hj hk h1).1; omega
  |succ m ih =>
   intro j n hj hk hd
   by_cases ho:j=q
   ·subst ho
    exact (bm.ga (t:=⟨ct t.nodes i,t.next,t.af⟩) j).trans (bm.ga j).symm
   have h1:j≠1:=fun hh=>by subst hh; have:=h.uV; omega
   obtain ⟨a,p,hp,hpk⟩:=h.j7 _ _ hj hk h1
   have b1:=h'.kH (fd j n hj hk) hk h1 ho
   rw [h.kH hj hk h1 ho]
   exact b1.trans (ih _ p hp hpk (by omega))
 by_cases hq:∃d,find t.nodes q=some d/\d.kind=2
 ·obtain ⟨d,d1,d2⟩:=hq
  obtain ⟨K,k1,k2,k3,k4⟩:=yX h d1 d2
  obtain ⟨L,l1,l2,l3,l4⟩:=yX h' (fd q d d1 d2) d2
  have hin:∀x,Qn (ct t.nodes i) q x↔Qn t.nodes q x:=fun x=>by
   constructor
   ·rintro ⟨d,e,hd,hk,hb,he,hx⟩
    have hd':find (ct t.nodes i) d.ino=some d:=(dM h'.ft.gA).2 ⟨hd,rfl⟩
    rw [hff] at hd'
    split at hd'
    ·cases hd'
    ·exact ⟨d,e,(aY hd').1,hk,by rw [<-bel _ _ d hd' hk rfl]; exact hb,he,hx⟩
   ·rintro ⟨d,e,hd,hk,hb,he,hx⟩
    have hd':find t.nodes d.ino=some d:=(dM h.ft.gA).2 ⟨hd,rfl⟩
    exact ⟨d,e,(aY (fd _ _ hd' hk)).1,hk,by rw [bel _ _ d hd' hk rfl]; exact hb,he,hx⟩
  have hp:L.Perm K:=(List.perm_ext_iff_of_nodup l1 k1).2 fun x=>by rw [l2,k2]; exact hin x
  have hs:pw (ct t.nodes i) L=pw t.nodes K:=by
   unfold pw
   rw [<-(hp.map (Wd t.nodes)).sum_nat]
   congr 1
   refine List.map_congr_left fun x hx=>?_
   obtain ⟨d,e,hd,_,_,he,hxe⟩:=(k2 x).1 (hp.mem_iff.1 hx)
   have hxi:x≠i:=fun hh=>by
    have:=mV.2 ⟨d,e,hd,he,hxe.trans hh⟩
    omega
   simp only [Wd,aA,hff,if_neg hxi]
  rw [k4,l4,hp.length_eq,hs]
 ·rw [(mW h fun d hd hk=>hq ⟨d,hd,hk⟩).1]
  refine (mW h' fun d hd hk=>?_).1
  have hd:find (ct t.nodes i) q=some d:=hd
  rw [hff] at hd
  split at hd
  ·cases hd
  ·exact hq ⟨d,hd,hk⟩
def zg (f:aa):Prop:=f.bJ.any (fp f.s.now)=false
def FP {t:Tree} (h:Rt t) (i:Int) (l:List bp):l.any (fp (ig t i).1)=l.any (fp t):=by
 congr 1
 funext q
 simp only [fp,Ga h]
def vI {t:Tree} (h:Rt t) (l:List bT) (c g:Int) (Q:List bp):Q.any (fp (eY t l c g).1)=Q.any (fp t):=by
 unfold eY
 split
 ·rfl
 ·simp only
  split
  ·exact FP h _ Q
  ·rfl
def sN (Q:List bp) (c:Int):∀(r:List bT) (t:Tree) (l:List bT),Rt t->Q.any (fp (iZ c r t l).1)=Q.any (fp t)
 | [],t,l,h=>rfl
 |x::r,t,l,h=>by
  rw [iZ]
  split
  ·rw [sN Q c r _ _ (h.close l c x.handle),vI h]
  ·exact sN Q c r t l h
def yG (s:eu) (t:Tree):(lG s t).now=t:=by
 unfold lG
 split
 ·rename_i h; simpa using h
 ·rfl
def zg.settle {f:aa} (h:zg f) (t:Tree) (Q:List bp):zg (db f t Q).1:=by
 unfold db
 split
 ·exact h
 split
 ·exact h
 ·rename_i hc
  unfold zg
  simp only [yG]
  simpa using hc
def zg.Ai {f:aa} (h:zg f) (o:er) (ino:Int) (d:Bytes):zg (iC f o ino d).1:=by
 have hr:=h.settle (nF f.s.now ino d).1 f.bJ
 unfold iC
 simp only []
 split
 ·exact h
 split<;>exact hr
def Gi {f:aa} (h:zg f) (hf:nK f) (K:Nat) (o:er):zg (ka K f o).1:=by
 have hp:=fun t=>h.settle t f.bJ
 refine Ed (P:=fun r=>zg r.1) ?_ ?_ ?_ ?_ ?_ ?_ ?_ ?_ ?_ ?_ ?_ ?_ ?_ ?_ ?_ ?_ ?_ ?_ K
 ·unfold tI; split<;>exact h
 ·unfold tJ; simp only []
  split
  ·exact h
  split
  ·exact h
  split<;>exact hp _
 ·unfold tG; simp only []
  split
  ·exact h
  split
  ·exact h
  split
  ·exact h
  split<;>exact hp _
 ·unfold lI; simp only []
  split
  ·exact h
  split
  ·exact h
  split<;>exact hp _
 ·unfold lH; simp only []
  split
  ·exact h
  split
  ·exact h
  split
  ·exact h
  split
  ·exact h
  split<;>exact hp _
 ·unfold xm; simp only []
  split
  ·exact h
  split<;>exact h
 ·unfold tX; simp only []; split<;>exact h
 ·unfold tK; simp only []
  split
  ·exact h
  split<;>exact h
 ·unfold nR; simp only []
  split
  ·exact h
  ·unfold zg
   simp only [yG]
   rw [vI hf.rt]; exact h
 ·unfold xL
  split
  ·exact h
  split<;>exact h
 ·unfold oL
  split
  ·exact h
  split
  ·exact h
  split
  ·exact h
  ·exact h.Ai o _ _
 ·unfold zL
  split
  ·exact h
  ·exact h.Ai o _ _
 ·unfold oe; simp only []
  split
  ·exact h
  split
  ·exact h
  split<;>exact h.settle _ _
 ·unfold tY; simp only []
  split
  ·exact h
  split
  ·exact h
  ·unfold takeN
   split
   ·exact h
   split
   ·exact h
   split<;>exact h
 ·unfold xD; simp only []
  split
  ·exact h
  split
  ·exact h
  split<;>exact h
 ·unfold tu; simp only []
  split
  ·exact h
  ·unfold ra
   split<;>exact h
 ·unfold pV zg tD
  simp only [yG]
  rw [sN _ _ _ _ _ hf.rt]; exact h
 ·exact h
def MM {f:aa} (h:zg f) (hf:nK f) (o:er):zg (pq f o).1:=by
 unfold pq
 split
 ·exact h
 ·split
  ·split
   ·exact Gi h hf _ o
   ·exact h
  ·exact h
def t0:Tree:=⟨[⟨1,2,0,[],[],1⟩],2,1⟩
def f0:aa:=⟨⟨t0,0,[0],[],[],1⟩,[],[]⟩
section
attribute [local irreducible] cJ cE gD gK bG kr ai ak aV aF
def c38:ai aQ 38 [] []=some (.agg (ar t0),[]):=by
 refine aq ?_
 simp only [Rb,E38,EW,simprocAttr]
 rfl
def k38 (M:ag):ak (ai aQ) 38 [] M=some (.agg (ar t0),M):=fj c38 rfl rfl rfl rfl rfl M
def k37 (M:ag):ak (ai aQ) 37 [.agg [az t0.nodes,.int .i64 t0.next,.int .i64 t0.af]] M=some (.agg (a8 f0.s),M):=cO (c37 t0 (by decide)) M
def c20:ai aQ 20 [] []=some (.agg (dB f0),[]):=by
 refine aq ?_
 have q:=k38
 simp only [ar] at q
 simp only [Q4,E20,q,k37,a8,EW,simprocAttr]
 rfl
def k20 (M:ag):ak (ai aQ) 20 [] M=some (.agg (dB f0),M):=fj c20 rfl rfl rfl rfl rfl M
end
def rt0:Rt t0:=⟨_,KS⟩
def fb0:FB 0 f0:=by
 refine ⟨⟨rt0,rfl,?_,?_,?_,List.Pairwise.nil,?_,List.Pairwise.nil,?_⟩,?_⟩<;>simp [f0]
def aeD:zg f0:=rfl
end Go.Proofs.YtahkjijkflobhaaGreatDoor
namespace Go.Abs
section
open Go
def uZ {C:bt} {fn:List lL} {base:Nat} {k:List K} {live:List Nat} {body:aO} {α σ ρ:Type} {xs:List α} (hn:xs.length<=1000000) (go:List α->σ->ρ) (E:σ->Int->Env) (M:σ->ag) (R:ρ->Option (ae×ag))
  (hend:∀s,cJ C fn base (.loop live (M s).length body::k) body (fI (E s xs.length) live) (M s)=R (go [] s))
  (hstep:∀(pre:List α) (x:α) (post:List α) (s:σ),xs=pre++x::post->xs[pre.length]?=some x->((pre.length:Int)<xs.length)=True->IntKind.i64.wrap ((pre.length:Int)+1)=(pre.length:Int)+1->((pre.length:Int)<0)=False->x∈xs ->
   (∀s',cJ C fn base k (.loop live body) (E s' ((pre.length:Int)+1)) (M s')=R (go post s'))->cJ C fn base (.loop live (M s).length body::k) body (fI (E s pre.length) live) (M s)=R (go (x::post) s)) :
  ∀s,cJ C fn base k (.loop live body) (E s 0) (M s)=R (go xs s):=by
 have key:∀(l pre:List α) (s:σ),xs=pre++l->cJ C fn base k (.loop live body) (E s pre.length) (M s)=R (go l s):=by
  intro l
  induction l with
  |nil =>
   intro pre s h
   rw [aB,show pre.length=xs.length by rw [h]; simp]
   exact hend s
  |cons x r ih =>
   intro pre s h
   rw [aB]
   have hl:pre.length+1<=1000000:=by rw [h] at hn; simp at hn; omega
   refine hstep pre x r s h (by rw [h]; simp) (by rw [h]; simp; omega) (bD (by omega) (by omega)) (by simp) (by rw [h]; simp) fun s'=>?_
   have:=ih (pre++[x]) s' (by rw [h]; simp)
   simpa using this
 intro s
 exact key xs [] s rfl
end
end Go.Abs
namespace Go.Proofs.YtahkjijkflobhaaGreatDoor
open Go Go.Abs
abbrev wj (l:List er):ae := .slice .sh (l.map QX)
def EE (n:er):(QX n).cells=gM n:=rfl
def KA (n:er):(gM n).length=8:=rfl
def O8 (l:List er):wid (l.map QX) 8=True:=kv QX _ (fun _=>rfl) l
def tkO (n:er):List.take 8 (gM n)=gM n:=rfl
def shO (n:er):List.map ae.shut (gM n)=gM n:=rfl
set_option linter.defProp false in
def L8:=And.intro @EE (And.intro @KA (And.intro @O8 (And.intro @tkO (@shO))))
def tH (o:er):Bool:=decide (5000<(o.data.length:Int))||(decide (1000<(o.path.length:Int))||decide (1000<(o.nj.length:Int)))
def sn (l:List er):Bool:=if decide (50<(l.length:Int))=true then true else l.any tH
def NR {o:er} (h:tH o=false):uc o:=by
 simp only [tH,Bool.or_eq_false_iff,decide_eq_false_iff_not] at h
 exact ⟨by omega,by omega,by omega⟩
def IB {l:List er} (h:sn l=false):l.length<=50/\∀o,o∈l->uc o:=by
 unfold sn at h
 split at h
 ·cases h
 ·rename_i h0
  simp only [decide_eq_true_eq] at h0
  exact ⟨by omega,fun o ho=>NR (by simpa using List.any_eq_false.1 h o ho)⟩
section
attribute [local irreducible] cJ cE gD gK bG kr ai ak aV aF
def c12 (o:er):ai aQ 12 [QX o] []=some (.bool (tH o),[]):=by
 refine aq ?_
 unfold tH
 cases h1:decide (5000<(o.data.length:Int))<;>cases h2:decide (1000<(o.path.length:Int))<;>cases h3:decide (1000<(o.nj.length:Int)) <;>
  simp only [Q2,E12,QX,gM,h1,h2,h3,Bool.or_true,Bool.true_or,Bool.or_false,Bool.false_or,EW,simprocAttr]
def k12 (o:er) (M:ag):ak (ai aQ) 12 [.agg (gM o)] M=some (.bool (tH o),M):=cO (c12 o) M
def c11 (xs:List er):ai aQ 11 [wj xs] []=some (.bool (sn xs),[]):=by
 refine aq ?_
 unfold sn
 cases h0:decide (50<(xs.length:Int))<;>simp only [Q1,Z2,h0,if_true,Bool.false_eq_true,if_false,L8,EW,simprocAttr]
 have hn:xs.length<=50:=by simp at h0; omega
 refine uZ (xs:=xs) (by omega) (fun l (_:Unit)=>l.any tH) (fun _ i=>[(0,wj xs),(3,.int .i64 i)]) (fun _=>[]) (fun b=>some (ae.bool b,([]:ag))) (fun _=>?_) (fun pre x post _ h hx hlt hw h0 hm hi=>?_) ()
 ·simp only [Z2,Int.lt_irrefl,List.any_nil,L8,EW,simprocAttr]
 ·have q:=fun M=>k12 x M
  have i1:=hi ()
  cases hl:tH x<;>rw [hl] at q<;>simp only [Z2,hlt,hx,hw,q,hl,List.any_cons,Bool.true_or,Bool.false_or,L8,EW,simprocAttr]
  exact i1
def k11 (xs:List er) (M:ag):ak (ai aQ) 11 [wj xs] M=some (.bool (sn xs),M):=cO (c11 xs) M
def lE {f:Nat} {vs:List ae} {M:ag} {x:ae×ag} (h:ak (ai aQ) f vs M=some x):ak (ai jC) f vs M=some x:=lD (lS h)
def DD (f:aa) (o:er) (hf:nK f) (ho:uc o) (M:ag):ak (ai jC) 14 [.agg (dB f),.agg (gM o)] M=some (.tuple [.agg (dB (pq f o).1),.agg (gq (pq f o).2)],M) :=
 cO (c14 f o hf ho) M
end
end Go.Proofs.YtahkjijkflobhaaGreatDoor
