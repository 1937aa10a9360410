import Derived.Test.YtdbadpnkhaepnaaGreatDoorProg
import Derived.WalkKit
import Derived.LaidEql
import Derived.Stop.Asserts
import Derived.RowKitTokens
import Derived.KernelRfl
import Derived.Defers
import Derived.Recover
import Derived.OneCell
import Derived.Below
import Derived.Test.YtdbadpnkhaepnaaGreatDoorOnbD
set_option linter.unusedSimpArgs false
set_option linter.unusedVariables false
set_option linter.unusedSectionVars false
set_option linter.defProp false
namespace Go.Proofs.YtdbadpnkhaepnaaGreatDoor
open Go Go.Abs
section
attribute [local irreducible] cT cR gz gK bR kr af an aZ aK
def ahm (l:List cf) (ino:Int) (hn:l.length<=100000) (M:ai):an (af aV) 144 [dn l,.int .i64 ino] M=some (.bool (wv l ino),M):=cO (af8 l ino hn) M
def fP (t:Tree) (l:List cf) (c h:Int):Tree×List cf×Int:=match l.find? (jh c h) with
 |none=>(t,l,80)
 |some x=>(if ((find t.nodes x.ino).isSome&&mN (aJ t.nodes x.ino) && !wv (l.eraseP (jh c h)) x.ino)=true then (lf t x.ino).1 else t,l.eraseP (jh c h),0)
def c90 (t:Tree) (l:List cf) (c h:Int) (ht:Small t) (hr:jS t) (hn:l.length<=64):af aV 90 [bI t,dn l,.int .i64 c,.int .i64 h] []=some (.tuple [bI (fP t l c h).1,dn (fP t l c h).2.1,.int .i64 (fP t l c h).2.2],[]):=by
 refine aq rfl rfl rfl ?_
 have hk:=TF l c h (by omega)
 unfold fP
 rcases pZ (jh c h) l 0 with ⟨h1,h2⟩|⟨m,x,h1,h2,h3,h4⟩
 ·simp only [P4,E90,hk,h1,h2,bI,aw,EW,simprocAttr]
 ·have hlt:(((0+m:Nat):Int)<0)=False:=by simp
  have hm:m<l.length:=(List.getElem?_eq_some_iff.1 h2).1
  have hne:l≠[]:=by rintro rfl; simp at hm
  have p1:=fun M=>pW fe (f:=140) (sz:=3) (bytes:=24) rfl (fun _=>rfl) (by omega) hne (by omega) M
  have p2:=fun M=>x9 fe (f:=143) (sz:=3) (v:=0) (id:=2) rfl hm (by omega) M
  have hw:IntKind.i64.wrap ((m:Int)+1)=((m+1:Nat):Int):=by rw [bw (by omega) (by omega)]; rfl
  have q1:=xD t x.ino ht hr
  have q2:=abp t x.ino ht hr
  have q3:=fun M=>VD (aJ t.nodes x.ino) M
  have q4:=ahm (l.eraseP (jh c h)) x.ino (by have:=List.length_eraseP_le (p:=jh c h) (l:=l); omega)
  simp only [h3]
  generalize lf t x.ino=fr at q2 ⊢
  rw [h4] at p2
  simp only [az,aw] at q1 q2 q3
  simp only [P4,E90,hk,h1,h2,hlt,Nat.zero_add,fj,p1,p2,hw,q1,q3,az,bI,aw,FZ,lr,EW,simprocAttr]
  repeat' ((first|refine aH (fun hb=>?_) (fun hb=>?_)|refine bj (fun hb=>?_) (fun hb=>?_)|refine cj (fun hb=>?_) (fun hb=>?_))<;>simp only [hb,EW,E90,hk,h1,h2,hlt,p1,p2,hw,q1,q2,q3,q4,az,FZ,lr,simprocAttr])
  all_goals clear q1 q2 q3 q4 p1 p2 hk
  all_goals first|rfl|(simp_all only [jZ,↓reduceIte,reduceCtorEq,bne_self_eq_false]; done)|(simp_all only [jZ,↓reduceIte,reduceCtorEq,bne_self_eq_false]; rfl)|skip
def k90 (t:Tree) (l:List cf) (c h:Int) (ht:Small t) (hr:jS t) (hn:l.length<=64) (M:ai):an (af aV) 90 [.agg [aF t.nodes,.int .i64 t.next,.int .i64 t.ag],dn l,.int .i64 c,.int .i64 h] M=some (.tuple [.agg (aw (fP t l c h).1),dn (fP t l c h).2.1,.int .i64 (fP t l c h).2.2],M) :=
 cO (c90 t l c h ht hr hn) M
def bN.sz {t:Tree} {dep:Int->Nat} {x:Int} (h:bN t dep x):Sz 200 t where
 nodes:=h.nodes
 au:=fun n hn=>by have:=(h.qm _ _ ((ga h.gx.fh).2 ⟨hn,rfl⟩)).2; omega
 data:=fun n hn=>by
  have hi:=(ga h.gx.fh).2 ⟨hn,rfl⟩
  rcases h.kind _ _ hi with h1|h1
  ·have:=(h.file _ _ hi h1).2.2; omega
  ·rw [h.dir _ _ hi h1]; simp
def Sz.zX {b:Nat} {t:Tree} (h:Sz b t) (hb:b<=100000:=by omega):Small t:=h.small hb
def Rt (t:Tree):Prop:=∃dep,bN t dep 0
def Rt.gx {t:Tree} (h:Rt t):jS t:=let ⟨_,g⟩:=h; g.gx
def Rt.sz {t:Tree} (h:Rt t):Sz 200 t:=let ⟨_,g⟩:=h; g.sz
def Rt.small {t:Tree} (h:Rt t):Small t:=h.sz.small (by omega)
def Rt.free {t:Tree} (h:Rt t) (ino:Int):Rt (lf t ino).1:=let ⟨_,g⟩:=h; ⟨_,Gq g ino⟩
def Rt.close {t:Tree} (h:Rt t) (l:List cf) (c g:Int):Rt (fP t l c g).1:=by
 unfold fP
 split
 ·exact h
 ·split
  ·exact h.free _
  ·exact h
def ra (t:Tree) (l:List cf) (c g:Int):(fP t l c g).2.1.length<=l.length:=by
 unfold fP
 split
 ·exact Nat.le_refl _
 ·exact List.length_eraseP_le
def xj (n:Tree) (B:Nat) (M:ai):List.map (ae.fc B M) (aw n)=aw n:=rfl
def QJ {t:Tree} (ht:t.nodes.length<=100000) {k:List K} {R:List Int->Option (ae×ai)}
  (hx:∀(out:List Int) e,kr (af aV) [.tmp 2] 0 k ⟨.exit 0,(3,.slice (.own 1) (out.map pg))::e,[.cells (aw t),.tick 1 out.length]⟩=R out) :
  ∀(l pre:List Node) (out:List Int),t.nodes=pre++l->out.length<=pre.length->cT (af aV) [.tmp 2] 0 k (.loop [3,7,8,9] Qm) [(3,.slice (.own 1) (out.map pg)),(7,aF t.nodes),(8,.int .i64 t.nodes.length),(9,.int .i64 pre.length)] [.cells (aw t),.tick 1 out.length]=R (out++(l.filter mN).map Node.ino):=by
 intro l
 induction l with
 |nil =>
  intro pre out h ho
  rw [aE]
  simp only [Fx,bZ h,List.filter_nil,EW,simprocAttr]
  exact hx _ _
 |cons n rest ih =>
  intro pre out h ho
  rw [aE]
  have hlen:pre.length+1<=100000:=by rw [h] at ht; simp at ht; omega
  have hw:IntKind.i64.wrap ((pre.length:Int)+1)=((pre++[n]).length:Int):=by rw [bw (by omega) (by omega)]; exact bp
  have hi1:=ih (pre++[n]) out (by rw [h]; simp) (by simp; omega)
  have hi2:=ih (pre++[n]) (out++[n.ino]) (by rw [h]; simp) (by simp; omega)
  simp only [List.length_append,List.length_cons,List.length_nil,List.map_append,List.map_cons,List.map_nil] at hi1 hi2
  have r1:bP (out.length+1) 8=True:=dv (by omega) (by omega)
  have q3:=fun M=>VD n M
  simp only [az] at q3
  simp only [Fx,aY h,aW h,az,aw,q3,EW,simprocAttr] at hi1 hi2 ⊢
  refine aH (fun hb=>?_) (fun hb=>?_)
  ·simp only [Fx,hb,r1,sR,hw,EW,simprocAttr]
   simpa [hb] using hi2
  ·simp only [Fx,hb,hw,EW,simprocAttr]
   simpa [hb] using hi1
def afH (t:Tree) (ht:t.nodes.length<=100000):af aV 110 [bI t] []=some (kE (fT t),[]):=by
 refine aq rfl rfl rfl ?_
 have hl:=QJ ht (k:=[.block 0,.seq Yi]) (R:=fun out=>some (kE out,[])) (fun out e=>by simp only [Fx,EW,simprocAttr]) t.nodes [] [] rfl (Nat.le_refl _)
 simp only [aw,List.map_nil,List.length_nil] at hl
 simp only [J4,Fx,bI,aw,EW,simprocAttr]
 exact hl
def ahd (t:Tree) (ht:t.nodes.length<=100000) (M:ai):an (af aV) 110 [.agg [aF t.nodes,.int .i64 t.next,.int .i64 t.ag]] M=some (kE (fT t),M):=cO (afH t ht) M
def kX (c:Int):List cf->Tree->List cf->Tree×List cf
 | [],t,l=>(t,l)
 |x::r,t,l=>if (x.aj==c)=true then kX c r (fP t l c x.handle).1 (fP t l c x.handle).2.1 else kX c r t l
def wm (t:Tree) (l:List cf) (c:Int):Tree×List cf:=kX c l t l
def QH {h0:List cf} (c:Int) (h64:h0.length<=64) {k:List K} {R:Tree->List cf->Option (ae×ai)}
  (hx:∀(t:Tree) (l:List cf) e,kr (af aV) [.eW 6 3,.tmp 7] 0 k ⟨.exit 0,(1,dn l)::(2,.int .i64 c)::(3,.ptr 0 0)::(6,.ptr 1 0)::e,[.cells (aw t),.cells [.slice .c0 [],.int .i64 0,.int .i64 0]]⟩=R t l) :
  ∀(r pre:List cf) (t:Tree) (l:List cf),h0=pre++r->Rt t->l.length<=64->cT (af aV) [.eW 6 3,.tmp 7] 0 k (.loop [1,2,3,6,10,11,12] Qk) [(1,dn l),(2,.int .i64 c),(3,.ptr 0 0),(6,.ptr 1 0),(10,dn h0),(11,.int .i64 h0.length),(12,.int .i64 pre.length)] [.cells (aw t),.cells [.slice .c0 [],.int .i64 0,.int .i64 0]]=R (kX c r t l).1 (kX c r t l).2:=by
 intro r
 induction r with
 |nil =>
  intro pre t l h ht hl
  rw [aE]
  simp only [Fw,bZ h,kX,EW,simprocAttr]
  exact hx _ _ _
 |cons x rest ih =>
  intro pre t l h ht hl
  rw [aE]
  have hlen:pre.length+1<=100000:=by rw [h] at h64; simp at h64; omega
  have hw:IntKind.i64.wrap ((pre.length:Int)+1)=((pre++[x]).length:Int):=by rw [bw (by omega) (by omega)]; exact bp
  have q1:=k90 t l c x.handle ht.small ht.gx hl
  have hi1:=ih (pre++[x]) t l (by rw [h]; simp) ht hl
  have hi2:=ih (pre++[x]) _ _ (by rw [h]; simp) (ht.close l c x.handle) (Nat.le_trans (ra t l c x.handle) hl)
  rw [kX]
  generalize fP t l c x.handle=cl at q1 hi2 ⊢
  simp only [List.length_append,List.length_cons,List.length_nil] at hi1 hi2
  simp only [Fw,aY h,aW h,fj,aw,EW,simprocAttr] at q1 hi1 hi2 ⊢
  refine aH (fun hb=>?_) (fun hb=>?_)
  ·simp only [Fw,hb,q1,hw,EW,simprocAttr]
   exact hi2
  ·simp only [Fw,hb,hw,Bool.false_eq_true,EW,simprocAttr]
   exact hi1
def afA (t:Tree) (l:List cf) (c:Int) (ht:Rt t) (hl:l.length<=64):af aV 102 [bI t,dn l,.int .i64 c] []=some (.tuple [bI (wm t l c).1,dn (wm t l c).2],[]):=by
 refine aq rfl rfl rfl ?_
 have hq:=QH (h0:=l) c hl (k:=[.block 0,.seq Yg]) (R:=fun t l=>some (.tuple [bI t,dn l],[])) (fun t l e=>by simp only [Fw,bI,aw,EW,simprocAttr]) l [] t l rfl ht hl
 simp only [aw,List.length_nil] at hq
 simp only [JX,Fw,bI,aw,EW,simprocAttr]
 exact hq
def ahb (t:Tree) (l:List cf) (c:Int) (ht:Rt t) (hl:l.length<=64) (M:ai):an (af aV) 102 [.agg [aF t.nodes,.int .i64 t.next,.int .i64 t.ag],dn l,.int .i64 c] M=some (.tuple [.agg (aw (wm t l c).1),dn (wm t l c).2],M) :=
 cO (afA t l c ht hl) M
end
abbrev AM (α:Type):=List (Int×α)
section
variable {α:Type}
def uM (l:AM α):List ae:=l.map fun p => .int .i64 p.1
def jD (enc:α->ae) (l:AM α):List ae:=l.map fun p=>enc p.2
def cp:AM α->Int->Option α
 | [],_=>none
 |(k',v)::l,k=>if k=k' then some v else cp l k
def iC:AM α->Int->α->AM α
 | [],k,v=>[(k,v)]
 |(k',v')::l,k,v=>if k=k' then (k,v)::l else (k',v')::iC l k v
def fY:∀(l:AM α) (k:Int) (v:α) (j:Int),cp (iC l k v) j=if j=k then some v else cp l j
 | [],k,v,j=>by simp only [iC,cp]
 |(k',v')::l,k,v,j=>by
  simp only [iC]
  split
  ·rename_i h
   subst h
   simp only [cp]
   split<;>rfl
  ·rename_i h
   simp only [cp]
   split
   ·rename_i h2
    rw [if_neg (fun hh=>h (hh.symm.trans h2))]
   ·exact fY l k v j
def wK:∀(l:AM α) (k:Int) (v:α),cp l k=some v->(k,v)∈l
 |(k',v')::l,k,v,h=>by
  simp only [cp] at h
  split at h
  ·rename_i hk
   injection h with h
   subst h; subst hk
   exact List.mem_cons_self
  ·exact List.mem_cons_of_mem _ (wK l k v h)
def wM:∀(l:AM α) (k:Int) (v:α),(iC l k v).length<=l.length+1
 | [],_,_=>by simp [iC]
 |(k',v')::l,k,v=>by
  simp only [iC]
  split
  ·simp
  ·have:=wM l k v
   simp; omega
def iv (enc:α->ae):∀(l:AM α) (k:Int),rm .i (.int .i64 k) (uM l) (jD enc l)=some ((cp l k).map enc)
 | [],k=>rfl
 |(k',v)::l,k=>by
  show aK (fW .i (.int .i64 k) (.int .i64 k')) (fun b=>vt b (some (some (enc v))) (rm .i (.int .i64 k) (uM l) (jD enc l)))=_
  rw [iv enc l k]
  simp only [fW,↓reduceIte,aL,cp]
  by_cases h:k=k'
  ·rw [if_pos h,show (k==k')=true by simpa using h,kM]; rfl
  ·rw [if_neg h,show (k==k')=false by simpa using h,jq]
end
section
variable {α:Type}
def lY (enc:α->ae):∀(l:AM α) (k:Int) (v:α),pr .i (.int .i64 k) (enc v) (uM l) (jD enc l)=some (uM (iC l k v),jD enc (iC l k v))
 | [],k,v=>by
  show aK (fW .i (.int .i64 k) (.int .i64 k)) (fun _=>some ([ae.int .i64 k],[enc v]))=_
  simp only [fW,↓reduceIte,aL]
  rfl
 |(k',v')::l,k,v=>by
  show aK (fW .i (.int .i64 k) (.int .i64 k')) (fun b=>vt b (some (ae.int .i64 k::uM l,enc v::jD enc l)) (aK (pr .i (.int .i64 k) (enc v) (uM l) (jD enc l)) fun x=>some (ae.int .i64 k'::x.1,enc v'::x.2)))=_
  rw [lY enc l k v]
  simp only [fW,↓reduceIte,aL,iC]
  by_cases h:k=k'
  ·rw [if_pos h,show (k==k')=true by simpa using h,kM]; rfl
  ·rw [if_neg h,show (k==k')=false by simpa using h,jq]; rfl
def PC (enc:α->ae) (B:Nat) (M:ai) (h:∀a,(enc a).eS B M=enc a) (l:AM α):List.map (ae.eS B M) (jD enc l)=jD enc l:=by
 unfold jD
 rw [List.map_map]
 exact List.map_congr_left (fun p _=>h p.2)
def Lg (enc:α->ae) (h:∀a,(enc a).ids=[]) (l:AM α):(jD enc l).flatMap ae.ids=[]:=by
 unfold jD
 rw [List.flatMap_map]
 exact List.flatMap_eq_nil_iff.2 fun p _=>h p.2
def Db (enc:α->ae) (h:∀a,(enc a).flat=true) (l:AM α):(jD enc l).all ae.flat=true:=List.all_eq_true.2 fun x hx=>by
 obtain ⟨p,_,rfl⟩:=List.mem_map.1 hx
 exact h p.2
def Oe (enc:α->ae) (ρ:Nat->Nat) (h:∀a,(enc a).iY ρ=enc a) (l:AM α):(jD enc l).map (ae.iY ρ)=jD enc l:=by
 unfold jD
 rw [List.map_map]
 exact List.map_congr_left (fun p _=>h p.2)
def ab4 (o:Option Bool):jK (.bool false) false (o.map ae.bool) = .bool (o.getD false):=by cases o<;>rfl
end
def jF (nodes:List Node):Nat->Int->Int×AM Bool->Int×AM Bool
 |0,_,s=>s
 |f+1,ino,s=>(aJ nodes ino).au.foldl (fun s e=>if (!((cp s.2 e.ino).getD false))=true then jF nodes f e.ino (s.1,iC s.2 e.ino true) else s) (gG (s.1+(aJ nodes ino).data.length),s.2)
def nV:ae := .func 170 [.ptr 0 0,.ptr 1 0,.ptr 2 0,.ptr 3 0]
def dP (t:Tree) (s:Int×AM Bool):ai:=[.cells (aw t),.cells [.int .i64 s.1],.cells [.df 4],.cells [nV],.map (uM s.2) (jD ae.bool s.2)]
def flB (l:AM Bool):(jD ae.bool l).all ae.flat=true:=Db _ (fun _=>rfl) l
def rnB (ρ:Nat->Nat) (l:AM Bool):(jD ae.bool l).map (ae.iY ρ)=jD ae.bool l:=Oe _ _ (fun _=>rfl) l
def idB (l:AM Bool):(jD ae.bool l).flatMap ae.ids=[]:=Lg _ (fun _=>rfl) l
def bkB (B:Nat) (M:ai) (l:AM Bool):List.map (ae.eS B M) (jD ae.bool l)=jD ae.bool l:=PC _ _ _ (fun _=>rfl) l
def BT (t:Tree) (s:Int×AM Bool):(dP t s).map (aQ.iY (dh [0,1,2,3,4]))=dP t s/\(dP t s).map (aQ.iY (qk [0,1,2,3,4]))=dP t s:=by
 constructor
 ·simp only [dP,List.map_cons,List.map_nil,aQ.iY,rnB]; rfl
 ·simp only [dP,List.map_cons,List.map_nil,aQ.iY,rnB]; rfl
def adQ (t:Tree) (s:Int×AM Bool) (L:ai):dN (dP t s++L) (dh [0,1,2,3,4]) [0,1,2,3,4]=some (dP t s):=by
 have h:=(BT t s).1
 simp only [dP,List.map_cons,List.map_nil] at h
 injection h with h0 h; injection h with h1 h; injection h with h2 h; injection h with h3 h; injection h with h4 h
 simp only [dP,List.cons_append,List.nil_append,dN,nth,h0,h1,h2,h3,h4]
 simp only [aQ.flat,flB,if_true]
 rfl
def ag6 (t:Tree) (s:Int×AM Bool) (L:ai):jm (dP t s++L) [0,1,2,3]=[4,0,1,2,3]/\jm (dP t s++L) [0,1,2,3,4]=[4,0,1,2,3]:=by
 refine ⟨rfl,?_⟩
 show [4,0,1,2,3]++((jD ae.bool s.2).flatMap ae.ids++[])=_
 rw [idB]; rfl
def Ob (t:Tree) (s:Int×AM Bool) (L:ai):reach (dP t s++L) [0,1,2,3]=[0,1,2,3,4]/\fa (dP t s++L) [0,1,2,3,4]=[0,1,2,3,4]:=by
 obtain ⟨h1,h2⟩:=ag6 t s L
 have e0:eE [] [0,1,2,3]=[0,1,2,3]:=rfl
 have e1:eE [0,1,2,3] [4,0,1,2,3]=[0,1,2,3,4]:=rfl
 have e2:eE [0,1,2,3,4] [4,0,1,2,3]=[0,1,2,3,4]:=rfl
 simp only [reach,fa,e0,h1,e1,h2,e2,and_self]
def YJ (t:Tree) (s s':Int×AM Bool) (L:ai):fy [0,1,2,3,4] (dP t s++L) [0,1,2,3,4] (dP t s')=dP t s'++L:=by
 have h:=(BT t s').2
 simp only [dP,List.map_cons,List.map_nil] at h
 injection h with h0 h; injection h with h1 h; injection h with h2 h; injection h with h3 h; injection h with h4 h
 simp only [dP,List.cons_append,List.nil_append,fy,h0,h1,h2,h3,h4,dG]
def Tz (t:Tree) (s:Int×AM Bool):(dP t s).all aQ.flat=true:=by
 simp only [dP,List.all_cons,aQ.flat,flB]; rfl
def aaG {t:Tree} {ino:Int} {s s':Int×AM Bool} {L:ai} (h:af aV 170 [.int .i64 ino,.ptr 0 0,.ptr 1 0,.ptr 2 0,.ptr 3 0] (dP t s)=some (.tuple [],dP t s')) :
  an (af aV) 170 [.int .i64 ino,.ptr 0 0,.ptr 1 0,.ptr 2 0,.ptr 3 0] (dP t s++L)=some (.tuple [],dP t s'++L) :=
 eL (ids:=[0,1,2,3,4]) rfl (Ob t s L).1 (adQ t s L) (Ob t s L).2 rfl h rfl rfl (Tz t s') rfl (YJ t s s' L)
def qR (t:Tree) (s:Int×AM Bool) (n:Node):ai:=[.cells [aF t.nodes,.int .i64 t.next,.int .i64 t.ag],.map (uM s.2) (jD ae.bool s.2),.cells [.df 1],.cells [.int .i64 s.1],.cells [.func 170 [.ptr 0 0,.ptr 3 0,.ptr 2 0,.ptr 4 0]],.cells (az n)]
def UB {t:Tree} {ino:Int} {s':Int×AM Bool} (n:Node) (h:af aV 170 [.int .i64 ino,.ptr 0 0,.ptr 1 0,.ptr 2 0,.ptr 3 0] (dP t (0,[]))=some (.tuple [],dP t s')) :
  an (af aV) 170 [.int .i64 ino,.ptr 0 0,.ptr 3 0,.ptr 2 0,.ptr 4 0] (qR t (0,[]) n)=some (.tuple [],qR t s' n):=by
 have i1:jm (qR t (0,[]) n) [0,3,2,4]=[1,0,3,2,4]:=rfl
 have i2:jm (qR t (0,[]) n) [0,3,2,4,1]=[1,0,3,2,4]:=rfl
 have e0:eE [] [0,3,2,4]=[0,3,2,4]:=rfl
 have e1:eE [0,3,2,4] [1,0,3,2,4]=[0,3,2,4,1]:=rfl
 have e2:eE [0,3,2,4,1] [1,0,3,2,4]=[0,3,2,4,1]:=rfl
 have hr:reach (qR t (0,[]) n) [0,3,2,4]=[0,3,2,4,1]/\fa (qR t (0,[]) n) [0,3,2,4,1]=[0,3,2,4,1]:=by
  simp only [reach,fa,e0,i1,e1,i2,e2,and_self]
 have hp:dN (qR t (0,[]) n) (dh [0,3,2,4,1]) [0,3,2,4,1]=some (dP t (0,[])):=by
  simp only [qR,dN,nth,aQ.flat,flB,aL,if_true,aQ.iY,rnB]
  rfl
 refine eL (ids:=[0,3,2,4,1]) rfl hr.1 hp hr.2 rfl h rfl rfl (Tz t s') rfl ?_
 simp only [dP,qR,fy,aQ.iY,rnB,dG]
 rfl
section
attribute [local irreducible] cT cR gz gK bR kr af an aZ aK
def QU {t:Tree} {n:Node} {f:Nat} {k:List K} {R:Int×AM Bool->Option (ae×ai)} (hn:n.au.length<=100000)
  (ih:∀e,e∈n.au->∀s,af aV 170 [.int .i64 e.ino,.ptr 0 0,.ptr 1 0,.ptr 2 0,.ptr 3 0] (dP t s)=some (.tuple [],dP t (jF t.nodes f e.ino s)))
  (hx:∀s e,kr (af aV) [] 5 k ⟨.exit 0,e,dP t s++[.cells (az n)]⟩=R s) :
  ∀(l pre:List cJ) (s:Int×AM Bool),n.au=pre++l->cT (af aV) [] 5 k (.loop [3,4,22,23,24] Qx) [(3,.ptr 2 0),(4,.ptr 3 0),(22,fR n.au),(23,.int .i64 n.au.length),(24,.int .i64 pre.length)] (dP t s++[.cells (az n)]) =
   R (l.foldl (fun s e=>if (!((cp s.2 e.ino).getD false))=true then jF t.nodes f e.ino (s.1,iC s.2 e.ino true) else s) s):=by
 intro l
 induction l with
 |nil =>
  intro pre s h
  rw [aE]
  simp only [dP,Fy,bZ h,List.foldl_nil,EW,simprocAttr] at hx ⊢
  exact hx _ _
 |cons x rest ihl =>
  intro pre s h
  rw [aE]
  have hlen:pre.length+1<=100000:=by rw [h] at hn; simp at hn; omega
  have hw:IntKind.i64.wrap ((pre.length:Int)+1)=((pre++[x]).length:Int):=by rw [bw (by omega) (by omega)]; exact bp
  rw [List.foldl_cons]
  have hi1:=fun s=>ihl (pre++[x]) s (by rw [h]; simp)
  have q:=aaG (L:=[.cells (az n),.cells (dy x)]) (ih x (by rw [h]; simp) (s.1,iC s.2 x.ino true))
  generalize jF t.nodes f x.ino (s.1,iC s.2 x.ino true)=s' at q ⊢
  simp only [dP,nV,az,dy,List.length_append,List.length_cons,List.length_nil,Nat.zero_add,List.cons_append,List.nil_append] at hi1 q
  simp only [dP,nV,Fy,aY h,aW h,az,dy,iv,ab4,mapOf.eq_1,EW,simprocAttr]
  refine aH (fun hb=>?_) (fun hb=>?_)
  ·simp only [Fy,hb,hw,lY,q,xj,bkB,↓reduceIte,EW,simprocAttr]
   exact hi1 _
  ·simp only [Fy,hb,hw,xj,bkB,Bool.false_eq_true,EW,simprocAttr]
   exact hi1 _
def agr {t:Tree} {dep:Int->Nat} (h:bN t dep 0):∀(f:Nat) (ino:Int) (s:Int×AM Bool),(∀n,find t.nodes ino=some n->n.kind=2->13<f+dep ino)->0<f ->
  af aV 170 [.int .i64 ino,.ptr 0 0,.ptr 1 0,.ptr 2 0,.ptr 3 0] (dP t s)=some (.tuple [],dP t (jF t.nodes f ino s)):=by
 intro f
 induction f with
 |zero=>intro ino s _ h0; omega
 |succ f ih =>
  intro ino s hd _
  have q1:=xD t ino h.sz.zX h.gx
  have hl:=QU (t:=t) (n:=aJ t.nodes ino) (f:=f) (k:=[.block 0]) (R:=fun s=>some (.tuple [],dP t s)) (by
    cases hi:find t.nodes ino with
    |none=>simp [aJ,hi,Node.zero]
    |some n=>have:=(h.qm _ _ hi).2; simp only [aJ,hi,Option.getD_some]; omega) ?_ (fun s e=>by simp only [dP,nV,Fy,az,xj,bkB,EW,simprocAttr]) (aJ t.nodes ino).au [] (gG (s.1+(aJ t.nodes ino).data.length),s.2) rfl
  ·refine aq rfl rfl rfl ?_
   rw [jF]
   simp only [dP,nV,az,List.cons_append,List.nil_append,List.length_nil] at hl q1
   simp only [KI,Fy,dP,nV,aw,az,q1,EW,simprocAttr]
   exact hl
  ·intro e he s
   cases hi:find t.nodes ino with
   |none=>simp [aJ,hi,Node.zero] at he
   |some n =>
    simp only [aJ,hi,Option.getD_some] at he
    have hk:n.kind=2:=by
     rcases h.kind _ _ hi with h1|h1
     ·rw [(h.file _ _ hi h1).1] at he; cases he
     ·exact h1
    have h1:=hd n hi hk
    have h2:=(h.deep _ _ hi hk).1
    obtain ⟨_,_,e1,_,m,hm,hu⟩:=h.vZ _ _ _ hi he
    refine ih e.ino s (fun n' hn' hk'=>?_) (by omega)
    rw [hm] at hn'; injection hn' with hn'; subst hn'
    have:=(h.oX _ _ hm hk' e1).1
    rw [hu hk'] at this
    omega
def jX (nodes:List Node) (ino:Int):Int×Int :=
 if ((find nodes ino).isSome&&(aJ nodes ino).kind==2)=true then (((jF nodes 14 ino (0,[])).2.length:Int),(jF nodes 14 ino (0,[])).1) else (0,0)
def c119 {t:Tree} (h:Rt t) (ino:Int):af aV 119 [bI t,.int .i64 ino] []=some (.tuple [.int .i64 (jX t.nodes ino).1,.int .i64 (jX t.nodes ino).2],[]):=by
 obtain ⟨dep,h⟩:=h
 refine aq rfl rfl rfl ?_
 have q1:=xD t ino h.sz.zX h.gx
 have q2:=agr h 14 ino (0,[]) (fun n hn hk=>by omega) (by omega)
 unfold jX
 generalize jF t.nodes 14 ino (0,[])=s' at q2 ⊢
 simp only [az] at q1
 simp only [Ka,HM,bI,aw,q1,az,EW,simprocAttr]
 refine bj (fun hb=>?_) (fun hb=>?_)
 ·simp only [hb,HM,EW,simprocAttr]
  refine aH (fun hc=>?_) (fun hc=>?_)
  ·have q3:=UB (aJ t.nodes ino) q2
   simp only [qR,az,uM,jD,List.map_nil] at q3
   simp only [hb,hc,q3,HM,mapOf.eq_1,EW,simprocAttr]
  ·simp only [hb,hc,HM,mapOf.eq_1,Bool.and_false,Bool.false_eq_true,EW,simprocAttr]
 ·simp only [hb,HM,mapOf.eq_1,Bool.not_true,Bool.false_and,Bool.false_eq_true,EW,simprocAttr]
def Vz {t:Tree} (h:Rt t) (ino:Int) (M:ai):an (af aV) 119 [.agg [aF t.nodes,.int .i64 t.next,.int .i64 t.ag],.int .i64 ino] M=some (.tuple [.int .i64 (jX t.nodes ino).1,.int .i64 (jX t.nodes ino).2],M) :=
 cO (c119 h ino) M
end
section
def Ya (l:List bE) (o:Int) (b:aQ):dN [.cells [bL l],.cells [.int .i64 o],b] (dh [0,1]) [0,1]=some [.cells [bL l],.cells [.int .i64 o]]:=rfl
def Yb (l:List bE) (o:Int) (b:aQ):dN [b,.cells [bL l],.cells [.int .i64 o]] (dh [1,2]) [1,2]=some [.cells [bL l],.cells [.int .i64 o]]:=rfl
attribute [local irreducible] cT cR gz gK bR kr af an aZ aK
abbrev ml (l:List bE):Prop:=l.Pairwise fun a b=>a.ino<b.ino
def tV (l:List bE) (ino:Int):Nat:=iW (fun x=>decide (eF x.ino ino<0)) l
def Dj (l:List bE) (ino:Int):Bool:=gb (fun x=>eF x.ino ino==0) l (tV l ino)
def tW {l:List bE} (h:ml l) (ino:Int):vD (fun x=>decide (eF x.ino ino<0)) l (tV l ino):=by
 refine wG (h.imp ?_)
 intro a b hab hb
 simp only [decide_eq_true_eq,ll] at hb ⊢
 omega
def age (l:List bE) (ino:Int) (h:ml l) (hn:l.length<=100000):af aV 151 [bL l,.int .i64 ino] []=some (.tuple [.int .i64 (tV l ino),.bool (Dj l ino)],[]):=by
 refine aq rfl rfl rfl ?_
 have q:=fun M=>cO (agE l ino _ (tW h ino) hn) M
 simp only [Kx,aeK,q,Dj,EW,simprocAttr]
def abE (l:List bE) (ino:Int) (h:ml l) (hn:l.length<=100000) (M:ai):an (af aV) 151 [bL l,.int .i64 ino] M=some (.tuple [.int .i64 (tV l ino),.bool (Dj l ino)],M):=cO (age l ino h hn) M
def agJ (l:List bE) (dir o:Int) (h:ml l) (hn:l.length<=100000):af aV 207 [.int .i64 dir,.ptr 0 0,.ptr 1 0] [.cells [bL l],.cells [.int .i64 o]] =
  some (.bool ((if Dj l dir=true then dir else o)==0),[.cells [bL l],.cells [.int .i64 (if Dj l dir=true then dir else o)]]):=by
 refine aq rfl rfl rfl ?_
 have q:=abE l dir h hn
 simp only [KZ,T7,q,EW,simprocAttr]
 refine aH (fun hb=>?_) (fun hb=>?_)
 ·simp only [T7,hb,if_true,EW,simprocAttr]
 ·simp only [T7,hb,Bool.false_eq_true,if_false,EW,simprocAttr]
def xY (nodes:List Node) (l:List bE):Nat->Int->Int
 |0,_=>0
 |f+1,dir=>if Dj l dir=true then dir else if (dir != 1)=true then xY nodes l f (aJ nodes dir).up else 0
def Q0 {t:Tree} {dep:Int->Nat} (ht:bN t dep 0) {l:List bE} (hq:ml l) (hn:l.length<=100000) {k:List K} {R:Int->Option (ae×ai)}
  (hx:∀o e,kr (af aV) [] 2 k ⟨.exit 0,e,[.cells [bL l],.cells [.int .i64 o],.cells (aw t)]⟩=R o) :
  ∀(f:Nat) (dir:Int) (n:Node),find t.nodes dir=some n->n.kind=2->dep dir<f->cT (af aV) [] 2 k (.loop [1,2,3] QC) [(1,.int .i64 dir),(2,.func 207 [.ptr 0 0,.ptr 1 0]),(3,.ptr 2 0)] [.cells [bL l],.cells [.int .i64 0],.cells (aw t)] =
   R (xY t.nodes l f dir):=by
 intro f
 induction f with
 |zero=>intro dir n _ _ h; omega
 |succ f ih =>
  intro dir n hi hk hd
  rw [aE,xY]
  have q0:an (af aV) 207 [.int .i64 dir,.ptr 0 0,.ptr 1 0] [.cells [bL l],.cells [.int .i64 0],.cells (aw t)] =
    some (.bool ((if Dj l dir=true then dir else 0)==0),[.cells [bL l],.cells [.int .i64 (if Dj l dir=true then dir else 0)],.cells (aw t)]) :=
   eL (ids:=[0,1]) rfl rfl (Ya l 0 _) rfl rfl (agJ l dir 0 hq hn) rfl rfl rfl rfl rfl
  have q1:=xD t dir ht.sz.zX ht.gx
  have hd1:=(ht.num _ _ hi).1
  simp only [az,aw] at q0 q1 hx
  simp only [FA,q0,aw,EW,simprocAttr]
  cases hb:Dj l dir
  ·simp only [hb,Bool.false_eq_true,if_false]
   by_cases h1:dir=1
   ·subst h1
    simp only [FA,bne_self_eq_false,Bool.false_eq_true,if_false,EW,simprocAttr]
    exact hx _ _
   ·have h1':(dir != 1)=true:=by simpa using h1
    obtain ⟨g1,p,g2,g3⟩:=ht.oX _ _ hi hk h1
    have hi':=ih n.up p g2 g3 (by omega)
    simp only [aw] at hi'
    simp only [aJ,hi,Option.getD_some] at q1 ⊢
    simp only [FA,h1',q1,az,EW,simprocAttr]
    exact hi'
  ·simp only [hb,if_true]
   have h0:(dir==0)=false:=by simp; omega
   simp only [h0,FA,EW,simprocAttr]
   exact hx _ _
def agI {t:Tree} {dep:Int->Nat} (ht:bN t dep 0) {l:List bE} (hq:ml l) (hn:l.length<=100000) {dir:Int} {n:Node} (hi:find t.nodes dir=some n) (hk:n.kind=2) :
  af aV 206 [bI t,.int .i64 dir,.func 207 [.ptr 0 0,.ptr 1 0]] [.cells [bL l],.cells [.int .i64 0]]=some (.tuple [],[.cells [bL l],.cells [.int .i64 (xY t.nodes l 13 dir)]]):=by
 refine aq rfl rfl rfl ?_
 have hl:=Q0 ht hq hn (k:=[.block 0]) (R:=fun o=>some (.tuple [],[.cells [bL l],.cells [.int .i64 o]])) (fun o e=>by simp only [FA,aw,EW,simprocAttr]) 13 dir n hi hk (by have:=(ht.deep _ _ hi hk).1; omega)
 simp only [aw] at hl
 simp only [KY,FA,bI,aw,EW,simprocAttr]
 exact hl
def r8 (nodes:List Node) (l:List bE) (dir:Int):Int:=xY nodes l 13 dir
def agq {t:Tree} {dep:Int->Nat} (ht:bN t dep 0) {l:List bE} (hq:ml l) (hn:l.length<=100000) {dir:Int} {n:Node} (hi:find t.nodes dir=some n) (hk:n.kind=2) :
  af aV 169 [bI t,bL l,.int .i64 dir] []=some (.int .i64 (r8 t.nodes l dir),[]):=by
 refine aq rfl rfl rfl ?_
 have q:an (af aV) 206 [.agg (aw t),.int .i64 dir,.func 207 [.ptr 1 0,.ptr 2 0]] [.cells (aw t),.cells [bL l],.cells [.int .i64 0]] =
   some (.tuple [],[.cells (aw t),.cells [bL l],.cells [.int .i64 (xY t.nodes l 13 dir)]]) :=
  eL (ids:=[1,2]) rfl rfl (Yb l 0 _) rfl rfl (agI ht hq hn hi hk) rfl rfl rfl rfl rfl
 simp only [aw] at q
 simp only [KH,aeP,bI,aw,q,r8,EW,simprocAttr]
def ahr {t:Tree} {dep:Int->Nat} (ht:bN t dep 0) {l:List bE} (hq:ml l) (hn:l.length<=100000) {dir:Int} {n:Node} (hi:find t.nodes dir=some n) (hk:n.kind=2) (M:ai) :
  an (af aV) 169 [.agg [aF t.nodes,.int .i64 t.next,.int .i64 t.ag],bL l,.int .i64 dir] M=some (.int .i64 (r8 t.nodes l dir),M):=cO (agq ht hq hn hi hk) M
def kZ (t:Tree) (l:List bE) (ino nodes bytes:Int):List bE×Int :=
 if (!(find t.nodes ino).isSome)=true then (l,70)
 else if ((aJ t.nodes ino).kind != 2)=true then (l,73)
 else if decide (nodes<0)=true then (if Dj l ino=true then l.eraseIdx (tV l ino) else l,0)
 else if (decide ((jX t.nodes ino).1>nodes)||decide ((jX t.nodes ino).2>bytes))=true then (l,90)
 else if Dj l ino=true then (l.set (tV l ino) ⟨ino,nodes,bytes⟩,0)
 else if decide ((l.length:Int)>=16)=true then (l,76)
 else (l.take (tV l ino)++⟨ino,nodes,bytes⟩::l.drop (tV l ino),0)
def c95 (t:Tree) (l:List bE) (ino nodes bytes:Int) (ht:Rt t) (hq:ml l) (hn:l.length<=16):af aV 95 [bI t,bL l,.int .i64 ino,.int .i64 nodes,.int .i64 bytes] []=some (.tuple [bL (kZ t l ino nodes bytes).1,.int .i64 (kZ t l ino nodes bytes).2],[]):=by
 refine aq rfl rfl rfl ?_
 have q1:=xD t ino ht.small ht.gx
 have q2:=abE l ino hq (by omega)
 have q3:=Vz ht ino
 have hb:=(tW hq ino).le
 have hlt:Dj l ino=true->tV l ino<l.length:=by
  intro h
  unfold Dj gb at h
  split at h
  ·rename_i x hx; exact (List.getElem?_eq_some_iff.1 hx).1
  ·cases h
 unfold kZ
 generalize jX t.nodes ino=u at q3 ⊢
 generalize tV l ino=b at q2 hb hlt ⊢
 generalize Dj l ino=e at q2 hlt ⊢
 simp only [az] at q1
 by_cases h0:l=[]
 ·have hb0:b=0:=by subst h0; simpa using hb
  have he:e=false:=by
   cases e
   ·rfl
   ·have:=hlt rfl; subst h0; simp at this
  subst he
  have p1:=fun M=>sd bT (f:=115) (sz:=3) (bytes:=24) rfl h0 M
  have p2:=fun M=>tE (f:=153) (sz:=3) (bytes:=24) rfl hb0 (.agg [.int .i64 ino,.int .i64 nodes,.int .i64 bytes]) rfl M
  simp only [K9,YO,bI,aw,q1,q2,q3,az,EW,simprocAttr]
  repeat' ((first|refine aH (fun hb=>?_) (fun hb=>?_)|refine bj (fun hb=>?_) (fun hb=>?_)|refine cj (fun hb=>?_) (fun hb=>?_))<;>simp only [hb,EW,YO,q1,q2,q3,p1,p2,az,simprocAttr])
  all_goals clear q1 q2 q3 p1 p2
  all_goals first|rfl|(simp_all only [jZ,↓reduceIte,reduceCtorEq,bne_self_eq_false]; done)|(simp_all only [jZ,↓reduceIte,reduceCtorEq,bne_self_eq_false]; rfl)
 ·have hb0:=hb
  have p1:=fun M=>pW bT (f:=115) (sz:=3) (bytes:=24) rfl (fun _=>rfl) (by omega) h0 (by omega) M
  have p2:=fun M=>wi bT (f:=153) (sz:=3) (bytes:=24) (v:=0) (id:=3) rfl (by omega) hb (by omega) (.agg [.int .i64 ino,.int .i64 nodes,.int .i64 bytes]) rfl M
  cases he:e
  ·subst he
   simp only [K9,YO,bI,aw,q1,q2,q3,az,EW,simprocAttr]
   repeat' ((first|refine aH (fun hb=>?_) (fun hb=>?_)|refine bj (fun hb=>?_) (fun hb=>?_)|refine cj (fun hb=>?_) (fun hb=>?_))<;>simp only [hb,EW,YO,q1,q2,q3,p1,p2,az,simprocAttr])
   all_goals clear q1 q2 q3 p1 p2
   all_goals first|rfl|(simp_all only [jZ,↓reduceIte,reduceCtorEq,bne_self_eq_false]; done)|(simp_all only [jZ,↓reduceIte,reduceCtorEq,bne_self_eq_false]; rfl)|(simp_all only [jZ,↓reduceIte,reduceCtorEq,bne_self_eq_false]; exact congrArg (fun z=>some (ae.tuple [ae.slice .sh z,ae.int .i64 0],([]:ai))) (zB bT hb0 ⟨ino,nodes,bytes⟩))
  ·subst he
   have p3:=fun M=>x9 bT (f:=152) (sz:=3) (v:=0) (id:=2) rfl (hlt rfl) (by omega) M
   have hbl:=hlt rfl
   have hx:=List.getElem?_eq_getElem hbl
   generalize l[b]=x at hx
   have h1:((b:Int)<((l.length-0:Nat):Int))=True:=by simp; omega
   have hs:dG (l.map bT) b (putCells (bT x) 0 [.int .i64 ino,.int .i64 nodes,.int .i64 bytes])=(l.set b ⟨ino,nodes,bytes⟩).map bT:=by
    rw [cF,List.map_set]; rfl
   have ht2:List.take l.length ((l.set b ⟨ino,nodes,bytes⟩).map bT)=(l.set b ⟨ino,nodes,bytes⟩).map bT:=List.take_of_length_le (by simp)
   have hw:IntKind.i64.wrap ((b:Int)+1)=((b+1:Nat):Int):=by have:=hlt rfl; rw [bw (by omega) (by omega)]; rfl
   simp only [K9,YO,bI,aw,q1,q2,q3,hw,az,EW,simprocAttr]
   repeat' ((first|refine aH (fun hb=>?_) (fun hb=>?_)|refine bj (fun hb=>?_) (fun hb=>?_)|refine cj (fun hb=>?_) (fun hb=>?_))<;>simp only [hb,EW,YO,q1,q2,q3,p1,p2,p3,hw,h1,hx,hs,ht2,az,simprocAttr])
   all_goals clear q1 q2 q3 p1 p2 p3
   all_goals first|rfl|(simp_all only [jZ,↓reduceIte,reduceCtorEq,bne_self_eq_false]; done)|(simp_all only [jZ,↓reduceIte,reduceCtorEq,bne_self_eq_false]; rfl)
end
section
attribute [local irreducible] cT cR gz gK bR kr af an aZ aK
def nJ {α:Type} (key:α->Int) (l:List α) (k:Int):Nat:=iW (fun x=>decide (eF (key x) k<0)) l
def Lp {α:Type} (key:α->Int) (l:List α) (k:Int):Bool:=gb (fun x=>eF (key x) k==0) l (nJ key l k)
def EU {α:Type} {key:α->Int} {l:List α} (h:l.Pairwise fun a b=>key a<key b) (k:Int):vD (fun x=>decide (eF (key x) k<0)) l (nJ key l k):=by
 refine wG (h.imp ?_)
 intro a b hab hb
 simp only [decide_eq_true_eq,ll] at hb ⊢
 omega
def Js {α:Type} {key:α->Int} {l:List α} (h:l.Pairwise fun a b=>key a<key b) (k:Int) :
  (Lp key l k=true/\∃n,l[nJ key l k]?=some n/\key n=k/\l.find? (fun x=>key x==k)=some n)\/(Lp key l k=false/\l.find? (fun x=>key x==k)=none):=by
 obtain ⟨l1,l2⟩:=EU h k
 simp only [decide_eq_true_eq,ll] at l2
 cases hf:l.find? (fun x=>key x==k) with
 |some n =>
  left
  have hm:=List.mem_of_find?_eq_some hf
  have he:key n=k:=by simpa using List.find?_some hf
  obtain ⟨i,hi⟩:=List.getElem?_of_mem hm
  have hib:¬i<nJ key l k:=fun hc=>by have:=(l2 i n hi).2 hc; omega
  have hb:nJ key l k<l.length:=by have:=(List.getElem?_eq_some_iff.1 hi).1; omega
  have hx:=List.getElem?_eq_getElem hb
  have hnl:¬key l[nJ key l k]<k:=fun hc=>Nat.lt_irrefl _ ((l2 _ _ hx).1 hc)
  have hie:i=nJ key l k:=by
   rcases Nat.lt_or_ge (nJ key l k) i with hlt|hge
   ·have hil:=(List.getElem?_eq_some_iff.1 hi).1
    have h3:=List.pairwise_iff_getElem.1 h _ _ hb hil hlt
    have h4:l[i]=n:=by rw [List.getElem?_eq_getElem hil] at hi; injection hi
    rw [h4,he] at h3
    exact absurd h3 hnl
   ·omega
  subst hie
  exact ⟨by unfold Lp gb; rw [hi]; simp [he,rU],n,hi,he,rfl⟩
 |none =>
  right
  refine ⟨?_,rfl⟩
  unfold Lp gb
  split
  ·rename_i n hn
   have:=List.find?_eq_none.1 hf n (List.mem_of_getElem? hn)
   show (eF (key n) k==0)=false
   rw [rU]
   simpa using this
  ·rfl
def aga (x y:Node) (hx:x.au.length<=100000):af aV 147 [bm x,bm y] []=some (.bool (decide (x=y)),[]):=by
 have hd:decide (x=y)=(x.ino==y.ino&&(x.kind==y.kind&&(x.bS==y.bS&&(x.up==y.up&&(x.data==y.data&&decide (x.au=y.au)))))):=by
  obtain ⟨a,b,c,d,e,f⟩:=x
  obtain ⟨a',b',c',d',e',f'⟩:=y
  simp only [Node.mk.injEq]
  by_cases h1:a=a'<;>by_cases h2:b=b'<;>by_cases h3:c=c'<;>by_cases h4:d=d'<;>by_cases h5:e=e'<;>by_cases h6:f=f'<;>simp [h1,h2,h3,h4,h5,h6]
 refine aq rfl rfl rfl ?_
 have q:=fun M=>cO (c53 x.au y.au hx) M
 rw [hd]
 simp only [Kt,Za,bm,az,q,rR,EW,simprocAttr]
 repeat' ((first|refine aH (fun hb=>?_) (fun hb=>?_)|refine bj (fun hb=>?_) (fun hb=>?_)|refine cj (fun hb=>?_) (fun hb=>?_))<;>simp only [hb,EW,Za,q,rR,simprocAttr])
 all_goals (simp only [jZ,↓reduceIte,reduceCtorEq,bne_self_eq_false]; done)
def abB (x y:Node) (hx:x.au.length<=100000) (M:ai):an (af aV) 147 [.agg (az x),.agg (az y)] M=some (.bool (decide (x=y)),M):=cO (aga x y hx) M
def Ps (nodes:List Node) (ino:Int):Int:=if Lp Node.ino nodes ino=true then (nJ Node.ino nodes ino:Int) else -1
def af9 (nodes:List Node) (ino:Int) (h:hU nodes) (hn:nodes.length<=100000):af aV 146 [aF nodes,.int .i64 ino] []=some (.int .i64 (Ps nodes ino),[]):=by
 refine aq rfl rfl rfl ?_
 have q:∀M,an (af aV) 185 [aF nodes,.int .i64 ino,.func 186 []] M=some (.tuple [.int .i64 (nJ Node.ino nodes ino),.bool (Lp Node.ino nodes ino)],M):=fun M=>cO (aaC nodes ino _ (EU h ino) hn) M
 simp only [Ks,T3,q,Ps,EW,simprocAttr]
 refine aH (fun hb=>?_) (fun hb=>?_)
 ·have hb':Lp Node.ino nodes ino=false:=by simpa using hb
  simp only [T3,hb',Bool.false_eq_true,if_false,EW,simprocAttr]
 ·have hb':Lp Node.ino nodes ino=true:=by simpa using hb
  simp only [T3,hb',if_true,EW,simprocAttr]
def abA (nodes:List Node) (ino:Int) (h:hU nodes) (hn:nodes.length<=100000) (M:ai):an (af aV) 146 [aF nodes,.int .i64 ino] M=some (.int .i64 (Ps nodes ino),M):=cO (af9 nodes ino h hn) M
def xa (l:List fq) (a b:Int):Bool:=l.any (pC a b)
def agb (l:List fq) (a b:Int) (hn:l.length<=100000):af aV 148 [ei l,.int .i64 a,.int .i64 b] []=some (.bool (xa l a b),[]):=by
 refine aq rfl rfl rfl ?_
 have q:an (af aV) 187 [ei l,.func 188 [.ptr 0 0,.ptr 1 0]] [.cells [.int .i64 a],.cells [.int .i64 b]]=some (.bool (xa l a b),[.cells [.int .i64 a],.cells [.int .i64 b]]) :=
  eL (ids:=[0,1]) rfl rfl (DS a b) rfl rfl (aaD l a b hn) rfl rfl rfl rfl rfl
 simp only [Ku,aeJ,q,EW,simprocAttr]
def abC (l:List fq) (a b:Int) (hn:l.length<=100000) (M:ai):an (af aV) 148 [ei l,.int .i64 a,.int .i64 b] M=some (.bool (xa l a b),M):=cO (agb l a b hn) M
def k33 (a b:Tree) (ha:Small a) (M:ai):an (af aV) 33 [.agg [aF a.nodes,.int .i64 a.next,.int .i64 a.ag],.agg [aF b.nodes,.int .i64 b.next,.int .i64 b.ag]] M=some (.bool (decide (a=b)),M):=cO (c33 a b ha) M
def kf (t:Tree) (taken:List fq) (tick:Int):List Node->List Int->List il
 |n::r,x::y=>(if ((decide (Ps t.nodes n.ino<0) || !decide (n=aJ t.nodes n.ino))&&xa taken x tick)=true then [⟨x,tick,n⟩] else [])++kf t taken tick r y
 |_,_=>[]
def xc (s:eK) (tick:Int) (n:Node):Int :=
 if (decide (0<=Ps s.now.nodes n.ino)&&decide (n=aJ s.now.nodes n.ino))=true then s.since.getD (nJ Node.ino s.now.nodes n.ino) 0 else tick
def oU (s:eK) (t:Tree):eK:=if decide (s.now=t)=true then s else
 ⟨t,gG (s.tick+1),t.nodes.map (xc s (gG (s.tick+1))),s.cP++kf t s.taken (gG (s.tick+1)) s.now.nodes s.since,s.taken,s.next⟩
def Ek {nodes:List Node} (h:hU nodes) (ino:Int) :
  (Lp Node.ino nodes ino=true/\Ps nodes ino=(nJ Node.ino nodes ino:Int)/\nodes[nJ Node.ino nodes ino]?=some (aJ nodes ino)/\find nodes ino=some (aJ nodes ino))\/(Lp Node.ino nodes ino=false/\Ps nodes ino = -1/\find nodes ino=none):=by
 rcases Js (key:=Node.ino) h ino with ⟨h1,n,h2,_,h4⟩|⟨h1,h2⟩
 ·left
  have h4':find nodes ino=some n:=h4
  have h5:aJ nodes ino=n:=by simp [aJ,h4']
  exact ⟨h1,by simp [Ps,h1],by rw [h5]; exact h2,by rw [h5]; exact h4'⟩
 ·right
  exact ⟨h1,by simp [Ps,h1],h2⟩
def qo (s:eK) (t:Tree) (P:List il) (S:List Int):ai :=
 [.cells (bo s),.cells (aw t),.cells [.slice .c0 [],.int .i64 0,.int .i64 0,.int .i64 0,.slice .c0 [],.slice .c0 [],.slice .c0 [],.int .i64 0],.tick 8 P.length,
  .cells [aF t.nodes,.int .i64 t.next,.int .i64 t.ag,.int .i64 (gG (s.tick+1)),.slice (.own 5) (S.map pg),.slice (.own 3) (P.map jl),ei s.taken,.int .i64 s.next],.tick 1 S.length]
def Q5 {s:eK} {t:Tree} (hs:jS s.now) (hz:Sz 200 s.now) (ht:jS t) (hzt:Sz 200 t) (hk:s.taken.length<=100000) (hl:s.since.length=s.now.nodes.length) {k:List K} {R:List il->Option (ae×ai)}
  (hx:∀P e,kr (af aV) [.eW 4 8] 0 k ⟨.exit 0,(2,.ptr 0 0)::(3,.ptr 1 0)::(4,.ptr 2 0)::(5,.ptr 4 0)::e,qo s t P []⟩=R P) :
  ∀(l pre:List Node) (y ypre:List Int) (P:List il),s.now.nodes=pre++l->s.since=ypre++y->ypre.length=pre.length->P.length<=100000+pre.length ->
   cT (af aV) [.eW 4 8] 0 k (.loop [2,3,4,5,32,33,34] Xm) [(2,.ptr 0 0),(3,.ptr 1 0),(4,.ptr 2 0),(5,.ptr 4 0),(32,aF s.now.nodes),(33,.int .i64 s.now.nodes.length),(34,.int .i64 pre.length)] (qo s t P []) =
   R (P++kf t s.taken (gG (s.tick+1)) l y):=by
 intro l
 induction l with
 |nil =>
  intro pre y ypre P h hy hyl hP
  rw [aE]
  have hy0:y=[]:=by have:=congrArg List.length h; have h2:=congrArg List.length hy; simp at this h2; exact List.length_eq_zero_iff.1 (by omega)
  subst hy0
  simp only [qo,Pg,bZ h,kf,List.append_nil,EW,simprocAttr] at hx ⊢
  exact hx _ _
 |cons n rest ih =>
  intro pre y ypre P h hy hyl hP
  rw [aE]
  have hn200:=hz.nodes
  have hlen:pre.length+1<=200:=by rw [h] at hn200; simp at hn200; omega
  have hw:IntKind.i64.wrap ((pre.length:Int)+1)=((pre++[n]).length:Int):=by rw [bw (by omega) (by omega)]; exact bp
  cases y with
  |nil=>have h1:=congrArg List.length h; have h2:=congrArg List.length hy; simp at h1 h2; omega
  |cons x y =>
   have hxa:s.since[pre.length]?=some x:=by rw [hy,<-hyl]; simp
   have hi1:=ih (pre++[n]) y (ypre++[x]) P (by rw [h]; simp) (by rw [hy]; simp) (by simp [hyl]) (by simp; omega)
   have hi2:=ih (pre++[n]) y (ypre++[x]) (P++[⟨x,gG (s.tick+1),n⟩]) (by rw [h]; simp) (by rw [hy]; simp) (by simp [hyl]) (by simp; omega)
   have q1:=abA t.nodes n.ino ht.fh (by have:=hzt.nodes; omega)
   have q2:=abB n (aJ t.nodes n.ino) (by have:=hz.au n (by rw [h]; simp); omega)
   have q3:=abC s.taken x (gG (s.tick+1)) hk
   have r1:bP (P.length+1) 96=True:=dv (by omega) (by omega)
   rw [kf]
   simp only [qo,az,aw,bo,List.length_append,List.length_cons,List.length_nil,Nat.zero_add,List.map_append,List.map_cons,List.map_nil] at hi1 hi2 q1 q2 q3
   rcases Ek ht.fh n.ino with ⟨_,a2,a3,a4⟩|⟨_,a2,a4⟩
   ·have ha0:((nJ Node.ino t.nodes n.ino:Int)<0)=False:=by simp
    generalize decide (n=aJ t.nodes n.ino)=e1 at q2 ⊢
    generalize xa s.taken x (gG (s.tick+1))=e2 at q3 ⊢
    cases e1<;>cases e2<;>simp only [qo,Pg,aY h,aW h,az,aw,bo,q1,q2,q3,a2,a3,ha0,hxa,hw,r1,EW,simprocAttr]
    ·simpa using hi1
    ·simpa [jl,gm,az] using hi2
    ·simpa using hi1
    ·simpa using hi1
   ·have ha0:((-1:Int)<0)=True:=by simp
    generalize decide (n=aJ t.nodes n.ino)=e1 at q2 ⊢
    generalize xa s.taken x (gG (s.tick+1))=e2 at q3 ⊢
    cases e2<;>simp only [qo,Pg,aY h,aW h,az,aw,bo,q1,q2,q3,a2,ha0,hxa,hw,r1,EW,simprocAttr]
    ·simpa using hi1
    ·simpa [jl,gm,az] using hi2
def Q6 {s:eK} {t:Tree} (hs:jS s.now) (hz:Sz 200 s.now) (hzt:Sz 200 t) (hl:s.since.length=s.now.nodes.length) (P:List il) {k:List K} {R:List Int->Option (ae×ai)}
  (hx:∀S e,kr (af aV) [.eW 4 8] 0 k ⟨.exit 2,(2,.ptr 0 0)::(4,.ptr 2 0)::(5,.ptr 4 0)::e,qo s t P S⟩=R S) :
  ∀(l pre:List Node) (S:List Int),t.nodes=pre++l->S.length<=100000+pre.length ->
   cT (af aV) [.eW 4 8] 0 k (.loop [2,4,5,84,85,86] Xn) [(2,.ptr 0 0),(4,.ptr 2 0),(5,.ptr 4 0),(84,aF t.nodes),(85,.int .i64 t.nodes.length),(86,.int .i64 pre.length)] (qo s t P S) =
   R (S++l.map (xc s (gG (s.tick+1)))):=by
 intro l
 induction l with
 |nil =>
  intro pre S h hS
  rw [aE]
  simp only [qo,Pg,bZ h,List.map_nil,List.append_nil,EW,simprocAttr] at hx ⊢
  exact hx _ _
 |cons n rest ih =>
  intro pre S h hS
  rw [aE]
  have hn200:=hzt.nodes
  have hlen:pre.length+1<=200:=by rw [h] at hn200; simp at hn200; omega
  have hw:IntKind.i64.wrap ((pre.length:Int)+1)=((pre++[n]).length:Int):=by rw [bw (by omega) (by omega)]; exact bp
  have hi1:=ih (pre++[n]) (S++[xc s (gG (s.tick+1)) n]) (by rw [h]; simp) (by simp; omega)
  have q1:=abA s.now.nodes n.ino hs.fh (by have:=hz.nodes; omega)
  have q2:=abB n (aJ s.now.nodes n.ino) (by have:=hzt.au n (by rw [h]; simp); omega)
  have r1:bP (S.length+1) 8=True:=dv (by omega) (by omega)
  rw [List.map_cons]
  unfold xc at hi1 ⊢
  simp only [qo,az,aw,bo,List.length_append,List.length_cons,List.length_nil,Nat.zero_add,List.map_append,List.map_cons,List.map_nil] at hi1 q1 q2
  rcases Ek hs.fh n.ino with ⟨_,a2,a3,a4⟩|⟨_,a2,a4⟩
  ·have ha0:(0<=(nJ Node.ino s.now.nodes n.ino:Int))=True:=by simp
   have hlt:nJ Node.ino s.now.nodes n.ino<s.since.length:=by rw [hl]; exact (List.getElem?_eq_some_iff.1 a3).1
   have hxa:=List.getElem?_eq_getElem hlt
   have hxd:s.since.getD (nJ Node.ino s.now.nodes n.ino) 0=s.since[nJ Node.ino s.now.nodes n.ino]:=by simp [List.getD,hxa]
   rw [hxd] at hi1 ⊢
   generalize s.since[nJ Node.ino s.now.nodes n.ino]=x at hxa hi1 ⊢
   generalize decide (n=aJ s.now.nodes n.ino)=e1 at q2 hi1 ⊢
   rw [a2] at hi1 ⊢
   cases e1<;>simp only [qo,Pg,aY h,aW h,az,aw,bo,q1,q2,a2,a3,ha0,hxa,hw,r1,sR,EW,simprocAttr]
   ·simpa using hi1
   ·simpa using hi1
  ·have ha0:(0<=(-1:Int))=False:=by simp
   rw [a2] at hi1 ⊢
   simp only [qo,Pg,aY h,aW h,az,aw,bo,q1,q2,a2,ha0,hw,r1,sR,EW,simprocAttr]
   simpa using hi1
def Ld {α:Type} (enc:α->ae) {f sz bytes:Nat} (hp:aV.iX f=some (km sz bytes)) (hw:∀a,(enc a).cells.length=sz) (hb:bytes<=1000) {l:List α} (hn:l.length<=100000) (M:ai) :
  af aV f [.slice .sh (l.map enc)] M=some (.slice (.own M.length) (l.map enc),M++[.tick sz l.length]):=by
 refine bM (g:=km sz bytes) hp ?_
 have hw':wid (l.map enc) sz:=by have:=lA enc sz hw l; simpa using this
 have hr:bP (l.map enc).length bytes:=by have:=dv (a:=l.length) (b:=bytes) (by omega) (by omega); simpa using this
 unfold km
 simp only []
 rw [a8 ⟨hw',hr⟩]
 rw [List.length_map]
def wZ {α:Type} (enc:α->ae) {f sz bytes:Nat} (hp:aV.iX f=some (km sz bytes)) (hw:∀a,(enc a).cells.length=sz) (hb:bytes<=1000) {l:List α} (hn:l.length<=100000) (M:ai) :
  uf (af aV) f [.slice .sh (l.map enc)] M=some (.slice (.own M.length) (l.map enc),M++[.tick sz l.length]):=by
 unfold uf
 rw [if_pos ⟨rfl,rfl⟩,Ld enc hp hw hb hn,aL]
 rfl
def c91 (s:eK) (t:Tree) (hs:jS s.now) (hz:Sz 200 s.now) (ht:jS t) (hzt:Sz 200 t) (hk:s.taken.length<=100000) (hl:s.since.length=s.now.nodes.length) (hp:s.cP.length<=100000) :
  af aV 91 [jg s,bI t] []=some (jg (oU s t),[]):=by
 refine aq rfl rfl rfl ?_
 have q1:=k33 s.now t (hz.small (by omega))
 have p1:=fun M=>wZ jl (f:=145) (sz:=8) (bytes:=96) rfl (fun _=>rfl) (by omega) hp M
 have l2:=fun P=>Q6 hs hz hzt hl P (k:=[.block 2,.seq Yn]) (R:=fun S=>some (.agg [aF t.nodes,.int .i64 t.next,.int .i64 t.ag,.int .i64 (gG (s.tick+1)),kE S,jf P,ei s.taken,.int .i64 s.next],[]))
  (fun S e=>by simp only [qo,bo,aw,Pg,EW,simprocAttr]) t.nodes [] [] rfl (by simp)
 have l1:=Q5 hs hz ht hzt hk hl (k:=[.block 0,.seq Yo]) (R:=fun P=>some (.agg [aF t.nodes,.int .i64 t.next,.int .i64 t.ag,.int .i64 (gG (s.tick+1)),kE (t.nodes.map (xc s (gG (s.tick+1)))),jf P,ei s.taken,.int .i64 s.next],[]))
  (fun P e=>by
   have:=l2 P
   simp only [qo,bo,aw,List.length_nil,List.nil_append] at this
   simp only [qo,bo,aw,Pg,EW,simprocAttr]
   exact this) s.now.nodes [] s.since [] s.cP rfl rfl rfl (by simpa using hp)
 unfold oU
 generalize decide (s.now=t)=e1 at q1 ⊢
 simp only [qo,bo,aw,List.length_nil] at l1
 cases e1<;>simp only [Vu,Pg,jg,bo,bI,aw,q1,p1,or_false,EW,simprocAttr]
 exact l1
end
section
def rS {C:cu} {f g p:Nat} {xs:List ae} {r:ae} {M:ai} {c:ae} (hM:nth M p=some (.cells [c])) (h:C f [.slice .sh xs,.func g [.ptr 0 0]] [.cells [c]]=some (r,[.cells [c]])) (h3:r.qz=true) (h5:r.vl (qk [p])=r)
  (h6:c.oN&&c.fV.isEmpty=true) (h8:∀ρ,c.lu ρ=c:=by intro ρ; rfl):an C f [.slice .sh xs,.func g [.ptr p 0]] M=some (r,M):=by
 simp only [Bool.and_eq_true,List.isEmpty_iff,decide_eq_true_eq] at h6
 obtain ⟨h6,h7⟩:=h6
 have hids:[ae.slice .sh xs,.func g [.ptr p 0]].flatMap ae.ids=[p]:=rfl
 have hi:jm M [p]=[]:=by simp [jm,hM,aQ.ids,h7]
 have e0:fa M [p]=[p]:=by simp [fa,hi,eE]
 have e1:reach M [p]=[p]:=by
  have ea:eE [] [p]=[p]:=rfl
  simp only [reach,ea,e0]
 have hfl:[ae.slice .sh xs,.func g [.ptr p 0]].all ae.flat=true:=rfl
 unfold an
 rw [if_pos hfl,hids,e1]
 have hpk:dN M (dh [p]) [p]=some [.cells [c]]:=by simp [dN,hM,aQ.flat,h6,aQ.iY,h8]
 rw [hpk]
 simp only [aL]
 rw [if_pos e0]
 have hrn:[ae.slice .sh xs,.func g [.ptr p 0]].map (ae.iY (dh [p]))=[.slice .sh xs,.func g [.ptr 0 0]]:=by
  simp [ae.iY,ae.lu,ae.kO,dh]
 rw [hrn,h]
 simp only [aL]
 rw [if_pos ⟨by trivial,h3,by simp [aQ.flat,h6]⟩,h5]
 simp only [fy,aQ.iY,List.map_cons,List.map_nil,h8]
 rw [ij hM]
attribute [local irreducible] cT cR gz gK bR kr af an aZ aK
def nN (id:Int) (x:fq):Bool:=x.id != id
def sM (tk:List fq) (p:il):Bool:=xa tk p.oY p.z7
def Ls (n:fq):(dB n).all ae.cZ=true:=rfl
def N5 (n:fq):(dB n).all ae.plainCell=true:=rfl
def N3 (n:il):(gm n).all ae.plainCell=true:=rfl
def Lq (n:il):(gm n).all ae.cZ=true:=rfl
def takeN (s:eK) (ino:Int):eK×Int×Int :=
 if (!(find s.now.nodes ino).isSome)=true then (s,0,70)
 else if ((aJ s.now.nodes ino).kind != 2)=true then (s,0,73)
 else if (decide ((s.taken.length:Int)>=16)||decide (s.next>=1099511627776))=true then (s,0,76)
 else (⟨s.now,s.tick,s.since,s.cP,s.taken++[⟨s.next,ino,s.tick⟩],gG (s.next+1)⟩,s.next,0)
def c96 (s:eK) (ino:Int) (hz:Small s.now) (hs:jS s.now) (hk:s.taken.length<=16):af aV 96 [jg s,.int .i64 ino] []=some (.tuple [jg (takeN s ino).1,.int .i64 (takeN s ino).2.1,.int .i64 (takeN s ino).2.2],[]):=by
 refine aq rfl rfl rfl ?_
 have q1:=xD s.now ino hz hs
 have p1:=fun M=>wZ iK (f:=154) (sz:=3) (bytes:=24) rfl (fun _=>rfl) (by omega) (l:=s.taken) (by omega) M
 have r1:bP (s.taken.length+1) 24=True:=dv (by omega) (by omega)
 unfold takeN
 simp only [az] at q1
 simp only [Vv,E96,jg,bo,q1,az,EW,simprocAttr]
 repeat' ((first|refine aH (fun hb=>?_) (fun hb=>?_)|refine bj (fun hb=>?_) (fun hb=>?_)|refine cj (fun hb=>?_) (fun hb=>?_))<;>simp only [hb,EW,E96,q1,p1,r1,or_false,az,simprocAttr])
 all_goals clear q1 p1
 all_goals first|rfl|(simp_all only [jZ,↓reduceIte,reduceCtorEq,bne_self_eq_false]; done)|(simp_all only [jZ,↓reduceIte,reduceCtorEq,bne_self_eq_false,bo]; rfl)|(simp_all only [jZ,↓reduceIte,reduceCtorEq,bne_self_eq_false,bo,ei,List.map_append,List.map_cons,List.map_nil]; rfl)
def k96 (s:eK) (ino:Int) (hz:Small s.now) (hs:jS s.now) (hk:s.taken.length<=16) (M:ai):an (af aV) 96 [.agg (bo s),.int .i64 ino] M=some (.tuple [.agg (bo (takeN s ino).1),.int .i64 (takeN s ino).2.1,.int .i64 (takeN s ino).2.2],M) :=
 cO (c96 s ino hz hs hk) M
def agi (x:fq) (id:Int):af aV 158 [iK x,.ptr 0 0] [.cells [.int .i64 id]]=some (.bool (nN id x),[.cells [.int .i64 id]]):=by
 refine aq rfl rfl rfl ?_
 simp only [nN,KA,aeL,iK,dB,EW,simprocAttr]
def agk (p:il) (tk:List fq) (hk:tk.length<=100000):af aV 160 [jl p,.ptr 0 0] [.cells [ei tk]]=some (.bool (sM tk p),[.cells [ei tk]]):=by
 refine aq rfl rfl rfl ?_
 unfold sM
 have q:=abC tk p.oY p.z7 hk
 simp only [KC,aeM,jl,gm,az,q,EW,simprocAttr]
def QP {xs:List fq} {id:Int}  (hn:xs.length<=100000) {k:List K} {R:List fq->Option (ae×ai)}
  (hx:∀(out:List fq) e,kr (af aV) [.tmp 4] 1 k ⟨.exit 0,(1,.func 158 [.ptr 0 0])::(5,.slice (.own 1) (out.map iK))::e,[.cells [.int .i64 id],.tick 3 out.length]⟩=R out) :
  ∀(l pre out:List fq),xs=pre++l->out.length<=pre.length->cT (af aV) [.tmp 4] 1 k (.loop [1,5,8,9,10] Qu) [(1,.func 158 [.ptr 0 0]),(5,.slice (.own 1) (out.map iK)),(8,.slice .sh (xs.map iK)),(9,.int .i64 xs.length),(10,.int .i64 pre.length)] [.cells [.int .i64 id],.tick 3 out.length] =
   R (out++l.filter (nN id)):=by
 intro l
 induction l with
 |nil =>
  intro pre out h ho
  rw [aE]
  simp only [O5,bZ h,List.filter_nil,List.append_nil,EW,simprocAttr]
  exact hx _ _
 |cons n rest ih =>
  intro pre out h ho
  rw [aE]
  have hlen:pre.length+1<=100000:=by rw [h] at hn; simp at hn; omega
  have hw:IntKind.i64.wrap ((pre.length:Int)+1)=((pre++[n]).length:Int):=by rw [bw (by omega) (by omega)]; exact bp
  have hi1:=ih (pre++[n]) out (by rw [h]; simp) (by simp; omega)
  have hi2:=ih (pre++[n]) (out++[n]) (by rw [h]; simp) (by simp; omega)
  simp only [List.length_append,List.length_cons,List.length_nil,Nat.zero_add,List.map_append,List.map_cons,List.map_nil] at hi1 hi2
  have r1:bP (out.length+1) 24=True:=dv (by omega) (by omega)
  have q1:∀M,nth M 0=some (.cells [.int .i64 id])->an (af aV) 158 [.agg (dB n),.ptr 0 0] M=some (.bool ((nN id) n),M) :=
   fun M hM=>pQ (f:=158) (p:=0) (vs:=[.agg (dB n)]) hM (agi n id) rfl rfl rfl rfl rfl rfl rfl rfl rfl
  rw [List.filter_cons]
  generalize (nN id) n=e at q1 ⊢
  cases e<;>simp only [O5,aY h,aW h,q1,hw,r1,Ls,Lq,N5,N3,if_true,Bool.false_eq_true,if_false,EW,simprocAttr]
  ·exact hi1
  ·simpa [iK] using hi2
def agh (xs:List fq) (id:Int)  (hn:xs.length<=100000):af aV 157 [.slice .sh (xs.map iK),.func 158 [.ptr 0 0]] [.cells [.int .i64 id]]=some (.slice .sh ((xs.filter (nN id)).map iK),[.cells [.int .i64 id]]):=by
 refine aq rfl rfl rfl ?_
 simp only [Kz,O5,EW,simprocAttr]
 exact QP  hn (R:=fun out=>some (.slice .sh (out.map iK),[.cells [.int .i64 id]])) (fun out e=>by simp only [O5,EW,simprocAttr]) xs [] [] rfl (Nat.le_refl _)
def QQ {xs:List il} {tk:List fq} (hk:tk.length<=100000) (hn:xs.length<=100000) {k:List K} {R:List il->Option (ae×ai)}
  (hx:∀(out:List il) e,kr (af aV) [.tmp 4] 1 k ⟨.exit 0,(1,.func 160 [.ptr 0 0])::(5,.slice (.own 1) (out.map jl))::e,[.cells [ei tk],.tick 8 out.length]⟩=R out) :
  ∀(l pre out:List il),xs=pre++l->out.length<=pre.length->cT (af aV) [.tmp 4] 1 k (.loop [1,5,8,9,10] Qv) [(1,.func 160 [.ptr 0 0]),(5,.slice (.own 1) (out.map jl)),(8,.slice .sh (xs.map jl)),(9,.int .i64 xs.length),(10,.int .i64 pre.length)] [.cells [ei tk],.tick 8 out.length] =
   R (out++l.filter (sM tk)):=by
 intro l
 induction l with
 |nil =>
  intro pre out h ho
  rw [aE]
  simp only [O6,bZ h,List.filter_nil,List.append_nil,EW,simprocAttr]
  exact hx _ _
 |cons n rest ih =>
  intro pre out h ho
  rw [aE]
  have hlen:pre.length+1<=100000:=by rw [h] at hn; simp at hn; omega
  have hw:IntKind.i64.wrap ((pre.length:Int)+1)=((pre++[n]).length:Int):=by rw [bw (by omega) (by omega)]; exact bp
  have hi1:=ih (pre++[n]) out (by rw [h]; simp) (by simp; omega)
  have hi2:=ih (pre++[n]) (out++[n]) (by rw [h]; simp) (by simp; omega)
  simp only [List.length_append,List.length_cons,List.length_nil,Nat.zero_add,List.map_append,List.map_cons,List.map_nil] at hi1 hi2
  have r1:bP (out.length+1) 96=True:=dv (by omega) (by omega)
  have q1:∀M,nth M 0=some (.cells [ei tk])->an (af aV) 160 [.agg (gm n),.ptr 0 0] M=some (.bool ((sM tk) n),M) :=
   fun M hM=>pQ (f:=160) (p:=0) (vs:=[.agg (gm n)]) hM (agk n tk hk) rfl rfl rfl rfl rfl rfl rfl rfl rfl
  rw [List.filter_cons]
  generalize (sM tk) n=e at q1 ⊢
  cases e<;>simp only [O6,aY h,aW h,q1,hw,r1,Ls,Lq,N5,N3,if_true,Bool.false_eq_true,if_false,EW,simprocAttr]
  ·exact hi1
  ·simpa [jl] using hi2
def agj (xs:List il) (tk:List fq) (hk:tk.length<=100000) (hn:xs.length<=100000):af aV 159 [.slice .sh (xs.map jl),.func 160 [.ptr 0 0]] [.cells [ei tk]]=some (.slice .sh ((xs.filter (sM tk)).map jl),[.cells [ei tk]]):=by
 refine aq rfl rfl rfl ?_
 simp only [KB,O6,EW,simprocAttr]
 exact QQ hk hn (R:=fun out=>some (.slice .sh (out.map jl),[.cells [ei tk]])) (fun out e=>by simp only [O6,EW,simprocAttr]) xs [] [] rfl (Nat.le_refl _)
def qy (s:eK) (id:Int):eK×Int :=
 if (((s.taken.filter (nN id)).length:Int)==(s.taken.length:Int))=true then (s,100)
 else (⟨s.now,s.tick,s.since,s.cP.filter (sM (s.taken.filter (nN id))),s.taken.filter (nN id),s.next⟩,0)
def afz (s:eK) (id:Int) (hk:s.taken.length<=100000) (hp:s.cP.length<=100000):af aV 101 [jg s,.int .i64 id] []=some (.tuple [jg (qy s id).1,.int .i64 (qy s id).2],[]):=by
 refine aq rfl rfl rfl ?_
 have hf:(s.taken.filter (nN id)).length<=100000:=Nat.le_trans (List.length_filter_le _ _) hk
 have q1:∀M,nth M 1=some (.cells [.int .i64 id])->an (af aV) 157 [ei s.taken,.func 158 [.ptr 1 0]] M=some (ei (s.taken.filter (nN id)),M):=by
  intro M hM
  exact rS hM (agh s.taken id hk) rfl rfl rfl
 unfold qy
 generalize (s.taken.filter (nN id))=tk at q1 hf ⊢
 have q2:∀M,nth M 3=some (.cells [ei tk])->an (af aV) 159 [jf s.cP,.func 160 [.ptr 3 0]] M=some (jf (s.cP.filter (sM tk)),M):=by
  intro M hM
  exact rS hM (agj s.cP tk hf hp) rfl rfl rfl
 simp only [JW,Y4,jg,bo,q1,EW,simprocAttr]
 repeat' ((first|refine aH (fun hb=>?_) (fun hb=>?_)|refine bj (fun hb=>?_) (fun hb=>?_)|refine cj (fun hb=>?_) (fun hb=>?_))<;>simp only [hb,EW,Y4,q1,q2,simprocAttr])
 all_goals clear q1 q2
 all_goals first|rfl|(simp_all only [jZ,↓reduceIte,reduceCtorEq,bne_self_eq_false]; done)|(simp_all only [jZ,↓reduceIte,reduceCtorEq,bne_self_eq_false,bo]; rfl)
def aha (s:eK) (id:Int) (hk:s.taken.length<=100000) (hp:s.cP.length<=100000) (M:ai):an (af aV) 101 [.agg (bo s),.int .i64 id] M=some (.tuple [.agg (bo (qy s id).1),.int .i64 (qy s id).2],M) :=
 cO (afz s id hk hp) M
def c25 (t:Tree) (ht:t.nodes.length<=100000):af aV 25 [bI t] []=some (jg ⟨t,0,List.replicate t.nodes.length 0,[],[],1⟩,[]):=by
 refine aq rfl rfl rfl ?_
 have r1:bP t.nodes.length 8=True:=dv (by omega) (by omega)
 simp only [UX,E25,bI,aw,jg,bo,r1,ae.norm,kE,List.map_replicate,EW,simprocAttr]
 rfl
end
abbrev eU:Unit->ae:=fun _ => .agg []
def flN (l:AM Node):(jD bm l).all ae.flat=true:=Db _ (fun _=>rfl) l
def rnN (ρ:Nat->Nat) (l:AM Node):(jD bm l).map (ae.iY ρ)=jD bm l:=Oe _ _ (fun _=>rfl) l
def abi (l:AM Node):(jD bm l).flatMap ae.ids=[]:=Lg _ (fun _=>rfl) l
def PB (B:Nat) (M:ai) (l:AM Node):List.map (ae.eS B M) (jD bm l)=jD bm l:=PC _ _ _ (fun _=>rfl) l
def flU (l:AM Unit):(jD eU l).all ae.flat=true:=Db _ (fun _=>rfl) l
def rnU (ρ:Nat->Nat) (l:AM Unit):(jD eU l).map (ae.iY ρ)=jD eU l:=Oe _ _ (fun _=>rfl) l
def ag5 (l:AM Unit):(jD eU l).flatMap ae.ids=[]:=Lg _ (fun _=>rfl) l
def bkU (B:Nat) (M:ai) (l:AM Unit):List.map (ae.eS B M) (jD eU l)=jD eU l:=PC _ _ _ (fun _=>rfl) l
abbrev VS:=AM Unit×List Node
def dU (all:AM Node):Nat->Int->VS->Bool×VS
 |0,_,st=>(false,st)
 |f+1,ino,st =>
  if (cp st.1 ino).isSome=true then (true,st) else
  if (!(cp all ino).isSome)=true then (false,(iC st.1 ino (),st.2)) else
  ((cp all ino).getD Node.zero).au.foldl (fun w e=>((dU all f e.ino w.2).1&&w.1,(dU all f e.ino w.2).2)) (true,(iC st.1 ino (),st.2++[(cp all ino).getD Node.zero]))
def missing (all:AM Node) (met:AM Unit):Nat:=(all.filter fun p=>(cp met p.1).isNone).length
def kL (all:AM Node) (met:AM Unit) (ino:Int):missing all (iC met ino ())<=missing all met:=by
 unfold missing
 simp only [fY]
 induction all with
 |nil=>simp
 |cons p r ih =>
  simp only [List.filter_cons]
  by_cases h:p.1=ino
  ·simp only [h,if_true,Option.isNone_some,Bool.false_eq_true,if_false]
   split
   ·simp only [List.length_cons]; omega
   ·exact ih
  ·simp only [h,if_false]
   split
   ·simp only [List.length_cons]; omega
   ·exact ih
def wL {all:AM Node} {met:AM Unit} {ino:Int} {n:Node} (h:cp all ino=some n) (h0:cp met ino=none):missing all (iC met ino ())<missing all met:=by
 have hm:=wK _ _ _ h
 clear h
 unfold missing
 induction all with
 |nil=>cases hm
 |cons p r ih =>
  simp only [List.filter_cons,fY]
  by_cases hp:p.1=ino
  ·have h1:=kL r met ino
   unfold missing at h1
   simp only [fY] at h1
   simp only [hp,if_true,Option.isNone_some,Bool.false_eq_true,if_false,h0,Option.isNone_none]
   simp only [List.length_cons]
   omega
  ·rcases List.mem_cons.1 hm with h2|h2
   ·exact absurd (by rw [<-h2]) hp
   ·have:=ih h2
    simp only [fY] at this
    simp only [hp,if_false]
    split
    ·simp only [List.length_cons]; omega
    ·exact this
structure ni (all:AM Node) (st st':VS):Prop where
 len:st'.2.length+missing all st'.1<=st.2.length+missing all st.1
 XM:missing all st'.1<=missing all st.1
 met:∀j,(cp st.1 j).isSome=true->(cp st'.1 j).isSome=true
 nodup:(st.2.map Node.ino).Nodup->(∀n,n∈st.2->(cp st.1 n.ino).isSome=true)->(st'.2.map Node.ino).Nodup/\∀n,n∈st'.2->(cp st'.1 n.ino).isSome=true
def ni.refl (all:AM Node) (st:VS):ni all st st:=⟨Nat.le_refl _,Nat.le_refl _,fun _ h=>h,fun h1 h2=>⟨h1,h2⟩⟩
def ni.trans {all:AM Node} {a b c:VS} (h:ni all a b) (k:ni all b c):ni all a c :=
 ⟨Nat.le_trans k.len h.len,Nat.le_trans k.XM h.XM,fun j hj=>k.met j (h.met j hj),fun h1 h2=>let ⟨g1,g2⟩:=h.nodup h1 h2; k.nodup g1 g2⟩
def Own (all:AM Node):Prop:=∀k n,cp all k=some n->n.ino=k
def pH {all:AM Node} (ho:Own all):∀(f:Nat) (ino:Int) (st:VS),ni all st (dU all f ino st).2:=by
 intro f
 induction f with
 |zero=>intro ino st; exact ni.refl _ _
 |succ f ih =>
  intro ino st
  rw [dU]
  split
  ·exact ni.refl _ _
  ·rename_i h0
   have h0:cp st.1 ino=none:=by simpa using h0
   have hput:ni all st (iC st.1 ino (),st.2):=by
    refine ⟨?_,kL _ _ _,fun j hj=>?_,fun h1 h2=>⟨h1,fun n hn=>?_⟩⟩
    ·have:=kL all st.1 ino
     simp only
     omega
    ·simp only [fY]; split
     ·rfl
     ·exact hj
    ·simp only [fY]; split
     ·rfl
     ·exact h2 n hn
   split
   ·exact hput
   ·rename_i h1
    cases hn:cp all ino with
    |none=>simp [hn] at h1
    |some n =>
     simp only [Option.getD_some]
     have hstep:ni all st (iC st.1 ino (),st.2++[n]):=by
      have hlt:=wL hn h0
      refine ⟨by simp; omega,kL _ _ _,hput.met,fun g1 g2=>?_⟩
      have hni:=ho _ _ hn
      refine ⟨?_,fun m hm=>?_⟩
      ·rw [List.map_append,List.nodup_append]
       refine ⟨g1,by simp,?_⟩
       intro a ha b hb
       simp only [List.map_cons,List.map_nil,List.mem_singleton] at hb
       subst hb
       intro hab
       obtain ⟨m,hm,rfl⟩:=List.mem_map.1 ha
       have:=g2 m hm
       rw [hab,hni,h0] at this
       cases this
      ·rcases List.mem_append.1 hm with h|h
       ·exact (hput.nodup g1 g2).2 m h
       ·simp only [List.mem_singleton] at h
        subst h
        simp only [fY,hni,if_true,Option.isSome_some]
     have hfold:∀(l:List cJ) (w:Bool×VS),ni all w.2 (l.foldl (fun w e=>((dU all f e.ino w.2).1&&w.1,(dU all f e.ino w.2).2)) w).2:=by
      intro l
      induction l with
      |nil=>intro w; exact ni.refl _ _
      |cons e r ihr =>
       intro w
       rw [List.foldl_cons]
       exact (ih e.ino w.2).trans (ihr ((dU all f e.ino w.2).1&&w.1,(dU all f e.ino w.2).2))
     exact hstep.trans (hfold n.au (true,(iC st.1 ino (),st.2++[n])))
def mO:ae := .func 193 [.ptr 0 0,.ptr 1 0,.ptr 2 0,.ptr 3 0]
def gi (all:AM Node) (st:VS):ai:=[.cells [.df 4],.cells [.df 5],.cells [.bu 6 st.2.length 6 0 st.2.length],.cells [mO],.map (uM st.1) (jD eU st.1),.map (uM all) (jD bm all),.arr 6 st.2.length (st.2.map bm)]
def Fj (all:AM Node) (st:VS):(gi all st).map (aQ.iY (dh [0,1,2,3,4,5,6]))=gi all st/\(gi all st).map (aQ.iY (qk [0,1,2,3,4,5,6]))=gi all st:=by
 constructor
 ·simp only [gi,List.map_cons,List.map_nil,aQ.iY,rnN,rnU]; rfl
 ·simp only [gi,List.map_cons,List.map_nil,aQ.iY,rnN,rnU]; rfl
def adR (all:AM Node) (st:VS) (L:ai):dN (gi all st++L) (dh [0,1,2,3,4,5,6]) [0,1,2,3,4,5,6]=some (gi all st):=by
 have h:=(Fj all st).1
 simp only [gi,List.map_cons,List.map_nil] at h
 injection h with h0 h; injection h with h1 h; injection h with h2 h; injection h with h3 h; injection h with h4 h; injection h with h5 h; injection h with h6 h
 simp only [gi,List.cons_append,List.nil_append,dN,nth,h0,h1,h2,h3,h4,h5,h6]
 simp only [aQ.flat,flN,flU,if_true]
 rfl
def ag7 (all:AM Node) (st:VS) (L:ai):jm (gi all st++L) [0,1,2,3]=[4,5,6,0,1,2,3]/\jm (gi all st++L) [0,1,2,3,4,5,6]=[4,5,6,0,1,2,3]:=by
 refine ⟨rfl,?_⟩
 show [4,5,6,0,1,2,3]++((jD eU st.1).flatMap ae.ids++((jD bm all).flatMap ae.ids++([]++[])))=_
 rw [ag5,abi]; rfl
def Oc (all:AM Node) (st:VS) (L:ai):reach (gi all st++L) [0,1,2,3]=[0,1,2,3,4,5,6]/\fa (gi all st++L) [0,1,2,3,4,5,6]=[0,1,2,3,4,5,6]:=by
 obtain ⟨h1,h2⟩:=ag7 all st L
 have e0:eE [] [0,1,2,3]=[0,1,2,3]:=rfl
 have e1:eE [0,1,2,3] [4,5,6,0,1,2,3]=[0,1,2,3,4,5,6]:=rfl
 have e2:eE [0,1,2,3,4,5,6] [4,5,6,0,1,2,3]=[0,1,2,3,4,5,6]:=rfl
 simp only [reach,fa,e0,h1,e1,h2,e2,and_self]
def YK (all:AM Node) (st st':VS) (L:ai):fy [0,1,2,3,4,5,6] (gi all st++L) [0,1,2,3,4,5,6] (gi all st')=gi all st'++L:=by
 have h:=(Fj all st').2
 simp only [gi,List.map_cons,List.map_nil] at h
 injection h with h0 h; injection h with h1 h; injection h with h2 h; injection h with h3 h; injection h with h4 h; injection h with h5 h; injection h with h6 h
 simp only [gi,List.cons_append,List.nil_append,fy,h0,h1,h2,h3,h4,h5,h6,dG]
def TA (all:AM Node) (st:VS):(gi all st).all aQ.flat=true:=by
 simp only [gi,List.all_cons,aQ.flat,flN,flU]; rfl
def UC {all:AM Node} {ino:Int} {st st':VS} {b:Bool} {L:ai} (h:af aV 193 [.int .i64 ino,.ptr 0 0,.ptr 1 0,.ptr 2 0,.ptr 3 0] (gi all st)=some (.bool b,gi all st')) :
  an (af aV) 193 [.int .i64 ino,.ptr 0 0,.ptr 1 0,.ptr 2 0,.ptr 3 0] (gi all st++L)=some (.bool b,gi all st'++L) :=
 eL (ids:=[0,1,2,3,4,5,6]) rfl (Oc all st L).1 (adR all st L) (Oc all st L).2 rfl h rfl rfl (TA all st') rfl (YK all st st' L)
section
attribute [local irreducible] cT cR gz gK bR kr af an aZ aK
def QZ {all:AM Node} {n:Node} {f:Nat} (ho:Own all) {k:List K} {R:Bool×VS->Option (ae×ai)} (hn:n.au.length<=100000)
  (ih:∀e,e∈n.au->∀st,missing all st.1<f->st.2.length+missing all st.1<=200000->af aV 193 [.int .i64 e.ino,.ptr 0 0,.ptr 1 0,.ptr 2 0,.ptr 3 0] (gi all st)=some (.bool (dU all f e.ino st).1,gi all (dU all f e.ino st).2))
  (hx:∀w e,kr (af aV) [.tmp 6] 7 k ⟨.exit 0,(4,.ptr 3 0)::(11,.bool w.1)::e,gi all w.2++[.cells [],.cells (az n)]⟩=R w) :
  ∀(l pre:List cJ) (w:Bool×VS),n.au=pre++l->missing all w.2.1<f->w.2.2.length+missing all w.2.1<=200000->cT (af aV) [.tmp 6] 7 k (.loop [4,11,37,38,39] QB) [(4,.ptr 3 0),(11,.bool w.1),(37,fR n.au),(38,.int .i64 n.au.length),(39,.int .i64 pre.length)] (gi all w.2++[.cells [],.cells (az n)]) =
   R (l.foldl (fun w e=>((dU all f e.ino w.2).1&&w.1,(dU all f e.ino w.2).2)) w):=by
 intro l
 induction l with
 |nil =>
  intro pre w h _ _
  rw [aE]
  simp only [gi,Fz,bZ h,List.foldl_nil,EW,simprocAttr] at hx ⊢
  exact hx _ _
 |cons x rest ihl =>
  intro pre w h hm hl
  rw [aE]
  have hlen:pre.length+1<=100000:=by rw [h] at hn; simp at hn; omega
  have hw:IntKind.i64.wrap ((pre.length:Int)+1)=((pre++[x]).length:Int):=by rw [bw (by omega) (by omega)]; exact bp
  rw [List.foldl_cons]
  have hg:=pH ho f x.ino w.2
  have q:=UC (L:=[.cells [],.cells (az n),.cells (dy x)]) (ih x (by rw [h]; simp) w.2 hm hl)
  have hi1:=ihl (pre++[x]) ((dU all f x.ino w.2).1&&w.1,(dU all f x.ino w.2).2) (by rw [h]; simp) (by have:=hg.XM; simp only; omega) (by have:=hg.len; simp only; omega)
  generalize dU all f x.ino w.2=v at q hi1 ⊢
  clear hg ih
  simp only [gi,mO,az,dy,List.length_append,List.length_cons,List.length_nil,Nat.zero_add,List.cons_append,List.nil_append] at hi1 q
  obtain ⟨b,st'⟩:=v
  cases b<;>simp only [gi,mO,Fz,aY h,aW h,az,dy,q,hw,PB,bkU,Bool.true_and,Bool.false_and,EW,simprocAttr] at hi1 ⊢
  ·exact hi1
  ·exact hi1
def ET (z x:ae):jK z true (some x) = .tuple [x,.bool true]:=rfl
def M9 (z:ae):jK z true none = .tuple [z,.bool false]:=rfl
def c193 {all:AM Node} (ho:Own all) (hb:∀k n,cp all k=some n->n.au.length<=100000):∀(f:Nat) (ino:Int) (st:VS),missing all st.1<f->st.2.length+missing all st.1<=200000 ->
  af aV 193 [.int .i64 ino,.ptr 0 0,.ptr 1 0,.ptr 2 0,.ptr 3 0] (gi all st)=some (.bool (dU all f ino st).1,gi all (dU all f ino st).2):=by
 intro f
 induction f with
 |zero=>intro ino st h; omega
 |succ f ih =>
  intro ino st hm hl
  refine aq rfl rfl rfl ?_
  rw [dU]
  have p1:=lY eU st.1 ino ()
  cases h0:cp st.1 ino with
  |some u =>
   simp only [Option.isSome_some,if_true]
   simp only [gi,mO,Bc,Fz,iv,ET,eU,mapOf.eq_1,h0,PB,bkU,EW,simprocAttr]
  |none =>
   simp only [Option.isSome_none,Bool.false_eq_true,if_false]
   have hp:=kL all st.1 ino
   cases hn:cp all ino with
   |none =>
    simp only [gi,mO,Bc,Fz,iv,ET,M9,mapOf.eq_1,h0,hn,p1,Option.map_none,Option.isSome_none,Bool.not_false,if_true,PB,bkU,EW,simprocAttr]
   |some n =>
    have hlt:=wL hn h0
    have r1:bP (st.2.length+1) 80=True:=dv (by omega) (by omega)
    have hl1:=QZ ho (hb ino n hn) (f:=f) (k:=[.block 0,.seq Yj]) (R:=fun w=>some (.bool w.1,gi all w.2)) (fun e he st h1 h2=>ih e.ino st h1 h2) (fun w e=>by simp only [gi,mO,Fz,az,PB,bkU,EW,simprocAttr]) n.au [] (true,(iC st.1 ino (),st.2++[n])) rfl (by simp only; omega) (by simp; omega)
    clear ih
    simp only [gi,mO,az,List.length_nil,List.cons_append,List.nil_append,List.length_append,List.length_cons,Nat.zero_add,List.map_append,List.map_cons,List.map_nil,bm] at hl1
    simp only [gi,mO,Bc,Fz,iv,ET,M9,mapOf.eq_1,h0,hn,p1,r1,az,bm,Option.map_none,Option.isSome_some,Option.getD_some,Bool.not_true,Bool.false_eq_true,if_false,EW,simprocAttr]
    exact hl1
end
section
def zA (x:Node):List Node->List Node
 | []=>[x]
 |y::r=>if x.ino<y.ino then x::y::r else y::zA x r
def va:List Node->List Node
 | []=>[]
 |x::r=>zA x (va r)
def ahM (n:Node):lX 0 (bm n)=n.ino:=rfl
def ym (x:Node):∀l:List Node,wz 0 (bm x) (l.map bm)=(zA x l).map bm
 | []=>rfl
 |y::r=>by
  simp only [List.map_cons,wz,zA,ahM]
  by_cases h:x.ino<y.ino
  ·simp only [h,if_true,List.map_cons]
  ·simp only [h,if_false,List.map_cons,ym x r]
def xd:∀l:List Node,jW 0 (l.map bm)=(va l).map bm
 | []=>rfl
 |x::r=>by simp only [List.map_cons,jW,va,xd r,ym]
def fU (a:Int) (m:AM Node) (p:il):AM Node:=if (decide (p.oY<=a)&&decide (a<p.z7))=true then iC m p.node.ino p.node else m
def kd (a:Int):List Node->List Int->AM Node->AM Node
 |n::r,y::ys,m=>kd a r ys (if decide (y<=a)=true then iC m n.ino n else m)
 |_,_,m=>m
def qV (s:eK) (a:Int):AM Node:=kd a s.now.nodes s.since (s.cP.foldl (fU a) [])
structure qt (m:AM Node):Prop where
 own:Own m
 au:∀k n,cp m k=some n->n.au.length<=100000
def qt.put {m:AM Node} (h:qt m) (n:Node) (hn:n.au.length<=100000):qt (iC m n.ino n) where
 own:=fun k x hx=>by
  rw [fY] at hx
  split at hx
  ·rename_i e; injection hx with hx; rw [<-hx,e]
  ·exact h.own k x hx
 au:=fun k x hx=>by
  rw [fY] at hx
  split at hx
  ·injection hx with hx; rw [<-hx]; exact hn
  ·exact h.au k x hx
def px (a:Int):∀(l:List il) (m:AM Node),qt m->(∀p,p∈l->p.node.au.length<=100000)->qt (l.foldl (fU a) m)/\(l.foldl (fU a) m).length<=m.length+l.length
 | [],m,h,_=>⟨h,Nat.le_refl _⟩
 |p::r,m,h,hp=>by
  rw [List.foldl_cons]
  have h1:qt (fU a m p)/\(fU a m p).length<=m.length+1:=by
   unfold fU
   split
   ·exact ⟨h.put _ (hp p (by simp)),wM _ _ _⟩
   ·exact ⟨h,by omega⟩
  obtain ⟨g1,g2⟩:=px a r _ h1.1 (fun q hq=>hp q (by simp [hq]))
  exact ⟨g1,by simp only [List.length_cons]; omega⟩
def ua (a:Int):∀(l:List Node) (y:List Int) (m:AM Node),qt m->(∀p,p∈l->p.au.length<=100000)->qt (kd a l y m)/\(kd a l y m).length<=m.length+l.length
 | [],_,m,h,_=>by unfold kd; exact ⟨h,Nat.le_refl _⟩
 |n::r,[],m,h,_=>by unfold kd; exact ⟨h,by omega⟩
 |n::r,y::ys,m,h,hp=>by
  rw [kd]
  have h1:qt (if decide (y<=a)=true then iC m n.ino n else m)/\(if decide (y<=a)=true then iC m n.ino n else m).length<=m.length+1:=by
   split
   ·exact ⟨h.put _ (hp n (by simp)),wM _ _ _⟩
   ·exact ⟨h,by omega⟩
  obtain ⟨g1,g2⟩:=ua a r ys _ h1.1 (fun q hq=>hp q (by simp [hq]))
  exact ⟨g1,by simp only [List.length_cons]; omega⟩
def oy (m:AM Node) (met:AM Unit):missing m met<=m.length:=List.length_filter_le _ _
def pG (s:eK) (x:fq):Bool×VS:=dU (qV s x.at') 200001 x.ino ([],[])
def wq (s:eK) (x:fq):List Node:=va (pG s x).2.2
attribute [local irreducible] cT cR gz gK bR kr af an aZ aK
def sg (s:eK) (x:fq) (m:AM Node):ai:=[.cells (bo s),.cells (dB x),.map (uM m) (jD bm m),.cells [.df 2]]
def Nh {s:eK} {x:fq} (hn:s.cP.length<=100000) {k:List K} {fin:AM Node} {r:Option (ae×ai)}
  (hx:∀e,kr (af aV) [.tmp 4,.tmp 5] 0 k ⟨.exit 0,(2,.ptr 0 0)::(3,.ptr 1 0)::(6,.ptr 3 0)::e,sg s x fin⟩=r) :
  ∀(l pre:List il) (m:AM Node),s.cP=pre++l->l.foldl (fU x.at') m=fin->cT (af aV) [.tmp 4,.tmp 5] 0 k (.loop [2,3,6,17,18,19] Qs) [(2,.ptr 0 0),(3,.ptr 1 0),(6,.ptr 3 0),(17,jf s.cP),(18,.int .i64 s.cP.length),(19,.int .i64 pre.length)] (sg s x m)=r:=by
 intro l
 induction l with
 |nil =>
  intro pre m h hfin
  rw [aE]
  rw [List.foldl_nil] at hfin
  subst hfin
  simp only [sg,ze,bZ h,EW,simprocAttr] at hx ⊢
  exact hx _
 |cons p rest ih =>
  intro pre m h hfin
  rw [aE]
  have hlen:pre.length+1<=100000:=by rw [h] at hn; simp at hn; omega
  have hw:IntKind.i64.wrap ((pre.length:Int)+1)=((pre++[p]).length:Int):=by rw [bw (by omega) (by omega)]; exact bp
  rw [List.foldl_cons] at hfin
  have hi1:=ih (pre++[p]) (fU x.at' m p) (by rw [h]; simp) hfin
  clear hfin
  have hput:=lY bm m p.node.ino p.node
  unfold fU at hi1
  simp only [sg,bo,dB,bm,az,List.length_append,List.length_cons,List.length_nil,Nat.zero_add] at hi1 hput
  simp only [sg,ze,aY h,aW h,bo,dB,gm,az,EW,simprocAttr]
  cases h1:decide (p.oY<=x.at')<;>cases h2:decide (x.at'<p.z7)<;>simp only [h1,h2,ze,hw,hput,mapOf.eq_1,Bool.and_self,Bool.and_true,Bool.and_false,Bool.false_eq_true,if_true,if_false,PB,EW,simprocAttr] at hi1 ⊢
  all_goals exact hi1
def Ni {s:eK} {x:fq} (hn:s.now.nodes.length<=100000) (hl:s.since.length=s.now.nodes.length) {k:List K} {fin:AM Node} {r:Option (ae×ai)}
  (hx:∀e,kr (af aV) [.tmp 4,.tmp 5] 0 k ⟨.exit 2,(2,.ptr 0 0)::(3,.ptr 1 0)::(6,.ptr 3 0)::e,sg s x fin⟩=r) :
  ∀(l pre:List Node) (y ypre:List Int) (m:AM Node),s.now.nodes=pre++l->s.since=ypre++y->ypre.length=pre.length->kd x.at' l y m=fin->cT (af aV) [.tmp 4,.tmp 5] 0 k (.loop [2,3,6,44,45,46] Qt) [(2,.ptr 0 0),(3,.ptr 1 0),(6,.ptr 3 0),(44,aF s.now.nodes),(45,.int .i64 s.now.nodes.length),(46,.int .i64 pre.length)] (sg s x m)=r:=by
 intro l
 induction l with
 |nil =>
  intro pre y ypre m h hy hyl hfin
  rw [aE]
  have hg:kd x.at' [] y m=m:=by unfold kd; rfl
  rw [hg] at hfin
  subst hfin
  simp only [sg,ze,bZ h,EW,simprocAttr] at hx ⊢
  exact hx _
 |cons n rest ih =>
  intro pre y ypre m h hy hyl hfin
  rw [aE]
  have hlen:pre.length+1<=100000:=by rw [h] at hn; simp at hn; omega
  have hw:IntKind.i64.wrap ((pre.length:Int)+1)=((pre++[n]).length:Int):=by rw [bw (by omega) (by omega)]; exact bp
  cases y with
  |nil=>have h1:=congrArg List.length h; have h2:=congrArg List.length hy; simp at h1 h2; omega
  |cons c y =>
   have hxa:s.since[pre.length]?=some c:=by rw [hy,<-hyl]; simp
   have hi1:=ih (pre++[n]) y (ypre++[c]) (if decide (c<=x.at')=true then iC m n.ino n else m) (by rw [h]; simp) (by rw [hy]; simp) (by simp [hyl]) (by rw [<-hfin,kd])
   clear hfin
   have hput:=lY bm m n.ino n
   simp only [sg,bo,dB,bm,az,List.length_append,List.length_cons,List.length_nil,Nat.zero_add] at hi1 hput
   simp only [sg,ze,aY h,aW h,bo,dB,az,hxa,EW,simprocAttr]
   cases h1:decide (c<=x.at')<;>simp only [h1,ze,hw,hput,mapOf.eq_1,Bool.false_eq_true,if_true,if_false,PB,EW,simprocAttr] at hi1 ⊢
   all_goals exact hi1
def xC (s:eK) (x:fq) (all:AM Node) (st:VS):ai:=[.cells (bo s),.cells (dB x),.map (uM all) (jD bm all),.cells [.df 2],.map (uM st.1) (jD eU st.1),.cells [.df 4],.arr 6 st.2.length (st.2.map bm),.cells [.bu 6 st.2.length 6 0 st.2.length],.cells [.func 193 [.ptr 5 0,.ptr 3 0,.ptr 7 0,.ptr 8 0]]]
end
section
def zq {α:Type}:uM ([]:AM α)=[]:=rfl
def zt {α:Type} (enc:α->ae):jD enc ([]:AM α)=[]:=rfl
def aaF {s:eK} {x:fq} {all:AM Node} {ino:Int} {st':VS} {b:Bool} (h:af aV 193 [.int .i64 ino,.ptr 0 0,.ptr 1 0,.ptr 2 0,.ptr 3 0] (gi all ([],[]))=some (.bool b,gi all st')) :
  an (af aV) 193 [.int .i64 ino,.ptr 5 0,.ptr 3 0,.ptr 7 0,.ptr 8 0] (xC s x all ([],[]))=some (.bool b,xC s x all st'):=by
 have i1:jm (xC s x all ([],[])) [5,3,7,8]=[4,2,6,5,3,7,8]:=rfl
 have i2:jm (xC s x all ([],[])) [5,3,7,8,4,2,6]=[4,2,6,5,3,7,8]:=by
  show [4,2,6,5,3,7,8]++([]++((jD bm all).flatMap ae.ids++([]++[])))=_
  rw [abi]; rfl
 have e0:eE [] [5,3,7,8]=[5,3,7,8]:=rfl
 have e1:eE [5,3,7,8] [4,2,6,5,3,7,8]=[5,3,7,8,4,2,6]:=rfl
 have e2:eE [5,3,7,8,4,2,6] [4,2,6,5,3,7,8]=[5,3,7,8,4,2,6]:=rfl
 have hr:reach (xC s x all ([],[])) [5,3,7,8]=[5,3,7,8,4,2,6]/\fa (xC s x all ([],[])) [5,3,7,8,4,2,6]=[5,3,7,8,4,2,6]:=by
  simp only [reach,fa,e0,i1,e1,i2,e2,and_self]
 have hp:dN (xC s x all ([],[])) (dh [5,3,7,8,4,2,6]) [5,3,7,8,4,2,6]=some (gi all ([],[])):=by
  simp only [xC,dN,nth,aQ.flat,flN,flU,aL,if_true,aQ.iY,rnN,rnU]
  rfl
 refine eL (ids:=[5,3,7,8,4,2,6]) rfl hr.1 hp hr.2 rfl h rfl rfl (TA all st') rfl ?_
 simp only [gi,xC,fy,aQ.iY,rnN,rnU,dG]
 rfl
def adP (n:Nat) (xs:List ae) (b0 b1 b2 b3 b4 b5 b7 b8:aQ):dN [b0,b1,b2,b3,b4,b5,.arr 6 n xs,b7,b8] (dh [6]) [6]=some [.arr 6 n xs]:=rfl
def Hf {l:List Node} (hl:l.length<=1000000) (hn:(l.map Node.ino).Nodup):af aV 194 [.bu 0 l.length 6 0 l.length,.func 195 []] [.arr 6 l.length (l.map bm)]=some (.tuple [],[.arr 6 l.length ((va l).map bm)]):=by
 refine bM (g:=oT 6 0 195) rfl ?_
 unfold oT
 simp only [nth]
 have ht:(l.map bm).take l.length=l.map bm:=List.take_of_length_le (by simp)
 have hd:(l.map bm).drop l.length=[]:=List.drop_eq_nil_of_le (by simp)
 rw [ht,hd,xd,List.append_nil]
 rw [a8]
 ·rfl
 ·refine ⟨trivial,trivial,trivial,by simp,trivial,by omega,?_,?_⟩
  ·intro x hx
   obtain ⟨n,_,rfl⟩:=List.mem_map.1 hx
   rfl
  ·rw [List.map_map]
   exact hn
attribute [local irreducible] cT cR gz gK bR kr af an aZ aK
def Bq (x:Node):∀l,(zA x l).length=l.length+1
 | []=>rfl
 |y::r=>by simp only [zA]; split<;>simp [Bq x r]
def uk:∀l,(va l).length=l.length
 | []=>rfl
 |x::r=>by simp [va,Bq,uk r]
def agf (s:eK) (x:fq) (hp:s.cP.length<=100000) (hpe:∀p,p∈s.cP->p.node.au.length<=100000) (hz:Sz 200 s.now) (hl:s.since.length=s.now.nodes.length) :
  af aV 155 [jg s,iK x] []=some (.tuple [aF (wq s x),.bool (pG s x).1],[]):=by
 refine aq rfl rfl rfl ?_
 obtain ⟨g1,g2⟩:=px x.at' s.cP [] ⟨fun k n h=>(by cases h),fun k n h=>(by cases h)⟩ hpe
 obtain ⟨g3,g4⟩:=ua x.at' s.now.nodes s.since (s.cP.foldl (fU x.at') []) g1 (fun n hn=>by have:=hz.au n hn; omega)
 have hall:(qV s x.at').length<=100200:=by have:=hz.nodes; simp at g2; unfold qV; omega
 have hv:=c193 (all:=qV s x.at') g3.own g3.au 200001 x.ino ([],[]) (by have:=oy (qV s x.at') []; simp only; omega) (by have:=oy (qV s x.at') []; simp only [List.length_nil]; omega)
 have hg:=pH (all:=qV s x.at') g3.own 200001 x.ino ([],[])
 have hnd:=(hg.nodup (by simp) (by simp)).1
 have hlen:(pG s x).2.2.length<=100200:=by have:=hg.len; have h2:=oy (qV s x.at') []; simp only [List.length_nil] at this; unfold pG; omega
 have q:=aaF (s:=s) (x:=x) hv
 have hs:=Hf (l:=(pG s x).2.2) (by omega) hnd
 have q2:∀b0 b1 b2 b3 b4 b5 b7 b8,an (af aV) 194 [.bu 6 (pG s x).2.2.length 6 0 (pG s x).2.2.length,.func 195 []] [b0,b1,b2,b3,b4,b5,.arr 6 (pG s x).2.2.length ((pG s x).2.2.map bm),b7,b8] =
   some (.tuple [],[b0,b1,b2,b3,b4,b5,.arr 6 (pG s x).2.2.length ((wq s x).map bm),b7,b8]):=fun b0 b1 b2 b3 b4 b5 b7 b8 =>
  eL (ids:=[6]) rfl rfl (adP _ _ ..) rfl rfl hs rfl rfl rfl rfl rfl
 have ht:List.take (pG s x).2.2.length ((wq s x).map bm)=(wq s x).map bm:=List.take_of_length_le (by simp [wq,uk])
 have l2:=Ni (s:=s) (x:=x) (by have:=hz.nodes; omega) hl (fin:=qV s x.at') (r:=some (.tuple [aF (wq s x),.bool (pG s x).1],[])) (k:=[.block 2,.seq Rs]) (fun e=>by
  clear g1 g2 g3 g4 hv hg hnd hs
  have hvv:dU (qV s x.at') 200001 x.ino ([],[])=pG s x:=rfl
  rw [hvv] at q
  generalize pG s x=v at q q2 ht hlen ⊢
  obtain ⟨b,met,out⟩:=v
  simp only [xC,bo,dB,List.length_nil,List.map_nil,zq,zt] at q q2 ht
  simp only [sg,bo,dB,ze,q,q2,ht,EW,simprocAttr]) s.now.nodes [] s.since [] (s.cP.foldl (fU x.at') []) rfl rfl rfl rfl
 have l1:=Nh (s:=s) (x:=x) hp (fin:=s.cP.foldl (fU x.at') []) (r:=some (.tuple [aF (wq s x),.bool (pG s x).1],[])) (k:=[.block 0,.seq Ru]) (fun e=>by
  simp only [sg,bo,dB,List.length_nil] at l2
  simp only [sg,bo,dB,ze,EW,simprocAttr]
  exact l2) s.cP [] [] rfl rfl
 simp only [sg,bo,dB,List.length_nil,zq,zt] at l1
 simp only [Ky,ze,jg,iK,bo,dB,EW,simprocAttr]
 exact l1
def aho (s:eK) (x:fq) (hp:s.cP.length<=100000) (hpe:∀p,p∈s.cP->p.node.au.length<=100000) (hz:Sz 200 s.now) (hl:s.since.length=s.now.nodes.length) (M:ai) :
  an (af aV) 155 [.agg (bo s),.agg (dB x)] M=some (.tuple [aF (wq s x),.bool (pG s x).1],M):=cO (agf s x hp hpe hz hl) M
def mq (s:eK) (id:Int):Int×List Node×Int:=match s.taken.find? (fun x=>x.id==id) with
 |some x=>(x.ino,wq s x,0)
 |none=>(0,[],100)
def XK {s:eK} {id:Int} (hk:s.taken.length<=100000) (hp:s.cP.length<=100000) (hpe:∀p,p∈s.cP->p.node.au.length<=100000) (hz:Sz 200 s.now) (hl:s.since.length=s.now.nodes.length) :
  ∀(l pre:List fq),s.taken=pre++l->cT (af aV) [.tmp 4,.tmp 5,.tmp 6] 0 [.block 0,.seq adT] (.loop [1,2,12,13,14] Xo) [(1,.int .i64 id),(2,.ptr 0 0),(12,ei s.taken),(13,.int .i64 s.taken.length),(14,.int .i64 pre.length)] [.cells (bo s)] =
   some (match l.find? (fun x=>x.id==id) with|some x => .tuple [.int .i64 x.ino,aF (wq s x),.int .i64 0]|none => .tuple [.int .i64 0,aF [],.int .i64 100],[]):=by
 intro l
 induction l with
 |nil =>
  intro pre h
  rw [aE]
  simp only [E97,bZ h,List.find?_nil,bo,EW,simprocAttr]
  rfl
 |cons x rest ih =>
  intro pre h
  rw [aE]
  have hlen:pre.length+1<=100000:=by rw [h] at hk; simp at hk; omega
  have hw:IntKind.i64.wrap ((pre.length:Int)+1)=((pre++[x]).length:Int):=by rw [bw (by omega) (by omega)]; exact bp
  have hi1:=ih (pre++[x]) (by rw [h]; simp)
  have q:=aho s x hp hpe hz hl
  simp only [List.length_append,List.length_cons,List.length_nil,Nat.zero_add,bo,dB] at hi1 q
  rw [List.find?_cons]
  simp only [E97,aY h,aW h,bo,dB,EW,simprocAttr]
  cases he:x.id==id<;>simp only [E97,he,q,hw,EW,simprocAttr]
  exact hi1
def c97 (s:eK) (id:Int) (hk:s.taken.length<=100000) (hp:s.cP.length<=100000) (hpe:∀p,p∈s.cP->p.node.au.length<=100000) (hz:Sz 200 s.now) (hl:s.since.length=s.now.nodes.length) :
  af aV 97 [jg s,.int .i64 id] []=some (.tuple [.int .i64 (mq s id).1,aF (mq s id).2.1,.int .i64 (mq s id).2.2],[]):=by
 refine aq rfl rfl rfl ?_
 have hq:=XK (id:=id) hk hp hpe hz hl s.taken [] rfl
 simp only [bo,List.length_nil] at hq
 simp only [Vw,E97,jg,bo,EW,simprocAttr]
 refine Eq.trans hq ?_
 unfold mq
 split<;>rfl
def k97 (s:eK) (id:Int) (hk:s.taken.length<=100000) (hp:s.cP.length<=100000) (hpe:∀p,p∈s.cP->p.node.au.length<=100000) (hz:Sz 200 s.now) (hl:s.since.length=s.now.nodes.length) (M:ai) :
  an (af aV) 97 [.agg (bo s),.int .i64 id] M=some (.tuple [.int .i64 (mq s id).1,aF (mq s id).2.1,.int .i64 (mq s id).2.2],M):=cO (c97 s id hk hp hpe hz hl) M
end
noncomputable def lx:uF:=⟨fun f=>if f=114 then some A8 else code f,iX⟩
def RI:oH Tryz.prog lx:=by
 refine ⟨fun f fn h=>?_,Fe⟩
 simp only [lx] at h
 split at h
 ·rename_i hf
  injection h with h; subst h; subst hf
  exact ⟨_,_,Tryz.func114,acu⟩
 ·exact Eu f fn h
def Yz:iM Tryz.prog (af lx):=mD (by kernel_rfl) RI
def Cb:∀n,o6 (eD aV n) (eD lx n)
 |0,f,a,M,x,h=>by rw [eD] at h ⊢; exact h
 |n+1,f,a,M,x,h=>by
  rw [eD] at h ⊢
  have hp:lx.iX f=aV.iX f:=rfl
  rw [hp]
  split at h
  ·rename_i g hg; exact h
  ·rename_i hg
   split at h
   ·cases h
   ·rename_i fn hfn
    have hc:lx.code f=some fn:=by
     simp only [lx]
     split
     ·rename_i hf; subst hf; cases hfn
     ·exact hfn
    rw [hc]
    split at h
    ·rename_i hl
     simp only [if_pos hl]
     obtain ⟨o,ho,h⟩:=av h
     rw [eO (Cb n) _ ho,aL]
     exact h
    ·cases h
def RM {f:Nat} {a:List ae} {M:ai} {x:ae×ai} (h:af aV f a M=some x):af lx f a M=some x:=by
 obtain ⟨n,hn⟩:=ov h
 exact jJ (fun n x h=>lD lx n f a M x h) (Cb n f a M x hn)
def lW {f:Nat} {vs:List ae} {M:ai} {x:ae×ai} (h:an (af aV) f vs M=some x):an (af lx) f vs M=some x:=by
 obtain ⟨a,B,y,h1,h2⟩:=iq h
 exact h2 _ (RM h1)
def sf (t:Tree) (q:bE):Bool := !(find t.nodes q.ino).isSome
def fD (n:bE):(eJ n).all ae.cZ=true:=rfl
def Yc (xs:List ae) (z:Tree):dN [.arr 3 0 xs,.cells (aw z)] (dh [0,1]) [0,1]=some [.arr 3 0 xs,.cells (aw z)]:=rfl
section
def Yd (z:Tree):dN [.cells (aw z)] (dh [0]) [0]=some [.cells (aw z)]:=rfl
section
attribute [local irreducible] cT cR gz gK bR kr af an aZ aK
def afL (q:bE) (t:Tree) (ht:Rt t):af lx 116 [bT q,.ptr 0 0] [.cells (aw t)]=some (.bool (sf t q),[.cells (aw t)]):=by
 refine aq rfl rfl rfl ?_
 have q1:=fun M=>lW (xD t q.ino ht.small ht.gx M)
 unfold sf
 simp only [az] at q1
 simp only [J7,aeA,bT,eJ,aw,q1,az,xj,fD,EW,simprocAttr]
def abr (q:bE) (t:Tree) (ht:Rt t) (p:Nat) (M:ai) (hM:nth M p=some (.cells (aw t))):an (af lx) 116 [.agg (eJ q),.ptr p 0] M=some (.bool (sf t q),M) :=
 pQ (f:=116) (p:=p) (vs:=[.agg (eJ q)]) hM (afL q t ht) rfl rfl rfl rfl rfl rfl rfl rfl rfl
def tL (z:Tree):List bE->Nat->Int
 | [],_ => -1
 |e::r,i=>if sf z e=true then (i:Int) else tL z r (i+1)
def QR {xs:List bE} {z:Tree} (hz:Rt z) (hn:xs.length<=100000) {k:List K} {R:Int->Option (ae×ai)}
  (hx:∀e,kr (af lx) [.tmp 4] 2 k ⟨.exit 0,e,[.arr 3 0 (xs.map bT),.cells (aw z)]⟩=R (-1)) (hr:∀(i:Nat),kr (af lx) [.tmp 4] 2 k ⟨.ret,[(4,.int .i64 i)],[.arr 3 0 (xs.map bT),.cells (aw z)]⟩=R i) :
  ∀(l pre:List bE),xs=pre++l->cT (af lx) [.tmp 4] 2 k (.loop [0,1,7,8] Qw) [(0,.bu 0 0 3 0 xs.length),(1,.func 116 [.ptr 1 0]),(7,.int .i64 xs.length),(8,.int .i64 pre.length)] [.arr 3 0 (xs.map bT),.cells (aw z)]=R (tL z l pre.length):=by
 intro l
 induction l with
 |nil =>
  intro pre h
  rw [aE]
  simp only [zf,bZ h,xj,fD,EW,simprocAttr]
  exact hx _
 |cons n rest ih =>
  intro pre h
  rw [aE]
  have hlen:pre.length+1<=100000:=by rw [h] at hn; simp at hn; omega
  have hw:IntKind.i64.wrap ((pre.length:Int)+1)=((pre++[n]).length:Int):=by rw [bw (by omega) (by omega)]; exact bp
  have hi:=ih (pre++[n]) (by rw [h]; simp)
  simp only [List.length_append,List.length_cons,List.length_nil] at hi
  have q59:=fun e=>abr e z hz 1 [.arr 3 0 (xs.map bT),.cells (aw z)] rfl
  have hlt:((pre.length:Int)<((xs.length-0:Nat):Int))=True:=by simp only [eq_iff_iff,iff_true]; rw [h]; simp; omega
  rw [tL]
  simp only [zf,aY h,aW h,tkQ,shQ,q59,hlt,xj,fD,EW,simprocAttr]
  refine aH (fun hb=>?_) (fun hb=>?_)
  ·simp only [zf,hb,xj,fD,EW,simprocAttr]
   exact hr _
  ·simp only [zf,hb,hw,Bool.false_eq_true,xj,fD,EW,simprocAttr]
   exact hi
def agp (xs:List bE) (z:Tree) (hz:Rt z) (hn:xs.length<=100000):af lx 168 [.bu 0 0 3 0 xs.length,.func 116 [.ptr 1 0]] [.arr 3 0 (xs.map bT),.cells (aw z)]=some (.int .i64 (tL z xs 0),[.arr 3 0 (xs.map bT),.cells (aw z)]):=by
 refine aq rfl rfl rfl ?_
 simp only [EA,zf,Nat.sub_zero,xj,fD,EW,simprocAttr]
 exact QR hz hn (R:=fun i=>some (.int .i64 i,[.arr 3 0 (xs.map bT),.cells (aw z)])) (fun e=>by simp only [zf,xj,fD,EW,simprocAttr]) (fun i=>by simp only [zf,xj,fD,EW,simprocAttr]) xs [] rfl
def ahq (xs:List bE) (z:Tree) (hz:Rt z) (hn:xs.length<=100000):an (af lx) 168 [.bu 0 0 3 0 xs.length,.func 116 [.ptr 1 0]] [.arr 3 0 (xs.map bT),.cells (aw z)]=some (.int .i64 (tL z xs 0),[.arr 3 0 (xs.map bT),.cells (aw z)]) :=
 eL (ids:=[0,1]) rfl rfl (Yc ..) rfl rfl (agp xs z hz hn) rfl rfl rfl rfl rfl
def dY (z:Tree) (l:List bE):List bE:=l.filter fun e => !sf z e
def rj (z:Tree) (x:bE) (l:List bE):dY z (x::l)=if sf z x=true then dY z l else x::dY z l:=by
 unfold dY
 rw [List.filter_cons]
 cases sf z x<;>rfl
def OC (xs:List bE) (b:Nat) (o n:bE) (h:xs[b]?=some o):(dG (xs.map bT) b (putCells (bT o) 0 (eJ n)))=(xs.set b n).map bT:=by
 have:putCells (bT o) 0 (eJ n)=bT n:=rfl
 rw [this,cF,List.map_set]
def Yf (x:bE):(eJ x).all ae.plainCell=true:=rfl
def QK {z:Tree} (hz:Rt z) {N:Nat} (hN:N<=100000) {k:List K} {R:List bE->Nat->Option (ae×ai)}
  (hx:∀(A G:List bE) v q,A.length+G.length=N->G≠[]->kr (af lx) [.tmp 4] 2 k ⟨.exit 0,[(0,.bu 0 0 3 0 N),(1,.func 116 [.ptr 1 0]),(5,.int .i64 A.length),(6,v),(19,q)],[.arr 3 0 ((A++G).map bT),.cells (aw z)]⟩=R A G.length) :
  ∀(T A G:List bE),A.length+G.length+T.length=N->G≠[]->cT (af lx) [.tmp 4] 2 k (.loop [0,1,5,6] Qn) [(0,.bu 0 0 3 0 N),(1,.func 116 [.ptr 1 0]),(5,.int .i64 A.length),(6,.int .i64 ((A.length+G.length:Nat):Int))] [.arr 3 0 ((A++G++T).map bT),.cells (aw z)]=R (A++dY z T) (N-(A++dY z T).length):=by
 intro T
 induction T with
 |nil =>
  intro A G hl hg
  have hlt:(((A.length+G.length:Nat):Int)<((N-0:Nat):Int))=False:=by simp only [eq_iff_iff,iff_false]; simp at hl ⊢; omega
  have hk:dY z []=[]:=rfl
  have hgl:N-(A++dY z []).length=G.length:=by rw [hk]; simp at hl ⊢; omega
  rw [hgl,hk,List.append_nil,List.append_nil]
  rw [aE]
  simp only [zc,hlt,xj,fD,EW,simprocAttr]
  exact hx A G _ _ (by simpa using hl) hg
 |cons x T ih =>
  intro A G hl hg
  simp only [List.length_cons] at hl
  have hlt:(((A.length+G.length:Nat):Int)<((N-0:Nat):Int))=True:=by simp only [eq_iff_iff,iff_true]; omega
  have hnn:((0:Int)<=((A.length+G.length:Nat):Int))=True:=by simp only [eq_iff_iff,iff_true]; omega
  have hat:(A++G++x::T)[A.length+G.length]?=some x:=by
   rw [List.getElem?_append_right (by simp)]; simp
  have hw:IntKind.i64.wrap (((A.length+G.length:Nat):Int)+1)=((A.length+G.length+1:Nat):Int):=by rw [bw (by omega) (by omega)]; omega
  have hw1:IntKind.i64.wrap ((A.length:Int)+1)=((A.length+1:Nat):Int):=by rw [bw (by omega) (by omega)]; omega
  have q59:=fun e a b M=>abr e z hz 1 (a :: .cells (aw z)::b::M) rfl
  obtain ⟨g,G',hG⟩:=List.exists_cons_of_ne_nil hg
  have hga:(A++G++x::T)[A.length]?=some g:=by rw [hG]; simp
  have hset:(A++G++x::T).set A.length x=(A++[x])++(G'++[x])++T:=by rw [hG]; simp
  have hlt2:((A.length:Int)<((N-0:Nat):Int))=True:=by simp only [eq_iff_iff,iff_true]; omega
  have h1:=ih (A++[x]) (G'++[x]) (by rw [hG] at hl; simp at hl ⊢; omega) (by simp)
  have h2:=ih A (G++[x]) (by simp; omega) (by simp)
  have hl1:(((A++[x]).length+(G'++[x]).length:Nat):Int)=((A.length+G.length+1:Nat):Int):=by rw [hG]; simp; omega
  have hl2:((A.length+(G++[x]).length:Nat):Int)=((A.length+G.length+1:Nat):Int):=by simp; omega
  have hl3:((A++[x]).length:Int)=((A.length+1:Nat):Int):=by simp
  have e2:A++(G++[x])++T=A++G++x::T:=by simp
  have e1:A++[x]++dY z T=A++x::dY z T:=by simp
  rw [hl1,hl3,e1] at h1
  rw [hl2,e2] at h2
  simp only [List.length_append,List.length_cons] at h1 h2
  have hput:=OC (A++G++x::T) A.length g x hga
  rw [hset] at hput
  rw [rj]
  rw [aE]
  simp only [zc,hlt,hnn,hat,tkQ,shQ,Ua,q59,xj,fD,EW,simprocAttr]
  refine aH (fun hb=>?_) (fun hb=>?_)
  ·have hb':sf z x=false:=by simpa using hb
   simp only [zc,hb',hlt2,hga,hput,tkQ,shQ,Yf,hw,hw1,Bool.false_eq_true,xj,fD,EW,simprocAttr]
   exact h1
  ·have hb':sf z x=true:=by simpa using hb
   simp only [zc,hb',hw,xj,fD,EW,simprocAttr]
   exact h2
def Ed:bE:=⟨0,0,0⟩
def yi (z:Tree):∀(l:List bE) (i:Nat),tL z l i = -1->dY z l=l
 | [],_,_=>rfl
 |x::l,i,h=>by
  rw [tL] at h
  split at h
  ·omega
  ·rename_i hx
   rw [rj,if_neg hx,yi z l _ h]
def yj (z:Tree):∀(l:List bE) (i:Nat),tL z l i ≠ -1->∃A x T,l=A++x::T/\tL z l i=((i+A.length:Nat):Int)/\dY z l=A++dY z T
 | [],_,h=>absurd rfl h
 |x::l,i,h=>by
  rw [tL] at h ⊢
  rw [rj]
  split
  ·rename_i hx; exact ⟨[],x,l,rfl,rfl,rfl⟩
  ·rename_i hx
   rw [if_neg hx] at h
   obtain ⟨A,y,T,h1,h2,h3⟩:=yj z l (i+1) h
   exact ⟨x::A,y,T,by rw [h1]; rfl,by rw [h2]; simp; omega,by rw [h3]; rfl⟩
def Hi (m:Nat):ae:=if m=0 then .slice .sh [] else .bu 0 0 3 0 m
def FY (A G:List bE):((A++G).map bT).take A.length++(List.replicate G.length (ae.agg [.int .i64 0,.int .i64 0,.int .i64 0])++((A++G).map bT).drop (A++G).length)=(A++List.replicate G.length Ed).map bT:=by
 have h1:((A++G).map bT).take A.length=A.map bT:=by simp [List.take_append_of_le_length]
 have h2:((A++G).map bT).drop (A++G).length=[]:=by rw [List.drop_eq_nil_iff]; simp
 rw [h1,h2]
 simp [List.map_replicate]
 exact .inr rfl
def afK (xs:List bE) (z:Tree) (hz:Rt z) (hn:xs.length<=100000) (h0:xs≠[]):af lx 114 [.bu 0 0 3 0 xs.length,.func 116 [.ptr 1 0]] [.arr 3 0 (xs.map bT),.cells (aw z)] =
  some (Hi (dY z xs).length,[.arr 3 0 ((dY z xs++List.replicate (xs.length-(dY z xs).length) Ed).map bT),.cells (aw z)]):=by
 have q168:=ahq xs z hz hn
 refine aq rfl rfl rfl ?_
 by_cases hi:tL z xs 0 = -1
 ·have hk:=yi z xs 0 hi
  have hb:(tL z xs 0 == -1)=true:=by simpa using hi
  have hl:xs.length≠0:=fun hh=>h0 (List.length_eq_zero_iff.1 hh)
  rw [hk]
  simp only [A8,zc,q168,hb,xj,fD,EW,simprocAttr]
  simp [Hi,hl]
 ·obtain ⟨A,x,T,h1,h2,h3⟩:=yj z xs 0 hi
  have hb:(tL z xs 0 == -1)=false:=by simpa using hi
  simp only [Nat.zero_add] at h2
  have hlen:xs.length=A.length+(T.length+1):=by rw [h1]; simp
  have hw:IntKind.i64.wrap ((A.length:Int)+1)=((A.length+[x].length:Nat):Int):=by rw [bw (by omega) (by omega)]; simp
  have hlp:=fun k R hx=>QK (z:=z) hz hn (k:=k) (R:=R) hx T A [x] (by simp; omega) (by simp)
  have e1:A++[x]++T=xs:=by rw [h1]; simp
  rw [e1] at hlp
  rw [h2] at hb q168
  rw [h3]
  simp only [A8,zc,q168,hb,hw,xj,fD,EW,simprocAttr]
  refine (hlp _ (fun A' g=>some (Hi A'.length,[.arr 3 0 ((A'++List.replicate g Ed).map bT),.cells (aw z)])) (fun A' G v q hl hg=>?_)).trans (by simp only [List.length_append])
  have hgl:G.length≠0:=fun hh=>hg (List.length_eq_zero_iff.1 hh)
  have b1:(((A'.length:Nat):Int)<=(xs.length:Int))=True:=by simp only [eq_iff_iff,iff_true]; omega
  have b2:(((A'.length:Nat):Int)==(xs.length:Int))=false:=by simp; omega
  have hcl:=FY A' G
  have hN:(A'++G).length=xs.length:=by simp; omega
  have hd:xs.length-A'.length=G.length:=by omega
  rw [hN] at hcl
  have hz0:Int.toNat ((0:Nat):Int)=0:=rfl
  have hb0:((0:Int)<=((A'.length:Nat):Int))=True:=by simp
  by_cases hA:A'.length=0
  ·have b3:((0:Int)==((A'.length:Nat):Int))=true:=by simp [hA]
   simp only [zc,cS,Nat.sub_zero,Int.le_refl,b1,b2,hd,hcl,b3,hz0,hb0,xj,fD,EW,simprocAttr]
   simp [Hi,hA]
  ·have b3:((0:Int)==((A'.length:Nat):Int))=false:=by simp; omega
   simp only [zc,cS,Nat.sub_zero,Int.le_refl,b1,b2,hd,hcl,b3,hz0,hb0,xj,fD,EW,simprocAttr]
   simp [Hi,hA]
end
def aaB (z:Tree):af lx 168 [.slice .sh [],.func 116 [.ptr 0 0]] [.cells (aw z)]=some (.int .i64 (-1),[.cells (aw z)]):=by
 refine aq rfl rfl rfl ?_
 simp only [EA,zf,aw,xj,fD,EW,simprocAttr]
 rw [aE]
 have h0:((0:Int)<((0:Nat):Int))=False:=by simp
 simp only [zf,aw,h0,xj,fD,EW,simprocAttr]
def aat (z:Tree):af lx 114 [.slice .sh [],.func 116 [.ptr 0 0]] [.cells (aw z)]=some (.slice .sh [],[.cells (aw z)]):=by
 have h11:((-1:Int) == -1)=true:=rfl
 have q:an (af lx) 168 [.slice .sh [],.func 116 [.ptr 0 0]] [.cells (aw z)]=some (.int .i64 (-1),[.cells (aw z)]):=eL (ids:=[0]) rfl rfl (Yd z) rfl rfl (aaB z) rfl rfl rfl rfl rfl
 refine aq rfl rfl rfl ?_
 simp only [aw] at q
 simp only [A8,zc,aw,q,h11,xj,fD,EW,simprocAttr]
end
noncomputable def uW (args:List ae) (M:ai):Option (ae×ai):=aK (af lx 114 args M) fun x=>aZ (x.1.dK=false) (some (x.1.ou x.2,lr x.2 x.1.ids))
def CU {args:List ae} {M:ai} {x:ae×ai} (h:uW args M=some x):bl Tryz.prog 114 args M x:=by
 obtain ⟨y,h1,h2⟩:=av h
 obtain ⟨hp,h2⟩:=bc h2
 injection h2 with h2; subst h2
 exact x8 (Yz _ _ _ _ h1).2 hp
def Ha (z:Tree):uW [.slice .sh [],.func 116 [.ptr 0 0]] [.cells (aw z)]=some (.slice .sh [],[.cells (aw z)]):=by
 unfold uW
 rw [aat,aL]
 exact a8 rfl
def Still (b:aQ):Prop:=(∀B M,b.back B M=b)/\b.flat=true/\(∀ρ,b.iY ρ=b)
def NZ (xs:List bE) (z:Tree) (hz:Rt z) (hn:xs.length<=100000) (h0:xs≠[]):∃b,Still b/\uW [.bu 0 0 3 0 xs.length,.func 116 [.ptr 1 0]] [.arr 3 0 (xs.map bT),.cells (aw z)]=some (bL (dY z xs),[b,.cells (aw z)]):=by
 have h:=afK xs z hz hn h0
 unfold uW
 rw [h,aL]
 unfold Hi
 by_cases hl:(dY z xs).length=0
 ·have h1:dY z xs=[]:=List.length_eq_zero_iff.1 hl
  refine ⟨.arr 3 0 ((dY z xs++List.replicate (xs.length-(dY z xs).length) Ed).map bT),⟨fun _ _=>rfl,rfl,fun _=>rfl⟩,?_⟩
  rw [if_pos hl]
  refine (a8 rfl).trans ?_
  rw [h1]
  rfl
 ·refine ⟨.tick 3 ((dY z xs++List.replicate (xs.length-(dY z xs).length) Ed).map bT).length,⟨fun _ _=>rfl,rfl,fun _=>rfl⟩,?_⟩
  rw [if_neg hl]
  refine (a8 rfl).trans ?_
  have ht:List.drop 0 (List.take (dY z xs).length ((dY z xs++List.replicate (xs.length-(dY z xs).length) Ed).map bT))=(dY z xs).map bT:=by
   simp [List.take_append_of_le_length]
  show some (ae.slice .sh (List.drop 0 (List.take (dY z xs).length ((dY z xs++List.replicate (xs.length-(dY z xs).length) Ed).map bT))),_)=_
  rw [ht]
  rfl
noncomputable def gD (T:uF) (f0:Nat) (g:List ae->ai->Option (ae×ai)):uF:=⟨T.code,fun f=>if f=f0 then some g else T.iX f⟩
def mQ {P:Program} {T:uF} (hT:oH P T) {f0:Nat} {g:List ae->ai->Option (ae×ai)} (he:fX P f0=true) (hg:∀ {args:List ae} {M:ai} {x:ae×ai},g args M=some x->bl P f0 args M x):oH P (gD T f0 g):=by
 refine ⟨hT.code,fun f g' h args M x hx=>?_⟩
 simp only [gD] at h
 split at h
 ·rename_i hf
  injection h with h; subst h; subst hf
  exact ⟨he,hg hx⟩
 ·exact hT.iX f g' h args M x hx
def sS {T:uF} {f0:Nat} {g:List ae->ai->Option (ae×ai)} (h1:T.code f0=none) (h2:T.iX f0=none):∀n,o6 (eD T n) (eD (gD T f0 g) n)
 |0,f,a,M,x,h=>by
  by_cases hf:f=f0
  ·subst hf
   rw [eD,h2] at h
   cases h
  ·have hp:(gD T f0 g).iX f=T.iX f:=by simp [gD,hf]
   rw [eD] at h ⊢
   rw [hp]
   exact h
 |n+1,f,a,M,x,h=>by
  by_cases hf:f=f0
  ·subst hf
   rw [eD,h2,h1] at h
   cases h
  ·have hp:(gD T f0 g).iX f=T.iX f:=by simp [gD,hf]
   rw [eD] at h ⊢
   rw [hp]
   split at h
   ·rename_i g hg; exact h
   ·rename_i hg
    have hc:(gD T f0 g).code f=T.code f:=rfl
    rw [hc]
    split at h
    ·cases h
    ·rename_i fn hfn
     split at h
     ·rename_i hl
      simp only [if_pos hl]
      obtain ⟨o,ho,h⟩:=av h
      rw [eO (sS h1 h2 n) _ ho,aL]
      exact h
     ·cases h
def mP {T:uF} {f0:Nat} {g:List ae->ai->Option (ae×ai)} (h1:T.code f0=none) (h2:T.iX f0=none) {f:Nat} {a:List ae} {M:ai} {x:ae×ai} (h:af T f a M=some x):af (gD T f0 g) f a M=some x:=by
 obtain ⟨n,hn⟩:=ov h
 exact jJ (fun n x h=>lD _ n f a M x h) (sS h1 h2 n f a M x hn)
noncomputable def ad6:uF:=gD aV 114 uW
def RJ:oH Tryz.prog ad6:=mQ YB (by kernel_rfl) (fun h=>CU h)
noncomputable def cG:uF:=gD ad6 98 wT
def Fo:oH Tryz.prog cG:=mQ RJ (by kernel_rfl) (fun h=>OI h)
def D1:iM Tryz.prog (af cG):=mD (by kernel_rfl) Fo
def Fp {f:Nat} {a:List ae} {M:ai} {x:ae×ai} (h:af aV f a M=some x):af cG f a M=some x:=mP rfl rfl (mP rfl rfl h)
def lS' {f:Nat} {a:List ae} {M:ai} {x:ae×ai} (h:af aV f a M=some x):af cG f a M=some x:=Fp h
def lS {f:Nat} {vs:List ae} {M:ai} {x:ae×ai} (h:an (af aV) f vs M=some x):an (af cG) f vs M=some x:=by
 obtain ⟨a,B,y,h1,h2⟩:=iq h
 exact h2 _ (Fp h1)
def k98 (s:Bytes) (hs:s.length<=100000) (M:ai):an (af cG) 98 [.str s] M=some (.tuple [fC (cD s).1,.int .i64 (cD s).2],M):=by
 have h:af cG 98 [.str s] []=some (.tuple [fC (cD s).1,.int .i64 (cD s).2],[]):=by
  refine bM (g:=wT) rfl ?_
  unfold wT
  simp only []
  rw [if_pos ⟨trivial,hs⟩]
 exact eH h rfl rfl rfl rfl rfl M
section
def rr {s:Bytes} (h:c8 s=true):s.length<=32:=by
 unfold c8 at h
 simp only [Bool.and_eq_true,Bool.not_eq_true',Bool.or_eq_false_iff,decide_eq_false_iff_not] at h
 omega
def B8:∀(x:List (Bytes×Bool)) (n:Nat) (l:List Bytes),iZ x n=some l->n<=12->(∀s,s∈l->c8 s=true)/\l.length+n<=12
 | [],n,l,h,hn=>by
  simp only [iZ,Option.some.injEq] at h
  subst h
  exact ⟨fun s hs=>by simp at hs,by simp; omega⟩
 |x::r,n,l,h,hn=>by
  rw [iZ] at h
  split at h
  ·cases h
  ·rename_i hb
   cases hr:iZ r (n+1) with
   |none=>rw [hr] at h; cases h
   |some k =>
    rw [hr] at h
    simp only [Option.map_some,Option.some.injEq] at h
    subst h
    have hb':xn x n=false:=by simpa using hb
    unfold xn at hb'
    simp only [Bool.or_eq_false_iff,Bool.not_eq_false',beq_eq_false_iff_ne] at hb'
    obtain ⟨g1,g2⟩:=B8 r (n+1) k hr (by omega)
    refine ⟨fun s hs=>?_,by simp; omega⟩
    rcases List.mem_cons.1 hs with h1|h1
    ·subst h1; exact hb'.1.2
    ·exact g1 s h1
def qd (s:Bytes):(∀x,x∈(cD s).1->c8 x=true)/\(cD s).1.length<=12:=by
 unfold cD
 split
 ·exact ⟨fun s hs=>by simp at hs,by simp⟩
 ·split
  ·exact ⟨fun s hs=>by simp at hs,by simp⟩
  ·exact ⟨fun s hs=>by simp at hs,by simp⟩
  ·rename_i l hl
   obtain ⟨g1,g2⟩:=B8 _ 0 _ hl (by omega)
   exact ⟨g1,by omega⟩
def xf:∀l:List Bytes,ur (l.map ae.str)=some l
 | []=>rfl
 |s::r=>by
  show aK (ur (r.map ae.str)) (fun l=>some (s::l))=_
  rw [xf r]; rfl
def wB (l:List Bytes) (h:∀x,x∈l->c8 x=true):(Lib.join l [47]).length<=33*l.length:=by
 induction l with
 |nil=>simp [Lib.join]
 |cons a r ih =>
  have h1:=rr (h a (by simp))
  have h2:=ih (fun x hx=>h x (by simp [hx]))
  cases r with
  |nil=>simp [Lib.join]; omega
  |cons b r=>simp [Lib.join] at h2 ⊢; omega
def yo (l:List Bytes):Bytes:=if ((l.length:Int)==0)=true then [47] else [47]++Lib.join l [47]
def GC (l:List Bytes) (h:∀x,x∈l->c8 x=true) (hl:l.length<=12):(yo l).length<=1000:=by
 unfold yo
 have:=wB l h
 split<;>simp<;>omega
def ahz (l:List Bytes) (h:∀x,x∈l->c8 x=true) (hl:l.length<=12) (M:ai):an (af aV) 199 [fC l,.str [47]] M=some (.str (Lib.join l [47]),M):=by
 have hq:af aV 199 [fC l,.str [47]] []=some (.str (Lib.join l [47]),[]):=by
  refine bM (g:=BO) rfl ?_
  unfold BO
  simp only []
  rw [xf,aL,if_pos]
  have:=wB l h
  omega
 exact eH hq rfl rfl rfl rfl rfl M
attribute [local irreducible] cT cR gz gK bR kr af an aZ aK
def agl (l:List Bytes) (h:∀x,x∈l->c8 x=true) (hl:l.length<=12):af aV 161 [fC l] []=some (.str (yo l),[]):=by
 refine aq rfl rfl rfl ?_
 have q:=ahz l h hl
 have hm:(IntKind.i64.max<((1+(Lib.join l [47]).length:Nat):Int))=False:=max_lt _ (by have:=wB l h; omega)
 unfold yo
 simp only [KD,Zb,q,EW,simprocAttr]
 cases h0:(l.length:Int)==0<;>simp only [Zb,h0,Bool.false_eq_true,if_true,if_false,q,hm,EW,simprocAttr]
def ahp (l:List Bytes) (h:∀x,x∈l->c8 x=true) (hl:l.length<=12) (M:ai):an (af aV) 161 [fC l] M=some (.str (yo l),M):=cO (agl l h hl) M
def jn (s:Bytes):Bytes×Bytes×Int :=
 if ((cD s).2 != 0||(((cD s).1.length:Int)==0))=true then ([],[],60)
 else ((cD s).1.getD ((cD s).1.length-1) [],yo ((cD s).1.take ((cD s).1.length-1)),0)
def afD (s:Bytes) (hs:s.length<=100000):af cG 106 [.str s] []=some (.tuple [.str (jn s).1,.str (jn s).2.1,.int .i64 (jn s).2.2],[]):=by
 refine aq rfl rfl rfl ?_
 have q:=k98 s hs
 obtain ⟨h1,h2⟩:=qd s
 unfold jn
 generalize cD s=l at q h1 h2 ⊢
 obtain ⟨l,e⟩:=l
 simp only at h1 h2
 have q2:=fun M=>lS (ahp (l.take (l.length-1)) (fun x hx=>h1 x (List.mem_of_mem_take hx)) (by simp; omega) M)
 simp only [fC,List.map_take] at q2
 simp only [J0,O1,q,EW,simprocAttr]
 cases he:e != 0
 ·cases h0:(l.length:Int)==0
  ·have hne:0<l.length:=by
    have:¬((l.length:Int)=0):=by simpa using h0
    omega
   have hw:IntKind.i64.wrap ((l.length:Int)-1)=((l.length-1:Nat):Int):=by rw [bw (by omega) (by omega)]; omega
   have hx:=List.getElem?_eq_getElem (show l.length-1<l.length by omega)
   have hg:l.getD (l.length-1) []=l[l.length-1]:=by simp [List.getD,hx]
   have hle:((l.length-1:Nat):Int)<=(l.length:Int):=by omega
   have hz:((0:Int)<=((l.length-1:Nat):Int))=True:=by simp
   simp only [O1,he,h0,hw,hx,q2,hg,hle,hz,Bool.or_self,Bool.false_eq_true,if_false,EW,simprocAttr]
  ·simp only [O1,he,h0,Bool.or_true,if_true,EW,simprocAttr]
 ·simp only [O1,he,Bool.true_or,if_true,EW,simprocAttr]
def ahc (s:Bytes) (hs:s.length<=100000) (M:ai):an (af cG) 106 [.str s] M=some (.tuple [.str (jn s).1,.str (jn s).2.1,.int .i64 (jn s).2.2],M):=cO (afD s hs) M
def yt (s:Bytes) (_hs:s.length<=100000):(jn s).1.length<=1000/\(jn s).2.1.length<=1000:=by
 obtain ⟨h1,h2⟩:=qd s
 unfold jn
 split
 ·exact ⟨by simp,by simp⟩
 ·refine ⟨?_,GC _ (fun x hx=>h1 x (List.mem_of_mem_take hx)) (by simp; omega)⟩
  simp only [List.getD]
  cases hx:(cD s).1[(cD s).1.length-1]? with
  |none=>simp
  |some x=>have:=rr (h1 x (List.mem_of_getElem? hx)); simp; omega
def oE (nodes:List Node):List Bytes->Int->Int×Int
 | [],ino=>(ino,0)
 |s::r,ino=>if ((cA nodes ino s).2 != 0)=true then (0,(cA nodes ino s).2) else oE nodes r (cA nodes ino s).1
def dZ (t:Tree) (path:Bytes):Int×Int:=if ((cD path).2 != 0)=true then (0,(cD path).2) else oE t.nodes (cD path).1 1
def QI {t:Tree} (ht:Small t) (hr:jS t) {xs:List Bytes} (hxs:∀x,x∈xs->x.length<=100000) (hn:xs.length<=100000) :
  ∀(l pre:List Bytes) (ino:Int),xs=pre++l->cT (af cG) [.tmp 4,.tmp 5] 0 [.block 0,.seq Yh] (.loop [2,8,19,20,21] Ql) [(2,.ptr 0 0),(8,.int .i64 ino),(19,fC xs),(20,.int .i64 xs.length),(21,.int .i64 pre.length)] [.cells (aw t)] =
   some (.tuple [.int .i64 (oE t.nodes l ino).1,.int .i64 (oE t.nodes l ino).2],[]):=by
 intro l
 induction l with
 |nil =>
  intro pre ino h
  rw [aE]
  simp only [Cj,bZ h,aw,oE,EW,simprocAttr]
 |cons s rest ih =>
  intro pre ino h
  rw [aE]
  have hlen:pre.length+1<=100000:=by rw [h] at hn; simp at hn; omega
  have hw:IntKind.i64.wrap ((pre.length:Int)+1)=((pre++[s]).length:Int):=by rw [bw (by omega) (by omega)]; exact bp
  have hi1:=ih (pre++[s]) (cA t.nodes ino s).1 (by rw [h]; simp)
  have q:=fun M=>lS (k84 t.nodes t.next t.ag ino s ht hr (hxs s (by rw [h]; simp)) trivial M)
  rw [oE]
  generalize cA t.nodes ino s=v at q hi1 ⊢
  simp only [List.length_append,List.length_cons,List.length_nil,Nat.zero_add,aw] at hi1
  simp only [Cj,aY h,aW h,aw,q,EW,simprocAttr]
  cases he:v.2 != 0
  ·simp only [Cj,he,hw,Bool.false_eq_true,if_false,EW,simprocAttr]
   exact hi1
  ·simp only [Cj,he,if_true,EW,simprocAttr]
def afB (t:Tree) (path:Bytes) (ht:Small t) (hr:jS t) (hp:path.length<=100000):af cG 104 [bI t,.str path] []=some (.tuple [.int .i64 (dZ t path).1,.int .i64 (dZ t path).2],[]):=by
 refine aq rfl rfl rfl ?_
 have q:=k98 path hp
 obtain ⟨h1,h2⟩:=qd path
 have hl:=QI ht hr (xs:=(cD path).1) (fun x hx=>by have:=rr (h1 x hx); omega) (by omega) (cD path).1 [] 1 rfl
 unfold dZ
 generalize cD path=v at q hl ⊢
 simp only [aw,List.length_nil] at hl
 simp only [JY,Cj,bI,aw,q,EW,simprocAttr]
 cases he:v.2 != 0
 ·simp only [Cj,he,Bool.false_eq_true,if_false,EW,simprocAttr]
  exact hl
 ·simp only [Cj,he,if_true,EW,simprocAttr]
def abm (t:Tree) (path:Bytes) (ht:Small t) (hr:jS t) (hp:path.length<=100000) (M:ai):an (af cG) 104 [.agg [aF t.nodes,.int .i64 t.next,.int .i64 t.ag],.str path] M=some (.tuple [.int .i64 (dZ t path).1,.int .i64 (dZ t path).2],M) :=
 cO (afB t path ht hr hp) M
def cr (e:Int):ae := .gw (.iface 44 (.int .i64 e))
def c72 (e:Int):af cG 72 [.int .i64 e] []=some (if (e != 0)=true then cr e else .tuple [],[]):=by
 refine aq rfl rfl rfl ?_
 simp only [Vh,E72,EW,simprocAttr]
 cases he:e != 0
 ·simp only [E72,Bool.false_eq_true,if_false,EW,simprocAttr]
 ·simp only [E72,if_true,valOf,cr,EW,simprocAttr]
def mu (e:Int) (M:ai):an (af cG) 72 [.int .i64 e] M=some (if (e != 0)=true then cr e else .tuple [],M) :=
 eH (c72 e) rfl rfl (by split<;>rfl) rfl (by split<;>rfl) M
def c41 (b:Bool) (e:Int) (he:(e != 0)=true):af cG 41 [.bool b,.int .i64 e] []=some (if b=true then .tuple [] else cr e,[]):=by
 refine aq rfl rfl rfl ?_
 have q:=mu e
 rw [if_pos he] at q
 cases b<;>simp only [U8,E41,q,cr,Bool.false_eq_true,if_true,if_false,EW,simprocAttr]
def HI (b:Bool) (e:Int) (he:(e != 0)=true) (M:ai):an (af cG) 41 [.bool b,.int .i64 e] M=some (if b=true then .tuple [] else cr e,M) :=
 eH (c41 b e he) rfl rfl (by split<;>rfl) rfl (by split<;>rfl) M
end
section
attribute [local irreducible] cT cR gz gK bR kr af an aZ aK
def aN (f:aa) (o:dL):List ae:=[aF f.s.now.nodes,.int .i64 f.s.now.next,.int .i64 f.s.now.ag,.int .i64 f.s.tick,kE f.s.since,jf f.s.cP,ei f.s.taken,.int .i64 f.s.next,dn f.holds,bL f.ct,
 .int .i64 o.kind,.int .i64 o.aj,.str o.path,.str o.ng,.int .i64 o.n,.int .i64 o.m,.int .i64 o.handle,cY o.data,
 .int .i64 0,.int .i64 0,.int .i64 0,.int .i64 0,.int .i64 0,.slice .c0 [],.slice .c0 []]
abbrev aP (f:aa) (o:dL):aQ := .cells (aN f o)
def bh (f:aa) (o:dL) (a:oV) (x y:ae):aQ := .cells [aF f.s.now.nodes,.int .i64 f.s.now.next,.int .i64 f.s.now.ag,.int .i64 f.s.tick,kE f.s.since,jf f.s.cP,ei f.s.taken,.int .i64 f.s.next,dn f.holds,bL f.ct,
 .int .i64 o.kind,.int .i64 o.aj,.str o.path,.str o.ng,.int .i64 o.n,.int .i64 o.m,.int .i64 o.handle,cY o.data,
 .int .i64 a.err,.int .i64 a.ino,.int .i64 a.kind,.int .i64 a.n,.int .i64 a.m,x,y]
def Row (x:ae) (xs:List ae):Prop:=x = .slice .sh xs\/(x = .slice .c0 []/\xs=[])
def ik (K:Nat) (f:aa) (o:dL) (r:aa×oV×Int):Prop :=
 ∃x y,Row x (r.2.1.names.map ae.str)/\Row y (r.2.1.data.map jt)/\af cG K [.ptr 0 0] [.cells (aN f o)]=some (if (r.2.2 != 0)=true then cr r.2.2 else .tuple [],[bh r.1 o r.2.1 x y])
def cn:oV:=⟨0,0,0,0,0,[],[]⟩
def Bs {C:cu} {g p:Nat} {vs:List ae} {r:ae} {M:ai} {f f':aa} {o o':dL} (hM:nth M p=some (aP f o)) (h:C g (.ptr 0 0::vs) [aP f o]=some (r,[aP f' o']))
  (h1:vs.all ae.flat=true) (h2:vs.flatMap ae.ids=[]) (h3:r.qz=true) (h4:∀p,vs.map (ae.iY (dh [p]))=vs) (h5:∀p,r.vl (qk [p])=r) :
  an C g (.ptr p 0::vs) M=some (r,dG M p (aP f' o')) :=
 gN hM h h1 h2 h3 (h4 p) (h5 p) rfl rfl rfl rfl rfl
def afC (f:aa) (o:dL) (ino:Int) (ht:Small f.s.now) (hr:jS f.s.now):af cG 105 [.ptr 0 0,.int .i64 ino] [aP f o]=some (.agg (az (aJ f.s.now.nodes ino)),[aP f o]):=by
 refine aq rfl rfl rfl ?_
 have q:=fun M=>lS (xD f.s.now ino ht hr M)
 simp only [az] at q
 simp only [JZ,aey,aP,aN,q,az,EW,simprocAttr]
def abn (f:aa) (o:dL) (ino:Int) (ht:Small f.s.now) (hr:jS f.s.now) {p:Nat} {M:ai} (hM:nth M p=some (aP f o)):an (af cG) 105 [.ptr p 0,.int .i64 ino] M=some (.agg (az (aJ f.s.now.nodes ino)),M):=by
 have:=Bs hM (afC f o ino ht hr) rfl rfl rfl (fun _=>rfl) (fun _=>rfl)
 rwa [ij hM] at this
def c78 (f:aa) (o:dL) (path:Bytes) (ht:Small f.s.now) (hr:jS f.s.now) (hp:path.length<=100000):af cG 78 [.ptr 0 0,.str path] [aP f o] =
  some (if ((dZ f.s.now path).2 != 0)=true then cr (dZ f.s.now path).2 else .agg (az (aJ f.s.now.nodes (dZ f.s.now path).1)),[aP f o]):=by
 refine aq rfl rfl rfl ?_
 have q1:=abm f.s.now path ht hr hp
 generalize dZ f.s.now path=v at q1 ⊢
 have q2:=mu v.2
 have q3:∀b,an (af cG) 105 [.ptr 0 0,.int .i64 v.1] [aP f o,b]=some (.agg (az (aJ f.s.now.nodes v.1)),[aP f o,b]):=fun b=>abn f o v.1 ht hr (p:=0) rfl
 simp only [aP,aN,az] at q3
 simp only [Vj,E78,aP,aN,q1,EW,simprocAttr]
 cases he:v.2 != 0<;>simp only [he,Bool.false_eq_true,if_true,if_false,cr] at q2 ⊢
 ·simp only [E78,q2,q3,az,EW,simprocAttr]
 ·simp only [E78,q2,EW,simprocAttr]
def VF (f:aa) (o:dL) (path:Bytes) (ht:Small f.s.now) (hr:jS f.s.now) (hp:path.length<=100000) {p:Nat} {M:ai} (hM:nth M p=some (aP f o)):an (af cG) 78 [.ptr p 0,.str path] M =
  some (if ((dZ f.s.now path).2 != 0)=true then cr (dZ f.s.now path).2 else .agg (az (aJ f.s.now.nodes (dZ f.s.now path).1)),M):=by
 have:=Bs hM (c78 f o path ht hr hp) rfl rfl (by split<;>rfl) (fun _=>rfl) (fun _=>by split<;>rfl)
 rwa [ij hM] at this
def fx (t:Tree) (path:Bytes):Int×Bytes×Int :=
 if ((jn path).2.2 != 0)=true then (0,[],(jn path).2.2)
 else if ((dZ t (jn path).2.1).2 != 0)=true then (0,[],(dZ t (jn path).2.1).2)
 else ((dZ t (jn path).2.1).1,(jn path).1,0)
def c79 (f:aa) (o:dL) (path:Bytes) (ht:Small f.s.now) (hr:jS f.s.now) (hp:path.length<=100000):af cG 79 [.ptr 0 0,.str path] [aP f o] =
  some (if ((fx f.s.now path).2.2 != 0)=true then cr (fx f.s.now path).2.2 else .tuple [.int .i64 (fx f.s.now path).1,.str (fx f.s.now path).2.1],[aP f o]):=by
 refine aq rfl rfl rfl ?_
 have q1:=ahc path hp
 have hl:=yt path hp
 have q4:=abm f.s.now (jn path).2.1 ht hr (by omega)
 unfold fx
 generalize jn path=l at q1 q4 ⊢
 have q2:=mu l.2.2
 generalize dZ f.s.now l.2.1=v at q4 ⊢
 have q3:=mu v.2
 simp only [Vk,E79,aP,aN,q1,EW,simprocAttr]
 cases he:l.2.2 != 0<;>simp only [he,Bool.false_eq_true,if_true,if_false,cr] at q2 ⊢
 ·cases hv:v.2 != 0<;>simp only [hv,Bool.false_eq_true,if_true,if_false,cr] at q3 ⊢
  ·simp only [E79,q2,q4,q3,bne_self_eq_false,Bool.false_eq_true,if_false,EW,simprocAttr]
  ·simp only [E79,q2,q4,q3,hv,if_true,EW,simprocAttr]
 ·simp only [E79,q2,he,if_true,EW,simprocAttr]
def k79 (f:aa) (o:dL) (path:Bytes) (ht:Small f.s.now) (hr:jS f.s.now) (hp:path.length<=100000) {p:Nat} {M:ai} (hM:nth M p=some (aP f o)):an (af cG) 79 [.ptr p 0,.str path] M =
  some (if ((fx f.s.now path).2.2 != 0)=true then cr (fx f.s.now path).2.2 else .tuple [.int .i64 (fx f.s.now path).1,.str (fx f.s.now path).2.1],M):=by
 have:=Bs hM (c79 f o path ht hr hp) rfl rfl (by split<;>rfl) (fun _=>rfl) (fun _=>by split<;>rfl)
 rwa [ij hM] at this
def sO (n:Node):Int:=if (n.data.length:Int)<(n.au.length:Int) then (n.au.length:Int) else (n.data.length:Int)
def c88 (n:Node):af cG 88 [bm n] []=some (.int .i64 (sO n),[]):=by
 refine aq rfl rfl rfl ?_
 simp only [Vs,E88,bm,az,sO,EW,simprocAttr]
def XJ {xs:List cJ} (hn:xs.length<=100000) {k:List K} {R:List Bytes->Option (ae×ai)}
  (hx:∀(out:List Bytes) e,kr (af cG) [.tmp 2] 0 k ⟨.exit 0,(3,.slice (.own 0) (out.map ae.str))::e,[.tick 1 out.length]⟩=R out) :
  ∀(l pre:List cJ) (out:List Bytes),xs=pre++l->out.length<=pre.length->cT (af cG) [.tmp 2] 0 k (.loop [3,6,7,8] Xl) [(3,.slice (.own 0) (out.map ae.str)),(6,fR xs),(7,.int .i64 xs.length),(8,.int .i64 pre.length)] [.tick 1 out.length]=R (out++l.map cJ.name):=by
 intro l
 induction l with
 |nil =>
  intro pre out h ho
  rw [aE]
  simp only [E87,bZ h,List.map_nil,List.append_nil,EW,simprocAttr]
  exact hx _ _
 |cons n rest ih =>
  intro pre out h ho
  rw [aE]
  have hlen:pre.length+1<=100000:=by rw [h] at hn; simp at hn; omega
  have hw:IntKind.i64.wrap ((pre.length:Int)+1)=((pre++[n]).length:Int):=by rw [bw (by omega) (by omega)]; exact bp
  have hi:=ih (pre++[n]) (out++[n.name]) (by rw [h]; simp) (by simp; omega)
  simp only [List.length_append,List.length_cons,List.length_nil,List.map_append,List.map_cons,List.map_nil,Nat.zero_add,List.append_assoc,List.cons_append,List.nil_append] at hi
  have r1:bP (out.length+1) 16=True:=dv (by omega) (by omega)
  simp only [E87,aY h,aW h,dy,r1,hw,List.map_cons,EW,simprocAttr]
  exact hi
def c87 (l:List cJ) (hn:l.length<=100000):af cG 87 [fR l] []=some (fC (l.map cJ.name),[]):=by
 refine aq rfl rfl rfl ?_
 have hl:=XJ hn (k:=[.block 0,.seq adS]) (R:=fun out=>some (fC out,[])) (fun out e=>by simp only [E87,EW,simprocAttr]) l [] [] rfl (Nat.le_refl _)
 simp only [List.map_nil,List.length_nil] at hl
 simp only [Vr,E87,EW,simprocAttr]
 exact hl
def k87 (l:List cJ) (hn:l.length<=100000) (M:ai):an (af cG) 87 [fR l] M=some (fC (l.map cJ.name),M):=cO (c87 l hn) M
def k88 (n:Node) (M:ai):an (af cG) 88 [.agg (az n)] M=some (.int .i64 (sO n),M):=cO (c88 n) M
end
section
abbrev eI:Int->ae:=fun n => .int .i64 n
def bkI (B:Nat) (M:ai) (l:AM Int):List.map (ae.eS B M) (jD eI l)=jD eI l:=PC _ _ _ (fun _=>rfl) l
attribute [local irreducible] cT cR gz gK bR kr af an aZ aK
def rZ (nodes:List Node) (dom:Int):List cJ->AM Int->Option (AM Int)
 | [],m=>some m
 |e::r,m=>if ((aJ nodes e.ino).kind==1&&(cp m e.ino).isSome&&((cp m e.ino).getD 0 != dom))=true then none else rZ nodes dom r (iC m e.ino dom)
def lN (nodes:List Node) (l:List bE):List Node->AM Int->Bool
 | [],_=>true
 |d::r,m=>if ((d.au.length:Int)==0)=true then lN nodes l r m else match rZ nodes (r8 nodes l d.ino) d.au m with
  |none=>false
  |some m'=>lN nodes l r m'
def ke (t:Tree) (l:List bE):Bool:=lN t.nodes l t.nodes []
def Na {t:Tree} (ht:Small t) (hr:jS t) {ql:List bE} {d:Node} {dom i n0:Int} {k:List K} {R:Option (AM Int)->Option (ae×ai)} (hn:d.au.length<=100000)
  (hx:∀m e,kr (af aV) [.tmp 4] 0 k ⟨.exit 2,(1,bL ql)::(2,.ptr 0 0)::(5,.df 1)::(8,.int .i64 dom)::(17,aF t.nodes)::(18,.int .i64 n0)::(19,.int .i64 i)::e,[.cells (aw t),.map (uM m) (jD eI m),.cells (az d)]⟩=R (some m))
  (hret:∀m b1 b2,kr (af aV) [.tmp 4] 0 k ⟨.ret,[(4,.bool false)],[.cells (aw t),.map (uM m) (jD eI m),.cells (az d),b1,b2]⟩=R none) :
  ∀(l pre:List cJ) (m:AM Int),d.au=pre++l->cT (af aV) [.tmp 4] 0 k (.loop [1,2,5,8,17,18,19,33,34,35] Qo) [(1,bL ql),(2,.ptr 0 0),(5,.df 1),(8,.int .i64 dom),(17,aF t.nodes),(18,.int .i64 n0),(19,.int .i64 i),(33,fR d.au),(34,.int .i64 d.au.length),(35,.int .i64 pre.length)] [.cells (aw t),.map (uM m) (jD eI m),.cells (az d)] =
   R (rZ t.nodes dom l m):=by
 simp only [aw,az] at hx hret ⊢
 intro l
 induction l with
 |nil =>
  intro pre m h
  rw [aE]
  simp only [vC,bZ h,rZ,bkI,EW,simprocAttr]
  exact hx _ _
 |cons e rest ih =>
  intro pre m h
  rw [aE]
  have hlen:pre.length+1<=100000:=by rw [h] at hn; simp at hn; omega
  have hw:IntKind.i64.wrap ((pre.length:Int)+1)=((pre++[e]).length:Int):=by rw [bw (by omega) (by omega)]; exact bp
  have q1:=xD t e.ino ht hr
  have hput:=lY eI m e.ino dom
  have hi:=ih (pre++[e]) (iC m e.ino dom) (by rw [h]; simp)
  rw [rZ]
  simp only [az,List.length_append,List.length_cons,List.length_nil,Nat.zero_add] at q1 hi
  simp only [vC,aY h,aW h,dy,q1,iv,mapOf.eq_1,EW,simprocAttr]
  cases hm:cp m e.ino with
  |none =>
   cases hk:(aJ t.nodes e.ino).kind==1<;>simp only [vC,hm,hk,M9,hput,hw,mapOf.eq_1,bkI,Option.map_none,Option.isSome_none,Bool.and_false,Bool.false_and,Bool.false_eq_true,if_false,EW,simprocAttr]
   ·exact hi
   ·exact hi
  |some v =>
   cases hk:(aJ t.nodes e.ino).kind==1<;>cases hd:v != dom<;>simp only [vC,hm,hk,hd,ET,hput,hw,mapOf.eq_1,bkI,Option.map_some,Option.isSome_some,Option.getD_some,Bool.and_false,Bool.false_and,Bool.and_true,Bool.true_and,Bool.false_eq_true,if_true,if_false,EW,simprocAttr]
   ·exact hi
   ·exact hi
   ·exact hi
   ·exact hret _ _ _
def Nb {t:Tree} {dep:Int->Nat} (ht:bN t dep 0) {ql:List bE} (hq:ml ql) (hql:ql.length<=100000) :
  ∀(l pre:List Node) (m:AM Int),t.nodes=pre++l->cT (af aV) [.tmp 4] 0 [.block 0,.seq Fg] (.loop [1,2,5,17,18,19] EO) [(1,bL ql),(2,.ptr 0 0),(5,.df 1),(17,aF t.nodes),(18,.int .i64 t.nodes.length),(19,.int .i64 pre.length)] [.cells (aw t),.map (uM m) (jD eI m)] =
   some (.bool (lN t.nodes ql l m),[]):=by
 intro l
 induction l with
 |nil =>
  intro pre m h
  rw [aE]
  simp only [vC,bZ h,lN,aw,EW,simprocAttr]
 |cons d rest ih =>
  intro pre m h
  rw [aE]
  have hn:=ht.nodes
  have hlen:pre.length+1<=200:=by rw [h] at hn; simp at hn; omega
  have hw:IntKind.i64.wrap ((pre.length:Int)+1)=((pre++[d]).length:Int):=by rw [bw (by omega) (by omega)]; exact bp
  have hi:=fun m=>ih (pre++[d]) m (by rw [h]; simp)
  have hfd:find t.nodes d.ino=some d:=(ga ht.gx.fh).2 ⟨by rw [h]; simp,rfl⟩
  rw [lN]
  simp only [aw,List.length_append,List.length_cons,List.length_nil,Nat.zero_add] at hi
  simp only [vC,aY h,aW h,aw,az,EW,simprocAttr]
  cases he:(d.au.length:Int)==0
  ·have hk:d.kind=2:=by
    rcases ht.kind _ _ hfd with h1|h1
    ·rw [(ht.file _ _ hfd h1).1] at he; simp at he
    ·exact h1
   have q1:=ahr ht hq hql hfd hk
   have hin:=Na ht.sz.zX ht.gx (ql:=ql) (d:=d) (dom:=r8 t.nodes ql d.ino) (i:=pre.length) (n0:=t.nodes.length) (k:=[.block 2,.block 1,.seq Rr,.loop [1,2,5,17,18,19] 2 EO,.block 0,.seq Fg])
    (R:=fun o=>some (.bool (match o with|none=>false|some m'=>lN t.nodes ql rest m'),[])) (by have:=(ht.qm _ _ hfd).2; omega)
    (fun m e=>by
     have:=hi m
     simp only [aw,az,vC,hw,bkI,EW,simprocAttr]
     exact this)
    (fun m b1 b2=>by simp only [aw,az,vC,EW,simprocAttr]) d.au [] m rfl
   simp only [aw,az,List.length_nil] at hin
   simp only [vC,he,q1,Bool.false_eq_true,if_false,EW,simprocAttr]
   refine hin.trans ?_
   rfl
  ·simp only [vC,he,hw,if_true,bkI,EW,simprocAttr]
   exact hi m
def afN (t:Tree) (l:List bE) (ht:Rt t) (hq:ml l) (hl:l.length<=100000):af aV 118 [bI t,bL l] []=some (.bool (ke t l),[]):=by
 obtain ⟨dep,ht⟩:=ht
 refine aq rfl rfl rfl ?_
 have h:=Nb ht hq hl t.nodes [] [] rfl
 simp only [aw,List.length_nil] at h
 simp only [J9,vC,bI,aw,EW,simprocAttr]
 exact h
def ahf (t:Tree) (l:List bE) (ht:Rt t) (hq:ml l) (hl:l.length<=100000) (M:ai):an (af aV) 118 [.agg [aF t.nodes,.int .i64 t.next,.int .i64 t.ag],bL l] M=some (.bool (ke t l),M):=cO (afN t l ht hq hl) M
end
section
def yG {args:List ae} {M:ai} {x:ae×ai} (h:uW args M=some x):af cG 114 args M=some x:=bM (T:=cG) (g:=uW) rfl h
def adN (xs:List ae) (z:Tree) (W:aQ):dN [W,.cells (aw z),.arr 3 0 xs] (dh [2,1]) [2,1]=some [.arr 3 0 xs,.cells (aw z)]:=rfl
def X9 (z:Tree) (W:aQ):dN [W,.cells (aw z)] (dh [1]) [1]=some [.cells (aw z)]:=rfl
attribute [local irreducible] cT cR gz gK bR kr af an aZ aK
def abq (z:Tree) (W:aQ):an (af cG) 114 [.slice .sh [],.func 116 [.ptr 1 0]] [W,.cells (aw z)]=some (.slice .sh [],[W,.cells (aw z)]) :=
 eL (ids:=[1]) rfl rfl (X9 z W) rfl rfl (yG (Ha z)) rfl rfl rfl rfl rfl
def ahe (xs:List bE) (z:Tree) (hz:Rt z) (hn:xs.length<=100000) (h0:xs≠[]) (W:aQ):∃b,Still b/\an (af cG) 114 [.bu 2 0 3 0 xs.length,.func 116 [.ptr 1 0]] [W,.cells (aw z),.arr 3 0 (xs.map bT)] =
  some (bL (dY z xs),[W,.cells (aw z),b]):=by
 obtain ⟨b,hb,h⟩:=NZ xs z hz hn h0
 refine ⟨b,hb,eL (ids:=[2,1]) rfl rfl (adN _ z W) rfl rfl (yG h) rfl rfl ?_ rfl ?_⟩
 ·simp only [List.all_cons,hb.2.1]; rfl
 ·simp only [fy,hb.2.2]; rfl
def jG (l:List cf):List Int->Tree->Tree
 | [],t=>t
 |i::r,t=>jG l r (if (!wv l i)=true then (lf t i).1 else t)
def tC (l:List cf):∀(r:List Int) (t:Tree),Rt t->Rt (jG l r t)
 | [],t,h=>h
 |i::r,t,h=>by
  rw [jG]
  refine tC l r _ ?_
  split
  ·exact h.free i
  ·exact h
def Q4 {f:aa} {o:dL} {q:List bE} (hh:f.holds.length<=100000) {xs:List Int} (hn:xs.length<=100000) {fin:Tree} {k:List K} {r:Option (ae×ai)}
  (hx:∀e,kr (af cG) [] 1 k ⟨.exit 0,(0,.ptr 0 0)::(2,bL q)::(4,.ptr 1 0)::e,[aP f o,.cells (aw fin)]⟩=r) :
  ∀(l pre:List Int) (t:Tree),xs=pre++l->Rt t->jG f.holds l t=fin->cT (af cG) [] 1 k (.loop [0,2,4,13,14,15] Xk) [(0,.ptr 0 0),(2,bL q),(4,.ptr 1 0),(13,kE xs),(14,.int .i64 xs.length),(15,.int .i64 pre.length)] [aP f o,.cells (aw t)]=r:=by
 simp only [aP,aN,aw] at hx ⊢
 intro l
 induction l with
 |nil =>
  intro pre t h ht hfin
  rw [aE]
  rw [jG] at hfin
  subst hfin
  simp only [vn,bZ h,EW,simprocAttr]
  exact hx _
 |cons i rest ih =>
  intro pre t h ht hfin
  rw [aE]
  have hlen:pre.length+1<=100000:=by rw [h] at hn; simp at hn; omega
  have hw:IntKind.i64.wrap ((pre.length:Int)+1)=((pre++[i]).length:Int):=by rw [bw (by omega) (by omega)]; exact bp
  rw [jG] at hfin
  have hi1:=ih (pre++[i]) t (by rw [h]; simp) ht
  have hi2:=ih (pre++[i]) (lf t i).1 (by rw [h]; simp) (ht.free i)
  have q1:∀M,nth M 2=some (.cells [.int .i64 i])->an (af cG) 111 [dn f.holds,.func 112 [.ptr 2 0]] M=some (.bool (wv f.holds i),M):=fun M hM=>lS (rS hM (aas f.holds i hh) rfl rfl rfl)
  have q2:=fun M=>lS (abp t i ht.small ht.gx M)
  simp only [aw,List.length_append,List.length_cons,List.length_nil,Nat.zero_add] at hi1 hi2 q2
  simp only [vn,aY h,aW h,q1,EW,simprocAttr]
  cases he:wv f.holds i<;>rw [he] at hfin
  ·simp only [Bool.not_false,if_true] at hfin
   have:=hi2 hfin
   simp only [vn,he,q2,hw,EW,simprocAttr]
   exact this
  ·simp only [Bool.not_true,Bool.false_eq_true,if_false] at hfin
   have:=hi1 hfin
   simp only [vn,he,hw,EW,simprocAttr]
   exact this
def jr (t:Tree) (q:bE):Bool := !(decide ((jX t.nodes q.ino).1<=q.nodes)&&decide ((jX t.nodes q.ino).2<=q.bytes))
def Nn {f:aa} {o:dL} {t:Tree} (ht:Rt t) {xs:List bE} (hn:xs.length<=100000) {k:List K} {r:Option (ae×ai)}
  (hx:∀e,xs.any (jr t)=false->kr (af cG) [] 1 k ⟨.exit 2,(0,.ptr 0 0)::(2,bL xs)::(4,.ptr 1 0)::e,[aP f o,.cells (aw t)]⟩=r)
  (hp:∀c,xs.any (jr t)=true->kr (af cG) [] 1 k ⟨.gw (.iface 44 (.int .i64 90)),[],[aP f o,.cells (aw t),c]⟩=r) :
  ∀(l pre:List bE),xs=pre++l->pre.any (jr t)=false->cT (af cG) [] 1 k (.loop [0,2,4,42,43,44] M5) [(0,.ptr 0 0),(2,bL xs),(4,.ptr 1 0),(42,bL xs),(43,.int .i64 xs.length),(44,.int .i64 pre.length)] [aP f o,.cells (aw t)]=r:=by
 simp only [aP,aN,aw] at hx hp ⊢
 intro l
 induction l with
 |nil =>
  intro pre h hpre
  rw [aE]
  have hany:xs.any (jr t)=false:=by rw [h,List.append_nil]; exact hpre
  simp only [vn,bZ h,EW,simprocAttr]
  exact hx _ hany
 |cons q rest ih =>
  intro pre h hpre
  rw [aE]
  have hlen:pre.length+1<=100000:=by rw [h] at hn; simp at hn; omega
  have hw:IntKind.i64.wrap ((pre.length:Int)+1)=((pre++[q]).length:Int):=by rw [bw (by omega) (by omega)]; exact bp
  have q1:=fun M=>lS (Vz ht q.ino M)
  have q2:=fun bb=>HI bb 90 rfl
  have hov:∀z,jr t q=z->(decide ((jX t.nodes q.ino).1<=q.nodes)&&decide ((jX t.nodes q.ino).2<=q.bytes)) = !z:=fun z hz=>by rw [<-hz]; unfold jr; simp
  simp only [vn,aY h,aW h,eJ,q1,EW,simprocAttr]
  cases ho:jr t q
  ·have hi:=ih (pre++[q]) (by rw [h]; simp) (by simp [hpre,ho])
   have hv:=hov _ ho
   simp only [List.length_append,List.length_cons,List.length_nil,Nat.zero_add] at hi
   simp only [Bool.not_false,Bool.and_eq_true] at hv
   simp only [vn,hv.1,hv.2,q2,hw,if_true,EW,simprocAttr]
   exact hi
  ·have hany:xs.any (jr t)=true:=by rw [h]; simp [ho]
   have hv:=hov _ ho
   cases h1:decide ((jX t.nodes q.ino).1<=q.nodes)<;>cases h2:decide ((jX t.nodes q.ino).2<=q.bytes)<;>simp only [h1,h2,Bool.and_self,Bool.not_true] at hv
   ·simp only [vn,h1,h2,q2,cr,Bool.false_eq_true,if_false,EW,simprocAttr]
    exact hp _ hany
   ·simp only [vn,h1,h2,q2,cr,Bool.false_eq_true,if_false,EW,simprocAttr]
    exact hp _ hany
   ·simp only [vn,h1,h2,q2,cr,Bool.false_eq_true,if_false,EW,simprocAttr]
    exact hp _ hany
   ·cases hv
def Nl {f:aa} {o:dL} {t:Tree} (ht:Rt t) {xs:List bE} (hn:xs.length<=100000) {b:aQ} (hbb:Still b) {k:List K} {r:Option (ae×ai)}
  (hx:∀e,xs.any (jr t)=false->kr (af cG) [] 1 k ⟨.exit 2,(0,.ptr 0 0)::(2,bL xs)::(4,.ptr 1 0)::e,[aP f o,.cells (aw t),b]⟩=r)
  (hp:∀c,xs.any (jr t)=true->kr (af cG) [] 1 k ⟨.gw (.iface 44 (.int .i64 90)),[],[aP f o,.cells (aw t),b,c]⟩=r) :
  ∀(l pre:List bE),xs=pre++l->pre.any (jr t)=false->cT (af cG) [] 1 k (.loop [0,2,4,42,43,44] M5) [(0,.ptr 0 0),(2,bL xs),(4,.ptr 1 0),(42,bL xs),(43,.int .i64 xs.length),(44,.int .i64 pre.length)] [aP f o,.cells (aw t),b]=r:=by
 simp only [aP,aN,aw] at hx hp ⊢
 intro l
 induction l with
 |nil =>
  intro pre h hpre
  rw [aE]
  have hany:xs.any (jr t)=false:=by rw [h,List.append_nil]; exact hpre
  simp only [vn,bZ h,EW,simprocAttr]
  exact hx _ hany
 |cons q rest ih =>
  intro pre h hpre
  rw [aE]
  have hlen:pre.length+1<=100000:=by rw [h] at hn; simp at hn; omega
  have hw:IntKind.i64.wrap ((pre.length:Int)+1)=((pre++[q]).length:Int):=by rw [bw (by omega) (by omega)]; exact bp
  have q1:=fun M=>lS (Vz ht q.ino M)
  have q2:=fun bb=>HI bb 90 rfl
  have hov:∀z,jr t q=z->(decide ((jX t.nodes q.ino).1<=q.nodes)&&decide ((jX t.nodes q.ino).2<=q.bytes)) = !z:=fun z hz=>by rw [<-hz]; unfold jr; simp
  simp only [vn,aY h,aW h,eJ,q1,EW,simprocAttr]
  cases ho:jr t q
  ·have hi:=ih (pre++[q]) (by rw [h]; simp) (by simp [hpre,ho])
   have hv:=hov _ ho
   simp only [List.length_append,List.length_cons,List.length_nil,Nat.zero_add] at hi
   simp only [Bool.not_false,Bool.and_eq_true] at hv
   simp only [vn,hv.1,hv.2,q2,hw,if_true,hbb.1,EW,simprocAttr]
   exact hi
  ·have hany:xs.any (jr t)=true:=by rw [h]; simp [ho]
   have hv:=hov _ ho
   cases h1:decide ((jX t.nodes q.ino).1<=q.nodes)<;>cases h2:decide ((jX t.nodes q.ino).2<=q.bytes)<;>simp only [h1,h2,Bool.and_self,Bool.not_true] at hv
   ·simp only [vn,h1,h2,q2,cr,Bool.false_eq_true,if_false,EW,simprocAttr]
    exact hp _ hany
   ·simp only [vn,h1,h2,q2,cr,Bool.false_eq_true,if_false,EW,simprocAttr]
    exact hp _ hany
   ·simp only [vn,h1,h2,q2,cr,Bool.false_eq_true,if_false,EW,simprocAttr]
    exact hp _ hany
   ·cases hv
def dE (f:aa) (t:Tree) (q:List bE):aa×Int :=
 if (!ke (jG f.holds (fT t) t) (dY (jG f.holds (fT t) t) q))=true then (f,91)
 else if ((dY (jG f.holds (fT t) t) q).any (jr (jG f.holds (fT t) t)))=true then (f,90)
 else (⟨oU f.s (jG f.holds (fT t) t),f.holds,dY (jG f.holds (fT t) t) q⟩,0)
structure nZ (f:aa):Prop where
 rt:Rt f.s.now
 len:f.s.since.length=f.s.now.nodes.length
 cP:f.s.cP.length<=90000
 zO:∀p,p∈f.s.cP->p.node.au.length<=64/\p.node.data.length<=4096
 taken:f.s.taken.length<=16
 holds:rF f.holds
 hlen:f.holds.length<=64
 ct:ml f.ct
 qp:f.ct.length<=16
def k91 (s:eK) (t:Tree) (hs:jS s.now) (hz:Sz 200 s.now) (ht:jS t) (hzt:Sz 200 t) (hk:s.taken.length<=100000) (hl:s.since.length=s.now.nodes.length) (hp:s.cP.length<=100000) (M:ai) :
  an (af aV) 91 [.agg (bo s),.agg [aF t.nodes,.int .i64 t.next,.int .i64 t.ag]] M=some (.agg (bo (oU s t)),M):=cO (c91 s t hs hz ht hzt hk hl hp) M
def yp {t:Tree} {q:List bE} (h:ml q):ml (dY t q):=List.Pairwise.filter _ h
def tU (t:Tree) (q:List bE):(dY t q).length<=q.length:=List.length_filter_le _ _
def c81 (f:aa) (o:dL) (t:Tree) (q:List bE) (hf:nZ f) (ht:Rt t) (hq:ml q) (hql:q.length<=16):af cG 81 [.ptr 0 0,bI t,bL q] [aP f o] =
  some (if ((dE f t q).2 != 0)=true then cr (dE f t q).2 else .tuple [],[aP (dE f t q).1 o]):=by
 refine aq rfl rfl rfl ?_
 have q0:=fun M=>lS (ahd t (by have:=ht.sz.nodes; omega) M)
 have hor:(fT t).length<=100000:=by have:=ht.sz.nodes; have h2:=List.length_filter_le mN t.nodes; unfold fT; simp; omega
 have hl:=Q4 (f:=f) (o:=o) (q:=q) (by have:=hf.hlen; omega) (xs:=fT t) hor (fin:=jG f.holds (fT t) t) (k:=[.block 0,.seq Ym])
  (r:=some (if ((dE f t q).2 != 0)=true then cr (dE f t q).2 else .tuple [],[aP (dE f t q).1 o])) ?_ (fT t) [] t rfl ht rfl
 ·simp only [aP,aN,aw,List.length_nil] at hl
  simp only [Vm,vn,aP,aN,bI,aw,q0,EW,simprocAttr]
  exact hl
 ·intro e
  have ht1:=tC f.holds (fT t) t ht
  unfold dE
  generalize jG f.holds (fT t) t=t1 at ht1 ⊢
  have q1:=fun M=>lS (ahf t1 (dY t1 q) ht1 (yp hq) (by have:=tU t1 q; omega) M)
  have q2:=fun bb=>HI bb 91 rfl
  have q3:=fun M=>lS (k91 f.s t1 hf.rt.gx hf.rt.sz ht1.gx ht1.sz (by have:=hf.taken; omega) hf.len (by have:=hf.cP; omega) M)
  generalize oU f.s t1=ps at q3 ⊢
  simp only [bo] at q3
  by_cases h0:q=[]
  ·have p1:=fun M=>lS' (sd bT (f:=115) (sz:=3) (bytes:=24) rfl h0 M)
   have hk0:dY t1 q=[]:=by subst h0; rfl
   rw [hk0] at q1 ⊢
   have q1:∀M,an (af cG) 118 [.agg [aF t1.nodes,.int .i64 t1.next,.int .i64 t1.ag],.slice .sh []] M=some (.bool (ke t1 []),M):=q1
   have p2:=abq t1 (aP f o)
   cases hd:ke t1 []
   ·rw [hd] at q1
    simp only [aP,aN,aw,cr] at p2 ⊢
    simp only [vn,p1,p2,q1,q2,cr,hd,Bool.not_false,Bool.false_eq_true,if_true,if_false,EW,simprocAttr]
   ·rw [hd] at q1
    have hlp:=Nn (f:=f) (o:=o) (t:=t1) ht1 (xs:=[]) (by simp) (k:=[.block 2,.seq N9]) (r:=some (.tuple [],[aP ⟨ps,f.holds,[]⟩ o]))
     (fun e _=>by simp only [aP,aN,aw,vn,q3,bo,EW,simprocAttr]; rfl) (fun c h=>by cases h) [] [] rfl rfl
    simp only [aP,aN,aw,cr,List.length_nil] at p2 hlp ⊢
    simp only [vn,p1,p2,q1,q2,hd,cr,Bool.not_true,Bool.false_eq_true,if_true,if_false,List.any_nil,bne_self_eq_false,EW,simprocAttr]
    exact hlp
  ·obtain ⟨b,hb,p2⟩:=ahe q t1 ht1 (by omega) h0 (aP f o)
   have p1:=fun M=>lS' (pW bT (f:=115) (sz:=3) (bytes:=24) rfl (fun _=>rfl) (by omega) h0 (by omega) M)
   have hkl:(dY t1 q).length<=100000:=by have:=tU t1 q; omega
   generalize dY t1 q=kq at q1 p2 hkl ⊢
   cases hd:ke t1 kq
   ·rw [hd] at q1
    simp only [aP,aN,aw,cr] at p2 ⊢
    simp only [vn,p1,p2,q1,q2,cr,hd,hb.1,Bool.not_false,Bool.false_eq_true,if_true,if_false,EW,simprocAttr]
   ·rw [hd] at q1
    have hlp:=Nl (f:=f) (o:=o) (t:=t1) ht1 (xs:=kq) hkl hb (k:=[.block 2,.seq N9]) (r:=some (if (kq.any (jr t1))=true then cr 90 else .tuple [],[aP (if (kq.any (jr t1))=true then f else ⟨ps,f.holds,kq⟩) o]))
     (fun e h=>by simp only [h,Bool.false_eq_true,if_false,aP,aN,aw,vn,q3,bo,EW,simprocAttr]) (fun c h=>by simp only [h,if_true,aP,aN,aw,vn,cr,EW,simprocAttr]) kq [] rfl rfl
    simp only [aP,aN,aw,cr,List.length_nil] at p2 hlp ⊢
    simp only [vn,p1,p2,q1,q2,hd,cr,Bool.not_true,Bool.false_eq_true,if_true,if_false,EW,simprocAttr]
    refine hlp.trans ?_
    cases kq.any (jr t1)<;>rfl
end
section
attribute [local irreducible] cT cR gz gK bR kr af an aZ aK
structure qj (o:dL):Prop where
 path:o.path.length<=90000
 ng:o.ng.length<=90000
 data:o.data.length<=90000
def bN.O0 {t:Tree} {dep:Int->Nat} (h:bN t dep 0) (to:Int) (nm:Bytes):∀e,cN (dj t.nodes to).1.au nm=some e->(aJ t.nodes e.ino).ino≠to:=by
 intro e he
 unfold dj at he
 split at he
 ·cases he
 ·rename_i n hn
  split at he
  ·have hem:=(dR he).1
   obtain ⟨_,_,_,_,m,hm,_⟩:=h.vZ _ _ e hn hem
   simp only [aJ,hm,Option.getD_some,(bH hm).2]
   exact h.ph hn hem
  ·cases he
def YZ (f:aa) (o:dL) (t:Tree) (q:List bE) (hf:nZ f) (ht:Rt t) (hq:ml q) (hql:q.length<=16) {p:Nat} {M:ai} (hM:nth M p=some (aP f o)):an (af cG) 81 [.ptr p 0,.agg [aF t.nodes,.int .i64 t.next,.int .i64 t.ag],bL q] M =
  some (if ((dE f t q).2 != 0)=true then cr (dE f t q).2 else .tuple [],dG M p (aP (dE f t q).1 o)) :=
 Bs hM (c81 f o t q hf ht hq hql) rfl rfl (by split<;>rfl) (fun _=>rfl) (fun _=>by split<;>rfl)
def k80 (t:Tree) (ht:Rt t) (dir:Int) (s:Bytes) (kind:Int) (hs:s.length<=100000) (M:ai):an (af cG) 80 [.agg [aF t.nodes,.int .i64 t.next,.int .i64 t.ag],.int .i64 dir,.str s,.int .i64 kind] M =
  some (.tuple [.agg [aF (o8 t dir s kind).1.nodes,.int .i64 (o8 t dir s kind).1.next,.int .i64 (o8 t dir s kind).1.ag],.int .i64 (o8 t dir s kind).2.1,.int .i64 (o8 t dir s kind).2.2],M):=by
 obtain ⟨dep,h⟩:=ht
 have:=c80 t dir s kind (h.sz.up (by omega)) h.gx hs trivial h.ec
 rw [Pk h] at this
 exact lS (eH this rfl rfl rfl rfl rfl M)
def k82 (t:Tree) (ht:Rt t) (ino dir:Int) (s:Bytes) (hs:s.length<=100000) (M:ai):an (af cG) 82 [.agg [aF t.nodes,.int .i64 t.next,.int .i64 t.ag],.int .i64 ino,.int .i64 dir,.str s] M =
  some (.tuple [.agg [aF (BC t ino dir s).1.nodes,.int .i64 (BC t ino dir s).1.next,.int .i64 (BC t ino dir s).1.ag],.int .i64 (BC t ino dir s).2],M):=by
 obtain ⟨dep,h⟩:=ht
 have:=c82 t ino dir s (h.sz.up (by omega)) h.gx hs trivial
 rw [Xq h] at this
 exact lS (eH this rfl rfl rfl rfl rfl M)
def k83 (t:Tree) (ht:Rt t) (dir:Int) (s:Bytes) (hs:s.length<=100000) (M:ai):an (af cG) 83 [.agg [aF t.nodes,.int .i64 t.next,.int .i64 t.ag],.int .i64 dir,.str s] M =
  some (.tuple [.agg [aF (Cc t dir s).1.nodes,.int .i64 (Cc t dir s).1.next,.int .i64 (Cc t dir s).1.ag],.int .i64 (Cc t dir s).2.1,.int .i64 (Cc t dir s).2.2],M):=by
 obtain ⟨dep,h⟩:=ht
 have:=c83 t dir s (h.sz.up (by omega)) h.gx hs trivial
 rw [YI h] at this
 exact lS (eH this rfl rfl rfl rfl rfl M)
def k85 (t:Tree) (ht:Rt t) (dir:Int) (s:Bytes) (to:Int) (nm:Bytes) (hs:s.length<=100000) (hn:nm.length<=100000) (M:ai):an (af cG) 85 [.agg [aF t.nodes,.int .i64 t.next,.int .i64 t.ag],.int .i64 dir,.str s,.int .i64 to,.str nm] M =
  some (.tuple [.agg [aF (xk t dir s to nm).1.nodes,.int .i64 (xk t dir s to nm).1.next,.int .i64 (xk t dir s to nm).1.ag],.int .i64 (xk t dir s to nm).2.1,.int .i64 (xk t dir s to nm).2.2],M):=by
 obtain ⟨dep,h⟩:=ht
 have:=c85 t dir s to nm (h.sz.up (by omega)) h.gx hs trivial hn trivial (fun e he=>h.O0 to nm e he)
 rw [XP h] at this
 exact lS (eH this rfl rfl rfl rfl rfl M)
def ahN (t:Tree) (ht:Rt t) (ino:Int) (s:Bytes) (hs:s.length<=100000) (M:ai):an (af cG) 84 [.agg [aF t.nodes,.int .i64 t.next,.int .i64 t.ag],.int .i64 ino,.str s] M =
  some (.tuple [.int .i64 (cA t.nodes ino s).1,.int .i64 (cA t.nodes ino s).2],M):=lS (k84 t.nodes t.next t.ag ino s ht.small ht.gx hs trivial M)
def abR (t:Tree) (ht:Rt t) (ino:Int) (d:Bytes) (hd:d.length<=100000) (M:ai):an (af cG) 150 [.agg [aF t.nodes,.int .i64 t.next,.int .i64 t.ag],.int .i64 ino,cY d] M =
  some (.tuple [.agg [aF (oC t ino d).1.nodes,.int .i64 (oC t ino d).1.next,.int .i64 (oC t ino d).1.ag],.int .i64 (oC t ino d).2],M):=lS (cO (agd t ino d ht.small ht.gx hd) M)
def Rt.add {t:Tree} (h:Rt t) (dir:Int) (s:Bytes) (kind:Int):Rt (o8 t dir s kind).1:=let ⟨_,g⟩:=h; HS g dir s kind (fun h=>h)
def Rt.ln {t:Tree} (h:Rt t) (ino dir:Int) (s:Bytes):Rt (BC t ino dir s).1:=let ⟨_,g⟩:=h; ⟨_,QG g ino dir s (fun h=>h)⟩
def Rt.un {t:Tree} (h:Rt t) (dir:Int) (s:Bytes):Rt (Cc t dir s).1:=let ⟨_,g⟩:=h; ⟨_,RQ g dir s⟩
def Rt.mv {t:Tree} (h:Rt t) (dir:Int) (s:Bytes) (to:Int) (nm:Bytes):Rt (xk t dir s to nm).1:=let ⟨_,g⟩:=h; Q9 g dir s to nm (fun h=>h)
def Rt.put {t:Tree} (h:Rt t) (ino:Int) (d:Bytes):Rt (oC t ino d).1:=let ⟨_,g⟩:=h; ⟨_,N7 g ino d⟩
def nS (t:Tree) (s:Bytes) (hs:s.length<=100000):(fx t s).2.1.length<=1000:=by
 have:=yt s hs
 unfold fx
 split
 ·simp
 ·split
  ·simp
  ·simp only; omega
abbrev Wk:=aa×oV×Int
def qG (f:aa) (o:dL):Wk :=
 if ((dZ f.s.now o.path).2 != 0)=true then (f,cn,(dZ f.s.now o.path).2)
 else (f,⟨0,(aJ f.s.now.nodes (dZ f.s.now o.path).1).ino,(aJ f.s.now.nodes (dZ f.s.now o.path).1).kind,0,0,[],[]⟩,0)
def c55 (f:aa) (o:dL) (hf:nZ f) (ho:qj o):ik 55 f o (qG f o):=by
 unfold ik
 refine ⟨.slice .c0 [],.slice .c0 [],.inr ⟨rfl,?_⟩,.inr ⟨rfl,?_⟩,aq rfl rfl rfl ?_⟩
 ·unfold qG; split<;>rfl
 ·unfold qG; split<;>rfl
 have q1:=fun {M}=>VF f o o.path hf.rt.small hf.rt.gx (by have:=ho.path; omega) (p:=0) (M:=M)
 unfold qG
 generalize dZ f.s.now o.path=v at q1 ⊢
 simp only [aP,aN,az] at q1
 cases he:v.2 != 0
 ·simp only [he,Bool.false_eq_true,if_false] at q1 ⊢
  simp only [P0,E55,aP,aN,bh,q1,bne_self_eq_false,Bool.false_eq_true,if_false,EW,simprocAttr]
 ·simp only [he,if_true,cr] at q1 ⊢
  simp only [P0,E55,aP,aN,bh,cn,q1,he,if_true,cr,EW,simprocAttr]
def qH (f:aa) (o:dL):Wk :=
 let v:=fx f.s.now o.path
 let w:=o8 f.s.now v.1 v.2.1 o.n
 let r:=dE f w.1 f.ct
 if (v.2.2 != 0)=true then (f,cn,v.2.2)
 else if (w.2.2 != 0)=true then (f,cn,w.2.2)
 else if (r.2 != 0)=true then (r.1,cn,r.2)
 else (r.1,⟨0,w.2.1,o.n,0,0,[],[]⟩,0)
def c56 (f:aa) (o:dL) (hf:nZ f) (ho:qj o):ik 56 f o (qH f o):=by
 unfold ik
 refine ⟨.slice .c0 [],.slice .c0 [],.inr ⟨rfl,?_⟩,.inr ⟨rfl,?_⟩,aq rfl rfl rfl ?_⟩
 ·unfold qH; simp only []; split<;>(try split)<;>(try split)<;>rfl
 ·unfold qH; simp only []; split<;>(try split)<;>(try split)<;>rfl
 have hp:o.path.length<=100000:=by have:=ho.path; omega
 have q1:=fun {M}=>k79 f o o.path hf.rt.small hf.rt.gx hp (p:=0) (M:=M)
 have hl:=nS f.s.now o.path hp
 unfold qH
 simp only []
 generalize fx f.s.now o.path=v at q1 hl ⊢
 have q2:=k80 f.s.now hf.rt v.1 v.2.1 o.n (by omega)
 have hr:=hf.rt.add v.1 v.2.1 o.n
 generalize o8 f.s.now v.1 v.2.1 o.n=w at q2 hr ⊢
 have q3:=mu w.2.2
 have q4:=fun {M}=>YZ f o w.1 f.ct hf hr hf.ct hf.qp (p:=0) (M:=M)
 generalize dE f w.1 f.ct=r at q4 ⊢
 simp only [aP,aN] at q1 q4
 cases he:v.2.2 != 0
 ·simp only [he,Bool.false_eq_true,if_false] at q1 ⊢
  cases hw:w.2.2 != 0
  ·simp only [hw,Bool.false_eq_true,if_false] at q3 ⊢
   cases hs:r.2 != 0
   ·simp only [hs,Bool.false_eq_true,if_false] at q4 ⊢
    simp only [Gm,E56,aP,aN,bh,q1,q2,q3,q4,bne_self_eq_false,Bool.false_eq_true,if_false,EW,simprocAttr]
   ·simp only [hs,if_true,cr] at q4 ⊢
    simp only [Gm,E56,aP,aN,bh,cn,q1,q2,q3,q4,hs,if_true,EW,simprocAttr]
  ·simp only [hw,if_true,cr] at q3 ⊢
   simp only [Gm,E56,aP,aN,bh,cn,q1,q2,q3,hw,if_true,EW,simprocAttr]
 ·simp only [he,if_true,cr] at q1 ⊢
  simp only [Gm,E56,aP,aN,bh,cn,q1,he,if_true,EW,simprocAttr]
def ahO (t:Tree) (ht:Rt t) (l:List cf) (c h ino:Int) (hl:rF l) (hn:l.length<=64) (M:ai):an (af cG) 89 [.agg [aF t.nodes,.int .i64 t.next,.int .i64 t.ag],dn l,.int .i64 c,.int .i64 h,.int .i64 ino] M=some (.tuple [dn (mM t l c h ino).1,.int .i64 (mM t l c h ino).2],M):=lS (k89 t l c h ino ht.small ht.gx hl hn M)
def ahP (t:Tree) (ht:Rt t) (l:List cf) (c h:Int) (hn:l.length<=64) (M:ai):an (af cG) 90 [.agg [aF t.nodes,.int .i64 t.next,.int .i64 t.ag],dn l,.int .i64 c,.int .i64 h] M=some (.tuple [.agg (aw (fP t l c h).1),dn (fP t l c h).2.1,.int .i64 (fP t l c h).2.2],M):=lS (k90 t l c h ht.small ht.gx hn M)
def k95 (t:Tree) (l:List bE) (ino nodes bytes:Int) (ht:Rt t) (hq:ml l) (hn:l.length<=16) (M:ai):an (af cG) 95 [.agg [aF t.nodes,.int .i64 t.next,.int .i64 t.ag],bL l,.int .i64 ino,.int .i64 nodes,.int .i64 bytes] M=some (.tuple [bL (kZ t l ino nodes bytes).1,.int .i64 (kZ t l ino nodes bytes).2],M) :=
 lS (cO (c95 t l ino nodes bytes ht hq hn) M)
def abT (f:aa) (hf:nZ f) (t:Tree) (ht:Rt t) (M:ai):an (af cG) 91 [.agg (bo f.s),.agg [aF t.nodes,.int .i64 t.next,.int .i64 t.ag]] M=some (.agg (bo (oU f.s t)),M) :=
 lS (k91 f.s t hf.rt.gx hf.rt.sz ht.gx ht.sz (by have:=hf.taken; omega) hf.len (by have:=hf.cP; omega) M)
def Rt.gone {t:Tree} (h:Rt t) (c:Int):∀(l k:List cf),Rt (kX c l t k).1:=by
 intro l
 induction l generalizing t with
 |nil=>intro k; exact h
 |cons x r ih =>
  intro k
  rw [kX]
  split
  ·exact ih (h.close _ _ _) _
  ·exact ih h _
def EI {α:Type} {lt:α->Bool} {R:α->α->Prop} {l:List α} {b:Nat} (h:l.Pairwise R) (hl:vD lt l b) {x:α} (h1:∀y,y∈l->lt y=true->R y x) (h2:∀y,y∈l->lt y=false->R x y) (ht:∀a b c,R a b->R b c->R a c):(l.take b++x::l.drop b).Pairwise R:=by
 have hT:∀y,y∈l.take b->R y x:=by
  intro y hy
  obtain ⟨i,hi⟩:=List.getElem?_of_mem hy
  rw [List.getElem?_take] at hi
  split at hi
  ·rename_i hib
   exact h1 y (List.mem_of_getElem? hi) ((hl.lt i y hi).2 hib)
  ·cases hi
 have hD:∀y,y∈l.drop b->R x y:=by
  intro y hy
  obtain ⟨i,hi⟩:=List.getElem?_of_mem hy
  rw [List.getElem?_drop] at hi
  refine h2 y (List.mem_of_getElem? hi) ?_
  cases he:lt y
  ·rfl
  ·have:=(hl.lt _ y hi).1 he; omega
 rw [List.pairwise_append]
 refine ⟨h.sublist (List.take_sublist _ _),List.pairwise_cons.2 ⟨hD,h.sublist (List.drop_sublist _ _)⟩,?_⟩
 intro a ha c hc
 rcases List.mem_cons.1 hc with rfl|hc
 ·exact hT a ha
 ·exact ht _ _ _ (hT a ha) (hD c hc)
def yM {t:Tree} {l:List bE} (hq:ml l) (hn:l.length<=16) (ino nodes bytes:Int):ml (kZ t l ino nodes bytes).1/\(kZ t l ino nodes bytes).1.length<=16:=by
 have hlow:=tW hq ino
 have hat:=Js (key:=bE.ino) hq ino
 have e1:Lp bE.ino l ino=Dj l ino:=rfl
 have e2:nJ bE.ino l ino=tV l ino:=rfl
 rw [e1,e2] at hat
 unfold kZ
 split
 ·exact ⟨hq,hn⟩
 split
 ·exact ⟨hq,hn⟩
 split
 ·split
  ·exact ⟨hq.sublist (List.eraseIdx_sublist _ _),Nat.le_trans (List.eraseIdx_sublist _ _).length_le hn⟩
  ·exact ⟨hq,hn⟩
 split
 ·exact ⟨hq,hn⟩
 split
 ·rename_i hi
  rcases hat with ⟨_,n,h2,h3,_⟩|⟨h1,_⟩
  ·refine ⟨?_,by simpa using hn⟩
   have hm:((l.set (tV l ino) ⟨ino,nodes,bytes⟩).map bE.ino)=l.map bE.ino:=by
    rw [List.map_set]
    have hlt:=(List.getElem?_eq_some_iff.1 h2).1
    refine List.ext_getElem? fun i=>?_
    rw [List.getElem?_set]
    split
    ·rename_i hh
     subst hh
     simp only [List.length_map,hlt,if_true,List.getElem?_map,h2,Option.map_some,h3]
    ·rfl
   have:((l.set (tV l ino) ⟨ino,nodes,bytes⟩).map bE.ino).Pairwise (· < ·):=by rw [hm]; exact List.pairwise_map.2 hq
   exact List.pairwise_map.1 this
  ·rw [hi] at h1; cases h1
 split
 ·exact ⟨hq,hn⟩
 ·rename_i hi hlen
  have hne:∀y,y∈l->y.ino≠ino:=by
   rcases hat with ⟨h1,_⟩|⟨_,h2⟩
   ·exact absurd h1 hi
   ·intro y hy; have:=List.find?_eq_none.1 h2 y hy; simpa using this
  simp only [ge_iff_le,decide_eq_true_eq] at hlen
  refine ⟨EI hq hlow (fun y hy h=>?_) (fun y hy h=>?_) (fun a b c h1 h2=>Int.lt_trans h1 h2),by simp; have:=hlow.le; omega⟩
  ·simp only [decide_eq_true_eq,ll] at h; exact h
  ·simp only [decide_eq_false_iff_not,ll] at h; have:=hne y hy; simp only; omega
def qF (f:aa) (o:dL):Wk :=
 let v:=dZ f.s.now o.path
 let n:=aJ f.s.now.nodes v.1
 let s:=fx f.s.now o.ng
 let w:=BC f.s.now n.ino s.1 s.2.1
 let r:=dE f w.1 f.ct
 if (v.2 != 0)=true then (f,cn,v.2) else
 if (s.2.2 != 0)=true then (f,cn,s.2.2) else
 if (w.2 != 0)=true then (f,cn,w.2) else
 if (r.2 != 0)=true then (r.1,cn,r.2) else
 (r.1,⟨0,n.ino,0,0,0,[],[]⟩,0)
def c57 (f:aa) (o:dL) (hf:nZ f) (ho:qj o):ik 57 f o (qF f o):=by
 unfold ik
 have hp:o.path.length<=100000:=by have:=ho.path; omega
 have hto:o.ng.length<=100000:=by have:=ho.ng; omega
 refine ⟨.slice .c0 [],.slice .c0 [],.inr ⟨rfl,?_⟩,.inr ⟨rfl,?_⟩,aq rfl rfl rfl ?_⟩
 ·unfold qF; simp only []; split<;>(try split)<;>(try split)<;>(try split)<;>rfl
 ·unfold qF; simp only []; split<;>(try split)<;>(try split)<;>(try split)<;>rfl
 unfold qF
 simp only []
 have q1:=fun {M}=>VF f o o.path hf.rt.small hf.rt.gx hp (p:=0) (M:=M)
 generalize dZ f.s.now o.path=v at q1 ⊢
 have q1:=@q1
 generalize aJ f.s.now.nodes v.1=n at q1 ⊢
 have hl:=nS f.s.now o.ng hto
 have q2:=fun {M}=>k79 f o o.ng hf.rt.small hf.rt.gx hto (p:=0) (M:=M)
 have hl:=hl
 generalize fx f.s.now o.ng=s at q2 hl ⊢
 have q3:=k82 f.s.now hf.rt n.ino s.1 s.2.1 (by omega)
 have hr:=hf.rt.ln n.ino s.1 s.2.1
 generalize BC f.s.now n.ino s.1 s.2.1=w at q3 hr ⊢
 have q5:=fun {M}=>YZ f o w.1 f.ct hf hr hf.ct hf.qp (p:=0) (M:=M)
 generalize dE f w.1 f.ct=r at q5 ⊢
 simp only [aP,aN,az,bo,aw] at q1 q2 q3 q5
 cases h0:v.2 != 0
 ·
  cases h1:s.2.2 != 0
  ·
   cases h2:w.2 != 0
   ·
    cases h3:r.2 != 0
    ·
     simp only [Dc,Zf,aP,aN,bh,cn,q1,q2,q3,q5,h0,h1,h2,h3,mu,bne_self_eq_false,Bool.false_eq_true,if_true,if_false,EW,simprocAttr]
    ·
     simp only [Dc,Zf,aP,aN,bh,cn,q1,q2,q3,q5,h0,h1,h2,h3,cr,mu,bne_self_eq_false,Bool.false_eq_true,if_true,if_false,EW,simprocAttr]
   ·
    simp only [Dc,Zf,aP,aN,bh,cn,q1,q2,q3,q5,h0,h1,h2,cr,mu,bne_self_eq_false,Bool.false_eq_true,if_true,if_false,EW,simprocAttr]
  ·
   simp only [Dc,Zf,aP,aN,bh,cn,q1,q2,q3,q5,h0,h1,cr,mu,bne_self_eq_false,Bool.false_eq_true,if_true,if_false,EW,simprocAttr]
 ·
  simp only [Dc,Zf,aP,aN,bh,cn,q1,q2,q3,q5,h0,cr,mu,bne_self_eq_false,Bool.false_eq_true,if_true,if_false,EW,simprocAttr]
def kv (f:aa) (o:dL):Wk :=
 let s:=fx f.s.now o.path
 let w:=Cc f.s.now s.1 s.2.1
 let r:=dE f w.1 f.ct
 if (s.2.2 != 0)=true then (f,cn,s.2.2) else
 if (w.2.2 != 0)=true then (f,cn,w.2.2) else
 if (r.2 != 0)=true then (r.1,cn,r.2) else
 (r.1,⟨0,w.2.1,0,0,0,[],[]⟩,0)
def c58 (f:aa) (o:dL) (hf:nZ f) (ho:qj o):ik 58 f o (kv f o):=by
 unfold ik
 have hp:o.path.length<=100000:=by have:=ho.path; omega
 have hto:o.ng.length<=100000:=by have:=ho.ng; omega
 refine ⟨.slice .c0 [],.slice .c0 [],.inr ⟨rfl,?_⟩,.inr ⟨rfl,?_⟩,aq rfl rfl rfl ?_⟩
 ·unfold kv; simp only []; split<;>(try split)<;>(try split)<;>rfl
 ·unfold kv; simp only []; split<;>(try split)<;>(try split)<;>rfl
 unfold kv
 simp only []
 have hl:=nS f.s.now o.path hp
 have q2:=fun {M}=>k79 f o o.path hf.rt.small hf.rt.gx hp (p:=0) (M:=M)
 have hl:=hl
 generalize fx f.s.now o.path=s at q2 hl ⊢
 have q3:=k83 f.s.now hf.rt s.1 s.2.1 (by omega)
 have hr:=hf.rt.un s.1 s.2.1
 generalize Cc f.s.now s.1 s.2.1=w at q3 hr ⊢
 have q5:=fun {M}=>YZ f o w.1 f.ct hf hr hf.ct hf.qp (p:=0) (M:=M)
 generalize dE f w.1 f.ct=r at q5 ⊢
 simp only [aP,aN,az,bo,aw] at q2 q3 q5
 cases h0:s.2.2 != 0
 ·
  cases h1:w.2.2 != 0
  ·
   cases h2:r.2 != 0
   ·
    simp only [Gn,E58,aP,aN,bh,cn,q2,q3,q5,h0,h1,h2,mu,bne_self_eq_false,Bool.false_eq_true,if_true,if_false,EW,simprocAttr]
   ·
    simp only [Gn,E58,aP,aN,bh,cn,q2,q3,q5,h0,h1,h2,cr,mu,bne_self_eq_false,Bool.false_eq_true,if_true,if_false,EW,simprocAttr]
  ·
   simp only [Gn,E58,aP,aN,bh,cn,q2,q3,q5,h0,h1,cr,mu,bne_self_eq_false,Bool.false_eq_true,if_true,if_false,EW,simprocAttr]
 ·
  simp only [Gn,E58,aP,aN,bh,cn,q2,q3,q5,h0,cr,mu,bne_self_eq_false,Bool.false_eq_true,if_true,if_false,EW,simprocAttr]
def ko (f:aa) (o:dL):Wk :=
 let s:=fx f.s.now o.path
 let u:=fx f.s.now o.ng
 let l:=cA f.s.now.nodes s.1 s.2.1
 let w:=xk f.s.now s.1 s.2.1 u.1 u.2.1
 let r:=dE f w.1 f.ct
 if (s.2.2 != 0)=true then (f,cn,s.2.2) else
 if (u.2.2 != 0)=true then (f,cn,u.2.2) else
 if (l.2 != 0)=true then (f,cn,l.2) else
 if (w.2.2 != 0)=true then (f,cn,w.2.2) else
 if (r.2 != 0)=true then (r.1,cn,r.2) else
 (r.1,⟨0,l.1,0,0,0,[],[]⟩,0)
def c59 (f:aa) (o:dL) (hf:nZ f) (ho:qj o):ik 59 f o (ko f o):=by
 unfold ik
 have hp:o.path.length<=100000:=by have:=ho.path; omega
 have hto:o.ng.length<=100000:=by have:=ho.ng; omega
 refine ⟨.slice .c0 [],.slice .c0 [],.inr ⟨rfl,?_⟩,.inr ⟨rfl,?_⟩,aq rfl rfl rfl ?_⟩
 ·unfold ko; simp only []; split<;>(try split)<;>(try split)<;>(try split)<;>(try split)<;>rfl
 ·unfold ko; simp only []; split<;>(try split)<;>(try split)<;>(try split)<;>(try split)<;>rfl
 unfold ko
 simp only []
 have hl:=nS f.s.now o.path hp
 have q1:=fun {M}=>k79 f o o.path hf.rt.small hf.rt.gx hp (p:=0) (M:=M)
 have hl:=hl
 generalize fx f.s.now o.path=s at q1 hl ⊢
 have hl2:=nS f.s.now o.ng hto
 have q2:=fun {M}=>k79 f o o.ng hf.rt.small hf.rt.gx hto (p:=0) (M:=M)
 have hl2:=hl2
 generalize fx f.s.now o.ng=u at q2 hl2 ⊢
 have q3:=ahN f.s.now hf.rt s.1 s.2.1 (by omega)
 generalize cA f.s.now.nodes s.1 s.2.1=l at q3 ⊢
 have q4:=k85 f.s.now hf.rt s.1 s.2.1 u.1 u.2.1 (by omega) (by omega)
 have hr:=hf.rt.mv s.1 s.2.1 u.1 u.2.1
 generalize xk f.s.now s.1 s.2.1 u.1 u.2.1=w at q4 hr ⊢
 have q5:=fun {M}=>YZ f o w.1 f.ct hf hr hf.ct hf.qp (p:=0) (M:=M)
 generalize dE f w.1 f.ct=r at q5 ⊢
 simp only [aP,aN,az,bo,aw] at q1 q2 q3 q4 q5
 cases h0:s.2.2 != 0
 ·
  cases h1:u.2.2 != 0
  ·
   cases h2:l.2 != 0
   ·
    cases h3:w.2.2 != 0
    ·
     cases h4:r.2 != 0
     ·
      simp only [Bg,YM,aP,aN,bh,cn,q1,q2,q3,q4,q5,h0,h1,h2,h3,h4,mu,bne_self_eq_false,Bool.false_eq_true,if_true,if_false,EW,simprocAttr]
     ·
      simp only [Bg,YM,aP,aN,bh,cn,q1,q2,q3,q4,q5,h0,h1,h2,h3,h4,cr,mu,bne_self_eq_false,Bool.false_eq_true,if_true,if_false,EW,simprocAttr]
    ·
     simp only [Bg,YM,aP,aN,bh,cn,q1,q2,q3,q4,q5,h0,h1,h2,h3,cr,mu,bne_self_eq_false,Bool.false_eq_true,if_true,if_false,EW,simprocAttr]
   ·
    simp only [Bg,YM,aP,aN,bh,cn,q1,q2,q3,q4,q5,h0,h1,h2,cr,mu,bne_self_eq_false,Bool.false_eq_true,if_true,if_false,EW,simprocAttr]
  ·
   simp only [Bg,YM,aP,aN,bh,cn,q1,q2,q3,q4,q5,h0,h1,cr,mu,bne_self_eq_false,Bool.false_eq_true,if_true,if_false,EW,simprocAttr]
 ·
  simp only [Bg,YM,aP,aN,bh,cn,q1,q2,q3,q4,q5,h0,cr,mu,bne_self_eq_false,Bool.false_eq_true,if_true,if_false,EW,simprocAttr]
def qM (f:aa) (o:dL):Wk :=
 let v:=dZ f.s.now o.path
 let n:=aJ f.s.now.nodes v.1
 if (v.2 != 0)=true then (f,cn,v.2) else
 (f,⟨0,n.ino,n.kind,n.bS,sO n,[],[]⟩,0)
def c61 (f:aa) (o:dL) (hf:nZ f) (ho:qj o):ik 61 f o (qM f o):=by
 unfold ik
 have hp:o.path.length<=100000:=by have:=ho.path; omega
 have hto:o.ng.length<=100000:=by have:=ho.ng; omega
 refine ⟨.slice .c0 [],.slice .c0 [],.inr ⟨rfl,?_⟩,.inr ⟨rfl,?_⟩,aq rfl rfl rfl ?_⟩
 ·unfold qM; simp only []; split<;>rfl
 ·unfold qM; simp only []; split<;>rfl
 unfold qM
 simp only []
 have q1:=fun {M}=>VF f o o.path hf.rt.small hf.rt.gx hp (p:=0) (M:=M)
 generalize dZ f.s.now o.path=v at q1 ⊢
 have q1:=@q1
 generalize aJ f.s.now.nodes v.1=n at q1 ⊢
 have q2:=fun M=>k88 n M
 simp only [aP,aN,az,bo,aw] at q1 q2
 cases h0:v.2 != 0
 ·
  simp only [P1,E61,aP,aN,bh,cn,q1,q2,h0,bne_self_eq_false,Bool.false_eq_true,if_true,if_false,EW,simprocAttr]
 ·
  simp only [P1,E61,aP,aN,bh,cn,q1,q2,h0,cr,bne_self_eq_false,Bool.false_eq_true,if_true,if_false,EW,simprocAttr]
def qL (f:aa) (o:dL):Wk :=
 let v:=dZ f.s.now o.path
 let n:=aJ f.s.now.nodes v.1
 let w:=mM f.s.now f.holds o.aj o.handle n.ino
 if (v.2 != 0)=true then (f,cn,v.2) else
 if (w.2 != 0)=true then (f,cn,w.2) else
 (⟨f.s,w.1,f.ct⟩,⟨0,n.ino,0,0,0,[],[]⟩,0)
def c62 (f:aa) (o:dL) (hf:nZ f) (ho:qj o):ik 62 f o (qL f o):=by
 unfold ik
 have hp:o.path.length<=100000:=by have:=ho.path; omega
 have hto:o.ng.length<=100000:=by have:=ho.ng; omega
 refine ⟨.slice .c0 [],.slice .c0 [],.inr ⟨rfl,?_⟩,.inr ⟨rfl,?_⟩,aq rfl rfl rfl ?_⟩
 ·unfold qL; simp only []; split<;>(try split)<;>rfl
 ·unfold qL; simp only []; split<;>(try split)<;>rfl
 unfold qL
 simp only []
 have q1:=fun {M}=>VF f o o.path hf.rt.small hf.rt.gx hp (p:=0) (M:=M)
 generalize dZ f.s.now o.path=v at q1 ⊢
 have q1:=@q1
 generalize aJ f.s.now.nodes v.1=n at q1 ⊢
 have q2:=ahO f.s.now hf.rt f.holds o.aj o.handle n.ino hf.holds hf.hlen
 generalize mM f.s.now f.holds o.aj o.handle n.ino=w at q2 ⊢
 simp only [aP,aN,az,bo,aw] at q1 q2
 cases h0:v.2 != 0
 ·
  cases h1:w.2 != 0
  ·
   simp only [K3,E62,aP,aN,bh,cn,q1,q2,h0,h1,mu,bne_self_eq_false,Bool.false_eq_true,if_true,if_false,EW,simprocAttr]
  ·
   simp only [K3,E62,aP,aN,bh,cn,q1,q2,h0,h1,cr,mu,bne_self_eq_false,Bool.false_eq_true,if_true,if_false,EW,simprocAttr]
 ·
  simp only [K3,E62,aP,aN,bh,cn,q1,q2,h0,cr,mu,bne_self_eq_false,Bool.false_eq_true,if_true,if_false,EW,simprocAttr]
def mU (f:aa) (o:dL):Wk :=
 let w:=fP f.s.now f.holds o.aj o.handle
 let p:=oU f.s w.1
 if (w.2.2 != 0)=true then (f,cn,w.2.2) else
 (⟨p,w.2.1,f.ct⟩,cn,0)
def c63 (f:aa) (o:dL) (hf:nZ f) (ho:qj o):ik 63 f o (mU f o):=by
 unfold ik
 have hp:o.path.length<=100000:=by have:=ho.path; omega
 have hto:o.ng.length<=100000:=by have:=ho.ng; omega
 refine ⟨.slice .c0 [],.slice .c0 [],.inr ⟨rfl,?_⟩,.inr ⟨rfl,?_⟩,aq rfl rfl rfl ?_⟩
 ·unfold mU; simp only []; split<;>rfl
 ·unfold mU; simp only []; split<;>rfl
 unfold mU
 simp only []
 have q2:=ahP f.s.now hf.rt f.holds o.aj o.handle hf.hlen
 have hr:=hf.rt.close f.holds o.aj o.handle
 generalize fP f.s.now f.holds o.aj o.handle=w at q2 hr ⊢
 have q3:=abT f hf w.1 hr
 generalize oU f.s w.1=p at q3 ⊢
 simp only [aP,aN,az,bo,aw] at q2 q3
 cases h0:w.2.2 != 0
 ·
  simp only [P2,E63,aP,aN,bh,cn,q2,q3,h0,mu,bne_self_eq_false,Bool.false_eq_true,if_true,if_false,EW,simprocAttr]
 ·
  simp only [P2,E63,aP,aN,bh,cn,q2,q3,h0,cr,mu,bne_self_eq_false,Bool.false_eq_true,if_true,if_false,EW,simprocAttr]
def mZ (f:aa) (o:dL):Wk :=
 let v:=dZ f.s.now o.path
 let n:=aJ f.s.now.nodes v.1
 let w:=kZ f.s.now f.ct n.ino o.n o.m
 let r:=dE f f.s.now w.1
 if (v.2 != 0)=true then (f,cn,v.2) else
 if (w.2 != 0)=true then (f,cn,w.2) else
 if (r.2 != 0)=true then (r.1,cn,r.2) else
 (r.1,⟨0,n.ino,0,0,0,[],[]⟩,0)
def c67 (f:aa) (o:dL) (hf:nZ f) (ho:qj o):ik 67 f o (mZ f o):=by
 unfold ik
 have hp:o.path.length<=100000:=by have:=ho.path; omega
 have hto:o.ng.length<=100000:=by have:=ho.ng; omega
 refine ⟨.slice .c0 [],.slice .c0 [],.inr ⟨rfl,?_⟩,.inr ⟨rfl,?_⟩,aq rfl rfl rfl ?_⟩
 ·unfold mZ; simp only []; split<;>(try split)<;>(try split)<;>rfl
 ·unfold mZ; simp only []; split<;>(try split)<;>(try split)<;>rfl
 unfold mZ
 simp only []
 have q1:=fun {M}=>VF f o o.path hf.rt.small hf.rt.gx hp (p:=0) (M:=M)
 generalize dZ f.s.now o.path=v at q1 ⊢
 have q1:=@q1
 generalize aJ f.s.now.nodes v.1=n at q1 ⊢
 have q2:=k95 f.s.now f.ct n.ino o.n o.m hf.rt hf.ct hf.qp
 have hr:=yM (t:=f.s.now) hf.ct hf.qp n.ino o.n o.m
 generalize kZ f.s.now f.ct n.ino o.n o.m=w at q2 hr ⊢
 have q5:=fun {M}=>YZ f o f.s.now w.1 hf hf.rt hr.1 hr.2 (p:=0) (M:=M)
 generalize dE f f.s.now w.1=r at q5 ⊢
 simp only [aP,aN,az,bo,aw] at q1 q2 q5
 cases h0:v.2 != 0
 ·
  cases h1:w.2 != 0
  ·
   cases h2:r.2 != 0
   ·
    simp only [Gp,E67,aP,aN,bh,cn,q1,q2,q5,h0,h1,h2,mu,bne_self_eq_false,Bool.false_eq_true,if_true,if_false,EW,simprocAttr]
   ·
    simp only [Gp,E67,aP,aN,bh,cn,q1,q2,q5,h0,h1,h2,cr,mu,bne_self_eq_false,Bool.false_eq_true,if_true,if_false,EW,simprocAttr]
  ·
   simp only [Gp,E67,aP,aN,bh,cn,q1,q2,q5,h0,h1,cr,mu,bne_self_eq_false,Bool.false_eq_true,if_true,if_false,EW,simprocAttr]
 ·
  simp only [Gp,E67,aP,aN,bh,cn,q1,q2,q5,h0,cr,mu,bne_self_eq_false,Bool.false_eq_true,if_true,if_false,EW,simprocAttr]
def qN (f:aa) (o:dL):Wk :=
 let v:=dZ f.s.now o.path
 let n:=aJ f.s.now.nodes v.1
 let w:=takeN f.s n.ino
 if (v.2 != 0)=true then (f,cn,v.2) else
 if (w.2.2 != 0)=true then (f,cn,w.2.2) else
 (⟨w.1,f.holds,f.ct⟩,⟨0,0,0,w.2.1,0,[],[]⟩,0)
def c68 (f:aa) (o:dL) (hf:nZ f) (ho:qj o):ik 68 f o (qN f o):=by
 unfold ik
 have hp:o.path.length<=100000:=by have:=ho.path; omega
 have hto:o.ng.length<=100000:=by have:=ho.ng; omega
 refine ⟨.slice .c0 [],.slice .c0 [],.inr ⟨rfl,?_⟩,.inr ⟨rfl,?_⟩,aq rfl rfl rfl ?_⟩
 ·unfold qN; simp only []; split<;>(try split)<;>rfl
 ·unfold qN; simp only []; split<;>(try split)<;>rfl
 unfold qN
 simp only []
 have q1:=fun {M}=>VF f o o.path hf.rt.small hf.rt.gx hp (p:=0) (M:=M)
 generalize dZ f.s.now o.path=v at q1 ⊢
 have q1:=@q1
 generalize aJ f.s.now.nodes v.1=n at q1 ⊢
 have q2:=fun M=>lS (k96 f.s n.ino hf.rt.small hf.rt.gx hf.taken M)
 generalize takeN f.s n.ino=w at q2 ⊢
 simp only [aP,aN,az,bo,aw] at q1 q2
 cases h0:v.2 != 0
 ·
  cases h1:w.2.2 != 0
  ·
   simp only [K5,E68,aP,aN,bh,cn,q1,q2,h0,h1,mu,bne_self_eq_false,Bool.false_eq_true,if_true,if_false,EW,simprocAttr]
  ·
   simp only [K5,E68,aP,aN,bh,cn,q1,q2,h0,h1,cr,mu,bne_self_eq_false,Bool.false_eq_true,if_true,if_false,EW,simprocAttr]
 ·
  simp only [K5,E68,aP,aN,bh,cn,q1,q2,h0,cr,mu,bne_self_eq_false,Bool.false_eq_true,if_true,if_false,EW,simprocAttr]
def qw (f:aa) (o:dL):Wk :=
 let w:=qy f.s o.n
 if (w.2 != 0)=true then (f,cn,w.2) else
 (⟨w.1,f.holds,f.ct⟩,cn,0)
def c70 (f:aa) (o:dL) (hf:nZ f) (ho:qj o):ik 70 f o (qw f o):=by
 unfold ik
 have hp:o.path.length<=100000:=by have:=ho.path; omega
 have hto:o.ng.length<=100000:=by have:=ho.ng; omega
 refine ⟨.slice .c0 [],.slice .c0 [],.inr ⟨rfl,?_⟩,.inr ⟨rfl,?_⟩,aq rfl rfl rfl ?_⟩
 ·unfold qw; simp only []; split<;>rfl
 ·unfold qw; simp only []; split<;>rfl
 unfold qw
 simp only []
 have q2:=fun M=>lS (aha f.s o.n (by have:=hf.taken; omega) (by have:=hf.cP; omega) M)
 generalize qy f.s o.n=w at q2 ⊢
 simp only [aP,aN,az,bo,aw] at q2
 cases h0:w.2 != 0
 ·
  simp only [P3,E70,aP,aN,bh,cn,q2,h0,mu,bne_self_eq_false,Bool.false_eq_true,if_true,if_false,EW,simprocAttr]
 ·
  simp only [P3,E70,aP,aN,bh,cn,q2,h0,cr,mu,bne_self_eq_false,Bool.false_eq_true,if_true,if_false,EW,simprocAttr]
def pd (f:aa) (o:dL):Wk :=
 let w:=wm f.s.now f.holds o.aj
 let p:=oU f.s w.1
 (⟨p,w.2,f.ct⟩,cn,0)
def c71 (f:aa) (o:dL) (hf:nZ f) (ho:qj o):ik 71 f o (pd f o):=by
 unfold ik
 have hp:o.path.length<=100000:=by have:=ho.path; omega
 have hto:o.ng.length<=100000:=by have:=ho.ng; omega
 refine ⟨.slice .c0 [],.slice .c0 [],.inr ⟨rfl,?_⟩,.inr ⟨rfl,?_⟩,aq rfl rfl rfl ?_⟩
 ·unfold pd; simp only []; skip<;>rfl
 ·unfold pd; simp only []; skip<;>rfl
 unfold pd
 simp only []
 have q2:=fun M=>lS (ahb f.s.now f.holds o.aj hf.rt hf.hlen M)
 have hr:=(show Rt (wm f.s.now f.holds o.aj).1 from hf.rt.gone o.aj _ _)
 generalize wm f.s.now f.holds o.aj=w at q2 hr ⊢
 have q3:=abT f hf w.1 hr
 generalize oU f.s w.1=p at q3 ⊢
 simp only [aP,aN,az,bo,aw] at q2 q3
 simp only [Vg,E71,aP,aN,bh,cn,q2,q3,bne_self_eq_false,Bool.false_eq_true,if_true,if_false,EW,simprocAttr]
def dg (f:aa) (o:dL):Node×Int :=
 if ((wy f.holds o.aj o.handle).2 != 0)=true then (Node.zero,(wy f.holds o.aj o.handle).2)
 else if decide (0<=o.n)=true then (aJ f.s.now.nodes (wy f.holds o.aj o.handle).1,0) else (Node.zero,1)
def c92 (f:aa) (o:dL) (hf:nZ f):af cG 92 [.ptr 0 0] [aP f o]=some (if ((dg f o).2 != 0)=true then cr (dg f o).2 else .agg (az (dg f o).1),[aP f o]):=by
 refine aq rfl rfl rfl ?_
 have q1:=fun M=>lS (ahn f.holds o.aj o.handle (by have:=hf.hlen; omega) M)
 have q2:=fun bb=>HI bb 1 rfl
 unfold dg
 generalize wy f.holds o.aj o.handle=v at q1 ⊢
 have q3:=fun {M}=>abn f o v.1 hf.rt.small hf.rt.gx (p:=0) (M:=M)
 simp only [aP,aN,az] at q3
 cases h0:v.2 != 0
 ·cases h1:decide (0<=o.n)
  ·simp only [K7,E92,aP,aN,az,q1,q2,q3,mu,h0,h1,cr,bne_self_eq_false,Bool.false_eq_true,if_true,if_false,EW,simprocAttr]
  ·simp only [K7,E92,aP,aN,az,q1,q2,q3,mu,h0,h1,cr,bne_self_eq_false,Bool.false_eq_true,if_true,if_false,EW,simprocAttr]
 ·simp only [K7,E92,aP,aN,az,q1,q2,q3,mu,h0,cr,bne_self_eq_false,Bool.false_eq_true,if_true,if_false,EW,simprocAttr]
def k92 (f:aa) (o:dL) (hf:nZ f) {p:Nat} {M:ai} (hM:nth M p=some (aP f o)):an (af cG) 92 [.ptr p 0] M=some (if ((dg f o).2 != 0)=true then cr (dg f o).2 else .agg (az (dg f o).1),M):=by
 have:=Bs (vs:=[]) hM (c92 f o hf) rfl rfl (by split<;>rfl) (fun _=>rfl) (fun _=>by split<;>rfl)
 rwa [ij hM] at this
def iU (f:aa) (o:dL) (ino:Int) (d:Bytes):Wk :=
 let w:=oC f.s.now ino d
 let r:=dE f w.1 f.ct
 if (w.2 != 0)=true then (f,cn,w.2) else
 if (r.2 != 0)=true then (r.1,cn,r.2) else
 (r.1,⟨0,ino,0,0,d.length,[],[]⟩,0)
def c94 (f:aa) (o:dL) (hf:nZ f) (ino:Int) (d:Bytes) (hd:d.length<=100000):af cG 94 [.ptr 0 0,.int .i64 ino,cY d] [aP f o] =
  some (if ((iU f o ino d).2.2 != 0)=true then cr (iU f o ino d).2.2 else .tuple [],[bh (iU f o ino d).1 o (iU f o ino d).2.1 (.slice .c0 []) (.slice .c0 [])]):=by
 refine aq rfl rfl rfl ?_
 unfold iU
 simp only []
 have q1:=abR f.s.now hf.rt ino d hd
 have hr:=hf.rt.put ino d
 generalize oC f.s.now ino d=w at q1 hr ⊢
 have q5:=fun {M}=>YZ f o w.1 f.ct hf hr hf.ct hf.qp (p:=0) (M:=M)
 generalize dE f w.1 f.ct=r at q5 ⊢
 simp only [aP,aN] at q5
 cases h0:w.2 != 0
 ·cases h1:r.2 != 0
  ·simp only [K8,E94,aP,aN,bh,cn,q1,q5,mu,h0,h1,bne_self_eq_false,Bool.false_eq_true,if_true,if_false,EW,simprocAttr]
  ·simp only [K8,E94,aP,aN,bh,cn,q1,q5,mu,h0,h1,cr,bne_self_eq_false,Bool.false_eq_true,if_true,if_false,EW,simprocAttr]
 ·simp only [K8,E94,aP,aN,bh,cn,q1,q5,mu,h0,cr,bne_self_eq_false,Bool.false_eq_true,if_true,if_false,EW,simprocAttr]
def k94 (f:aa) (o:dL) (hf:nZ f) (ino:Int) (d:Bytes) (hd:d.length<=100000) {p:Nat} {M:ai} (hM:nth M p=some (aP f o)):an (af cG) 94 [.ptr p 0,.int .i64 ino,cY d] M =
  some (if ((iU f o ino d).2.2 != 0)=true then cr (iU f o ino d).2.2 else .tuple [],dG M p (bh (iU f o ino d).1 o (iU f o ino d).2.1 (.slice .c0 []) (.slice .c0 []))) :=
 gN hM (c94 f o hf ino d hd) rfl rfl (by split<;>rfl) rfl (by split<;>rfl) rfl rfl rfl rfl rfl
end
section
def ahQ (d:Bytes) (hd:d.length<=100000) (M:ai):an (af cG) 93 [cY d] M=some (cY d,M):=by
 have h:af aV 93 [cY d] []=some (cY d,[]):=by
  refine bM (g:=X7 1 1) rfl ?_
  show BM 1 1 [cY d] []=_
  unfold BM
  simp only []
  have hw:wid (d.map jt) 1:=by have:=ki d; simpa using this
  have hr:bP (d.map jt).length 1:=by have:=dv (a:=d.length) (b:=1) (by omega) (by omega); simpa using this
  exact a8 ⟨hw,hr⟩
 exact lS (eH h rfl rfl rfl rfl rfl M)
def uz (X w:Bytes) (N:Nat) (h:N+w.length<=X.length):List.take X.length (List.take N (X.map jt)++(List.take w.length (w.map jt)++List.drop (N+w.length) (X.map jt)))=(X.take N++(w++X.drop (N+w.length))).map jt:=by
 rw [List.take_of_length_le (by simp; omega),List.take_of_length_le (l:=w.map jt) (by simp)]
 simp
def Ch (k:Nat):List.replicate k (ae.agg [.int .u8 0]).norm=(List.replicate k (0:UInt8)).map jt:=by
 rw [List.map_replicate]; rfl
def Lc (M:ai) (id ver sz lo hi:Nat):ae.ou M (.bu id ver sz lo hi)=match nth M id with
  |some (.arr _ v xs)=>if v=ver then .slice .sh ((xs.take hi).drop lo) else .any
  |_ => .any:=rfl
def p93 {d:Bytes} (h0:d≠[]) (hd:d.length<=100000) (b:aQ) (M:ai):af cG 93 [.slice .sh (d.map jt)] (b::M)=some (.bu (M.length+1) 0 1 0 d.length,(b::M)++[.arr 1 0 (d.map jt)]):=by
 refine lS' (bM (g:=X7 1 1) rfl ?_)
 show fp 1 1 [.slice .sh (d.map jt)] (b::M)=_
 obtain ⟨a,r,rfl⟩:=List.exists_cons_of_ne_nil h0
 have hw:wid ((a::r).map jt) 1:=by have:=ki (a::r); simpa using this
 have hr:bP ((a::r).map jt).length 1:=by have:=dv (a:=(a::r).length) (b:=1) (by omega) (by omega); simpa using this
 unfold fp
 simp only [List.map_cons] at hw hr ⊢
 rw [a8 ⟨hw,hr⟩]
 simp
def adI {d:Bytes} (h0:d=[]) (b:aQ) (M:ai):af cG 93 [.slice .sh (d.map jt)] (b::M)=some (.slice .c0 [],b::M):=by
 subst h0
 exact lS' (bM (g:=X7 1 1) rfl rfl)
def xG (a:Int) (n:Nat):Nat:=(if (n:Int)<a then (n:Int) else a).toNat
def zJ {a:Int} (h:0<=a) (n:Nat):(if (n:Int)<a then (n:Int) else a)=(xG a n:Int)/\xG a n<=n:=by
 unfold xG; split<;>omega
def vq {f:aa} {o:dL} (h:((dg f o).2 != 0)=false):0<=o.n/\∃i,(dg f o).1=aJ f.s.now.nodes i:=by
 unfold dg at h ⊢
 split at h
 ·rename_i h1; rw [h1] at h; cases h
 ·rename_i h1
  split at h
  ·rename_i h2; rw [if_neg h1,if_pos h2]; exact ⟨by simpa using h2,_,rfl⟩
  ·cases h
def sw {f:aa} (hf:nZ f) (i:Int):(aJ f.s.now.nodes i).data.length<=4096/\(aJ f.s.now.nodes i).au.length<=64:=by
 obtain ⟨dep,h⟩:=hf.rt
 unfold aJ
 cases hi:find f.s.now.nodes i with
 |none=>simp [Node.zero]
 |some n =>
  simp only [Option.getD_some]
  refine ⟨?_,(h.qm _ _ hi).2⟩
  rcases h.kind _ _ hi with h1|h1
  ·exact (h.file _ _ hi h1).2.2
  ·rw [h.dir _ _ hi h1]; simp
attribute [local irreducible] cT cR gz gK bR kr af an aZ aK
def xt (f:aa) (o:dL):Wk :=
 if ((dg f o).2 != 0)=true then (f,cn,(dg f o).2)
 else iU f o (dg f o).1.ino ((dg f o).1.data.take (xG o.n (dg f o).1.data.length))
def lH (f:aa) (o:dL) (ino:Int) (d:Bytes):(iU f o ino d).2.1.names=[]/\(iU f o ino d).2.1.data=[]:=by
 unfold iU; simp only []; split
 ·exact ⟨rfl,rfl⟩
 ·split<;>exact ⟨rfl,rfl⟩
def c66 (f:aa) (o:dL) (hf:nZ f) (ho:qj o):ik 66 f o (xt f o):=by
 unfold ik
 refine ⟨.slice .c0 [],.slice .c0 [],.inr ⟨rfl,?_⟩,.inr ⟨rfl,?_⟩,aq rfl rfl rfl ?_⟩
 ·unfold xt; split
  ·rfl
  ·rw [(lH ..).1]; rfl
 ·unfold xt; split
  ·rfl
  ·rw [(lH ..).2]; rfl
 have q1:=fun {M}=>k92 f o hf (p:=0) (M:=M)
 have hn:=vq (f:=f) (o:=o)
 unfold xt
 cases h0:(dg f o).2 != 0
 ·obtain ⟨hn0,i,hi⟩:=hn h0
  have hsz:=(sw hf i).1
  rw [<-hi] at hsz
  generalize (dg f o).1=n at q1 hsz ⊢
  generalize (dg f o).2=e at q1 h0 ⊢
  obtain ⟨m1,m2⟩:=zJ hn0 n.data.length
  generalize xG o.n n.data.length=mn at m1 m2 ⊢
  have q2:=fun {M}=>k94 f o hf n.ino (n.data.take mn) (by simp; omega) (p:=0) (M:=M)
  generalize iU f o n.ino (n.data.take mn)=r at q2 ⊢
  have hle:((mn:Int)<=(n.data.length:Int))=True:=by simp; omega
  have hz:((0:Int)<=(mn:Int))=True:=by simp
  simp only [aP,aN,bh,az,cY,List.map_take] at q1 q2
  cases h1:r.2.2 != 0
  ·simp only [K4,E66,aP,aN,bh,az,q1,q2,h0,h1,m1,hle,hz,cS,cr,Bool.false_eq_true,if_true,if_false,EW,simprocAttr]
  ·simp only [K4,E66,aP,aN,bh,az,q1,q2,h0,h1,m1,hle,hz,cS,cr,Bool.false_eq_true,if_true,if_false,EW,simprocAttr]
 ·simp only [aP,aN,az] at q1
  simp only [K4,E66,aP,aN,bh,cn,az,q1,h0,cr,Bool.false_eq_true,if_true,if_false,EW,simprocAttr]
def u6 (f:aa) (o:dL):Wk :=
 if ((dg f o).2 != 0)=true then (f,cn,(dg f o).2) else
 if (!(decide (0<=o.m)&&decide (o.m<=4096)))=true then (f,cn,1) else
 (f,⟨0,(dg f o).1.ino,0,0,0,[],((dg f o).1.data.drop (xG o.n (dg f o).1.data.length)).take (xG o.m ((dg f o).1.data.length-xG o.n (dg f o).1.data.length))⟩,0)
def c64 (f:aa) (o:dL) (hf:nZ f) (ho:qj o):ik 64 f o (u6 f o):=by
 unfold ik
 have q1:=fun {M}=>k92 f o hf (p:=0) (M:=M)
 have hn:=vq (f:=f) (o:=o)
 have q2:=fun bb=>HI bb 1 rfl
 unfold u6
 cases h0:(dg f o).2 != 0
 ·obtain ⟨hn0,i,hi⟩:=hn h0
  have hsz:=(sw hf i).1
  rw [<-hi] at hsz
  generalize (dg f o).1=n at q1 hsz ⊢
  generalize (dg f o).2=e at q1 h0 ⊢
  obtain ⟨m1,m2⟩:=zJ hn0 n.data.length
  generalize xG o.n n.data.length=mn at m1 m2 ⊢
  have hle:((mn:Int)<=(n.data.length:Int))=True:=by simp; omega
  have hz:∀k:Nat,((0:Int)<=(k:Int))=True:=fun k=>by simp
  have ht:List.take n.data.length (n.data.map jt)=n.data.map jt:=List.take_of_length_le (by simp)
  have hlen:(List.drop mn (n.data.map jt)).length=n.data.length-mn:=by simp
  cases h1:(!(decide (0<=o.m)&&decide (o.m<=4096)))
  ·have h1':decide (0<=o.m)=true/\decide (o.m<=4096)=true:=by simpa using h1
   have hm0:0<=o.m:=by simpa using h1'.1
   obtain ⟨p1,p2⟩:=zJ hm0 (n.data.length-mn)
   generalize xG o.m (n.data.length-mn)=mm at p1 p2 ⊢
   have hle2:((mm:Int)<=((n.data.length-mn:Nat):Int))=True:=by simp; omega
   have hw1:wid (List.drop mn (n.data.map jt)) 1=True:=by have:=ki (n.data.drop mn); rwa [List.map_drop] at this
   have q3:=fun M=>ahQ ((n.data.drop mn).take mm) (by simp; omega) M
   refine ⟨.slice .c0 [],cY ((n.data.drop mn).take mm),.inr ⟨rfl,rfl⟩,.inl rfl,aq rfl rfl rfl ?_⟩
   simp only [aP,aN,az,cY,List.map_take,List.map_drop] at q1 q3
   simp only [Dd,Zg,aP,aN,bh,az,q1,q2,q3,h0,h1'.1,h1'.2,m1,p1,hle,hle2,hz,ht,hlen,hw1,cS,cY,List.map_drop,Int.le_refl,bne_self_eq_false,Bool.false_eq_true,if_true,if_false,EW,simprocAttr]
  ·refine ⟨.slice .c0 [],.slice .c0 [],.inr ⟨rfl,rfl⟩,.inr ⟨rfl,rfl⟩,aq rfl rfl rfl ?_⟩
   have h1':(decide (0<=o.m)&&decide (o.m<=4096))=false:=by
    cases hx:(decide (0<=o.m)&&decide (o.m<=4096))
    ·rfl
    ·rw [hx] at h1; cases h1
   simp only [aP,aN,az,cY] at q1
   cases ha:decide (0<=o.m)<;>cases hb:decide (o.m<=4096)<;>simp only [ha,hb,Bool.and_self,Bool.and_false,Bool.false_and,Bool.and_true] at h1'
   ·simp only [Dd,Zg,aP,aN,bh,cn,az,q1,q2,h0,ha,hb,cr,Bool.false_eq_true,if_true,if_false,EW,simprocAttr]
   ·simp only [Dd,Zg,aP,aN,bh,cn,az,q1,q2,h0,ha,hb,cr,Bool.false_eq_true,if_true,if_false,EW,simprocAttr]
   ·simp only [Dd,Zg,aP,aN,bh,cn,az,q1,q2,h0,ha,hb,cr,Bool.false_eq_true,if_true,if_false,EW,simprocAttr]
   ·cases h1'
 ·refine ⟨.slice .c0 [],.slice .c0 [],.inr ⟨rfl,rfl⟩,.inr ⟨rfl,rfl⟩,aq rfl rfl rfl ?_⟩
  simp only [aP,aN,az] at q1
  simp only [Dd,Zg,aP,aN,bh,cn,az,q1,h0,cr,Bool.false_eq_true,if_true,if_false,EW,simprocAttr]
def gF (d:Bytes) (n:Nat) (w:Bytes):Bytes :=
 if w=[] then d else (d++List.replicate (n+w.length-d.length) 0).take n++(w++(d++List.replicate (n+w.length-d.length) 0).drop (n+w.length))
def nb (f:aa) (o:dL):Wk :=
 if ((dg f o).2 != 0)=true then (f,cn,(dg f o).2) else
 if (!decide (o.n<=4096))=true then (f,cn,1) else
 if (!decide (((o.n.toNat+o.data.length:Nat):Int)<=4096))=true then (f,cn,2) else
 iU f o (dg f o).1.ino (gF (dg f o).1.data o.n.toNat o.data)
def c65 (f:aa) (o:dL) (hf:nZ f) (ho:qj o):ik 65 f o (nb f o):=by
 unfold ik
 refine ⟨.slice .c0 [],.slice .c0 [],.inr ⟨rfl,?_⟩,.inr ⟨rfl,?_⟩,aq rfl rfl rfl ?_⟩
 ·unfold nb; split
  ·rfl
  ·split
   ·rfl
   ·split
    ·rfl
    ·rw [(lH ..).1]; rfl
 ·unfold nb; split
  ·rfl
  ·split
   ·rfl
   ·split
    ·rfl
    ·rw [(lH ..).2]; rfl
 have q1:=fun {M}=>k92 f o hf (p:=0) (M:=M)
 have hn:=vq (f:=f) (o:=o)
 have q2:=fun bb=>HI bb 1 rfl
 have q3:=fun bb=>HI bb 2 rfl
 unfold nb
 cases h0:(dg f o).2 != 0
 ·obtain ⟨hn0,i,hi⟩:=hn h0
  have hsz:=(sw hf i).1
  rw [<-hi] at hsz
  generalize (dg f o).1=n at q1 hsz ⊢
  generalize (dg f o).2=e at q1 h0 ⊢
  simp only [aP,aN,az] at q1
  cases h1:decide (o.n<=4096)
  ·simp only [xA,RY,aP,aN,bh,cn,az,q1,q2,h0,h1,cr,Bool.false_eq_true,if_true,if_false,EW,simprocAttr]
  ·have hn1:o.n<=4096:=by simpa using h1
   obtain ⟨N,hN⟩:∃N:Nat,o.n=(N:Int):=⟨o.n.toNat,by omega⟩
   have hdl:=ho.data
   have hw:IntKind.i64.wrap ((N:Int)+(o.data.length:Int))=((N+o.data.length:Nat):Int):=by rw [bw (by omega) (by omega)]; omega
   have hT:o.n.toNat=N:=by omega
   rw [hT]
   rw [hN] at q1 h1
   cases h2:decide (((N+o.data.length:Nat):Int)<=4096)
   ·simp only [xA,RY,aP,aN,bh,cn,az,q1,q2,q3,h0,h1,h2,hw,hN,cr,Bool.not_true,Bool.not_false,Bool.false_eq_true,if_true,if_false,EW,simprocAttr]
   ·have hE:N+o.data.length<=4096:=by
     have:((N+o.data.length:Nat):Int)<=4096:=by simpa using h2
     omega
    have hwl:(gF n.data N o.data).length<=100000:=by
     unfold gF; split
     ·omega
     ·simp; omega
    have q4:=fun {M}=>k94 f o hf n.ino (gF n.data N o.data) hwl (p:=0) (M:=M)
    generalize iU f o n.ino (gF n.data N o.data)=r at q4 ⊢
    simp only [aP,aN,bh,cY,hN] at q4
    by_cases hD:o.data=[]
    ·have hg:((0:Int)<(o.data.length:Int))=False:=by simp [hD]
     have hwr:gF n.data N o.data=n.data:=by unfold gF; rw [if_pos hD]
     rw [hwr] at q4
     by_cases hd0:n.data=[]
     ·have p1:=adI (d:=n.data) hd0
      rw [hd0] at q4
      simp only [List.map_nil] at q4
      cases h3:r.2.2 != 0<;>simp only [xA,RY,aP,aN,bh,az,q1,q2,q3,q4,p1,h0,h1,h2,h3,hN,hw,hg,cr,cY,FZ,Lc,lr,Bool.not_true,Bool.false_eq_true,if_true,if_false,EW,simprocAttr]
     ·have p1:=p93 (d:=n.data) hd0 (by omega)
      have ht:List.take n.data.length (n.data.map jt)=n.data.map jt:=List.take_of_length_le (by simp)
      cases h3:r.2.2 != 0<;>simp only [xA,RY,aP,aN,bh,az,q1,q2,q3,q4,p1,h0,h1,h2,h3,hN,hw,hg,ht,cr,cY,FZ,Lc,lr,Bool.not_true,Bool.false_eq_true,if_true,if_false,EW,simprocAttr]
    ·have hdl0:0<o.data.length:=List.length_pos_iff.2 hD
     have hg:((0:Int)<(o.data.length:Int))=True:=by simp; omega
     have hwb:=ki o.data
     by_cases hd0:n.data=[]
     ·have p1:=adI (d:=n.data) hd0
      have hk:IntKind.i64.wrap (((N+o.data.length:Nat):Int)-0)=((N+o.data.length:Nat):Int):=by rw [bw (by omega) (by omega)]; simp
      have hm:(((N+o.data.length:Nat):Int)<0)=False:=by simp; omega
      have hmi:min o.data.length (N+o.data.length-N)=o.data.length:=by omega
      have rk:bP (N+o.data.length) 1=True:=dv (by omega) (by omega)
      have b0:(((N+o.data.length:Nat):Int)==0)=false:=by simp; omega
      have b1:((N:Int)==((N+o.data.length:Nat):Int))=false:=by simp; omega
      have b2:((N:Int)<=((N+o.data.length:Nat):Int))=True:=by simp; omega
      have b3:(((N+o.data.length:Nat):Int)<=((N+o.data.length:Nat):Int))=True:=by simp
      have hz:=Ch (N+o.data.length)
      have htl:=uz (List.replicate (N+o.data.length) 0) o.data N (by simp)
      have hwr:gF n.data N o.data=(List.replicate (N+o.data.length) 0).take N++(o.data++(List.replicate (N+o.data.length) 0).drop (N+o.data.length)):=by
       unfold gF; rw [if_neg hD,hd0]; simp
      rw [hwr,<-htl] at q4
      rw [List.length_replicate] at q4
      have l1:(0<((List.replicate (N+o.data.length) (0:UInt8)).map jt).length)=True:=by simp; omega
      generalize (List.replicate (N+o.data.length) (0:UInt8)).map jt=X at hz q4 l1
      cases h3:r.2.2 != 0<;>simp only [xA,RY,aP,aN,bh,az,q1,q2,q3,q4,p1,h0,h1,h2,h3,hN,hw,hg,hk,hm,hmi,hwb,rk,b0,b1,b2,b3,hz,l1,cS,cr,cY,FZ,Lc,lr,Nat.sub_zero,Bool.not_true,Bool.false_eq_true,if_true,if_false,EW,simprocAttr]
     ·have p1:=p93 (d:=n.data) hd0 (by omega)
      have hL0:0<n.data.length:=List.length_pos_iff.2 hd0
      have l0:(0<n.data.length)=True:=by simp; omega
      have hwn:=ki n.data
      by_cases hE2:N+o.data.length<=n.data.length
      ·have hk:IntKind.i64.wrap (((N+o.data.length:Nat):Int)-(n.data.length:Int))=((N+o.data.length:Nat):Int)-(n.data.length:Int):=bw (by omega) (by omega)
       have hmx:(if ((N+o.data.length:Nat):Int)-(n.data.length:Int)<0 then (0:Int) else ((N+o.data.length:Nat):Int)-(n.data.length:Int))=0:=by split<;>omega
       have hmi:min o.data.length (n.data.length-N)=o.data.length:=by omega
       have rk:bP (n.data.length+0) 1=True:=dv (by omega) (by omega)
       have rk0:bP n.data.length 1=True:=dv (by omega) (by omega)
       have b1:((N:Int)==(n.data.length:Int))=false:=by simp; omega
       have b2:((N:Int)<=(n.data.length:Int))=True:=by simp; omega
       have htl:=uz n.data o.data N hE2
       have hwr:gF n.data N o.data=n.data.take N++(o.data++n.data.drop (N+o.data.length)):=by
        unfold gF; rw [if_neg hD,show N+o.data.length-n.data.length=0 by omega]; simp
       rw [hwr,<-htl] at q4
       cases h3:r.2.2 != 0<;>simp only [xA,RY,aP,aN,bh,az,q1,q2,q3,q4,p1,h0,h1,h2,h3,hN,hw,hg,hk,hmx,hmi,hwb,hwn,rk,rk0,l0,b1,b2,cS,cr,cY,D7,Int.le_refl,FZ,Lc,lr,Nat.sub_zero,Bool.not_true,Bool.false_eq_true,if_true,if_false,EW,simprocAttr]
      ·have hk:IntKind.i64.wrap (((N+o.data.length:Nat):Int)-(n.data.length:Int))=((N+o.data.length:Nat):Int)-(n.data.length:Int):=bw (by omega) (by omega)
       have hmx:(if ((N+o.data.length:Nat):Int)-(n.data.length:Int)<0 then (0:Int) else ((N+o.data.length:Nat):Int)-(n.data.length:Int))=((N+o.data.length-n.data.length:Nat):Int):=by split<;>omega
       have hsum:n.data.length+(N+o.data.length-n.data.length)=N+o.data.length:=by omega
       have hmi:min o.data.length (N+o.data.length-N)=o.data.length:=by omega
       have rk:bP (N+o.data.length) 1=True:=dv (by omega) (by omega)
       have b0:(((N+o.data.length-n.data.length:Nat):Int)==0)=false:=by simp; omega
       have b1:((N:Int)==((N+o.data.length:Nat):Int))=false:=by simp; omega
       have b2:((N:Int)<=((N+o.data.length:Nat):Int))=True:=by simp; omega
       have hz:=Ch (N+o.data.length-n.data.length)
       have htl:=uz (n.data++List.replicate (N+o.data.length-n.data.length) 0) o.data N (by simp; omega)
       have hwr:gF n.data N o.data=(n.data++List.replicate (N+o.data.length-n.data.length) 0).take N++(o.data++(n.data++List.replicate (N+o.data.length-n.data.length) 0).drop (N+o.data.length)):=by
        unfold gF; rw [if_neg hD]
       rw [hwr,<-htl] at q4
       have hlX:(n.data++List.replicate (N+o.data.length-n.data.length) (0:UInt8)).length=N+o.data.length:=by simp; omega
       rw [hlX,List.map_append] at q4
       have l1:(0<N+o.data.length)=True:=by simp; omega
       have lz:((List.replicate (N+o.data.length-n.data.length) (0:UInt8)).map jt).length=N+o.data.length-n.data.length:=by simp
       generalize (List.replicate (N+o.data.length-n.data.length) (0:UInt8)).map jt=Z at hz q4 lz
       cases h3:r.2.2 != 0<;>simp only [xA,RY,aP,aN,bh,az,q1,q2,q3,q4,p1,h0,h1,h2,h3,hN,hw,hg,hk,hmx,hsum,hmi,hwb,hwn,rk,l0,l1,lz,b0,b1,b2,hz,cS,cr,cY,D7,Int.le_refl,FZ,Lc,lr,Nat.sub_zero,Bool.not_true,Bool.false_eq_true,if_true,if_false,EW,simprocAttr]
 ·simp only [aP,aN,az] at q1
  simp only [xA,RY,aP,aN,bh,cn,az,q1,h0,cr,Bool.false_eq_true,if_true,if_false,EW,simprocAttr]
end
section
attribute [local irreducible] cT cR gz gK bR kr af an aZ aK
def agP (z:Int):af aV 99 [.slice .sh [],.func 132 [.ptr 0 0]] [.cells [.int .i64 z]]=some (.int .i64 (-1),[.cells [.int .i64 z]]):=by
 have h00:decide ((0:Int)<0)=false:=rfl
 have hz:((0:Nat):Int)=0:=rfl
 refine aq rfl rfl rfl ?_
 simp only [La,Ci,hz,EN,simprocAttr]
 rw [aE]
 simp only [Ci,h00,EN,simprocAttr]
end
def ahK (z:Int):an (af aV) 99 [.slice .sh [],.func 132 [.ptr 0 0]] [.cells [.int .i64 z]]=some (.int .i64 (-1),[.cells [.int .i64 z]]) :=
 eL (ids:=[0]) rfl rfl (show dN [.cells [.int .i64 z]] (dh [0]) [0]=some [.cells [.int .i64 z]] from rfl) rfl rfl (agP z) rfl rfl rfl rfl rfl
section
attribute [local irreducible] cT cR gz gK bR kr af an aZ aK
def aax (z:Int):af aV 130 [.slice .sh [],.func 132 [.ptr 0 0]] [.cells [.int .i64 z]]=some (.slice .sh [],[.cells [.int .i64 z]]):=by
 have h11:((-1:Int) == -1)=true:=rfl
 refine aq rfl rfl rfl ?_
 simp only [Ba,zd,ahK,h11,EN,simprocAttr]
end
def abw (z:Int) (b0 b2 b3:aQ):an (af aV) 130 [.slice .sh [],.func 132 [.ptr 1 0]] [b0,.cells [.int .i64 z],b2,b3]=some (.slice .sh [],[b0,.cells [.int .i64 z],b2,b3]) :=
 eL (ids:=[1]) rfl rfl (show dN [b0,.cells [.int .i64 z],b2,b3] (dh [1]) [1]=some [.cells [.int .i64 z]] from rfl) rfl rfl (aax z) rfl rfl rfl rfl rfl
def TR (b0 b2 b3:aQ) (xs:List ae) (z:Int):dN [b0,.cells [.int .i64 z],b2,b3,.arr 3 0 xs] (dh [4,1]) [4,1]=some [.arr 3 0 xs,.cells [.int .i64 z]]:=rfl
def ahh (xs:List cJ) (z:Int) (hn:xs.length<=100000) (h0:xs≠[]) (hk:ft z xs≠[]) (b0 b2 b3:aQ):an (af aV) 130 [.bu 4 0 3 0 xs.length,.func 132 [.ptr 1 0]] [b0,.cells [.int .i64 z],b2,b3,.arr 3 0 (xs.map dw)] =
  some (.bu 4 0 3 0 (ft z xs).length,[b0,.cells [.int .i64 z],b2,b3,.arr 3 0 ((ft z xs++List.replicate (xs.length-(ft z xs).length) Cg).map dw)]):=by
 have h:=aaw xs z hn h0
 have hl:(ft z xs).length≠0:=fun hh=>hk (List.length_eq_zero_iff.1 hh)
 have hr:zV (ft z xs).length = .bu 0 0 3 0 (ft z xs).length:=by simp [zV,hl]
 rw [hr] at h
 exact eL (ids:=[4,1]) rfl rfl (TR ..) rfl rfl h rfl rfl rfl rfl rfl
def abx (xs:List cJ) (z:Int) (hn:xs.length<=100000) (h0:xs≠[]) (hk:ft z xs=[]) (b0 b2 b3:aQ):an (af aV) 130 [.bu 4 0 3 0 xs.length,.func 132 [.ptr 1 0]] [b0,.cells [.int .i64 z],b2,b3,.arr 3 0 (xs.map dw)] =
  some (.slice .sh [],[b0,.cells [.int .i64 z],b2,b3,.arr 3 0 ((List.replicate xs.length Cg).map dw)]):=by
 have h:=aaw xs z hn h0
 have hr:zV (ft z xs).length = .slice .sh []:=by simp [zV,hk]
 rw [hr,hk] at h
 simp only [List.nil_append,List.length_nil,Nat.sub_zero] at h
 exact eL (ids:=[4,1]) rfl rfl (TR ..) rfl rfl h rfl rfl rfl rfl rfl
section
attribute [local irreducible] cT cR gz gK bR kr af an aZ aK
end
section
def yk (x:cJ):List cJ->List cJ
 | []=>[x]
 |y::r=>if x.ag<y.ag then x::y::r else y::yk x r
def mg:List cJ->List cJ
 | []=>[]
 |x::r=>yk x (mg r)
def ahL (n:cJ):lX 2 (dw n)=n.ag:=rfl
def Bn (x:cJ):∀l:List cJ,wz 2 (dw x) (l.map dw)=(yk x l).map dw
 | []=>rfl
 |y::r=>by
  simp only [List.map_cons,wz,yk,ahL]
  by_cases h:x.ag<y.ag
  ·simp only [h,if_true,List.map_cons]
  ·simp only [h,if_false,List.map_cons,Bn x r]
def yP:∀l:List cJ,jW 2 (l.map dw)=(mg l).map dw
 | []=>rfl
 |x::r=>by simp only [List.map_cons,jW,mg,yP r,Bn]
def yl (x:cJ):∀l,(yk x l).length=l.length+1
 | []=>rfl
 |y::r=>by simp only [yk]; split<;>simp [yl x r]
def oD:∀l,(mg l).length=l.length
 | []=>rfl
 |x::r=>by simp [mg,yl,oD r]
def DU {l Z:List cJ} {v:Nat} (hl:l.length<=1000000) (hn:(l.map cJ.ag).Nodup):af aV 133 [.bu 0 v 3 0 l.length,.func 134 []] [.arr 3 v ((l++Z).map dw)]=some (.tuple [],[.arr 3 v ((mg l++Z).map dw)]):=by
 refine bM (g:=oT 3 2 134) rfl ?_
 unfold oT
 simp only [nth]
 have ht:((l++Z).map dw).take l.length=l.map dw:=by simp [List.take_append_of_le_length]
 have hd:((l++Z).map dw).drop l.length=Z.map dw:=by simp
 rw [ht,hd,yP,<-List.map_append]
 rw [a8]
 ·rfl
 ·refine ⟨trivial,trivial,trivial,by simp,trivial,by omega,?_,?_⟩
  ·intro x hx
   obtain ⟨n,_,rfl⟩:=List.mem_map.1 hx
   rfl
  ·rw [List.map_map]
   exact hn
def adO (xs:List ae) (v:Nat) (b0 b1 b2 b3:aQ):dN [b0,b1,b2,b3,.arr 3 v xs] (dh [4]) [4]=some [.arr 3 v xs]:=rfl
attribute [local irreducible] cT cR gz gK bR kr af an aZ aK
def ahi {l Z:List cJ} {v:Nat} (hl:l.length<=1000000) (hn:(l.map cJ.ag).Nodup) (b0 b1 b2 b3:aQ):an (af aV) 133 [.bu 4 v 3 0 l.length,.func 134 []] [b0,b1,b2,b3,.arr 3 v ((l++Z).map dw)]=some (.tuple [],[b0,b1,b2,b3,.arr 3 v ((mg l++Z).map dw)]) :=
 eL (ids:=[4]) rfl rfl (adO _ _ ..) rfl rfl (DU hl hn) rfl rfl rfl rfl rfl
def TE (M:ai):an (af aV) 133 [.slice .sh [],.func 134 []] M=some (.tuple [],M):=by
 have h:af aV 133 [.slice .sh [],.func 134 []] []=some (.tuple [],[]):=by
  refine bM (g:=oT 3 2 134) rfl ?_
  unfold oT
  simp only [if_true]
 exact eH h rfl rfl rfl rfl rfl M
def sb (nodes:List Node) (ino z:Int):List cJ:=mg (ft z (dj nodes ino).1.au)
def mJ (t:Tree) (ino z m:Int):List cJ×Int×Int :=
 if (decide (z<0)||(decide (m<1)||decide (64<m)))=true then ([],0,1)
 else if ((dj t.nodes ino).2 != 0)=true then ([],0,(dj t.nodes ino).2)
 else if decide (((sb t.nodes ino z).length:Int)<=m)=true then (sb t.nodes ino z,0,0)
 else ((sb t.nodes ino z).take m.toNat,gG (((sb t.nodes ino z).getD (m.toNat-1) Cg).ag+1),0)
def tq {t:Tree} {dep:Int->Nat} (h:bN t dep 0) (ino:Int):((dj t.nodes ino).1.au.map cJ.ag).Nodup/\(dj t.nodes ino).1.au.length<=64:=by
 unfold dj
 cases hi:find t.nodes ino with
 |none=>exact ⟨List.nodup_nil,by simp [Node.zero]⟩
 |some n =>
  simp only
  split
  ·exact ⟨by rw [List.nodup_iff_pairwise_ne,List.pairwise_map]; exact (h.qm _ _ hi).1,(h.qm _ _ hi).2⟩
  ·exact ⟨List.nodup_nil,by simp [Node.zero]⟩
def c86 (t:Tree) (ht:Rt t) (ino z m:Int):af aV 86 [bI t,.int .i64 ino,.int .i64 z,.int .i64 m] []=some (.tuple [fR (mJ t ino z m).1,.int .i64 (mJ t ino z m).2.1,.int .i64 (mJ t ino z m).2.2],[]):=by
 obtain ⟨dep,h⟩:=ht
 refine aq rfl rfl rfl ?_
 have q1:=fun b c M=>Qb t.nodes t.next t.ag ino h.gx.fh (by have:=h.nodes; omega) 2 (b::c :: .cells [aF t.nodes,.int .i64 t.next,.int .i64 t.ag]::M) rfl
 obtain ⟨hnd,h64⟩:=tq h ino
 have hknd:((ft z (dj t.nodes ino).1.au).map cJ.ag).Nodup:=(List.filter_sublist.map _).nodup hnd
 have hkl:(ft z (dj t.nodes ino).1.au).length<=64:=Nat.le_trans (List.length_filter_le _ _) h64
 unfold mJ sb
 generalize dj t.nodes ino=d at q1 hnd h64 hknd hkl ⊢
 simp only [bm,az] at q1
 cases g1:decide (z<0)
 ·cases g2:decide (m<1)
  ·cases g3:decide (64<m)
   ·cases g4:d.2 != 0
    ·obtain ⟨M,hM⟩:∃M:Nat,m=(M:Int):=⟨m.toNat,by simp at g2; omega⟩
     subst hM
     have hM1:1<=M:=by simp at g2; omega
     have hM64:M<=64:=by simp at g3; omega
     generalize hE:d.1.au=E at q1 hknd hkl h64 ⊢
     have c0:∀b0 b2 b3,an (af aV) 130 [.slice .sh [],.func 132 [.ptr 1 0]] [b0,.cells [.int .i64 z],b2,b3]=some (.slice .sh [],[b0,.cells [.int .i64 z],b2,b3]):=fun b0 b2 b3=>abw z b0 b2 b3
     have z0:((0:Int)<=(M:Int))=True:=by simp
     by_cases hE0:E=[]
     ·have p1:∀M,af aV 131 [fR E] M=some (.slice .c0 [],M):=fun M=>by subst hE0; exact adH M
      have hk:mg (ft z E)=[]:=by subst hE0; rfl
      rw [hk]
      simp only [xB,RZ,bI,aw,q1,g1,g2,g3,g4,p1,c0,TE,z0,List.length_nil,az,Bool.or_self,Bool.false_eq_true,if_true,if_false,EW,simprocAttr]
      rfl
     ·have p1:=fun M=>p58 (l:=E) hE0 (by omega) M
      by_cases hK0:ft z E=[]
      ·have p2:=fun b0 b2 b3=>abx E z (by omega) hE0 hK0 b0 b2 b3
       have hk:mg (ft z E)=[]:=by rw [hK0]; rfl
       rw [hk]
       simp only [xB,RZ,bI,aw,q1,g1,g2,g3,g4,p1,p2,TE,z0,List.length_nil,az,Bool.or_self,Bool.false_eq_true,if_true,if_false,EW,simprocAttr]
       rfl
      ·have p2:=fun b0 b2 b3=>ahh E z (by omega) hE0 hK0 b0 b2 b3
       have hsl:=oD (ft z E)
       generalize ft z E=kk at p2 hknd hkl hK0 hsl ⊢
       generalize List.replicate (E.length-kk.length) Cg=Z at p2
       have p3:=fun b0 b1 b2 b3=>ahi (l:=kk) (Z:=Z) (v:=0) (by omega) hknd b0 b1 b2 b3
       generalize mg kk=ss at p3 hsl ⊢
       have tk:List.take kk.length ((ss++Z).map dw)=ss.map dw:=by rw [<-hsl]; simp [List.take_append_of_le_length]
       cases g5:decide ((kk.length:Int)<=(M:Int))
       ·have hlt:M<kk.length:=by simp at g5; omega
        have g6:decide ((ss.length:Int)<=(M:Int))=false:=by rw [hsl]; exact g5
        have hw1:IntKind.i64.wrap ((M:Int)-1)=((M-1:Nat):Int):=by rw [bw (by omega) (by omega)]; omega
        have hx:=List.getElem?_eq_getElem (show M-1<ss.length by omega)
        have hg:ss.getD (M-1) Cg=ss[M-1]:=by simp [List.getD,hx]
        have hat:(ss++Z)[M-1]?=some ss[M-1]:=by rw [List.getElem?_append_left (by omega)]; exact hx
        have tm:List.take M ((ss++Z).map dw)=(ss.take M).map dw:=by
         rw [<-List.map_take,List.take_append_of_le_length (by omega)]
        have b1:((M:Int)<=(kk.length:Int))=True:=by simp; omega
        have b2:((M:Int)==0)=false:=by simp; omega
        have b3:((0:Int)==(M:Int))=false:=by simp; omega
        have b4:(((M-1:Nat):Int)<(kk.length:Int))=True:=by simp; omega
        simp only [xB,RZ,bI,aw,q1,g1,g2,g3,g4,g5,g6,p1,p2,p3,z0,hw1,hg,hat,tm,b1,b2,b3,b4,cS,Int.le_refl,Nat.sub_zero,dy,az,Bool.or_self,Bool.false_eq_true,if_true,if_false,EW,simprocAttr]
        rw [<-List.map_take]
       ·have g6:decide ((ss.length:Int)<=(M:Int))=true:=by rw [hsl]; exact g5
        simp only [xB,RZ,bI,aw,q1,g1,g2,g3,g4,g5,g6,p1,p2,p3,tk,Nat.sub_zero,az,Bool.or_self,Bool.false_eq_true,if_true,if_false,EW,simprocAttr]
    ·simp only [xB,RZ,bI,aw,q1,g1,g2,g3,g4,az,Bool.or_self,Bool.false_eq_true,if_true,if_false,EW,simprocAttr]
     rfl
   ·simp only [xB,RZ,bI,aw,g1,g2,g3,az,Bool.or_true,Bool.or_self,Bool.false_eq_true,if_true,if_false,EW,simprocAttr]
    rfl
  ·simp only [xB,RZ,bI,aw,g1,g2,az,Bool.true_or,Bool.or_true,Bool.or_self,Bool.false_eq_true,if_true,if_false,EW,simprocAttr]
   rfl
 ·simp only [xB,RZ,bI,aw,g1,az,Bool.true_or,Bool.or_self,Bool.false_eq_true,if_true,if_false,EW,simprocAttr]
  rfl
def k86 (t:Tree) (ht:Rt t) (ino z m:Int) (M:ai):an (af cG) 86 [.agg [aF t.nodes,.int .i64 t.next,.int .i64 t.ag],.int .i64 ino,.int .i64 z,.int .i64 m] M=some (.tuple [fR (mJ t ino z m).1,.int .i64 (mJ t ino z m).2.1,.int .i64 (mJ t ino z m).2.2],M) :=
 lS (cO (c86 t ht ino z m) M)
def GJ {t:Tree} (ht:Rt t) (ino z m:Int):(mJ t ino z m).1.length<=100000:=by
 obtain ⟨dep,h⟩:=ht
 have h64:=(tq h ino).2
 have hf:(sb t.nodes ino z).length<=64:=by unfold sb; rw [oD]; exact Nat.le_trans (List.length_filter_le _ _) h64
 unfold mJ
 split
 ·simp
 ·split
  ·simp
  ·split
   ·simp only; omega
   ·simp; omega
def uU (f:aa) (o:dL):Wk :=
 let v:=dZ f.s.now o.path
 let l:=mJ f.s.now (aJ f.s.now.nodes v.1).ino o.n o.m
 if (v.2 != 0)=true then (f,cn,v.2) else
 if (l.2.2 != 0)=true then (f,cn,l.2.2) else
 (f,⟨0,0,0,l.2.1,0,l.1.map cJ.name,[]⟩,0)
def c60 (f:aa) (o:dL) (hf:nZ f) (ho:qj o):ik 60 f o (uU f o):=by
 unfold ik
 have q1:=fun {M}=>VF f o o.path hf.rt.small hf.rt.gx (by have:=ho.path; omega) (p:=0) (M:=M)
 unfold uU
 simp only []
 generalize dZ f.s.now o.path=v at q1 ⊢
 generalize aJ f.s.now.nodes v.1=n at q1 ⊢
 have q2:=k86 f.s.now hf.rt n.ino o.n o.m
 have hl:=GJ hf.rt n.ino o.n o.m
 generalize mJ f.s.now n.ino o.n o.m=l at q2 hl ⊢
 have q3:=k87 l.1 hl
 simp only [aP,aN,az] at q1
 cases h0:v.2 != 0
 ·cases h1:l.2.2 != 0
  ·refine ⟨fC (l.1.map cJ.name),.slice .c0 [],.inl rfl,.inr ⟨rfl,rfl⟩,aq rfl rfl rfl ?_⟩
   simp only [K2,E60,aP,aN,bh,az,q1,q2,q3,mu,h0,h1,bne_self_eq_false,Bool.false_eq_true,if_true,if_false,EW,simprocAttr]
  ·refine ⟨.slice .c0 [],.slice .c0 [],.inr ⟨rfl,rfl⟩,.inr ⟨rfl,rfl⟩,aq rfl rfl rfl ?_⟩
   simp only [K2,E60,aP,aN,bh,cn,az,q1,q2,q3,mu,h0,h1,cr,bne_self_eq_false,Bool.false_eq_true,if_true,if_false,EW,simprocAttr]
 ·refine ⟨.slice .c0 [],.slice .c0 [],.inr ⟨rfl,rfl⟩,.inr ⟨rfl,rfl⟩,aq rfl rfl rfl ?_⟩
  simp only [K2,E60,aP,aN,bh,cn,az,q1,h0,cr,bne_self_eq_false,Bool.false_eq_true,if_true,if_false,EW,simprocAttr]
end
section
attribute [local irreducible] cT cR gz gK bR kr af an aZ aK
def afy (e:cJ) (s:Bytes):af aV 100 [dw e,.ptr 0 0] [.cells [.str s]]=some (.bool (e.name==s),[.cells [.str s]]):=by
 refine aq rfl rfl rfl ?_
 simp only [JV,aex,dw,dy,EW,simprocAttr]
def Q7 {xs:List cJ} {s:Bytes} (hn:xs.length<=100000) {k:List K} {R:Int->Option (ae×ai)}
  (hx:∀e,kr (af aV) [.tmp 4] 1 k ⟨.exit 0,e,[aQ.cells [.str s]]⟩=R (-1)) (hr:∀(i:Nat),kr (af aV) [.tmp 4] 1 k ⟨.ret,[(4,.int .i64 i)],[aQ.cells [.str s]]⟩=R i) :
  ∀(l pre:List cJ),xs=pre++l->cT (af aV) [.tmp 4] 1 k (.loop [0,1,7,8] M6) [(0,.slice .sh (xs.map dw)),(1,.func 100 [.ptr 0 0]),(7,.int .i64 xs.length),(8,.int .i64 pre.length)] [aQ.cells [.str s]]=R (ka (fun e:cJ=>e.name==s) l pre.length):=by
 intro l
 induction l with
 |nil =>
  intro pre h
  rw [aE]
  simp only [Ci,bZ h,EW,simprocAttr]
  exact hx _
 |cons n rest ih =>
  intro pre h
  rw [aE]
  have hlen:pre.length+1<=100000:=by rw [h] at hn; simp at hn; omega
  have hw:IntKind.i64.wrap ((pre.length:Int)+1)=((pre++[n]).length:Int):=by rw [bw (by omega) (by omega)]; exact bp
  have hi:=ih (pre++[n]) (by rw [h]; simp)
  simp only [List.length_append,List.length_cons,List.length_nil] at hi
  have hk:∀x:cJ,an (af aV) 100 [.agg (dy x),.ptr 0 0] [aQ.cells [.str s]]=some (.bool ((fun e:cJ=>e.name==s) x),[aQ.cells [.str s]]):=fun x=>pQ (f:=100) (p:=0) (vs:=[.agg (dy x)]) (M:=[aQ.cells [.str s]]) rfl (afy x s) rfl rfl rfl rfl rfl rfl rfl rfl rfl
  rw [ka]
  simp only [Ci,aY h,aW h,hk,EW,simprocAttr]
  refine aH (fun hb=>?_) (fun hb=>?_)
  ·simp only [Ci,hb,EW,simprocAttr]
   exact hr _
  ·simp only [Ci,hb,hw,Bool.false_eq_true,EW,simprocAttr]
   exact hi
def agQ (xs:List cJ) (s:Bytes) (hn:xs.length<=100000):af aV 99 [.slice .sh (xs.map dw),.func 100 [.ptr 0 0]] [aQ.cells [.str s]]=some (.int .i64 (ka (fun e:cJ=>e.name==s) xs 0),[aQ.cells [.str s]]):=by
 refine aq rfl rfl rfl ?_
 simp only [La,Ci,EW,simprocAttr]
 exact Q7 (R:=fun i=>some (.int .i64 i,[aQ.cells [.str s]])) hn (fun e=>by simp only [Ci,EW,simprocAttr]) (fun i=>by simp only [Ci,EW,simprocAttr]) xs [] rfl
def Fu:List ae:=[.int .i64 0,.int .i64 0,.int .i64 0,.slice .c0 [],.slice .c0 [],.int .i64 0]
def oZ (o:Option Node):List ae:=match o with
 |some n=>az n
 |none=>Fu
def TH (o:Option Node):jK (.agg [.int .i64 0,.int .i64 0,.int .i64 0,.slice .c0 [],.slice .c0 [],.int .i64 0]) false (o.map bm) = .agg (oZ o):=by cases o<;>rfl
def di (all:AM Node):List Bytes->Option Node->Option Node×Int
 | [],o=>(o,0)
 |s::r,o=>if (!((o.getD Node.zero).kind==2))=true then (o,73) else match (o.getD Node.zero).au.find? (fun e=>e.name==s) with
  |none=>(o,70)
  |some e=>di all r (cp all e.ino)
def cq (l:List Node) (m:AM Node):AM Node:=l.foldl (fun m n=>iC m n.ino n) m
def Q2 {W:aa×dL} {at':Int} {p:List Bytes} {xs:List Node} (hn:xs.length<=200000) {fin:AM Node} {k:List K} {r:Option (ae×ai)}
  (hx:∀e,kr (af cG) [] 1 k ⟨.exit 0,(0,.ptr 0 0)::(2,.int .i64 at')::(5,fC p)::(6,.df 1)::e,[aP W.1 W.2,.map (uM fin) (jD bm fin)]⟩=r) :
  ∀(l pre:List Node) (m:AM Node),xs=pre++l->cq l m=fin->cT (af cG) [] 1 k (.loop [0,2,5,6,42,43,44] Xi) [(0,.ptr 0 0),(2,.int .i64 at'),(5,fC p),(6,.df 1),(42,aF xs),(43,.int .i64 xs.length),(44,.int .i64 pre.length)] [aP W.1 W.2,.map (uM m) (jD bm m)]=r:=by
 obtain ⟨f,o⟩:=W
 simp only [aP,aN] at hx ⊢
 intro l
 induction l with
 |nil =>
  intro pre m h hfin
  rw [aE]
  simp only [cq,List.foldl_nil] at hfin
  subst hfin
  simp only [Ee,bZ h,EW,simprocAttr]
  exact hx _
 |cons n rest ih =>
  intro pre m h hfin
  rw [aE]
  have hlen:pre.length+1<=200000:=by rw [h] at hn; simp at hn; omega
  have hw:IntKind.i64.wrap ((pre.length:Int)+1)=((pre++[n]).length:Int):=by rw [bw (by omega) (by omega)]; exact bp
  have hi1:=ih (pre++[n]) (iC m n.ino n) (by rw [h]; simp) hfin
  have hput:=lY bm m n.ino n
  simp only [bm,az,List.length_append,List.length_cons,List.length_nil,Nat.zero_add] at hi1 hput
  simp only [Ee,aY h,aW h,az,hw,hput,mapOf.eq_1,PB,EW,simprocAttr]
  exact hi1
def Q3 {W:aa×dL} {all:AM Node} (hall:∀k n,cp all k=some n->n.au.length<=100000) {xs:List Bytes} (hn:xs.length<=100000) {fin:Option Node×Int} {k:List K} {r:Option (ae×ai)}
  (hx:fin.2=0->∀e,kr (af cG) [] 1 k ⟨.exit 2,(0,.ptr 0 0)::(6,.df 1)::(9,.ptr 2 0)::e,[aP W.1 W.2,.map (uM all) (jD bm all),.cells (oZ fin.1)]⟩=r)
  (hp:(fin.2 != 0)=true->∀c d,kr (af cG) [] 1 k ⟨.gw (.iface 44 (.int .i64 fin.2)),[],[aP W.1 W.2,.map (uM all) (jD bm all),.cells c,d]⟩=r) :
  ∀(l pre:List Bytes) (o:Option Node),xs=pre++l->(∀n,o=some n->n.au.length<=100000)->di all l o=fin->cT (af cG) [] 1 k (.loop [0,6,9,56,57,58] Xj) [(0,.ptr 0 0),(6,.df 1),(9,.ptr 2 0),(56,fC xs),(57,.int .i64 xs.length),(58,.int .i64 pre.length)] [aP W.1 W.2,.map (uM all) (jD bm all),.cells (oZ o)]=r:=by
 obtain ⟨f,op⟩:=W
 simp only [aP,aN] at hx hp ⊢
 intro l
 induction l with
 |nil =>
  intro pre o h ho hfin
  rw [aE]
  rw [di] at hfin
  subst hfin
  cases o<;>simp only [oZ,Fu,az,Ee,bZ h,PB,EW,simprocAttr] at hx ⊢ <;> exact hx trivial _
 |cons s rest ih =>
  intro pre o h ho hfin
  rw [aE]
  have hlen:pre.length+1<=100000:=by rw [h] at hn; simp at hn; omega
  have hw:IntKind.i64.wrap ((pre.length:Int)+1)=((pre++[s]).length:Int):=by rw [bw (by omega) (by omega)]; exact bp
  have q2:=fun bb=>HI bb 73 rfl
  have q3:=fun bb=>HI bb 70 rfl
  cases o with
  |none =>
   have hf:di all (s::rest) none=(none,73):=rfl
   rw [hf] at hfin
   subst hfin
   have h02:((0:Int)==2)=false:=rfl
   simp only [oZ,Fu,Ee,aY h,aW h,h02,q2,cr,Bool.false_eq_true,if_false,EW,simprocAttr]
   exact hp rfl _ _
  |some n =>
   rw [di] at hfin
   simp only [Option.getD_some] at hfin
   cases hk:n.kind==2
   ·rw [hk] at hfin
    simp only [Bool.not_false,if_true] at hfin
    subst hfin
    simp only [oZ,az,Ee,aY h,aW h,hk,q2,cr,Bool.false_eq_true,if_false,EW,simprocAttr]
    exact hp rfl _ _
   ·rw [hk] at hfin
    simp only [Bool.not_true,Bool.false_eq_true,if_false] at hfin
    have hne:=ho n rfl
    have q4:∀M,nth M 3=some (.cells [.str s])->an (af cG) 99 [fR n.au,.func 100 [.ptr 3 0]] M=some (.int .i64 (ka (fun e:cJ=>e.name==s) n.au 0),M):=fun M hM=>lS (rS hM (agQ n.au s hne) rfl rfl rfl)
    rcases pZ (fun e:cJ=>e.name==s) n.au 0 with ⟨i1,i2⟩|⟨j,e,i1,i2,i3,_⟩
    ·rw [i2] at hfin
     simp only at hfin
     subst hfin
     rw [i1] at q4
     have hneg:(0<=(-1:Int))=False:=by simp
     simp only [oZ,az,Ee,aY h,aW h,hk,q2,q3,q4,hneg,cr,Bool.false_eq_true,if_true,if_false,EW,simprocAttr]
     exact hp rfl _ _
    ·rw [i3] at hfin
     simp only at hfin
     rw [i1,Nat.zero_add] at q4
     have hi:=ih (pre++[s]) (cp all e.ino) (by rw [h]; simp) (fun m hm=>hall _ _ hm) hfin
     have hlg:=TH (cp all e.ino)
     simp only [List.length_append,List.length_cons,List.length_nil,Nat.zero_add] at hi
     have hisC:(oZ (cp all e.ino)).all ae.cZ=true:=by cases cp all e.ino<;>rfl
     have hlC:(oZ (cp all e.ino)).length=6:=by cases cp all e.ino<;>rfl
     have hbC:∀B M,List.map (ae.fc B M) (oZ (cp all e.ino))=oZ (cp all e.ino):=fun B M=>by cases cp all e.ino<;>rfl
     generalize oZ (cp all e.ino)=gc at hi hlg hisC hlC hbC
     simp only [oZ,az,dy,Ee,aY h,aW h,hk,q2,q3,q4,i2,iv,hlg,hisC,hlC,hbC,hw,mapOf.eq_1,PB,Bool.false_eq_true,if_true,if_false,EW,simprocAttr]
     exact hi
def yU {all:AM Node} {P:Node->Prop} (hall:∀k n,cp all k=some n->P n):∀(f:Nat) (ino:Int) (st:VS),(∀n,n∈st.2->P n)->∀n,n∈(dU all f ino st).2.2->P n:=by
 intro f
 induction f with
 |zero=>intro ino st h; exact h
 |succ f ih =>
  intro ino st h
  rw [dU]
  split
  ·exact h
  ·split
   ·exact h
   ·rename_i h1
    cases hn:cp all ino with
    |none=>simp [hn] at h1
    |some n =>
     simp only [Option.getD_some]
     have hfold:∀(l:List cJ) (w:Bool×VS),(∀n,n∈w.2.2->P n)->∀n,n∈(l.foldl (fun w e=>((dU all f e.ino w.2).1&&w.1,(dU all f e.ino w.2).2)) w).2.2->P n:=by
      intro l
      induction l with
      |nil=>intro w hw; exact hw
      |cons e r ihr =>
       intro w hw
       rw [List.foldl_cons]
       exact ihr _ (ih e.ino w.2 hw)
     refine hfold _ _ ?_
     intro m hm
     simp only [List.mem_append,List.mem_singleton] at hm
     rcases hm with hm|rfl
     ·exact h m hm
     ·exact hall _ _ hn
def BH (x y:Node):∀l:List Node,y∈zA x l->y=x\/y∈l
 | [],h=>by simp [zA] at h; exact .inl h
 |z::r,h=>by
  simp only [zA] at h
  split at h
  ·simpa using h
  ·rcases List.mem_cons.1 h with h|h
   ·exact .inr (by simp [h])
   ·rcases BH x y r h with h|h
    ·exact .inl h
    ·exact .inr (by simp [h])
def tX (y:Node):∀l:List Node,y∈va l->y∈l
 | [],h=>h
 |x::r,h=>by
  rcases BH x y _ h with h|h
  ·simp [h]
  ·exact List.mem_cons_of_mem _ (tX y r h)
def rq:∀(l:List Node) (m:AM Node) (k:Int) (n:Node),cp (cq l m) k=some n->n∈l\/cp m k=some n
 | [],m,k,n,h => .inr h
 |x::r,m,k,n,h=>by
  have h':cp (cq r (iC m x.ino x)) k=some n:=h
  rcases rq r _ k n h' with h|h
  ·exact .inl (by simp [h])
  ·rw [fY] at h
   split at h
   ·injection h with h; exact .inl (by simp [h])
   ·exact .inr h
def nZ.all {f:aa} (hf:nZ f) (a:Int):qt (qV f.s a)/\(qV f.s a).length<=100200:=by
 obtain ⟨g1,g2⟩:=px a f.s.cP [] ⟨fun k n h=>(by cases h),fun k n h=>(by cases h)⟩ (fun p hp=>by have:=(hf.zO p hp).1; omega)
 obtain ⟨g3,g4⟩:=ua a f.s.now.nodes f.s.since (f.s.cP.foldl (fU a) []) g1 (fun n hn=>by have:=hf.rt.sz.au n hn; omega)
 refine ⟨g3,?_⟩
 have:=hf.rt.sz.nodes; have h3:=hf.cP
 simp at g2; unfold qV; omega
def Ug {f:aa} (hf:nZ f) (id:Int):(mq f.s id).2.1.length<=200000/\∀n,n∈(mq f.s id).2.1->n.au.length<=100000:=by
 unfold mq
 split
 ·rename_i x _
  obtain ⟨h1,h2⟩:=hf.all x.at'
  have hg:=pH (all:=qV f.s x.at') h1.own 200001 x.ino ([],[])
  refine ⟨?_,fun n hn=>?_⟩
  ·have:=hg.len; have h3:=oy (qV f.s x.at') []
   simp only [List.length_nil] at this
   simp only [wq,uk,pG]; omega
  ·have:=tX n _ hn
   exact yU (P:=fun n=>n.au.length<=100000) h1.au 200001 x.ino ([],[]) (fun n h=>by cases h) n this
 ·exact ⟨by simp,fun n h=>by cases h⟩
def uX (f:aa) (o:dL):Wk :=
 let a:=mq f.s o.n
 let p:=cD o.path
 let r:=di (cq a.2.1 []) p.1 (cp (cq a.2.1 []) a.1)
 if (a.2.2 != 0)=true then (f,cn,a.2.2) else
 if (p.2 != 0)=true then (f,cn,p.2) else
 if (r.2 != 0)=true then (f,cn,r.2) else
 (f,⟨0,(r.1.getD Node.zero).ino,(r.1.getD Node.zero).kind,(r.1.getD Node.zero).bS,sO (r.1.getD Node.zero),(r.1.getD Node.zero).au.map cJ.name,(r.1.getD Node.zero).data⟩,0)
def uY {all:AM Node} (hall:∀k n,cp all k=some n->n.au.length<=100000):∀(p:List Bytes) (o:Option Node),(∀n,o=some n->n.au.length<=100000)->∀n,(di all p o).1=some n->n.au.length<=100000
 | [],o,ho,n,h=>ho n h
 |s::r,o,ho,n,h=>by
  rw [di] at h
  split at h
  ·exact ho n h
  ·split at h
   ·exact ho n h
   ·exact uY hall r _ (fun m hm=>hall _ _ hm) n h
def c69 (f:aa) (o:dL) (hf:nZ f) (ho:qj o):ik 69 f o (uX f o):=by
 unfold ik
 have q1:=fun M=>lS (k97 f.s o.n (by have:=hf.taken; omega) (by have:=hf.cP; omega) (fun p hp=>by have:=(hf.zO p hp).1; omega) hf.rt.sz hf.len M)
 have ha:=Ug hf o.n
 have q2:=k98 o.path (by have:=ho.path; omega)
 have hp:=(qd o.path).2
 unfold uX
 simp only []
 generalize mq f.s o.n=a at q1 ha ⊢
 generalize cD o.path=p at q2 hp ⊢
 have hall:∀k n,cp (cq a.2.1 []) k=some n->n.au.length<=100000:=fun k n h=>by
  rcases rq _ _ _ _ h with h|h
  ·exact ha.2 n h
  ·cases h
 have hpe:=uY hall p.1 (cp (cq a.2.1 []) a.1) (fun n h=>hall _ _ h)
 simp only [bo] at q1
 have k88z:∀M,an (af cG) 88 [.agg [.int .i64 0,.int .i64 0,.int .i64 0,.slice .sh [],.slice .sh [],.int .i64 0]] M=some (.int .i64 (sO Node.zero),M):=fun M=>k88 Node.zero M
 have k87z:∀M,an (af cG) 87 [.slice .sh []] M=some (.slice .sh [],M):=fun M=>k87 [] (by simp) M
 cases h0:a.2.2 != 0
 ·cases h1:p.2 != 0
  ·have hlg:=TH (cp (cq a.2.1 []) a.1)
   have hisC:(oZ (cp (cq a.2.1 []) a.1)).all ae.cZ=true:=by cases cp (cq a.2.1 []) a.1<;>rfl
   have hlC:(oZ (cp (cq a.2.1 []) a.1)).length=6:=by cases cp (cq a.2.1 []) a.1<;>rfl
   have main:∀x y,(Row x (((di (cq a.2.1 []) p.1 (cp (cq a.2.1 []) a.1)).1.getD Node.zero).au.map cJ.name |>.map ae.str)/\x=fC (((di (cq a.2.1 []) p.1 (cp (cq a.2.1 []) a.1)).1.getD Node.zero).au.map cJ.name)) ->
     (y=match (di (cq a.2.1 []) p.1 (cp (cq a.2.1 []) a.1)).1 with|some n=>cY n.data|none => .slice .c0 []) ->
     af cG 69 [.ptr 0 0] [.cells (aN f o)]=some (if ((di (cq a.2.1 []) p.1 (cp (cq a.2.1 []) a.1)).2 != 0)=true then cr (di (cq a.2.1 []) p.1 (cp (cq a.2.1 []) a.1)).2 else .tuple [],
      [if ((di (cq a.2.1 []) p.1 (cp (cq a.2.1 []) a.1)).2 != 0)=true then bh f o cn (.slice .c0 []) (.slice .c0 []) else
       bh f o ⟨0,((di (cq a.2.1 []) p.1 (cp (cq a.2.1 []) a.1)).1.getD Node.zero).ino,((di (cq a.2.1 []) p.1 (cp (cq a.2.1 []) a.1)).1.getD Node.zero).kind,((di (cq a.2.1 []) p.1 (cp (cq a.2.1 []) a.1)).1.getD Node.zero).bS,sO ((di (cq a.2.1 []) p.1 (cp (cq a.2.1 []) a.1)).1.getD Node.zero),[],[]⟩ x y]):=by
    rintro x y ⟨_,hx⟩ hy
    subst hx hy
    refine aq rfl rfl rfl ?_
    have hb:=Q3 (W:=(f,o)) hall (xs:=p.1) (by omega) (fin:=di (cq a.2.1 []) p.1 (cp (cq a.2.1 []) a.1)) (k:=[.block 2,.seq Yk]) (r:=some (if ((di (cq a.2.1 []) p.1 (cp (cq a.2.1 []) a.1)).2 != 0)=true then cr (di (cq a.2.1 []) p.1 (cp (cq a.2.1 []) a.1)).2 else .tuple [],
      [if ((di (cq a.2.1 []) p.1 (cp (cq a.2.1 []) a.1)).2 != 0)=true then bh f o cn (.slice .c0 []) (.slice .c0 []) else
       bh f o ⟨0,((di (cq a.2.1 []) p.1 (cp (cq a.2.1 []) a.1)).1.getD Node.zero).ino,((di (cq a.2.1 []) p.1 (cp (cq a.2.1 []) a.1)).1.getD Node.zero).kind,((di (cq a.2.1 []) p.1 (cp (cq a.2.1 []) a.1)).1.getD Node.zero).bS,sO ((di (cq a.2.1 []) p.1 (cp (cq a.2.1 []) a.1)).1.getD Node.zero),[],[]⟩ (fC (((di (cq a.2.1 []) p.1 (cp (cq a.2.1 []) a.1)).1.getD Node.zero).au.map cJ.name)) (match (di (cq a.2.1 []) p.1 (cp (cq a.2.1 []) a.1)).1 with|some n=>cY n.data|none => .slice .c0 [])]))
     (fun hz e=>by
      generalize di (cq a.2.1 []) p.1 (cp (cq a.2.1 []) a.1)=r at hz hpe ⊢
      obtain ⟨o',e'⟩:=r
      simp only at hz
      subst hz
      cases o' with
      |none =>
       simp only [aP,aN,bh,oZ,Fu,k87z,k88z,Ee,Option.getD_none,bne_self_eq_false,Bool.false_eq_true,if_false,EW,simprocAttr]
       rfl
      |some n =>
       have q5:=k87 n.au (hpe n rfl)
       have q6:=k88 n
       simp only [az] at q6
       simp only [aP,aN,bh,oZ,az,q5,q6,Ee,Option.getD_some,bne_self_eq_false,Bool.false_eq_true,if_false,EW,simprocAttr])
     (fun hz c d=>by
      rw [if_pos hz,if_pos hz]
      simp only [aP,aN,bh,cn,Ee,cr,EW,simprocAttr]) p.1 [] (cp (cq a.2.1 []) a.1) rfl (fun n h=>hall _ _ h) rfl
    generalize di (cq a.2.1 []) p.1 (cp (cq a.2.1 []) a.1)=r at hb ⊢
    have hl:=Q2 (W:=(f,o)) (at':=a.1) (p:=p.1) (xs:=a.2.1) ha.1 (fin:=cq a.2.1 []) (k:=[.block 0,.seq Yl]) (r:=some (if (r.2 != 0)=true then cr r.2 else .tuple [],[if (r.2 != 0)=true then bh f o cn (.slice .c0 []) (.slice .c0 []) else
       bh f o ⟨0,(r.1.getD Node.zero).ino,(r.1.getD Node.zero).kind,(r.1.getD Node.zero).bS,sO (r.1.getD Node.zero),[],[]⟩ (fC ((r.1.getD Node.zero).au.map cJ.name)) (match r.1 with|some n=>cY n.data|none => .slice .c0 [])]))
     (fun e=>by
      generalize cq a.2.1 []=al at hlg hisC hlC hb ⊢
      generalize oZ (cp al a.1)=gc at hlg hisC hlC hb
      simp only [aP,aN,List.length_nil] at hb
      simp only [aP,aN,Ee,iv,mapOf.eq_1,hlg,hisC,hlC,EW,simprocAttr]
      exact hb) a.2.1 [] [] rfl rfl
    simp only [aP,aN,List.length_nil,zq,zt] at hl
    simp only [K6,Ee,aP,aN,q1,q2,mu,h0,h1,Bool.false_eq_true,if_false,EW,simprocAttr]
    exact hl
   generalize di (cq a.2.1 []) p.1 (cp (cq a.2.1 []) a.1)=r at main ⊢
   cases h2:r.2 != 0
   ·refine ⟨fC ((r.1.getD Node.zero).au.map cJ.name),(match r.1 with|some n=>cY n.data|none => .slice .c0 []),.inl rfl,?_,?_⟩
    ·obtain ⟨o',e'⟩:=r
     cases o'
     ·exact .inr ⟨rfl,rfl⟩
     ·exact .inl rfl
    ·have:=main _ _ ⟨.inl rfl,rfl⟩ rfl
     rw [h2] at this
     simpa only [Bool.false_eq_true,if_false,bne_self_eq_false,bh] using this
   ·refine ⟨.slice .c0 [],.slice .c0 [],.inr ⟨rfl,rfl⟩,.inr ⟨rfl,rfl⟩,?_⟩
    have:=main _ _ ⟨.inl rfl,rfl⟩ rfl
    rw [h2] at this
    simpa only [Bool.false_eq_true,if_true,if_false,h2] using this
  ·refine ⟨.slice .c0 [],.slice .c0 [],.inr ⟨rfl,rfl⟩,.inr ⟨rfl,rfl⟩,aq rfl rfl rfl ?_⟩
   simp only [K6,Ee,aP,aN,bh,cn,q1,q2,mu,h0,h1,cr,Bool.false_eq_true,if_true,if_false,EW,simprocAttr]
 ·refine ⟨.slice .c0 [],.slice .c0 [],.inr ⟨rfl,rfl⟩,.inr ⟨rfl,rfl⟩,aq rfl rfl rfl ?_⟩
  simp only [K6,Ee,aP,aN,bh,cn,q1,mu,h0,cr,Bool.false_eq_true,if_true,if_false,EW,simprocAttr]
end
end Go.Proofs.YtdbadpnkhaepnaaGreatDoor
namespace Go.Proofs.YtdbadpnkhaepnaaGreatDoor
section
open Go Go.RowKit Go.Extern.Stop Go.Stop Go.Extern
def Ud (t:Value) (w:World) :
  Calls Tryz.prog 28 #[.nilIface,t] w fun e w'=>e = .returned (.bool false)/\w'=w:=by
 go_enter Tryz.func28,Tryz.ntmps28
 go_wp2
 go_ret
 exact ⟨rfl,rfl⟩
def wJ (h:Value) (w:World):(Go.method 466 135 (.agg #[h]) "Kind").run Tryz.prog w = .ok (274,h) w:=by kernel_rfl
def wI (h:Value) (w:World):(Go.method 466 135 (.agg #[h]) "Elem").run Tryz.prog w = .ok (285,.agg #[h]) w:=by kernel_rfl
def nL (h:Value) (w:World):(Go.method 466 135 (.agg #[h]) "Implements").run Tryz.prog w = .ok (286,.agg #[h]) w:=by kernel_rfl
def lZ (h:Value) (w:World):(Go.method 466 135 (.agg #[h]) "AssignableTo").run Tryz.prog w = .ok (283,.agg #[h]) w:=by kernel_rfl
def rlm (z:Sem Value) (f:TypeId->Addr->Nat->Nat->Sem Value) (v:Value) :
  ReflectliteValue.method z f #[v]=(do match <-ReflectliteValue.parts v with|none=>z|some (t,a,fl)=>f t a fl (fl % 32)):=rfl
def rls (v x:Value):ReflectliteValue.set #[v,x]=(do
  let (some (dst,a,fl),some (src,b,_)):=(<-ReflectliteValue.parts v,<-ReflectliteValue.parts x)
   |unsupported (.noEntry "extern/(internal/reflectlite.Value).Set.zeroValue")
  if fl / ReflectliteValue.flagAddr % 2==0 then unsupported (.noEntry "extern/(internal/reflectlite.Value).Set.unaddressable")
  let val <-loadVar src b
  if <-Rtype.directlyAssignable dst src then storeVar dst a val
  else if <-Rtype.implements dst src then
   if (<-Rtype.kind src)==20 then
    match val with
    | .nilIface=>unsupported (.noEntry "extern/reflectlite: a nil value of one interface type handed on as a value of another")
    |_=>storeVar dst a val
   else storeVar dst a (.iface src val)
  else panicString ("reflectlite.Set: value of type " ++ (<-Rtype.spelt src) ++ " is not assignable to type " ++ (<-Rtype.spelt dst))
  pure (.tuple #[])):=rfl
def C7 (t:Addr) (w:World):(ReflectliteValue.unpack (.iface 100 (.pointer (some t)))).run Tryz.prog w
  = .ok (.agg #[.pointer (some ⟨2,100,none⟩),.pointer (some ⟨w.heap.size,0,none⟩),.int .u64 150]) (w.alloc (.cells #[.pointer (some t)] 100)):=by kernel_rfl
def PV (a:Addr) (w:World):(ReflectliteValue.methodAny (ReflectliteValue.valueError "reflectlite.Value.Type" 0) (fun t _ _ _=>ReflectliteType.toType t) #[.agg #[.pointer (some ⟨2,100,none⟩),.pointer (some a),.int .u64 150]]).run Tryz.prog w
  = .ok (.iface 135 (.agg #[.pointer (some ⟨2,100,none⟩)])) w:=by kernel_rfl
def PT (w:World):((ReflectliteType.abiMethod fun t=>Functor.map (fun a:Nat=>Value.int IntKind.u8 (a:Int)) (Rtype.kind t)) #[.pointer (some ⟨2,100,none⟩)]).run Tryz.prog w = .ok (.int .u8 22) w:=by kernel_rfl
def PU (w:World):((ReflectliteType.abiMethod fun t=>Functor.map (fun a:Nat=>Value.int IntKind.u8 (a:Int)) (Rtype.kind t)) #[.pointer (some ⟨2,44,none⟩)]).run Tryz.prog w = .ok (.int .u8 2) w:=by kernel_rfl
def A3 (a:Addr) (w:World):(ReflectliteValue.parts (.agg #[.pointer (some ⟨2,100,none⟩),.pointer (some a),.int .u64 150])).run Tryz.prog w = .ok (some (100,a,150)) w:=by kernel_rfl
def JK (a p:Addr) (W:World) (ha:W.cell? a=some (.pointer (some p))) :
  (ReflectliteValue.method (ReflectliteValue.valueError "reflectlite.Value.IsNil" 0) ReflectliteValue.isNil #[.agg #[.pointer (some ⟨2,100,none⟩),.pointer (some a),.int .u64 150]]).run Tryz.prog W = .ok (.bool false) W:=by
 rw [rlm]
 simp only [Sem.run_bind,A3,Result.andThen]
 simp [ReflectliteValue.isNil,loadVar,isAgg,underlying,Tryz.underlying100,ha,Result.andThen]
def PS (w:World):(ReflectliteType.method ReflectliteType.elem #[.agg #[.pointer (some ⟨2,100,none⟩)]]).run Tryz.prog w = .ok (.iface 135 (.agg #[.pointer (some ⟨2,44,none⟩)])) w:=by kernel_rfl
def xx (w:World):(ReflectliteType.relation "Implements" ReflectliteType.implements_ #[.agg #[.pointer (some ⟨2,44,none⟩)],.iface 135 (.agg #[.pointer (some ⟨2,76,none⟩)])]).run Tryz.prog w = .ok (.bool true) w:=by kernel_rfl
def Gj (v:Value) (w:World):(ReflectliteType.typeOf #[.iface 44 v]).run Tryz.prog w = .ok (.iface 135 (.agg #[.pointer (some ⟨2,44,none⟩)])) w:=by kernel_rfl
def xw (w:World):(ReflectliteType.relation "AssignableTo" ReflectliteType.assignableTo #[.agg #[.pointer (some ⟨2,44,none⟩)],.iface 135 (.agg #[.pointer (some ⟨2,44,none⟩)])]).run Tryz.prog w = .ok (.bool true) w:=by kernel_rfl
def C8 (e:Int) (w:World):(ReflectliteValue.unpack (.iface 44 (.int .i64 e))).run Tryz.prog w
  = .ok (.agg #[.pointer (some ⟨2,44,none⟩),.pointer (some ⟨w.heap.size,0,none⟩),.int .u64 130]) (w.alloc (.cells #[.int .i64 e] 44)):=by kernel_rfl
def Gh (w:World):(Rtype.elem? 100).run Tryz.prog w = .ok (some 44) w:=by kernel_rfl
def aa2 (p:Addr) (w:World):(ReflectliteValue.mk 44 p ReflectliteValue.flagAddr).run Tryz.prog w = .ok (.agg #[.pointer (some ⟨2,44,none⟩),.pointer (some p),.int .u64 386]) w:=by kernel_rfl
def JJ (a p:Addr) (W:World) (ha:W.cell? a=some (.pointer (some p))) :
  (ReflectliteValue.method (ReflectliteValue.valueError "reflectlite.Value.Elem" 0) ReflectliteValue.elem #[.agg #[.pointer (some ⟨2,100,none⟩),.pointer (some a),.int .u64 150]]).run Tryz.prog W
   = .ok (.agg #[.pointer (some ⟨2,44,none⟩),.pointer (some p),.int .u64 386]) W:=by
 rw [rlm]
 simp only [Sem.run_bind,A3,Result.andThen]
 simp [ReflectliteValue.elem,loadVar,isAgg,underlying,Tryz.underlying100,ha,Result.andThen,Gh,aa2]
def Gi (a:Addr) (w:World):(ReflectliteValue.parts (.agg #[.pointer (some ⟨2,44,none⟩),.pointer (some a),.int .u64 386])).run Tryz.prog w = .ok (some (44,a,386)) w:=by kernel_rfl
def JL (a:Addr) (w:World):(ReflectliteValue.parts (.agg #[.pointer (some ⟨2,44,none⟩),.pointer (some a),.int .u64 130])).run Tryz.prog w = .ok (some (44,a,130)) w:=by kernel_rfl
def Gg (w:World):(Rtype.directlyAssignable 44 44).run Tryz.prog w = .ok true w:=by kernel_rfl
def UI (ta b:Addr) (e:Int) (mw:Value) (W:World) (hb:W.cell? b=some (.int .i64 e)) (ht:W.cell? ta=some mw) (hf:W.frozen? ta=false) :
  (ReflectliteValue.set #[.agg #[.pointer (some ⟨2,44,none⟩),.pointer (some ta),.int .u64 386],.agg #[.pointer (some ⟨2,44,none⟩),.pointer (some b),.int .u64 130]]).run Tryz.prog W
   = .ok (.tuple #[]) (W.setCell ta (.int .i64 e)):=by
 have hz:=Tryz.sizeOf44
 have hadd:∀a:Addr,a.add 0=a:=fun a=>by simp [Addr.add]
 rw [rls]
 simp only [Sem.run_bind,Gi,JL,Result.andThen]
 simp [ReflectliteValue.flagAddr,loadVar,isAgg,underlying,Tryz.underlying44,hb,Result.andThen,Gg,storeVar,Value.cells,storeCells,loadCells,loadCellsFrom,hz,hadd]
 rw [run_store Tryz.prog W ta _ _ (by rfl)]
 simp [ht,hf]
set_option maxHeartbeats 4000000 in
set_option maxRecDepth 40000 in
def aa1 (e:Int) (t:Addr) (mw:Value) (w:World) (hg:w.cell? ⟨0,0,none⟩=some (.iface 135 (.agg #[.pointer (some ⟨2,76,none⟩)]))) (ht0:w.cell? t=some mw) (hf0:w.frozen? t=false) :
  Calls Tryz.prog 28 #[.iface 44 (.int .i64 e),.iface 100 (.pointer (some t))] w fun ev w'=>ev = .returned (.bool true)/\w'=((((w.alloc (.cells #[.pointer (some t)] 100)).alloc (.cells #[.pointer (some ⟨2,100,none⟩),.pointer (some ⟨w.heap.size,0,none⟩),.int .u64 150] 115)).alloc (.cells #[.pointer (some ⟨2,100,none⟩),.pointer (some ⟨w.heap.size,0,none⟩),.int .u64 150] 115)).alloc (.cells #[.int .i64 e] 44)).setCell t (.int .i64 e):=by
 have h6:=@run_callFunc_extern Tryz.prog 45 _ (fun args=>ReflectliteValue.unpack (args.getD 0 (.tuple #[]))) Tryz.func45 (by kernel_rfl) (by kernel_rfl) (by kernel_rfl) (by kernel_rfl)
 have h7:=@run_callFunc_extern Tryz.prog 46 _ (ReflectliteValue.methodAny (ReflectliteValue.valueError "reflectlite.Value.Type" 0) (fun t _ _ _=>ReflectliteType.toType t)) Tryz.func46 (by kernel_rfl) (by kernel_rfl) (by kernel_rfl) (by kernel_rfl)
 have h8:=@run_callFunc_extern Tryz.prog 47 _ (ReflectliteValue.method (ReflectliteValue.valueError "reflectlite.Value.IsNil" 0) ReflectliteValue.isNil) Tryz.func47 (by kernel_rfl) (by kernel_rfl) (by kernel_rfl) (by kernel_rfl)
 have h27:=@run_callFunc_extern Tryz.prog 274 _ (ReflectliteType.abiMethod fun t=>do pure (.int .u8 (<-Rtype.kind t))) Tryz.func274 (by kernel_rfl) (by kernel_rfl) (by kernel_rfl) (by kernel_rfl)
 have h37:=@run_callFunc_extern Tryz.prog 285 _ (ReflectliteType.method ReflectliteType.elem) Tryz.func285 (by kernel_rfl) (by kernel_rfl) (by kernel_rfl) (by kernel_rfl)
 have h38:=@run_callFunc_extern Tryz.prog 286 _ (ReflectliteType.relation "Implements" ReflectliteType.implements_) Tryz.func286 (by kernel_rfl) (by kernel_rfl) (by kernel_rfl) (by kernel_rfl)
 have h10:=@run_callFunc_extern Tryz.prog 74 _ ReflectliteType.typeOf Tryz.func74 (by kernel_rfl) (by kernel_rfl) (by kernel_rfl) (by kernel_rfl)
 have h35:=@run_callFunc_extern Tryz.prog 283 _ (ReflectliteType.relation "AssignableTo" ReflectliteType.assignableTo) Tryz.func283 (by kernel_rfl) (by kernel_rfl) (by kernel_rfl) (by kernel_rfl)
 have h11:=@run_callFunc_extern Tryz.prog 75 _ (ReflectliteValue.method (ReflectliteValue.valueError "reflectlite.Value.Elem" 0) ReflectliteValue.elem) Tryz.func75 (by kernel_rfl) (by kernel_rfl) (by kernel_rfl) (by kernel_rfl)
 have h12:=@run_callFunc_extern Tryz.prog 76 _ ReflectliteValue.set Tryz.func76 (by kernel_rfl) (by kernel_rfl) (by kernel_rfl) (by kernel_rfl)
 have tO:=Gj
 have mA:=lZ
 have a25:=xw
 have v25:=C8
 have f6:=C7
 have f7:=PV
 have mK:=wJ
 have mE:=wI
 have mI:=nL
 have TG:=PT
 have k25:=PU
 have e27:=PS
 have i25:=xx
 have n8:=JK ⟨w.heap.size,0,none⟩ t ((w.alloc (.cells #[.pointer (some t)] 100)).alloc (.cells #[.pointer (some ⟨2,100,none⟩),.pointer (some ⟨w.heap.size,0,none⟩),.int .u64 150] 115)) (by simp)
 have hlt:0<w.heap.size:=by
  rcases Nat.eq_zero_or_pos w.heap.size with h0|h
  ·simp [World.cell?,h0] at hg
  ·exact h
 have hg2:((w.alloc (.cells #[.pointer (some t)] 100)).alloc (.cells #[.pointer (some ⟨2,100,none⟩),.pointer (some ⟨w.heap.size,0,none⟩),.int .u64 150] 115)).cell? ⟨0,0,none⟩=some (.iface 135 (.agg #[.pointer (some ⟨2,76,none⟩)])):=by
  rw [World.cell?_alloc_lt _ _ ⟨0,0,none⟩ (by simp),World.cell?_alloc_lt _ _ ⟨0,0,none⟩ hlt]; exact hg
 have htl:t.block<w.heap.size:=by
  rcases Nat.lt_or_ge t.block w.heap.size with h|h
  ·exact h
  ·simp [World.cell?,Array.getElem?_eq_none h] at ht0
 have el:=JJ ⟨w.heap.size,0,none⟩ t (((w.alloc (.cells #[.pointer (some t)] 100)).alloc (.cells #[.pointer (some ⟨2,100,none⟩),.pointer (some ⟨w.heap.size,0,none⟩),.int .u64 150] 115)).alloc (.cells #[.pointer (some ⟨2,100,none⟩),.pointer (some ⟨w.heap.size,0,none⟩),.int .u64 150] 115)) (by rw [World.cell?_alloc_lt _ _ ⟨w.heap.size,0,none⟩ (by simp; omega)]; simp)
 have st:=UI t ⟨w.heap.size+1+1+1,0,none⟩ e mw ((((w.alloc (.cells #[.pointer (some t)] 100)).alloc (.cells #[.pointer (some ⟨2,100,none⟩),.pointer (some ⟨w.heap.size,0,none⟩),.int .u64 150] 115)).alloc (.cells #[.pointer (some ⟨2,100,none⟩),.pointer (some ⟨w.heap.size,0,none⟩),.int .u64 150] 115)).alloc (.cells #[.int .i64 e] 44))
  (by rw [World.cell?_alloc_at _ _ _ _ (by simp)]; rfl)
  (by rw [World.cell?_alloc_lt _ _ t (by simp; omega),World.cell?_alloc_lt _ _ t (by simp; omega),World.cell?_alloc_lt _ _ t (by simp; omega),World.cell?_alloc_lt _ _ t htl]; exact ht0)
  (by rw [World.frozen?_alloc_old _ _ t (by simp; omega),World.frozen?_alloc_old _ _ t (by simp; omega),World.frozen?_alloc_old _ _ t (by simp; omega),World.frozen?_alloc_old _ _ t (Nat.ne_of_lt htl)]; exact hf0)
 go_enter Tryz.func28,Tryz.ntmps28
 go_wp2
 refine wp_loop_rounds 1 ?_
 rw [rounds_succ]
 go_wp2
 go_ret
 exact ⟨rfl,rfl⟩
def DX (t:Addr) (w:World):(ReflectliteValue.unpack (.iface 78 (.pointer (some t)))).run Tryz.prog w
  = .ok (.agg #[.pointer (some ⟨2,78,none⟩),.pointer (some ⟨w.heap.size,0,none⟩),.int .u64 150]) (w.alloc (.cells #[.pointer (some t)] 78)):=by kernel_rfl
def Rz (a:Addr) (w:World):(ReflectliteValue.methodAny (ReflectliteValue.valueError "reflectlite.Value.Type" 0) (fun t _ _ _=>ReflectliteType.toType t) #[.agg #[.pointer (some ⟨2,78,none⟩),.pointer (some a),.int .u64 150]]).run Tryz.prog w
  = .ok (.iface 135 (.agg #[.pointer (some ⟨2,78,none⟩)])) w:=by kernel_rfl
def Rx (w:World):((ReflectliteType.abiMethod fun t=>Functor.map (fun a:Nat=>Value.int IntKind.u8 (a:Int)) (Rtype.kind t)) #[.pointer (some ⟨2,78,none⟩)]).run Tryz.prog w = .ok (.int .u8 22) w:=by kernel_rfl
def Ry (w:World):((ReflectliteType.abiMethod fun t=>Functor.map (fun a:Nat=>Value.int IntKind.u8 (a:Int)) (Rtype.kind t)) #[.pointer (some ⟨2,73,none⟩)]).run Tryz.prog w = .ok (.int .u8 25) w:=by kernel_rfl
def BU (a:Addr) (w:World):(ReflectliteValue.parts (.agg #[.pointer (some ⟨2,78,none⟩),.pointer (some a),.int .u64 150])).run Tryz.prog w = .ok (some (78,a,150)) w:=by kernel_rfl
def Oi (a p:Addr) (W:World) (ha:W.cell? a=some (.pointer (some p))) :
  (ReflectliteValue.method (ReflectliteValue.valueError "reflectlite.Value.IsNil" 0) ReflectliteValue.isNil #[.agg #[.pointer (some ⟨2,78,none⟩),.pointer (some a),.int .u64 150]]).run Tryz.prog W = .ok (.bool false) W:=by
 rw [rlm]
 simp only [Sem.run_bind,BU,Result.andThen]
 simp [ReflectliteValue.isNil,loadVar,isAgg,underlying,Tryz.underlying78,ha,Result.andThen]
def Rv (w:World):(ReflectliteType.method ReflectliteType.elem #[.agg #[.pointer (some ⟨2,78,none⟩)]]).run Tryz.prog w = .ok (.iface 135 (.agg #[.pointer (some ⟨2,73,none⟩)])) w:=by kernel_rfl
def xJ (w:World):(ReflectliteType.relation "Implements" ReflectliteType.implements_ #[.agg #[.pointer (some ⟨2,73,none⟩)],.iface 135 (.agg #[.pointer (some ⟨2,76,none⟩)])]).run Tryz.prog w = .ok (.bool true) w:=by kernel_rfl
def Hm (v:Value) (w:World):(ReflectliteType.typeOf #[.iface 73 v]).run Tryz.prog w = .ok (.iface 135 (.agg #[.pointer (some ⟨2,73,none⟩)])) w:=by kernel_rfl
def xI (w:World):(ReflectliteType.relation "AssignableTo" ReflectliteType.assignableTo #[.agg #[.pointer (some ⟨2,73,none⟩)],.iface 135 (.agg #[.pointer (some ⟨2,73,none⟩)])]).run Tryz.prog w = .ok (.bool true) w:=by kernel_rfl
def DY (e:Int) (w:World):(ReflectliteValue.unpack (.iface 73 (.agg #[.int .i64 e]))).run Tryz.prog w
  = .ok (.agg #[.pointer (some ⟨2,73,none⟩),.pointer (some ⟨w.heap.size,0,none⟩),.int .u64 153]) (w.alloc (.cells #[.int .i64 e] 73)):=by kernel_rfl
def Hk (w:World):(Rtype.elem? 78).run Tryz.prog w = .ok (some 73) w:=by kernel_rfl
def adW (p:Addr) (w:World):(ReflectliteValue.mk 73 p ReflectliteValue.flagAddr).run Tryz.prog w = .ok (.agg #[.pointer (some ⟨2,73,none⟩),.pointer (some p),.int .u64 409]) w:=by kernel_rfl
def Oh (a p:Addr) (W:World) (ha:W.cell? a=some (.pointer (some p))) :
  (ReflectliteValue.method (ReflectliteValue.valueError "reflectlite.Value.Elem" 0) ReflectliteValue.elem #[.agg #[.pointer (some ⟨2,78,none⟩),.pointer (some a),.int .u64 150]]).run Tryz.prog W
   = .ok (.agg #[.pointer (some ⟨2,73,none⟩),.pointer (some p),.int .u64 409]) W:=by
 rw [rlm]
 simp only [Sem.run_bind,BU,Result.andThen]
 simp [ReflectliteValue.elem,loadVar,isAgg,underlying,Tryz.underlying78,ha,Result.andThen,Hk,adW]
def Hl (a:Addr) (w:World):(ReflectliteValue.parts (.agg #[.pointer (some ⟨2,73,none⟩),.pointer (some a),.int .u64 409])).run Tryz.prog w = .ok (some (73,a,409)) w:=by kernel_rfl
def Oj (a:Addr) (w:World):(ReflectliteValue.parts (.agg #[.pointer (some ⟨2,73,none⟩),.pointer (some a),.int .u64 153])).run Tryz.prog w = .ok (some (73,a,153)) w:=by kernel_rfl
def Hj (w:World):(Rtype.directlyAssignable 73 73).run Tryz.prog w = .ok true w:=by kernel_rfl
def Yq (ta b:Addr) (e:Int) (mw:Value) (W:World) (hb:W.cell? b=some (.int .i64 e)) (ht:W.cell? ta=some mw) (hf:W.frozen? ta=false) :
  (ReflectliteValue.set #[.agg #[.pointer (some ⟨2,73,none⟩),.pointer (some ta),.int .u64 409],.agg #[.pointer (some ⟨2,73,none⟩),.pointer (some b),.int .u64 153]]).run Tryz.prog W
   = .ok (.tuple #[]) (W.setCell ta (.int .i64 e)):=by
 have hz:=Tryz.sizeOf73
 have hadd:∀a:Addr,a.add 0=a:=fun a=>by simp [Addr.add]
 rw [rls]
 simp only [Sem.run_bind,Hl,Oj,Result.andThen]
 simp [ReflectliteValue.flagAddr,loadVar,isAgg,underlying,Tryz.underlying73,hb,Result.andThen,Hj,storeVar,Value.cells,storeCells,loadCells,loadCellsFrom,hz,hadd]
 rw [run_store Tryz.prog W ta _ _ (by rfl)]
 simp [ht,hf]
set_option maxHeartbeats 4000000 in
set_option maxRecDepth 40000 in
def adV (e:Int) (t:Addr) (mw:Value) (w:World) (hg:w.cell? ⟨0,0,none⟩=some (.iface 135 (.agg #[.pointer (some ⟨2,76,none⟩)]))) (ht0:w.cell? t=some mw) (hf0:w.frozen? t=false) :
  Calls Tryz.prog 28 #[.iface 73 (.agg #[.int .i64 e]),.iface 78 (.pointer (some t))] w fun ev w'=>ev = .returned (.bool true)/\w'=((((w.alloc (.cells #[.pointer (some t)] 78)).alloc (.cells #[.pointer (some ⟨2,78,none⟩),.pointer (some ⟨w.heap.size,0,none⟩),.int .u64 150] 115)).alloc (.cells #[.pointer (some ⟨2,78,none⟩),.pointer (some ⟨w.heap.size,0,none⟩),.int .u64 150] 115)).alloc (.cells #[.int .i64 e] 73)).setCell t (.int .i64 e):=by
 have h6:=@run_callFunc_extern Tryz.prog 45 _ (fun args=>ReflectliteValue.unpack (args.getD 0 (.tuple #[]))) Tryz.func45 (by kernel_rfl) (by kernel_rfl) (by kernel_rfl) (by kernel_rfl)
 have h7:=@run_callFunc_extern Tryz.prog 46 _ (ReflectliteValue.methodAny (ReflectliteValue.valueError "reflectlite.Value.Type" 0) (fun t _ _ _=>ReflectliteType.toType t)) Tryz.func46 (by kernel_rfl) (by kernel_rfl) (by kernel_rfl) (by kernel_rfl)
 have h8:=@run_callFunc_extern Tryz.prog 47 _ (ReflectliteValue.method (ReflectliteValue.valueError "reflectlite.Value.IsNil" 0) ReflectliteValue.isNil) Tryz.func47 (by kernel_rfl) (by kernel_rfl) (by kernel_rfl) (by kernel_rfl)
 have h27:=@run_callFunc_extern Tryz.prog 274 _ (ReflectliteType.abiMethod fun t=>do pure (.int .u8 (<-Rtype.kind t))) Tryz.func274 (by kernel_rfl) (by kernel_rfl) (by kernel_rfl) (by kernel_rfl)
 have h37:=@run_callFunc_extern Tryz.prog 285 _ (ReflectliteType.method ReflectliteType.elem) Tryz.func285 (by kernel_rfl) (by kernel_rfl) (by kernel_rfl) (by kernel_rfl)
 have h38:=@run_callFunc_extern Tryz.prog 286 _ (ReflectliteType.relation "Implements" ReflectliteType.implements_) Tryz.func286 (by kernel_rfl) (by kernel_rfl) (by kernel_rfl) (by kernel_rfl)
 have h10:=@run_callFunc_extern Tryz.prog 74 _ ReflectliteType.typeOf Tryz.func74 (by kernel_rfl) (by kernel_rfl) (by kernel_rfl) (by kernel_rfl)
 have h35:=@run_callFunc_extern Tryz.prog 283 _ (ReflectliteType.relation "AssignableTo" ReflectliteType.assignableTo) Tryz.func283 (by kernel_rfl) (by kernel_rfl) (by kernel_rfl) (by kernel_rfl)
 have h11:=@run_callFunc_extern Tryz.prog 75 _ (ReflectliteValue.method (ReflectliteValue.valueError "reflectlite.Value.Elem" 0) ReflectliteValue.elem) Tryz.func75 (by kernel_rfl) (by kernel_rfl) (by kernel_rfl) (by kernel_rfl)
 have h12:=@run_callFunc_extern Tryz.prog 76 _ ReflectliteValue.set Tryz.func76 (by kernel_rfl) (by kernel_rfl) (by kernel_rfl) (by kernel_rfl)
 have tO:=Hm
 have mA:=lZ
 have a25:=xI
 have v25:=DY
 have f6:=DX
 have f7:=Rz
 have mK:=wJ
 have mE:=wI
 have mI:=nL
 have TG:=Rx
 have k25:=Ry
 have e27:=Rv
 have i25:=xJ
 have n8:=Oi ⟨w.heap.size,0,none⟩ t ((w.alloc (.cells #[.pointer (some t)] 78)).alloc (.cells #[.pointer (some ⟨2,78,none⟩),.pointer (some ⟨w.heap.size,0,none⟩),.int .u64 150] 115)) (by simp)
 have hlt:0<w.heap.size:=by
  rcases Nat.eq_zero_or_pos w.heap.size with h0|h
  ·simp [World.cell?,h0] at hg
  ·exact h
 have hg2:((w.alloc (.cells #[.pointer (some t)] 78)).alloc (.cells #[.pointer (some ⟨2,78,none⟩),.pointer (some ⟨w.heap.size,0,none⟩),.int .u64 150] 115)).cell? ⟨0,0,none⟩=some (.iface 135 (.agg #[.pointer (some ⟨2,76,none⟩)])):=by
  rw [World.cell?_alloc_lt _ _ ⟨0,0,none⟩ (by simp),World.cell?_alloc_lt _ _ ⟨0,0,none⟩ hlt]; exact hg
 have htl:t.block<w.heap.size:=by
  rcases Nat.lt_or_ge t.block w.heap.size with h|h
  ·exact h
  ·simp [World.cell?,Array.getElem?_eq_none h] at ht0
 have el:=Oh ⟨w.heap.size,0,none⟩ t (((w.alloc (.cells #[.pointer (some t)] 78)).alloc (.cells #[.pointer (some ⟨2,78,none⟩),.pointer (some ⟨w.heap.size,0,none⟩),.int .u64 150] 115)).alloc (.cells #[.pointer (some ⟨2,78,none⟩),.pointer (some ⟨w.heap.size,0,none⟩),.int .u64 150] 115)) (by rw [World.cell?_alloc_lt _ _ ⟨w.heap.size,0,none⟩ (by simp; omega)]; simp)
 have st:=Yq t ⟨w.heap.size+1+1+1,0,none⟩ e mw ((((w.alloc (.cells #[.pointer (some t)] 78)).alloc (.cells #[.pointer (some ⟨2,78,none⟩),.pointer (some ⟨w.heap.size,0,none⟩),.int .u64 150] 115)).alloc (.cells #[.pointer (some ⟨2,78,none⟩),.pointer (some ⟨w.heap.size,0,none⟩),.int .u64 150] 115)).alloc (.cells #[.int .i64 e] 73))
  (by rw [World.cell?_alloc_at _ _ _ _ (by simp)]; rfl)
  (by rw [World.cell?_alloc_lt _ _ t (by simp; omega),World.cell?_alloc_lt _ _ t (by simp; omega),World.cell?_alloc_lt _ _ t (by simp; omega),World.cell?_alloc_lt _ _ t htl]; exact ht0)
  (by rw [World.frozen?_alloc_old _ _ t (by simp; omega),World.frozen?_alloc_old _ _ t (by simp; omega),World.frozen?_alloc_old _ _ t (by simp; omega),World.frozen?_alloc_old _ _ t (Nat.ne_of_lt htl)]; exact hf0)
 go_enter Tryz.func28,Tryz.ntmps28
 go_wp2
 refine wp_loop_rounds 1 ?_
 rw [rounds_succ]
 go_wp2
 go_ret
 exact ⟨rfl,rfl⟩
end
end Go.Proofs.YtdbadpnkhaepnaaGreatDoor
set_option linter.defProp false
namespace Go.Proofs.YtdbadpnkhaepnaaGreatDoor
open Go Go.Abs
def yI:br :=
 (.seq (.region [
 ob 36 (.mv (.tmp 8)),
 ob 37 (.UD (.tmp 36)),
 ob 38 (.k9 0 (.tmp 37)),
 ob 39 (.kK 10 (.tmp 38)),
 ob 40 (.mv (.tmp 8)),
 ob 41 (.UD (.tmp 40)),
 ob 42 (.k9 18 (.tmp 41)),
 ob 43 (.kK 7 (.tmp 42)),
 ⟨none,.store 10 (.tmp 4) (.tmp 39),none,true,false,[42],true⟩,
 ox (.store 7 (.tmp 5) (.tmp 43))] true [4,5]) (.ret))
def yJ:br :=
 (.seq (.region [
 ob 33 (.mv (.tmp 6)),
 ob 34 (.mv (.tmp 8)),
 ob 35 (.oL (.tmp 33) [(.tmp 34)])] false [4,5,8]) yI)
def yK:br :=
 (.seq (.region [
 ob 29 (.kK 10 (.tmp 2)),
 ob 30 (.kK 8 (.tmp 3)),
 ob 31 (.build [(.slice .c0 []),(.int .i64 0),(.int .i64 0),(.int .i64 0),(.slice .c0 []),(.slice .c0 []),(.slice .c0 []),(.int .i64 0),(.slice .c0 []),(.slice .c0 []),(.int .i64 0),(.int .i64 0),(.str []),(.str []),(.int .i64 0),(.int .i64 0),(.int .i64 0),(.slice .c0 []),(.int .i64 0),(.int .i64 0),(.int .i64 0),(.int .i64 0),(.int .i64 0),(.slice .c0 []),(.slice .c0 [])] [(0,10,(.tmp 29)),(10,8,(.tmp 30))]),
 ob 32 (.box (.tmp 31)),
 ob 8 (.mv (.tmp 32))] false [4,5,6,8]) yJ)
def yL:br :=
 (.seq (.region [
 ob 17 (.mv (.tmp 7)),
 ob 18 (.mv (.tmp 17)),
 og 19 18 true (.k9 1 (.tmp 3)),
 og 20 18 true (.iL (.tmp 19)),
 og 21 18 true (.bin .geq (.tmp 20) (.pf (.int .i64 0))),
 ob 22 (.pick (.tmp 18) (.tmp 21) (.pf (.bool false))),
 ob 23 (.mv (.tmp 22)),
 og 24 23 true (.k9 1 (.tmp 3)),
 og 25 23 true (.iL (.tmp 24)),
 og 26 23 true (.bin .lss (.tmp 25) (.pf (.int .i64 16))),
 ob 27 (.pick (.tmp 23) (.tmp 26) (.pf (.bool false))),
 ob 28 (.call 41 [(.tmp 27),(.pf (.int .i64 1))])] false [2,3,4,5,6]) yK)
noncomputable def Tp:Code:=match Tryz.f19.body with|some (.seq _ (.seq _ r))=>r|_ => .skip
def Jk:cI:={ n:=44,own:=[],lv:=[(2,[2,3,4,5,6,7]),(3,[2,3,4,5,6]),(4,[4,5,6,8]),(5,[4,5,8]),(6,[4,5])],lp:=[] }
def oM:br :=
 (.seq (.region [
 ⟨(some 11),.call 40 [],none,true,false,[],false⟩,
 ob 12 (.k9 0 (.tmp 3)),
 ob 13 (.iL (.tmp 12)),
 ob 14 (.look .i (.raw .nilFunc) true (.tmp 11) (.tmp 13)),
 ob 10 (.mv (.tmp 14)),
 ob 15 (.extract (.tmp 10) 0),
 ob 16 (.extract (.tmp 10) 1),
 ob 6 (.mv (.tmp 15)),
 ob 7 (.mv (.tmp 16))] true [2,3,4,5,6,7]) yL)
def adw:comp Tryz.prog Jk Tp=some oM:=by kernel_rfl
noncomputable def Tq:Code:=match Tryz.f39.body with|some (.seq _ (.seq _ (.cond _ (.seq _ (.seq _ r)) _)))=>r|_ => .skip
def Uc:cI:={ n:=20,own:=[],lv:=[(5,[])],lp:=[] }
def qv:br :=
 (.region [
 ob 17 (.kK 10 (.tmp 0)),
 ob 18 (.iL (.tmp 5)),
 ob 19 (.build [(.int .i64 0),(.int .i64 0),(.int .i64 0),(.int .i64 0),(.int .i64 0),(.slice .c0 []),(.slice .c0 [])] [(0,1,(.tmp 18))]),
 ox (.store 10 (.tmp 1) (.tmp 17)),
 ox (.store 7 (.tmp 2) (.tmp 19))] false [])
def adF:comp Tryz.prog Uc Tq=some qv:=by kernel_rfl
noncomputable def Tn:Code:=match Tryz.f19.body with|some (.seq r _)=>r|_ => .skip
def Ub:cI:={ n:=44,own:=[],lv:=[(0,[2,3,4,5])],lp:=[] }
def Ep:br :=
 (.region [
 ob 2 (.box (.tmp 0)),
 ob 3 (.box (.tmp 1)),
 ob 4 (.vi [(.slice .c0 []),(.int .i64 0),(.int .i64 0),(.int .i64 0),(.slice .c0 []),(.slice .c0 []),(.slice .c0 []),(.int .i64 0),(.slice .c0 []),(.slice .c0 [])]),
 ob 5 (.vi [(.int .i64 0),(.int .i64 0),(.int .i64 0),(.int .i64 0),(.int .i64 0),(.slice .c0 []),(.slice .c0 [])])] false [2,3,4,5])
def adv:comp Tryz.prog Ub Tn=some Ep:=by kernel_rfl
end Go.Proofs.YtdbadpnkhaepnaaGreatDoor
namespace Go.Proofs.YtdbadpnkhaepnaaGreatDoor
open Go Go.Abs
def CC (w:World):(Instr.typeAssert .nilIface 20 76 true).run Tryz.prog w = .ok (.tuple #[.nilIface,.bool false]) w:=by kernel_rfl
def CB (v:Value) (w:World):(Instr.typeAssert (.iface 44 v) 20 76 true).run Tryz.prog w = .ok (.tuple #[.iface 44 v,.bool true]) w:=by kernel_rfl
set_option maxRecDepth 40000 in
def CI (p q r:Value) (w:World) :
  CallsD Tryz.prog 39 #[p,q,r] .returning w fun e u' w'=>e = .returned (.tuple #[])/\u' = .returning/\w'=w:=by
 refine callsD_of_wpS Tryz.func39 rfl fun c₀ cs hu=>?_
 simp only [Tryz.ntmps39,List.size_toArray,List.length_cons,List.length_nil,Nat.reduceAdd,Nat.reduceSub,Array.replicate_succ,Array.replicate_zero,List.push_toArray,List.append_toArray,List.cons_append,List.nil_append]
 apply wpS_seq
 apply wpS_region
 simp [wpOpsS,go_sem,recoverD,hu,Exit.thenS,CC]
 apply wpS_seq
 apply wpS_region
 simp [wpOpsS,go_sem,Exit.thenS]
 refine wpS_cond (t:=false) (by simp [Act.eval]) ?_
 simp only [Bool.false_eq_true,if_false]
 refine wpS_of_wp (wp_skip ?_)
 cases c₀
 simp_all [bodyPostS,results,Tryz.results39]
def zi (w:World) (o:Obj):(w.alloc o).heap=w.heap.push o:=rfl
def N6 {e:Int} {j:J} {M:ai} {w W:World} (hr:Rel j M w) (hsz:w.heap.size<W.heap.size) (hos:W.os=w.os) (ht:W.tape=w.tape) (hou:W.output=w.output) (ec:W.heap[w.heap.size]?=some (.cells #[.int .i64 e] 44 (0,0))) (hb:∀b,b<w.heap.size->W.heap[b]?=w.heap[b]?) :
  Rel (cH j M.length (some w.heap.size)) (M++[.cells [.int .i64 e]]) W/\Ext j M w (cH j M.length (some w.heap.size)) (M++[.cells [.int .i64 e]]) W:=by
 have hob:∀b,some w.heap.size=some b->w.heap.size<=b/\b<W.heap.size:=fun b h=>by injection h with h; omega
 have q:Quiet w W:=⟨by omega,hos,ht,hou⟩
 refine ⟨hr.push hob q hb (fun _=>⟨_,rfl,fun j' M' _=>⟨_,_,ec,rfl,fun i c v hc hv=>?_⟩⟩) (fun sz n b h=>by cases h),Ext.push (fun b h=>(hob b h).1) q hb⟩
 match i with
 |0 =>
  simp at hc hv
  subst hc; subst hv
  exact .plain (.int _ _)
 |i+1=>simp at hc
def FV {e:Int} {j:J} {M:ai} {w:World} (hr:Rel j M w) (hG:kS j M w) {p q r:Value} {xp xq xr:ae} (hp:cm j M w xp p) (hq:cm j M w xq q) (hr':cm j M w xr r) {o:Out}
  (ho:bV (af cG) qv [(0,xp),(1,xq),(2,xr),(5,.ptr M.length 0)] (M++[.cells [.int .i64 e]])=some o) (hn:o.e = .normal) :
  CallsD Tryz.prog 39 #[p,q,r] (.panicking [{ v := .iface 44 (.int .i64 e),recovered:=false }]) w fun ed u' w' =>
   ed = .returned (.tuple #[])/\u' = .panicking [{ v := .iface 44 (.int .i64 e),recovered:=true }]/\∃j',Rel j' o.mem w'/\Ext j M w j' o.mem w':=by
 have hg:=(hG.g 0 [xy] 0 xy rfl rfl).2
 have hlt:0<w.heap.size:=(hG.g 0 [xy] 0 xy rfl rfl).1.lt
 refine callsD_of_wpS Tryz.func39 rfl fun c₀ cs hu=>?_
 simp only [Tryz.ntmps39,List.size_toArray,List.length_cons,List.length_nil,Nat.reduceAdd,Nat.reduceSub,Array.replicate_succ,Array.replicate_zero,List.push_toArray,List.append_toArray,List.cons_append,List.nil_append]
 apply wpS_seq
 apply wpS_region
 simp [wpOpsS,go_sem,recoverD,hu,Exit.thenS,CB]
 apply wpS_seq
 apply wpS_region
 simp [wpOpsS,go_sem,Exit.thenS]
 refine wpS_cond (t:=true) (by simp [Act.eval]) ?_
 simp only [if_true]
 refine wpS_of_wp ?_
 refine wp_seq (wp_region ?_)
 simp [wpOps,go_sem,Exit.then]
 refine .inl (wp_seq (wp_seq (wp_region ?_)))
 simp [wpOps,go_sem,Exit.then]
 repeat' refine Or.inl ?_
 refine (aa1 e ⟨w.heap.size,0,none⟩ (.int .i64 0) _ ?_ ?_ ?_).mono ?_
 ·rw [World.cell?_alloc_lt _ _ ⟨0,0,none⟩ hlt]; exact hg
 ·simp
 ·simp
 rintro ev w' ⟨rfl,rfl⟩
 simp [go_sem]
 refine .inl (wp_cond (t:=false) ?_ ?_)
 ·simp [Act.eval]
 simp only [Bool.false_eq_true,if_false]
 refine wp_skip ?_
 simp only [Exit.then]
 have hR:=N6 (e:=e) hr (W:=((((w.alloc (.cells #[.int .i64 e] 44)).alloc (.cells #[.pointer (some ⟨w.heap.size,0,none⟩)] 100)).alloc (.cells #[.pointer (some ⟨2,100,none⟩),.pointer (some ⟨w.heap.size+1,0,none⟩),.int .u64 150] 115)).alloc (.cells #[.pointer (some ⟨2,100,none⟩),.pointer (some ⟨w.heap.size+1,0,none⟩),.int .u64 150] 115)).alloc (.cells #[.int .i64 e] 44))
  (by simp only [zi,Array.size_push]; omega) rfl rfl rfl (by
   have h2:w.heap.size≠w.heap.size+1+1:=by omega
   have h3:w.heap.size≠w.heap.size+1+1+1:=by omega
   have h4:w.heap.size≠w.heap.size+1+1+1+1:=by omega
   simp only [zi]; simp [Array.getElem?_push,h2,h3,h4]) (fun b hb=>by
   have h1:b≠w.heap.size:=by omega
   have h2:b≠w.heap.size+1:=by omega
   have h3:b≠w.heap.size+1+1:=by omega
   have h4:b≠w.heap.size+1+1+1:=by omega
   have h5:b≠w.heap.size+1+1+1+1:=by omega
   simp only [zi]; simp [Array.getElem?_push,h1,h2,h3,h4,h5])
 have hG':=hG.mono hR.2
 have key:=wpIn_wide.1 (fQ (rd:=none) (nd:=0) (by kernel_rfl) D1 Tq adF ho hR.1 hG' (a:={ tmps := #[p,q,r,.iface 44 (.int .i64 e),.bool true,.pointer (some ⟨w.heap.size,0,none⟩),.tuple #[.iface 44 (.int .i64 e),.bool true],.iface 44 (.int .i64 e),.tuple #[.iface 44 (.int .i64 e),.bool true],.iface 44 (.int .i64 e),.bool true,.bool true,.iface 44 (.int .i64 e),.iface 100 (.pointer (some ⟨w.heap.size,0,none⟩)),.bool true,.bool false,undef,undef,undef,undef],defers:=[] }) ?_ rfl)
 ·refine wp_mono key ?_
  rintro ex a' w' ⟨h1,h2,h3,j',h4,h5,h6⟩
  rw [hn] at h1
  simp only [jT] at h1
  subst h1
  simp [bodyPostS,results,Tryz.results39,h3]
  exact ⟨j',h4,hR.2.trans h6⟩
 ·refine ⟨fun t=>?_,hG'⟩
  match t with
  |0=>exact hp.mono hR.2
  |1=>exact hq.mono hR.2
  |2=>exact hr'.mono hR.2
  |5=>exact .ptr (by simp) ⟨_,gL⟩ (by simp [cH])
  |3=>exact .any _
  |4=>exact .any _
  |t+6=>exact .any _
end Go.Proofs.YtdbadpnkhaepnaaGreatDoor
namespace Go.Abs
section
open Go
variable [ew]
def N8 {a:Act} {d:Option Nat} {v:Value} {t:Nat} (h:d≠some t):(a.put d v).tmps.getD t undef=a.tmps.getD t undef:=by
 cases d with
 |none=>rfl
 |some s =>
  have hne:s≠t:=fun e=>h (by rw [e])
  simp [Act.put,Array.getD_eq_getD_getElem?,Array.getElem?_setIfInBounds_ne hne]
def Lw {F:Fence} {n:Nat} {P:Program} {ops:Array Oper} {Q:Exit->Act->World->Prop} {ks:List Nat} {v0:Nat->Value}:∀(l:List Nat) (a:Act) (w:World),
  (∀i o,i∈l->ops[i]?=some o->∀t,t∈ks->o.dst≠some t)->(∀t,t∈ks->a.tmps.getD t undef=v0 t)->wpOpsIn F n P ops Q l a w->wpOpsIn F n P ops (fun e a' w'=>Q e a' w'/\(e = .outgrown\/∀t,t∈ks->a'.tmps.getD t undef=v0 t)) l a w:=by
 intro l
 induction l with
 |nil=>exact fun a w _ hv h=>⟨h,.inr hv⟩
 |cons i rest ih =>
  intro a w hd hv h
  have hd':∀i o,i∈rest->ops[i]?=some o->∀t,t∈ks->o.dst≠some t:=fun i o hi=>hd i o (List.mem_cons_of_mem _ hi)
  simp only [wpOpsIn] at h ⊢
  cases ho:ops[i]? with
  |none=>rw [ho] at h; exact ih a w hd' hv h
  |some o =>
   rw [ho] at h
   have hdo:=hd i o List.mem_cons_self ho
   have hp:∀(a:Act) v,(∀t,t∈ks->a.tmps.getD t undef=v0 t)->∀t,t∈ks->(a.put o.dst v).tmps.getD t undef=v0 t:=fun a v h t ht=>(N8 (hdo t ht)).trans (h t ht)
   simp only at h ⊢
   split at h
   ·rename_i hw
    rw [if_pos hw]
    refine ⟨h.1,?_⟩
    have h:=h.2
    unfold Oper.uponIn at h ⊢
    split at h
    ·exact ih _ _ hd' (hp _ _ hv) h
    ·exact ih _ _ hd' (hp _ _ hv) h
    ·exact ih _ _ hd' (hp _ _ hv) h
    ·refine ⟨h.1,h.2.mono fun e w' h=>?_⟩
     cases e with
     |returned v=>exact ih _ _ hd' (hp _ _ hv) h
     |panicked c=>exact ⟨h,.inr hv⟩
     |outgrown=>obtain ⟨a1,w1,h⟩:=h; exact ⟨a1,w1,h,.inl rfl⟩
    ·exact ⟨h.1,h.2.mono fun v w' h=>ih _ _ hd' (hp _ _ hv) h⟩
    ·refine ⟨h.1,h.2.mono fun e w' h=>?_⟩
     cases e with
     |returned v=>exact ih _ _ hd' (hp _ _ hv) h
     |panicked c=>exact ⟨h,.inr hv⟩
     |outgrown=>obtain ⟨a1,w1,h⟩:=h; exact ⟨a1,w1,h,.inl rfl⟩
    ·exact ⟨h,.inr hv⟩
    ·exact h.elim
   ·rename_i hw
    rw [if_neg hw]
    exact ⟨h.1,ih _ _ hd' (hp _ _ hv) h.2⟩
def vj (ks:List Nat) (env:Env) (o:Out):Out:=match o.e with
 | .gw v=>⟨.gw v,gI env ks,o.mem⟩
 |_=>o
noncomputable def kQ (C:cu) (ks:List Nat):br->Env->ai->Option Out
 | .seq x y,env,M=>aK (kQ C ks x env M) fun o=>nC o (kQ C ks y)
 | .region ops d live,env,M=>aK (bV C (.region ops d live) env M) fun o=>some (if d=true then o else vj ks env o)
 |c,env,M=>bV C c env M
def Bh (ks:List Nat):Code->Bool
 | .seq x y=>Bh ks x&&Bh ks y
 | .region _ ops _=>ops.toList.all fun o=>match o.dst with|some d => !ks.contains d|none=>true
 |_=>true
def BZ {P:Program} {C:cu} {A:cI} (hmix:P.follows .mixedOrders=true) (hC:iM P C) {rd:Option Nat} {nd:Nat} {ks:List Nat}:∀(c:Code) {ac:br},comp P A c=some ac->Bh ks c=true->∀ {env:Env} {M:ai} {o:Out},kQ C ks ac env M=some o ->
  ∀ {j:J} {w:World} {a:Act},Rel j M w->kS j M w->aU j M w env a->a.tmps.size=A.n->c.wpIn (Wd rd) nd P (Ph A j M w a o) a w:=by
 intro c
 induction c with
 |seq x y ihx ihy =>
  intro ac hc hf env M o h j w a hr hG he hs
  simp only [comp] at hc
  obtain ⟨ax,hx,hc⟩:=ar hc
  obtain ⟨ay,hy,hc⟩:=ar hc
  injection hc with hc; subst hc
  simp only [Bh,Bool.and_eq_true] at hf
  simp only [kQ] at h
  obtain ⟨o1,h1,h⟩:=av h
  refine wpIn_seq (wpIn_mono (ihx hx hf.1 h1 hr hG he hs) ?_)
  rintro e a1 w1 ⟨he1,hs1,hd1,j1,r1,e1,x1⟩
  rcases lQ h with ⟨hn,h2⟩|⟨hn,h2⟩
  ·rw [hn] at he1
   subst he1
   refine wpIn_mono (ihy hy hf.2 h2 r1 (hG.mono x1) e1 hs1) ?_
   rintro e a2 w2 ⟨he2,hs2,hd2,j2,r2,e2,x2⟩
   exact ⟨he2,hs2,hd2.trans hd1,j2,r2,e2,x1.trans x2⟩
  ·subst h2
   have:jT o.e ≠ .normal:=by cases ho:o.e<;>simp_all [jT]
   subst he1
   cases hx:jT o.e<;>first
    |exact absurd hx this
    |exact ⟨hx.symm,hs1,hd1,j1,r1,e1,x1⟩
 |region id ops draw =>
  intro ac hc hf env M o h j w a hr hG he hs
  cases draw with
  |true =>
   have hc0:=hc
   simp only [comp,if_true] at hc
   obtain ⟨l0,hl0,hc⟩:=ar hc
   obtain ⟨l,hl,hc⟩:=ar hc
   injection hc with hc; subst hc
   simp only [kQ,if_true] at h
   obtain ⟨o1,h1,h⟩:=av h
   injection h with h; subst h
   exact fQ hmix hC _ hc0 h1 hr hG he hs
  |false =>
   have hc0:=hc
   simp only [comp,Bool.false_eq_true,if_false] at hc
   obtain ⟨l,hl,hc⟩:=ar hc
   injection hc with hc; subst hc
   simp only [kQ,Bool.false_eq_true,if_false] at h
   obtain ⟨o1,h1,h⟩:=av h
   injection h with h; subst h
   simp only [bV] at h1
   obtain ⟨x,hx,h1⟩:=av h1
   injection h1 with h1; subst h1
   have hdst:∀i o,i∈List.range ops.size->ops[i]?=some o->∀t,t∈ks->o.dst≠some t:=by
    intro i o _ hio t ht hd
    simp only [Bh,List.all_eq_true] at hf
    have:=hf o (Array.mem_toList_iff.2 (Array.mem_of_getElem? hio))
    rw [hd] at this
    simp [ht] at this
   refine wpIn_mono (wpIn_region (Lw (v0:=fun t=>a.tmps.getD t undef) _ a w hdst (fun _ _=>rfl) (by
    rw [List.range_eq_range']
    exact p9 hC (grow:=[]) ops.toList 0 (by simp) hl hx hr hG he hs fun a' w' j' h1 h2 h3 h4 h5=>ue (live:=find A.lv id) h1 h2 h3 h4 h5))) ?_
   rintro e a1 w1 ⟨⟨he1,hs1,hd1,j1,r1,e1,x1⟩,hk⟩
   clear hx
   generalize x.jI (find A.lv id)=y at he1 r1 e1 x1 ⊢
   cases hye:y.e with
   |gw v =>
    have hp:vj ks env y=⟨.gw v,gI env ks,y.mem⟩:=by unfold vj; rw [hye]
    rw [hp]
    have hk':=hk.resolve_left (by rw [he1,hye]; simp [jT])
    refine ⟨by rw [he1,hye],hs1,hd1,j1,r1,⟨fun t=>?_,hG.mono x1⟩,x1⟩
    rw [rf]
    split
    ·rename_i ht
     rw [hk' t ht]
     exact (he.at' t).mono x1
    ·exact .any _
   |normal =>
    have hp:vj ks env y=y:=by unfold vj; rw [hye]
    rw [hp]; exact ⟨he1,hs1,hd1,j1,r1,e1,x1⟩
   |ret =>
    have hp:vj ks env y=y:=by unfold vj; rw [hye]
    rw [hp]; exact ⟨he1,hs1,hd1,j1,r1,e1,x1⟩
   |exit i =>
    have hp:vj ks env y=y:=by unfold vj; rw [hye]
    rw [hp]; exact ⟨he1,hs1,hd1,j1,r1,e1,x1⟩
 |_ =>
  intro ac hc hf env M o h j w a hr hG he hs
  refine fQ hmix hC _ hc (o:=o) ?_ hr hG he hs
  simp only [comp] at hc
  first
   |(injection hc with hc; subst hc; exact h)
   |(obtain ⟨_,_,hc⟩:=ar hc; injection hc with hc; subst hc; exact h)
   |(obtain ⟨_,_,hc⟩:=ar hc; obtain ⟨_,_,hc⟩:=ar hc; obtain ⟨_,_,hc⟩:=ar hc; injection hc with hc; subst hc; exact h)
   |cases hc
end
end Go.Abs
namespace Go.Proofs.YtdbadpnkhaepnaaGreatDoor
open Go Go.Abs
def RB:List nh:=[.eW 4 10,.eW 5 7]
noncomputable def Ew (o1 o2:Out):Option (ae×ai) :=
 match o2.e with
 | .ret=>aK (k7 o2.env o2.mem RB) fun l=>some ((Abs.one l).fO 0 o2.mem,fN 0 o2.mem)
 | .gw (.iface 44 (.int .i64 e)) =>
  aK (bV (af cG) qv [(0,dr o1.env 2),(1,dr o1.env 4),(2,dr o1.env 5),(5,.ptr o2.mem.length 0)] (o2.mem++[.cells [.int .i64 e]])) fun o3 =>
  match o3.e with
  | .normal=>aK (k7 o2.env o3.mem RB) fun l=>some ((Abs.one l).fO 0 o3.mem,fN 0 o3.mem)
  |_=>none
 |_=>none
noncomputable def X8:List ae->ai->Option (ae×ai):=fun args M =>
 match M with
 |_::_=>none
 | []=>if args.length=2 then
   aK (bV (af cG) Ep (gd 0 args) []) fun o1 =>
   match o1.e with
   | .normal=>aK (kQ (af cG) [4,5] oM (gI o1.env [2,3,4,5]) o1.mem) fun o2=>Ew o1 o2
   |_=>none
  else none
def JG {args:List ae} {M:ai} {x:ae×ai} (h:X8 args M=some x):bl Tryz.prog 19 args M x:=by
 unfold X8 at h
 split at h
 ·cases h
 split at h
 rotate_left
 ·cases h
 rename_i hlen
 obtain ⟨o1,ho1,h⟩:=av h
 split at h
 rotate_left
 ·cases h
 rename_i hn1
 obtain ⟨o2,ho2,h⟩:=av h
 intro j w vs hr hG hvl hv
 refine calls_of_wp_defers Tryz.func19 rfl ?_
 refine wp_seq ?_
 have hsz:(vs++Array.replicate (Tryz.f19.ntmps-vs.size) undef).size=44:=by rw [Tryz.ntmps19]; simp; omega
 have he:aU j [] w (gd 0 args) { tmps:=vs++Array.replicate (Tryz.f19.ntmps-vs.size) undef,defers:=[] }:=by
  refine ⟨fun t=>?_,hG⟩
  rw [tF,if_pos (Nat.zero_le _),Nat.sub_zero]
  rcases Nat.lt_or_ge t args.length with ht|ht
  ·have h1:=List.getElem?_eq_getElem ht
   have hlt:t<vs.size:=by omega
   have h2:=Array.getElem?_eq_getElem hlt
   rw [h1]
   have h3:=hv t _ _ h1 h2
   have:(vs++Array.replicate (Tryz.f19.ntmps-vs.size) undef).getD t undef=vs[t]:=by
    simp [Array.getD_eq_getD_getElem?,Array.getElem?_append_left hlt,h2]
   rw [this]
   exact h3
  ·rw [List.getElem?_eq_none ht]; exact .any _
 refine wp_mono (wpIn_wide.1 (fQ (rd:=none) (nd:=0) (by kernel_rfl) D1 Tn adv ho1 hr hG he hsz)) ?_
 rintro ex a1 w1 ⟨h1,h2,h3,j1,r1,e1,x1⟩
 rw [hn1] at h1
 simp only [jT] at h1
 subst h1
 simp only [Exit.then]
 refine wp_seq (wp_region ?_)
 obtain ⟨t1,d1⟩:=a1
 simp only at h2 h3
 subst h3
 have hmf:∀(fn:Fn) (first cap:Array Value) (w:World),(Instr.makeFunc fn first cap).run Tryz.prog w = .ok (.func fn first cap) w:=fun _ _ _ _=>rfl
 have h2':t1.size=44:=h2
 have h9:9<t1.size:=by omega
 simp [wpOps,go_sem,Exit.then,hmf,h9,Array.getElem?_setIfInBounds,Array.getElem?_setIfInBounds_self]
 repeat' refine Or.inl ?_
 have key:∀d:List Deferred,aU j1 o1.mem w1 (gI o1.env [2,3,4,5]) { tmps:=t1.setIfInBounds 9 (.func (.func 39) #[] #[t1[2]?.getD undef,t1[4]?.getD undef,t1[5]?.getD undef]),defers:=d }:=fun d=>by
  refine ⟨fun t=>?_,e1.gl⟩
  rw [rf]
  split
  ·rename_i hm
   have hne:9≠t:=by rintro rfl; simp at hm
   have:=e1.at' t
   simp only [Array.getD_eq_getD_getElem?] at this ⊢
   rw [Array.getElem?_setIfInBounds_ne hne]
   exact this
  ·exact .any _
 refine wp_mono (wpIn_wide.1 (BZ (rd:=none) (nd:=0) (by kernel_rfl) D1 Tp adw (by kernel_rfl) ho2 r1 e1.gl (key _) (by simpa [Jk] using h2'))) ?_
 rintro ex a2 w2 ⟨g1,g2,g3,j2,r2,e2,x2⟩
 have hp:=(e1.at' 2).mono x2
 have hq:=(e1.at' 4).mono x2
 have hs:=(e1.at' 5).mono x2
 simp only [Array.getD_eq_getD_getElem?] at hp hq hs
 have hb0:0<=o2.mem.length:=Nat.zero_le _
 have fin:∀(j3:J) (M3:ai) (w3:World) (y:ae×ai),Rel j3 M3 w3->aU j3 M3 w3 o2.env a2->Ext j [] w j3 M3 w3->(aK (k7 o2.env M3 RB) fun l=>some ((Abs.one l).fO 0 M3,fN 0 M3))=some y ->
   ∃v,(results Tryz.f19 a2.tmps).run Tryz.prog w3 = .ok v w3/\oa j [] w y (.returned v) w3:=by
  intro j3 M3 w3 y r3 e3 x3 hy
  obtain ⟨l,hl,hy⟩:=av hy
  injection hy with hy; subst hy
  obtain ⟨us,u1,u2,u3⟩:=vx (P:=Tryz.prog) (rs:=Tryz.f19.results.toList) r3 e3 (by kernel_rfl:AG Tryz.prog Tryz.f19.results.toList=some RB) hl
  have hres:(results Tryz.f19 a2.tmps).run Tryz.prog w3 = .ok (if h:us.toArray.size=1 then us.toArray[0] else .tuple us.toArray) w3:=by
   unfold results
   rw [Array.mapM_eq_mapM_toList,Sem.run_bind,Sem.run_map]
   refine Eq.trans (congrArg (fun r:Result (List Value)=>Result.andThen (r.andThen fun a w' => .ok a.toArray w') _) (Eq.trans ?_ u1)) rfl
   rfl
  exact ⟨_,hres,.inl ⟨_,rfl,j3,rO (Nat.zero_le _) r3,pa (Nat.zero_le _) rfl x3,xP (Nat.zero_le _) r3 (E0 u2 u3)⟩⟩
 unfold Ew at h
 split at h
 ·rename_i hret
  rw [hret] at g1
  simp only [jT] at g1
  subst g1
  simp only [bodyPostD,g3]
  refine leaves_cons (f:=39) (args := #[t1[2]?.getD undef,t1[4]?.getD undef,t1[5]?.getD undef]) (by simp) (by simp [go_sem]) ?_
  refine (CI _ _ _ _).mono ?_
  rintro ed u' w'' ⟨rfl,rfl,rfl⟩
  simp only [Leaves,settle]
  exact fin _ _ _ _ r2 e2 (x1.trans x2) h
 ·rename_i e hpan
  obtain ⟨o3,ho3,h⟩:=av h
  split at h
  rotate_left
  ·cases h
  rename_i hn3
  rw [hpan] at g1
  simp only [jT] at g1
  subst g1
  simp only [bodyPostD,g3]
  refine leaves_cons (f:=39) (args := #[t1[2]?.getD undef,t1[4]?.getD undef,t1[5]?.getD undef]) (by simp) (by simp [go_sem]) ?_
  refine (FV r2 e2.gl hp hq hs ho3 hn3).mono ?_
  rintro ed u' w'' ⟨rfl,rfl,j3,r3,x3⟩
  simp only [Leaves,settle]
  exact fin _ _ _ _ r3 (e2.mono x3) ((x1.trans x2).trans x3) h
 ·cases h
noncomputable def D5:uF:=gD cG 19 X8
def RG:oH Tryz.prog D5:=mQ Fo (by kernel_rfl) (fun h=>JG h)
def OL {f:Nat} {a:List ae} {M:ai} {x:ae×ai} (h:af cG f a M=some x):af D5 f a M=some x:=mP rfl rfl h
def lD' {f:Nat} {a:List ae} {M:ai} {x:ae×ai} (h:af cG f a M=some x):af D5 f a M=some x:=OL h
section
attribute [local irreducible] cT cR gz gK bR kr af an aZ aK
def jR:AM Nat:=[(1,55),(2,56),(3,57),(4,58),(5,59),(6,60),(7,61),(8,62),(9,63),(10,64),(11,65),(12,66),(13,67),(14,68),(15,69),(16,70),(17,71)]
def P5 (K:Nat):ae := .raw (.func (.func K) ⟨[]⟩ ⟨[]⟩)
def c40:af cG 40 [] []=some (.eb (uM jR) (jD P5 jR),[]):=by
 refine aq rfl rfl rfl ?_
 simp only [U7,E40,pr,fW,jq,kM,Int.reduceBEq,Int.reduceEq,↓reduceIte,beq_self_eq_true,bne_self_eq_false,EW,simprocAttr]
 rfl
end
def jY (K:Nat) (f:aa) (o:dL):aa×oV×Int :=
 if K=55 then qG f o else if K=56 then qH f o else if K=57 then qF f o else if K=58 then kv f o else if K=59 then ko f o else if K=60 then uU f o else if K=61 then qM f o else if K=62 then qL f o else if K=63 then mU f o else if K=64 then u6 f o else if K=65 then nb f o else if K=66 then xt f o else if K=67 then mZ f o else if K=68 then qN f o else if K=69 then uX f o else if K=70 then qw f o else if K=71 then pd f o else (f,cn,0)
def JH {k:Int} {K:Nat} (hk:cp jR k=some K) {f:aa} {o:dL} (hf:nZ f) (ho:qj o):ik K f o (jY K f o):=by
 have hm:=wK _ _ _ hk
 simp only [jR,List.mem_cons,Prod.mk.injEq,List.not_mem_nil,or_false] at hm
 rcases hm with ⟨_,rfl⟩|⟨_,rfl⟩|⟨_,rfl⟩|⟨_,rfl⟩|⟨_,rfl⟩|⟨_,rfl⟩|⟨_,rfl⟩|⟨_,rfl⟩|⟨_,rfl⟩|⟨_,rfl⟩|⟨_,rfl⟩|⟨_,rfl⟩|⟨_,rfl⟩|⟨_,rfl⟩|⟨_,rfl⟩|⟨_,rfl⟩|⟨_,rfl⟩
 ·exact c55 f o hf ho
 ·exact c56 f o hf ho
 ·exact c57 f o hf ho
 ·exact c58 f o hf ho
 ·exact c59 f o hf ho
 ·exact c60 f o hf ho
 ·exact c61 f o hf ho
 ·exact c62 f o hf ho
 ·exact c63 f o hf ho
 ·exact c64 f o hf ho
 ·exact c65 f o hf ho
 ·exact c66 f o hf ho
 ·exact c67 f o hf ho
 ·exact c68 f o hf ho
 ·exact c69 f o hf ho
 ·exact c70 f o hf ho
 ·exact c71 f o hf ho
def py (c:Bool) (b:Bool) (M:ai) (k:Option Out):xl c ((.bool b),M) k=k:=rfl
def sH (c:Bool) (i:IntKind) (n:Int) (M:ai) (k:Option Out):xl c ((.int i n),M) k=k:=rfl
def sL (c:Bool) (b:Bytes) (M:ai) (k:Option Out):xl c ((.str b),M) k=k:=rfl
def nP (c:Bool) (t:Tk) (l:List ae) (M:ai) (k:Option Out):xl c ((.slice t l),M) k=k:=rfl
def sF (c:Bool) (l:List ae) (M:ai) (k:Option Out):xl c ((.agg l),M) k=k:=rfl
def nQ (c:Bool) (l:List ae) (M:ai) (k:Option Out):xl c ((.tuple l),M) k=k:=rfl
def sJ (c:Bool) (i n:Nat) (M:ai) (k:Option Out):xl c ((.ptr i n),M) k=k:=rfl
def pz (c:Bool) (a b:List ae) (M:ai) (k:Option Out):xl c ((.eb a b),M) k=k:=rfl
def sK (c:Bool) (v:Value) (M:ai) (k:Option Out):xl c ((.raw v),M) k=k:=rfl
def sG (c:Bool)  (M:ai) (k:Option Out):xl c (.any,M) k=k:=rfl
def sI (v:Value) (M:ai) (k:Option Out):xl true (.gw v,M) k=some ⟨.gw v,[],M⟩:=rfl
def wj (e:Env) (M:ai) (k:Env->ai->Option Out):nC ⟨.normal,e,M⟩ k=k e M:=rfl
def wk (v:Value) (e:Env) (M:ai) (k:Env->ai->Option Out):nC ⟨.gw v,e,M⟩ k=some ⟨.gw v,e,M⟩:=rfl
def Lf (e:Env) (M:ai) (k:Env->ai->Option Out):nC ⟨.ret,e,M⟩ k=some ⟨.ret,e,M⟩:=rfl
def Lx (live:List Nat) (e:Env) (M:ai):Out.jI live ⟨.ret,e,M⟩=⟨.ret,e,M⟩:=rfl
def N1 (ks:List Nat) (env e:Env) (M:ai):vj ks env ⟨.ret,e,M⟩=⟨.ret,e,M⟩:=rfl
def wC (live:List Nat) (e:Env) (M:ai):Out.jI live ⟨.normal,e,M⟩=⟨.normal,gI e live,M⟩:=rfl
def wD (live:List Nat) (v:Value) (e:Env) (M:ai):Out.jI live ⟨.gw v,e,M⟩=⟨.gw v,e,M⟩:=rfl
def wU (ks:List Nat) (env e:Env) (M:ai):vj ks env ⟨.normal,e,M⟩=⟨.normal,e,M⟩:=rfl
def wV (ks:List Nat) (env:Env) (v:Value) (e:Env) (M:ai):vj ks env ⟨.gw v,e,M⟩=⟨.gw v,gI env ks,M⟩:=rfl
def AA:(false==true)=false:=rfl
def AB:(true==false)=false:=rfl
def Az:(false==false)=true:=rfl
def AD:(true==true)=true:=rfl
def kW (e:Int):oV:=⟨e,0,0,0,0,[],[]⟩
def jB (f:aa) (o:dL):aa×oV :=
 match cp jR o.kind with
 |none=>(f,kW 1)
 |some K=>if 0<=o.aj/\o.aj<16 then (if (jY K f o).2.2=0 then ((jY K f o).1,(jY K f o).2.1) else (f,kW (jY K f o).2.2)) else (f,kW 1)
def Ec:List ae:=[.slice .c0 [],.int .i64 0,.int .i64 0,.int .i64 0,.slice .c0 [],.slice .c0 [],.slice .c0 [],.int .i64 0,.slice .c0 [],.slice .c0 []]
def lg:List ae:=[.int .i64 0,.int .i64 0,.int .i64 0,.int .i64 0,.int .i64 0,.slice .c0 [],.slice .c0 []]
def qu (f:aa) (o:dL):ai:=[.cells (bB f),.cells (cz o),.cells Ec,.cells lg]
def mF:Env:=[(2,.ptr 0 0),(3,.ptr 1 0),(4,.ptr 2 0),(5,.ptr 3 0)]
def uL (a:oV) (x y:ae):List ae:=[.int .i64 a.err,.int .i64 a.ino,.int .i64 a.kind,.int .i64 a.n,.int .i64 a.m,x,y]
section
attribute [local irreducible] af an aZ aK
def Yr (f:aa) (o:dL):bV (af cG) Ep (gd 0 [.agg (bB f),.agg (cz o)]) []=some ⟨.normal,mF,qu f o⟩:=by
 simp only [Ep,bB,cz,qu,mF,Ec,lg,bV,cE,nC,pw,xl,EV,simprocAttr]
 rfl
def k40 (M:ai):an (af cG) 40 [] M=some (.eb (uM jR) (jD P5 jR),M):=eH c40 rfl rfl rfl rfl rfl M
def Ox (f:aa) (o:dL) (e:Int):bV (af cG) qv [(0,.ptr 0 0),(1,.ptr 2 0),(2,.ptr 3 0),(5,.ptr 4 0)] (qu f o++[.cells [.int .i64 e]]) =
  some ⟨.normal,[],.cells (bB f) :: .cells (cz o) :: .cells (bB f) :: .cells (uL (kW e) (.slice .c0 []) (.slice .c0 []))::[.cells [.int .i64 e]]⟩:=by
 simp only [qv,bB,cz,qu,Ec,lg,uL,kW,bV,cE,nC,pw,xl,EV,simprocAttr]
 rfl
def Yw (f:aa) (o:dL) (b:aQ) (e:Int):bV (af cG) qv [(0,.ptr 0 0),(1,.ptr 2 0),(2,.ptr 3 0),(5,.ptr 5 0)] (qu f o++[b]++[.cells [.int .i64 e]]) =
  some ⟨.normal,[],.cells (bB f) :: .cells (cz o) :: .cells (bB f) :: .cells (uL (kW e) (.slice .c0 []) (.slice .c0 []))::[b,.cells [.int .i64 e]]⟩:=by
 simp only [qv,bB,cz,qu,Ec,lg,uL,kW,bV,cE,nC,pw,xl,EV,simprocAttr]
 rfl
def Yu (f:aa) (o:dL) (h:cp jR o.kind=none):kQ (af cG) [4,5] oM (gI mF [2,3,4,5]) (qu f o)=some ⟨.gw (.iface 44 (.int .i64 1)),[(4,.ptr 2 0),(5,.ptr 3 0)],qu f o⟩:=by
 have g:=iv P5 jR o.kind
 rw [h] at g
 have q:=fun M=>HI false 1 rfl M
 simp only [Bool.false_eq_true,if_false,cr] at q
 have q0:=k40
 simp only [oM,yI,yJ,yK,yL,bB,cz,qu,mF,kQ,bV,cE,py,sH,sL,nP,sF,nQ,sJ,pz,sK,sG,sI,wj,wk,wC,wD,wU,wV,AA,AB,Az,AD,Bool.false_eq_true,if_true,if_false,mapOf.eq_2,jK,q0,g,q,Option.map_none,Option.getD_none,Option.isSome_none,EV,simprocAttr]
def Yt (f:aa) (o:dL) (K:Nat) (h:cp jR o.kind=some K) (hc:¬(0<=o.aj/\o.aj<16)):kQ (af cG) [4,5] oM (gI mF [2,3,4,5]) (qu f o)=some ⟨.gw (.iface 44 (.int .i64 1)),[(4,.ptr 2 0),(5,.ptr 3 0)],qu f o⟩:=by
 have g:=iv P5 jR o.kind
 rw [h] at g
 have q:=fun M=>HI false 1 rfl M
 simp only [Bool.false_eq_true,if_false,cr] at q
 have q0:=k40
 by_cases h1:0<=o.aj
 ·have h2:(o.aj<16)=False:=by simp only [eq_iff_iff,iff_false]; omega
  have h1:(0<=o.aj)=True:=by simp only [eq_iff_iff,iff_true]; exact h1
  simp only [oM,yI,yJ,yK,yL,bB,cz,qu,mF,kQ,bV,cE,py,sH,sL,nP,sF,nQ,sJ,pz,sK,sG,sI,wj,wk,wC,wD,wU,wV,AA,AB,Az,AD,Bool.false_eq_true,if_true,if_false,mapOf.eq_2,jK,q0,g,q,Option.map_some,Option.getD_some,Option.isSome_some,P5,h1,h2,EV,simprocAttr]
 ·have h1:(0<=o.aj)=False:=by simp only [eq_iff_iff,iff_false]; exact h1
  simp only [oM,yI,yJ,yK,yL,bB,cz,qu,mF,kQ,bV,cE,py,sH,sL,nP,sF,nQ,sJ,pz,sK,sG,sI,wj,wk,wC,wD,wU,wV,AA,AB,Az,AD,Bool.false_eq_true,if_true,if_false,mapOf.eq_2,jK,q0,g,q,Option.map_some,Option.getD_some,Option.isSome_some,P5,h1,EV,simprocAttr]
def Yv (f:aa) (o:dL) (K:Nat) (r:aa×oV×Int) (h:cp jR o.kind=some K) (hc0:0<=o.aj) (hc1:o.aj<16) (hd:ik K f o r) :
  ∃x y,Row x (r.2.1.names.map ae.str)/\Row y (r.2.1.data.map jt)/\kQ (af cG) [4,5] oM (gI mF [2,3,4,5]) (qu f o) =
   some (if (r.2.2 != 0)=true then ⟨.gw (.iface 44 (.int .i64 r.2.2)),[(4,.ptr 2 0),(5,.ptr 3 0)],qu f o++[bh r.1 o r.2.1 x y]⟩
    else ⟨.ret,[(4,.ptr 2 0),(5,.ptr 3 0)],[.cells (bB f),.cells (cz o),.cells (bB r.1),.cells (uL r.2.1 x y),bh r.1 o r.2.1 x y]⟩):=by
 obtain ⟨x,y,hx,hy,ha⟩:=hd
 refine ⟨x,y,hx,hy,?_⟩
 have cx:x.cZ=true:=by rcases hx with h|⟨h,_⟩<;>rw [h]<;>rfl
 have cy:y.cZ=true:=by rcases hy with h|⟨h,_⟩<;>rw [h]<;>rfl
 have g:=iv P5 jR o.kind
 rw [h] at g
 have q:=fun M=>HI true 1 rfl M
 simp only [if_true] at q
 have q0:=k40
 have h1:(0<=o.aj)=True:=by simp only [eq_iff_iff,iff_true]; exact hc0
 have h2:(o.aj<16)=True:=by simp only [eq_iff_iff,iff_true]; exact hc1
 have q5:an (af cG) K [.ptr 4 0] (qu f o++[.cells (aN f o)])=some (if (r.2.2 != 0)=true then cr r.2.2 else .tuple [],qu f o++[bh r.1 o r.2.1 x y]):=by
  obtain ⟨f',a,e⟩:=r
  simp only at hx hy ha ⊢
  unfold bh at ha ⊢
  rcases hx with rfl|⟨rfl,_⟩<;>rcases hy with rfl|⟨rfl,_⟩<;>exact gN (vs:=[]) (p:=4) rfl ha rfl rfl (by split<;>rfl) rfl (by split<;>rfl) rfl rfl rfl rfl rfl
 obtain ⟨f',a,e⟩:=r
 simp only at q5 ⊢
 simp only [qu,bB,cz,aN,bh,Ec,lg,List.cons_append,List.nil_append,cr] at q5 ⊢
 cases he:e != 0<;>simp only [he,Bool.false_eq_true,if_true,if_false] at q5 ⊢
 ·simp only [Ec,lg,Lf,Lx,N1,oM,yI,yJ,yK,yL,bB,cz,qu,mF,kQ,bV,cE,py,sH,sL,nP,sF,nQ,sJ,pz,sK,sG,sI,wj,wk,wC,wD,wU,wV,AA,AB,Az,AD,Bool.false_eq_true,if_true,if_false,mapOf.eq_2,jK,q0,g,q,Option.map_some,Option.getD_some,Option.isSome_some,P5,h1,h2,q5,uL,cx,cy,Bool.true_and,EV,simprocAttr]
 ·simp only [Ec,lg,Lf,Lx,N1,oM,yI,yJ,yK,yL,bB,cz,qu,mF,kQ,bV,cE,py,sH,sL,nP,sF,nQ,sJ,pz,sK,sG,sI,wj,wk,wC,wD,wU,wV,AA,AB,Az,AD,Bool.false_eq_true,if_true,if_false,mapOf.eq_2,jK,q0,g,q,Option.map_some,Option.getD_some,Option.isSome_some,P5,h1,h2,q5,EV,simprocAttr]
end
def Gf (f:aa) (o:dL) (e:Int) {R:ai} {M3:ai} (h:bV (af cG) qv [(0,.ptr 0 0),(1,.ptr 2 0),(2,.ptr 3 0),(5,.ptr (qu f o++R).length 0)] (qu f o++R++[.cells [.int .i64 e]])=some ⟨.normal,[],.cells (bB f) :: .cells (cz o) :: .cells (bB f) :: .cells (uL (kW e) (.slice .c0 []) (.slice .c0 []))::M3⟩) :
  Ew ⟨.normal,mF,qu f o⟩ ⟨.gw (.iface 44 (.int .i64 e)),[(4,.ptr 2 0),(5,.ptr 3 0)],qu f o++R⟩=some (.tuple [.agg (bB f),.agg (ba (kW e))],[]):=by
 show aK (bV (af cG) qv [(0,.ptr 0 0),(1,.ptr 2 0),(2,.ptr 3 0),(5,.ptr (qu f o++R).length 0)] (qu f o++R++[.cells [.int .i64 e]])) _=_
 rw [h,aL]
 rfl
def N0 (f:aa) (o:dL):X8 [.agg (bB f),.agg (cz o)] []=aK (kQ (af cG) [4,5] oM (gI mF [2,3,4,5]) (qu f o)) fun o2=>Ew ⟨.normal,mF,qu f o⟩ o2:=by
 unfold X8
 simp only []
 have h2:[ae.agg (bB f),ae.agg (cz o)].length=2:=rfl
 rw [if_pos h2,Yr,aL]
def c19 (f:aa) (o:dL) (hf:nZ f) (ho:qj o):af D5 19 [.agg (bB f),.agg (cz o)] []=some (.tuple [.agg (bB (jB f o).1),.agg (ba (jB f o).2)],[]):=by
 have bad:∀e,jB f o=(f,kW e)->∀R M3,kQ (af cG) [4,5] oM (gI mF [2,3,4,5]) (qu f o)=some ⟨.gw (.iface 44 (.int .i64 e)),[(4,.ptr 2 0),(5,.ptr 3 0)],qu f o++R⟩ ->
   bV (af cG) qv [(0,.ptr 0 0),(1,.ptr 2 0),(2,.ptr 3 0),(5,.ptr (qu f o++R).length 0)] (qu f o++R++[.cells [.int .i64 e]])=some ⟨.normal,[],.cells (bB f) :: .cells (cz o) :: .cells (bB f) :: .cells (uL (kW e) (.slice .c0 []) (.slice .c0 []))::M3⟩ ->
   af D5 19 [.agg (bB f),.agg (cz o)] []=some (.tuple [.agg (bB (jB f o).1),.agg (ba (jB f o).2)],[]):=by
  intro e he R M3 h1 h2
  rw [he]
  refine bM (g:=X8) rfl ?_
  rw [N0,h1,aL]
  exact Gf f o e h2
 cases hk:cp jR o.kind with
 |none =>
  refine bad 1 (by unfold jB; rw [hk]) [] [.cells [.int .i64 1]] ?_ ?_
  ·rw [Yu f o hk,List.append_nil]
  ·rw [List.append_nil]; exact Ox f o 1
 |some K =>
  by_cases hc:0<=o.aj/\o.aj<16
  ·obtain ⟨x,y,hx,hy,hs⟩:=Yv f o K (jY K f o) hk hc.1 hc.2 (JH hk hf ho)
   by_cases he:(jY K f o).2.2=0
   ·have hd:jB f o=((jY K f o).1,(jY K f o).2.1):=by unfold jB; rw [hk]; simp only [if_pos hc,if_pos he]
    rw [hd]
    refine bM (g:=X8) rfl ?_
    rw [N0,hs,if_neg (by simp [he]),aL]
    generalize jY K f o=r at hx hy ⊢
    obtain ⟨f',⟨a1,a2,a3,a4,a5,ns,dt⟩,e⟩:=r
    simp only at hx hy
    rcases hx with rfl|⟨rfl,hn⟩<;>rcases hy with rfl|⟨rfl,hm⟩
    ·rfl
    ·rw [List.map_eq_nil_iff] at hm; subst hm; rfl
    ·rw [List.map_eq_nil_iff] at hn; subst hn; rfl
    ·rw [List.map_eq_nil_iff] at hn hm; subst hn; subst hm; rfl
   ·refine bad (jY K f o).2.2 (by unfold jB; rw [hk]; simp only [if_pos hc,if_neg he]) [bh (jY K f o).1 o (jY K f o).2.1 x y] _ ?_ (Yw f o _ _)
    rw [hs,if_pos (by simpa using he)]
  ·refine bad 1 (by unfold jB; rw [hk]; simp only [if_neg hc]) [] [.cells [.int .i64 1]] ?_ ?_
   ·rw [Yt f o K hk hc,List.append_nil]
   ·rw [List.append_nil]; exact Ox f o 1
def pAs:List ae->ai->Option (ae×ai)
 | [.raw .nilIface,.dJ 78 0 0],[.cells [c]]=>some (.bool false,[.cells [c]])
 | [.raw (.iface 73 (.agg ⟨[.int .i64 e]⟩)),.dJ 78 0 0],[.cells [_]]=>some (.bool true,[.cells [.int .i64 e]])
 |_,_=>none
def Jr {args:List ae} {M:ai} {x:ae×ai} (h:pAs args M=some x):bl Tryz.prog 28 args M x:=by
 refine fZ.call ?_
 unfold pAs at h
 split at h
 ·rename_i c
  injection h with h; subst h
  intro j w vs hr hG hl hv
  obtain ⟨l⟩:=vs
  match l,hl with
  | [v0,v1],_ =>
   have h0:=hv 0 _ v0 rfl rfl
   cases h0 with
   |plain h0 =>
    cases h0
    exact (Ud v1 w).mono fun e w' ⟨he,hw⟩=>by
     subst hw
     exact ⟨_,j,he,hr,Ext.refl j _ _,.plain (.bool _)⟩
 ·rename_i e c
  injection h with h; subst h
  intro j w vs hr hG hl hv
  obtain ⟨l⟩:=vs
  match l,hl with
  | [v0,v1],_ =>
   have h0:=hv 0 _ v0 rfl rfl
   have h1:=hv 1 _ v1 rfl rfl
   obtain ⟨b,us,t,hj,hb,hus,hcs⟩:=hr.box 0 [c] rfl
   cases h0 with
   |plain h0 =>
    cases h0
    cases h1 with
    |plain h1=>cases h1
    |dJ hc hj' =>
     have hbb:=hj.symm.trans hj'
     injection hbb with hbb
     subst hbb
     obtain ⟨lus⟩:=us
     match lus,hus with
     | [u],_ =>
      have hg:=(hG.g 0 [xy] 0 xy rfl rfl).2
      have hblt:=lt_of_block hb
      refine (adV e ⟨b,0,none⟩ u w hg (by simp [World.cell?,hb]) (by simp [World.frozen?,hb])).mono ?_
      rintro ev w' ⟨rfl,rfl⟩
      have hA:∀k,k<w.heap.size->∀o1 o2 o3 o4:Obj,((((w.alloc o1).alloc o2).alloc o3).alloc o4).heap[k]?=w.heap[k]?:=by
       intro k hk o1 o2 o3 o4
       rw [Go.RowKit.Below.heap_alloc _ _ _ (by simp; omega),Go.RowKit.Below.heap_alloc _ _ _ (by simp; omega),Go.RowKit.Below.heap_alloc _ _ _ (by simp; omega),Go.RowKit.Below.heap_alloc _ _ _ hk]
      have hW:=fun o1 o2 o3 o4=>one_setCell (u := .int .i64 e) ((hA b hblt o1 o2 o3 o4).trans hb)
      refine ⟨.bool true,j,rfl,?_,?_,.plain (.bool _)⟩
      ·exact Rel.store (M:=[.cells [c]]) (id:=0) (bx' := .cells [.int .i64 e]) rfl rfl rfl hj hr ⟨by simp; omega,rfl,rfl,rfl⟩ (fun k hk hlt=>(Go.RowKit.Below.heap_setCell _ _ _ _ hk).trans (hA k hlt _ _ _ _)) (fun vs' t' fr' h=>by rw [hb] at h; injection h with h; injection h with h1 h2 h3; subst h1; subst h2; subst h3; exact ⟨_,_,hW _ _ _ _,rfl⟩) (fun j' M' _=>⟨_,_,hW _ _ _ _,rfl,fun i c v hc hv=>by
        match i with
        |0=>simp at hc hv; subst hc; subst hv; exact .plain (.int _ _)
        |i+1=>simp at hc⟩)
      ·exact Ext.store (M:=[.cells [c]]) (id:=0) (bx' := .cells [.int .i64 e]) rfl rfl rfl hj hr ⟨by simp; omega,rfl,rfl,rfl⟩ (fun k hk hlt=>(Go.RowKit.Below.heap_setCell _ _ _ _ hk).trans (hA k hlt _ _ _ _)) (fun vs' t' fr' h=>by rw [hb] at h; injection h with h; injection h with h1 h2 h3; subst h1; subst h2; subst h3; exact ⟨_,_,hW _ _ _ _,rfl⟩)
 ·cases h
noncomputable def eM:uF:=gD D5 28 pAs
def RH:oH Tryz.prog eM:=mQ RG (by kernel_rfl) (fun h=>Jr h)
def um:iM Tryz.prog (af eM):=mD (by kernel_rfl) RH
def Ca {f:Nat} {a:List ae} {M:ai} {x:ae×ai} (h:af D5 f a M=some x):af eM f a M=some x:=mP rfl rfl h
def Qh {f:Nat} {a:List ae} {M:ai} {x:ae×ai} (h:af aV f a M=some x):af eM f a M=some x:=Ca (lD' (lS' h))
def lE {f:Nat} {vs:List ae} {M:ai} {x:ae×ai} (h:an (af aV) f vs M=some x):an (af eM) f vs M=some x:=by
 obtain ⟨a,B,y,h1,h2⟩:=iq h
 exact h2 _ (Qh h1)
section
attribute [local irreducible] cT cR gz gK bR kr af an aZ aK
def c27 (xs:List bq) (c:Int) (b:Nat) (hb:vD (fun x=>decide (eF x.aj c<0)) xs b) (hn:xs.length<=100000):af eM 27 [.slice .sh (xs.map bK),.int .i64 c] []=some (.tuple [.int .i64 b,.bool (gb (fun x=>eF x.aj c==0) xs b)],[]):=by
 refine aq rfl rfl rfl ?_
 have q:∀M,an (af eM) 42 [.slice .sh (xs.map bK),.int .i64 c,.func 43 []] M=_:=fun M=>cO (Qh (c42 xs c b hb hn)) M
 simp only [UZ,E27,q,EW,simprocAttr]
def gU (c s l:Int):Int :=
 if c<0\/16<=c then 1 else if s<1\/s<l then 120 else if l+1<s\/1099511627776<s then 121 else 0
def xu (e:Int):ae:=if e=0 then .raw .nilIface else .raw (.iface 73 (.agg ⟨[.int .i64 e]⟩))
def c29 (c s l:Int) (hl : -1000000000000000<=l) (hl':l<=1000000000000000):af aV 29 [.int .i64 c,.int .i64 s,.int .i64 l] []=some (xu (gU c s l),[]):=by
 refine aq rfl rfl rfl ?_
 have hw:IntKind.i64.wrap (l+1)=l+1:=bw (by omega) (by omega)
 unfold gU
 by_cases h1:c<0
 ·rw [if_pos (.inl h1)]
  simp only [zy,T8,eq_true h1,EW,simprocAttr]
  rfl
 by_cases h2:16<=c
 ·rw [if_pos (.inr h2)]
  simp only [zy,T8,eq_false h1,eq_true h2,EW,simprocAttr]
  rfl
 rw [if_neg (by omega)]
 by_cases h3:s<1
 ·rw [if_pos (.inl h3)]
  simp only [zy,T8,eq_false h1,eq_false h2,eq_true h3,EW,simprocAttr]
  rfl
 by_cases h4:s<l
 ·rw [if_pos (.inr h4)]
  simp only [zy,T8,eq_false h1,eq_false h2,eq_false h3,eq_true h4,EW,simprocAttr]
  rfl
 rw [if_neg (by omega)]
 by_cases h5:l+1<s
 ·rw [if_pos (.inl h5)]
  simp only [zy,T8,eq_false h1,eq_false h2,eq_false h3,eq_false h4,hw,eq_true h5,EW,simprocAttr]
  rfl
 by_cases h6:1099511627776<s
 ·rw [if_pos (.inr h6)]
  simp only [zy,T8,eq_false h1,eq_false h2,eq_false h3,eq_false h4,hw,eq_false h5,eq_true h6,EW,simprocAttr]
  rfl
 rw [if_neg (by omega)]
 simp only [zy,T8,eq_false h1,eq_false h2,eq_false h3,eq_false h4,hw,eq_false h5,eq_false h6,EW,simprocAttr]
 rfl
end
def TG (xs:List bq) (c:Int) (b:Nat) (hb:vD (fun x=>decide (eF x.aj c<0)) xs b) (hn:xs.length<=100000) (M:ai):an (af eM) 27 [.slice .sh (xs.map bK),.int .i64 c] M=some (.tuple [.int .i64 b,.bool (gb (fun x=>eF x.aj c==0) xs b)],M) :=
 cO (c27 xs c b hb hn) M
def YY (c s l:Int) (hl : -1000000000000000<=l) (hl':l<=1000000000000000) (M:ai):an (af eM) 29 [.int .i64 c,.int .i64 s,.int .i64 l] M=some (xu (gU c s l),M) :=
 eH (Qh (c29 c s l hl hl')) rfl rfl (by unfold xu; split<;>rfl) rfl (by unfold xu; split<;>rfl) M
def agN (c:ae):af eM 28 [.raw .nilIface,.dJ 78 0 0] [.cells [c]]=some (.bool false,[.cells [c]]):=bM (g:=pAs) rfl rfl
def agO (e:Int) (c:ae):af eM 28 [.raw (.iface 73 (.agg ⟨[.int .i64 e]⟩)),.dJ 78 0 0] [.cells [c]]=some (.bool true,[.cells [.int .i64 e]]):=bM (g:=pAs) rfl rfl
def TQ (B0 B1 B2 B3 B4:aQ) (n:Int):dN [B0,B1,B2,B3,B4,.cells [.int .i64 n]] (dh [5]) [5]=some [.cells [.int .i64 n]]:=rfl
def abO (e:Int) (B0 B1 B2 B3 B4:aQ):an (af eM) 28 [.raw (.iface 73 (.agg ⟨[.int .i64 e]⟩)),.dJ 78 5 0] [B0,B1,B2,B3,B4,.cells [.int .i64 0]]=some (.bool true,[B0,B1,B2,B3,B4,.cells [.int .i64 e]]) :=
 eL (ids:=[5]) rfl rfl (TQ ..) rfl rfl (agO e _) rfl rfl rfl rfl rfl
def Qd (B0 B1 B2 B3 B4:aQ):an (af eM) 28 [.raw .nilIface,.dJ 78 5 0] [B0,B1,B2,B3,B4,.cells [.int .i64 0]]=some (.bool false,[B0,B1,B2,B3,B4,.cells [.int .i64 0]]) :=
 eL (ids:=[5]) rfl rfl (TQ ..) rfl rfl (agN _) rfl rfl rfl rfl rfl
section
attribute [local irreducible] cT cR gz gK bR kr af an aZ aK
def af1 (f:aa) (l:List bq) (c s:Int) (o:dL) (b:Nat) (hb:vD (fun x=>decide (eF x.aj c<0)) l b) (hn:l.length<=100000) (hf:gb (fun x=>eF x.aj c==0) l b=false) (e:Int) (he:gU c s 0=e) (h0:e≠0) :
  af eM 12 [.agg (bB f),.slice .sh (l.map bK),.int .i64 c,.int .i64 s,.agg (cz o)] []=some (.tuple [.agg (bB f),.slice .sh (l.map bK),.agg (ba (kW e))],[]):=by
 refine aq rfl rfl rfl ?_
 have q1:=fun M=>TG l c b hb hn M
 rw [hf] at q1
 have q2:=fun M=>YY c s 0 (by omega) (by omega) M
 rw [he] at q2
 unfold xu at q2
 rw [if_neg h0] at q2
 simp only [A9,YL,bB,cz,q1,q2,abO,EW,simprocAttr]
 rfl
def aav (f:aa) (l:List bq) (c s:Int) (o:dL) (b:Nat) (p:bq) (hb:vD (fun x=>decide (eF x.aj c<0)) l b) (hn:l.length<=100000) (hp:l[b]?=some p) (hf:gb (fun x=>eF x.aj c==0) l b=true) (hq : -1000000000000000<=p.seq) (hq':p.seq<=1000000000000000) (e:Int) (he:gU c s p.seq=e) (h0:e≠0) :
  af eM 12 [.agg (bB f),.slice .sh (l.map bK),.int .i64 c,.int .i64 s,.agg (cz o)] []=some (.tuple [.agg (bB f),.slice .sh (l.map bK),.agg (ba (kW e))],[]):=by
 refine aq rfl rfl rfl ?_
 have q1:=fun M=>TG l c b hb hn M
 rw [hf] at q1
 have q2:=fun M=>YY c s p.seq hq hq' M
 rw [he] at q2
 unfold xu at q2
 rw [if_neg h0] at q2
 have hlt:((b:Int)<(l.length:Int))=True:=by
  simp only [eq_iff_iff,iff_true]
  have:=(List.getElem?_eq_some_iff.1 hp).1
  omega
 simp only [A9,YL,bB,cz,q1,q2,abO,hp,hlt,bK,bU,ba,List.cons_append,EW,simprocAttr]
 rfl
def af2 (f:aa) (l:List bq) (c s:Int) (o:dL) (b:Nat) (p:bq) (hb:vD (fun x=>decide (eF x.aj c<0)) l b) (hn:l.length<=100000) (hp:l[b]?=some p) (hf:gb (fun x=>eF x.aj c==0) l b=true) (hq : -1000000000000000<=p.seq) (hq':p.seq<=1000000000000000) (he:gU c s p.seq=0) (hs:s=p.seq) :
  af eM 12 [.agg (bB f),.slice .sh (l.map bK),.int .i64 c,.int .i64 s,.agg (cz o)] []=some (.tuple [.agg (bB f),.slice .sh (l.map bK),.agg (ba p.nj)],[]):=by
 refine aq rfl rfl rfl ?_
 have q1:=fun M=>TG l c b hb hn M
 rw [hf] at q1
 have q2:=fun M=>YY c s p.seq hq hq' M
 rw [he] at q2
 unfold xu at q2
 rw [if_pos rfl] at q2
 have hlt:((b:Int)<(l.length:Int))=True:=by
  simp only [eq_iff_iff,iff_true]
  have:=(List.getElem?_eq_some_iff.1 hp).1
  omega
 subst hs
 simp only [A9,YL,bB,cz,q1,q2,Qd,hp,hlt,bK,bU,ba,List.cons_append,EW,simprocAttr]
def k19 (f:aa) (o:dL) (hf:nZ f) (ho:qj o) (M:ai):an (af eM) 19 [.agg (bB f),.agg (cz o)] M=some (.tuple [.agg (bB (jB f o).1),.agg (ba (jB f o).2)],M) :=
 cO (Ca (c19 f o hf ho)) M
def jV (o:dL) (c:Int):dL:={ o with aj:=c }
def afY (f:aa) (l:List bq) (c s:Int) (o:dL) (b:Nat) (p:bq) (hF:nZ f) (hO:qj (jV o c)) (hb:vD (fun x=>decide (eF x.aj c<0)) l b) (hn:l.length<=100000) (hp:l[b]?=some p) (hf:gb (fun x=>eF x.aj c==0) l b=true) (hq : -1000000000000000<=p.seq) (hq':p.seq<=1000000000000000) (he:gU c s p.seq=0) (hs:s≠p.seq) :
  af eM 12 [.agg (bB f),.slice .sh (l.map bK),.int .i64 c,.int .i64 s,.agg (cz o)] []=some (.tuple [.agg (bB (jB f (jV o c)).1),.slice .sh ((l.set b ⟨c,s,(jB f (jV o c)).2⟩).map bK),.agg (ba (jB f (jV o c)).2)],[]):=by
 refine aq rfl rfl rfl ?_
 have q1:=fun M=>TG l c b hb hn M
 rw [hf] at q1
 have q2:=fun M=>YY c s p.seq hq hq' M
 rw [he] at q2
 unfold xu at q2
 rw [if_pos rfl] at q2
 have hlt:((b:Int)<(l.length:Int))=True:=by
  simp only [eq_iff_iff,iff_true]
  have:=(List.getElem?_eq_some_iff.1 hp).1
  omega
 have hsq:(s==p.seq)=false:=by simpa using hs
 have h0:l≠[]:=by rintro rfl; simp at hp
 have q3:=fun M=>k19 f (jV o c) hF hO M
 generalize jB f (jV o c)=r at q3 ⊢
 simp only [bB,cz,jV,ba] at q3
 have p1:=fun M=>Qh (pW bK (f:=30) (sz:=9) (bytes:=104) rfl (fun _=>rfl) (by omega) h0 (by omega) M)
 simp only [A9,YL,bB,cz,q1,q2,q3,p1,Qd,hp,hlt,hsq,Nat.sub_zero,bK,bU,ba,List.cons_append,EW,simprocAttr]
 have hz:List.take l.length (dG (l.map bK) b (bK ⟨c,s,r.2⟩))=(l.set b ⟨c,s,r.2⟩).map bK:=by
  rw [cF,<-List.map_set,List.take_of_length_le (by simp)]
 exact congrArg (fun z=>some (ae.tuple [.agg (bB r.1),ae.slice .sh z,.agg (ba r.2)],([]:ai))) hz
def af0 (f:aa) (l:List bq) (c s:Int) (o:dL) (b:Nat) (hF:nZ f) (hO:qj (jV o c)) (hb:vD (fun x=>decide (eF x.aj c<0)) l b) (hn:l.length<=90000) (hf:gb (fun x=>eF x.aj c==0) l b=false) (he:gU c s 0=0) (hs:s≠0) (h0:l≠[]) :
  af eM 12 [.agg (bB f),.slice .sh (l.map bK),.int .i64 c,.int .i64 s,.agg (cz o)] []=some (.tuple [.agg (bB (jB f (jV o c)).1),.slice .sh ((l.take b++⟨c,s,(jB f (jV o c)).2⟩::l.drop b).map bK),.agg (ba (jB f (jV o c)).2)],[]):=by
 refine aq rfl rfl rfl ?_
 have q1:=fun M=>TG l c b hb (by omega) M
 rw [hf] at q1
 have q2:=fun M=>YY c s 0 (by omega) (by omega) M
 rw [he] at q2
 unfold xu at q2
 rw [if_pos rfl] at q2
 have hle:=hb.le
 have hlt:((b:Int)<((l.length+1:Nat):Int))=True:=by
  simp only [eq_iff_iff,iff_true]
  omega
 have hsq:(s==0)=false:=by simpa using hs
 have q3:=fun M=>k19 f (jV o c) hF hO M
 generalize jB f (jV o c)=r at q3 ⊢
 simp only [bB,cz,jV,ba] at q3
 have p1:=fun M=>Qh (pW bK (f:=30) (sz:=9) (bytes:=104) rfl (fun _=>rfl) (by omega) h0 (by omega) M)
 have p2:=fun M h=>Qh (wi bK (f:=31) (sz:=9) (bytes:=104) (v:=0) (id:=8) rfl (by omega) hle (by omega) (.agg [.int .i64 c,.int .i64 0,.int .i64 0,.int .i64 0,.int .i64 0,.int .i64 0,.int .i64 0,.slice .sh [],.slice .sh []]) rfl M h)
 have hlen:(List.take b (l.map bK)).length=b:=by simp; omega
 have hg:∀x:ae,(List.take b (l.map bK)++x::List.drop b (l.map bK))[b]?=some x:=fun x=>by
  rw [List.getElem?_append_right (by omega),hlen,Nat.sub_self]; rfl
 have hz:∀x:ae,List.take (l.length+1) (dG (List.take b (l.map bK)++x::List.drop b (l.map bK)) b (bK ⟨c,s,r.2⟩))=(l.take b++⟨c,s,r.2⟩::l.drop b).map bK:=fun x=>by
  rw [cF,List.set_append_right _ _ (by omega),hlen,Nat.sub_self,List.set_cons_zero]
  exact zB bK hle ⟨c,s,r.2⟩
 simp only [A9,YL,bB,cz,q1,q2,q3,p1,p2,Qd,hlt,hsq,hg,Nat.sub_zero,bK,bU,ba,List.cons_append,EW,simprocAttr]
 exact congrArg (fun z=>some (ae.tuple [.agg (bB r.1),ae.slice .sh z,.agg (ba r.2)],([]:ai))) (hz _)
def afZ (f:aa) (c s:Int) (o:dL) (hF:nZ f) (hO:qj (jV o c)) (he:gU c s 0=0) (hs:s≠0) :
  af eM 12 [.agg (bB f),.slice .sh [],.int .i64 c,.int .i64 s,.agg (cz o)] []=some (.tuple [.agg (bB (jB f (jV o c)).1),.slice .sh [bK ⟨c,s,(jB f (jV o c)).2⟩],.agg (ba (jB f (jV o c)).2)],[]):=by
 refine aq rfl rfl rfl ?_
 have hb:vD (fun x:bq=>decide (eF x.aj c<0)) [] 0:=⟨Nat.le_refl _,fun i x h=>by simp at h⟩
 have q1:∀M,an (af eM) 27 [.slice .sh [],.int .i64 c] M=some (.tuple [.int .i64 (0:Nat),.bool false],M):=fun M=>TG [] c 0 hb (by simp) M
 have q2:=fun M=>YY c s 0 (by omega) (by omega) M
 rw [he] at q2
 unfold xu at q2
 rw [if_pos rfl] at q2
 have h01:((0:Int)<1)=True:=by simp
 have hg:∀x:ae,[x][0]?=some x:=fun _=>rfl
 have hsq:(s==0)=false:=by simpa using hs
 have q3:=fun M=>k19 f (jV o c) hF hO M
 generalize jB f (jV o c)=r at q3 ⊢
 simp only [bB,cz,jV,ba] at q3
 have p1:∀M,af eM 30 [.slice .sh []] M=some (.slice .c0 [],M):=fun M=>Qh (sd bK (f:=30) (sz:=9) (bytes:=104) (l:=[]) rfl rfl M)
 have p2:=fun M=>Qh (tE (f:=31) (sz:=9) (bytes:=104) rfl (b:=0) rfl (.agg [.int .i64 c,.int .i64 0,.int .i64 0,.int .i64 0,.int .i64 0,.int .i64 0,.int .i64 0,.slice .sh [],.slice .sh []]) rfl M)
 simp only [Int.natCast_zero] at p2
 simp only [A9,YL,bB,cz,q1,q2,q3,p1,p2,Qd,hsq,h01,hg,Nat.sub_zero,bK,bU,ba,List.cons_append,EW,simprocAttr]
 rfl
end
def nR (l:List bq) (c:Int):Nat:=iW (fun x=>decide (eF x.aj c<0)) l
def nF (l:List bq) (c:Int):Option bq:=match l[nR l c]? with
 |some p=>if (eF p.aj c==0)=true then some p else none
 |none=>none
def cd (f:aa) (l:List bq) (c s:Int) (o:dL):aa×List bq×oV :=
 match nF l c with
 |some p=>if gU c s p.seq≠0 then (f,l,kW (gU c s p.seq)) else if s=p.seq then (f,l,p.nj)
  else ((jB f (jV o c)).1,l.set (nR l c) ⟨c,s,(jB f (jV o c)).2⟩,(jB f (jV o c)).2)
 |none=>if gU c s 0≠0 then (f,l,kW (gU c s 0))
  else ((jB f (jV o c)).1,l.take (nR l c)++⟨c,s,(jB f (jV o c)).2⟩::l.drop (nR l c),(jB f (jV o c)).2)
def c12 (f:aa) (l:List bq) (c s:Int) (o:dL) (hF:nZ f) (hO:qj (jV o c)) (hb:vD (fun x=>decide (eF x.aj c<0)) l (nR l c)) (hn:l.length<=90000) (hq:∀p,p∈l -> -1000000000000000<=p.seq/\p.seq<=1000000000000000) :
  af eM 12 [.agg (bB f),.slice .sh (l.map bK),.int .i64 c,.int .i64 s,.agg (cz o)] []=some (.tuple [.agg (bB (cd f l c s o).1),.slice .sh ((cd f l c s o).2.1.map bK),.agg (ba (cd f l c s o).2.2)],[]):=by
 have hz:gU c s 0=0->s≠0:=by
  intro h h0
  unfold gU at h
  subst h0
  split at h
  ·cases h
  ·rw [if_pos (by omega)] at h; cases h
 have new:gb (fun x=>eF x.aj c==0) l (nR l c)=false->nF l c=none->af eM 12 [.agg (bB f),.slice .sh (l.map bK),.int .i64 c,.int .i64 s,.agg (cz o)] []=some (.tuple [.agg (bB (cd f l c s o).1),.slice .sh ((cd f l c s o).2.1.map bK),.agg (ba (cd f l c s o).2.2)],[]):=by
  intro hf hh
  unfold cd
  rw [hh]
  by_cases hm:gU c s 0=0
  ·simp only [hm,ne_eq,not_true_eq_false,if_false]
   by_cases h0:l=[]
   ·subst h0
    exact afZ f c s o hF hO hm (hz hm)
   ·exact af0 f l c s o (nR l c) hF hO hb hn hf hm (hz hm) h0
  ·simp only [ne_eq,hm,not_false_eq_true,if_true]
   exact af1 f l c s o (nR l c) hb (by omega) hf _ rfl hm
 cases hl:l[nR l c]? with
 |none=>exact new (by unfold gb; rw [hl]) (by unfold nF; rw [hl])
 |some p =>
  cases hc:eF p.aj c==0 with
  |false=>exact new (by unfold gb; rw [hl]; exact hc) (by unfold nF; rw [hl]; simp [hc])
  |true =>
   have hh:nF l c=some p:=by unfold nF; rw [hl]; simp [hc]
   have hf:gb (fun x=>eF x.aj c==0) l (nR l c)=true:=by unfold gb; rw [hl]; exact hc
   obtain ⟨h1,h2⟩:=hq p (List.mem_of_getElem? hl)
   unfold cd
   rw [hh]
   by_cases hm:gU c s p.seq=0
   ·simp only [hm,ne_eq,not_true_eq_false,if_false]
    by_cases hs:s=p.seq
    ·rw [if_pos hs]
     exact af2 f l c s o (nR l c) p hb (by omega) hl hf h1 h2 hm hs
    ·rw [if_neg hs]
     exact afY f l c s o (nR l c) p hF hO hb (by omega) hl hf h1 h2 hm hs
   ·simp only [ne_eq,hm,not_false_eq_true,if_true]
    exact aav f l c s o (nR l c) p hb (by omega) hl hf h1 h2 _ rfl hm
def ky (l:List bq):Prop:=l.Pairwise fun a b=>a.aj<b.aj
def aca {l:List bq} (h:ky l) (c:Int):vD (fun x=>decide (eF x.aj c<0)) l (nR l c):=by
 refine wG (h.imp ?_)
 intro a b hab hb
 simp only [decide_eq_true_eq,ll] at hb ⊢
 omega
end Go.Proofs.YtdbadpnkhaepnaaGreatDoor
