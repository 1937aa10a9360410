import Derived.Test.YteoamaffclmdbaaGreatDoorProg
import Derived.WalkKit
import Derived.LaidEql
import Derived.Stop.Asserts
import Derived.RowKitTokens
import Derived.KernelRfl
import Derived.Defers
import Derived.Recover
import Derived.Test.YteoamaffclmdbaaGreatDoorHcaD
set_option linter.unusedSimpArgs false
set_option linter.unusedVariables false
set_option linter.unusedSectionVars false
set_option linter.defProp false
open Go.Proofs.Tryz
namespace Go.Proofs.YteoamaffclmdbaaGreatDoor
section
open Go Go.Abs
section
attribute [local irreducible] eX fM lu gK dX kr aq aU cr bJ
def LG(l:List fD)(c h:Int):Int×Int:=match l.find? (sQ c h) with
 |some x=>(x.ar,0)
 |none=>(0,80)
def arf(l:List fD)(c h:Int)(hn:l.length<=100000):aq bW 224 [fI l,aF c,aF h] []=some (.tuple [aF (LG l c h).1,aF (LG l c h).2],[]):=by
 refine aB ?_;have hk:=adJ l c h hn;simp only[ada,ael,hk,EW,seval];unfold LG;rcases x6 (sQ c h) l 0 with ⟨h1,h2⟩|⟨m,x,h1,h2,h3,_⟩
 ·simp only[ael,h1,h2,EW,seval]
 ·have cG:(((0+m:Nat):Int)<0)=False:=dy;simp only[ael,h1,h2,h3,cG,jb,EW,seval]
def asV l c h hn:=cP (arf l c h hn)
def pQ(l:List fD)(ar:Int):Bool:=l.any fun x=>x.ar==ar
def ara(l:List fD)(ar:Int)(hn:l.length<=100000):aq bW 219 [fI l,aF ar] []=some (.bool (pQ l ar),[]):=by
 refine aB ?_;have hk:aU (aq bW) 185 [fI l,.func 262 [ct 0]] [cu [aF ar]]=some (.bool (pQ l ar),[cu [aF ar]]):=lk (ids:=[0]) rfl rfl (WM ar) rfl rfl (akP l ar hn) rfl rfl rfl rfl rfl;simp only[ac6,aoT,hk,EW,seval]
def mP(t:Tree):List Int:=(t.ae.filter gQ).map Node.ar
def vG(t:Tree)(l:List fD)(c h ar:Int):List fD×Int :=
 if !zY c h then (l,1)
 else if !(find t.ae ar).isSome||gQ (bl t.ae ar) then (l,70)
 else if (bl t.ae ar).kind==2 then (l,72)
 else if pg (fun x=>ig x c h==0) l (ml (fun x=>decide (ig x c h<0)) l)=true then (l,71)
 else if decide (64<=(l.length:Int)) then (l,76)
 else (l.take (ml (fun x=>decide (ig x c h<0)) l)++⟨c,h,ar⟩::l.drop (ml (fun x=>decide (ig x c h<0)) l),0)
def xc(a b:fD):Prop:=a.bF<b.bF\/(a.bF=b.bF/\a.handle<b.handle)
abbrev uA(l:List fD):Prop:=l.Pairwise xc
def sa(x:fD)(c h:Int):(ig x c h<0)↔(x.bF<c\/(x.bF=c/\x.handle<h)):=by
 unfold ig orI qO
 by_cases h1:x.bF<c
 ·simp[h1]
 ·by_cases h2:c<x.bF
  ·simp[h1,h2]; omega
  ·have:x.bF=c:=aH
   by_cases h3:x.handle<h
   ·simp[h3,this]
   ·by_cases h4:h<x.handle
    ·simp[h3,h4,this]
    ·simp[h3,h4,this]
def DS(x:fD)(c h:Int):(ig x c h=0)↔(x.bF=c/\x.handle=h):=by
 unfold ig orI qO
 by_cases h1:x.bF<c
 ·simp[h1]; omega
 ·by_cases h2:c<x.bF
  ·simp[h1,h2]; omega
  ·have:x.bF=c:=aH
   by_cases h3:x.handle<h
   ·simp[h3,this]; omega
   ·by_cases h4:h<x.handle
    ·simp[h3,h4,this]; omega
    ·simp[h3,h4,this]; omega
def D6{l:List fD}(h:uA l)(c g:Int):XO (fun x=>decide (ig x c g<0)) l (ml (fun x=>decide (ig x c g<0)) l):=by
 refine Hr (h.imp ?_);intro a b hab hb;simp only[bh,sa] at hb ⊢;unfold xc at hab;omega
def asS(l:List fD)(c g:Int)(hl:uA l)(hn:l.length<=100000)(M:aC):aU (aq bW) 211 [fI l,.agg [aF c,aF g],.qX 212 [.agg [aF c,aF g]]] M =
  some (.tuple [aF (ml (fun x=>decide (ig x c g<0)) l),.bool (pg (fun x=>ig x c g==0) l (ml (fun x=>decide (ig x c g<0)) l))],M) :=
 cO (aq6 l c g _ (D6 hl c g) hn) M
def aqq(t:Tree)(l:List fD)(c h ar:Int)(ht:Small t)(hr:rS t)(hl:uA l)(hn:l.length<=64):aq bW 156 [bq t,fI l,aF c,aF h,aF ar] []=some (.tuple [fI (vG t l c h ar).1,aF (vG t l c h ar).2],[]):=by
 refine aB ?_;have q1:=Fc t ar ht hr;have q2:=asS l c h hl aH;have hb:=(D6 hl c h).le;unfold vG;generalize ml (fun x=>decide (ig x c h<0)) l=b at q2 hb ⊢
 generalize pg (fun x=>ig x c h==0) l b=e at q2 ⊢
 simp only[Sd,Og,bq,aM,asR,q1,q2,EW,seval];refine bB (fun h1=>?_) (fun h1=>?_)
 ·simp only[Og,h1,EW,seval]
 ·have q3:=fun M=>afJ (bl t.ae ar) M
  simp only[aL] at q3
  by_cases h0:l=[]
  ·have hb0:b=0:=by subst h0; simpa using hb
   have p1:=fun M=>DH ib (f:=215) (sz:=3) (bytes:=24) rfl h0 M
   have p2:=fun M=>FN (f:=214) (sz:=3) (bytes:=24) rfl hb0 (.agg [aF c,aF h,aF ar]) rfl M
   simp only[Og,h1,q1,q2,q3,aL,EW,seval]
   repeat' ((first|apply bB|apply bU|apply dI)<;>intro hb<;>simp only[hb,EW,Og,q3,p1,p2,aL,seval])
   all_goals clear q1 q2 q3 p1 p2
   all_goals first|(simp_all only[qv,↓reduceIte,reduceCtorEq,av]; done)|(simp_all only[qv,↓reduceIte,reduceCtorEq,av]; rfl)
  ·have hb0:=hb;have p1:=fun M=>CR ib (f:=215) (sz:=3) (bytes:=24) rfl (fun _=>rfl) aH h0 aH M
   have p2:=fun M=>I9 ib (f:=214) (sz:=3) (bytes:=24) (v:=0) (id:=3) rfl aH hb aH (.agg [aF c,aF h,aF ar]) rfl M
   simp only[Og,h1,q1,q2,q3,aL,EW,seval]
   repeat' ((first|apply bB|apply bU|apply dI)<;>intro hb<;>simp only[hb,EW,Og,q3,p1,p2,aL,seval])
   all_goals clear q1 q2 q3 p1 p2
   all_goals first|(simp_all only[qv,↓reduceIte,reduceCtorEq,av]; done)|(simp_all only[qv,↓reduceIte,reduceCtorEq,av]; exact congrArg (fun z=>some (ag.tuple [ag.slice .sh z,aF 0],([]:aC))) (Nk ib hb0 ⟨c,h,ar⟩))
def asy(t:Tree)(l:List fD)(c h ar:Int)(ht:Small t)(hr:rS t)(hl:uA l)(hn:l.length<=64)(M:aC):aU (aq bW) 156 [.agg [ba t.ae,aF t.next,aF t.ak],fI l,aF c,aF h,aF ar] M=some (.tuple [fI (vG t l c h ar).1,aF (vG t l c h ar).2],M) :=
 cO (aqq t l c h ar ht hr hl hn) M
def asU l ar hn:=cP (ara l ar hn)
def nz(t:Tree)(l:List fD)(c h:Int):Tree×List fD×Int:=match l.find? (sQ c h) with
 |none=>(t,l,80)
 |some x=>(if (find t.ae x.ar).isSome&&gQ (bl t.ae x.ar) && !pQ (l.eraseP (sQ c h)) x.ar then (kJ t x.ar).1 else t,l.eraseP (sQ c h),0)
def aqr(t:Tree)(l:List fD)(c h:Int)(ht:Small t)(hr:rS t)(hn:l.length<=64):aq bW 157 [bq t,fI l,aF c,aF h] []=some (.tuple [bq (nz t l c h).1,fI (nz t l c h).2.1,aF (nz t l c h).2.2],[]):=by
 refine aB ?_;have hk:=adJ l c h aH;unfold nz;rcases x6 (sQ c h) l 0 with ⟨h1,h2⟩|⟨m,x,h1,h2,h3,h4⟩
 ·simp only[M1,aec,hk,h1,h2,bq,aM,EW,seval]
 ·have cG:(((0+m:Nat):Int)<0)=False:=dy;have hm:m<l.length:=(aj.1 h2).1;have hne:l≠[]:=by rintro rfl; simp at hm
  have p1:=fun M=>CR ib (f:=215) (sz:=3) (bytes:=24) rfl (fun _=>rfl) aH hne aH M
  have p2:=fun M=>FM ib (f:=218) (sz:=3) (v:=0) (id:=2) rfl hm aH M
  have hw:IntKind.i64.wrap ((m:Int)+1)=((m+1:Nat):Int):=by rw[gv aH aH]; rfl
  have q1:=Fc t x.ar ht hr;have q2:=amx t x.ar ht hr;have q3:=fun M=>afJ (bl t.ae x.ar) M
  have q4:=asU (l.eraseP (sQ c h)) x.ar (by have:=List.length_eraseP_le (p:=sQ c h) (l:=l); omega)
  simp only[h3];generalize kJ t x.ar=fr at q2 ⊢;rw[h4] at p2;simp only[aL,aM] at q1 q2 q3;simp only[M1,aec,hk,h1,h2,cG,jb,p1,p2,hw,q1,q3,aL,bq,aM,FZ,qz,EW,seval]
  repeat' ((first|apply bB|apply bU|apply dI)<;>intro hb<;>simp only[hb,EW,aec,hk,h1,h2,cG,p1,p2,hw,q1,q2,q3,q4,aL,FZ,qz,seval])
  all_goals clear q1 q2 q3 q4 p1 p2 hk
  all_goals first|rfl|(simp_all only[qv,↓reduceIte,reduceCtorEq,av]; done)|(simp_all only[qv,↓reduceIte,reduceCtorEq,av]; rfl)|skip
def amo(t:Tree)(l:List fD)(c h:Int)(ht:Small t)(hr:rS t)(hn:l.length<=64)(M:aC):aU (aq bW) 157 [.agg [ba t.ae,aF t.next,aF t.ak],fI l,aF c,aF h] M=some (.tuple [.agg (aM (nz t l c h).1),fI (nz t l c h).2.1,aF (nz t l c h).2.2],M) :=
 cO (aqr t l c h ht hr hn) M
def dS.sz{t:Tree}{dD:Int->Nat}{x:Int}(h:dS t dD x):Sz 200 t where
 ae:=h.ae
 bc:=fun n hn=>by have:=(h.yl _ _ ((ic h.lK.mo).2 ⟨hn,rfl⟩)).2; omega
 data:=fun n hn=>by
  have hi:=(ic h.lK.mo).2 ⟨hn,rfl⟩;rcases h.kind _ _ hi with h1|h1
  ·have:=(h.file _ _ hi h1).2.2; omega
  ·rw[h.dir _ _ hi h1]; simp
def Sz.HH{b:Nat}{t:Tree}(h:Sz b t)(hb:b<=100000:=by omega):Small t:=h.small hb
def Rt(t:Tree):Prop:=∃dD,dS t dD 0
def Rt.lK{t:Tree}(h:Rt t):rS t:=let ⟨_,g⟩:=h; g.lK
def Rt.sz{t:Tree}(h:Rt t):Sz 200 t:=let ⟨_,g⟩:=h; g.sz
def Rt.small{t:Tree}(h:Rt t):Small t:=h.sz.small aH
def Rt.free{t:Tree}(h:Rt t)(ar:Int):Rt (kJ t ar).1:=let ⟨_,g⟩:=h; ⟨_,FJ g ar⟩
def Rt.close{t:Tree}(h:Rt t)(l:List fD)(c g:Int):Rt (nz t l c g).1:=by
 unfold nz;split
 ·exact h
 ·split
  ·exact h.free _
  ·exact h
def yT(t:Tree)(l:List fD)(c g:Int):(nz t l c g).2.1.length<=l.length:=by
 unfold nz;split
 ·exact au _
 ·exact List.length_eraseP_le
def b0T(n:Tree)(B:Nat)(M:aC):List.map (ag.jW B M) (aM n)=aM n:=rfl
def aao{t:Tree}(ht:t.ae.length<=100000){k:List K}{R:List Int->Option (ag×aC)}
  (hx:∀(out:List Int) e,kr (aq bW) [.tmp 2] 0 k ⟨.exit 0,(3,.slice (.own 1) (out.map mU))::e,[cu (aM t),.tick 1 out.length]⟩=R out) :
  ∀(l pre:List Node)(out:List Int),t.ae=pre++l->out.length<=pre.length->eX (aq bW) [.tmp 2] 0 k (.loop [3,7,8,9] ZX) [(3,.slice (.own 1) (out.map mU)),(7,ba t.ae),(8,aF t.ae.length),(9,aF pre.length)] [cu (aM t),.tick 1 out.length]=R (out++(l.filter gQ).map Node.ar):=by
 intro l;induction l with
 |nil =>
  intro pre out h ho;rw[bG];simp only[Oj,jL h,kM,EW,seval];exact hx _ _
 |cons n rest ih =>
  intro pre out h ho;rw[bG];have dJ:pre.length+1<=100000:=by rw[h] at ht; simp at ht; omega
  have hw:=zp pre n;have hi1:=ih (pre++[n]) out (by rw[h]; simp) gh
  have hi2:=ih (pre++[n]) (out++[n.ar]) (by rw[h]; simp) gh
  simp only[aA,aw,az,aW,aE,aQ] at hi1 hi2;have r1:cp (out.length+1) 8=True:=qH;have q3:=fun M=>afJ n M
  simp only[aL] at q3;simp only[Oj,iK h,gP h,aL,aM,q3,EW,seval] at hi1 hi2 ⊢;refine bB (fun hb=>?_) (fun hb=>?_)
  ·simp only[Oj,hb,r1,uz,hw,EW,seval];simpa[hb] using hi2
  ·simp only[Oj,hb,hw,EW,seval];simpa[hb] using hi1
def aqP(t:Tree)(ht:t.ae.length<=100000):aq bW 184 [bq t] []=some (tX (mP t),[]):=by
 refine aB ?_;have hl:=aao ht (k:=[.block 0,.seq ahH]) (R:=fun out=>some (tX out,[])) (fun out e=>by simp only[Oj,EW,seval]) t.ae [] [] rfl (au _)
 simp only[aM,aQ,az] at hl;simp only[Sj,Oj,bq,aM,EW,seval];exact hl
def asJ(t:Tree)(ht:t.ae.length<=100000)(M:aC):aU (aq bW) 184 [.agg [ba t.ae,aF t.next,aF t.ak]] M=some (tX (mP t),M):=cO (aqP t ht) M
def sP(c:Int):List fD->Tree->List fD->Tree×List fD
 | [],t,l=>(t,l)
 |x::r,t,l=>if x.bF==c then sP c r (nz t l c x.handle).1 (nz t l c x.handle).2.1 else sP c r t l
def DM(t:Tree)(l:List fD)(c:Int):Tree×List fD:=sP c l t l
def aal{h0:List fD}(c:Int)(h64:h0.length<=64){k:List K}{R:Tree->List fD->Option (ag×aC)}
  (hx:∀(t:Tree) (l:List fD) e,kr (aq bW) [.dE 6 3,.tmp 7] 0 k ⟨.exit 0,(1,fI l)::(2,aF c)::(3,ct 0)::(6,ct 1)::e,[cu (aM t),cu [.slice .c0 [],aF 0,aF 0]]⟩=R t l) :
  ∀(r pre:List fD)(t:Tree)(l:List fD),h0=pre++r->Rt t->l.length<=64->eX (aq bW) [.dE 6 3,.tmp 7] 0 k (.loop [1,2,3,6,10,11,12] ZN) [(1,fI l),(2,aF c),(3,ct 0),(6,ct 1),(10,fI h0),(11,aF h0.length),(12,aF pre.length)] [cu (aM t),cu [.slice .c0 [],aF 0,aF 0]]=R (sP c r t l).1 (sP c r t l).2:=by
 intro r;induction r with
 |nil =>
  intro pre t l h ht hl;rw[bG];simp only[Oi,jL h,sP,EW,seval];exact hx _ _ _
 |cons x rest ih =>
  intro pre t l h ht hl;rw[bG];have dJ:pre.length+1<=100000:=by rw[h] at h64; simp at h64; omega
  have hw:=zp pre x;have q1:=amo t l c x.handle ht.small ht.lK hl;have hi1:=ih (pre++[x]) t l (by rw[h]; simp) ht hl
  have hi2:=ih (pre++[x]) _ _ (by rw[h]; simp) (ht.close l c x.handle) (aY (yT t l c x.handle) hl)
  rw[sP];generalize nz t l c x.handle=cl at q1 hi2 ⊢;simp only[aA,aw,az] at hi1 hi2;simp only[Oi,iK h,gP h,jb,aM,EW,seval] at q1 hi1 hi2 ⊢;refine bB (fun hb=>?_) (fun hb=>?_)
  ·simp only[Oi,hb,q1,hw,EW,seval];exact hi2
  ·simp only[Oi,hb,hw,af,EW,seval];exact hi1
def aqA(t:Tree)(l:List fD)(c:Int)(ht:Rt t)(hl:l.length<=64):aq bW 169 [bq t,fI l,aF c] []=some (.tuple [bq (DM t l c).1,fI (DM t l c).2],[]):=by
 refine aB ?_;have hq:=aal (h0:=l) c hl (k:=[.block 0,.seq ahF]) (R:=fun t l=>some (.tuple [bq t,fI l],[])) (fun t l e=>by simp only[Oi,bq,aM,EW,seval]) l [] t l rfl ht hl
 simp only[aM,az] at hq;simp only[acD,Oi,bq,aM,EW,seval];exact hq
def asE(t:Tree)(l:List fD)(c:Int)(ht:Rt t)(hl:l.length<=64)(M:aC):aU (aq bW) 169 [.agg [ba t.ae,aF t.next,aF t.ak],fI l,aF c] M=some (.tuple [.agg (aM (DM t l c).1),fI (DM t l c).2],M) :=
 cO (aqA t l c ht hl) M
end
abbrev AM(α:Type):=List (Int×α)
section
variable {α:Type}
def B1(l:AM α):List ag:=l.map fun p => .int .i64 p.1
def pb(enc:α->ag)(l:AM α):List ag:=l.map fun p=>enc p.2
def eY:AM α->Int->Option α
 | [],_=>none
 |(k',v)::l,k=>if k=k' then some v else eY l k
def kR:AM α->Int->α->AM α
 | [],k,v=>[(k,v)]
 |(k',v')::l,k,v=>if k=k' then (k,v)::l else (k',v')::kR l k v
theorem jz:∀(l:AM α)(k:Int)(v:α)(j:Int),eY (kR l k v) j=if j=k then some v else eY l j
 | [],k,v,j=>by simp only[kR,eY]
 |(k',v')::l,k,v,j=>by
  simp only[kR];split
  ·rename_i h;subst h;simp only[eY];split<;>rfl
  ·rename_i h;simp only[eY];split
   ·rename_i h2;rw[aR (fun hh=>h (hh.symm.trans h2))]
   ·exact jz l k v j
def xt:∀(l:AM α)(k:Int)(v:α),eY l k=some v->(k,v)∈l
 |(k',v')::l,k,v,h=>by
  simp only[eY] at h;split at h
  ·rename_i hk;injection h with h
   subst h; subst hk;exact bD
  ·exact bt _ (xt l k v h)
def Ed:∀(l:AM α)(k:Int)(v:α),(kR l k v).length<=l.length+1
 | [],_,_=>by simp[kR]
 |(k',v')::l,k,v=>by
  simp only[kR];split
  ·simp
  ·have:=Ed l k v;simp; omega
def o5(enc:α->ag):∀(l:AM α)(k:Int),xk .i (.int .i64 k) (B1 l) (pb enc l)=some ((eY l k).map enc)
 | [],k=>rfl
 |(k',v)::l,k=>by
  show bJ (kB .i (.int .i64 k) (.int .i64 k')) (fun b=>Bq b (some (some (enc v))) (xk .i (.int .i64 k) (B1 l) (pb enc l)))=_
  rw[o5 enc l k];simp only[kB,↓reduceIte,bN,eY]
  by_cases h:k=k'
  ·rw[aZ h,show(k==k')=true by simpa using h,vE]; rfl
  ·rw[aR h,show(k==k')=false by simpa using h,p8]
end
section
variable {α:Type}
def sE(enc:α->ag):∀(l:AM α)(k:Int)(v:α),xm .i (.int .i64 k) (enc v) (B1 l) (pb enc l)=some (B1 (kR l k v),pb enc (kR l k v))
 | [],k,v=>by
  show bJ (kB .i (.int .i64 k) (.int .i64 k)) (fun _=>some ([ag.int .i64 k],[enc v]))=_
  simp only[kB,↓reduceIte,bN];rfl
 |(k',v')::l,k,v=>by
  show bJ (kB .i (.int .i64 k) (.int .i64 k')) (fun b=>Bq b (some (ag.int .i64 k::B1 l,enc v::pb enc l)) (bJ (xm .i (.int .i64 k) (enc v) (B1 l) (pb enc l)) fun x=>some (ag.int .i64 k'::x.1,enc v'::x.2)))=_
  rw[sE enc l k v];simp only[kB,↓reduceIte,bN,kR]
  by_cases h:k=k'
  ·rw[aZ h,show(k==k')=true by simpa using h,vE]; rfl
  ·rw[aR h,show(k==k')=false by simpa using h,p8]; rfl
def YA(enc:α->ag)(B:Nat)(M:aC)(h:∀a,(enc a).jX B M=enc a)(l:AM α):List.map (ag.jX B M) (pb enc l)=pb enc l:=by
 unfold pb;rw[gD];exact cT (fun p _=>h p.2)
def SJ(enc:α->ag)(h:∀a,(enc a).ids=[])(l:AM α):(pb enc l).flatMap ag.ids=[]:=by
 unfold pb;rw[List.flatMap_map];exact mD.2 fun p _=>h p.2
def Lu(enc:α->ag)(h:∀a,(enc a).flat=true)(l:AM α):(pb enc l).all ag.flat=true:=bM.2 fun x hx=>by
 obtain⟨p,_,rfl⟩:=eJ.1 hx;exact h p.2
def WZ(enc:α->ag)(ρ:Nat->Nat)(h:∀a,(enc a).pj ρ=enc a)(l:AM α):(pb enc l).map (ag.pj ρ)=pb enc l:=by
 unfold pb;rw[gD];exact cT (fun p _=>h p.2)
def Nv(o:Option Bool):ph (.bool false) false (o.map ag.bool) = .bool (o.getD false):=by cases o<;>rfl
end
def mM(ae:List Node):Nat->Int->Int×AM Bool->Int×AM Bool
 |0,_,s=>s
 |f+1,ar,s=>(bl ae ar).bc.foldl (fun s e=>if !((eY s.2 e.ar).getD false) then mM ae f e.ar (s.1,kR s.2 e.ar true) else s) (nw (s.1+(bl ae ar).data.length),s.2)
def vN:ag := .func 247 [.ptr 0 0,.ptr 1 0,.ptr 2 0,.ptr 3 0]
def jH(t:Tree)(s:Int×AM Bool):aC:=[.cells (aM t),.cells [.int .i64 s.1],.cells [.iw 4],.cells [vN],.map (B1 s.2) (pb ag.bool s.2)]
def flB(l:AM Bool):(pb ag.bool l).all ag.flat=true:=Lu _ (fun _=>rfl) l
def rnB(ρ:Nat->Nat)(l:AM Bool):(pb ag.bool l).map (ag.pj ρ)=pb ag.bool l:=WZ _ _ (fun _=>rfl) l
def idB(l:AM Bool):(pb ag.bool l).flatMap ag.ids=[]:=SJ _ (fun _=>rfl) l
def bkB(B:Nat)(M:aC)(l:AM Bool):List.map (ag.jX B M) (pb ag.bool l)=pb ag.bool l:=YA _ _ _ (fun _=>rfl) l
def JV(t:Tree)(s:Int×AM Bool):(jH t s).map (cI.pj (iv [0,1,2,3,4]))=jH t s/\(jH t s).map (cI.pj (wv [0,1,2,3,4]))=jH t s:=by
 constructor
 ·simp only[jH,aE,aQ,cI.pj,rnB]; rfl
 ·simp only[jH,aE,aQ,cI.pj,rnB]; rfl
def anM(t:Tree)(s:Int×AM Bool)(L:aC):j4 (jH t s++L) (iv [0,1,2,3,4]) [0,1,2,3,4]=some (jH t s):=by
 have h:=(JV t s).1;simp only[jH,aE,aQ] at h;injection h with h0 h; injection h with h1 h; injection h with h2 h; injection h with h3 h; injection h with h4 h
 simp only[jH,aI,aP,j4,nth,h0,h1,h2,h3,h4];simp only[cI.flat,flB,aJ];rfl
def ase(t:Tree)(s:Int×AM Bool)(L:aC):qq (jH t s++L) [0,1,2,3]=[4,0,1,2,3]/\qq (jH t s++L) [0,1,2,3,4]=[4,0,1,2,3]:=by
 refine⟨rfl,?_⟩
 show[4,0,1,2,3]++((pb ag.bool s.2).flatMap ag.ids++[])=_
 rw[idB]; rfl
def WW(t:Tree)(s:Int×AM Bool)(L:aC):reach (jH t s++L) [0,1,2,3]=[0,1,2,3,4]/\kC (jH t s++L) [0,1,2,3,4]=[0,1,2,3,4]:=by
 obtain⟨h1,h2⟩:=ase t s L;have e0:kb [] [0,1,2,3]=[0,1,2,3]:=rfl;have e1:kb [0,1,2,3] [4,0,1,2,3]=[0,1,2,3,4]:=rfl;have e2:kb [0,1,2,3,4] [4,0,1,2,3]=[0,1,2,3,4]:=rfl;simp only[reach,kC,e0,h1,e1,h2,e2,jU]
def ah6(t:Tree)(s s':Int×AM Bool)(L:aC):mb [0,1,2,3,4] (jH t s++L) [0,1,2,3,4] (jH t s')=jH t s'++L:=by
 have h:=(JV t s').2;simp only[jH,aE,aQ] at h;injection h with h0 h; injection h with h1 h; injection h with h2 h; injection h with h3 h; injection h with h4 h
 simp only[jH,aI,aP,mb,h0,h1,h2,h3,h4,iP]
def ab3(t:Tree)(s:Int×AM Bool):(jH t s).all cI.flat=true:=by
 simp only[jH,kL,cI.flat,flB]; rfl
def ak3{t:Tree}{ar:Int}{s s':Int×AM Bool}{L:aC}(h:aq bW 247 [aF ar,ct 0,ct 1,ct 2,ct 3] (jH t s)=some (.tuple [],jH t s')) :
  aU (aq bW) 247 [aF ar,ct 0,ct 1,ct 2,ct 3] (jH t s++L)=some (.tuple [],jH t s'++L) :=
 lk (ids:=[0,1,2,3,4]) rfl (WW t s L).1 (anM t s L) (WW t s L).2 rfl h rfl rfl (ab3 t s') rfl (ah6 t s s' L)
def yE(t:Tree)(s:Int×AM Bool)(n:Node):aC:=[.cells [ba t.ae,.int .i64 t.next,.int .i64 t.ak],.map (B1 s.2) (pb ag.bool s.2),.cells [.iw 1],.cells [.int .i64 s.1],.cells [.func 247 [.ptr 0 0,.ptr 3 0,.ptr 2 0,.ptr 4 0]],.cells (aL n)]
def aeV{t:Tree}{ar:Int}{s':Int×AM Bool}(n:Node)(h:aq bW 247 [aF ar,ct 0,ct 1,ct 2,ct 3] (jH t (0,[]))=some (.tuple [],jH t s')) :
  aU (aq bW) 247 [aF ar,ct 0,ct 3,ct 2,ct 4] (yE t (0,[]) n)=some (.tuple [],yE t s' n):=by
 have i1:qq (yE t (0,[]) n) [0,3,2,4]=[1,0,3,2,4]:=rfl;have i2:qq (yE t (0,[]) n) [0,3,2,4,1]=[1,0,3,2,4]:=rfl;have e0:kb [] [0,3,2,4]=[0,3,2,4]:=rfl;have e1:kb [0,3,2,4] [1,0,3,2,4]=[0,3,2,4,1]:=rfl;have e2:kb [0,3,2,4,1] [1,0,3,2,4]=[0,3,2,4,1]:=rfl
 have hr:reach (yE t (0,[]) n) [0,3,2,4]=[0,3,2,4,1]/\kC (yE t (0,[]) n) [0,3,2,4,1]=[0,3,2,4,1]:=by
  simp only[reach,kC,e0,i1,e1,i2,e2,jU]
 have hp:j4 (yE t (0,[]) n) (iv [0,3,2,4,1]) [0,3,2,4,1]=some (jH t (0,[])):=by
  simp only[yE,j4,nth,cI.flat,flB,bN,aJ,cI.pj,rnB];rfl
 refine lk (ids:=[0,3,2,4,1]) rfl hr.1 hp hr.2 rfl h rfl rfl (ab3 t s') rfl ?_;simp only[jH,yE,mb,cI.pj,rnB,iP];rfl
section
attribute [local irreducible] eX fM lu gK dX kr aq aU cr bJ
def aau{t:Tree}{n:Node}{f:Nat}{k:List K}{R:Int×AM Bool->Option (ag×aC)}(hn:n.bc.length<=100000)
  (ih:∀e,e∈n.bc->∀s,aq bW 247 [aF e.ar,ct 0,ct 1,ct 2,ct 3] (jH t s)=some (.tuple [],jH t (mM t.ae f e.ar s)))
  (hx:∀s e,kr (aq bW) [] 5 k ⟨.exit 0,e,jH t s++[cu (aL n)]⟩=R s) :
  ∀(l pre:List gI)(s:Int×AM Bool),n.bc=pre++l->eX (aq bW) [] 5 k (.loop [3,4,22,23,24] Z5) [(3,ct 2),(4,ct 3),(22,ja n.bc),(23,aF n.bc.length),(24,aF pre.length)] (jH t s++[cu (aL n)]) =
   R (l.foldl (fun s e=>if !((eY s.2 e.ar).getD false) then mM t.ae f e.ar (s.1,kR s.2 e.ar true) else s) s):=by
 intro l;induction l with
 |nil =>
  intro pre s h;rw[bG];simp only[jH,Ol,jL h,nb,EW,seval] at hx ⊢;exact hx _ _
 |cons x rest ihl =>
  intro pre s h;rw[bG];have dJ:pre.length+1<=100000:=by rw[h] at hn; simp at hn; omega
  have hw:=zp pre x;rw[eK];have hi1:=fun s=>ihl (pre++[x]) s (by rw[h]; simp)
  have q:=ak3 (L:=[cu (aL n),cu (gd x)]) (ih x (by rw[h]; simp) (s.1,kR s.2 x.ar true))
  generalize mM t.ae f x.ar (s.1,kR s.2 x.ar true)=s' at q ⊢;simp only[jH,vN,aL,gd,aA,aw,az,aG,aI,aP] at hi1 q;simp only[jH,vN,Ol,iK h,gP h,aL,gd,o5,Nv,mapOf.eq_1,EW,seval];refine bB (fun hb=>?_) (fun hb=>?_)
  ·simp only[Ol,hb,hw,sE,q,b0T,bkB,↓reduceIte,EW,seval];exact hi1 _
  ·simp only[Ol,hb,hw,b0T,bkB,af,EW,seval];exact hi1 _
def ary{t:Tree}{dD:Int->Nat}(h:dS t dD 0):∀(f:Nat)(ar:Int)(s:Int×AM Bool),(∀n,find t.ae ar=some n->n.kind=2->13<f+dD ar)->0<f ->
  aq bW 247 [aF ar,ct 0,ct 1,ct 2,ct 3] (jH t s)=some (.tuple [],jH t (mM t.ae f ar s)):=by
 intro f;induction f with
 |zero=>intro ar s _ h0; omega
 |succ f ih =>
  intro ar s hd _;have q1:=Fc t ar h.sz.HH h.lK
  have hl:=aau (t:=t) (n:=bl t.ae ar) (f:=f) (k:=[.block 0]) (R:=fun s=>some (.tuple [],jH t s)) (by
    cases hi:find t.ae ar with
    |none=>simp[bl,hi,Node.zero]
    |some n=>have:=(h.yl _ _ hi).2; simp only[bl,hi,bA]; omega) ?_ (fun s e=>by simp only[jH,vN,Ol,aL,b0T,bkB,EW,seval]) (bl t.ae ar).bc [] (nw (s.1+(bl t.ae ar).data.length),s.2) rfl
  ·refine aB ?_;rw[mM];simp only[jH,vN,aL,aI,aP,az] at hl q1;simp only[adm,Ol,jH,vN,aM,aL,q1,EW,seval];exact hl
  ·intro e he s;cases hi:find t.ae ar with
   |none=>simp[bl,hi,Node.zero] at he
   |some n =>
    simp only[bl,hi,bA] at he
    have hk:n.kind=2:=by
     rcases h.kind _ _ hi with h1|h1
     ·rw[(h.file _ _ hi h1).1] at he; cases he
     ·exact h1
    have h1:=hd n hi hk;have h2:=(h.deep _ _ hi hk).1;obtain⟨_,_,e1,_,m,hm,hu⟩:=h.CF _ _ _ hi he;refine ih e.ar s (fun n' hn' hk'=>?_) aH
    rw[hm] at hn'; cases hn';have:=(h.qF _ _ hm hk' e1).1;rw[hu hk'] at this;omega
def lq(ae:List Node)(ar:Int):Int×Int :=
 if (find ae ar).isSome&&(bl ae ar).kind==2 then (((mM ae 14 ar (0,[])).2.length:Int),(mM ae 14 ar (0,[])).1) else (0,0)
def c193{t:Tree}(h:Rt t)(ar:Int):aq bW 193 [bq t,aF ar] []=some (.tuple [aF (lq t.ae ar).1,aF (lq t.ae ar).2],[]):=by
 obtain⟨dD,h⟩:=h;refine aB ?_;have q1:=Fc t ar h.sz.HH h.lK;have q2:=ary h 14 ar (0,[]) (fun n hn hk=>aH) aH
 unfold lq;generalize mM t.ae 14 ar (0,[])=s' at q2 ⊢;simp only[aL] at q1;simp only[acQ,QV,bq,aM,q1,aL,EW,seval];refine bU (fun hb=>?_) (fun hb=>?_)
 ·simp only[hb,QV,EW,seval];refine bB (fun hc=>?_) (fun hc=>?_)
  ·have q3:=aeV (bl t.ae ar) q2;simp only[yE,aL,B1,pb,aQ] at q3;simp only[hb,hc,q3,QV,mapOf.eq_1,EW,seval]
  ·simp only[hb,hc,QV,mapOf.eq_1,dV,af,EW,seval]
 ·simp only[hb,QV,mapOf.eq_1,dW,af,EW,seval]
def afF{t:Tree}(h:Rt t)(ar:Int)(M:aC):aU (aq bW) 193 [.agg [ba t.ae,aF t.next,aF t.ak],aF ar] M=some (.tuple [aF (lq t.ae ar).1,aF (lq t.ae ar).2],M) :=
 cO (c193 h ar) M
end
section
def ahA(l:List dN)(o:Int)(b:cI):j4 [cu [cK l],cu [aF o],b] (iv [0,1]) [0,1]=some [cu [cK l],cu [aF o]]:=rfl
def ahB(l:List dN)(o:Int)(b:cI):j4 [b,cu [cK l],cu [aF o]] (iv [1,2]) [1,2]=some [cu [cK l],cu [aF o]]:=rfl
attribute [local irreducible] eX fM lu gK dX kr aq aU cr bJ
abbrev pw(l:List dN):Prop:=l.Pairwise fun a b=>a.ar<b.ar
def wJ(l:List dN)(ar:Int):Nat:=ml (fun x=>decide (qO x.ar ar<0)) l
def F4(l:List dN)(ar:Int):Bool:=pg (fun x=>qO x.ar ar==0) l (wJ l ar)
def ya{l:List dN}(h:pw l)(ar:Int):XO (fun x=>decide (qO x.ar ar<0)) l (wJ l ar):=by
 refine Hr (h.imp ?_);intro a b hab hb;simp only[bh,xX] at hb ⊢;omega
def ari(l:List dN)(ar:Int)(h:pw l)(hn:l.length<=100000):aq bW 226 [cK l,aF ar] []=some (.tuple [aF (wJ l ar),.bool (F4 l ar)],[]):=by
 refine aB ?_;have q:=fun M=>cO (arM l ar _ (ya h ar) hn) M
 simp only[ade,aoW,q,F4,EW,seval]
def amI l ar h hn:=cP (ari l ar h hn)
def arS(l:List dN)(dir o:Int)(h:pw l)(hn:l.length<=100000):aq bW 285 [aF dir,ct 0,ct 1] [cu [cK l],cu [aF o]] =
  some (.bool ((if F4 l dir then dir else o)==0),[cu [cK l],cu [aF (if F4 l dir then dir else o)]]):=by
 refine aB ?_;have q:=amI l dir h hn;simp only[adB,aep,q,EW,seval];refine bB (fun hb=>?_) (fun hb=>?_)
 ·simp only[aep,hb,aJ,EW,seval]
 ·simp only[aep,hb,af,aD,EW,seval]
def sA(ae:List Node)(l:List dN):Nat->Int->Int
 |0,_=>0
 |f+1,dir=>if F4 l dir then dir else if dir != 1 then sA ae l f (bl ae dir).up else 0
def aax{t:Tree}{dD:Int->Nat}(ht:dS t dD 0){l:List dN}(hq:pw l)(hn:l.length<=100000){k:List K}{R:Int->Option (ag×aC)}
  (hx:∀o e,kr (aq bW) [] 2 k ⟨.exit 0,e,[cu [cK l],cu [aF o],cu (aM t)]⟩=R o) :
  ∀(f:Nat)(dir:Int)(n:Node),find t.ae dir=some n->n.kind=2->dD dir<f->eX (aq bW) [] 2 k (.loop [1,2,3] Z8) [(1,aF dir),(2,.func 285 [ct 0,ct 1]),(3,ct 2)] [cu [cK l],cu [aF 0],cu (aM t)] =
   R (sA t.ae l f dir):=by
 intro f;induction f with
 |zero=>intro dir n _ _ h; omega
 |succ f ih =>
  intro dir n hi hk hd;rw[bG,sA]
  have q0:aU (aq bW) 285 [aF dir,ct 0,ct 1] [cu [cK l],cu [aF 0],cu (aM t)] =
    some (.bool ((if F4 l dir then dir else 0)==0),[cu [cK l],cu [aF (if F4 l dir then dir else 0)],cu (aM t)]) :=
   lk (ids:=[0,1]) rfl rfl (ahA l 0 _) rfl rfl (arS l dir 0 hq hn) rfl rfl rfl rfl rfl
  have q1:=Fc t dir ht.sz.HH ht.lK;have hd1:=(ht.num _ _ hi).1;simp only[aL,aM] at q0 q1 hx;simp only[On,q0,aM,EW,seval];cases hb:F4 l dir
  ·simp only[hb,af,aD]
   by_cases h1:dir=1
   ·subst h1;simp only[On,av,af,aD,EW,seval];exact hx _ _
   ·have h1':(dir != 1)=true:=by simpa using h1
    obtain⟨g1,p,g2,g3⟩:=ht.qF _ _ hi hk h1;have hi':=ih n.up p g2 g3 aH;simp only[aM] at hi';simp only[bl,hi,bA] at q1 ⊢;simp only[On,h1',q1,aL,EW,seval];exact hi'
  ·simp only[hb,aJ];have h0:(dir==0)=false:=gh;simp only[h0,On,EW,seval];exact hx _ _
def arR{t:Tree}{dD:Int->Nat}(ht:dS t dD 0){l:List dN}(hq:pw l)(hn:l.length<=100000){dir:Int}{n:Node}(hi:find t.ae dir=some n)(hk:n.kind=2) :
  aq bW 284 [bq t,aF dir,.func 285 [ct 0,ct 1]] [cu [cK l],cu [aF 0]]=some (.tuple [],[cu [cK l],cu [aF (sA t.ae l 13 dir)]]):=by
 refine aB ?_;have hl:=aax ht hq hn (k:=[.block 0]) (R:=fun o=>some (.tuple [],[cu [cK l],cu [aF o]])) (fun o e=>by simp only[On,aM,EW,seval]) 13 dir n hi hk (by have:=(ht.deep _ _ hi hk).1; omega)
 simp only[aM] at hl;simp only[adA,On,bq,aM,EW,seval];exact hl
def mg(ae:List Node)(l:List dN)(dir:Int):Int:=sA ae l 13 dir
def arx{t:Tree}{dD:Int->Nat}(ht:dS t dD 0){l:List dN}(hq:pw l)(hn:l.length<=100000){dir:Int}{n:Node}(hi:find t.ae dir=some n)(hk:n.kind=2) :
  aq bW 246 [bq t,cK l,aF dir] []=some (aF (mg t.ae l dir),[]):=by
 refine aB ?_
 have q:aU (aq bW) 284 [.agg (aM t),aF dir,.func 285 [ct 1,ct 2]] [cu (aM t),cu [cK l],cu [aF 0]] =
   some (.tuple [],[cu (aM t),cu [cK l],cu [aF (sA t.ae l 13 dir)]]) :=
  lk (ids:=[1,2]) rfl rfl (ahB l 0 _) rfl rfl (arR ht hq hn hi hk) rfl rfl rfl rfl rfl
 simp only[aM] at q;simp only[adl,ao1,bq,aM,q,mg,EW,seval]
def asY{t:Tree}{dD:Int->Nat}(ht:dS t dD 0){l:List dN}(hq:pw l)(hn:l.length<=100000){dir:Int}{n:Node}(hi:find t.ae dir=some n)(hk:n.kind=2)(M:aC) :
  aU (aq bW) 246 [.agg [ba t.ae,aF t.next,aF t.ak],cK l,aF dir] M=some (aF (mg t.ae l dir),M):=cO (arx ht hq hn hi hk) M
def va(t:Tree)(l:List dN)(ar ae bytes:Int):List dN×Int :=
 if !(find t.ae ar).isSome then (l,70)
 else if (bl t.ae ar).kind != 2 then (l,73)
 else if decide (ae<0) then (if F4 l ar then l.eraseIdx (wJ l ar) else l,0)
 else if decide ((lq t.ae ar).1>ae)||decide ((lq t.ae ar).2>bytes) then (l,90)
 else if F4 l ar then (l.set (wJ l ar) ⟨ar,ae,bytes⟩,0)
 else if decide ((l.length:Int)>=16) then (l,76)
 else (l.take (wJ l ar)++⟨ar,ae,bytes⟩::l.drop (wJ l ar),0)
def aqv(t:Tree)(l:List dN)(ar ae bytes:Int)(ht:Rt t)(hq:pw l)(hn:l.length<=16):aq bW 162 [bq t,cK l,aF ar,aF ae,aF bytes] []=some (.tuple [cK (va t l ar ae bytes).1,aF (va t l ar ae bytes).2],[]):=by
 refine aB ?_;have q1:=Fc t ar ht.small ht.lK;have q2:=amI l ar hq aH;have q3:=afF ht ar;have hb:=(ya hq ar).le
 have cG:F4 l ar=true->wJ l ar<l.length:=by
  intro h;unfold F4 pg at h;split at h
  ·rename_i x hx; exact(aj.1 hx).1
  ·cases h
 unfold va;generalize lq t.ae ar=u at q3 ⊢;generalize wJ l ar=b at q2 hb cG ⊢;generalize F4 l ar=e at q2 cG ⊢;simp only[aL] at q1
 by_cases h0:l=[]
 ·have hb0:b=0:=by subst h0; simpa using hb
  have he:e=false:=by
   cases e
   ·rfl
   ·have:=cG rfl; subst h0; simp at this
  subst he;have p1:=fun M=>DH gx (f:=189) (sz:=3) (bytes:=24) rfl h0 M
  have p2:=fun M=>FN (f:=228) (sz:=3) (bytes:=24) rfl hb0 (.agg [aF ar,aF ae,aF bytes]) rfl M
  simp only[I1,Oh,bq,aM,q1,q2,q3,aL,EW,seval]
  repeat' ((first|apply bB|apply bU|apply dI)<;>intro hb<;>simp only[hb,EW,Oh,q1,q2,q3,p1,p2,aL,seval])
  all_goals clear q1 q2 q3 p1 p2
  all_goals first|rfl|(simp_all only[qv,↓reduceIte,reduceCtorEq,av]; done)|(simp_all only[qv,↓reduceIte,reduceCtorEq,av]; rfl)
 ·have hb0:=hb;have p1:=fun M=>CR gx (f:=189) (sz:=3) (bytes:=24) rfl (fun _=>rfl) aH h0 aH M
  have p2:=fun M=>I9 gx (f:=228) (sz:=3) (bytes:=24) (v:=0) (id:=3) rfl aH hb aH (.agg [aF ar,aF ae,aF bytes]) rfl M
  cases he:e
  ·subst he;simp only[I1,Oh,bq,aM,q1,q2,q3,aL,EW,seval]
   repeat' ((first|apply bB|apply bU|apply dI)<;>intro hb<;>simp only[hb,EW,Oh,q1,q2,q3,p1,p2,aL,seval])
   all_goals clear q1 q2 q3 p1 p2
   all_goals first|rfl|(simp_all only[qv,↓reduceIte,reduceCtorEq,av]; done)|(simp_all only[qv,↓reduceIte,reduceCtorEq,av]; rfl)|(simp_all only[qv,↓reduceIte,reduceCtorEq,av]; exact congrArg (fun z=>some (ag.tuple [ag.slice .sh z,aF 0],([]:aC))) (Nk gx hb0 ⟨ar,ae,bytes⟩))
  ·subst he;have p3:=fun M=>FM gx (f:=227) (sz:=3) (v:=0) (id:=2) rfl (cG rfl) aH M
   have hbl:=cG rfl;have hx:=ai hbl;generalize l[b]=x at hx;have h1:((b:Int)<((l.length-0:Nat):Int))=True:=gh
   have hs:iP (l.map gx) b (putCells (gx x) 0 [aF ar,aF ae,aF bytes])=(l.set b ⟨ar,ae,bytes⟩).map gx:=by
    rw[fi,gF]; rfl
   have ht2:List.take l.length ((l.set b ⟨ar,ae,bytes⟩).map gx)=(l.set b ⟨ar,ae,bytes⟩).map gx:=bC dy;have hw:IntKind.i64.wrap ((b:Int)+1)=((b+1:Nat):Int):=by have:=cG rfl; rw[gv aH aH]; rfl
   simp only[I1,Oh,bq,aM,q1,q2,q3,hw,aL,EW,seval]
   repeat' ((first|apply bB|apply bU|apply dI)<;>intro hb<;>simp only[hb,EW,Oh,q1,q2,q3,p1,p2,p3,hw,h1,hx,hs,ht2,aL,seval])
   all_goals clear q1 q2 q3 p1 p2 p3
   all_goals first|rfl|(simp_all only[qv,↓reduceIte,reduceCtorEq,av]; done)|(simp_all only[qv,↓reduceIte,reduceCtorEq,av]; rfl)
end
section
attribute [local irreducible] eX fM lu gK dX kr aq aU cr bJ
def wI{α:Type}(key:α->Int)(l:List α)(k:Int):Nat:=ml (fun x=>decide (qO (key x) k<0)) l
def XU{α:Type}(key:α->Int)(l:List α)(k:Int):Bool:=pg (fun x=>qO (key x) k==0) l (wI key l k)
def Nz{α:Type}{key:α->Int}{l:List α}(h:l.Pairwise fun a b=>key a<key b)(k:Int):XO (fun x=>decide (qO (key x) k<0)) l (wI key l k):=by
 refine Hr (h.imp ?_);intro a b hab hb;simp[xX] at hb ⊢;omega
theorem Rb{α:Type}{key:α->Int}{l:List α}(h:l.Pairwise fun a b=>key a<key b)(k:Int) :
  (XU key l k=true/\∃n,l[wI key l k]?=some n/\key n=k/\l.find? (fun x=>key x==k)=some n)\/(XU key l k=false/\l.find? (fun x=>key x==k)=none):=by
 obtain⟨l1,l2⟩:=Nz h k;simp only[bh,xX] at l2;cases hf:l.find? (fun x=>key x==k) with
 |some n =>
  left;have hm:=iz hf;have he:key n=k:=jK;obtain⟨i,hi⟩:=bV hm;have hib:¬i<wI key l k:=fun hc=>by have:=(l2 i n hi).2 hc; omega
  have hb:wI key l k<l.length:=by have:=(aj.1 hi).1; omega
  have hx:=ai hb
  have hie:i=wI key l k:=by
   grind [Nat.lt_or_ge,wI,List.pairwise_iff_getElem,absurd]
  subst hie;exact⟨by simp_all [XU,pg,G4],n,hi,he,rfl⟩
 |none =>
  right;refine⟨?_,rfl⟩
  grind [XU,pg,List.find?_eq_none,List.mem_of_getElem?,qO,G4]
theorem arc(x y:Node)(hx:x.bc.length<=100000):aq bW 222 [.agg (aL x),.agg (aL y)] []=some (.bool (decide (x=y)),[]):=by
 have hd:decide (x=y)=(x.ar==y.ar&&(x.kind==y.kind&&(x.eE==y.eE&&(x.up==y.up&&(x.data==y.data&&decide (x.bc=y.bc)))))):=by
  obtain⟨a,b,c,d,e,f⟩:=x;obtain⟨a',b',c',d',e',f'⟩:=y
  grind
 refine aB ?_;have q:=fun M=>cO (akK x.bc y.bc hx) M
 rw[hd];simp only[ac8,aoU,bK,aL,EW,seval]
 repeat' ((first|apply bB|apply bU|apply dI)<;>intro hb<;>simp only[hb,EW,q,zA,seval])
 all_goals (rfl)
def amG x y hx:=cP (arc x y hx)
def Yn(ae:List Node)(ar:Int):Int:=if XU Node.ar ae ar then (wI Node.ar ae ar:Int) else -1
def arb(ae:List Node)(ar:Int)(h:oU ae)(hn:ae.length<=100000):aq bW 221 [ba ae,aF ar] []=some (aF (Yn ae ar),[]):=by
 refine aB ?_;have q  := fun M=>cO (akZ ae ar _ (Nz h ar) hn) M
 simp only[ac7,aek,q,Yn,EW,seval];refine bB (fun hb=>?_) (fun hb=>?_)
 ·simp_all [XU,aek,EW]
 simp_all [XU,aek,EW]
def amF(ae:List Node)(ar:Int)(h:oU ae)(hn:ae.length<=100000)(M:aC):aU (aq bW) 221 [ba ae,aF ar] M=some (aF (Yn ae ar),M):=cO (arb _ _ h hn) M
def xD(l:List mT)(a b:Int):Bool:=l.any (zk a b)
def ard(l:List mT)(a b:Int)(hn:l.length<=100000):aq bW 223 [ki l,aF a,aF b] []=some (.bool (xD l a b),[]):=by
 refine aB ?_
 have q:aU (aq bW) 265 [ki l,.func 266 [ct 0,ct 1]] _=some (.bool (xD l a b),[cu [aF a],cu [aF b]]) :=
  lk (ids:=[0,1]) rfl rfl (Mc a b) rfl rfl (ak0 l a b hn) rfl rfl rfl rfl rfl
 simp only[ac9,aoV,q,EW,seval]
def amH l a b hn:=cP (ard l a b hn)
def k56(a b:Tree)(ha:Small a)(M:aC):aU (aq bW) 56 [.agg [ba a.ae,aF a.next,aF a.ak],.agg [ba b.ae,aF b.next,aF b.ak]] M=some (.bool (decide (a=b)),M):=cO (c56 a b ha) M
def lO(t:Tree)(dP:List mT)(tick:Int):List Node->List Int->List po
 |n::r,x::y=>(if (decide (Yn t.ae n.ar<0) || !decide (n=bl t.ae n.ar))&&xD dP x tick then [⟨x,tick,n⟩] else [])++lO t dP tick r y
 |_,_=>[]
def rK(s:iL)(tick:Int)(n:Node):Int :=
 if decide (0<=Yn s.now.ae n.ar)&&decide (n=bl s.now.ae n.ar) then s.since.getD (wI Node.ar s.now.ae n.ar) 0 else tick
def qt(s:iL)(t:Tree):iL:=if decide (s.now=t) then s else
 ⟨t,nw (s.tick+1),t.ae.map (rK s (nw (s.tick+1))),s.eR++lO t s.dP (nw (s.tick+1)) s.now.ae s.since,s.dP,s.next⟩
def CO{ae:List Node}(h:oU ae)(ar:Int) :
  (XU Node.ar ae ar=true/\Yn ae ar=(wI Node.ar ae ar:Int)/\ae[wI Node.ar ae ar]?=some (bl ae ar)/\find ae ar=some (bl ae ar))\/(XU Node.ar ae ar=false/\Yn ae ar = -1/\find ae ar=none):=by
 rcases Rb h ar with ⟨h1,n,h2,_,h4⟩|⟨h1,h2⟩<;>simp_all [find,bl,Yn]
def ym(s:iL)(t:Tree)(P:List po)(S:List Int):aC :=
 [.cells (bL s),.cells (aM t),.cells [.slice .c0 [],.int .i64 0,.int .i64 0,.int .i64 0,.slice .c0 [],.slice .c0 [],.slice .c0 [],.int .i64 0],.tick 8 P.length,
  .cells [ba t.ae,.int .i64 t.next,.int .i64 t.ak,.int .i64 (nw (s.tick+1)),.slice (.own 5) (S.map mU),.slice (.own 3) (P.map lX),ki s.dP,.int .i64 s.next],.tick 1 S.length]
theorem VP{s:iL}{t:Tree}(hs:rS s.now)(hz:Sz 200 s.now)(ht:rS t)(hzt:Sz 200 t)(hk:s.dP.length<=100000)(hl:s.since.length=s.now.ae.length){k:List K}{R:List po->Option (ag×aC)}
  (hx:∀P e,kr (aq bW) [.dE 4 8] 0 k ⟨.exit 0,(2,ct 0)::(3,ct 1)::(4,ct 2)::(5,ct 4)::e,ym s t P []⟩=R P) :
  ∀(l pre:List Node)(y ypre:List Int)(P:List po),s.now.ae=pre++l->s.since=ypre++y->ypre.length=pre.length->P.length<=100000+pre.length ->
   eX (aq bW) [.dE 4 8] 0 k (.loop [2,3,4,5,32,33,34] ZK) [(2,ct 0),(3,ct 1),(4,ct 2),(5,ct 4),(32,ba s.now.ae),(33,aF s.now.ae.length),(34,aF pre.length)] (ym s t P []) =
   R (P++lO t s.dP (nw (s.tick+1)) l y):=by
 intro l;induction l with
 |nil =>
  intro pre y ypre P h hy hyl hP;rw[bG];have hy0:y=[]:=by have:=congrArg List.length h; have h2:=congrArg List.length hy; simp_all
  subst hy0;simp only[ym,GS,jL h,lO,EW,seval] at hx ⊢;exact hx _ _
 |cons n rest ih =>
  intro pre y ypre P h hy hyl hP;rw[bG];have hn200:=hz.ae;have dJ:pre.length+1<=200:=by rw[h] at hn200; grind
  have hw:=zp pre n;cases y with
  |nil=>have h1:=congrArg List.length h; have h2:=congrArg List.length hy; simp at h1 h2; omega
  |cons x y =>
   have hxa:s.since[pre.length]?=some x:=by rw[hy,<-hyl]; simp
   have hi1:=ih (pre++[n]) y (ypre++[x]) P (by rw[h]; simp) (by rw[hy]; simp) (by simp[hyl]) gh
   have hi2:=ih (pre++[n]) y (ypre++[x]) (P++[⟨x,nw (s.tick+1),n⟩]) (by rw[h]; simp) (by rw[hy]; simp) (by simp[hyl]) gh
   have q1:=amF t.ae n.ar ht.mo (by have:=hzt.ae; omega)
   have q2:=amG n (bl t.ae n.ar) (by have:=hz.bc n (by rw[h]; simp); omega)
   have q3:=amH s.dP x (nw (s.tick+1)) hk;have r1:cp (P.length+1) 96=True:=qH;rw[lO];simp only[ym,aL,aM,bL,aA,aw,az,aG,aW,aE,aQ] at hi1 hi2 q1 q2 q3;rcases CO ht.mo n.ar with ⟨_,a2,a3,a4⟩|⟨_,a2,a4⟩
   ·have ha0:((wI Node.ar t.ae n.ar:Int)<0)=False:=dy;generalize decide (n=bl t.ae n.ar)=e1 at q2 ⊢;generalize xD s.dP x (nw (s.tick+1))=e2 at q3 ⊢;cases e1<;>cases e2<;>simp only[ym,GS,iK h,gP h,aL,aM,bL,q1,q2,q3,a2,a3,ha0,hxa,hw,r1,EW,seval]
    ·simpa using hi1
    ·simpa[lX,mL,aL] using hi2
    ·simpa using hi1
    ·simpa using hi1
   ·have ha0:((-1:Int)<0)=True:=dy;generalize decide (n=bl t.ae n.ar)=e1 at q2 ⊢;generalize xD s.dP x (nw (s.tick+1))=e2 at q3 ⊢;cases e2<;>simp only[ym,GS,iK h,gP h,aL,aM,bL,q1,q3,a2,ha0,hxa,hw,r1,EW,seval]
    ·simpa using hi1
    ·simpa[lX,mL,aL] using hi2
def VQ{s:iL}{t:Tree}(hs:rS s.now)(hz:Sz 200 s.now)(hzt:Sz 200 t)(hl:s.since.length=s.now.ae.length)(P:List po){k:List K}{R:List Int->Option (ag×aC)}
  (hx:∀S e,kr (aq bW) [.dE 4 8] 0 k ⟨.exit 2,(2,ct 0)::(4,ct 2)::(5,ct 4)::e,ym s t P S⟩=R S) :
  ∀(l pre:List Node)(S:List Int),t.ae=pre++l->S.length<=100000+pre.length ->
   eX (aq bW) [.dE 4 8] 0 k (.loop [2,4,5,84,85,86] ZL) [(2,ct 0),(4,ct 2),(5,ct 4),(84,ba t.ae),(85,aF t.ae.length),(86,aF pre.length)] (ym s t P S) =
   R (S++l.map (rK s (nw (s.tick+1)))):=by
 intro l;induction l with
 |nil =>
  intro pre S h hS;rw[bG];simp only[ym,GS,jL h,EW,seval] at hx ⊢;exact hx _ _
 |cons n rest ih =>
  intro pre S h hS;rw[bG];have hn200:=hzt.ae;have dJ:pre.length+1<=200:=by rw[h] at hn200; simp at hn200; omega
  have hw:=zp pre n;have hi1:=ih (pre++[n]) (S++[rK s (nw (s.tick+1)) n]) (by rw[h]; simp) gh
  have q1:=amF s.now.ae n.ar hs.mo (by have:=hz.ae; omega)
  have q2:=amG n (bl s.now.ae n.ar) (by have:=hzt.bc n (by rw[h]; simp); omega)
  have r1:cp (S.length+1) 8=True:=qH;rw[aE];unfold rK at hi1 ⊢;simp only[ym,aL,aM,bL,aA,aw,az,aG,aW,aE,aQ] at hi1 q1 q2;rcases CO hs.mo n.ar with ⟨_,a2,a3,a4⟩|⟨_,a2,a4⟩
  ·have ha0:(0<=(wI Node.ar s.now.ae n.ar:Int))=True:=dy;have cG:wI Node.ar s.now.ae n.ar<s.since.length:=by rw[hl]; exact(aj.1 a3).1
   have hxa:=ai cG;have hxd:s.since.getD (wI Node.ar s.now.ae n.ar) 0=s.since[wI Node.ar s.now.ae n.ar]:=by simp[List.getD,hxa]
   rw[hxd] at hi1 ⊢;generalize s.since[wI Node.ar s.now.ae n.ar]=x at hxa hi1 ⊢;generalize decide (n=bl s.now.ae n.ar)=e1 at q2 hi1 ⊢;rw[a2] at hi1 ⊢;cases e1<;>simp only[ym,GS,iK h,gP h,aL,aM,bL,q1,q2,a2,a3,ha0,hxa,hw,r1,uz,EW,seval]
   ·simpa using hi1
   ·simpa using hi1
  ·have ha0:(0<=(-1:Int))=False:=dy;rw[a2] at hi1 ⊢;simp only[ym,GS,iK h,gP h,aL,aM,bL,q1,q2,a2,ha0,hw,r1,uz,EW,seval];simpa using hi1
def SE{α:Type}(enc:α->ag){f sz bytes:Nat}(hp:bW.oS f=some (sk sz bytes))(hw:∀a,(enc a).cells.length=sz)(hb:bytes<=1000){l:List α}(hn:l.length<=100000)(M:aC) :
  aq bW f [gS (l.map enc)] M=some (.slice (.own M.length) (l.map enc),M++[.tick sz l.length]):=by
 refine fe (g:=sk sz bytes) hp ?_;have hw':wid (l.map enc) sz:=by have:=pk enc sz hw l; simpa using this
 have hr:cp (l.map enc).length bytes:=by have:=sn (a:=l.length) (b:=bytes) aH aH; simpa using this
 unfold sk;simp only[];rw[fh ⟨hw',hr⟩];rw[dU]
def Et{α:Type}(enc:α->ag){f sz bytes:Nat}(hp:bW.oS f=some (sk sz bytes))(hw:∀a,(enc a).cells.length=sz)(hb:bytes<=1000){l:List α}(hn:l.length<=100000)(M:aC) :
  Bx (aq bW) f [gS (l.map enc)] M=some (.slice (.own M.length) (l.map enc),M++[.tick sz l.length]):=by
 unfold Bx;rw[aZ ⟨rfl,rfl⟩,SE enc hp hw hb hn,bN];rfl
def aqs(s:iL)(t:Tree)(hs:rS s.now)(hz:Sz 200 s.now)(ht:rS t)(hzt:Sz 200 t)(hk:s.dP.length<=100000)(hl:s.since.length=s.now.ae.length)(hp:s.eR.length<=100000) :
  aq bW 158 [qP s,bq t] []=some (qP (qt s t),[]):=by
 refine aB ?_;have q1:=k56 s.now t (hz.small aH);have p1:=fun M=>Et lX (f:=220) (sz:=8) (bytes:=96) rfl (fun _=>rfl) aH hp M
 have l2:=fun P=>VQ hs hz hzt hl P (k:=[.block 2,.seq abc]) (R:=fun S=>some (.agg [ba t.ae,aF t.next,aF t.ak,aF (nw (s.tick+1)),tX S,r8 P,ki s.dP,aF s.next],[]))
  (fun S e=>by simp only[ym,bL,aM,GS,EW,seval]) t.ae [] [] rfl dy
 have l1:=VP hs hz ht hzt hk hl (k:=[.block 0,.seq abd]) (R:=fun P=>some (.agg [ba t.ae,aF t.next,aF t.ak,aF (nw (s.tick+1)),tX (t.ae.map (rK s (nw (s.tick+1)))),r8 P,ki s.dP,aF s.next],[]))
  (fun P e=>by
   have:=l2 P;simp only[ym,bL,aM,az,aP] at this;simp only[ym,bL,aM,GS,EW,seval];exact this) s.now.ae [] s.since [] s.eR rfl rfl rfl (by simpa using hp)
 unfold qt;generalize decide (s.now=t)=e1 at q1 ⊢;simp only[ym,bL,aM,az] at l1;cases e1<;>simp only[Se,GS,qP,bL,bq,aM,q1,p1,or_false,EW,seval]
 exact l1
end
section
def zB{C:eP}{f g p:Nat}{xs:List ag}{r:ag}{M:aC}{c:ag}(hM:nth M p=some (cu [c]))(h:C f [gS xs,.func g [ct 0]] [cu [c]]=some (r,[cu [c]]))(h3:r.wA=true)(h5:r.Ap (wv [p])=r)
  (h6:c.vw&&c.nD.isEmpty=true) (h8:∀ρ,c.sf ρ=c:=by intro ρ; rfl):aU C f [gS xs,.func g [ct p]] M=some (r,M):=by
 simp only[bw,List.isEmpty_iff,bh] at h6;obtain⟨h6,h7⟩:=h6;have hids:[ag.slice .sh xs,.func g [ct p]].flatMap ag.ids=[p]:=rfl;have hi:qq M [p]=[]:=by simp[qq,hM,cI.ids,h7]
 have e0:kC M [p]=[p]:=by simp[kC,hi,kb]
 have e1:reach M [p]=[p]:=by
  have ea:kb [] [p]=[p]:=rfl;simp only[reach,ea,e0]
 have hfl:[ag.slice .sh xs,.func g [ct p]].all ag.flat=true:=rfl;unfold aU;rw[aZ hfl,hids,e1];have hpk:j4 M (iv [p]) [p]=some [cu [c]]:=by simp[j4,hM,cI.flat,h6,cI.pj,h8]
 rw[hpk];simp only[bN];rw[aZ e0]
 have hrn:[ag.slice .sh xs,.func g [ct p]].map (ag.pj (iv [p]))=[gS xs,.func g [ct 0]]:=by
  simp[ag.pj,ag.sf,ag.um,iv]
 rw[hrn,h];simp only[bN];rw[aZ ⟨by trivial,h3,by simp[cI.flat,h6]⟩,h5]
 simp only[mb,cI.pj,aE,aQ,h8];rw[uR hM]
attribute [local irreducible] eX fM lu gK dX kr aq aU cr bJ
def rF(id:Int)(x:mT):Bool:=x.id != id
def vJ(tk:List mT)(p:po):Bool:=xD tk p.kv p.BK
def SY(n:mT):(iB n).all ag.je=true:=rfl
def WO(n:mT):(iB n).all ag.plainCell=true:=rfl
def WN(n:po):(mL n).all ag.plainCell=true:=rfl
def SX(n:po):(mL n).all ag.je=true:=rfl
def takeN(s:iL)(ar:Int):iL×Int×Int :=
 if !(find s.now.ae ar).isSome then (s,0,70)
 else if (bl s.now.ae ar).kind != 2 then (s,0,73)
 else if decide ((s.dP.length:Int)>=16)||decide (s.next>=1099511627776) then (s,0,76)
 else (⟨s.now,s.tick,s.since,s.eR,s.dP++[⟨s.next,ar,s.tick⟩],nw (s.next+1)⟩,s.next,0)
def aqw(s:iL)(ar:Int)(hz:Small s.now)(hs:rS s.now)(hk:s.dP.length<=16):aq bW 163 [qP s,aF ar] []=some (.tuple [qP (takeN s ar).1,aF (takeN s ar).2.1,aF (takeN s ar).2.2],[]):=by
 refine aB ?_;have q1:=Fc s.now ar hz hs;have p1:=fun M=>Et kS (f:=229) (sz:=3) (bytes:=24) rfl (fun _=>rfl) aH (l:=s.dP) aH M
 have r1:cp (s.dP.length+1) 24=True:=qH;unfold takeN;simp only[aL] at q1;simp only[Sf,air,qP,bL,q1,aL,EW,seval]
 repeat' ((first|apply bB|apply bU|apply dI)<;>intro hb<;>simp only[hb,EW,air,q1,p1,r1,or_false,aL,seval])
 all_goals clear q1 p1
 all_goals first|rfl|(simp_all only[qv,↓reduceIte,reduceCtorEq,av]; done)|(simp_all only[qv,↓reduceIte,reduceCtorEq,av,bL]; rfl)|(simp_all only[qv,↓reduceIte,reduceCtorEq,av,bL,ki,aW,aE,aQ]; rfl)
def asB(s:iL)(ar:Int)(hz:Small s.now)(hs:rS s.now)(hk:s.dP.length<=16)(M:aC):aU (aq bW) 163 [.agg (bL s),aF ar] M=some (.tuple [.agg (bL (takeN s ar).1),aF (takeN s ar).2.1,aF (takeN s ar).2.2],M) :=
 cO (aqw s ar hz hs hk) M
def arl(x:mT)(id:Int):aq bW 233 [kS x,ct 0] [cu [aF id]]=some (.bool (rF id x),[cu [aF id]]):=by
 refine aB ?_;simp only[rF,adf,aoX,kS,iB,EW,seval]
def aro(p:po)(tk:List mT)(hk:tk.length<=100000):aq bW 235 [lX p,ct 0] [cu [ki tk]]=some (.bool (vJ tk p),[cu [ki tk]]):=by
 refine aB ?_;unfold vJ;have q:=amH tk p.kv p.BK hk;simp only[adg,aoY,lX,mL,aL,q,EW,seval]
def aas{xs:List mT}{id:Int}  (hn:xs.length<=100000){k:List K}{R:List mT->Option (ag×aC)}
  (hx:∀(out:List mT) e,kr (aq bW) [.tmp 4] 1 k ⟨.exit 0,(1,.func 233 [ct 0])::(5,.slice (.own 1) (out.map kS))::e,[cu [aF id],.tick 3 out.length]⟩=R out) :
  ∀(l pre out:List mT),xs=pre++l->out.length<=pre.length->eX (aq bW) [.tmp 4] 1 k (.loop [1,5,8,9,10] Z3) [(1,.func 233 [ct 0]),(5,.slice (.own 1) (out.map kS)),(8,gS (xs.map kS)),(9,aF xs.length),(10,aF pre.length)] [cu [aF id],.tick 3 out.length] =
   R (out++l.filter (rF id)):=by
 intro l;induction l with
 |nil =>
  intro pre out h ho;rw[bG];simp only[Ya,jL h,kM,EW,seval];exact hx _ _
 |cons n rest ih =>
  intro pre out h ho;rw[bG];have dJ:pre.length+1<=100000:=by rw[h] at hn; simp at hn; omega
  have hw:=zp pre n;have hi1:=ih (pre++[n]) out (by rw[h]; simp) gh
  have hi2:=ih (pre++[n]) (out++[n]) (by rw[h]; simp) gh
  simp only[aA,aw,az,aG,aW,aE,aQ] at hi1 hi2;have r1:cp (out.length+1) 24=True:=qH
  have q1:∀M,nth M 0=some (cu [aF id])->aU (aq bW) 233 [.agg (iB n),ct 0] M=some (.bool ((rF id) n),M) :=
   fun M hM=>uG (f:=233) (p:=0) (vs:=[.agg (iB n)]) hM (arl n id) rfl rfl rfl rfl rfl rfl rfl rfl rfl
  rw[fq];generalize (rF id) n=e at q1 ⊢;cases e<;>simp only[Ya,iK h,gP h,q1,hw,r1,SY,SX,WO,WN,aJ,af,aD,EW,seval]
  ·exact hi1
  ·simpa[kS] using hi2
def ark(xs:List mT)(id:Int)  (hn:xs.length<=100000):aq bW 232 [gS (xs.map kS),.func 233 [ct 0]] [cu [aF id]]=some (gS ((xs.filter (rF id)).map kS),[cu [aF id]]):=by
 refine aB ?_;simp only[Sr,Ya,EW,seval];exact aas  hn (R:=fun out=>some (gS (out.map kS),[cu [aF id]])) (fun out e=>by simp only[Ya,EW,seval]) xs [] [] rfl (au _)
def aat{xs:List po}{tk:List mT}(hk:tk.length<=100000)(hn:xs.length<=100000){k:List K}{R:List po->Option (ag×aC)}
  (hx:∀(out:List po) e,kr (aq bW) [.tmp 4] 1 k ⟨.exit 0,(1,.func 235 [ct 0])::(5,.slice (.own 1) (out.map lX))::e,[cu [ki tk],.tick 8 out.length]⟩=R out) :
  ∀(l pre out:List po),xs=pre++l->out.length<=pre.length->eX (aq bW) [.tmp 4] 1 k (.loop [1,5,8,9,10] Z4) [(1,.func 235 [ct 0]),(5,.slice (.own 1) (out.map lX)),(8,gS (xs.map lX)),(9,aF xs.length),(10,aF pre.length)] [cu [ki tk],.tick 8 out.length] =
   R (out++l.filter (vJ tk)):=by
 intro l;induction l with
 |nil =>
  intro pre out h ho;rw[bG];simp only[Yb,jL h,kM,EW,seval];exact hx _ _
 |cons n rest ih =>
  intro pre out h ho;rw[bG];have dJ:pre.length+1<=100000:=by rw[h] at hn; simp at hn; omega
  have hw:=zp pre n;have hi1:=ih (pre++[n]) out (by rw[h]; simp) gh
  have hi2:=ih (pre++[n]) (out++[n]) (by rw[h]; simp) gh
  simp only[aA,aw,az,aG,aW,aE,aQ] at hi1 hi2;have r1:cp (out.length+1) 96=True:=qH
  have q1:∀M,nth M 0=some (cu [ki tk])->aU (aq bW) 235 [.agg (mL n),ct 0] M=some (.bool ((vJ tk) n),M) :=
   fun M hM=>uG (f:=235) (p:=0) (vs:=[.agg (mL n)]) hM (aro n tk hk) rfl rfl rfl rfl rfl rfl rfl rfl rfl
  rw[fq];generalize (vJ tk) n=e at q1 ⊢;cases e<;>simp only[Yb,iK h,gP h,q1,hw,r1,SY,SX,WO,WN,aJ,af,aD,EW,seval]
  ·exact hi1
  ·simpa[lX] using hi2
def arn(xs:List po)(tk:List mT)(hk:tk.length<=100000)(hn:xs.length<=100000):aq bW 234 [gS (xs.map lX),.func 235 [ct 0]] [cu [ki tk]]=some (gS ((xs.filter (vJ tk)).map lX),[cu [ki tk]]):=by
 refine aB ?_;simp only[Ss,Yb,EW,seval];exact aat hk hn (R:=fun out=>some (gS (out.map lX),[cu [ki tk]])) (fun out e=>by simp only[Yb,EW,seval]) xs [] [] rfl (au _)
def rq(s:iL)(id:Int):iL×Int :=
 if ((s.dP.filter (rF id)).length:Int)==(s.dP.length:Int) then (s,100)
 else (⟨s.now,s.tick,s.since,s.eR.filter (vJ (s.dP.filter (rF id))),s.dP.filter (rF id),s.next⟩,0)
def aqz(s:iL)(id:Int)(hk:s.dP.length<=100000)(hp:s.eR.length<=100000):aq bW 168 [qP s,aF id] []=some (.tuple [qP (rq s id).1,aF (rq s id).2],[]):=by
 refine aB ?_;have hf:(s.dP.filter (rF id)).length<=100000:=aY (bT _ _) hk
 have q1:∀M,nth M 1=some (cu [aF id])->aU (aq bW) 232 [ki s.dP,.func 233 [ct 1]] M=some (ki (s.dP.filter (rF id)),M):=by
  intro M hM;exact zB hM (ark s.dP id hk) rfl rfl rfl
 unfold rq;generalize (s.dP.filter (rF id))=tk at q1 hf ⊢
 have q2:∀M,nth M 3=some (cu [ki tk])->aU (aq bW) 234 [r8 s.eR,.func 235 [ct 3]] M=some (r8 (s.eR.filter (vJ tk)),M):=by
  intro M hM;exact zB hM (arn s.eR tk hf hp) rfl rfl rfl
 simp only[acC,ait,qP,bL,q1,EW,seval]
 repeat' ((first|apply bB|apply bU|apply dI)<;>intro hb<;>simp only[hb,EW,ait,q1,q2,seval])
 all_goals clear q1 q2
 all_goals first|rfl|(simp_all only[qv,↓reduceIte,reduceCtorEq,av]; done)|(simp_all only[qv,↓reduceIte,reduceCtorEq,av,bL]; rfl)
def asD(s:iL)(id:Int)(hk:s.dP.length<=100000)(hp:s.eR.length<=100000)(M:aC):aU (aq bW) 168 [.agg (bL s),aF id] M=some (.tuple [.agg (bL (rq s id).1),aF (rq s id).2],M) :=
 cO (aqz s id hk hp) M
def c38(t:Tree)(ht:t.ae.length<=100000):aq bW 38 [bq t] []=some (qP ⟨t,0,List.replicate t.ae.length 0,[],[],1⟩,[]):=by
 refine aB ?_;have r1:cp t.ae.length 8=True:=qH;simp only[alE,E38,bq,aM,qP,bL,r1,ag.norm,tX,gW,EW,seval];rfl
end
abbrev eU:Unit->ag:=fun _ => .agg []
def flN(l:AM Node):(pb bK l).all ag.flat=true:=Lu _ (fun _=>rfl) l
def rnN(ρ:Nat->Nat)(l:AM Node):(pb bK l).map (ag.pj ρ)=pb bK l:=WZ _ _ (fun _=>rfl) l
def amd(l:AM Node):(pb bK l).flatMap ag.ids=[]:=SJ _ (fun _=>rfl) l
def bkN(B:Nat)(M:aC)(l:AM Node):List.map (ag.jX B M) (pb bK l)=pb bK l:=YA _ _ _ (fun _=>rfl) l
def flU(l:AM Unit):(pb eU l).all ag.flat=true:=Lu _ (fun _=>rfl) l
def rnU(ρ:Nat->Nat)(l:AM Unit):(pb eU l).map (ag.pj ρ)=pb eU l:=WZ _ _ (fun _=>rfl) l
def asd(l:AM Unit):(pb eU l).flatMap ag.ids=[]:=SJ _ (fun _=>rfl) l
def bkU(B:Nat)(M:aC)(l:AM Unit):List.map (ag.jX B M) (pb eU l)=pb eU l:=YA _ _ _ (fun _=>rfl) l
abbrev VS:=AM Unit×List Node
def j6(all:AM Node):Nat->Int->VS->Bool×VS
 |0,_,st=>(false,st)
 |f+1,ar,st =>
  if (eY st.1 ar).isSome=true then (true,st) else
  if !(eY all ar).isSome then (false,(kR st.1 ar (),st.2)) else
  ((eY all ar).getD Node.zero).bc.foldl (fun w e=>((j6 all f e.ar w.2).1&&w.1,(j6 all f e.ar w.2).2)) (true,(kR st.1 ar (),st.2++[(eY all ar).getD Node.zero]))
def missing(all:AM Node)(met:AM Unit):Nat:=(all.filter fun p=>(eY met p.1).isNone).length
def sF(all:AM Node)(met:AM Unit)(ar:Int):missing all (kR met ar ())<=missing all met:=by
 unfold missing;simp only[jz];induction all with
 |nil=>simp
 |cons p r ih =>
  simp only[fq]
  by_cases h:p.1=ar
  ·simp only[h,aJ,Option.isNone_some,af,aD];split
   ·simp only[aw]; omega
   ·exact ih
  ·simp only[h,aD];split
   ·simp only[aw]; omega
   ·exact ih
def Eb{all:AM Node}{met:AM Unit}{ar:Int}{n:Node}(h:eY all ar=some n)(h0:eY met ar=none):missing all (kR met ar ())<missing all met:=by
 have hm:=xt _ _ _ h;clear h;unfold missing;induction all with
 |nil=>cases hm
 |cons p r ih =>
  simp only[fq,jz]
  by_cases hp:p.1=ar
  ·have h1:=sF r met ar;unfold missing at h1;simp only[jz] at h1;simp only[hp,aJ,Option.isNone_some,af,aD,h0,Option.isNone_none];simp only[aw];omega
  ·rcases bI.1 hm with h2|h2
   ·exact absurd (by rw[<-h2]) hp
   ·have:=ih h2;simp only[jz] at this;simp only[hp,aD];split
    ·simp only[aw]; omega
    ·exact this
structure vi(all:AM Node)(st st':VS):Prop where
 len:st'.2.length+missing all st'.1<=st.2.length+missing all st.1
 ahf:missing all st'.1<=missing all st.1
 met:∀j,(eY st.1 j).isSome=true->(eY st'.1 j).isSome=true
 nodup:(st.2.map Node.ar).Nodup->(∀n,n∈st.2->(eY st.1 n.ar).isSome=true)->(st'.2.map Node.ar).Nodup/\∀n,n∈st'.2->(eY st'.1 n.ar).isSome=true
def vi.refl(all:AM Node)(st:VS):vi all st st:=⟨au _,au _,fun _ h=>h,fun h1 h2=>⟨h1,h2⟩⟩
theorem vi.trans{all:AM Node}{a b c:VS}(h:vi all a b)(k:vi all b c):vi all a c :=
 ⟨aY k.len h.len,aY k.ahf h.ahf,fun j hj=>k.met j (h.met j hj),fun h1 h2=>let ⟨g1,g2⟩:=h.nodup h1 h2; k.nodup g1 g2⟩
def Own(all:AM Node):Prop:=∀k n,eY all k=some n->n.ar=k
def xL{all:AM Node}(ho:Own all):∀(f:Nat)(ar:Int)(st:VS),vi all st (j6 all f ar st).2:=by
 intro f;induction f with
 |zero=>intro ar st; exact vi.refl _ _
 |succ f ih =>
  intro ar st;rw[j6];split
  ·exact vi.refl _ _
  ·rename_i h0;have h0:eY st.1 ar=none:=by simpa using h0
   have hput:vi all st (kR st.1 ar (),st.2):=by
    refine⟨?_,sF _ _ _,fun j hj=>?_,fun h1 h2=>⟨h1,fun n hn=>?_⟩⟩
    ·have:=sF all st.1 ar;simp only;omega
    ·simp only[jz]; split
     ·rfl
     ·exact hj
    ·simp only[jz]; split
     ·rfl
     ·exact h2 n hn
   split
   ·exact hput
   ·rename_i h1;cases hn:eY all ar with
    |none=>simp[hn] at h1
    |some n =>
     simp only[bA]
     have hstep:vi all st (kR st.1 ar (),st.2++[n]):=by
      have cG:=Eb hn h0;refine⟨gh,sF _ _ _,hput.met,fun g1 g2=>?_⟩
      have hni:=ho _ _ hn;refine⟨?_,fun m hm=>?_⟩
      ·rw[aW,lh];refine⟨g1,dy,?_⟩;intro a ha b hb;simp only[aE,aQ,bS] at hb;subst hb;intro hab;obtain⟨m,hm,rfl⟩:=eJ.1 ha;have:=g2 m hm;rw[hab,hni,h0] at this;cases this
      ·rcases bm.1 hm with h|h
       ·exact(hput.nodup g1 g2).2 m h
       ·simp only[bS] at h;subst h;simp only[jz,hni,aJ,bX]
     have hfold:∀(l:List gI)(w:Bool×VS),vi all w.2 (l.foldl (fun w e=>((j6 all f e.ar w.2).1&&w.1,(j6 all f e.ar w.2).2)) w).2:=by
      intro l;induction l with
      |nil=>intro w; exact vi.refl _ _
      |cons e r ihr =>
       intro w;rw[eK];exact(ih e.ar w.2).trans (ihr ((j6 all f e.ar w.2).1&&w.1,(j6 all f e.ar w.2).2))
     exact hstep.trans (hfold n.bc (true,(kR st.1 ar (),st.2++[n])))
def uT:ag := .func 271 [.ptr 0 0,.ptr 1 0,.ptr 2 0,.ptr 3 0]
def nv(all:AM Node)(st:VS):aC:=[.cells [.iw 4],.cells [.iw 5],.cells [.cv 6 st.2.length 6 0 st.2.length],.cells [uT],.map (B1 st.1) (pb eU st.1),.map (B1 all) (pb bK all),.arr 6 st.2.length (st.2.map bK)]
def NT(all:AM Node)(st:VS):(nv all st).map (cI.pj (iv [0,1,2,3,4,5,6]))=nv all st/\(nv all st).map (cI.pj (wv [0,1,2,3,4,5,6]))=nv all st:=by
 constructor
 ·simp only[nv,aE,aQ,cI.pj,rnN,rnU]; rfl
 ·simp only[nv,aE,aQ,cI.pj,rnN,rnU]; rfl
def anN(all:AM Node)(st:VS)(L:aC):j4 (nv all st++L) (iv [0,1,2,3,4,5,6]) [0,1,2,3,4,5,6]=some (nv all st):=by
 have h:=(NT all st).1;simp only[nv,aE,aQ] at h;injection h with h0 h; injection h with h1 h; injection h with h2 h; injection h with h3 h; injection h with h4 h; injection h with h5 h; injection h with h6 h
 simp only[nv,aI,aP,j4,nth,h0,h1,h2,h3,h4,h5,h6];simp only[cI.flat,flN,flU,aJ];rfl
def asf(all:AM Node)(st:VS)(L:aC):qq (nv all st++L) [0,1,2,3]=[4,5,6,0,1,2,3]/\qq (nv all st++L) [0,1,2,3,4,5,6]=[4,5,6,0,1,2,3]:=by
 refine⟨rfl,?_⟩
 show[4,5,6,0,1,2,3]++((pb eU st.1).flatMap ag.ids++((pb bK all).flatMap ag.ids++([]++[])))=_
 rw[asd,amd]; rfl
def WX(all:AM Node)(st:VS)(L:aC):reach (nv all st++L) [0,1,2,3]=[0,1,2,3,4,5,6]/\kC (nv all st++L) [0,1,2,3,4,5,6]=[0,1,2,3,4,5,6]:=by
 obtain⟨h1,h2⟩:=asf all st L;have e0:kb [] [0,1,2,3]=[0,1,2,3]:=rfl;have e1:kb [0,1,2,3] [4,5,6,0,1,2,3]=[0,1,2,3,4,5,6]:=rfl;have e2:kb [0,1,2,3,4,5,6] [4,5,6,0,1,2,3]=[0,1,2,3,4,5,6]:=rfl;simp only[reach,kC,e0,h1,e1,h2,e2,jU]
def ah7(all:AM Node)(st st':VS)(L:aC):mb [0,1,2,3,4,5,6] (nv all st++L) [0,1,2,3,4,5,6] (nv all st')=nv all st'++L:=by
 have h:=(NT all st').2;simp only[nv,aE,aQ] at h;injection h with h0 h; injection h with h1 h; injection h with h2 h; injection h with h3 h; injection h with h4 h; injection h with h5 h; injection h with h6 h
 simp only[nv,aI,aP,mb,h0,h1,h2,h3,h4,h5,h6,iP]
def ab4(all:AM Node)(st:VS):(nv all st).all cI.flat=true:=by
 simp only[nv,kL,cI.flat,flN,flU]; rfl
def aeW{all:AM Node}{ar:Int}{st st':VS}{b:Bool}{L:aC}(h:aq bW 271 [aF ar,ct 0,ct 1,ct 2,ct 3] (nv all st)=some (.bool b,nv all st')) :
  aU (aq bW) 271 [aF ar,ct 0,ct 1,ct 2,ct 3] (nv all st++L)=some (.bool b,nv all st'++L) :=
 lk (ids:=[0,1,2,3,4,5,6]) rfl (WX all st L).1 (anN all st L) (WX all st L).2 rfl h rfl rfl (ab4 all st') rfl (ah7 all st st' L)
section
attribute [local irreducible] eX fM lu gK dX kr aq aU cr bJ
def aaw{all:AM Node}{n:Node}{f:Nat}(ho:Own all){k:List K}{R:Bool×VS->Option (ag×aC)}(hn:n.bc.length<=100000)
  (ih:∀e,e∈n.bc->∀st,missing all st.1<f->st.2.length+missing all st.1<=200000->aq bW 271 [aF e.ar,ct 0,ct 1,ct 2,ct 3] (nv all st)=some (.bool (j6 all f e.ar st).1,nv all (j6 all f e.ar st).2))
  (hx:∀w e,kr (aq bW) [.tmp 6] 7 k ⟨.exit 0,(4,ct 3)::(11,.bool w.1)::e,nv all w.2++[cu [],cu (aL n)]⟩=R w) :
  ∀(l pre:List gI)(w:Bool×VS),n.bc=pre++l->missing all w.2.1<f->w.2.2.length+missing all w.2.1<=200000->eX (aq bW) [.tmp 6] 7 k (.loop [4,11,37,38,39] Z7) [(4,ct 3),(11,.bool w.1),(37,ja n.bc),(38,aF n.bc.length),(39,aF pre.length)] (nv all w.2++[cu [],cu (aL n)]) =
   R (l.foldl (fun w e=>((j6 all f e.ar w.2).1&&w.1,(j6 all f e.ar w.2).2)) w):=by
 intro l;induction l with
 |nil =>
  intro pre w h _ _;rw[bG];simp only[nv,Om,jL h,nb,EW,seval] at hx ⊢;exact hx _ _
 |cons x rest ihl =>
  intro pre w h hm hl;rw[bG];have dJ:pre.length+1<=100000:=by rw[h] at hn; simp at hn; omega
  have hw:=zp pre x;rw[eK];have hg:=xL ho f x.ar w.2;have q:=aeW (L:=[cu [],cu (aL n),cu (gd x)]) (ih x (by rw[h]; simp) w.2 hm hl)
  have hi1:=ihl (pre++[x]) ((j6 all f x.ar w.2).1&&w.1,(j6 all f x.ar w.2).2) (by rw[h]; simp) (by have:=hg.ahf; simp only; omega) (by have:=hg.len; simp only; omega)
  generalize j6 all f x.ar w.2=v at q hi1 ⊢;clear hg ih;simp only[nv,uT,aL,gd,aA,aw,az,aG,aI,aP] at hi1 q;obtain⟨b,st'⟩:=v;cases b<;>simp only[nv,uT,Om,iK h,gP h,aL,gd,q,hw,bkN,bkU,dZ,dW,EW,seval] at hi1 ⊢
  ·exact hi1
  ·exact hi1
def Nw(z x:ag):ph z true (some x) = .tuple [x,.bool true]:=rfl
def VF(z:ag):ph z true none = .tuple [z,.bool false]:=rfl
def arO{all:AM Node}(ho:Own all)(hb:∀k n,eY all k=some n->n.bc.length<=100000):∀(f:Nat)(ar:Int)(st:VS),missing all st.1<f->st.2.length+missing all st.1<=200000 ->
  aq bW 271 [aF ar,ct 0,ct 1,ct 2,ct 3] (nv all st)=some (.bool (j6 all f ar st).1,nv all (j6 all f ar st).2):=by
 intro f;induction f with
 |zero=>intro ar st h; omega
 |succ f ih =>
  intro ar st hm hl;refine aB ?_;rw[j6];have p1:=sE eU st.1 ar ();cases h0:eY st.1 ar with
  |some u =>
   simp only[bX,aJ];simp only[nv,uT,Na,Om,o5,Nw,eU,mapOf.eq_1,h0,bkN,bkU,EW,seval]
  |none =>
   simp only[dg,af,aD];have hp:=sF all st.1 ar;cases hn:eY all ar with
   |none =>
    simp only[nv,uT,Na,Om,o5,Nw,VF,mapOf.eq_1,h0,hn,p1,oJ,dg,aJ,bkN,bkU,EW,seval]
   |some n =>
    have cG:=Eb hn h0;have r1:cp (st.2.length+1) 80=True:=qH;have hl1:=aaw ho (hb ar n hn) (f:=f) (k:=[.block 0,.seq ahI]) (R:=fun w=>some (.bool w.1,nv all w.2)) (fun e he st h1 h2=>ih e.ar st h1 h2) (fun w e=>by simp only[nv,uT,Om,aL,bkN,bkU,EW,seval]) n.bc [] (true,(kR st.1 ar (),st.2++[n])) rfl (by simp only; omega) gh
    clear ih;simp only[nv,uT,aL,az,aI,aP,aA,aw,aG,aW,aE,aQ,bK] at hl1;simp only[nv,uT,Na,Om,o5,Nw,VF,mapOf.eq_1,h0,hn,p1,r1,aL,bK,oJ,bX,bA,af,aD,qY,EW,seval];exact hl1
end
section
def Hj(x:Node):List Node->List Node
 | []=>[x]
 |y::r=>if x.ar<y.ar then x::y::r else y::Hj x r
def Cq:List Node->List Node
 | []=>[]
 |x::r=>Hj x (Cq r)
def atm(n:Node):ue 0 (bK n)=n.ar:=rfl
def F2(x:Node):∀l:List Node,DU 0 (bK x) (l.map bK)=(Hj x l).map bK
 | []=>rfl
 |y::r=>by
  simp only[aE,DU,Hj,atm]
  by_cases h:x.ar<y.ar
  ·simp only[h,aJ,aE]
  ·simp only[h,aD,aE,F2 x r]
def EG:∀l:List Node,rT 0 (l.map bK)=(Cq l).map bK
 | []=>rfl
 |x::r=>by simp only[aE,rT,Cq,EG r,F2]
def nt(a:Int)(m:AM Node)(p:po):AM Node:=if decide (p.kv<=a)&&decide (a<p.BK) then kR m p.node.ar p.node else m
def sd(a:Int):List Node->List Int->AM Node->AM Node
 |n::r,y::ys,m=>sd a r ys (if decide (y<=a) then kR m n.ar n else m)
 |_,_,m=>m
def zw(s:iL)(a:Int):AM Node:=sd a s.now.ae s.since (s.eR.foldl (nt a) [])
structure yq(m:AM Node):Prop where
 own:Own m
 bc:∀k n,eY m k=some n->n.bc.length<=100000
def yq.put{m:AM Node}(h:yq m)(n:Node)(hn:n.bc.length<=100000):yq (kR m n.ar n) where
 own:=fun k x hx=>by
  rw[jz] at hx;split at hx
  ·rename_i e; injection hx with hx; rw[<-hx,e]
  ·exact h.own k x hx
 bc:=fun k x hx=>by
  rw[jz] at hx;split at hx
  ·injection hx with hx; rw[<-hx]; exact hn
  ·exact h.bc k x hx
def xz(a:Int):∀(l:List po)(m:AM Node),yq m->(∀p,p∈l->p.node.bc.length<=100000)->yq (l.foldl (nt a) m)/\(l.foldl (nt a) m).length<=m.length+l.length
 | [],m,h,_=>⟨h,au _⟩
 |p::r,m,h,hp=>by
  rw[eK]
  have h1:yq (nt a m p)/\(nt a m p).length<=m.length+1:=by
   unfold nt;split
   ·exact⟨h.put _ (hp p dy),Ed _ _ _⟩
   ·exact⟨h,aH⟩
  obtain⟨g1,g2⟩:=xz a r _ h1.1 (fun q hq=>hp q (by simp[hq]))
  exact⟨g1,by simp only[aw]; omega⟩
def Bp(a:Int):∀(l:List Node)(y:List Int)(m:AM Node),yq m->(∀p,p∈l->p.bc.length<=100000)->yq (sd a l y m)/\(sd a l y m).length<=m.length+l.length
 | [],_,m,h,_=>by unfold sd; exact⟨h,au _⟩
 |n::r,[],m,h,_=>by unfold sd; exact⟨h,aH⟩
 |n::r,y::ys,m,h,hp=>by
  rw[sd]
  have h1:yq (if decide (y<=a) then kR m n.ar n else m)/\(if decide (y<=a) then kR m n.ar n else m).length<=m.length+1:=by
   split
   ·exact⟨h.put _ (hp n dy),Ed _ _ _⟩
   ·exact⟨h,aH⟩
  obtain⟨g1,g2⟩:=Bp a r ys _ h1.1 (fun q hq=>hp q (by simp[hq]))
  exact⟨g1,by simp only[aw]; omega⟩
def we(m:AM Node)(met:AM Unit):missing m met<=m.length:=bT _ _
def xK(s:iL)(x:mT):Bool×VS:=j6 (zw s x.at') 200001 x.ar ([],[])
def DQ(s:iL)(x:mT):List Node:=Cq (xK s x).2.2
attribute [local irreducible] eX fM lu gK dX kr aq aU cr bJ
def zU(s:iL)(x:mT)(m:AM Node):aC:=[.cells (bL s),.cells (iB x),.map (B1 m) (pb bK m),.cells [.iw 2]]
def V0{s:iL}{x:mT}(hn:s.eR.length<=100000){k:List K}{fin:AM Node}{r:Option (ag×aC)}
  (hx:∀e,kr (aq bW) [.tmp 4,.tmp 5] 0 k ⟨.exit 0,(2,ct 0)::(3,ct 1)::(6,ct 3)::e,zU s x fin⟩=r) :
  ∀(l pre:List po)(m:AM Node),s.eR=pre++l->l.foldl (nt x.at') m=fin->eX (aq bW) [.tmp 4,.tmp 5] 0 k (.loop [2,3,6,17,18,19] Z1) [(2,ct 0),(3,ct 1),(6,ct 3),(17,r8 s.eR),(18,aF s.eR.length),(19,aF pre.length)] (zU s x m)=r:=by
 intro l;induction l with
 |nil =>
  intro pre m h hfin;rw[bG];rw[nb] at hfin;subst hfin;simp only[zU,GU,jL h,EW,seval] at hx ⊢;exact hx _
 |cons p rest ih =>
  intro pre m h hfin;rw[bG];have dJ:pre.length+1<=100000:=by rw[h] at hn; simp at hn; omega
  have hw:=zp pre p;rw[eK] at hfin;have hi1:=ih (pre++[p]) (nt x.at' m p) (by rw[h]; simp) hfin
  clear hfin;have hput:=sE bK m p.node.ar p.node;unfold nt at hi1;simp only[zU,bL,iB,bK,aL,aA,aw,az,aG] at hi1 hput;simp only[zU,GU,iK h,gP h,bL,iB,mL,aL,EW,seval];cases h1:decide (p.kv<=x.at')<;>cases h2:decide (x.at'<p.BK)<;>simp only[h1,h2,GU,hw,hput,mapOf.eq_1,dV,af,aJ,aD,bkN,EW,seval] at hi1 ⊢
  all_goals exact hi1
def V1{s:iL}{x:mT}(hn:s.now.ae.length<=100000)(hl:s.since.length=s.now.ae.length){k:List K}{fin:AM Node}{r:Option (ag×aC)}
  (hx:∀e,kr (aq bW) [.tmp 4,.tmp 5] 0 k ⟨.exit 2,(2,ct 0)::(3,ct 1)::(6,ct 3)::e,zU s x fin⟩=r) :
  ∀(l pre:List Node)(y ypre:List Int)(m:AM Node),s.now.ae=pre++l->s.since=ypre++y->ypre.length=pre.length->sd x.at' l y m=fin->eX (aq bW) [.tmp 4,.tmp 5] 0 k (.loop [2,3,6,44,45,46] Z2) [(2,ct 0),(3,ct 1),(6,ct 3),(44,ba s.now.ae),(45,aF s.now.ae.length),(46,aF pre.length)] (zU s x m)=r:=by
 intro l;induction l with
 |nil =>
  intro pre y ypre m h hy hyl hfin;rw[bG];have hg:sd x.at' [] y m=m:=by unfold sd; rfl
  rw[hg] at hfin;subst hfin;simp only[zU,GU,jL h,EW,seval] at hx ⊢;exact hx _
 |cons n rest ih =>
  intro pre y ypre m h hy hyl hfin;rw[bG];have dJ:pre.length+1<=100000:=by rw[h] at hn; simp at hn; omega
  have hw:=zp pre n;cases y with
  |nil=>have h1:=congrArg List.length h; have h2:=congrArg List.length hy; simp at h1 h2; omega
  |cons c y =>
   have hxa:s.since[pre.length]?=some c:=by rw[hy,<-hyl]; simp
   have hi1:=ih (pre++[n]) y (ypre++[c]) (if decide (c<=x.at') then kR m n.ar n else m) (by rw[h]; simp) (by rw[hy]; simp) (by simp[hyl]) (by rw[<-hfin,sd])
   clear hfin;have hput:=sE bK m n.ar n;simp only[zU,bL,iB,bK,aL,aA,aw,az,aG] at hi1 hput;simp only[zU,GU,iK h,gP h,bL,iB,aL,hxa,EW,seval];cases h1:decide (c<=x.at')<;>simp only[h1,GU,hw,hput,mapOf.eq_1,af,aJ,aD,bkN,EW,seval] at hi1 ⊢
   all_goals exact hi1
def Fb(s:iL)(x:mT)(all:AM Node)(st:VS):aC:=[.cells (bL s),.cells (iB x),.map (B1 all) (pb bK all),.cells [.iw 2],.map (B1 st.1) (pb eU st.1),.cells [.iw 4],.arr 6 st.2.length (st.2.map bK),.cells [.cv 6 st.2.length 6 0 st.2.length],.cells [.func 271 [.ptr 5 0,.ptr 3 0,.ptr 7 0,.ptr 8 0]]]
end
section
def G9{α:Type}:B1 ([]:AM α)=[]:=rfl
def Ha{α:Type}(enc:α->ag):pb enc ([]:AM α)=[]:=rfl
def ak2{s:iL}{x:mT}{all:AM Node}{ar:Int}{st':VS}{b:Bool}(h:aq bW 271 [aF ar,ct 0,ct 1,ct 2,ct 3] (nv all ([],[]))=some (.bool b,nv all st')) :
  aU (aq bW) 271 [aF ar,ct 5,ct 3,ct 7,ct 8] (Fb s x all ([],[]))=some (.bool b,Fb s x all st'):=by
 have i1:qq (Fb s x all ([],[])) [5,3,7,8]=[4,2,6,5,3,7,8]:=rfl
 have i2:qq (Fb s x all ([],[])) [5,3,7,8,4,2,6]=[4,2,6,5,3,7,8]:=by
  show[4,2,6,5,3,7,8]++([]++((pb bK all).flatMap ag.ids++([]++[])))=_
  rw[amd]; rfl
 have e0:kb [] [5,3,7,8]=[5,3,7,8]:=rfl;have e1:kb [5,3,7,8] [4,2,6,5,3,7,8]=[5,3,7,8,4,2,6]:=rfl;have e2:kb [5,3,7,8,4,2,6] [4,2,6,5,3,7,8]=[5,3,7,8,4,2,6]:=rfl
 have hr:reach (Fb s x all ([],[])) [5,3,7,8]=[5,3,7,8,4,2,6]/\kC (Fb s x all ([],[])) [5,3,7,8,4,2,6]=[5,3,7,8,4,2,6]:=by
  simp only[reach,kC,e0,i1,e1,i2,e2,jU]
 have hp:j4 (Fb s x all ([],[])) (iv [5,3,7,8,4,2,6]) [5,3,7,8,4,2,6]=some (nv all ([],[])):=by
  simp only[Fb,j4,nth,cI.flat,flN,flU,bN,aJ,cI.pj,rnN,rnU];rfl
 refine lk (ids:=[5,3,7,8,4,2,6]) rfl hr.1 hp hr.2 rfl h rfl rfl (ab4 all st') rfl ?_;simp only[nv,Fb,mb,cI.pj,rnN,rnU,iP];rfl
def anL(n:Nat)(xs:List ag)(b0 b1 b2 b3 b4 b5 b7 b8:cI):j4 [b0,b1,b2,b3,b4,b5,.arr 6 n xs,b7,b8] (iv [6]) [6]=some [.arr 6 n xs]:=rfl
def Qf{l:List Node}(hl:l.length<=1000000)(hn:(l.map Node.ar).Nodup):aq bW 272 [.cv 0 l.length 6 0 l.length,.func 273 []] [.arr 6 l.length (l.map bK)]=some (.tuple [],[.arr 6 l.length ((Cq l).map bK)]):=by
 refine fe (g:=wE 6 0 273) rfl ?_;unfold wE;simp only[nth];have ht:(l.map bK).take l.length=l.map bK:=bC dy;have hd:(l.map bK).drop l.length=[]:=jm dy;rw[ht,hd,EG,cX];rw[fh]
 ·rfl
 ·refine⟨trivial,trivial,trivial,dy,trivial,aH,?_,?_⟩
  ·intro x hx;obtain⟨n,_,rfl⟩:=eJ.1 hx;rfl
  ·rw[gD];exact hn
attribute [local irreducible] eX fM lu gK dX kr aq aU cr bJ
def Jh(x:Node):∀l,(Hj x l).length=l.length+1
 | []=>rfl
 |y::r=>by simp only[Hj]; split<;>simp[Jh x r]
theorem BD:∀l,(Cq l).length=l.length
 | []=>rfl
 |x::r=>by simp[Cq,Jh,BD r]
def arj(s:iL)(x:mT)(hp:s.eR.length<=100000)(hpe:∀p,p∈s.eR->p.node.bc.length<=100000)(hz:Sz 200 s.now)(hl:s.since.length=s.now.ae.length) :
  aq bW 230 [qP s,kS x] []=some (.tuple [ba (DQ s x),.bool (xK s x).1],[]):=by
 refine aB ?_;obtain⟨g1,g2⟩:=xz x.at' s.eR [] ⟨fun k n h=>(by cases h),fun k n h=>(by cases h)⟩ hpe
 obtain⟨g3,g4⟩:=Bp x.at' s.now.ae s.since (s.eR.foldl (nt x.at') []) g1 (fun n hn=>by have:=hz.bc n hn; omega)
 have hall:(zw s x.at').length<=100200:=by have:=hz.ae; simp at g2; unfold zw; omega
 have hv:=arO (all:=zw s x.at') g3.own g3.bc 200001 x.ar ([],[]) (by have:=we (zw s x.at') []; simp only; omega) (by have:=we (zw s x.at') []; simp only[az]; omega)
 have hg:=xL (all:=zw s x.at') g3.own 200001 x.ar ([],[]);have hnd:=(hg.nodup dy dy).1;have dJ:(xK s x).2.2.length<=100200:=by have:=hg.len; have h2:=we (zw s x.at') []; simp only[az] at this; unfold xK; omega
 have q:=ak2 (s:=s) (x:=x) hv;have hs:=Qf (l:=(xK s x).2.2) aH hnd
 have q2:∀b0 b1 b2 b3 b4 b5 b7 b8,aU (aq bW) 272 [.cv 6 (xK s x).2.2.length 6 0 (xK s x).2.2.length,.func 273 []] [b0,b1,b2,b3,b4,b5,.arr 6 (xK s x).2.2.length ((xK s x).2.2.map bK),b7,b8] =
   some (.tuple [],[b0,b1,b2,b3,b4,b5,.arr 6 (xK s x).2.2.length ((DQ s x).map bK),b7,b8]):=fun b0 b1 b2 b3 b4 b5 b7 b8 =>
  lk (ids:=[6]) rfl rfl (anL _ _ ..) rfl rfl hs rfl rfl rfl rfl rfl
 have ht:List.take (xK s x).2.2.length ((DQ s x).map bK)=(DQ s x).map bK:=bC (by simp[DQ,BD])
 have l2:=V1 (s:=s) (x:=x) (by have:=hz.ae; omega) hl (fin:=zw s x.at') (r:=some (.tuple [ba (DQ s x),.bool (xK s x).1],[])) (k:=[.block 2,.seq abf]) (fun e=>by
  clear g1 g2 g3 g4 hv hg hnd hs;have hvv:j6 (zw s x.at') 200001 x.ar ([],[])=xK s x:=rfl;rw[hvv] at q;generalize xK s x=v at q q2 ht dJ ⊢;obtain⟨b,met,out⟩:=v;simp only[Fb,bL,iB,az,aQ,G9,Ha] at q q2 ht;simp only[zU,bL,iB,GU,q,q2,ht,EW,seval]) s.now.ae [] s.since [] (s.eR.foldl (nt x.at') []) rfl rfl rfl rfl
 have l1:=V0 (s:=s) (x:=x) hp (fin:=s.eR.foldl (nt x.at') []) (r:=some (.tuple [ba (DQ s x),.bool (xK s x).1],[])) (k:=[.block 0,.seq abg]) (fun e=>by
  simp only[zU,bL,iB,az] at l2;simp only[zU,bL,iB,GU,EW,seval];exact l2) s.eR [] [] rfl rfl
 simp only[zU,bL,iB,az,G9,Ha] at l1;simp only[Sq,GU,qP,kS,bL,iB,EW,seval];exact l1
def asW(s:iL)(x:mT)(hp:s.eR.length<=100000)(hpe:∀p,p∈s.eR->p.node.bc.length<=100000)(hz:Sz 200 s.now)(hl:s.since.length=s.now.ae.length)(M:aC) :
  aU (aq bW) 230 [.agg (bL s),.agg (iB x)] M=some (.tuple [ba (DQ s x),.bool (xK s x).1],M):=cO (arj s x hp hpe hz hl) M
def vl(s:iL)(id:Int):Int×List Node×Int:=match s.dP.find? (fun x=>x.id==id) with
 |some x=>(x.ar,DQ s x,0)
 |none=>(0,[],100)
def aak{s:iL}{id:Int}(hk:s.dP.length<=100000)(hp:s.eR.length<=100000)(hpe:∀p,p∈s.eR->p.node.bc.length<=100000)(hz:Sz 200 s.now)(hl:s.since.length=s.now.ae.length) :
  ∀(l pre:List mT),s.dP=pre++l->eX (aq bW) [.tmp 4,.tmp 5,.tmp 6] 0 [.block 0,.seq ahE] (.loop [1,2,12,13,14] ZM) [(1,aF id),(2,ct 0),(12,ki s.dP),(13,aF s.dP.length),(14,aF pre.length)] [cu (bL s)] =
   some (match l.find? (fun x=>x.id==id) with|some x => .tuple [aF x.ar,ba (DQ s x),aF 0]|none => .tuple [aF 0,ba [],aF 100],[]):=by
 intro l;induction l with
 |nil =>
  intro pre h;rw[bG];simp only[X3,jL h,List.find?_nil,bL,EW,seval];rfl
 |cons x rest ih =>
  intro pre h;rw[bG];have dJ:pre.length+1<=100000:=by rw[h] at hk; simp at hk; omega
  have hw:=zp pre x;have hi1:=ih (pre++[x]) (by rw[h]; simp)
  have q:=asW s x hp hpe hz hl;simp only[aA,aw,az,aG,bL,iB] at hi1 q;rw[List.find?_cons];simp only[X3,iK h,gP h,bL,iB,EW,seval];cases he:x.id==id<;>simp only[X3,he,q,hw,EW,seval]
  exact hi1
def aqx(s:iL)(id:Int)(hk:s.dP.length<=100000)(hp:s.eR.length<=100000)(hpe:∀p,p∈s.eR->p.node.bc.length<=100000)(hz:Sz 200 s.now)(hl:s.since.length=s.now.ae.length) :
  aq bW 164 [qP s,aF id] []=some (.tuple [aF (vl s id).1,ba (vl s id).2.1,aF (vl s id).2.2],[]):=by
 refine aB ?_;have hq:=aak (id:=id) hk hp hpe hz hl s.dP [] rfl;simp only[bL,az] at hq;simp only[acz,X3,qP,bL,EW,seval];refine ik hq ?_;unfold vl;split<;>rfl
def asC(s:iL)(id:Int)(hk:s.dP.length<=100000)(hp:s.eR.length<=100000)(hpe:∀p,p∈s.eR->p.node.bc.length<=100000)(hz:Sz 200 s.now)(hl:s.since.length=s.now.ae.length)(M:aC) :
  aU (aq bW) 164 [.agg (bL s),aF id] M=some (.tuple [aF (vl s id).1,ba (vl s id).2.1,aF (vl s id).2.2],M):=cO (aqx s id hk hp hpe hz hl) M
end
noncomputable def xI:zt:=⟨fun f=>if f=188 then some Sl else code f,oS⟩
def abq:vk Tryz.prog xI:=by
 refine⟨fun f fn h=>?_,NL⟩
 simp only[xI] at h;split at h
 ·rename_i hf;cases h; subst hf;exact⟨_,_,func188,anq⟩
 ·exact ML f fn h
def ahV:nJ Tryz.prog (aq xI):=qS fz abq
def Ke:∀n,wR (ka bW n) (ka xI n)
 |0,f,a,M,x,h=>by rw[ka] at h ⊢; exact h
 |n+1,f,a,M,x,h=>by
  rw[ka] at h ⊢;have hp:xI.oS f=bW.oS f:=rfl;rw[hp];split at h
  ·rename_i g hg; exact h
  ·rename_i hg;split at h
   ·cases h
   ·rename_i fn hfn
    have hc:xI.code f=some fn:=by
     simp only[xI];split
     ·rename_i hf; subst hf; cases hfn
     ·exact hfn
    rw[hc];split at h
    ·rename_i hl;simp only[aZ hl];obtain⟨o,ho,h⟩:=bo h;rw[jI (Ke n) _ ho,bN];exact h
    ·cases h
def abt{f:Nat}{a:List ag}{M:aC}{x:ag×aC}(h:aq bW f a M=some x):aq xI f a M=some x:=by
 obtain⟨n,hn⟩:=ug h;exact pR (fun n x h=>tw xI n f a M x h) (Ke n f a M x hn)
def lW{f:Nat}{vs:List ag}{M:aC}{x:ag×aC}(h:aU (aq bW) f vs M=some x):aU (aq xI) f vs M=some x:=by
 obtain⟨a,B,y,h1,h2⟩:=pO h;exact h2 _ (abt h1)
def Jb(t:Tree)(q:dN):Bool := !(find t.ae q.ar).isSome
def CY(n:dN):(iT n).all ag.je=true:=rfl
section
def ahC(z:Tree):j4 [cu (aM z)] (iv [0]) [0]=some [cu (aM z)]:=rfl
section
attribute [local irreducible] eX fM lu gK dX kr aq aU cr bJ
def aqT(q:dN)(t:Tree)(ht:Rt t):aq xI 190 [gx q,ct 0] [cu (aM t)]=some (.bool (Jb t q),[cu (aM t)]):=by
 refine aB ?_;have q1:=fun M=>lW (Fc t q.ar ht.small ht.lK M)
 unfold Jb;simp only[aL] at q1;simp only[acN,aoK,gx,iT,aM,q1,aL,b0T,CY,EW,seval]
def asL(q:dN)(t:Tree)(ht:Rt t)(p:Nat)(M:aC)(hM:nth M p=some (cu (aM t))):aU (aq xI) 190 [.agg (iT q),ct p] M=some (.bool (Jb t q),M) :=
 uG (f:=190) (p:=p) (vs:=[.agg (iT q)]) hM (aqT q t ht) rfl rfl rfl rfl rfl rfl rfl rfl rfl
def nQ(z:Tree)(l:List dN):List dN:=l.filter fun e => !Jb z e
def QC:dN:=⟨0,0,0⟩
abbrev anR(m:Nat):ag:=Ds 3 m
def aqS(xs:List dN)(z:Tree)(hz:Rt z)(hn:xs.length<=100000)(h0:xs≠[]):aq xI 188 [.cv 0 0 3 0 xs.length,.func 190 [ct 1]] [.arr 3 0 (xs.map gx),cu (aM z)] =
  some (anR (nQ z xs).length,[.arr 3 0 ((nQ z xs++List.replicate (xs.length-(nQ z xs).length) QC).map gx),cu (aM z)]) :=
 adE (sz:=3) (z:=[aF 0,aF 0,aF 0]) (zc:=[aF 0,aF 0,aF 0]) (gi:=245) (e:=iT) (zx:=QC) (p:=Jb z) fz rfl fz rfl rfl hn (fun _=>rfl) rfl mi (fun _=>rfl) (fun _=>rfl) (fun _=>rfl) ⟨fun _ _=>rfl,rfl,fun _=>rfl,rfl⟩ (fun e _ _=>asL e z hz 1 _ rfl) h0
end
def akY(z:Tree):aq xI 245 [gS [],.func 190 [ct 0]] [cu (aM z)]=some (aF (-1),[cu (aM z)]):=by
 refine aB ?_;simp only[adk,aiC,aM,b0T,CY,EW,seval];rw[bG];have h0:((0:Int)<((0:Nat):Int))=False:=dy;simp only[aiC,aM,h0,b0T,CY,EW,seval]
def akR(z:Tree):aq xI 188 [gS [],.func 190 [ct 0]] [cu (aM z)]=some (gS [],[cu (aM z)]):=by
 have h11:((-1:Int) == -1)=true:=rfl;have q:aU (aq xI) 245 [gS [],.func 190 [ct 0]] [cu (aM z)]=some (aF (-1),[cu (aM z)]):=lk (ids:=[0]) rfl rfl (ahC z) rfl rfl (akY z) rfl rfl rfl rfl rfl;refine aB ?_;simp only[aM] at q;simp only[Sl,aoJ,aM,q,h11,b0T,CY,EW,seval]
end
noncomputable def Ci(args:List ag)(M:aC):Option (ag×aC):=bJ (aq xI 188 args M) fun x=>cr (x.1.jn=false) (some (x.1.ry x.2,qz x.2 x.1.ids))
def K7{args:List ag}{M:aC}{x:ag×aC}(h:Ci args M=some x):db Tryz.prog 188 args M x:=by
 obtain⟨y,h1,h2⟩:=bo h;obtain⟨hp,h2⟩:=da h2;cases h2;exact FL (ahV _ _ _ _ h1).2 hp
def Qb(z:Tree):Ci [gS [],.func 190 [ct 0]] [cu (aM z)]=some (gS [],[cu (aM z)]):=by
 unfold Ci;rw[akR,bN];exact fh rfl
def Still(b:cI):Prop:=(∀B M,b.back B M=b)/\b.flat=true/\(∀ρ,b.pj ρ=b)
def WJ(xs:List dN)(z:Tree)(hz:Rt z)(hn:xs.length<=100000)(h0:xs≠[]):∃b,Still b/\Ci [.cv 0 0 3 0 xs.length,.func 190 [ct 1]] [.arr 3 0 (xs.map gx),cu (aM z)]=some (cK (nQ z xs),[b,cu (aM z)]):=by
 have h:=aqS xs z hz hn h0;unfold Ci;rw[h,bN];unfold anR Ds
 by_cases hl:(nQ z xs).length=0
 ·have h1:nQ z xs=[]:=dM.1 hl;refine⟨.arr 3 0 ((nQ z xs++List.replicate (xs.length-(nQ z xs).length) QC).map gx),⟨fun _ _=>rfl,rfl,fun _=>rfl⟩,?_⟩
  rw[aZ hl];refine(fh rfl).trans ?_;rw[h1];rfl
 ·refine⟨.tick 3 ((nQ z xs++List.replicate (xs.length-(nQ z xs).length) QC).map gx).length,⟨fun _ _=>rfl,rfl,fun _=>rfl⟩,?_⟩
  rw[aR hl];refine(fh rfl).trans ?_
  have ht:List.drop 0 (List.take (nQ z xs).length ((nQ z xs++List.replicate (xs.length-(nQ z xs).length) QC).map gx))=(nQ z xs).map gx:=by
   simp[eM]
  show some (ag.slice .sh (List.drop 0 (List.take (nQ z xs).length ((nQ z xs++List.replicate (xs.length-(nQ z xs).length) QC).map gx))),_)=_
  rw[ht];rfl
noncomputable def mc(T:zt)(f0:Nat)(g:List ag->aC->Option (ag×aC)):zt:=⟨T.code,fun f=>if f=f0 then some g else T.oS f⟩
def pX{P:Program}{T:zt}(hT:vk P T){f0:Nat}{g:List ag->aC->Option (ag×aC)}(he:lF P f0=true)(hg:∀ {args:List ag} {M:aC} {x:ag×aC},g args M=some x->db P f0 args M x):vk P (mc T f0 g):=by
 refine⟨hT.code,fun f g' h args M x hx=>?_⟩
 simp only[mc] at h;split at h
 ·rename_i hf;cases h; subst hf;exact⟨he,hg hx⟩
 ·exact hT.oS f g' h args M x hx
def Az{T:zt}{f0:Nat}{g:List ag->aC->Option (ag×aC)}(h1:T.code f0=none)(h2:T.oS f0=none):∀n,wR (ka T n) (ka (mc T f0 g) n)
 |0,f,a,M,x,h=>by
  by_cases hf:f=f0
  ·subst hf;rw[ka,h2] at h;cases h
  ·have hp:(mc T f0 g).oS f=T.oS f:=by simp[mc,hf]
   rw[ka] at h ⊢;rw[hp];exact h
 |n+1,f,a,M,x,h=>by
  by_cases hf:f=f0
  ·subst hf;rw[ka,h2,h1] at h;cases h
  ·have hp:(mc T f0 g).oS f=T.oS f:=by simp[mc,hf]
   rw[ka] at h ⊢;rw[hp];split at h
   ·rename_i g hg; exact h
   ·rename_i hg;have hc:(mc T f0 g).code f=T.code f:=rfl;rw[hc];split at h
    ·cases h
    ·rename_i fn hfn;split at h
     ·rename_i hl;simp only[aZ hl];obtain⟨o,ho,h⟩:=bo h;rw[jI (Az h1 h2 n) _ ho,bN];exact h
     ·cases h
def qZ{T:zt}{f0:Nat}{g:List ag->aC->Option (ag×aC)}(h1:T.code f0=none)(h2:T.oS f0=none){f:Nat}{a:List ag}{M:aC}{x:ag×aC}(h:aq T f a M=some x):aq (mc T f0 g) f a M=some x:=by
 obtain⟨n,hn⟩:=ug h;exact pR (fun n x h=>tw _ n f a M x h) (Az h1 h2 n f a M x hn)
noncomputable def an6:zt:=mc bW 188 Ci
def abr:vk Tryz.prog an6:=pX ahY fz (fun h=>K7 h)
noncomputable def gH:zt:=mc an6 165 Ek
def N5:vk Tryz.prog gH:=pX abr fz (fun h=>Qn h)
def Mo:nJ Tryz.prog (aq gH):=qS fz N5
def N6{f:Nat}{a:List ag}{M:aC}{x:ag×aC}(h:aq bW f a M=some x):aq gH f a M=some x:=qZ rfl rfl (qZ rfl rfl h)
def lS'{f:Nat}{a:List ag}{M:aC}{x:ag×aC}(h:aq bW f a M=some x):aq gH f a M=some x:=N6 h
def lS{f:Nat}{vs:List ag}{M:aC}{x:ag×aC}(h:aU (aq bW) f vs M=some x):aU (aq gH) f vs M=some x:=by
 obtain⟨a,B,y,h1,h2⟩:=pO h;exact h2 _ (N6 h1)
def afE(s:Bytes)(hs:s.length<=100000)(M:aC):aU (aq gH) 165 [.str s] M=some (.tuple [cZ (gy s).1,aF (gy s).2],M):=by
 have h:aq gH 165 [.str s] []=some (.tuple [cZ (gy s).1,aF (gy s).2],[]):=by
  refine fe (g:=Ek) rfl ?_;unfold Ek;simp only[];rw[aZ ⟨trivial,hs⟩]
 exact cO h M
section
def qQ{s:Bytes}(h:fU s=true):s.length<=32:=by
 unfold fU at h;simp only[bw,ij,jP,dv] at h;omega
def J9:∀(x:List (Bytes×Bool)) (n:Nat) (l:List Bytes),qI x n=some l->n<=12->(∀s,s∈l->fU s=true)/\l.length+n<=12
 | [],n,l,h,hn=>by
  simp only[qI,fY] at h;subst h;exact⟨fun s hs=>by simp at hs,gh⟩
 |x::r,n,l,h,hn=>by
  rw[qI] at h;split at h
  ·cases h
  ·rename_i hb;cases hr:qI r (n+1) with
   |none=>rw[hr] at h; cases h
   |some k =>
    rw[hr] at h;simp only[eo,fY] at h;subst h;have hb':E2 x n=false:=by simpa using hb
    unfold E2 at hb';simp only[jP,Bool.not_eq_false',ke] at hb';obtain⟨g1,g2⟩:=J9 r (n+1) k hr aH;refine⟨fun s hs=>?_,gh⟩
    rcases bI.1 hs with h1|h1
    ·subst h1; exact hb'.1.2
    ·exact g1 s h1
def yh(s:Bytes):(∀x,x∈(gy s).1->fU x=true)/\(gy s).1.length<=12:=by
 unfold gy;split
 ·exact⟨fun s hs=>by simp at hs,dy⟩
 ·split
  ·exact⟨fun s hs=>by simp at hs,dy⟩
  ·exact⟨fun s hs=>by simp at hs,dy⟩
  ·rename_i l hl;obtain⟨g1,g2⟩:=J9 _ 0 _ hl aH;exact⟨g1,aH⟩
def EI:∀l:List Bytes,BG (l.map ag.str)=some l
 | []=>rfl
 |s::r=>by
  show bJ (BG (r.map ag.str)) (fun l=>some (s::l))=_
  rw[EI r]; rfl
def DY(l:List Bytes)(h:∀x,x∈l->fU x=true):(Lib.join l [47]).length<=33*l.length:=by
 induction l with
 |nil=>simp[Lib.join]
 |cons a r ih =>
  have h1:=qQ (h a dy);have h2:=ih (fun x hx=>h x (by simp[hx]))
  cases r with
  |nil=>simp[Lib.join]; omega
  |cons b r=>simp[Lib.join] at h2 ⊢; omega
def Jl(l:List Bytes):Bytes:=if (l.length:Int)==0 then [47] else [47]++Lib.join l [47]
def Px(l:List Bytes)(h:∀x,x∈l->fU x=true)(hl:l.length<=12):(Jl l).length<=1000:=by
 unfold Jl;have:=DY l h;split<;>simp<;>omega
def ata(l:List Bytes)(h:∀x,x∈l->fU x=true)(hl:l.length<=12)(M:aC):aU (aq bW) 277 [cZ l,.str [47]] M=some (.str (Lib.join l [47]),M):=by
 have hq:aq bW 277 [cZ l,.str [47]] []=some (.str (Lib.join l [47]),[]):=by
  refine fe (g:=JN) rfl ?_;unfold JN;simp only[];rw[EI,bN,aZ];have:=DY l h;omega
 exact cO hq M
attribute [local irreducible] eX fM lu gK dX kr aq aU cr bJ
def art(l:List Bytes)(h:∀x,x∈l->fU x=true)(hl:l.length<=12):aq bW 238 [cZ l] []=some (.str (Jl l),[]):=by
 refine aB ?_;have q:=ata l h hl;have hm:(IntKind.i64.max<((1+(Lib.join l [47]).length:Nat):Int))=False:=max_lt _ (by have:=DY l h; omega)
 unfold Jl;simp only[adh,aiB,q,EW,seval];cases h0:(l.length:Int)==0<;>simp only[aiB,h0,af,aJ,aD,q,hm,EW,seval]
def asX l h hl:=cP (art l h hl)
def uf(s:Bytes):Bytes×Bytes×Int :=
 if (gy s).2 != 0||(((gy s).1.length:Int)==0) then ([],[],60)
 else ((gy s).1.getD ((gy s).1.length-1) [],Jl ((gy s).1.take ((gy s).1.length-1)),0)
def aqL(s:Bytes)(hs:s.length<=100000):aq gH 180 [.str s] []=some (.tuple [.str (uf s).1,.str (uf s).2.1,aF (uf s).2.2],[]):=by
 refine aB ?_;have q:=afE s hs;obtain⟨h1,h2⟩:=yh s;unfold uf;generalize gy s=l at q h1 h2 ⊢;obtain⟨l,e⟩:=l;simp only at h1 h2;have q2:=fun M=>lS (asX (l.take (l.length-1)) (fun x hx=>h1 x (dK hx)) gh M)
 simp only[cZ,eb] at q2;simp only[acJ,X6,q,EW,seval];cases he:e != 0
 ·cases h0:(l.length:Int)==0
  ·have hne:0<l.length:=by
    have:¬((l.length:Int)=0):=by simpa using h0
    omega
   have hw:IntKind.i64.wrap ((l.length:Int)-1)=((l.length-1:Nat):Int):=by rw[gv aH aH]; omega
   have hx:=ai (show l.length-1<l.length by omega)
   have hg:l.getD (l.length-1) []=l[l.length-1]:=by simp[List.getD,hx]
   have hle:((l.length-1:Nat):Int)<=(l.length:Int):=aH;have hz:((0:Int)<=((l.length-1:Nat):Int))=True:=dy;simp only[X6,he,h0,hw,hx,q2,hg,hle,hz,fG,af,aD,EW,seval]
  ·simp only[X6,he,h0,er,aJ,EW,seval]
 ·simp only[X6,he,dH,aJ,EW,seval]
def asI s hs:=cP (aqL s hs)
def F8(s:Bytes)(_hs:s.length<=100000):(uf s).1.length<=1000/\(uf s).2.1.length<=1000:=by
 obtain⟨h1,h2⟩:=yh s;unfold uf;split
 ·exact⟨dy,dy⟩
 ·refine⟨?_,Px _ (fun x hx=>h1 x (dK hx)) gh⟩
  simp only[List.getD];cases hx:(gy s).1[(gy s).1.length-1]? with
  |none=>simp
  |some x=>have:=qQ (h1 x (aK hx)); simp; omega
def BO(ae:List Node):List Bytes->Int->Int×Int
 | [],ar=>(ar,0)
 |s::r,ar=>if (fg ae ar s).2 != 0 then (0,(fg ae ar s).2) else BO ae r (fg ae ar s).1
def ky(t:Tree)(dG:Bytes):Int×Int:=if (gy dG).2 != 0 then (0,(gy dG).2) else BO t.ae (gy dG).1 1
def aan{t:Tree}(ht:Small t)(hr:rS t){xs:List Bytes}(hxs:∀x,x∈xs->x.length<=100000)(hn:xs.length<=100000) :
  ∀(l pre:List Bytes)(ar:Int),xs=pre++l->eX (aq gH) [.tmp 4,.tmp 5] 0 [.block 0,.seq ahG] (.loop [2,8,19,20,21] ZW) [(2,ct 0),(8,aF ar),(19,cZ xs),(20,aF xs.length),(21,aF pre.length)] [cu (aM t)] =
   some (.tuple [aF (BO t.ae l ar).1,aF (BO t.ae l ar).2],[]):=by
 intro l;induction l with
 |nil =>
  intro pre ar h;rw[bG];simp only[Ku,jL h,aM,BO,EW,seval]
 |cons s rest ih =>
  intro pre ar h;rw[bG];have dJ:pre.length+1<=100000:=by rw[h] at hn; simp at hn; omega
  have hw:=zp pre s;have hi1:=ih (pre++[s]) (fg t.ae ar s).1 (by rw[h]; simp)
  have q:=fun M=>lS (Zc t.ae t.next t.ak ar s ht hr (hxs s (by rw[h]; simp)) trivial M)
  rw[BO];generalize fg t.ae ar s=v at q hi1 ⊢;simp only[aA,aw,az,aG,aM] at hi1;simp only[Ku,iK h,gP h,aM,q,EW,seval];cases he:v.2 != 0
  ·simp only[Ku,he,hw,af,aD,EW,seval];exact hi1
  ·simp only[Ku,he,aJ,EW,seval]
def aqJ(t:Tree)(dG:Bytes)(ht:Small t)(hr:rS t)(hp:dG.length<=100000):aq gH 178 [bq t,.str dG] []=some (.tuple [aF (ky t dG).1,aF (ky t dG).2],[]):=by
 refine aB ?_;have q:=afE dG hp;obtain⟨h1,h2⟩:=yh dG;have hl:=aan ht hr (xs:=(gy dG).1) (fun x hx=>by have:=qQ (h1 x hx); omega) aH (gy dG).1 [] 1 rfl
 unfold ky;generalize gy dG=v at q hl ⊢;simp only[aM,az] at hl;simp only[acH,Ku,bq,aM,q,EW,seval];cases he:v.2 != 0
 ·simp only[Ku,he,af,aD,EW,seval];exact hl
 ·simp only[Ku,he,aJ,EW,seval]
def amt(t:Tree)(dG:Bytes)(ht:Small t)(hr:rS t)(hp:dG.length<=100000)(M:aC):aU (aq gH) 178 [.agg [ba t.ae,aF t.next,aF t.ak],.str dG] M=some (.tuple [aF (ky t dG).1,aF (ky t dG).2],M) :=
 cO (aqJ t dG ht hr hp) M
def ga(e:Int):ag := .nF (.iface 43 (.int .i64 e))
def apP(e:Int):aq gH 110 [aF e] []=some (if e != 0 then ga e else .tuple [],[]):=by
 refine aB ?_;simp only[ab6,ad3,EW,seval];cases he:e != 0
 ·simp only[ad3,af,aD,EW,seval]
 ·simp only[ad3,aJ,valOf,ga,EW,seval]
def oZ(e:Int)(M:aC):aU (aq gH) 110 [aF e] M=some (if e != 0 then ga e else .tuple [],M) :=
 CP (apP e) rfl rfl (by split<;>rfl) rfl (by split<;>rfl) M
def c53(b:Bool)(e:Int)(he:(e != 0)=true):aq gH 53 [.bool b,aF e] []=some (if b then .tuple [] else ga e,[]):=by
 refine aB ?_;have q:=oZ e;rw[aZ he] at q;cases b<;>simp only[alK,E53,q,ga,af,aJ,aD,EW,seval]
def QK(b:Bool)(e:Int)(he:(e != 0)=true)(M:aC):aU (aq gH) 53 [.bool b,aF e] M=some (if b then .tuple [] else ga e,M) :=
 CP (c53 b e he) rfl rfl (by split<;>rfl) rfl (by split<;>rfl) M
end
section
attribute [local irreducible] eX fM lu gK dX kr aq aU cr bJ
def cg(f:aa)(o:jA):List ag:=[ba f.s.now.ae,.int .i64 f.s.now.next,.int .i64 f.s.now.ak,.int .i64 f.s.tick,tX f.s.since,r8 f.s.eR,ki f.s.dP,.int .i64 f.s.next,fI f.holds,cK f.dR,
 .int .i64 o.kind,.int .i64 o.bF,.str o.dG,.str o.vd,.int .i64 o.n,.int .i64 o.m,.int .i64 o.handle,cR o.data,
 .int .i64 0,.int .i64 0,.int .i64 0,.int .i64 0,.int .i64 0,.slice .c0 [],.slice .c0 []]
abbrev dh(f:aa)(o:jA):cI := .cells (cg f o)
def dA(f:aa)(o:jA)(a:vR)(x y:ag):cI := .cells [ba f.s.now.ae,.int .i64 f.s.now.next,.int .i64 f.s.now.ak,.int .i64 f.s.tick,tX f.s.since,r8 f.s.eR,ki f.s.dP,.int .i64 f.s.next,fI f.holds,cK f.dR,
 .int .i64 o.kind,.int .i64 o.bF,.str o.dG,.str o.vd,.int .i64 o.n,.int .i64 o.m,.int .i64 o.handle,cR o.data,
 .int .i64 a.err,.int .i64 a.ar,.int .i64 a.kind,.int .i64 a.n,.int .i64 a.m,x,y]
def Row(x:ag)(xs:List ag):Prop:=x = .slice .sh xs\/(x = .slice .c0 []/\xs=[])
def pn(K:Nat)(f:aa)(o:jA)(r:aa×vR×Int):Prop :=
 ∃x y,Row x (r.2.1.names.map ag.str)/\Row y (r.2.1.data.map pt)/\aq gH K [.ptr 0 0] [.cells (cg f o)]=some (if r.2.2 != 0 then ga r.2.2 else .tuple [],[dA r.1 o r.2.1 x y])
def gr:vR:=⟨0,0,0,0,0,[],[]⟩
def Jm{C:eP}{g p:Nat}{vs:List ag}{r:ag}{M:aC}{f f':aa}{o o':jA}(hM:nth M p=some (dh f o))(h:C g (.ptr 0 0::vs) [dh f o]=some (r,[dh f' o']))
  (h1:vs.all ag.flat=true) (h2:vs.flatMap ag.ids=[]) (h3:r.wA=true) (h4:∀p,vs.map (ag.pj (iv [p]))=vs) (h5:∀p,r.Ap (wv [p])=r) :
  aU C g (.ptr p 0::vs) M=some (r,iP M p (dh f' o')) :=
 ti hM h h1 h2 h3 (h4 p) (h5 p) rfl rfl rfl rfl rfl
def aqK(f:aa)(o:jA)(ar:Int)(ht:Small f.s.now)(hr:rS f.s.now):aq gH 179 [ct 0,aF ar] [dh f o]=some (.agg (aL (bl f.s.now.ae ar)),[dh f o]):=by
 refine aB ?_;have q:=fun M=>lS (Fc f.s.now ar ht hr M)
 simp only[aL] at q;simp only[acI,aoH,dh,cg,q,aL,EW,seval]
def amu(f:aa)(o:jA)(ar:Int)(ht:Small f.s.now)(hr:rS f.s.now){p:Nat}{M:aC}(hM:nth M p=some (dh f o)):aU (aq gH) 179 [ct p,aF ar] M=some (.agg (aL (bl f.s.now.ae ar)),M):=by
 have:=Jm hM (aqK f o ar ht hr) rfl rfl rfl (fun _=>rfl) (fun _=>rfl)
 rwa[uR hM] at this
def aqf(f:aa)(o:jA)(dG:Bytes)(ht:Small f.s.now)(hr:rS f.s.now)(hp:dG.length<=100000):aq gH 145 [ct 0,.str dG] [dh f o] =
  some (if (ky f.s.now dG).2 != 0 then ga (ky f.s.now dG).2 else .agg (aL (bl f.s.now.ae (ky f.s.now dG).1)),[dh f o]):=by
 refine aB ?_;have q1:=amt f.s.now dG ht hr hp;generalize ky f.s.now dG=v at q1 ⊢;have q2:=oZ v.2;have q3:∀b,aU (aq gH) 179 [ct 0,aF v.1] [dh f o,b]=some (.agg (aL (bl f.s.now.ae v.1)),[dh f o,b]):=fun b=>amu f o v.1 ht hr (p:=0) rfl
 simp only[dh,cg,aL] at q3;simp only[acq,ad9,dh,cg,q1,EW,seval];cases he:v.2 != 0<;>simp only[he,af,aJ,aD,ga] at q2 ⊢
 ·simp only[ad9,q2,q3,aL,EW,seval]
 ·simp only[ad9,q2,EW,seval]
def LH(f:aa)(o:jA)(dG:Bytes)(ht:Small f.s.now)(hr:rS f.s.now)(hp:dG.length<=100000){p:Nat}{M:aC}(hM:nth M p=some (dh f o)):aU (aq gH) 145 [ct p,.str dG] M =
  some (if (ky f.s.now dG).2 != 0 then ga (ky f.s.now dG).2 else .agg (aL (bl f.s.now.ae (ky f.s.now dG).1)),M):=by
 have:=Jm hM (aqf f o dG ht hr hp) rfl rfl (by split<;>rfl) (fun _=>rfl) (fun _=>by split<;>rfl)
 rwa[uR hM] at this
def mR(t:Tree)(dG:Bytes):Int×Bytes×Int :=
 if (uf dG).2.2 != 0 then (0,[],(uf dG).2.2)
 else if (ky t (uf dG).2.1).2 != 0 then (0,[],(ky t (uf dG).2.1).2)
 else ((ky t (uf dG).2.1).1,(uf dG).1,0)
def aqg(f:aa)(o:jA)(dG:Bytes)(ht:Small f.s.now)(hr:rS f.s.now)(hp:dG.length<=100000):aq gH 146 [ct 0,.str dG] [dh f o] =
  some (if (mR f.s.now dG).2.2 != 0 then ga (mR f.s.now dG).2.2 else .tuple [aF (mR f.s.now dG).1,.str (mR f.s.now dG).2.1],[dh f o]):=by
 refine aB ?_;have q1:=asI dG hp;have hl:=F8 dG hp;have q4:=amt f.s.now (uf dG).2.1 ht hr aH;unfold mR;generalize uf dG=l at q1 q4 ⊢;have q2:=oZ l.2.2;generalize ky f.s.now l.2.1=v at q4 ⊢;have q3:=oZ v.2;simp only[acr,X1,dh,cg,q1,EW,seval];cases he:l.2.2 != 0<;>simp only[he,af,aJ,aD,ga] at q2 ⊢
 ·cases hv:v.2 != 0<;>simp only[hv,af,aJ,aD,ga] at q3 ⊢
  ·simp only[X1,q2,q4,q3,av,af,aD,EW,seval]
  ·simp only[X1,q2,q4,q3,hv,aJ,EW,seval]
 ·simp only[X1,q2,he,aJ,EW,seval]
def S1(f:aa)(o:jA)(dG:Bytes)(ht:Small f.s.now)(hr:rS f.s.now)(hp:dG.length<=100000){p:Nat}{M:aC}(hM:nth M p=some (dh f o)):aU (aq gH) 146 [ct p,.str dG] M =
  some (if (mR f.s.now dG).2.2 != 0 then ga (mR f.s.now dG).2.2 else .tuple [aF (mR f.s.now dG).1,.str (mR f.s.now dG).2.1],M):=by
 have:=Jm hM (aqg f o dG ht hr hp) rfl rfl (by split<;>rfl) (fun _=>rfl) (fun _=>by split<;>rfl)
 rwa[uR hM] at this
def Cp(n:Node):Int:=if (n.data.length:Int)<(n.bc.length:Int) then (n.bc.length:Int) else (n.data.length:Int)
def aqp(n:Node):aq gH 155 [.agg (aL n)] []=some (aF (Cp n),[]):=by
 refine aB ?_;simp only[acy,aoE,bK,aL,Cp,EW,seval]
def aaj{xs:List gI}(hn:xs.length<=100000){k:List K}{R:List Bytes->Option (ag×aC)}
  (hx:∀(out:List Bytes) e,kr (aq gH) [.tmp 2] 0 k ⟨.exit 0,(3,.slice (.own 0) (out.map ag.str))::e,[.tick 1 out.length]⟩=R out) :
  ∀(l pre:List gI)(out:List Bytes),xs=pre++l->out.length<=pre.length->eX (aq gH) [.tmp 2] 0 k (.loop [3,6,7,8] ZJ) [(3,.slice (.own 0) (out.map ag.str)),(6,ja xs),(7,aF xs.length),(8,aF pre.length)] [.tick 1 out.length]=R (out++l.map gI.name):=by
 intro l;induction l with
 |nil =>
  intro pre out h ho;rw[bG];simp only[X2,jL h,EW,seval];exact hx _ _
 |cons n rest ih =>
  intro pre out h ho;rw[bG];have dJ:pre.length+1<=100000:=by rw[h] at hn; simp at hn; omega
  have hw:=zp pre n;have hi:=ih (pre++[n]) (out++[n.name]) (by rw[h]; simp) gh
  simp only[aA,aw,az,aW,aE,aQ,aG,bZ,aI,aP] at hi;have r1:cp (out.length+1) 16=True:=qH;simp only[X2,iK h,gP h,gd,r1,hw,EW,seval];exact hi
def aqo(l:List gI)(hn:l.length<=100000):aq gH 154 [ja l] []=some (cZ (l.map gI.name),[]):=by
 refine aB ?_;have hl:=aaj hn (k:=[.block 0,.seq ahD]) (R:=fun out=>some (cZ out,[])) (fun out e=>by simp only[X2,EW,seval]) l [] [] rfl (au _)
 simp only[aQ,az] at hl;simp only[Sc,X2,EW,seval];exact hl
def afB l hn:=cP (aqo l hn)
def afC n:=cP (aqp n)
end
section
abbrev eI:Int->ag:=fun n => .int .i64 n
def bkI(B:Nat)(M:aC)(l:AM Int):List.map (ag.jX B M) (pb eI l)=pb eI l:=YA _ _ _ (fun _=>rfl) l
attribute [local irreducible] eX fM lu gK dX kr aq aU cr bJ
def zK(ae:List Node)(dom:Int):List gI->AM Int->Option (AM Int)
 | [],m=>some m
 |e::r,m=>if (bl ae e.ar).kind==1&&(eY m e.ar).isSome&&((eY m e.ar).getD 0 != dom) then none else zK ae dom r (kR m e.ar dom)
def tV(ae:List Node)(l:List dN):List Node->AM Int->Bool
 | [],_=>true
 |d::r,m=>if (d.bc.length:Int)==0 then tV ae l r m else match zK ae (mg ae l d.ar) d.bc m with
  |none=>false
  |some m'=>tV ae l r m'
def se(t:Tree)(l:List dN):Bool:=tV t.ae l t.ae []
def VX{t:Tree}(ht:Small t)(hr:rS t){ql:List dN}{d:Node}{dom i n0:Int}{k:List K}{R:Option (AM Int)->Option (ag×aC)}(hn:d.bc.length<=100000)
  (hx:∀m e,kr (aq bW) [.tmp 4] 0 k ⟨.exit 2,(1,cK ql)::(2,ct 0)::(5,.iw 1)::(8,aF dom)::(17,ba t.ae)::(18,aF n0)::(19,aF i)::e,[cu (aM t),.map (B1 m) (pb eI m),cu (aL d)]⟩=R (some m))
  (hret:∀m b1 b2,kr (aq bW) [.tmp 4] 0 k ⟨.ret,[(4,.bool false)],[cu (aM t),.map (B1 m) (pb eI m),cu (aL d),b1,b2]⟩=R none) :
  ∀(l pre:List gI)(m:AM Int),d.bc=pre++l->eX (aq bW) [.tmp 4] 0 k (.loop [1,2,5,8,17,18,19,33,34,35] ZY) [(1,cK ql),(2,ct 0),(5,.iw 1),(8,aF dom),(17,ba t.ae),(18,aF n0),(19,aF i),(33,ja d.bc),(34,aF d.bc.length),(35,aF pre.length)] [cu (aM t),.map (B1 m) (pb eI m),cu (aL d)] =
   R (zK t.ae dom l m):=by
 simp only[aM,aL] at hx hret ⊢;intro l;induction l with
 |nil =>
  intro pre m h;rw[bG];simp only[C5,jL h,zK,bkI,EW,seval];exact hx _ _
 |cons e rest ih =>
  intro pre m h;rw[bG];have dJ:pre.length+1<=100000:=by rw[h] at hn; simp at hn; omega
  have hw:=zp pre e;have q1:=Fc t e.ar ht hr;have hput:=sE eI m e.ar dom;have hi:=ih (pre++[e]) (kR m e.ar dom) (by rw[h]; simp)
  rw[zK];simp only[aL,aA,aw,az,aG] at q1 hi;simp only[C5,iK h,gP h,gd,q1,o5,mapOf.eq_1,EW,seval];cases hm:eY m e.ar with
  |none =>
   cases hk:(bl t.ae e.ar).kind==1<;>simp only[C5,hm,hk,VF,hput,hw,mapOf.eq_1,bkI,oJ,dg,dV,dW,af,aD,EW,seval]
   ·exact hi
   ·exact hi
  |some v =>
   cases hk:(bl t.ae e.ar).kind==1<;>cases hd:v != dom<;>simp only[C5,hm,hk,hd,Nw,hput,hw,mapOf.eq_1,bkI,bX,bA,dV,dW,dZ,af,aJ,aD,EW,seval]
   ·exact hi
   ·exact hi
   ·exact hi
   ·exact hret _ _ _
def VY{t:Tree}{dD:Int->Nat}(ht:dS t dD 0){ql:List dN}(hq:pw ql)(hql:ql.length<=100000) :
  ∀(l pre:List Node)(m:AM Int),t.ae=pre++l->eX (aq bW) [.tmp 4] 0 [.block 0,.seq NQ] (.loop [1,2,5,17,18,19] Nr) [(1,cK ql),(2,ct 0),(5,.iw 1),(17,ba t.ae),(18,aF t.ae.length),(19,aF pre.length)] [cu (aM t),.map (B1 m) (pb eI m)] =
   some (.bool (tV t.ae ql l m),[]):=by
 intro l;induction l with
 |nil =>
  intro pre m h;rw[bG];simp only[C5,jL h,tV,aM,EW,seval]
 |cons d rest ih =>
  intro pre m h;rw[bG];have hn:=ht.ae;have dJ:pre.length+1<=200:=by rw[h] at hn; simp at hn; omega
  have hw:=zp pre d;have hi:=fun m=>ih (pre++[d]) m (by rw[h]; simp)
  have hfd:find t.ae d.ar=some d:=(ic ht.lK.mo).2 ⟨by rw[h]; simp,rfl⟩
  rw[tV];simp only[aM,aA,aw,az,aG] at hi;simp only[C5,iK h,gP h,aM,aL,EW,seval];cases he:(d.bc.length:Int)==0
  ·have hk:d.kind=2:=by
    rcases ht.kind _ _ hfd with h1|h1
    ·rw[(ht.file _ _ hfd h1).1] at he; simp at he
    ·exact h1
   have q1:=asY ht hq hql hfd hk
   have hin:=VX ht.sz.HH ht.lK (ql:=ql) (d:=d) (dom:=mg t.ae ql d.ar) (i:=pre.length) (n0:=t.ae.length) (k:=[.block 2,.block 1,.seq abe,.loop [1,2,5,17,18,19] 2 Nr,.block 0,.seq NQ])
    (R:=fun o=>some (.bool (match o with|none=>false|some m'=>tV t.ae ql rest m'),[])) (by have:=(ht.yl _ _ hfd).2; omega)
    (fun m e=>by
     have:=hi m;simp only[aM,aL,C5,hw,bkI,EW,seval];exact this)
    (fun m b1 b2=>by simp only[aM,aL,C5,EW,seval]) d.bc [] m rfl
   simp only[aM,aL,az] at hin;simp only[C5,he,q1,af,aD,EW,seval];refine hin.trans ?_;rfl
  ·simp only[C5,he,hw,aJ,bkI,EW,seval];exact hi m
def aqV(t:Tree)(l:List dN)(ht:Rt t)(hq:pw l)(hl:l.length<=100000):aq bW 192 [bq t,cK l] []=some (.bool (se t l),[]):=by
 obtain⟨dD,ht⟩:=ht;refine aB ?_;have h:=VY ht hq hl t.ae [] [] rfl;simp only[aM,az] at h;simp only[acP,C5,bq,aM,EW,seval];exact h
def asM(t:Tree)(l:List dN)(ht:Rt t)(hq:pw l)(hl:l.length<=100000)(M:aC):aU (aq bW) 192 [.agg [ba t.ae,aF t.next,aF t.ak],cK l] M=some (.bool (se t l),M):=cO (aqV t l ht hq hl) M
end
section
def Gp{args:List ag}{M:aC}{x:ag×aC}(h:Ci args M=some x):aq gH 188 args M=some x:=fe (T:=gH) (g:=Ci) rfl h
def anJ(xs:List ag)(z:Tree)(W:cI):j4 [W,cu (aM z),.arr 3 0 xs] (iv [2,1]) [2,1]=some [.arr 3 0 xs,cu (aM z)]:=rfl
def ahy(z:Tree)(W:cI):j4 [W,cu (aM z)] (iv [1]) [1]=some [cu (aM z)]:=rfl
attribute [local irreducible] eX fM lu gK dX kr aq aU cr bJ
def amy(z:Tree)(W:cI):aU (aq gH) 188 [gS [],.func 190 [ct 1]] [W,cu (aM z)]=some (gS [],[W,cu (aM z)]) :=
 lk (ids:=[1]) rfl rfl (ahy z W) rfl rfl (Gp (Qb z)) rfl rfl rfl rfl rfl
def asK(xs:List dN)(z:Tree)(hz:Rt z)(hn:xs.length<=100000)(h0:xs≠[])(W:cI):∃b,Still b/\aU (aq gH) 188 [.cv 2 0 3 0 xs.length,.func 190 [ct 1]] [W,cu (aM z),.arr 3 0 (xs.map gx)] =
  some (cK (nQ z xs),[W,cu (aM z),b]):=by
 obtain⟨b,hb,h⟩:=WJ xs z hz hn h0;refine⟨b,hb,lk (ids:=[2,1]) rfl rfl (anJ _ z W) rfl rfl (Gp h) rfl rfl ?_ rfl ?_⟩
 ·simp only[kL,hb.2.1]; rfl
 ·simp only[mb,hb.2.2]; rfl
def ru(l:List fD):List Int->Tree->Tree
 | [],t=>t
 |i::r,t=>ru l r (if !pQ l i then (kJ t i).1 else t)
def A6(l:List fD):∀(r:List Int)(t:Tree),Rt t->Rt (ru l r t)
 | [],t,h=>h
 |i::r,t,h=>by
  rw[ru];refine A6 l r _ ?_;split
  ·exact h.free i
  ·exact h
def VO{f:aa}{o:jA}{q:List dN}(hh:f.holds.length<=100000){xs:List Int}(hn:xs.length<=100000){fin:Tree}{k:List K}{r:Option (ag×aC)}
  (hx:∀e,kr (aq gH) [] 1 k ⟨.exit 0,(0,ct 0)::(2,cK q)::(4,ct 1)::e,[dh f o,cu (aM fin)]⟩=r) :
  ∀(l pre:List Int)(t:Tree),xs=pre++l->Rt t->ru f.holds l t=fin->eX (aq gH) [] 1 k (.loop [0,2,4,13,14,15] ZI) [(0,ct 0),(2,cK q),(4,ct 1),(13,tX xs),(14,aF xs.length),(15,aF pre.length)] [dh f o,cu (aM t)]=r:=by
 simp only[dh,cg,aM] at hx ⊢;intro l;induction l with
 |nil =>
  intro pre t h ht hfin;rw[bG];rw[ru] at hfin;subst hfin;simp only[te,jL h,EW,seval];exact hx _
 |cons i rest ih =>
  intro pre t h ht hfin;rw[bG];have dJ:pre.length+1<=100000:=by rw[h] at hn; simp at hn; omega
  have hw:=zp pre i;rw[ru] at hfin;have hi1:=ih (pre++[i]) t (by rw[h]; simp) ht
  have hi2:=ih (pre++[i]) (kJ t i).1 (by rw[h]; simp) (ht.free i)
  have q1:∀M,nth M 2=some (cu [aF i])->aU (aq gH) 185 [fI f.holds,.func 186 [ct 2]] M=some (.bool (pQ f.holds i),M):=fun M hM=>lS (zB hM (akQ f.holds i hh) rfl rfl rfl)
  have q2:=fun M=>lS (amx t i ht.small ht.lK M)
  simp only[aM,aA,aw,az,aG] at hi1 hi2 q2;simp only[te,iK h,gP h,q1,EW,seval];cases he:pQ f.holds i<;>rw[he] at hfin
  ·simp only[fO,aJ] at hfin;have:=hi2 hfin;simp only[te,he,q2,hw,EW,seval];exact this
  ·simp only[dQ,af,aD] at hfin;have:=hi1 hfin;simp only[te,he,hw,EW,seval];exact this
def nr(t:Tree)(q:dN):Bool := !(decide ((lq t.ae q.ar).1<=q.ae)&&decide ((lq t.ae q.ar).2<=q.bytes))
def PM{f:aa}{o:jA}{t:Tree}(ht:Rt t){xs:List dN}(hn:xs.length<=100000){k:List K}{r:Option (ag×aC)}
  (hx:∀e,xs.any (nr t)=false->kr (aq gH) [] 1 k ⟨.exit 2,(0,.ptr 0 0)::(2,cK xs)::(4,.ptr 1 0)::e,[dh f o,.cells (aM t)]⟩=r)
  (hp:∀c,xs.any (nr t)=true->kr (aq gH) [] 1 k ⟨.nF (.iface 43 (.int .i64 90)),[],[dh f o,.cells (aM t),c]⟩=r) :
  ∀(l pre:List dN),xs=pre++l->pre.any (nr t)=false->eX (aq gH) [] 1 k (.loop [0,2,4,42,43,44] Nq) [(0,.ptr 0 0),(2,cK xs),(4,.ptr 1 0),(42,cK xs),(43,.int .i64 xs.length),(44,.int .i64 pre.length)] [dh f o,.cells (aM t)]=r:=by
 simp only[dh,cg,aM] at hx hp ⊢;intro l;induction l with
 |nil =>
  intro pre h hpre;rw[bG];have hany:xs.any (nr t)=false:=by rw[h,cX]; exact hpre
  simp only[te,jL h,EW,seval];exact hx _ hany
 |cons q rest ih =>
  intro pre h hpre;rw[bG];have dJ:pre.length+1<=100000:=by rw[h] at hn; simp at hn; omega
  have hw:=zp pre q;have q1:=fun M=>lS (afF ht q.ar M)
  have q2:=fun bb=>QK bb 90 rfl
  have hov:∀z,nr t q=z->(decide ((lq t.ae q.ar).1<=q.ae)&&decide ((lq t.ae q.ar).2<=q.bytes)) = !z:=fun z hz=>by rw[<-hz]; unfold nr; simp
  simp only[te,iK h,gP h,iT,q1,EW,seval];cases ho:nr t q
  ·have hi:=ih (pre++[q]) (by rw[h]; simp) (by simp[hpre,ho])
   have hv:=hov _ ho;simp only[aA,aw,az,aG] at hi;simp only[fO,bw] at hv;simp only[te,hv.1,hv.2,q2,hw,aJ,EW,seval];exact hi
  ·have hany:xs.any (nr t)=true:=by rw[h]; simp[ho]
   have hv:=hov _ ho;cases h1:decide ((lq t.ae q.ar).1<=q.ae)<;>cases h2:decide ((lq t.ae q.ar).2<=q.bytes)<;>simp only[h1,h2,jO,dQ] at hv
   ·simp only[te,h1,h2,q2,ga,af,aD,EW,seval];exact hp _ hany
   ·simp only[te,h1,h2,q2,ga,af,aD,EW,seval];exact hp _ hany
   ·simp only[te,h1,h2,q2,ga,af,aD,EW,seval];exact hp _ hany
   ·cases hv
def PL{f:aa}{o:jA}{t:Tree}(ht:Rt t){xs:List dN}(hn:xs.length<=100000){b:cI}(hbb:Still b){k:List K}{r:Option (ag×aC)}
  (hx:∀e,xs.any (nr t)=false->kr (aq gH) [] 1 k ⟨.exit 2,(0,.ptr 0 0)::(2,cK xs)::(4,.ptr 1 0)::e,[dh f o,.cells (aM t),b]⟩=r)
  (hp:∀c,xs.any (nr t)=true->kr (aq gH) [] 1 k ⟨.nF (.iface 43 (.int .i64 90)),[],[dh f o,.cells (aM t),b,c]⟩=r) :
  ∀(l pre:List dN),xs=pre++l->pre.any (nr t)=false->eX (aq gH) [] 1 k (.loop [0,2,4,42,43,44] Nq) [(0,.ptr 0 0),(2,cK xs),(4,.ptr 1 0),(42,cK xs),(43,.int .i64 xs.length),(44,.int .i64 pre.length)] [dh f o,.cells (aM t),b]=r:=by
 simp only[dh,cg,aM] at hx hp ⊢;intro l;induction l with
 |nil =>
  intro pre h hpre;rw[bG];have hany:xs.any (nr t)=false:=by rw[h,cX]; exact hpre
  simp only[te,jL h,EW,seval];exact hx _ hany
 |cons q rest ih =>
  intro pre h hpre;rw[bG];have dJ:pre.length+1<=100000:=by rw[h] at hn; simp at hn; omega
  have hw:=zp pre q;have q1:=fun M=>lS (afF ht q.ar M)
  have q2:=fun bb=>QK bb 90 rfl
  have hov:∀z,nr t q=z->(decide ((lq t.ae q.ar).1<=q.ae)&&decide ((lq t.ae q.ar).2<=q.bytes)) = !z:=fun z hz=>by rw[<-hz]; unfold nr; simp
  simp only[te,iK h,gP h,iT,q1,EW,seval];cases ho:nr t q
  ·have hi:=ih (pre++[q]) (by rw[h]; simp) (by simp[hpre,ho])
   have hv:=hov _ ho;simp only[aA,aw,az,aG] at hi;simp only[fO,bw] at hv;simp only[te,hv.1,hv.2,q2,hw,aJ,hbb.1,EW,seval];exact hi
  ·have hany:xs.any (nr t)=true:=by rw[h]; simp[ho]
   have hv:=hov _ ho;cases h1:decide ((lq t.ae q.ar).1<=q.ae)<;>cases h2:decide ((lq t.ae q.ar).2<=q.bytes)<;>simp only[h1,h2,jO,dQ] at hv
   ·simp only[te,h1,h2,q2,ga,af,aD,EW,seval];exact hp _ hany
   ·simp only[te,h1,h2,q2,ga,af,aD,EW,seval];exact hp _ hany
   ·simp only[te,h1,h2,q2,ga,af,aD,EW,seval];exact hp _ hany
   ·cases hv
def j5(f:aa)(t:Tree)(q:List dN):aa×Int :=
 if !se (ru f.holds (mP t) t) (nQ (ru f.holds (mP t) t) q) then (f,91)
 else if (nQ (ru f.holds (mP t) t) q).any (nr (ru f.holds (mP t) t)) then (f,90)
 else (⟨qt f.s (ru f.holds (mP t) t),f.holds,nQ (ru f.holds (mP t) t) q⟩,0)
structure vg(f:aa):Prop where
 rt:Rt f.s.now
 len:f.s.since.length=f.s.now.ae.length
 eR:f.s.eR.length<=90000
 Ep:∀p,p∈f.s.eR->p.node.bc.length<=64/\p.node.data.length<=4096
 dP:f.s.dP.length<=16
 holds:uA f.holds
 dJ:f.holds.length<=64
 dR:pw f.dR
 sI:f.dR.length<=16
def amp(s:iL)(t:Tree)(hs:rS s.now)(hz:Sz 200 s.now)(ht:rS t)(hzt:Sz 200 t)(hk:s.dP.length<=100000)(hl:s.since.length=s.now.ae.length)(hp:s.eR.length<=100000)(M:aC) :
  aU (aq bW) 158 [.agg (bL s),.agg [ba t.ae,aF t.next,aF t.ak]] M=some (.agg (bL (qt s t)),M):=cO (aqs s t hs hz ht hzt hk hl hp) M
def F6{t:Tree}{q:List dN}(h:pw q):pw (nQ t q):=jQ _ h
def Bi(t:Tree)(q:List dN):(nQ t q).length<=q.length:=bT _ _
def aqi(f:aa)(o:jA)(t:Tree)(q:List dN)(hf:vg f)(ht:Rt t)(hq:pw q)(hql:q.length<=16):aq gH 148 [ct 0,bq t,cK q] [dh f o] =
  some (if (j5 f t q).2 != 0 then ga (j5 f t q).2 else .tuple [],[dh (j5 f t q).1 o]):=by
 refine aB ?_;have q0:=fun M=>lS (asJ t (by have:=ht.sz.ae; omega) M)
 have hor:(mP t).length<=100000:=by have:=ht.sz.ae; have h2:=bT gQ t.ae; unfold mP; simp; omega
 have hl:=VO (f:=f) (o:=o) (q:=q) (by have:=hf.dJ; omega) (xs:=mP t) hor (fin:=ru f.holds (mP t) t) (k:=[.block 0,.seq abb])
  (r:=some (if (j5 f t q).2 != 0 then ga (j5 f t q).2 else .tuple [],[dh (j5 f t q).1 o])) ?_ (mP t) [] t rfl ht rfl
 ·simp only[dh,cg,aM,az] at hl;simp only[Sb,te,dh,cg,bq,aM,q0,EW,seval];exact hl
 ·intro e;have ht1:=A6 f.holds (mP t) t ht;unfold j5;generalize ru f.holds (mP t) t=t1 at ht1 ⊢;have q1:=fun M=>lS (asM t1 (nQ t1 q) ht1 (F6 hq) (by have:=Bi t1 q; omega) M)
  have q2:=fun bb=>QK bb 91 rfl
  have q3:=fun M=>lS (amp f.s t1 hf.rt.lK hf.rt.sz ht1.lK ht1.sz (by have:=hf.dP; omega) hf.len (by have:=hf.eR; omega) M)
  generalize qt f.s t1=ps at q3 ⊢;simp only[bL] at q3
  by_cases h0:q=[]
  ·have p1:=fun M=>lS' (DH gx (f:=189) (sz:=3) (bytes:=24) rfl h0 M)
   have hk0:nQ t1 q=[]:=by subst h0; rfl
   rw[hk0] at q1 ⊢;have q1:∀M,aU (aq gH) 192 [.agg [ba t1.ae,aF t1.next,aF t1.ak],gS []] M=some (.bool (se t1 []),M):=q1
   have p2:=amy t1 (dh f o);cases hd:se t1 []
   ·rw[hd] at q1;simp only[dh,cg,aM,ga] at p2 ⊢;simp only[te,p1,p2,q1,q2,ga,hd,af,aJ,aD,EW,seval]
   ·rw[hd] at q1
    have hlp:=PM (f:=f) (o:=o) (t:=t1) ht1 (xs:=[]) dy (k:=[.block 2,.seq NN]) (r:=some (.tuple [],[dh ⟨ps,f.holds,[]⟩ o]))
     (fun e _=>by simp only[dh,cg,aM,te,q3,bL,EW,seval]; rfl) (fun c h=>by cases h) [] [] rfl rfl
    simp only[dh,cg,aM,ga,az] at p2 hlp ⊢;simp only[te,p1,p2,q1,q2,hd,ga,af,aJ,aD,oV,av,EW,seval];exact hlp
  ·obtain⟨b,hb,p2⟩:=asK q t1 ht1 aH h0 (dh f o);have p1:=fun M=>lS' (CR gx (f:=189) (sz:=3) (bytes:=24) rfl (fun _=>rfl) aH h0 aH M)
   have hkl:(nQ t1 q).length<=100000:=by have:=Bi t1 q; omega
   generalize nQ t1 q=kq at q1 p2 hkl ⊢;cases hd:se t1 kq
   ·rw[hd] at q1;simp only[dh,cg,aM,ga] at p2 ⊢;simp only[te,p1,p2,q1,q2,ga,hd,hb.1,af,aJ,aD,EW,seval]
   ·rw[hd] at q1
    have hlp:=PL (f:=f) (o:=o) (t:=t1) ht1 (xs:=kq) hkl hb (k:=[.block 2,.seq NN]) (r:=some (if kq.any (nr t1) then ga 90 else .tuple [],[dh (if kq.any (nr t1) then f else ⟨ps,f.holds,kq⟩) o]))
     (fun e h=>by simp only[h,af,aD,dh,cg,aM,te,q3,bL,EW,seval]) (fun c h=>by simp only[h,aJ,dh,cg,aM,te,ga,EW,seval]) kq [] rfl rfl
    simp only[dh,cg,aM,ga,az] at p2 hlp ⊢;simp only[te,p1,p2,q1,q2,hd,ga,af,aJ,aD,EW,seval];refine hlp.trans ?_;cases kq.any (nr t1)<;>rfl
end
section
attribute [local irreducible] eX fM lu gK dX kr aq aU cr bJ
structure sr(o:jA):Prop where
 dG:o.dG.length<=90000
 vd:o.vd.length<=90000
 data:o.data.length<=90000
def dS.XR{t:Tree}{dD:Int->Nat}(h:dS t dD 0)(to:Int)(nm:Bytes):∀e,gq (gV t.ae to).1.bc nm=some e->(bl t.ae e.ar).ar≠to:=by
 intro e he;unfold gV at he;split at he
 ·cases he
 ·rename_i n hn;split at he
  ·have hem:=(jZ he).1;obtain⟨_,_,_,_,m,hm,_⟩:=h.CF _ _ e hn hem;simp only[bl,hm,bA,(cD hm).2];exact h.xb hn hem
  ·cases he
def Pz(f:aa)(o:jA)(t:Tree)(q:List dN)(hf:vg f)(ht:Rt t)(hq:pw q)(hql:q.length<=16){p:Nat}{M:aC}(hM:nth M p=some (dh f o)):aU (aq gH) 148 [ct p,.agg [ba t.ae,aF t.next,aF t.ak],cK q] M =
  some (if (j5 f t q).2 != 0 then ga (j5 f t q).2 else .tuple [],iP M p (dh (j5 f t q).1 o)) :=
 Jm hM (aqi f o t q hf ht hq hql) rfl rfl (by split<;>rfl) (fun _=>rfl) (fun _=>by split<;>rfl)
def ast(t:Tree)(ht:Rt t)(dir:Int)(s:Bytes)(kind:Int)(hs:s.length<=100000)(M:aC):aU (aq gH) 147 [.agg [ba t.ae,aF t.next,aF t.ak],aF dir,.str s,aF kind] M =
  some (.tuple [.agg [ba (rU t dir s kind).1.ae,aF (rU t dir s kind).1.next,aF (rU t dir s kind).1.ak],aF (rU t dir s kind).2.1,aF (rU t dir s kind).2.2],M):=by
 obtain⟨dD,h⟩:=ht;have:=aqh t dir s kind (h.sz.up aH) h.lK hs trivial h.jv;rw[Yi h] at this;exact lS (cO this M)
def asu(t:Tree)(ht:Rt t)(ar dir:Int)(s:Bytes)(hs:s.length<=100000)(M:aC):aU (aq gH) 149 [.agg [ba t.ae,aF t.next,aF t.ak],aF ar,aF dir,.str s] M =
  some (.tuple [.agg [ba (CK t ar dir s).1.ae,aF (CK t ar dir s).1.next,aF (CK t ar dir s).1.ak],aF (CK t ar dir s).2],M):=by
 obtain⟨dD,h⟩:=ht;have:=aqj t ar dir s (h.sz.up aH) h.lK hs trivial;rw[aha h] at this;exact lS (cO this M)
def asv(t:Tree)(ht:Rt t)(dir:Int)(s:Bytes)(hs:s.length<=100000)(M:aC):aU (aq gH) 150 [.agg [ba t.ae,aF t.next,aF t.ak],aF dir,.str s] M =
  some (.tuple [.agg [ba (BN t dir s).1.ae,aF (BN t dir s).1.next,aF (BN t dir s).1.ak],aF (BN t dir s).2.1,aF (BN t dir s).2.2],M):=by
 obtain⟨dD,h⟩:=ht;have:=aqk t dir s (h.sz.up aH) h.lK hs trivial;rw[ah5 h] at this;exact lS (cO this M)
def asw(t:Tree)(ht:Rt t)(dir:Int)(s:Bytes)(to:Int)(nm:Bytes)(hs:s.length<=100000)(hn:nm.length<=100000)(M:aC):aU (aq gH) 152 [.agg [ba t.ae,aF t.next,aF t.ak],aF dir,.str s,aF to,.str nm] M =
  some (.tuple [.agg [ba (wP t dir s to nm).1.ae,aF (wP t dir s to nm).1.next,aF (wP t dir s to nm).1.ak],aF (wP t dir s to nm).2.1,aF (wP t dir s to nm).2.2],M):=by
 obtain⟨dD,h⟩:=ht;have:=aqm t dir s to nm (h.sz.up aH) h.lK hs trivial hn trivial (fun e he=>h.XR to nm e he)
 rw[ahh h] at this;exact lS (cO this M)
def atn(t:Tree)(ht:Rt t)(ar:Int)(s:Bytes)(hs:s.length<=100000)(M:aC):aU (aq gH) 151 [.agg [ba t.ae,aF t.next,aF t.ak],aF ar,.str s] M =
  some (.tuple [aF (fg t.ae ar s).1,aF (fg t.ae ar s).2],M):=lS (Zc t.ae t.next t.ak ar s ht.small ht.lK hs trivial M)
def amN(t:Tree)(ht:Rt t)(ar:Int)(d:Bytes)(hd:d.length<=100000)(M:aC):aU (aq gH) 225 [.agg [ba t.ae,aF t.next,aF t.ak],aF ar,cR d] M =
  some (.tuple [.agg [ba (rP t ar d).1.ae,aF (rP t ar d).1.next,aF (rP t ar d).1.ak],aF (rP t ar d).2],M):=lS (cO (arh t ar d ht.small ht.lK hd) M)
def Rt.add{t:Tree}(h:Rt t)(dir:Int)(s:Bytes)(kind:Int):Rt (rU t dir s kind).1:=let ⟨_,g⟩:=h; Q6 g dir s kind (fun h=>h)
def Rt.ln{t:Tree}(h:Rt t)(ar dir:Int)(s:Bytes):Rt (CK t ar dir s).1:=let ⟨_,g⟩:=h; ⟨_,Z9 g ar dir s (fun h=>h)⟩
def Rt.un{t:Tree}(h:Rt t)(dir:Int)(s:Bytes):Rt (BN t dir s).1:=let ⟨_,g⟩:=h; ⟨_,aby g dir s⟩
def Rt.mv{t:Tree}(h:Rt t)(dir:Int)(s:Bytes)(to:Int)(nm:Bytes):Rt (wP t dir s to nm).1:=let ⟨_,g⟩:=h; aaN g dir s to nm (fun h=>h)
def Rt.put{t:Tree}(h:Rt t)(ar:Int)(d:Bytes):Rt (rP t ar d).1:=let ⟨_,g⟩:=h; ⟨_,WR g ar d⟩
def vL(t:Tree)(s:Bytes)(hs:s.length<=100000):(mR t s).2.1.length<=1000:=by
 have:=F8 s hs;unfold mR;split
 ·simp
 ·split
  ·simp
  ·simp only; omega
abbrev Wk:=aa×vR×Int
def Cf(f:aa)(o:jA):Wk :=
 if (ky f.s.now o.dG).2 != 0 then (f,gr,(ky f.s.now o.dG).2)
 else (f,⟨0,(bl f.s.now.ae (ky f.s.now o.dG).1).ar,(bl f.s.now.ae (ky f.s.now o.dG).1).kind,0,0,[],[]⟩,0)
def c93(f:aa)(o:jA)(hf:vg f)(ho:sr o):pn 93 f o (Cf f o):=by
 unfold pn;refine⟨.slice .c0 [],.slice .c0 [],.inr ⟨rfl,?_⟩,.inr ⟨rfl,?_⟩,aB ?_⟩
 ·unfold Cf; split<;>rfl
 ·unfold Cf; split<;>rfl
 have q1:=fun {M}=>LH f o o.dG hf.rt.small hf.rt.lK (by have:=ho.dG; omega) (p:=0) (M:=M)
 unfold Cf;generalize ky f.s.now o.dG=v at q1 ⊢;simp only[dh,cg,aL] at q1;cases he:v.2 != 0
 ·simp only[he,af,aD] at q1 ⊢;simp only[afo,E93,dh,cg,dA,q1,av,af,aD,EW,seval]
 ·simp only[he,aJ,ga] at q1 ⊢;simp only[afo,E93,dh,cg,dA,gr,q1,he,aJ,ga,EW,seval]
def Cg(f:aa)(o:jA):Wk :=
 let v:=mR f.s.now o.dG
 let w:=rU f.s.now v.1 v.2.1 o.n
 let r:=j5 f w.1 f.dR
 if v.2.2 != 0 then (f,gr,v.2.2)
 else if w.2.2 != 0 then (f,gr,w.2.2)
 else if r.2 != 0 then (r.1,gr,r.2)
 else (r.1,⟨0,w.2.1,o.n,0,0,[],[]⟩,0)
def c94(f:aa)(o:jA)(hf:vg f)(ho:sr o):pn 94 f o (Cg f o):=by
 unfold pn;refine⟨.slice .c0 [],.slice .c0 [],.inr ⟨rfl,?_⟩,.inr ⟨rfl,?_⟩,aB ?_⟩
 ·unfold Cg; simp only[]; split<;>(try split)<;>(try split)<;>rfl
 ·unfold Cg; simp only[]; split<;>(try split)<;>(try split)<;>rfl
 have hp:o.dG.length<=100000:=by have:=ho.dG; omega
 have q1:=fun {M}=>S1 f o o.dG hf.rt.small hf.rt.lK hp (p:=0) (M:=M)
 have hl:=vL f.s.now o.dG hp;unfold Cg;simp only[];generalize mR f.s.now o.dG=v at q1 hl ⊢;have q2:=ast f.s.now hf.rt v.1 v.2.1 o.n aH;have hr:=hf.rt.add v.1 v.2.1 o.n;generalize rU f.s.now v.1 v.2.1 o.n=w at q2 hr ⊢;have q3:=oZ w.2.2;have q4:=fun {M}=>Pz f o w.1 f.dR hf hr hf.dR hf.sI (p:=0) (M:=M)
 generalize j5 f w.1 f.dR=r at q4 ⊢;simp only[dh,cg] at q1 q4;cases he:v.2.2 != 0
 ·simp only[he,af,aD] at q1 ⊢;cases hw:w.2.2 != 0
  ·simp only[hw,af,aD] at q3 ⊢;cases hs:r.2 != 0
   ·simp only[hs,af,aD] at q4 ⊢;simp only[Sx,E94,dh,cg,dA,q1,q2,q3,q4,av,af,aD,EW,seval]
   ·simp only[hs,aJ,ga] at q4 ⊢;simp only[Sx,E94,dh,cg,dA,gr,q1,q2,q3,q4,hs,aJ,EW,seval]
  ·simp only[hw,aJ,ga] at q3 ⊢;simp only[Sx,E94,dh,cg,dA,gr,q1,q2,q3,hw,aJ,EW,seval]
 ·simp only[he,aJ,ga] at q1 ⊢;simp only[Sx,E94,dh,cg,dA,gr,q1,he,aJ,EW,seval]
def ato(t:Tree)(ht:Rt t)(l:List fD)(c h ar:Int)(hl:uA l)(hn:l.length<=64)(M:aC):aU (aq gH) 156 [.agg [ba t.ae,aF t.next,aF t.ak],fI l,aF c,aF h,aF ar] M=some (.tuple [fI (vG t l c h ar).1,aF (vG t l c h ar).2],M):=lS (asy t l c h _ ht.small ht.lK hl hn M)
def atq(t:Tree)(ht:Rt t)(l:List fD)(c h:Int)(hn:l.length<=64)(M:aC):aU (aq gH) 157 [.agg [ba t.ae,aF t.next,aF t.ak],fI l,aF c,aF h] M=some (.tuple [.agg (aM (nz t l c h).1),fI (nz t l c h).2.1,aF (nz t l c h).2.2],M):=lS (amo t l c h ht.small ht.lK hn M)
def asA(t:Tree)(l:List dN)(ar ae bytes:Int)(ht:Rt t)(hq:pw l)(hn:l.length<=16)(M:aC):aU (aq gH) 162 [.agg [ba t.ae,aF t.next,aF t.ak],cK l,aF ar,aF ae,aF bytes] M=some (.tuple [cK (va t l ar ae bytes).1,aF (va t l ar ae bytes).2],M) :=
 lS (cO (aqv t l _ _ _ ht hq hn) M)
def amO(f:aa)(hf:vg f)(t:Tree)(ht:Rt t)(M:aC):aU (aq gH) 158 [.agg (bL f.s),.agg [ba t.ae,aF t.next,aF t.ak]] M=some (.agg (bL (qt f.s t)),M) :=
 lS (amp _ t hf.rt.lK hf.rt.sz ht.lK ht.sz (by have:=hf.dP; omega) hf.len (by have:=hf.eR; omega) M)
theorem Rt.gone{t:Tree}(h:Rt t)(c:Int):∀(l k:List fD),Rt (sP c l t k).1:=by
 intro l;induction l generalizing t with
 |nil=>intro k; exact h
 |cons x r ih =>
  intro k;rw[sP];split
  ·exact ih (h.close _ _ _) _
  grind
theorem Nj{α:Type}{lt:α->Bool}{R:α->α->Prop}{l:List α}{b:Nat}(h:l.Pairwise R)(hl:XO lt l b){x:α}(h1:∀y,y∈l->lt y=true->R y x)(h2:∀y,y∈l->lt y=false->R x y)(ht:∀a b c,R a b->R b c->R a c):(l.take b++x::l.drop b).Pairwise R:=by
 have hT:∀y,y∈l.take b->R y x:=by
  intro y hy;obtain⟨i,hi⟩:=bV hy;rw[fy] at hi;split at hi
  ·rename_i hib;exact h1 y (aK hi) ((hl.lt i y hi).2 hib)
  grind
 have hD:∀y,y∈l.drop b->R x y:=by
  intro y hy;obtain⟨i,hi⟩:=bV hy;rw[cH] at hi;refine h2 y (aK hi) ?_;cases he:lt y
  ·rfl
  ·have:=(hl.lt _ y hi).1 he; omega
 grind [List.pairwise_cons]
theorem Gw{t:Tree}{l:List dN}(hq:pw l)(hn:l.length<=16)(ar ae bytes:Int):pw (va t l ar ae bytes).1/\(va t l ar ae bytes).1.length<=16:=by
 have hlow:=ya hq ar;have hat:=Rb (key:=dN.ar) hq ar;have e1:XU dN.ar l ar=F4 l ar:=rfl;have e2:wI dN.ar l ar=wJ l ar:=rfl;rw[e1,e2] at hat;unfold va;split
 ·exact⟨hq,hn⟩
 split
 ·exact⟨hq,hn⟩
 split
 ·grind
 split
 ·exact⟨hq,hn⟩
 split
 ·rename_i hi;rcases hat with ⟨_,n,h2,h3,_⟩|⟨h1,_⟩
  ·refine⟨?_,by simpa using hn⟩
   have hm:((l.set (wJ l ar) ⟨ar,ae,bytes⟩).map dN.ar)=l.map dN.ar:=by
    rw[gF];have cG:=(aj.1 h2).1;refine cA fun i=>?_
    rw[gJ]
    grind
   have:((l.set (wJ l ar) ⟨ar,ae,bytes⟩).map dN.ar).Pairwise (· < ·):=by rw[hm]; exact jT.2 hq
   exact jT.1 this
  ·rw[hi] at h1; cases h1
 split
 ·exact⟨hq,hn⟩
 ·rename_i hi dJ
  have hne:∀y,y∈l->y.ar≠ar:=by
   grind
  simp only[pZ,bh] at dJ;refine⟨Nj hq hlow (fun y hy h=>?_) (fun y hy h=>?_) (fun a b c h1 h2=>Int.lt_trans h1 h2),by simp; have:=hlow.le; omega⟩
  ·simp only[bh,xX] at h; exact h
  ·simp only[dv,xX] at h; have:=hne y hy; simp only; omega
def Ce(f:aa)(o:jA):Wk :=
 let v:=ky f.s.now o.dG
 let n:=bl f.s.now.ae v.1
 let s:=mR f.s.now o.vd
 let w:=CK f.s.now n.ar s.1 s.2.1
 let r:=j5 f w.1 f.dR
 if v.2 != 0 then (f,gr,v.2) else
 if s.2.2 != 0 then (f,gr,s.2.2) else
 if w.2 != 0 then (f,gr,w.2) else
 if r.2 != 0 then (r.1,gr,r.2) else
 (r.1,⟨0,n.ar,0,0,0,[],[]⟩,0)
def c95(f:aa)(o:jA)(hf:vg f)(ho:sr o):pn 95 f o (Ce f o):=by
 unfold pn;have hp:o.dG.length<=100000:=by have:=ho.dG; omega
 have hto:o.vd.length<=100000:=by have:=ho.vd; omega
 refine⟨.slice .c0 [],.slice .c0 [],.inr ⟨rfl,?_⟩,.inr ⟨rfl,?_⟩,aB ?_⟩
 ·unfold Ce; simp only[]; split<;>(try split)<;>(try split)<;>(try split)<;>rfl
 ·unfold Ce; simp only[]; split<;>(try split)<;>(try split)<;>(try split)<;>rfl
 unfold Ce;simp only[];have q1:=fun {M}=>LH f o o.dG hf.rt.small hf.rt.lK hp (p:=0) (M:=M)
 generalize ky f.s.now o.dG=v at q1 ⊢;have q1:=@q1;generalize bl f.s.now.ae v.1=n at q1 ⊢;have hl:=vL f.s.now o.vd hto;have q2:=fun {M}=>S1 f o o.vd hf.rt.small hf.rt.lK hto (p:=0) (M:=M)
 have hl:=hl;generalize mR f.s.now o.vd=s at q2 hl ⊢;have q3:=asu f.s.now hf.rt n.ar s.1 s.2.1 aH;have hr:=hf.rt.ln n.ar s.1 s.2.1;generalize CK f.s.now n.ar s.1 s.2.1=w at q3 hr ⊢;have q5:=fun {M}=>Pz f o w.1 f.dR hf hr hf.dR hf.sI (p:=0) (M:=M)
 generalize j5 f w.1 f.dR=r at q5 ⊢;simp only[dh,cg,aL] at q1 q2 q3 q5;cases h0:v.2 != 0
 ·cases h1:s.2.2 != 0
  ·cases h2:w.2 != 0
   ·cases h3:r.2 != 0
    ·simp only[Pm,E95,cg,dA,q1,q2,q3,q5,h0,h1,h2,h3,oZ,av,af,EW,seval]
    ·simp only[Pm,E95,cg,dA,gr,q1,q2,q3,q5,h0,h1,h2,h3,ga,oZ,af,EW,seval]
   ·simp only[Pm,E95,cg,dA,gr,q1,q2,q3,h0,h1,h2,ga,oZ,af,EW,seval]
  ·simp only[Pm,E95,cg,dA,gr,q1,q2,h0,h1,ga,af,EW,seval]
 simp_all [Pm,E95,dh,cg,dA,gr,ga,EW]
def uS(f:aa)(o:jA):Wk :=
 let s:=mR f.s.now o.dG
 let w:=BN f.s.now s.1 s.2.1
 let r:=j5 f w.1 f.dR
 if s.2.2 != 0 then (f,gr,s.2.2) else
 if w.2.2 != 0 then (f,gr,w.2.2) else
 if r.2 != 0 then (r.1,gr,r.2) else
 (r.1,⟨0,w.2.1,0,0,0,[],[]⟩,0)
def c96(f:aa)(o:jA)(hf:vg f)(ho:sr o):pn 96 f o (uS f o):=by
 unfold pn;have hp:o.dG.length<=100000:=by have:=ho.dG; omega
 have hto:o.vd.length<=100000:=by have:=ho.vd; omega
 refine⟨.slice .c0 [],.slice .c0 [],.inr ⟨rfl,?_⟩,.inr ⟨rfl,?_⟩,aB ?_⟩
 ·unfold uS; simp only[]; split<;>(try split)<;>(try split)<;>rfl
 ·unfold uS; simp only[]; split<;>(try split)<;>(try split)<;>rfl
 unfold uS;simp only[];have hl:=vL f.s.now o.dG hp;have q2:=fun {M}=>S1 f o o.dG hf.rt.small hf.rt.lK hp (p:=0) (M:=M)
 have hl:=hl;generalize mR f.s.now o.dG=s at q2 hl ⊢;have q3:=asv f.s.now hf.rt s.1 s.2.1 aH;have hr:=hf.rt.un s.1 s.2.1;generalize BN f.s.now s.1 s.2.1=w at q3 hr ⊢;have q5:=fun {M}=>Pz f o w.1 f.dR hf hr hf.dR hf.sI (p:=0) (M:=M)
 generalize j5 f w.1 f.dR=r at q5 ⊢;simp only[dh,cg] at q2 q3 q5;cases h0:s.2.2 != 0
 ·cases h1:w.2.2 != 0
  ·cases h2:r.2 != 0
   ·simp only[Sy,E96,cg,dA,q2,q3,q5,h0,h1,h2,oZ,av,af,EW,seval]
   ·simp only[Sy,E96,cg,dA,gr,q2,q3,q5,h0,h1,h2,ga,oZ,af,EW,seval]
  ·simp only[Sy,E96,cg,dA,gr,q2,q3,h0,h1,ga,oZ,af,EW,seval]
 simp_all [Sy,E96,cg,dA,gr,ga,EW]
def uQ(f:aa)(o:jA):Wk :=
 let s:=mR f.s.now o.dG
 let u:=mR f.s.now o.vd
 let l:=fg f.s.now.ae s.1 s.2.1
 let w:=wP f.s.now s.1 s.2.1 u.1 u.2.1
 let r:=j5 f w.1 f.dR
 if s.2.2 != 0 then (f,gr,s.2.2) else
 if u.2.2 != 0 then (f,gr,u.2.2) else
 if l.2 != 0 then (f,gr,l.2) else
 if w.2.2 != 0 then (f,gr,w.2.2) else
 if r.2 != 0 then (r.1,gr,r.2) else
 (r.1,⟨0,l.1,0,0,0,[],[]⟩,0)
def c97(f:aa)(o:jA)(hf:vg f)(ho:sr o):pn 97 f o (uQ f o):=by
 unfold pn;have hp:o.dG.length<=100000:=by have:=ho.dG; omega
 have hto:o.vd.length<=100000:=by have:=ho.vd; omega
 refine⟨.slice .c0 [],.slice .c0 [],.inr ⟨rfl,?_⟩,.inr ⟨rfl,?_⟩,aB ?_⟩
 ·unfold uQ; simp only[]; split<;>(try split)<;>(try split)<;>(try split)<;>(try split)<;>rfl
 ·unfold uQ; simp only[]; split<;>(try split)<;>(try split)<;>(try split)<;>(try split)<;>rfl
 unfold uQ;simp only[];have hl:=vL f.s.now o.dG hp;have q1:=fun {M}=>S1 f o o.dG hf.rt.small hf.rt.lK hp (p:=0) (M:=M)
 have hl:=hl;generalize mR f.s.now o.dG=s at q1 hl ⊢;have hl2:=vL f.s.now o.vd hto;have q2:=fun {M}=>S1 f o o.vd hf.rt.small hf.rt.lK hto (p:=0) (M:=M)
 have hl2:=hl2;generalize mR f.s.now o.vd=u at q2 hl2 ⊢;have q3:=atn f.s.now hf.rt s.1 s.2.1 aH;generalize fg f.s.now.ae s.1 s.2.1=l at q3 ⊢;have q4:=asw f.s.now hf.rt s.1 s.2.1 u.1 u.2.1 aH aH;have hr:=hf.rt.mv s.1 s.2.1 u.1 u.2.1;generalize wP f.s.now s.1 s.2.1 u.1 u.2.1=w at q4 hr ⊢;have q5:=fun {M}=>Pz f o w.1 f.dR hf hr hf.dR hf.sI (p:=0) (M:=M)
 generalize j5 f w.1 f.dR=r at q5 ⊢;simp only[dh,cg] at q1 q2 q3 q4 q5;cases h0:s.2.2 != 0
 ·cases h1:u.2.2 != 0
  ·cases h2:l.2 != 0
   ·cases h3:w.2.2 != 0
    ·cases h4:r.2 != 0
     ·simp only[Ly,E97,cg,dA,q1,q2,q3,q4,q5,h0,h1,h2,h3,h4,oZ,av,af,EW,seval]
     ·simp only[Ly,E97,cg,dA,gr,q1,q2,q3,q4,q5,h0,h1,h2,h3,h4,ga,oZ,af,EW,seval]
    ·simp only[Ly,E97,cg,dA,gr,q1,q2,q3,q4,h0,h1,h2,h3,ga,oZ,af,EW,seval]
   ·simp only[Ly,E97,cg,dA,gr,q1,q2,q3,h0,h1,h2,ga,oZ,af,EW,seval]
  ·simp only[Ly,E97,cg,dA,gr,q1,q2,h0,h1,ga,af,EW,seval]
 simp_all [Ly,E97,cg,dA,gr,ga,EW]
def Cs(f:aa)(o:jA):Wk :=
 let v:=ky f.s.now o.dG
 let n:=bl f.s.now.ae v.1
 if v.2 != 0 then (f,gr,v.2) else
 (f,⟨0,n.ar,n.kind,n.eE,Cp n,[],[]⟩,0)
def c99(f:aa)(o:jA)(hf:vg f)(ho:sr o):pn 99 f o (Cs f o):=by
 unfold pn;have hp:o.dG.length<=100000:=by have:=ho.dG; omega
 refine⟨.slice .c0 [],.slice .c0 [],.inr ⟨rfl,?_⟩,.inr ⟨rfl,?_⟩,aB ?_⟩
 ·unfold Cs; simp only[]; split<;>rfl
 ·unfold Cs; simp only[]; split<;>rfl
 unfold Cs;simp only[];have q1:=fun {M}=>LH f o o.dG hf.rt.small hf.rt.lK hp (p:=0) (M:=M)
 generalize ky f.s.now o.dG=v at q1 ⊢;have q1:=@q1;generalize bl f.s.now.ae v.1=n at q1 ⊢;have q2:=fun M=>afC n M
 simp only[dh,cg,aL] at q1 q2;cases h0:v.2 != 0
 ·simp only[afp,E99,cg,dA,q1,q2,h0,av,af,EW,seval]
 simp_all [afp,E99,dh,cg,dA,gr,ga,EW]
def Ch(f:aa)(o:jA):Wk :=
 let v:=ky f.s.now o.dG
 let n:=bl f.s.now.ae v.1
 let w:=vG f.s.now f.holds o.bF o.handle n.ar
 if v.2 != 0 then (f,gr,v.2) else
 if w.2 != 0 then (f,gr,w.2) else
 (⟨f.s,w.1,f.dR⟩,⟨0,n.ar,0,0,0,[],[]⟩,0)
def apF(f:aa)(o:jA)(hf:vg f)(ho:sr o):pn 100 f o (Ch f o):=by
 unfold pn;have hp:o.dG.length<=100000:=by have:=ho.dG; omega
 have hto:o.vd.length<=100000:=by have:=ho.vd; omega
 refine⟨.slice .c0 [],.slice .c0 [],.inr ⟨rfl,?_⟩,.inr ⟨rfl,?_⟩,aB ?_⟩
 ·unfold Ch; simp only[]; split<;>(try split)<;>rfl
 ·unfold Ch; simp only[]; split<;>(try split)<;>rfl
 unfold Ch;simp only[];have q1:=fun {M}=>LH f o o.dG hf.rt.small hf.rt.lK hp (p:=0) (M:=M)
 generalize ky f.s.now o.dG=v at q1 ⊢;have q1:=@q1;generalize bl f.s.now.ae v.1=n at q1 ⊢;have q2:=ato f.s.now hf.rt f.holds o.bF o.handle n.ar hf.holds hf.dJ;generalize vG f.s.now f.holds o.bF o.handle n.ar=w at q2 ⊢;simp only[dh,cg,aL] at q1 q2;cases h0:v.2 != 0
 ·cases h1:w.2 != 0
  ·simp only[MS,ad0,cg,dA,q1,q2,h0,h1,oZ,av,af,EW,seval]
  ·simp only[MS,ad0,cg,dA,gr,q1,q2,h0,h1,ga,oZ,af,EW,seval]
 simp_all [MS,ad0,dh,cg,dA,gr,ga,EW]
def w7(f:aa)(o:jA):Wk :=
 let w:=nz f.s.now f.holds o.bF o.handle
 let p:=qt f.s w.1
 if w.2.2 != 0 then (f,gr,w.2.2) else
 (⟨p,w.2.1,f.dR⟩,gr,0)
def apG(f:aa)(o:jA)(hf:vg f)(ho:sr o):pn 101 f o (w7 f o):=by
 unfold pn;have hp:o.dG.length<=100000:=by have:=ho.dG; omega
 have hto:o.vd.length<=100000:=by have:=ho.vd; omega
 refine⟨.slice .c0 [],.slice .c0 [],.inr ⟨rfl,?_⟩,.inr ⟨rfl,?_⟩,aB ?_⟩
 ·unfold w7; simp only[]; split<;>rfl
 ·unfold w7; simp only[]; split<;>rfl
 unfold w7;simp only[];have q2:=atq f.s.now hf.rt f.holds o.bF o.handle hf.dJ;have hr:=hf.rt.close f.holds o.bF o.handle;generalize nz f.s.now f.holds o.bF o.handle=w at q2 hr ⊢;have q3:=amO f hf w.1 hr;generalize qt f.s w.1=p at q3 ⊢;simp only[bL,aM] at q2 q3;cases h0:w.2.2 != 0
 ·simp only[R4,ail,cg,dA,gr,q2,q3,h0,oZ,av,af,EW,seval]
 ·simp only[R4,ail,cg,dA,gr,q2,h0,ga,oZ,EW,seval]
def xh(f:aa)(o:jA):Wk :=
 let v:=ky f.s.now o.dG
 let n:=bl f.s.now.ae v.1
 let w:=va f.s.now f.dR n.ar o.n o.m
 let r:=j5 f f.s.now w.1
 if v.2 != 0 then (f,gr,v.2) else
 if w.2 != 0 then (f,gr,w.2) else
 if r.2 != 0 then (r.1,gr,r.2) else
 (r.1,⟨0,n.ar,0,0,0,[],[]⟩,0)
def apK(f:aa)(o:jA)(hf:vg f)(ho:sr o):pn 105 f o (xh f o):=by
 unfold pn;have hp:o.dG.length<=100000:=by have:=ho.dG; omega
 have hto:o.vd.length<=100000:=by have:=ho.vd; omega
 refine⟨.slice .c0 [],.slice .c0 [],.inr ⟨rfl,?_⟩,.inr ⟨rfl,?_⟩,aB ?_⟩
 ·unfold xh; simp only[]; split<;>(try split)<;>(try split)<;>rfl
 ·unfold xh; simp only[]; split<;>(try split)<;>(try split)<;>rfl
 unfold xh;simp only[];have q1:=fun {M}=>LH f o o.dG hf.rt.small hf.rt.lK hp (p:=0) (M:=M)
 generalize ky f.s.now o.dG=v at q1 ⊢;have q1:=@q1;generalize bl f.s.now.ae v.1=n at q1 ⊢;have q2:=asA f.s.now f.dR n.ar o.n o.m hf.rt hf.dR hf.sI;have hr:=Gw (t:=f.s.now) hf.dR hf.sI n.ar o.n o.m;generalize va f.s.now f.dR n.ar o.n o.m=w at q2 hr ⊢;have q5:=fun {M}=>Pz f o f.s.now w.1 hf hf.rt hr.1 hr.2 (p:=0) (M:=M)
 generalize j5 f f.s.now w.1=r at q5 ⊢;simp only[dh,cg,aL] at q1 q2 q5;cases h0:v.2 != 0
 ·cases h1:w.2 != 0
  ·cases h2:r.2 != 0
   ·simp only[IY,XY,cg,dA,q1,q2,q5,h0,h1,h2,oZ,av,af,EW,seval]
   ·simp only[IY,XY,cg,dA,gr,q1,q2,q5,h0,h1,h2,ga,oZ,af,EW,seval]
  ·simp only[IY,XY,cg,dA,gr,q1,q2,h0,h1,ga,oZ,af,EW,seval]
 simp_all [IY,XY,dh,cg,dA,gr,ga,EW]
def Cu(f:aa)(o:jA):Wk :=
 let v:=ky f.s.now o.dG
 let n:=bl f.s.now.ae v.1
 let w:=takeN f.s n.ar
 if v.2 != 0 then (f,gr,v.2) else
 if w.2.2 != 0 then (f,gr,w.2.2) else
 (⟨w.1,f.holds,f.dR⟩,⟨0,0,0,w.2.1,0,[],[]⟩,0)
def apL(f:aa)(o:jA)(hf:vg f)(ho:sr o):pn 106 f o (Cu f o):=by
 unfold pn;have hp:o.dG.length<=100000:=by have:=ho.dG; omega
 have hto:o.vd.length<=100000:=by have:=ho.vd; omega
 refine⟨.slice .c0 [],.slice .c0 [],.inr ⟨rfl,?_⟩,.inr ⟨rfl,?_⟩,aB ?_⟩
 ·unfold Cu; simp only[]; split<;>(try split)<;>rfl
 ·unfold Cu; simp only[]; split<;>(try split)<;>rfl
 unfold Cu;simp only[];have q1:=fun {M}=>LH f o o.dG hf.rt.small hf.rt.lK hp (p:=0) (M:=M)
 generalize ky f.s.now o.dG=v at q1 ⊢;have q1:=@q1;generalize bl f.s.now.ae v.1=n at q1 ⊢;have q2:=fun M=>lS (asB f.s n.ar hf.rt.small hf.rt.lK hf.dP M)
 generalize takeN f.s n.ar=w at q2 ⊢;simp only[dh,cg,aL,bL,aM] at q1 q2;cases h0:v.2 != 0
 ·cases h1:w.2.2 != 0
  ·simp only[MU,ad2,dh,cg,dA,gr,q1,q2,h0,h1,oZ,av,af,aJ,aD,EW,seval]
  ·simp only[MU,ad2,dh,cg,dA,gr,q1,q2,h0,h1,ga,oZ,av,af,aJ,aD,EW,seval]
 ·simp only[MU,ad2,dh,cg,dA,gr,q1,q2,h0,ga,oZ,av,af,aJ,aD,EW,seval]
def BX(f:aa)(o:jA):Wk :=
 let w:=rq f.s o.n
 if w.2 != 0 then (f,gr,w.2) else
 (⟨w.1,f.holds,f.dR⟩,gr,0)
def apN(f:aa)(o:jA)(hf:vg f)(ho:sr o):pn 108 f o (BX f o):=by
 unfold pn;have hp:o.dG.length<=100000:=by have:=ho.dG; omega
 have hto:o.vd.length<=100000:=by have:=ho.vd; omega
 refine⟨.slice .c0 [],.slice .c0 [],.inr ⟨rfl,?_⟩,.inr ⟨rfl,?_⟩,aB ?_⟩
 ·unfold BX; simp only[]; split<;>rfl
 ·unfold BX; simp only[]; split<;>rfl
 unfold BX;simp only[];have q2:=fun M=>lS (asD f.s o.n (by have:=hf.dP; omega) (by have:=hf.eR; omega) M)
 generalize rq f.s o.n=w at q2 ⊢;simp only[dh,cg,aL,bL,aM] at q2;cases h0:w.2 != 0
 ·simp only[R5,aim,dh,cg,dA,gr,q2,h0,oZ,av,af,aJ,aD,EW,seval]
 ·simp only[R5,aim,dh,cg,dA,gr,q2,h0,ga,oZ,av,af,aJ,aD,EW,seval]
def AP(f:aa)(o:jA):Wk :=
 let w:=DM f.s.now f.holds o.bF
 let p:=qt f.s w.1
 (⟨p,w.2,f.dR⟩,gr,0)
def apO(f:aa)(o:jA)(hf:vg f)(ho:sr o):pn 109 f o (AP f o):=by
 unfold pn;have hp:o.dG.length<=100000:=by have:=ho.dG; omega
 have hto:o.vd.length<=100000:=by have:=ho.vd; omega
 refine⟨.slice .c0 [],.slice .c0 [],.inr ⟨rfl,?_⟩,.inr ⟨rfl,?_⟩,aB ?_⟩
 ·unfold AP; simp only[]; skip<;>rfl
 ·unfold AP; simp only[]; skip<;>rfl
 unfold AP;simp only[];have q2:=fun M=>lS (asE f.s.now f.holds o.bF hf.rt hf.dJ M)
 have hr:=(show Rt (DM f.s.now f.holds o.bF).1 from hf.rt.gone o.bF _ _)
 generalize DM f.s.now f.holds o.bF=w at q2 hr ⊢;have q3:=amO f hf w.1 hr;generalize qt f.s w.1=p at q3 ⊢;simp only[dh,cg,aL,bL,aM] at q2 q3;simp only[ab5,aoz,dh,cg,dA,gr,q2,q3,av,af,aJ,aD,EW,seval]
def jd(f:aa)(o:jA):Node×Int :=
 if (LG f.holds o.bF o.handle).2 != 0 then (Node.zero,(LG f.holds o.bF o.handle).2)
 else if decide (0<=o.n) then (bl f.s.now.ae (LG f.holds o.bF o.handle).1,0) else (Node.zero,1)
def aqt(f:aa)(o:jA)(hf:vg f):aq gH 159 [ct 0] [dh f o]=some (if (jd f o).2 != 0 then ga (jd f o).2 else .agg (aL (jd f o).1),[dh f o]):=by
 refine aB ?_;have q1:=fun M=>lS (asV f.holds o.bF o.handle (by have:=hf.dJ; omega) M)
 have q2:=fun bb=>QK bb 1 rfl
 unfold jd;generalize LG f.holds o.bF o.handle=v at q1 ⊢;have q3:=fun {M}=>amu f o v.1 hf.rt.small hf.rt.lK (p:=0) (M:=M)
 simp only[dh,cg,aL] at q3;cases h0:v.2 != 0
 ·cases h1:decide (0<=o.n)
  ·simp only[M4,aed,dh,cg,aL,q1,q2,q3,oZ,h0,h1,ga,av,af,aJ,aD,EW,seval]
  ·simp only[M4,aed,dh,cg,aL,q1,q2,q3,oZ,h0,h1,ga,av,af,aJ,aD,EW,seval]
 ·simp only[M4,aed,dh,cg,aL,q1,q2,q3,oZ,h0,ga,av,af,aJ,aD,EW,seval]
def afD(f:aa)(o:jA)(hf:vg f){p:Nat}{M:aC}(hM:nth M p=some (dh f o)):aU (aq gH) 159 [ct p] M=some (if (jd f o).2 != 0 then ga (jd f o).2 else .agg (aL (jd f o).1),M):=by
 have:=Jm (vs:=[]) hM (aqt f o hf) rfl rfl (by split<;>rfl) (fun _=>rfl) (fun _=>by split<;>rfl)
 rwa[uR hM] at this
def rC(f:aa)(o:jA)(ar:Int)(d:Bytes):Wk :=
 let w:=rP f.s.now ar d
 let r:=j5 f w.1 f.dR
 if w.2 != 0 then (f,gr,w.2) else
 if r.2 != 0 then (r.1,gr,r.2) else
 (r.1,⟨0,ar,0,0,d.length,[],[]⟩,0)
def aqu(f:aa)(o:jA)(hf:vg f)(ar:Int)(d:Bytes)(hd:d.length<=100000):aq gH 161 [ct 0,aF ar,cR d] [dh f o] =
  some (if (rC f o ar d).2.2 != 0 then ga (rC f o ar d).2.2 else .tuple [],[dA (rC f o ar d).1 o (rC f o ar d).2.1 (.slice .c0 []) (.slice .c0 [])]):=by
 refine aB ?_;unfold rC;simp only[];have q1:=amN f.s.now hf.rt ar d hd;have hr:=hf.rt.put ar d;generalize rP f.s.now ar d=w at q1 hr ⊢;have q5:=fun {M}=>Pz f o w.1 f.dR hf hr hf.dR hf.sI (p:=0) (M:=M)
 generalize j5 f w.1 f.dR=r at q5 ⊢;simp only[dh,cg] at q5;cases h0:w.2 != 0
 ·cases h1:r.2 != 0
  ·simp only[M5,aee,dh,cg,dA,gr,q1,q5,oZ,h0,h1,av,af,aJ,aD,EW,seval]
  ·simp only[M5,aee,dh,cg,dA,gr,q1,q5,oZ,h0,h1,ga,av,af,aJ,aD,EW,seval]
 ·simp only[M5,aee,dh,cg,dA,gr,q1,q5,oZ,h0,ga,av,af,aJ,aD,EW,seval]
def amq(f:aa)(o:jA)(hf:vg f)(ar:Int)(d:Bytes)(hd:d.length<=100000){p:Nat}{M:aC}(hM:nth M p=some (dh f o)):aU (aq gH) 161 [ct p,aF ar,cR d] M =
  some (if (rC f o ar d).2.2 != 0 then ga (rC f o ar d).2.2 else .tuple [],iP M p (dA (rC f o ar d).1 o (rC f o ar d).2.1 (.slice .c0 []) (.slice .c0 []))) :=
 ti hM (aqu f o hf ar d hd) rfl rfl (by split<;>rfl) rfl (by split<;>rfl) rfl rfl rfl rfl rfl
end
section
theorem atr(d:Bytes)(hd:d.length<=100000)(M:aC):aU (aq gH) 160 [cR d] M=some (cR d,M):=by
 have h:aq bW 160 [cR d] []=some (cR d,[]):=by
  refine fe rfl ?_
  show JK 1 1 [cR d] _=_
  grind [JK,sg,cp,fh]
 exact lS (cO h M)
def BI(X w:Bytes)(N:Nat)(h:N+w.length<=X.length):List.take X.length (List.take N (X.map pt)++(List.take w.length (w.map pt)++List.drop (N+w.length) (X.map pt)))=(X.take N++(w++X.drop (N+w.length))).map pt:=by
 rw[bC jK,bC (l:=w.map _) dy];simp
def Kk(k:Nat):List.replicate k (ag.agg [.int .u8 0]).norm=(List.replicate k (0:UInt8)).map pt:=by
 rw[gW]; rfl
def Y3(M:aC)(id ver sz lo hi:Nat):ag.ry M (.cv id ver sz lo hi)=match nth M id with
  |some (.arr _ v xs)=>if v=ver then gS ((xs.take hi).drop lo) else .any
  |_ => .any:=rfl
theorem p93{d:Bytes}(h0:d≠[])(hd:d.length<=100000)(b:cI)(M:aC):aq gH 160 [gS (d.map pt)] (b::M)=some (.cv (M.length+1) 0 1 0 d.length,(b::M)++[.arr 1 0 (d.map pt)]):=by
 refine lS' (fe rfl ?_)
 show mQ 1 1 [gS _] _=_
 obtain⟨a,r,rfl⟩:=fj h0
 grind [wid,sg,cp,mQ,fh]
def anF{d:Bytes}(h0:d=[])(b:cI)(M:aC):aq gH 160 [gS (d.map pt)] (b::M)=some (.slice .c0 [],b::M):=by
 subst h0;exact lS' (fe rfl rfl)
def Bn(a:Int)(n:Nat):Nat:=(if (n:Int)<a then (n:Int) else a).toNat
theorem z8{a:Int}(h:0<=a)(n:Nat):(if (n:Int)<a then (n:Int) else a)=(Bn a n:Int)/\Bn a n<=n:=by
 grind [Bn]
theorem CU{f:aa}{o:jA}(h:((jd f o).2 != 0)=false):0<=o.n/\∃i,(jd f o).1=bl f.s.now.ae i:=by
 grind [jd]
def xu{f:aa}(hf:vg f)(i:Int):(bl f.s.now.ae i).data.length<=4096/\(bl f.s.now.ae i).bc.length<=64:=by
 obtain⟨dD,h⟩:=hf.rt;unfold bl;cases hi:find _ i with
 |none=>simp[Node.zero]
 |some n =>
  simp;refine⟨?_,(h.yl _ _ hi).2⟩;rcases h.kind _ _ hi with h1|h1
  ·exact(h.file _ _ hi h1).2.2
  ·rw[h.dir _ _ hi h1]; simp
attribute [local irreducible] eX fM lu gK dX kr aq aU cr bJ
def IA(f:aa)(o:jA):Wk :=
 if (jd f o).2 != 0 then (f,gr,(jd f o).2)
 else rC f o (jd f o).1.ar ((jd f o).1.data.take (Bn o.n (jd f o).1.data.length))
theorem tF(f:aa)(o:jA)(ar:Int)(d:Bytes):(rC f o ar d).2.1.names=[]/\(rC f o ar d).2.1.data=[]:=by
 unfold rC; simp only; split
 ·exact⟨rfl,rfl⟩
 ·split<;>exact⟨rfl,rfl⟩
def apJ(f:aa)(o:jA)(hf:vg f)(ho:sr o):pn 104 f o (IA f o):=by
 unfold pn;refine⟨.slice .c0 [],.slice .c0 [],.inr ⟨rfl,?_⟩,.inr ⟨rfl,?_⟩,aB ?_⟩
 ·unfold IA; split
  ·rfl
  simp[tF]
 ·unfold IA; split
  ·rfl
  simp[tF]
 have q1:=fun {M}=>afD f o hf (p:=0) (M:=M)
 have hn:=CU (f:=f) (o:=o);unfold IA;cases h0:(jd f o).2 != 0
 ·obtain⟨hn0,i,hi⟩:=hn h0;have hsz:=(xu hf i).1;rw[<-hi] at hsz;generalize (jd f o).1=n at q1 hsz ⊢;generalize (jd f o).2=e at q1 h0 ⊢;obtain⟨m1,m2⟩:=z8 hn0 n.data.length;generalize Bn o.n n.data.length=mn at m1 m2 ⊢;have q2:=fun {M}=>amq f o hf n.ar (n.data.take mn) gh (p:=0) (M:=M)
  generalize rC f o n.ar (n.data.take mn)=r at q2 ⊢;have hle:((mn:Int)<=(n.data.length:Int))=True:=gh;have hz:((0:Int)<=(mn:Int))=True:=dy;simp only[dh,cg,dA,aL,cR,eb] at q1 q2;cases h1:r.2.2 != 0
  ·simp only[MT,ad1,cg,dA,q1,q2,h0,h1,m1,hle,hz,gw,af,EW,seval]
  ·simp only[MT,ad1,cg,dA,q1,q2,h0,h1,m1,hle,hz,gw,ga,af,EW,seval]
 simp_all [dh,cg,MT,ad1,dA,gr,ga,EW]
def Gx(f:aa)(o:jA):Wk :=
 if (jd f o).2 != 0 then (f,gr,(jd f o).2) else
 if !(decide (0<=o.m)&&decide (o.m<=4096)) then (f,gr,1) else
 (f,⟨0,(jd f o).1.ar,0,0,0,[],((jd f o).1.data.drop (Bn o.n (jd f o).1.data.length)).take (Bn o.m ((jd f o).1.data.length-Bn o.n (jd f o).1.data.length))⟩,0)
theorem apH(f:aa)(o:jA)(hf:vg f)(ho:sr o):pn 102 f o (Gx f o):=by
 unfold pn;have q1:=fun {M}=>afD f o hf (p:=0) (M:=M)
 have hn:=CU (f:=f) (o:=o);have q2:=fun bb=>QK bb 1 rfl
 unfold Gx;cases h0:(jd f o).2 != 0
 ·obtain⟨hn0,i,hi⟩:=hn h0;have hsz:=(xu hf i).1;rw[<-hi] at hsz;generalize (jd f o).1=n at q1 hsz ⊢;generalize (jd f o).2=e at q1 h0 ⊢;obtain⟨m1,m2⟩:=z8 hn0 n.data.length;generalize Bn o.n n.data.length=mn at m1 m2 ⊢;have hle:((mn:Int)<=(n.data.length:Int))=True:=jK;have hz:∀k:Nat,((0:Int)<=(k:Int))=True:=fun k=>dy
  have ht:List.take n.data.length (n.data.map pt)=n.data.map pt:=bC dy;have dJ:(List.drop mn (n.data.map pt)).length=n.data.length-mn:=dy;cases h1:(!(decide (0<=o.m)&&decide (o.m<=4096)))
  ·have h1':decide (0<=o.m)=true/\decide (o.m<=4096)=true:=by simpa using h1
   have hm0:0<=o.m:=jK;obtain⟨p1,p2⟩:=z8 hm0 (n.data.length-mn);generalize Bn o.m (n.data.length-mn)=mm at p1 p2 ⊢;have hle2:((mm:Int)<=((n.data.length-mn:Nat):Int))=True:=jK;have hw1:wid (List.drop mn (n.data.map pt)) 1=True:=by have:=sg (n.data.drop mn); rwa[jS] at this
   have q3:=fun M=>atr ((n.data.drop mn).take mm) jK M
   refine⟨.slice .c0 [],cR ((n.data.drop mn).take mm),.inr ⟨rfl,rfl⟩,.inl rfl,aB ?_⟩;simp only[dh,cg,aL,cR,eb,jS] at q1 q3;simp only[IX,XX,cg,dA,q1,q2,q3,h0,h1'.1,h1'.2,m1,p1,hle,hle2,hz,ht,dJ,hw1,gw,cR,jS,dL,av,af,EW,seval]
  ·refine⟨.slice .c0 [],.slice .c0 [],.inr ⟨rfl,rfl⟩,.inr ⟨rfl,rfl⟩,aB ?_⟩
   have h1':(decide (0<=o.m)&&decide (o.m<=4096))=false:=by
    grind
   simp only[dh,cg,aL,cR] at q1;cases ha:decide (0<=o.m)<;>cases hb:decide (o.m<=4096)<;>simp only[ha,hb,jO,dV,gA] at h1'
   ·grind
   ·simp only[IX,XX,cg,dA,gr,q1,q2,h0,ha,ga,af,EW,seval]
   ·simp only[IX,XX,cg,dA,gr,q1,q2,h0,ha,hb,ga,af,EW,seval]
   ·cases h1'
 ·refine⟨.slice .c0 [],.slice .c0 [],.inr ⟨rfl,rfl⟩,.inr ⟨rfl,rfl⟩,aB ?_⟩;simp_all [dh,cg,IX,XX,dA,gr,ga,af,EW]
def nV(d:Bytes)(n:Nat)(w:Bytes):Bytes :=
 if w=[] then d else (d++List.replicate (n+w.length-d.length) 0).take n++(w++(d++List.replicate (n+w.length-d.length) 0).drop (n+w.length))
def xM(f:aa)(o:jA):Wk :=
 if (jd f o).2 != 0 then (f,gr,(jd f o).2) else
 if !decide (o.n<=4096) then (f,gr,1) else
 if !decide (((o.n.toNat+o.data.length:Nat):Int)<=4096) then (f,gr,2) else
 rC f o (jd f o).1.ar (nV (jd f o).1.data o.n.toNat o.data)
theorem apI(f:aa)(o:jA)(hf:vg f)(ho:sr o):pn 103 f o (xM f o):=by
 unfold pn;refine⟨.slice .c0 [],.slice .c0 [],.inr ⟨rfl,?_⟩,.inr ⟨rfl,?_⟩,aB ?_⟩
 ·unfold xM; split
  ·rfl
  ·split
   ·rfl
   ·split
    ·rfl
    grind [tF]
 ·unfold xM; split
  ·rfl
  ·split
   ·rfl
   ·split
    ·rfl
    ·rw[(tF ..).2]; rfl
 have q1:=fun {M}=>afD f o hf (p:=0) (M:=M)
 have hn:=CU (f:=f) (o:=o);have q2:=fun bb=>QK bb 1 rfl
 have q3:=fun bb=>QK bb 2 rfl
 unfold xM;cases h0:(jd f o).2 != 0
 ·obtain⟨hn0,i,hi⟩:=hn h0;have hsz:=(xu hf i).1;rw[<-hi] at hsz;generalize (jd f o).1=n at q1 hsz ⊢;generalize (jd f o).2=e at q1 h0 ⊢;simp only[dh,cg,aL] at q1;cases h1:decide (o.n<=4096)
  ·simp only[yz,HS,cg,dA,gr,q1,q2,h0,h1,ga,af,EW,seval]
  ·have hn1:o.n<=4096:=by simpa using h1
   obtain⟨N,hN⟩:∃N:Nat,o.n=(N:Int):=⟨o.n.toNat,aH⟩;have hdl:=ho.data;have hw:IntKind.i64.wrap ((N:Int)+(o.data.length:Int))=((N+o.data.length:Nat):Int):=by rw[gv aH aH]; omega
   have hT:o.n.toNat=N:=aH;rw[hT];rw[hN] at q1 h1;cases h2:decide (((N+o.data.length:Nat):Int)<=4096)
   ·simp only[yz,HS,cg,dA,gr,q1,q2,q3,h0,h1,h2,hw,hN,ga,af,EW,seval]
   ·have hE:N+o.data.length<=4096:=by
     have:((N+o.data.length:Nat):Int)<=4096:=by simpa using h2
     omega
    have hwl:(nV n.data N o.data).length<=100000:=by
     unfold nV; split
     ·omega
     ·simp; omega
    have q4:=fun {M}=>amq f o hf n.ar (nV n.data N o.data) hwl (p:=0) (M:=M)
    generalize rC f o n.ar (nV n.data N o.data)=r at q4 ⊢;simp only[dh,cg,dA,cR,hN] at q4
    by_cases hD:o.data=[]
    ·have hg:((0:Int)<(o.data.length:Int))=False:=by simp[hD]
     have hwr:nV n.data N o.data=n.data:=by unfold nV; rw[aZ hD]
     rw[hwr] at q4
     by_cases hd0:n.data=[]
     ·have p1:=anF (d:=n.data) hd0;rw[hd0] at q4;simp only[aQ] at q4;cases h3:r.2.2 != 0<;>simp only[yz,HS,cg,dA,q1,q2,q3,q4,p1,h0,h1,h2,h3,hN,hw,hg,ga,cR,qz,af,EW,seval]
     ·have p1:=p93 (d:=n.data) hd0 aH;have ht:List.take n.data.length (n.data.map pt)=n.data.map pt:=bC dy;cases h3:r.2.2 != 0<;>simp only[yz,HS,cg,dA,q1,q2,q3,q4,p1,h0,h1,h2,h3,hN,hw,hg,ht,ga,cR,Y3,qz,af,EW,seval]
    ·have hdl0:0<o.data.length:=gM.2 hD;have hg:((0:Int)<(o.data.length:Int))=True:=gh;have hwb:=sg o.data
     by_cases hd0:n.data=[]
     ·have p1:=anF (d:=n.data) hd0;have hk:IntKind.i64.wrap (((N+o.data.length:Nat):Int)-0)=((N+o.data.length:Nat):Int):=by rw[gv aH aH]; simp
      have hm:(((N+o.data.length:Nat):Int)<0)=False:=gh;have hmi:min o.data.length (N+o.data.length-N)=o.data.length:=aH;have rk:cp (N+o.data.length) 1=True:=qH;have b0:(((N+o.data.length:Nat):Int)==0)=false:=gh;have b1:((N:Int)==((N+o.data.length:Nat):Int))=false:=gh;have b2:((N:Int)<=((N+o.data.length:Nat):Int))=True:=gh;have b3:(((N+o.data.length:Nat):Int)<=((N+o.data.length:Nat):Int))=True:=dy;have hz:=Kk (N+o.data.length);have htl:=BI (List.replicate (N+o.data.length) 0) o.data N dy
      have hwr:nV n.data N o.data=(List.replicate (N+o.data.length) 0).take N++(o.data++(List.replicate (N+o.data.length) 0).drop (N+o.data.length)):=by
       unfold nV; rw[aR hD,hd0]; simp
      rw[hwr,<-htl] at q4;rw[kV] at q4;have l1:(0<((List.replicate (N+o.data.length) (0:UInt8)).map pt).length)=True:=gh;generalize (List.replicate (N+o.data.length) (0:UInt8)).map pt=X at hz q4 l1;cases h3:r.2.2 != 0<;>simp only[yz,HS,cg,dA,q1,q2,q3,q4,p1,h0,h1,h2,h3,hN,hw,hg,hk,hm,hmi,hwb,rk,b0,b1,b2,b3,hz,l1,gw,ga,cR,Y3,qz,bO,af,EW,seval]
     ·have p1:=p93 (d:=n.data) hd0 aH;have hL0:0<n.data.length:=gM.2 hd0;have l0:(0<n.data.length)=True:=gh;have hwn:=sg n.data
      by_cases hE2:N+o.data.length<=n.data.length
      ·have hk:IntKind.i64.wrap (((N+o.data.length:Nat):Int)-(n.data.length:Int))=((N+o.data.length:Nat):Int)-(n.data.length:Int):=gv aH aH;have hmx:(if ((N+o.data.length:Nat):Int)-(n.data.length:Int)<0 then (0:Int) else ((N+o.data.length:Nat):Int)-(n.data.length:Int))=0:=by split<;>omega
       have hmi:min o.data.length (n.data.length-N)=o.data.length:=aH;have rk:cp (n.data.length+0) 1=True:=qH;have rk0:cp n.data.length 1=True:=qH;have b1:((N:Int)==(n.data.length:Int))=false:=gh;have b2:((N:Int)<=(n.data.length:Int))=True:=gh;have htl:=BI n.data o.data N hE2
       have hwr:nV n.data N o.data=n.data.take N++(o.data++n.data.drop (N+o.data.length)):=by
        unfold nV; rw[aR hD,show N+o.data.length-n.data.length=0 by omega]; simp
       rw[hwr,<-htl] at q4;cases h3:r.2.2 != 0<;>simp only[yz,HS,cg,dA,q1,q2,q3,q4,p1,h0,h1,h2,h3,hN,hw,hg,hk,hmx,hmi,hwb,rk0,l0,b1,b2,gw,ga,cR,dL,Y3,qz,bO,af,EW,seval]
      ·have hk:IntKind.i64.wrap (((N+o.data.length:Nat):Int)-(n.data.length:Int))=((N+o.data.length:Nat):Int)-(n.data.length:Int):=gv aH aH;have hmx:(if ((N+o.data.length:Nat):Int)-(n.data.length:Int)<0 then (0:Int) else ((N+o.data.length:Nat):Int)-(n.data.length:Int))=((N+o.data.length-n.data.length:Nat):Int):=by split<;>omega
       have hsum:n.data.length+(N+o.data.length-n.data.length)=N+o.data.length:=aH;have hmi:min o.data.length (N+o.data.length-N)=o.data.length:=aH;have rk:cp (N+o.data.length) 1=True:=qH;have b0:(((N+o.data.length-n.data.length:Nat):Int)==0)=false:=gh;have b1:((N:Int)==((N+o.data.length:Nat):Int))=false:=gh;have b2:((N:Int)<=((N+o.data.length:Nat):Int))=True:=gh;have hz:=Kk (N+o.data.length-n.data.length);have htl:=BI (n.data++List.replicate (N+o.data.length-n.data.length) 0) o.data N gh
       have hwr:nV n.data N o.data=(n.data++List.replicate (N+o.data.length-n.data.length) 0).take N++(o.data++(n.data++List.replicate (N+o.data.length-n.data.length) 0).drop (N+o.data.length)):=by
        unfold nV; rw[aR hD]
       rw[hwr,<-htl] at q4;have hlX:(n.data++List.replicate (N+o.data.length-n.data.length) (0:UInt8)).length=N+o.data.length:=gh;rw[hlX,aW] at q4;have l1:(0<N+o.data.length)=True:=gh;have lz:((List.replicate (N+o.data.length-n.data.length) (0:UInt8)).map pt).length=N+o.data.length-n.data.length:=dy;generalize (List.replicate (N+o.data.length-n.data.length) (0:UInt8)).map pt=Z at hz q4 lz;cases h3:r.2.2 != 0<;>simp only[yz,HS,cg,dA,q1,q2,q3,q4,p1,h0,h1,h2,h3,hN,hw,hg,hk,hmx,hsum,hmi,hwb,rk,l0,l1,lz,b0,b1,b2,hz,gw,ga,cR,dL,Y3,qz,bO,af,EW,seval]
 ·simp only[dh,cg,aL] at q1;simp only[yz,HS,cg,dA,gr,q1,h0,ga,EW,seval]
end
section
attribute [local irreducible] eX fM lu gK dX kr aq aU cr bJ
def akN(z:Int):aq bW 166 [gS [],.func 206 [ct 0]] [cu [aF z]]=some (aF (-1),[cu [aF z]]):=by
 have h00:decide ((0:Int)<0)=false:=rfl;have hz:((0:Nat):Int)=0:=rfl;refine aB ?_;simp only[acA,ais,hz,EN,seval];rw[bG];simp only[ais,h00,EN,seval]
end
def amr(z:Int):aU (aq bW) 166 [gS [],.func 206 [ct 0]] [cu [aF z]]=some (aF (-1),[cu [aF z]]) :=
 lk (ids:=[0]) rfl rfl (show j4 [cu [aF z]] (iv [0]) [0]=some [cu [aF z]] from rfl) rfl rfl (akN z) rfl rfl rfl rfl rfl
section
attribute [local irreducible] eX fM lu gK dX kr aq aU cr bJ
def akU(z:Int):aq bW 204 [gS [],.func 206 [ct 0]] [cu [aF z]]=some (gS [],[cu [aF z]]):=by
 have h11:((-1:Int) == -1)=true:=rfl;refine aB ?_;simp only[acY,aoP,amr,h11,EN,seval]
end
def amC(z:Int)(b0 b2 b3:cI):aU (aq bW) 204 [gS [],.func 206 [ct 1]] [b0,cu [aF z],b2,b3]=some (gS [],[b0,cu [aF z],b2,b3]) :=
 lk (ids:=[1]) rfl rfl (show j4 [b0,cu [aF z],b2,b3] (iv [1]) [1]=some [cu [aF z]] from rfl) rfl rfl (akU z) rfl rfl rfl rfl rfl
def adT(b0 b2 b3:cI)(xs:List ag)(z:Int):j4 [b0,cu [aF z],b2,b3,.arr 3 0 xs] (iv [4,1]) [4,1]=some [.arr 3 0 xs,cu [aF z]]:=rfl
def asO(xs:List gI)(z:Int)(hn:xs.length<=100000)(h0:xs≠[])(hk:qW z xs≠[])(b0 b2 b3:cI):aU (aq bW) 204 [.cv 4 0 3 0 xs.length,.func 206 [ct 1]] [b0,cu [aF z],b2,b3,.arr 3 0 (xs.map iE)] =
  some (.cv 4 0 3 0 (qW z xs).length,[b0,cu [aF z],b2,b3,.arr 3 0 ((qW z xs++List.replicate (xs.length-(qW z xs).length) Mu).map iE)]):=by
 have h:=akT xs z hn h0;have hl:(qW z xs).length≠0:=fun hh=>hk (dM.1 hh)
 have hr:W7 (qW z xs).length = .cv 0 0 3 0 (qW z xs).length:=by simp[W7,Ds,hl]
 rw[hr] at h;exact lk (ids:=[4,1]) rfl rfl (adT ..) rfl rfl h rfl rfl rfl rfl rfl
def amD(xs:List gI)(z:Int)(hn:xs.length<=100000)(h0:xs≠[])(hk:qW z xs=[])(b0 b2 b3:cI):aU (aq bW) 204 [.cv 4 0 3 0 xs.length,.func 206 [ct 1]] [b0,cu [aF z],b2,b3,.arr 3 0 (xs.map iE)] =
  some (gS [],[b0,cu [aF z],b2,b3,.arr 3 0 ((List.replicate xs.length Mu).map iE)]):=by
 have h:=akT xs z hn h0;have hr:W7 (qW z xs).length = gS []:=by simp[W7,Ds,hk]
 rw[hr,hk] at h;simp only[aP,az,bO] at h;exact lk (ids:=[4,1]) rfl rfl (adT ..) rfl rfl h rfl rfl rfl rfl rfl
section
attribute [local irreducible] eX fM lu gK dX kr aq aU cr bJ
end
section
def FY(x:gI):List gI->List gI
 | []=>[x]
 |y::r=>if x.ak<y.ak then x::y::r else y::FY x r
def ur:List gI->List gI
 | []=>[]
 |x::r=>FY x (ur r)
def atl(n:gI):ue 2 (iE n)=n.ak:=rfl
def Je(x:gI):∀l:List gI,DU 2 (iE x) (l.map iE)=(FY x l).map iE
 | []=>rfl
 |y::r=>by
  simp only[aE,DU,FY,atl]
  by_cases h:x.ak<y.ak
  ·simp only[h,aJ,aE]
  ·simp only[h,aD,aE,Je x r]
def GC:∀l:List gI,rT 2 (l.map iE)=(ur l).map iE
 | []=>rfl
 |x::r=>by simp only[aE,rT,ur,GC r,Je]
def F1(x:gI):∀l,(FY x l).length=l.length+1
 | []=>rfl
 |y::r=>by simp only[FY]; split<;>simp[F1 x r]
def wk:∀l,(ur l).length=l.length
 | []=>rfl
 |x::r=>by simp[ur,F1,wk r]
def Mf{l Z:List gI}{v:Nat}(hl:l.length<=1000000)(hn:(l.map gI.ak).Nodup):aq bW 207 [.cv 0 v 3 0 l.length,.func 208 []] [.arr 3 v ((l++Z).map iE)]=some (.tuple [],[.arr 3 v ((ur l++Z).map iE)]):=by
 refine fe (g:=wE 3 2 208) rfl ?_;unfold wE;simp only[nth];have ht:((l++Z).map iE).take l.length=l.map iE:=by simp[eM]
 have hd:((l++Z).map iE).drop l.length=Z.map iE:=dy;rw[ht,hd,GC,<-aW];rw[fh]
 ·rfl
 ·refine⟨trivial,trivial,trivial,dy,trivial,aH,?_,?_⟩
  ·intro x hx;obtain⟨n,_,rfl⟩:=eJ.1 hx;rfl
  ·rw[gD];exact hn
def anK(xs:List ag)(v:Nat)(b0 b1 b2 b3:cI):j4 [b0,b1,b2,b3,.arr 3 v xs] (iv [4]) [4]=some [.arr 3 v xs]:=rfl
attribute [local irreducible] eX fM lu gK dX kr aq aU cr bJ
def asQ{l Z:List gI}{v:Nat}(hl:l.length<=1000000)(hn:(l.map gI.ak).Nodup)(b0 b1 b2 b3:cI):aU (aq bW) 207 [.cv 4 v 3 0 l.length,.func 208 []] [b0,b1,b2,b3,.arr 3 v ((l++Z).map iE)]=some (.tuple [],[b0,b1,b2,b3,.arr 3 v ((ur l++Z).map iE)]) :=
 lk (ids:=[4]) rfl rfl (anK _ _ ..) rfl rfl (Mf hl hn) rfl rfl rfl rfl rfl
def adI(M:aC):aU (aq bW) 207 [gS [],.func 208 []] M=some (.tuple [],M):=by
 have h:aq bW 207 [gS [],.func 208 []] []=some (.tuple [],[]):=by
  refine fe (g:=wE 3 2 208) rfl ?_;unfold wE;simp only[aJ]
 exact cO h M
def zO(ae:List Node)(ar z:Int):List gI:=ur (qW z (gV ae ar).1.bc)
def wD(t:Tree)(ar z m:Int):List gI×Int×Int :=
 if decide (z<0)||(decide (m<1)||decide (64<m)) then ([],0,1)
 else if (gV t.ae ar).2 != 0 then ([],0,(gV t.ae ar).2)
 else if decide (((zO t.ae ar z).length:Int)<=m) then (zO t.ae ar z,0,0)
 else ((zO t.ae ar z).take m.toNat,nw (((zO t.ae ar z).getD (m.toNat-1) Mu).ak+1),0)
def xZ{t:Tree}{dD:Int->Nat}(h:dS t dD 0)(ar:Int):((gV t.ae ar).1.bc.map gI.ak).Nodup/\(gV t.ae ar).1.bc.length<=64:=by
 unfold gV;cases hi:find t.ae ar with
 |none=>exact⟨lx,by simp[Node.zero]⟩
 |some n =>
  simp only;split
  ·exact⟨by rw[List.nodup_iff_pairwise_ne,jT]; exact(h.yl _ _ hi).1,(h.yl _ _ hi).2⟩
  ·exact⟨lx,by simp[Node.zero]⟩
def aqn(t:Tree)(ht:Rt t)(ar z m:Int):aq bW 153 [bq t,aF ar,aF z,aF m] []=some (.tuple [ja (wD t ar z m).1,aF (wD t ar z m).2.1,aF (wD t ar z m).2.2],[]):=by
 obtain⟨dD,h⟩:=ht;refine aB ?_;have q1:=fun b c M=>Ze t.ae t.next t.ak ar h.lK.mo (by have:=h.ae; omega) 2 (b::c :: cu [ba t.ae,aF t.next,aF t.ak]::M) rfl
 obtain⟨hnd,h64⟩:=xZ h ar;have hknd:((qW z (gV t.ae ar).1.bc).map gI.ak).Nodup:=(List.filter_sublist.map _).nodup hnd;have hkl:(qW z (gV t.ae ar).1.bc).length<=64:=aY (bT _ _) h64;unfold wD zO;generalize gV t.ae ar=d at q1 hnd h64 hknd hkl ⊢;simp only[bK,aL] at q1;cases g1:decide (z<0)
 ·cases g2:decide (m<1)
  ·cases g3:decide (64<m)
   ·cases g4:d.2 != 0
    ·obtain⟨M,hM⟩:∃M:Nat,m=(M:Int):=⟨m.toNat,by simp at g2; omega⟩
     subst hM;have hM1:1<=M:=by simp at g2; omega
     have hM64:M<=64:=by simp at g3; omega
     generalize hE:d.1.bc=E at q1 hknd hkl h64 ⊢;have c0:∀b0 b2 b3,aU (aq bW) 204 [gS [],.func 206 [ct 1]] [b0,cu [aF z],b2,b3]=some (gS [],[b0,cu [aF z],b2,b3]):=fun b0 b2 b3=>amC z b0 b2 b3
     have z0:((0:Int)<=(M:Int))=True:=dy
     by_cases hE0:E=[]
     ·have p1:∀M,aq bW 205 [ja E] M=some (.slice .c0 [],M):=fun M=>by subst hE0; exact anE M
      have hk:ur (qW z E)=[]:=by subst hE0; rfl
      rw[hk];simp only[yA,HU,bq,aM,q1,g1,g2,g3,g4,p1,c0,adI,z0,az,aL,fG,af,aJ,aD,EW,seval];rfl
     ·have p1:=fun M=>p58 (l:=E) hE0 aH M
      by_cases hK0:qW z E=[]
      ·have p2:=fun b0 b2 b3=>amD E z aH hE0 hK0 b0 b2 b3
       have hk:ur (qW z E)=[]:=by rw[hK0]; rfl
       rw[hk];simp only[yA,HU,bq,aM,q1,g1,g2,g3,g4,p1,p2,adI,z0,az,aL,fG,af,aJ,aD,EW,seval];rfl
      ·have p2:=fun b0 b2 b3=>asO E z aH hE0 hK0 b0 b2 b3
       have hsl:=wk (qW z E);generalize qW z E=kk at p2 hknd hkl hK0 hsl ⊢;generalize List.replicate (E.length-kk.length) Mu=Z at p2;have p3:=fun b0 b1 b2 b3=>asQ (l:=kk) (Z:=Z) (v:=0) aH hknd b0 b1 b2 b3
       generalize ur kk=ss at p3 hsl ⊢;have tk:List.take kk.length ((ss++Z).map iE)=ss.map iE:=by rw[<-hsl]; simp[eM]
       cases g5:decide ((kk.length:Int)<=(M:Int))
       ·have cG:M<kk.length:=by simp at g5; omega
        have g6:decide ((ss.length:Int)<=(M:Int))=false:=by rw[hsl]; exact g5
        have hw1:IntKind.i64.wrap ((M:Int)-1)=((M-1:Nat):Int):=by rw[gv aH aH]; omega
        have hx:=ai (show M-1<ss.length by omega)
        have hg:ss.getD (M-1) Mu=ss[M-1]:=by simp[List.getD,hx]
        have hat:(ss++Z)[M-1]?=some ss[M-1]:=by rw[aO aH]; exact hx
        have tm:List.take M ((ss++Z).map iE)=(ss.take M).map iE:=by
         rw[<-eb,eM aH]
        have b1:((M:Int)<=(kk.length:Int))=True:=gh;have b2:((M:Int)==0)=false:=gh;have b3:((0:Int)==(M:Int))=false:=gh;have b4:(((M-1:Nat):Int)<(kk.length:Int))=True:=gh;simp only[yA,HU,bq,aM,q1,g1,g2,g3,g4,g5,g6,p1,p2,p3,z0,hw1,hg,hat,tm,b1,b2,b3,b4,gw,dL,bO,gd,aL,fG,af,aJ,aD,EW,seval];rw[<-eb]
       ·have g6:decide ((ss.length:Int)<=(M:Int))=true:=by rw[hsl]; exact g5
        simp only[yA,HU,bq,aM,q1,g1,g2,g3,g4,g5,g6,p1,p2,p3,tk,bO,aL,fG,af,aJ,aD,EW,seval]
    ·simp only[yA,HU,bq,aM,q1,g1,g2,g3,g4,aL,fG,af,aJ,aD,EW,seval];rfl
   ·simp only[yA,HU,bq,aM,g1,g2,g3,aL,er,fG,af,aJ,aD,EW,seval];rfl
  ·simp only[yA,HU,bq,aM,g1,g2,aL,dH,er,fG,af,aJ,aD,EW,seval];rfl
 ·simp only[yA,HU,bq,aM,g1,aL,dH,fG,af,aJ,aD,EW,seval];rfl
def asx(t:Tree)(ht:Rt t)(ar z m:Int)(M:aC):aU (aq gH) 153 [.agg [ba t.ae,aF t.next,aF t.ak],aF ar,aF z,aF m] M=some (.tuple [ja (wD t ar z m).1,aF (wD t ar z m).2.1,aF (wD t ar z m).2.2],M) :=
 lS (cO (aqn t ht ar z m) M)
def PK{t:Tree}(ht:Rt t)(ar z m:Int):(wD t ar z m).1.length<=100000:=by
 obtain⟨dD,h⟩:=ht;have h64:=(xZ h ar).2;have hf:(zO t.ae ar z).length<=64:=by unfold zO; rw[wk]; exact aY (bT _ _) h64
 unfold wD;split
 ·simp
 ·split
  ·simp
  ·split
   ·simp only; omega
   ·simp; omega
def Ga(f:aa)(o:jA):Wk :=
 let v:=ky f.s.now o.dG
 let l:=wD f.s.now (bl f.s.now.ae v.1).ar o.n o.m
 if v.2 != 0 then (f,gr,v.2) else
 if l.2.2 != 0 then (f,gr,l.2.2) else
 (f,⟨0,0,0,l.2.1,0,l.1.map gI.name,[]⟩,0)
def c98(f:aa)(o:jA)(hf:vg f)(ho:sr o):pn 98 f o (Ga f o):=by
 unfold pn;have q1:=fun {M}=>LH f o o.dG hf.rt.small hf.rt.lK (by have:=ho.dG; omega) (p:=0) (M:=M)
 unfold Ga;simp only[];generalize ky f.s.now o.dG=v at q1 ⊢;generalize bl f.s.now.ae v.1=n at q1 ⊢;have q2:=asx f.s.now hf.rt n.ar o.n o.m;have hl:=PK hf.rt n.ar o.n o.m;generalize wD f.s.now n.ar o.n o.m=l at q2 hl ⊢;have q3:=afB l.1 hl;simp only[dh,cg,aL] at q1;cases h0:v.2 != 0
 ·cases h1:l.2.2 != 0
  ·refine⟨cZ (l.1.map gI.name),.slice .c0 [],.inl rfl,.inr ⟨rfl,rfl⟩,aB ?_⟩;simp only[Y0,E98,dh,cg,dA,aL,q1,q2,q3,oZ,h0,h1,av,af,aJ,aD,EW,seval]
  ·refine⟨.slice .c0 [],.slice .c0 [],.inr ⟨rfl,rfl⟩,.inr ⟨rfl,rfl⟩,aB ?_⟩;simp only[Y0,E98,dh,cg,dA,gr,aL,q1,q2,q3,oZ,h0,h1,ga,av,af,aJ,aD,EW,seval]
 ·refine⟨.slice .c0 [],.slice .c0 [],.inr ⟨rfl,rfl⟩,.inr ⟨rfl,rfl⟩,aB ?_⟩;simp only[Y0,E98,dh,cg,dA,gr,aL,q1,h0,ga,av,af,aJ,aD,EW,seval]
end
section
attribute [local irreducible] eX fM lu gK dX kr aq aU cr bJ
def aqy(e:gI)(s:Bytes):aq bW 167 [iE e,ct 0] [cu [.str s]]=some (.bool (e.name==s),[cu [.str s]]):=by
 refine aB ?_;simp[acB,aoF,iE,gd,EW]
def akO(xs:List gI)(s:Bytes)(hn:xs.length<=100000):aq bW 166 [gS (xs.map iE),.func 167 [ct 0]] [cu [.str s]]=some (aF (qA (fun e:gI=>e.name==s) xs 0),[cu [.str s]]) :=
 DJ (by rfl) rfl hn (fun _=>rfl) (fun _=>rfl) rfl rfl fun x _ => .inl ⟨_,_,rfl,uG rfl (aqy x s) rfl rfl rfl rfl rfl rfl rfl rfl rfl⟩
def Oc:List ag:=[.int .i64 0,.int .i64 0,.int .i64 0,.slice .c0 [],.slice .c0 [],.int .i64 0]
def wH(o:Option Node):List ag:=match o with
 |some n=>aL n
 |none=>Oc
def adK(o:Option Node):ph (.agg [aF 0,aF 0,aF 0,.slice .c0 [],.slice .c0 [],aF 0]) false (o.map bK) = .agg (wH o):=by cases o<;>rfl
def jl(all:AM Node):List Bytes->Option Node->Option Node×Int
 | [],o=>(o,0)
 |s::r,o=>if !((o.getD Node.zero).kind==2) then (o,73) else match (o.getD Node.zero).bc.find? (fun e=>e.name==s) with
  |none=>(o,70)
  |some e=>jl all r (eY all e.ar)
def fZ(l:List Node)(m:AM Node):AM Node:=l.foldl (fun m n=>kR m n.ar n) m
theorem VG{W:aa×jA}{at':Int}{p:List Bytes}{xs:List Node}(hn:xs.length<=200000){fin:AM Node}{k:List K}{r:Option (ag×aC)}
  (hx:∀e,kr (aq gH) [] 1 k ⟨.exit 0,(0,ct 0)::(2,aF at')::(5,cZ p)::(6,.iw 1)::e,[dh W.1 W.2,.map (B1 fin) (pb bK fin)]⟩=r) :
  ∀(l pre:List Node)(m:AM Node),xs=pre++l->fZ l m=fin->eX (aq gH) [] 1 k (.loop [0,2,5,6,42,43,44] Zp) [(0,ct 0),(2,aF at'),(5,cZ p),(6,.iw 1),(42,ba xs),(43,aF xs.length),(44,aF pre.length)] [dh W.1 W.2,.map (B1 m) (pb bK m)]=r:=by
 obtain⟨f,o⟩:=W;simp only[dh,cg] at hx ⊢;intro l;induction l with
 |nil =>
  intro pre m h hfin;rw[bG];simp only[fZ,nb] at hfin;subst hfin;simp only[AE,jL h,EW,seval];simp_all
 |cons n rest ih =>
  intro pre m h hfin;rw[bG];have dJ:pre.length+1<=200000:=by rw[h] at hn; grind
  have hw:IntKind.i64.wrap ((pre.length:Int)+1)=((pre++[n]).length:Int):=by rw[gv aH aH]; simp
  have hi1:=ih (pre++[n]) (kR m n.ar n) (by rw[h]; simp) hfin
  have hput:=sE bK m n.ar n;simp only[bK,aL,aA,az,aG] at hi1 hput;simp only[AE,iK h,gP h,aL,hw,hput,bkN,EW,seval];omega
def VH{W:aa×jA}{all:AM Node}(hall:∀k n,eY all k=some n->n.bc.length<=100000){xs:List Bytes}(hn:xs.length<=100000){fin:Option Node×Int}{k:List K}{r:Option (ag×aC)}
  (hx:fin.2=0->∀e,kr (aq gH) [] 1 k ⟨.exit 2,(0,.ptr 0 0)::(6,.iw 1)::(9,.ptr 2 0)::e,[dh W.1 W.2,.map (B1 all) (pb bK all),.cells (wH fin.1)]⟩=r)
  (hp:(fin.2 != 0)=true->∀c d,kr (aq gH) [] 1 k ⟨.nF (.iface 43 (.int .i64 fin.2)),[],[dh W.1 W.2,.map (B1 all) (pb bK all),.cells c,d]⟩=r) :
  ∀(l pre:List Bytes)(o:Option Node),xs=pre++l->(∀n,o=some n->n.bc.length<=100000)->jl all l o=fin->eX (aq gH) [] 1 k (.loop [0,6,9,56,57,58] Zq) [(0,.ptr 0 0),(6,.iw 1),(9,.ptr 2 0),(56,cZ xs),(57,.int .i64 xs.length),(58,.int .i64 pre.length)] [dh W.1 W.2,.map (B1 all) (pb bK all),.cells (wH o)]=r:=by
 obtain⟨f,op⟩:=W;simp only[dh,cg] at hx hp ⊢;intro l;induction l with
 |nil =>
  intro pre o h ho hfin;rw[bG];rw[jl] at hfin;subst hfin;cases o<;>simp only[wH,Oc,aL,AE,jL h,EW,seval] at hx ⊢ <;> exact hx trivial _
 |cons s rest ih =>
  intro pre o h ho hfin;rw[bG];have dJ:pre.length+1<=100000:=by rw[h] at hn; simp at hn; omega
  have hw:=zp pre s;have q2:=fun bb=>QK bb 73 rfl
  have q3:=fun bb=>QK bb 70 rfl
  cases o with
  |none =>
   have hf:jl all (s::rest) none=(none,73):=rfl;rw[hf] at hfin;subst hfin;have h02:((0:Int)==2)=false:=rfl;simp only[wH,Oc,AE,iK h,gP h,h02,q2,ga,af,EW,seval];exact hp rfl _ _
  |some n =>
   rw[jl] at hfin;simp only[bA] at hfin;cases hk:n.kind==2
   ·rw[hk] at hfin;simp only[fO,aJ] at hfin;subst hfin;simp only[wH,aL,AE,iK h,gP h,hk,q2,ga,af,EW,seval];exact hp rfl _ _
   ·rw[hk] at hfin;simp only[dQ,af,aD] at hfin;have hne:=ho n rfl;have q4:∀M,nth M 3=some (.cells [.str s])->aU (aq gH) 166 [ja n.bc,.func 167 [.ptr 3 0]] M=some (.int .i64 (qA (fun e:gI=>e.name==s) n.bc 0),M):=fun M hM=>lS (zB hM (akO n.bc s hne) rfl rfl rfl)
    rcases x6 (fun e:gI=>e.name==s) n.bc 0 with ⟨i1,i2⟩|⟨j,e,i1,i2,i3,_⟩
    ·rw[i2] at hfin;simp only at hfin;subst hfin;rw[i1] at q4;have hneg:(0<=(-1:Int))=False:=dy;simp only[wH,aL,AE,iK h,gP h,hk,q2,q3,q4,hneg,ga,af,EW,seval];exact hp rfl _ _
    ·rw[i3] at hfin;simp only at hfin;rw[i1,aG] at q4;have hi:=ih (pre++[s]) (eY all e.ar) (by rw[h]; simp) (fun m hm=>hall _ _ hm) hfin
     have hlg:=adK (eY all e.ar);simp only[aA,aw,az,aG] at hi;have hisC:(wH (eY all e.ar)).all ag.je=true:=by cases eY all e.ar<;>rfl
     have hlC:(wH (eY all e.ar)).length=6:=by cases eY all e.ar<;>rfl
     have hbC:∀B M,List.map (ag.jW B M) (wH (eY all e.ar))=wH (eY all e.ar):=fun B M=>by cases eY all e.ar<;>rfl
     generalize wH (eY all e.ar)=gc at hi hlg hisC hlC hbC;simp only[wH,aL,gd,AE,iK h,gP h,hk,q2,q3,q4,i2,o5,hlg,hisC,hlC,hbC,hw,mapOf.eq_1,bkN,EW,seval];exact hi
theorem GG{all:AM Node}{P:Node->Prop}(hall:∀k n,eY all k=some n->P n):∀(f:Nat)(ar:Int)(st:VS),(∀n,n∈st.2->P n)->∀n,n∈(j6 all f ar st).2.2->P n:=by
 intro f;induction f with
 |zero=>intro ar st h; exact h
 |succ f ih =>
  intro ar st h;rw[j6];split
  ·exact h
  ·split
   ·exact h
   ·rename_i h1;cases hn:eY all ar with
    |none=>grind
    |some n =>
     have hfold:∀(l:List gI)(w:Bool×VS),(∀n,n∈w.2.2->P n)->∀n,n∈(l.foldl (fun w e=>((j6 all f e.ar w.2).1&&w.1,(j6 all f e.ar w.2).2)) w).2.2->P n:=by
      intro l;induction l<;>grind
     grind
theorem JD(x y:Node):∀l:List Node,y∈Hj x l->y=x\/y∈l
 | [],h=>by grind [Hj]
 |z::r,h=>by
  simp[Hj] at h;split at h
  ·grind
  ·rcases bI.1 h with h|h
   ·grind
   ·rcases JD x y r h with h|h
    ·grind
    grind
theorem Bl(y:Node):∀l:List Node,y∈Cq l->y∈l
 | [],h=>h
 |x::r,h=>by
  rcases JD x y _ h with h|h
  ·grind
  ·exact bt _ (Bl y r h)
theorem zg:∀(l:List Node)(m:AM Node)(k:Int)(n:Node),eY (fZ l m) k=some n->n∈l\/eY m k=some n
 | [],m,k,n,h => .inr h
 |x::r,m,k,n,h=>by
  have h'  := h;rcases zg r _ k n h' with h|h
  ·grind
  grind [jz]
theorem vg.all{f:aa}(hf:vg f)(a:Int):yq (zw f.s a)/\(zw f.s a).length<=100200:=by
 obtain⟨g1,g2⟩:=xz a _ [] ⟨fun k n h=>(by cases h),fun k n h=>(by cases h)⟩ (fun p hp=>by have:=(hf.Ep p hp).1; omega)
 obtain⟨g3,g4⟩:=Bp a _ f.s.since _ g1 (fun n hn=>by have:=hf.rt.sz.bc n hn; omega)
 have:=hf.rt.sz.ae; have h3:=hf.eR
 grind [zw]
theorem aev{f:aa}(hf:vg f)(id:Int):(vl f.s id).2.1.length<=200000/\∀n,n∈(vl f.s id).2.1->n.bc.length<=100000:=by
 unfold vl;split
 ·rename_i x _;obtain⟨h1,h2⟩:=hf.all x.at';have hg:=xL h1.own 200001 x.ar ([],[]);refine⟨?_,fun n hn=>?_⟩
  ·have:=hg.len; have h3:=we (zw f.s x.at') []
   grind [DQ,BD,xK]
  ·have:=Bl n _ hn;exact GG h1.bc 200001 x.ar _ (fun n h=>jK) n this
 simp
def Gn(f:aa)(o:jA):Wk :=
 let a:=vl f.s o.n
 let p:=gy o.dG
 let r:=jl (fZ a.2.1 []) p.1 (eY (fZ a.2.1 []) a.1)
 if a.2.2 != 0 then (f,gr,a.2.2) else
 if p.2 != 0 then (f,gr,p.2) else
 if r.2 != 0 then (f,gr,r.2) else
 (f,⟨0,(r.1.getD Node.zero).ar,(r.1.getD Node.zero).kind,(r.1.getD Node.zero).eE,Cp (r.1.getD Node.zero),(r.1.getD Node.zero).bc.map gI.name,(r.1.getD Node.zero).data⟩,0)
theorem Ck{all:AM Node}(hall:∀k n,eY all k=some n->n.bc.length<=100000):∀(p:List Bytes)(o:Option Node),(∀n,o=some n->n.bc.length<=100000)->∀n,(jl all p o).1=some n->n.bc.length<=100000
 | [],o,ho,n,h=>ho n h
 |s::r,o,ho,n,h=>by
  rw[jl] at h;split at h
  ·grind
  ·split at h
   ·grind
   ·exact Ck hall r _ (fun m hm=>hall _ _ hm) n h
theorem apM(f:aa)(o:jA)(hf:vg f)(ho:sr o):pn 107 f o (Gn f o):=by
 unfold pn;have q1:=fun M=>lS (asC f.s o.n (by have:=hf.dP; omega) (by have:=hf.eR; omega) (fun p hp=>by have:=(hf.Ep p hp).1; omega) hf.rt.sz hf.len M)
 have ha:=aev hf o.n;have q2:=afE o.dG (by have:=ho.dG; omega)
 have hp:=(yh o.dG).2;unfold Gn;simp only[];generalize vl f.s o.n=a at q1 ha ⊢;generalize gy o.dG=p at q2 hp ⊢
 have hall:∀k n,eY (fZ a.2.1 []) k=some n->n.bc.length<=100000:=fun k n h=>by
  rcases zg _ _ _ _ h with h|h
  ·exact ha.2 n h
  ·cases h
 have hpe:=Ck hall p.1 (eY (fZ a.2.1 []) a.1) (fun n h=>hall _ _ h)
 simp only[bL] at q1;have k155z:∀M,aU (aq gH) 155 [.agg [aF 0,aF 0,aF 0,gS [],gS [],aF 0]] M=some (aF (Cp Node.zero),M):=fun M=>afC Node.zero M
 have k154z:∀M,aU (aq gH) 154 [gS []] M=some (gS [],M):=fun M=>afB [] dy M
 cases h0:a.2.2 != 0
 ·cases h1:p.2 != 0
  ·have hlg:=adK (eY (fZ a.2.1 []) a.1);have hisC:(wH (eY (fZ a.2.1 []) a.1)).all ag.je=true:=by cases eY (fZ a.2.1 []) a.1<;>rfl
   have hlC:(wH (eY (fZ a.2.1 []) a.1)).length=6:=by cases eY (fZ a.2.1 []) a.1<;>rfl
   have main:∀x y,(Row x (((jl (fZ a.2.1 []) p.1 (eY (fZ a.2.1 []) a.1)).1.getD Node.zero).bc.map gI.name |>.map ag.str)/\x=cZ (((jl (fZ a.2.1 []) p.1 (eY (fZ a.2.1 []) a.1)).1.getD Node.zero).bc.map gI.name)) ->
     (y=match (jl (fZ a.2.1 []) p.1 (eY (fZ a.2.1 []) a.1)).1 with|some n=>cR n.data|none => .slice .c0 []) ->
     aq gH 107 [ct 0] [cu (cg f o)]=some (if (jl (fZ a.2.1 []) p.1 (eY (fZ a.2.1 []) a.1)).2 != 0 then ga (jl (fZ a.2.1 []) p.1 (eY (fZ a.2.1 []) a.1)).2 else .tuple [],
      [if (jl (fZ a.2.1 []) p.1 (eY (fZ a.2.1 []) a.1)).2 != 0 then dA f o gr (.slice .c0 []) (.slice .c0 []) else
       dA f o ⟨0,((jl (fZ a.2.1 []) p.1 (eY (fZ a.2.1 []) a.1)).1.getD Node.zero).ar,((jl (fZ a.2.1 []) p.1 (eY (fZ a.2.1 []) a.1)).1.getD Node.zero).kind,((jl (fZ a.2.1 []) p.1 (eY (fZ a.2.1 []) a.1)).1.getD Node.zero).eE,Cp ((jl (fZ a.2.1 []) p.1 (eY (fZ a.2.1 []) a.1)).1.getD Node.zero),[],[]⟩ x y]):=by
    rintro x y ⟨_,hx⟩ hy;subst hx hy;refine aB ?_
    have hb:=VH (W:=(f,o)) hall (xs:=p.1) aH (fin:=jl (fZ a.2.1 []) p.1 (eY (fZ a.2.1 []) a.1)) (k:=[.block 2,.seq aa9]) (r:=some (if (jl (fZ a.2.1 []) p.1 (eY (fZ a.2.1 []) a.1)).2 != 0 then ga (jl (fZ a.2.1 []) p.1 (eY (fZ a.2.1 []) a.1)).2 else .tuple [],
      [if (jl (fZ a.2.1 []) p.1 (eY (fZ a.2.1 []) a.1)).2 != 0 then dA f o gr (.slice .c0 []) (.slice .c0 []) else
       dA f o ⟨0,((jl (fZ a.2.1 []) p.1 (eY (fZ a.2.1 []) a.1)).1.getD Node.zero).ar,((jl (fZ a.2.1 []) p.1 (eY (fZ a.2.1 []) a.1)).1.getD Node.zero).kind,((jl (fZ a.2.1 []) p.1 (eY (fZ a.2.1 []) a.1)).1.getD Node.zero).eE,Cp ((jl (fZ a.2.1 []) p.1 (eY (fZ a.2.1 []) a.1)).1.getD Node.zero),[],[]⟩ (cZ (((jl (fZ a.2.1 []) p.1 (eY (fZ a.2.1 []) a.1)).1.getD Node.zero).bc.map gI.name)) (match (jl (fZ a.2.1 []) p.1 (eY (fZ a.2.1 []) a.1)).1 with|some n=>cR n.data|none => .slice .c0 [])]))
     (fun hz e=>by
      generalize jl (fZ a.2.1 []) p.1 (eY (fZ a.2.1 []) a.1)=r at hz hpe ⊢;obtain⟨o',e'⟩:=r;simp only at hz;subst hz;cases o' with
      |none =>
       simp only[dh,cg,dA,wH,Oc,k154z,k155z,AE,iH,av,af,EW,seval];rfl
      |some n =>
       have q5:=afB n.bc (hpe n rfl);have q6:=afC n;simp only[aL] at q6;simp only[dh,cg,dA,wH,aL,q5,q6,AE,bA,av,af,EW,seval])
     (fun hz c d=>by
      rw[aZ hz,aZ hz];simp[dh,cg,dA,gr,ga,EW]) p.1 [] (eY (fZ a.2.1 []) a.1) rfl (fun n h=>hall _ _ h) rfl
    generalize jl (fZ a.2.1 []) p.1 (eY (fZ a.2.1 []) a.1)=r at hb ⊢
    have hl:=VG (W:=(f,o)) (at':=a.1) (p:=p.1) (xs:=a.2.1) ha.1 (fin:=fZ a.2.1 []) (k:=[.block 0,.seq aba]) (r:=some (if r.2 != 0 then ga r.2 else .tuple [],[if r.2 != 0 then dA f o gr (.slice .c0 []) (.slice .c0 []) else
       dA f o ⟨0,(r.1.getD Node.zero).ar,(r.1.getD Node.zero).kind,(r.1.getD Node.zero).eE,Cp (r.1.getD Node.zero),[],[]⟩ (cZ ((r.1.getD Node.zero).bc.map gI.name)) (match r.1 with|some n=>cR n.data|none => .slice .c0 [])]))
     (fun e=>by
      generalize fZ a.2.1 []=al at hlg hisC hlC hb ⊢;generalize wH (eY al a.1)=gc at hlg hisC hlC hb;simp only[dh,cg,az] at hb;simp only[dh,cg,AE,o5,mapOf.eq_1,hlg,hisC,hlC,EW,seval];omega) a.2.1 [] [] rfl rfl
    simp only[dh,cg,az,G9,Ha] at hl;simp only[MV,AE,cg,q1,q2,oZ,h0,h1,af,EW,seval]
    grind
   generalize jl (fZ a.2.1 []) p.1 (eY (fZ a.2.1 []) a.1)=r at main ⊢;cases h2:r.2 != 0
   ·refine⟨cZ ((r.1.getD Node.zero).bc.map gI.name),(match r.1 with|some n=>cR n.data|none => .slice .c0 []),.inl rfl,?_,?_⟩
    ·obtain⟨o',e'⟩:=r;cases o'
     ·exact .inr ⟨rfl,rfl⟩
     ·exact .inl rfl
    ·have:=main _ _ ⟨.inl rfl,rfl⟩ rfl;rw[h2] at this;simpa only[af,aD,av,dA] using this
   ·refine⟨.slice .c0 [],.slice .c0 [],.inr ⟨rfl,rfl⟩,.inr ⟨rfl,rfl⟩,?_⟩;have:=main _ _ ⟨.inl rfl,rfl⟩ rfl;rw[h2] at this
    grind
  ·refine⟨.slice .c0 [],.slice .c0 [],.inr ⟨rfl,rfl⟩,.inr ⟨rfl,rfl⟩,aB ?_⟩;simp only[MV,AE,cg,dA,gr,q1,q2,oZ,h0,h1,ga,af,EW,seval]
 ·refine⟨.slice .c0 [],.slice .c0 [],.inr ⟨rfl,rfl⟩,.inr ⟨rfl,rfl⟩,aB ?_⟩;simp only[MV,AE,cg,dA,gr,q1,oZ,h0,ga,EW,seval]
end
end
section
open Go Go.RowKit Go.Extern.Stop Go.Stop Go.Extern
def L1 (h:Value) (w:World):(Go.method 507 215 (.agg #[h]) "Kind").run Tryz.prog w = .ok (352,h) w:=fz
def L0 (h:Value) (w:World):(Go.method 507 215 (.agg #[h]) "Elem").run Tryz.prog w = .ok (362,.agg #[h]) w:=fz
def Bm (h:Value) (w:World):(Go.method 507 215 (.agg #[h]) "Implements").run Tryz.prog w = .ok (363,.agg #[h]) w:=fz
def zf (h:Value) (w:World):(Go.method 507 215 (.agg #[h]) "AssignableTo").run Tryz.prog w = .ok (360,.agg #[h]) w:=fz
def rlm(z:Sem Value)(f:TypeId->Addr->Nat->Nat->Sem Value)(v:Value) :
  ReflectliteValue.method z f #[v]=(do match <-ReflectliteValue.parts v with|none=>z|some (t,a,fl)=>f t a fl (fl % 32)):=rfl
theorem rls:∃s1 s2 s3 s4 s5:String,∀v x:Value,ReflectliteValue.set #[v,x]=(do
  let (some (dst,a,fl),some (src,b,_)):=(<-ReflectliteValue.parts v,<-ReflectliteValue.parts x)
   |unsupported (.noEntry s1)
  if fl / ReflectliteValue.flagAddr % 2==0 then unsupported (.noEntry s2)
  let val <-loadVar src b
  if <-Rtype.directlyAssignable dst src then storeVar dst a val
  else if <-Rtype.implements dst src then
   if (<-Rtype.kind src)==20 then
    match val with
    | .nilIface=>unsupported (.noEntry s3)
    |_=>storeVar dst a val
   else storeVar dst a (.iface src val)
  else panicString (s4 ++ (<-Rtype.spelt src) ++ s5 ++ (<-Rtype.spelt dst))
  pure (.tuple #[])):=⟨_,_,_,_,_,fun v x=>rfl⟩
def Lo(t:Addr)(w:World):(ReflectliteValue.unpack (.iface 102 (.pointer (some t)))).run Tryz.prog w
  = .ok (.agg #[.pointer (some ⟨2,102,none⟩),.pointer (some ⟨w.heap.size,0,none⟩),.int .u64 150]) (w.alloc (.cells #[.pointer (some t)] 102)):=fz
def YR (a:Addr) (w:World):(ReflectliteValue.methodAny (ReflectliteValue.valueError "reflectlite.Value.Type" 0) (fun t _ _ _=>ReflectliteType.toType t) #[.agg #[.pointer (some ⟨2,102,none⟩),.pointer (some a),.int .u64 150]]).run Tryz.prog w
  = .ok (.iface 215 (.agg #[.pointer (some ⟨2,102,none⟩)])) w:=fz
def YP(w:World):((ReflectliteType.abiMethod fun t=>Functor.map (fun a:Nat=>Value.int IntKind.u8 (a:Int)) (Rtype.kind t)) #[.pointer (some ⟨2,102,none⟩)]).run Tryz.prog w = .ok (.int .u8 22) w:=fz
def YQ(w:World):((ReflectliteType.abiMethod fun t=>Functor.map (fun a:Nat=>Value.int IntKind.u8 (a:Int)) (Rtype.kind t)) #[.pointer (some ⟨2,43,none⟩)]).run Tryz.prog w = .ok (.int .u8 2) w:=fz
def IL(a:Addr)(w:World):(ReflectliteValue.parts (.agg #[.pointer (some ⟨2,102,none⟩),.pointer (some a),.int .u64 150])).run Tryz.prog w = .ok (some (102,a,150)) w:=fz
def RT(a p:Addr)(W:World)(ha:W.cell? a=some (.pointer (some p))) :
  (ReflectliteValue.method (ReflectliteValue.valueError "reflectlite.Value.IsNil" 0) ReflectliteValue.isNil #[.agg #[.pointer (some ⟨2,102,none⟩),.pointer (some a),.int .u64 150]]).run Tryz.prog W = .ok (.bool false) W:=by
 rw[rlm];simp only[Sem.run_bind,IL,Result.andThen];simp[ReflectliteValue.isNil,loadVar,isAgg,underlying,underlying102,ha,Result.andThen]
def YO(w:World):(ReflectliteType.method ReflectliteType.elem #[.agg #[.pointer (some ⟨2,102,none⟩)]]).run Tryz.prog w = .ok (.iface 215 (.agg #[.pointer (some ⟨2,43,none⟩)])) w:=fz
def E6 (w:World):(ReflectliteType.relation "Implements" ReflectliteType.implements_ #[.agg #[.pointer (some ⟨2,43,none⟩)],.iface 215 (.agg #[.pointer (some ⟨2,99,none⟩)])]).run Tryz.prog w = .ok (.bool true) w:=fz
def Pc(v:Value)(w:World):(ReflectliteType.typeOf #[.iface 43 v]).run Tryz.prog w = .ok (.iface 215 (.agg #[.pointer (some ⟨2,43,none⟩)])) w:=fz
def E5 (w:World):(ReflectliteType.relation "AssignableTo" ReflectliteType.assignableTo #[.agg #[.pointer (some ⟨2,43,none⟩)],.iface 215 (.agg #[.pointer (some ⟨2,43,none⟩)])]).run Tryz.prog w = .ok (.bool true) w:=fz
def Lp(e:Int)(w:World):(ReflectliteValue.unpack (.iface 43 (.int .i64 e))).run Tryz.prog w
  = .ok (.agg #[.pointer (some ⟨2,43,none⟩),.pointer (some ⟨w.heap.size,0,none⟩),.int .u64 130]) (w.alloc (.cells #[.int .i64 e] 43)):=fz
def Pa(w:World):(Rtype.elem? 102).run Tryz.prog w = .ok (some 43) w:=fz
def alb(p:Addr)(w:World):(ReflectliteValue.mk 43 p ReflectliteValue.flagAddr).run Tryz.prog w = .ok (.agg #[.pointer (some ⟨2,43,none⟩),.pointer (some p),.int .u64 386]) w:=fz
def RR(a p:Addr)(W:World)(ha:W.cell? a=some (.pointer (some p))) :
  (ReflectliteValue.method (ReflectliteValue.valueError "reflectlite.Value.Elem" 0) ReflectliteValue.elem #[.agg #[.pointer (some ⟨2,102,none⟩),.pointer (some a),.int .u64 150]]).run Tryz.prog W
   = .ok (.agg #[.pointer (some ⟨2,43,none⟩),.pointer (some p),.int .u64 386]) W:=by
 rw[rlm];simp only[Sem.run_bind,IL,Result.andThen];simp[ReflectliteValue.elem,loadVar,isAgg,underlying,underlying102,ha,Result.andThen,Pa,alb]
def Pb(a:Addr)(w:World):(ReflectliteValue.parts (.agg #[.pointer (some ⟨2,43,none⟩),.pointer (some a),.int .u64 386])).run Tryz.prog w = .ok (some (43,a,386)) w:=fz
def RU(a:Addr)(w:World):(ReflectliteValue.parts (.agg #[.pointer (some ⟨2,43,none⟩),.pointer (some a),.int .u64 130])).run Tryz.prog w = .ok (some (43,a,130)) w:=fz
def O9(w:World):(Rtype.directlyAssignable 43 43).run Tryz.prog w = .ok true w:=fz
def afe(ta b:Addr)(e:Int)(ui:Value)(W:World)(hb:W.cell? b=some (.int .i64 e))(ht:W.cell? ta=some ui)(hf:W.frozen? ta=false) :
  (ReflectliteValue.set #[.agg #[.pointer (some ⟨2,43,none⟩),.pointer (some ta),.int .u64 386],.agg #[.pointer (some ⟨2,43,none⟩),.pointer (some b),.int .u64 130]]).run Tryz.prog W
   = .ok (.tuple #[]) (W.setCell ta (.int .i64 e)):=by
 have hz:=sizeOf43;have hadd:∀a:Addr,a.add 0=a:=fun a=>by simp[Addr.add]
 obtain⟨s1,s2,s3,s4,s5,rls⟩:=rls;rw[rls];simp only[Sem.run_bind,Pb,RU,Result.andThen];simp[ReflectliteValue.flagAddr,loadVar,isAgg,underlying,underlying43,hb,Result.andThen,O9,storeVar,Value.cells,storeCells,loadCells,loadCellsFrom,hz,hadd];rw[run_store Tryz.prog W ta _ _ (by rfl)]
 simp[ht,hf]
set_option maxHeartbeats 4000000 in
set_option maxRecDepth 40000 in
def ala(e:Int)(t:Addr)(ui:Value)(w:World)(hg:w.cell? ⟨0,0,none⟩=some (.iface 215 (.agg #[.pointer (some ⟨2,99,none⟩)])))(ht0:w.cell? t=some ui)(hf0:w.frozen? t=false) :
  Calls Tryz.prog 51 #[.iface 43 (.int .i64 e),.iface 102 (.pointer (some t))] w fun ev w'=>ev = .returned (.bool true)/\w'=((((w.alloc (.cells #[.pointer (some t)] 102)).alloc (.cells #[.pointer (some ⟨2,102,none⟩),.pointer (some ⟨w.heap.size,0,none⟩),.int .u64 150] 173)).alloc (.cells #[.pointer (some ⟨2,102,none⟩),.pointer (some ⟨w.heap.size,0,none⟩),.int .u64 150] 173)).alloc (.cells #[.int .i64 e] 43)).setCell t (.int .i64 e):=by
 have h6:=@run_callFunc_extern Tryz.prog 89 _ (fun args=>ReflectliteValue.unpack (args.getD 0 (.tuple #[]))) func89 fz fz fz fz
 have h7:=@run_callFunc_extern Tryz.prog 90 _ (ReflectliteValue.methodAny (ReflectliteValue.valueError "reflectlite.Value.Type" 0) (fun t _ _ _=>ReflectliteType.toType t)) func90 fz fz fz fz
 have h8:=@run_callFunc_extern Tryz.prog 91 _ (ReflectliteValue.method (ReflectliteValue.valueError "reflectlite.Value.IsNil" 0) ReflectliteValue.isNil) func91 fz fz fz fz;have h27:=@run_callFunc_extern Tryz.prog 352 _ (ReflectliteType.abiMethod fun t=>do pure (.int .u8 (<-Rtype.kind t))) func352 fz fz fz fz
 have h37:=@run_callFunc_extern Tryz.prog 362 _ (ReflectliteType.method ReflectliteType.elem) func362 fz fz fz fz;have h38:=@run_callFunc_extern Tryz.prog 363 _ (ReflectliteType.relation "Implements" ReflectliteType.implements_) func363 fz fz fz fz;have h10:=@run_callFunc_extern Tryz.prog 142 _ ReflectliteType.typeOf func142 fz fz fz fz;have h35:=@run_callFunc_extern Tryz.prog 360 _ (ReflectliteType.relation "AssignableTo" ReflectliteType.assignableTo) func360 fz fz fz fz;have h11:=@run_callFunc_extern Tryz.prog 143 _ (ReflectliteValue.method (ReflectliteValue.valueError "reflectlite.Value.Elem" 0) ReflectliteValue.elem) func143 fz fz fz fz;have h12:=@run_callFunc_extern Tryz.prog 144 _ ReflectliteValue.set func144 fz fz fz fz;have tO:=Pc;have mA:=zf;have a25:=E5;have v25:=Lp;have f6:=Lo;have f7:=YR;have mK:=L1;have mE:=L0;have mI:=Bm;have k27:=YP;have k25:=YQ;have e27:=YO;have i25:=E6;have n8:=RT ⟨w.heap.size,0,none⟩ t ((w.alloc (.cells #[.pointer (some t)] 102)).alloc (.cells #[.pointer (some ⟨2,102,none⟩),.pointer (some ⟨w.heap.size,0,none⟩),.int .u64 150] 173)) dy
 have cG:0<w.heap.size:=by
  rcases gX w.heap.size with h0|h
  ·simp[World.cell?,h0] at hg
  ·exact h
 have hg2:((w.alloc (.cells #[.pointer (some t)] 102)).alloc (.cells #[.pointer (some ⟨2,102,none⟩),.pointer (some ⟨w.heap.size,0,none⟩),.int .u64 150] 173)).cell? ⟨0,0,none⟩=some (.iface 215 (.agg #[.pointer (some ⟨2,99,none⟩)])):=by
  rw[World.cell?_alloc_lt _ _ ⟨0,0,none⟩ dy,World.cell?_alloc_lt _ _ ⟨0,0,none⟩ cG]; exact hg
 have htl:t.block<w.heap.size:=by
  rcases bz t.block w.heap.size with h|h
  ·exact h
  ·simp[World.cell?,im h] at ht0
 have el:=RR ⟨w.heap.size,0,none⟩ t (((w.alloc (.cells #[.pointer (some t)] 102)).alloc (.cells #[.pointer (some ⟨2,102,none⟩),.pointer (some ⟨w.heap.size,0,none⟩),.int .u64 150] 173)).alloc (.cells #[.pointer (some ⟨2,102,none⟩),.pointer (some ⟨w.heap.size,0,none⟩),.int .u64 150] 173)) (by rw[World.cell?_alloc_lt _ _ ⟨w.heap.size,0,none⟩ gh]; simp)
 have st:=afe t ⟨w.heap.size+1+1+1,0,none⟩ e ui ((((w.alloc (.cells #[.pointer (some t)] 102)).alloc (.cells #[.pointer (some ⟨2,102,none⟩),.pointer (some ⟨w.heap.size,0,none⟩),.int .u64 150] 173)).alloc (.cells #[.pointer (some ⟨2,102,none⟩),.pointer (some ⟨w.heap.size,0,none⟩),.int .u64 150] 173)).alloc (.cells #[.int .i64 e] 43))
  (by rw[World.cell?_alloc_at _ _ _ _ dy]; rfl)
  (by rw[World.cell?_alloc_lt _ _ t gh,World.cell?_alloc_lt _ _ t gh,World.cell?_alloc_lt _ _ t gh,World.cell?_alloc_lt _ _ t htl]; exact ht0)
  (by rw[World.frozen?_alloc_old _ _ t gh,World.frozen?_alloc_old _ _ t gh,World.frozen?_alloc_old _ _ t gh,World.frozen?_alloc_old _ _ t (gG htl)]; exact hf0)
 go_enter func51,ntmps51
 go_wp2
 refine wp_loop_rounds 1 ?_;rw[rounds_succ]
 go_wp2
 go_ret
 exact⟨rfl,rfl⟩
end
end Go.Proofs.YteoamaffclmdbaaGreatDoor
set_option linter.defProp false
namespace Go.Proofs.YteoamaffclmdbaaGreatDoor
open Go Go.Abs
def Gr:cz :=
 (.seq (.region [
 ob 36 (.mv (.tmp 8)),
 ob 37 (.chk (.tmp 36)),
 ob 38 (.yx 0 (.tmp 37)),
 ob 39 (.mN 10 (.tmp 38)),
 ob 40 (.mv (.tmp 8)),
 ob 41 (.chk (.tmp 40)),
 ob 42 (.yx 18 (.tmp 41)),
 ob 43 (.mN 7 (.tmp 42)),
 ⟨none,.store 10 (.tmp 4) (.tmp 39),none,true,false,[42],true⟩,
 ox (.store 7 (.tmp 5) (.tmp 43))] true [4,5]) (.ret))
def Gs:cz :=
 (.seq (.region [
 ob 33 (.mv (.tmp 6)),
 ob 34 (.mv (.tmp 8)),
 ob 35 (.sw (.tmp 33) [(.tmp 34)])] false [4,5,8]) Gr)
def Gu:cz :=
 (.seq (.region [
 ob 29 (.mN 10 (.tmp 2)),
 ob 30 (.mN 8 (.tmp 3)),
 ob 31 (.build [(.slice .c0 []),(.int .i64 0),(.int .i64 0),(.int .i64 0),(.slice .c0 []),(.slice .c0 []),(.slice .c0 []),(.int .i64 0),(.slice .c0 []),(.slice .c0 []),(.int .i64 0),(.int .i64 0),(.str []),(.str []),(.int .i64 0),(.int .i64 0),(.int .i64 0),(.slice .c0 []),(.int .i64 0),(.int .i64 0),(.int .i64 0),(.int .i64 0),(.int .i64 0),(.slice .c0 []),(.slice .c0 [])] [(0,10,(.tmp 29)),(10,8,(.tmp 30))]),
 ob 32 (.box (.tmp 31)),
 ob 8 (.mv (.tmp 32))] false [4,5,6,8]) Gs)
def Gv:cz :=
 (.seq (.region [
 ob 17 (.mv (.tmp 7)),
 ob 18 (.mv (.tmp 17)),
 og 19 18 true (.yx 1 (.tmp 3)),
 og 20 18 true (.rD (.tmp 19)),
 og 21 18 true (.bin .geq (.tmp 20) (.sY (.int .i64 0))),
 ob 22 (.pick (.tmp 18) (.tmp 21) (.sY (.bool false))),
 ob 23 (.mv (.tmp 22)),
 og 24 23 true (.yx 1 (.tmp 3)),
 og 25 23 true (.rD (.tmp 24)),
 og 26 23 true (.bin .lss (.tmp 25) (.sY (.int .i64 16))),
 ob 27 (.pick (.tmp 23) (.tmp 26) (.sY (.bool false))),
 ob 28 (.call 53 [(.tmp 27),(.sY (.int .i64 1))])] false [2,3,4,5,6]) Gu)
noncomputable def abV:Code:=match Tryz.f29.body with|some (.seq _ (.seq _ r))=>r|_ => .skip
def Q7:Cz:={ n:=44,own:=[],lv:=[(2,[2,3,4,5,6,7]),(3,[2,3,4,5,6]),(4,[4,5,6,8]),(5,[4,5,8]),(6,[4,5])],lp:=[] }
def wz:cz :=
 (.seq (.region [
 ⟨(some 11),.call 52 [],none,true,false,[],false⟩,
 ob 12 (.yx 0 (.tmp 3)),
 ob 13 (.rD (.tmp 12)),
 ob 14 (.look .i (.raw .nilFunc) true (.tmp 11) (.tmp 13)),
 ob 10 (.mv (.tmp 14)),
 ob 15 (.extract (.tmp 10) 0),
 ob 16 (.extract (.tmp 10) 1),
 ob 6 (.mv (.tmp 15)),
 ob 7 (.mv (.tmp 16))] true [2,3,4,5,6,7]) Gv)
def anA:comp Tryz.prog Q7 abV=some wz:=fz
noncomputable def abW:Code:=match Tryz.f50.body with|some (.seq _ (.seq _ (.cond _ (.seq _ (.seq _ r)) _)))=>r|_ => .skip
def aes:Cz:={ n:=20,own:=[],lv:=[(5,[])],lp:=[] }
def yw:cz :=
 (.region [
 ob 17 (.mN 10 (.tmp 0)),
 ob 18 (.rD (.tmp 5)),
 ob 19 (.build [(.int .i64 0),(.int .i64 0),(.int .i64 0),(.int .i64 0),(.int .i64 0),(.slice .c0 []),(.slice .c0 [])] [(0,1,(.tmp 18))]),
 ox (.store 10 (.tmp 1) (.tmp 17)),
 ox (.store 7 (.tmp 2) (.tmp 19))] false [])
def anB:comp Tryz.prog aes abW=some yw:=fz
noncomputable def abU:Code:=match Tryz.f29.body with|some (.seq r _)=>r|_ => .skip
def aer:Cz:={ n:=44,own:=[],lv:=[(0,[2,3,4,5])],lp:=[] }
def MG:cz :=
 (.region [
 ob 2 (.box (.tmp 0)),
 ob 3 (.box (.tmp 1)),
 ob 4 (.yO [(.slice .c0 []),(.int .i64 0),(.int .i64 0),(.int .i64 0),(.slice .c0 []),(.slice .c0 []),(.slice .c0 []),(.int .i64 0),(.slice .c0 []),(.slice .c0 [])]),
 ob 5 (.yO [(.int .i64 0),(.int .i64 0),(.int .i64 0),(.int .i64 0),(.int .i64 0),(.slice .c0 []),(.slice .c0 [])])] false [2,3,4,5])
def anz:comp Tryz.prog aer abU=some MG:=fz
end Go.Proofs.YteoamaffclmdbaaGreatDoor
namespace Go.Proofs.YteoamaffclmdbaaGreatDoor
open Go Go.Abs
def KI(w:World):(Instr.typeAssert .nilIface 20 99 true).run Tryz.prog w = .ok (.tuple #[.nilIface,.bool false]) w:=fz
def KH(v:Value)(w:World):(Instr.typeAssert (.iface 43 v) 20 99 true).run Tryz.prog w = .ok (.tuple #[.iface 43 v,.bool true]) w:=fz
set_option maxRecDepth 40000 in
def KS(p q r:Value)(w:World) :
  CallsD Tryz.prog 50 #[p,q,r] .returning w fun e u' w'=>e = .returned (.tuple #[])/\u' = .returning/\w'=w:=by
 refine callsD_of_wpS func50 rfl fun c₀ cs hu=>?_
 simp only[ntmps50,cU,aw,az,Nat.reduceAdd,Nat.reduceSub,jM,jN,lj,kc,aI,aP];apply wpS_seq;apply wpS_region;simp[wpOpsS,go_sem,recoverD,hu,Exit.thenS,KI];apply wpS_seq;apply wpS_region;simp[wpOpsS,go_sem,Exit.thenS];refine wpS_cond (t:=false) (by simp[Act.eval]) ?_
 simp only[af,aD];refine wpS_of_wp (wp_skip ?_);cases c₀;simp_all [bodyPostS,results,Tryz.results50]
def GX(w:World)(o:Obj):(w.alloc o).heap=w.heap.push o:=rfl
def WQ{e:Int}{j:J}{M:aC}{w W:World}(hr:Rel j M w)(hsz:w.heap.size<W.heap.size)(hos:W.os=w.os)(ht:W.tape=w.tape)(hou:W.output=w.output)(jv:W.heap[w.heap.size]?=some (.cells #[.int .i64 e] 43 (0,0)))(hb:∀b,b<w.heap.size->W.heap[b]?=w.heap[b]?) :
  Rel (gz j M.length (some w.heap.size)) (M++[.cells [.int .i64 e]]) W/\Ext j M w (gz j M.length (some w.heap.size)) (M++[.cells [.int .i64 e]]) W:=by
 have hob:∀b,some w.heap.size=some b->w.heap.size<=b/\b<W.heap.size:=fun b h=>by injection h with h; omega
 have q:Quiet w W:=⟨aH,hos,ht,hou⟩;refine⟨hr.push hob q hb (fun _=>⟨_,rfl,fun j' M' _=>⟨_,_,jv,rfl,fun i c v hc hv=>?_⟩⟩) (fun sz n b h=>by cases h),Ext.push (fun b h=>(hob b h).1) q hb⟩
 match i with
 |0 =>
  simp at hc hv;subst hc; subst hv;exact .plain (.int _ _)
 |i+1=>simp at hc
def OS{e:Int}{j:J}{M:aC}{w:World}(hr:Rel j M w)(hG:sO j M w){p q r:Value}{xp xq xr:ag}(hp:gj j M w xp p)(hq:gj j M w xq q)(hr':gj j M w xr r){o:Out}
  (ho:eO (aq gH) yw [(0,xp),(1,xq),(2,xr),(5,.ptr M.length 0)] (M++[.cells [.int .i64 e]])=some o) (hn:o.e = .normal) :
  CallsD Tryz.prog 50 #[p,q,r] (.panicking [{ v := .iface 43 (.int .i64 e),recovered:=false }]) w fun ed u' w' =>
   ed = .returned (.tuple #[])/\u' = .panicking [{ v := .iface 43 (.int .i64 e),recovered:=true }]/\∃j',Rel j' o.mem w'/\Ext j M w j' o.mem w':=by
 have hg:=(hG.g 0 [IM] 0 IM rfl rfl).2;have cG:0<w.heap.size:=(hG.g 0 [IM] 0 IM rfl rfl).1.lt;refine callsD_of_wpS func50 rfl fun c₀ cs hu=>?_
 simp only[ntmps50,cU,aw,az,Nat.reduceAdd,Nat.reduceSub,jM,jN,lj,kc,aI,aP];apply wpS_seq;apply wpS_region;simp[wpOpsS,go_sem,recoverD,hu,Exit.thenS,KH];apply wpS_seq;apply wpS_region;simp[wpOpsS,go_sem,Exit.thenS];refine wpS_cond (t:=true) (by simp[Act.eval]) ?_
 simp only[aJ];refine wpS_of_wp ?_;refine wp_seq (wp_region ?_);simp[wpOps,go_sem,Exit.then]
 refine .inl (wp_seq (wp_seq (wp_region ?_)));simp[wpOps,go_sem,Exit.then]
 repeat' refine Or.inl ?_
 refine(ala e ⟨w.heap.size,0,none⟩ (.int .i64 0) _ ?_ ?_ ?_).mono ?_
 ·rw[World.cell?_alloc_lt _ _ ⟨0,0,none⟩ cG]; exact hg
 ·simp
 ·simp
 rintro ev w' ⟨rfl,rfl⟩;simp[go_sem];refine .inl (wp_cond (t:=false) ?_ ?_)
 ·simp[Act.eval]
 simp only[af,aD];refine wp_skip ?_;simp only[Exit.then]
 have hR:=WQ (e:=e) hr (W:=((((w.alloc (.cells #[.int .i64 e] 43)).alloc (.cells #[.pointer (some ⟨w.heap.size,0,none⟩)] 102)).alloc (.cells #[.pointer (some ⟨2,102,none⟩),.pointer (some ⟨w.heap.size+1,0,none⟩),.int .u64 150] 173)).alloc (.cells #[.pointer (some ⟨2,102,none⟩),.pointer (some ⟨w.heap.size+1,0,none⟩),.int .u64 150] 173)).alloc (.cells #[.int .i64 e] 43))
  (by simp only[GX,Array.size_push]; omega) rfl rfl rfl (by
   have h2:w.heap.size≠w.heap.size+1+1:=aH;have h3:w.heap.size≠w.heap.size+1+1+1:=aH;have h4:w.heap.size≠w.heap.size+1+1+1+1:=aH;simp only[GX]; simp[fS,h2,h3,h4]) (fun b hb=>by
   have h1:b≠w.heap.size:=aH;have h2:b≠w.heap.size+1:=aH;have h3:b≠w.heap.size+1+1:=aH;have h4:b≠w.heap.size+1+1+1:=aH;have h5:b≠w.heap.size+1+1+1+1:=aH;simp only[GX]; simp[fS,h1,h2,h3,h4,h5])
 have hG':=hG.mono hR.2;have key:=wpIn_wide.1 (mJ (rd:=none) (nd:=0) fz Mo abW anB ho hR.1 hG' (a:={ tmps := #[p,q,r,.iface 43 (.int .i64 e),.bool true,.pointer (some ⟨w.heap.size,0,none⟩),.tuple #[.iface 43 (.int .i64 e),.bool true],.iface 43 (.int .i64 e),.tuple #[.iface 43 (.int .i64 e),.bool true],.iface 43 (.int .i64 e),.bool true,.bool true,.iface 43 (.int .i64 e),.iface 102 (.pointer (some ⟨w.heap.size,0,none⟩)),.bool true,.bool false,undef,undef,undef,undef],defers:=[] }) ?_ rfl)
 ·refine wp_mono key ?_;rintro ex a' w' ⟨h1,h2,h3,j',h4,h5,h6⟩;rw[hn] at h1;simp only[rO] at h1;subst h1;simp[bodyPostS,results,Tryz.results50,h3];exact⟨j',h4,hR.2.trans h6⟩
 ·refine⟨fun t=>?_,hG'⟩
  match t with
  |0=>exact hp.mono hR.2
  |1=>exact hq.mono hR.2
  |2=>exact hr'.mono hR.2
  |5=>exact .ptr dy ⟨_,kg⟩ (by simp[gz])
  |3=>exact .any _
  |4=>exact .any _
  |t+6=>exact .any _
end Go.Proofs.YteoamaffclmdbaaGreatDoor
namespace Go.Abs
open Go
variable [kG]
def WS{a:Act}{d:Option Nat}{v:Value}{t:Nat}(h:d≠some t):(a.put d v).tmps.getD t undef=a.tmps.getD t undef:=by
 cases d with
 |none=>rfl
 |some s =>
  have hne:s≠t:=fun e=>h (by rw[e])
  simp[Act.put,dq,fE hne]
def S5{F:Fence}{n:Nat}{P:Program}{ops:Array Oper}{Q:Exit->Act->World->Prop}{ks:List Nat}{v0:Nat->Value}:∀(l:List Nat)(a:Act)(w:World),
  (∀i o,i∈l->ops[i]?=some o->∀t,t∈ks->o.dst≠some t)->(∀t,t∈ks->a.tmps.getD t undef=v0 t)->wpOpsIn F n P ops Q l a w->wpOpsIn F n P ops (fun e a' w'=>Q e a' w'/\(e = .outgrown\/∀t,t∈ks->a'.tmps.getD t undef=v0 t)) l a w:=by
 intro l;induction l with
 |nil=>exact fun a w _ hv h=>⟨h,.inr hv⟩
 |cons i rest ih =>
  intro a w hd hv h;have hd':∀i o,i∈rest->ops[i]?=some o->∀t,t∈ks->o.dst≠some t:=fun i o hi=>hd i o (bt _ hi)
  simp only[wpOpsIn] at h ⊢;cases ho:ops[i]? with
  |none=>rw[ho] at h; exact ih a w hd' hv h
  |some o =>
   rw[ho] at h;have hdo:=hd i o bD ho;have hp:∀(a:Act) v,(∀t,t∈ks->a.tmps.getD t undef=v0 t)->∀t,t∈ks->(a.put o.dst v).tmps.getD t undef=v0 t:=fun a v h t ht=>(WS (hdo t ht)).trans (h t ht)
   simp only at h ⊢;split at h
   ·rename_i hw;rw[aZ hw];refine⟨h.1,?_⟩;have h:=h.2;unfold Oper.uponIn at h ⊢;split at h
    ·exact ih _ _ hd' (hp _ _ hv) h
    ·exact ih _ _ hd' (hp _ _ hv) h
    ·exact ih _ _ hd' (hp _ _ hv) h
    ·refine⟨h.1,h.2.mono fun e w' h=>?_⟩
     cases e with
     |returned v=>exact ih _ _ hd' (hp _ _ hv) h
     |panicked c=>exact⟨h,.inr hv⟩
     |outgrown=>obtain⟨a1,w1,h⟩:=h; exact⟨a1,w1,h,.inl rfl⟩
    ·exact⟨h.1,h.2.mono fun v w' h=>ih _ _ hd' (hp _ _ hv) h⟩
    ·refine⟨h.1,h.2.mono fun e w' h=>?_⟩
     cases e with
     |returned v=>exact ih _ _ hd' (hp _ _ hv) h
     |panicked c=>exact⟨h,.inr hv⟩
     |outgrown=>obtain⟨a1,w1,h⟩:=h; exact⟨a1,w1,h,.inl rfl⟩
    ·exact⟨h,.inr hv⟩
    ·exact h.elim
   ·rename_i hw;rw[aR hw];exact⟨h.1,ih _ _ hd' (hp _ _ hv) h.2⟩
def CM(ks:List Nat)(bp:Env)(o:Out):Out:=match o.e with
 | .nF v=>⟨.nF v,jo bp ks,o.mem⟩
 |_=>o
noncomputable def rJ(C:eP)(ks:List Nat):cz->Env->aC->Option Out
 | .seq x y,bp,M=>bJ (rJ C ks x bp M) fun o=>tZ o (rJ C ks y)
 | .region ops d live,bp,M=>bJ (eO C (.region ops d live) bp M) fun o=>some (if d then o else CM ks bp o)
 | .ry t c,bp,M=>rJ C ks c (Lz M t bp) (qz M (hV bp t).ids)
 |c,bp,M=>eO C c bp M
def I8(ks:List Nat):Code->Bool
 | .seq x y=>I8 ks x&&I8 ks y
 | .region _ ops _=>ops.toList.all fun o=>match o.dst with|some d => !ks.contains d|none=>true
 |_=>true
def J4{P:Program}{C:eP}{A:Cz}(hmix:P.follows .mixedOrders=true)(hC:nJ P C){rd:Option Nat}{nd:Nat}{ks:List Nat}:∀(c:Code){ac:cz},comp P A c=some ac->I8 ks c=true->∀ {bp:Env} {M:aC} {o:Out},rJ C ks ac bp M=some o ->
  ∀ {j:J} {w:World} {a:Act},Rel j M w->sO j M w->cn j M w bp a->a.tmps.size=A.n->c.wpIn (Wd rd) nd P (Yh A j M w a o) a w:=by
 intro c;induction c with
 |seq x y ihx ihy =>
  intro ac hc hf bp M o h j w a hr hG he hs;simp only[comp] at hc;obtain⟨ax,hx,hc⟩:=bf hc;obtain⟨ay,hy,hc⟩:=bf hc;cases hc;simp only[I8,bw] at hf;simp only[rJ] at h;obtain⟨o1,h1,h⟩:=bo h;refine wpIn_seq (wpIn_mono (ihx hx hf.1 h1 hr hG he hs) ?_);rintro e a1 w1 ⟨he1,hs1,hd1,j1,r1,e1,x1⟩;rcases ua h with ⟨hn,h2⟩|⟨hn,h2⟩
  ·rw[hn] at he1;subst he1;obtain⟨env',M',h3,r3,e3,x3⟩:=Nd (F:=rJ C ks) (fun _ _ _ _=>rfl) h2 r1 e1
   refine wpIn_mono (ihy hy hf.2 h3 r3 (hG.mono (x1.trans x3)) e3 hs1) ?_;rintro e a2 w2 ⟨he2,hs2,hd2,j2,r2,e2,x2⟩;exact⟨he2,hs2,hd2.trans hd1,j2,r2,e2,(x1.trans x3).trans x2⟩
  ·subst h2;have:rO o.e ≠ .normal:=by cases ho:o.e<;>simp_all [rO]
   subst he1
   cases hx:rO o.e<;>first
    |exact absurd hx this
    |exact⟨hx.symm,hs1,hd1,j1,r1,e1,x1⟩
 |region id ops draw =>
  intro ac hc hf bp M o h j w a hr hG he hs;cases draw with
  |true =>
   have hc0:=hc;simp only[comp,aJ] at hc;obtain⟨l0,hl0,hc⟩:=bf hc;obtain⟨l,hl,hc⟩:=bf hc;cases hc;simp only[rJ,aJ] at h;obtain⟨o1,h1,h⟩:=bo h;cases h;exact mJ hmix hC _ hc0 h1 hr hG he hs
  |false =>
   have hc0:=hc;simp only[comp,af,aD] at hc;obtain⟨l,hl,hc⟩:=bf hc;cases hc;simp only[rJ,af,aD] at h;obtain⟨o1,h1,h⟩:=bo h;cases h;simp only[eO] at h1;obtain⟨x,hx,h1⟩:=bo h1;cases h1
   have hdst:∀i o,i∈List.range ops.size->ops[i]?=some o->∀t,t∈ks->o.dst≠some t:=by
    intro i o _ hio t ht hd;simp only[I8,bM] at hf;have:=hf o (Array.mem_toList_iff.2 (Array.mem_of_getElem? hio));rw[hd] at this;simp[ht] at this
   refine wpIn_mono (wpIn_region (S5 (v0:=fun t=>a.tmps.getD t undef) _ a w hdst (fun _ _=>rfl) (by
    rw[ly];exact yc hC (grow:=[]) ops.toList 0 dy hl hx hr hG he hs fun a' w' j' h1 h2 h3 h4 h5=>Bw (live:=find A.lv id) h1 h2 h3 h4 h5))) ?_
   rintro e a1 w1 ⟨⟨he1,hs1,hd1,j1,r1,e1,x1⟩,hk⟩;clear hx;generalize x.rj (find A.lv id)=y at he1 r1 e1 x1 ⊢;cases hye:y.e with
   |nF v =>
    have hp:CM ks bp y=⟨.nF v,jo bp ks,y.mem⟩:=by unfold CM; rw[hye]
    rw[hp];have hk':=hk.resolve_left (by rw[he1,hye]; simp[rO])
    refine⟨by rw[he1,hye],hs1,hd1,j1,r1,⟨fun t=>?_,hG.mono x1⟩,x1⟩
    rw[yY];split
    ·rename_i ht;rw[hk' t ht];exact(he.at' t).mono x1
    ·exact .any _
   |normal =>
    have hp:CM ks bp y=y:=by unfold CM; rw[hye]
    rw[hp]; exact⟨he1,hs1,hd1,j1,r1,e1,x1⟩
   |ret =>
    have hp:CM ks bp y=y:=by unfold CM; rw[hye]
    rw[hp]; exact⟨he1,hs1,hd1,j1,r1,e1,x1⟩
   |exit i =>
    have hp:CM ks bp y=y:=by unfold CM; rw[hye]
    rw[hp]; exact⟨he1,hs1,hd1,j1,r1,e1,x1⟩
 |_ =>
  intro ac hc hf bp M o h j w a hr hG he hs;refine mJ hmix hC _ hc (o:=o) ?_ hr hG he hs;simp only[comp] at hc
  first
   |(cases hc; exact h)
   |(obtain⟨_,_,hc⟩:=bf hc; injection hc with hc; unfold Ny at hc; split at hc<;>subst hc<;>exact h)
   |(obtain⟨_,_,hc⟩:=bf hc; cases hc; exact h)
   |(obtain⟨_,_,hc⟩:=bf hc; obtain⟨_,_,hc⟩:=bf hc; obtain⟨_,_,hc⟩:=bf hc; cases hc; exact h)
   |cases hc
end Go.Abs
namespace Go.Proofs.YteoamaffclmdbaaGreatDoor
open Go Go.Abs
def abj:List sN:=[.dE 4 10,.dE 5 7]
noncomputable def MO(o1 o2:Out):Option (ag×aC) :=
 match o2.e with
 | .ret=>bJ (sV o2.bp o2.mem abj) fun l=>some ((Abs.one l).lC 0 o2.mem,iQ 0 o2.mem)
 | .nF (.iface 43 (.int .i64 e)) =>
  bJ (eO (aq gH) yw [(0,hV o1.bp 2),(1,hV o1.bp 4),(2,hV o1.bp 5),(5,.ptr o2.mem.length 0)] (o2.mem++[.cells [.int .i64 e]])) fun o3 =>
  match o3.e with
  | .normal=>bJ (sV o2.bp o3.mem abj) fun l=>some ((Abs.one l).lC 0 o3.mem,iQ 0 o3.mem)
  |_=>none
 |_=>none
noncomputable def pDo:List ag->aC->Option (ag×aC):=fun args M =>
 match M with
 |_::_=>none
 | []=>if args.length=2 then
   bJ (eO (aq gH) MG (eF 0 args) []) fun o1 =>
   match o1.e with
   | .normal=>bJ (rJ (aq gH) [4,5] wz (jo o1.bp [2,3,4,5]) o1.mem) fun o2=>MO o1 o2
   |_=>none
  else none
def RH{args:List ag}{M:aC}{x:ag×aC}(h:pDo args M=some x):db Tryz.prog 29 args M x:=by
 unfold pDo at h;split at h
 ·cases h
 split at h
 rotate_left
 ·cases h
 rename_i dJ;obtain⟨o1,ho1,h⟩:=bo h;split at h
 rotate_left
 ·cases h
 rename_i hn1;obtain⟨o2,ho2,h⟩:=bo h;intro j w vs hr hG hvl hv;refine calls_of_wp_defers func29 rfl ?_;refine wp_seq ?_;have hsz:(vs++Array.replicate (Tryz.f29.ntmps-vs.size) undef).size=44:=by rw[ntmps29]; simp; omega
 have he:cn j [] w (eF 0 args) { tmps:=vs++Array.replicate (Tryz.f29.ntmps-vs.size) undef,defers:=[] }:=by
  refine⟨fun t=>?_,hG⟩
  rw[A8,aZ (cL _),bO];rcases bz t args.length with ht|ht
  ·have h1:=ai ht;have cG:t<vs.size:=aH;have h2:=bg cG;rw[h1];have h3:=hv t _ _ h1 h2
   have:(vs++Array.replicate (Tryz.f29.ntmps-vs.size) undef).getD t undef=vs[t]:=by
    simp[dq,cj cG,h2]
   rw[this];exact h3
  ·rw[fX ht]; exact .any _
 refine wp_mono (wpIn_wide.1 (mJ (rd:=none) (nd:=0) fz Mo abU anz ho1 hr hG he hsz)) ?_;rintro ex a1 w1 ⟨h1,h2,h3,j1,r1,e1,x1⟩;rw[hn1] at h1;simp only[rO] at h1;subst h1;simp only[Exit.then]
 refine wp_seq (wp_region ?_);obtain⟨t1,d1⟩:=a1;simp only at h2 h3;subst h3;have hmf:∀(fn:Fn)(first cap:Array Value)(w:World),(Instr.makeFunc fn first cap).run Tryz.prog w = .ok (.func fn first cap) w:=fun _ _ _ _=>rfl
 have h2':t1.size=44:=h2;have h9:9<t1.size:=aH;simp[wpOps,go_sem,Exit.then,hmf,h9,Array.getElem?_setIfInBounds,gY]
 repeat' refine Or.inl ?_
 have key:∀d:List Deferred,cn j1 o1.mem w1 (jo o1.bp [2,3,4,5]) { tmps:=t1.setIfInBounds 9 (.func (.func 50) #[] #[t1[2]?.getD undef,t1[4]?.getD undef,t1[5]?.getD undef]),defers:=d }:=fun d=>by
  refine⟨fun t=>?_,e1.gl⟩
  rw[yY];split
  ·rename_i hm;have hne:9≠t:=by rintro rfl; simp at hm
   have:=e1.at' t;simp only[dq] at this ⊢;rw[fE hne];exact this
  ·exact .any _
 refine wp_mono (wpIn_wide.1 (J4 (rd:=none) (nd:=0) fz Mo abV anA fz ho2 r1 e1.gl (key _) (by simpa[Q7] using h2'))) ?_
 rintro ex a2 w2 ⟨g1,g2,g3,j2,r2,e2,x2⟩;have hp:=(e1.at' 2).mono x2;have hq:=(e1.at' 4).mono x2;have hs:=(e1.at' 5).mono x2;simp only[dq] at hp hq hs;have hb0:0<=o2.mem.length:=cL _
 have fin:∀(j3:J)(M3:aC)(w3:World)(y:ag×aC),Rel j3 M3 w3->cn j3 M3 w3 o2.bp a2->Ext j [] w j3 M3 w3->(bJ (sV o2.bp M3 abj) fun l=>some ((Abs.one l).lC 0 M3,iQ 0 M3))=some y ->
   ∃v,(results f29 a2.tmps).run Tryz.prog w3 = .ok v w3/\vS j [] w y (.returned v) w3:=by
  intro j3 M3 w3 y r3 e3 x3 hy;obtain⟨l,hl,hy⟩:=bo hy;cases hy;obtain⟨us,u1,u2,u3⟩:=C1 (P:=Tryz.prog) (rs:=Tryz.f29.results.toList) r3 e3 (by kernel_rfl:Ik Tryz.prog Tryz.f29.results.toList=some abj) hl
  have hres:(results f29 a2.tmps).run Tryz.prog w3 = .ok (if h:us.toArray.size=1 then us.toArray[0] else .tuple us.toArray) w3:=by
   unfold results;rw[lN,Sem.run_bind,Sem.run_map];refine ik (congrArg (fun r:Result (List Value)=>Result.andThen (r.andThen fun a w' => .ok a.toArray w') _) (ik ?_ u1)) rfl
   rfl
  exact⟨_,hres,.inl ⟨_,rfl,j3,zz (cL _) r3,wY (cL _) dy x3,Ft (cL _) r3 (NG u2 u3)⟩⟩
 unfold MO at h;split at h
 ·rename_i hret;rw[hret] at g1;simp only[rO] at g1;subst g1;simp only[bodyPostD,g3];refine leaves_cons (f:=50) (args := #[t1[2]?.getD undef,t1[4]?.getD undef,t1[5]?.getD undef]) dy (by simp[go_sem]) ?_
  refine(KS _ _ _ _).mono ?_;rintro ed u' w'' ⟨rfl,rfl,rfl⟩;simp only[Leaves,settle];exact fin _ _ _ _ r2 e2 (x1.trans x2) h
 ·rename_i e hpan;obtain⟨o3,ho3,h⟩:=bo h;split at h
  rotate_left
  ·cases h
  rename_i hn3;rw[hpan] at g1;simp only[rO] at g1;subst g1;simp only[bodyPostD,g3];refine leaves_cons (f:=50) (args := #[t1[2]?.getD undef,t1[4]?.getD undef,t1[5]?.getD undef]) dy (by simp[go_sem]) ?_
  refine(OS r2 e2.gl hp hq hs ho3 hn3).mono ?_;rintro ed u' w'' ⟨rfl,rfl,j3,r3,x3⟩;simp only[Leaves,settle];exact fin _ _ _ _ r3 (e2.mono x3) ((x1.trans x2).trans x3) h
 ·cases h
noncomputable def Fi:zt:=mc gH 29 pDo
def N4:vk Tryz.prog Fi:=pX N5 fz (fun h=>RH h)
def Xz{f:Nat}{a:List ag}{M:aC}{x:ag×aC}(h:aq gH f a M=some x):aq Fi f a M=some x:=qZ rfl rfl h
def lD{f:Nat}{vs:List ag}{M:aC}{x:ag×aC}(h:aU (aq gH) f vs M=some x):aU (aq Fi) f vs M=some x:=by
 obtain⟨a,B,y,h1,h2⟩:=pO h;exact h2 _ (Xz h1)
section
attribute [local irreducible] eX fM lu gK dX kr aq aU cr bJ
def sX:AM Nat:=[(1,93),(2,94),(3,95),(4,96),(5,97),(6,98),(7,99),(8,100),(9,101),(10,102),(11,103),(12,104),(13,105),(14,106),(15,107),(16,108),(17,109)]
def fnV(K:Nat):ag := .raw (.func (.func K) ⟨[]⟩ ⟨[]⟩)
def c52:aq gH 52 [] []=some (.kj (B1 sX) (pb fnV sX),[]):=by
 refine aB ?_;simp only[alJ,E52,xm,kB,Int.reduceBEq,Int.reduceEq,↓reduceIte,av,EW,seval];rfl
end
def td(K:Nat)(f:aa)(o:jA):aa×vR×Int :=
 if K=93 then Cf f o else if K=94 then Cg f o else if K=95 then Ce f o else if K=96 then uS f o else if K=97 then uQ f o else if K=98 then Ga f o else if K=99 then Cs f o else if K=100 then Ch f o else if K=101 then w7 f o else if K=102 then Gx f o else if K=103 then xM f o else if K=104 then IA f o else if K=105 then xh f o else if K=106 then Cu f o else if K=107 then Gn f o else if K=108 then BX f o else if K=109 then AP f o else (f,gr,0)
def RJ{k:Int}{K:Nat}(hk:eY sX k=some K){f:aa}{o:jA}(hf:vg f)(ho:sr o):pn K f o (td K f o):=by
 have hm:=xt _ _ _ hk;simp only[sX,bI,jk,List.not_mem_nil,or_false] at hm;rcases hm with ⟨_,rfl⟩|⟨_,rfl⟩|⟨_,rfl⟩|⟨_,rfl⟩|⟨_,rfl⟩|⟨_,rfl⟩|⟨_,rfl⟩|⟨_,rfl⟩|⟨_,rfl⟩|⟨_,rfl⟩|⟨_,rfl⟩|⟨_,rfl⟩|⟨_,rfl⟩|⟨_,rfl⟩|⟨_,rfl⟩|⟨_,rfl⟩|⟨_,rfl⟩
 ·exact c93 f o hf ho
 ·exact c94 f o hf ho
 ·exact c95 f o hf ho
 ·exact c96 f o hf ho
 ·exact c97 f o hf ho
 ·exact c98 f o hf ho
 ·exact c99 f o hf ho
 ·exact apF f o hf ho
 ·exact apG f o hf ho
 ·exact apH f o hf ho
 ·exact apI f o hf ho
 ·exact apJ f o hf ho
 ·exact apK f o hf ho
 ·exact apL f o hf ho
 ·exact apM f o hf ho
 ·exact apN f o hf ho
 ·exact apO f o hf ho
def xA(c:Bool)(b:Bool)(M:aC)(k:Option Out):EU c ((.bool b),M) k=k:=rfl
def Ai(c:Bool)(i:IntKind)(n:Int)(M:aC)(k:Option Out):EU c ((.int i n),M) k=k:=rfl
def Am(c:Bool)(b:Bytes)(M:aC)(k:Option Out):EU c ((.str b),M) k=k:=rfl
def vH(c:Bool)(t:Tk)(l:List ag)(M:aC)(k:Option Out):EU c ((.slice t l),M) k=k:=rfl
def Ag(c:Bool)(l:List ag)(M:aC)(k:Option Out):EU c ((.agg l),M) k=k:=rfl
def vI(c:Bool)(l:List ag)(M:aC)(k:Option Out):EU c ((.tuple l),M) k=k:=rfl
def Ak(c:Bool)(i n:Nat)(M:aC)(k:Option Out):EU c ((.ptr i n),M) k=k:=rfl
def xB(c:Bool)(a b:List ag)(M:aC)(k:Option Out):EU c ((.kj a b),M) k=k:=rfl
def Al(c:Bool)(v:Value)(M:aC)(k:Option Out):EU c ((.raw v),M) k=k:=rfl
def Ah(c:Bool)  (M:aC)(k:Option Out):EU c (.any,M) k=k:=rfl
def Aj(v:Value)(M:aC)(k:Option Out):EU true (.nF v,M) k=some ⟨.nF v,[],M⟩:=rfl
def DK(e:Env)(M:aC)(k:Env->aC->Option Out):tZ ⟨.normal,e,M⟩ k=k e M:=rfl
def DL(v:Value)(e:Env)(M:aC)(k:Env->aC->Option Out):tZ ⟨.nF v,e,M⟩ k=some ⟨.nF v,e,M⟩:=rfl
def SF(e:Env)(M:aC)(k:Env->aC->Option Out):tZ ⟨.ret,e,M⟩ k=some ⟨.ret,e,M⟩:=rfl
def S6(live:List Nat)(e:Env)(M:aC):Out.rj live ⟨.ret,e,M⟩=⟨.ret,e,M⟩:=rfl
def WL(ks:List Nat)(bp e:Env)(M:aC):CM ks bp ⟨.ret,e,M⟩=⟨.ret,e,M⟩:=rfl
def D0(live:List Nat)(e:Env)(M:aC):Out.rj live ⟨.normal,e,M⟩=⟨.normal,jo e live,M⟩:=rfl
def D1(live:List Nat)(v:Value)(e:Env)(M:aC):Out.rj live ⟨.nF v,e,M⟩=⟨.nF v,e,M⟩:=rfl
def Em(ks:List Nat)(bp e:Env)(M:aC):CM ks bp ⟨.normal,e,M⟩=⟨.normal,e,M⟩:=rfl
def En(ks:List Nat)(bp:Env)(v:Value)(e:Env)(M:aC):CM ks bp ⟨.nF v,e,M⟩=⟨.nF v,jo bp ks,M⟩:=rfl
def Ih:(false==true)=false:=rfl
def Ii:(true==false)=false:=rfl
def Ig:(false==false)=true:=rfl
def Ij:(true==true)=true:=rfl
def hU(e:Int):vR:=⟨e,0,0,0,0,[],[]⟩
def pq(f:aa)(o:jA):aa×vR :=
 match eY sX o.kind with
 |none=>(f,hU 1)
 |some K=>if 0<=o.bF/\o.bF<16 then (if (td K f o).2.2=0 then ((td K f o).1,(td K f o).2.1) else (f,hU (td K f o).2.2)) else (f,hU 1)
def rR:List ag:=[.slice .c0 [],.int .i64 0,.int .i64 0,.int .i64 0,.slice .c0 [],.slice .c0 [],.slice .c0 [],.int .i64 0,.slice .c0 [],.slice .c0 []]
def rb:List ag:=[.int .i64 0,.int .i64 0,.int .i64 0,.int .i64 0,.int .i64 0,.slice .c0 [],.slice .c0 []]
def yt(f:aa)(o:jA):aC:=[.cells (cm f),.cells (eS o),.cells rR,.cells rb]
def uK:Env:=[(2,.ptr 0 0),(3,.ptr 1 0),(4,.ptr 2 0),(5,.ptr 3 0)]
def BZ(a:vR)(x y:ag):List ag:=[.int .i64 a.err,.int .i64 a.ar,.int .i64 a.kind,.int .i64 a.n,.int .i64 a.m,x,y]
section
attribute [local irreducible] aq aU cr bJ
def ahN(f:aa)(o:jA):eO (aq gH) MG (eF 0 [.agg (cm f),.agg (eS o)]) []=some ⟨.normal,uK,yt f o⟩:=by
 simp only[MG,cm,eS,yt,uK,rR,rb,eO,gn,tZ,xy,EU,EV,seval];rfl
def k52:=cP c52
def Xe(f:aa)(o:jA)(e:Int):eO (aq gH) yw [(0,ct 0),(1,ct 2),(2,ct 3),(5,ct 4)] (yt f o++[cu [aF e]]) =
  some ⟨.normal,[],cu (cm f) :: cu (eS o) :: cu (cm f) :: cu (BZ (hU e) (.slice .c0 []) (.slice .c0 []))::[cu [aF e]]⟩:=by
 simp only[yw,cm,eS,yt,rR,rb,BZ,hU,eO,gn,tZ,xy,EU,EV,seval];rfl
def ahR(f:aa)(o:jA)(b:cI)(e:Int):eO (aq gH) yw [(0,ct 0),(1,ct 2),(2,ct 3),(5,ct 5)] (yt f o++[b]++[cu [aF e]]) =
  some ⟨.normal,[],cu (cm f) :: cu (eS o) :: cu (cm f) :: cu (BZ (hU e) (.slice .c0 []) (.slice .c0 []))::[b,cu [aF e]]⟩:=by
 simp only[yw,cm,eS,yt,rR,rb,BZ,hU,eO,gn,tZ,xy,EU,EV,seval];rfl
def ahP(f:aa)(o:jA)(h:eY sX o.kind=none):rJ (aq gH) [4,5] wz (jo uK [2,3,4,5]) (yt f o)=some ⟨.nF (.iface 43 (.int .i64 1)),[(4,.ptr 2 0),(5,.ptr 3 0)],yt f o⟩:=by
 have g:=o5 fnV sX o.kind;rw[h] at g;have q:=fun M=>QK false 1 rfl M
 simp only[af,aD,ga] at q;have q0:=k52;simp only[wz,Gr,Gs,Gu,Gv,cm,eS,yt,uK,rJ,eO,gn,xA,Ai,Am,vH,Ag,vI,Ak,xB,Al,Ah,Aj,DK,DL,D0,D1,Em,En,Ih,Ii,Ig,Ij,af,aJ,aD,mapOf.eq_2,ph,q0,g,q,oJ,iH,dg,EV,seval]
def ahO(f:aa)(o:jA)(K:Nat)(h:eY sX o.kind=some K)(hc:¬(0<=o.bF/\o.bF<16)):rJ (aq gH) [4,5] wz (jo uK [2,3,4,5]) (yt f o)=some ⟨.nF (.iface 43 (.int .i64 1)),[(4,.ptr 2 0),(5,.ptr 3 0)],yt f o⟩:=by
 have g:=o5 fnV sX o.kind;rw[h] at g;have q:=fun M=>QK false 1 rfl M
 simp only[af,aD,ga] at q;have q0:=k52
 by_cases h1:0<=o.bF
 ·have h2:(o.bF<16)=False:=oyf;have h1:(0<=o.bF)=True:=by simp only[fH,iZ]; exact h1
  simp only[wz,Gr,Gs,Gu,Gv,cm,eS,yt,uK,rJ,eO,gn,xA,Ai,Am,vH,Ag,vI,Ak,xB,Al,Ah,Aj,DK,DL,D0,D1,Em,En,Ih,Ii,Ig,Ij,af,aJ,aD,mapOf.eq_2,ph,q0,g,q,bA,bX,fnV,h1,h2,EV,seval]
 ·have h1:(0<=o.bF)=False:=by simp only[fH,iff_false]; exact h1
  simp only[wz,Gr,Gs,Gu,Gv,cm,eS,yt,uK,rJ,eO,gn,xA,Ai,Am,vH,Ag,vI,Ak,xB,Al,Ah,Aj,DK,DL,D0,D1,Em,En,Ih,Ii,Ig,Ij,af,aJ,aD,mapOf.eq_2,ph,q0,g,q,bA,bX,fnV,h1,EV,seval]
def ahQ(f:aa)(o:jA)(K:Nat)(r:aa×vR×Int)(h:eY sX o.kind=some K)(hc0:0<=o.bF)(hc1:o.bF<16)(hd:pn K f o r) :
  ∃x y,Row x (r.2.1.names.map ag.str)/\Row y (r.2.1.data.map pt)/\rJ (aq gH) [4,5] wz (jo uK [2,3,4,5]) (yt f o) =
   some (if r.2.2 != 0 then ⟨.nF (.iface 43 (.int .i64 r.2.2)),[(4,.ptr 2 0),(5,.ptr 3 0)],yt f o++[dA r.1 o r.2.1 x y]⟩
    else ⟨.ret,[(4,.ptr 2 0),(5,.ptr 3 0)],[.cells (cm f),.cells (eS o),.cells (cm r.1),.cells (BZ r.2.1 x y),dA r.1 o r.2.1 x y]⟩):=by
 obtain⟨x,y,hx,hy,ha⟩:=hd;refine⟨x,y,hx,hy,?_⟩;have cx:x.je=true:=by rcases hx with h|⟨h,_⟩<;>rw[h]<;>rfl
 have cy:y.je=true:=by rcases hy with h|⟨h,_⟩<;>rw[h]<;>rfl
 have g:=o5 fnV sX o.kind;rw[h] at g;have q:=fun M=>QK true 1 rfl M
 simp only[aJ] at q;have q0:=k52;have h1:(0<=o.bF)=True:=by simp only[fH,iZ]; exact hc0
 have h2:(o.bF<16)=True:=by simp only[fH,iZ]; exact hc1
 have q5:aU (aq gH) K [.ptr 4 0] (yt f o++[.cells (cg f o)])=some (if r.2.2 != 0 then ga r.2.2 else .tuple [],yt f o++[dA r.1 o r.2.1 x y]):=by
  obtain⟨f',a,e⟩:=r;simp only at hx hy ha ⊢;unfold dA at ha ⊢;rcases hx with rfl|⟨rfl,_⟩<;>rcases hy with rfl|⟨rfl,_⟩<;>exact ti (vs:=[]) (p:=4) rfl ha rfl rfl (by split<;>rfl) rfl (by split<;>rfl) rfl rfl rfl rfl rfl
 obtain⟨f',a,e⟩:=r;simp only at q5 ⊢;simp only[yt,cm,eS,cg,dA,rR,rb,aI,aP,ga] at q5 ⊢;cases he:e != 0<;>simp only[he,af,aJ,aD] at q5 ⊢
 ·simp only[rR,rb,SF,S6,WL,wz,Gr,Gs,Gu,Gv,cm,eS,yt,uK,rJ,eO,gn,xA,Ai,Am,vH,Ag,vI,Ak,xB,Al,Ah,Aj,DK,DL,D0,D1,Em,En,Ih,Ii,Ig,Ij,af,aJ,aD,mapOf.eq_2,ph,q0,g,q,bA,bX,fnV,h1,h2,q5,BZ,cx,cy,dZ,EV,seval]
 ·simp only[rR,rb,SF,S6,WL,wz,Gr,Gs,Gu,Gv,cm,eS,yt,uK,rJ,eO,gn,xA,Ai,Am,vH,Ag,vI,Ak,xB,Al,Ah,Aj,DK,DL,D0,D1,Em,En,Ih,Ii,Ig,Ij,af,aJ,aD,mapOf.eq_2,ph,q0,g,q,bA,bX,fnV,h1,h2,q5,EV,seval]
end
def O8(f:aa)(o:jA)(e:Int){R:aC}{M3:aC}(h:eO (aq gH) yw [(0,.ptr 0 0),(1,.ptr 2 0),(2,.ptr 3 0),(5,.ptr (yt f o++R).length 0)] (yt f o++R++[.cells [.int .i64 e]])=some ⟨.normal,[],.cells (cm f) :: .cells (eS o) :: .cells (cm f) :: .cells (BZ (hU e) (.slice .c0 []) (.slice .c0 []))::M3⟩) :
  MO ⟨.normal,uK,yt f o⟩ ⟨.nF (.iface 43 (.int .i64 e)),[(4,.ptr 2 0),(5,.ptr 3 0)],yt f o++R⟩=some (.tuple [.agg (cm f),.agg (dw (hU e))],[]):=by
 show bJ (eO (aq gH) yw [(0,.ptr 0 0),(1,.ptr 2 0),(2,.ptr 3 0),(5,.ptr (yt f o++R).length 0)] (yt f o++R++[.cells [.int .i64 e]])) _=_
 rw[h,bN];rfl
def WK(f:aa)(o:jA):pDo [.agg (cm f),.agg (eS o)] []=bJ (rJ (aq gH) [4,5] wz (jo uK [2,3,4,5]) (yt f o)) fun o2=>MO ⟨.normal,uK,yt f o⟩ o2:=by
 unfold pDo;simp only[];have h2:[ag.agg (cm f),ag.agg (eS o)].length=2:=rfl;rw[aZ h2,ahN,bN]
def c29(f:aa)(o:jA)(hf:vg f)(ho:sr o):aq Fi 29 [.agg (cm f),.agg (eS o)] []=some (.tuple [.agg (cm (pq f o).1),.agg (dw (pq f o).2)],[]):=by
 have bad:∀e,pq f o=(f,hU e)->∀R M3,rJ (aq gH) [4,5] wz (jo uK [2,3,4,5]) (yt f o)=some ⟨.nF (.iface 43 (.int .i64 e)),[(4,.ptr 2 0),(5,.ptr 3 0)],yt f o++R⟩ ->
   eO (aq gH) yw [(0,.ptr 0 0),(1,.ptr 2 0),(2,.ptr 3 0),(5,.ptr (yt f o++R).length 0)] (yt f o++R++[.cells [.int .i64 e]])=some ⟨.normal,[],.cells (cm f) :: .cells (eS o) :: .cells (cm f) :: .cells (BZ (hU e) (.slice .c0 []) (.slice .c0 []))::M3⟩ ->
   aq Fi 29 [.agg (cm f),.agg (eS o)] []=some (.tuple [.agg (cm (pq f o).1),.agg (dw (pq f o).2)],[]):=by
  intro e he R M3 h1 h2;rw[he];refine fe (g:=pDo) rfl ?_;rw[WK,h1,bN];exact O8 f o e h2
 cases hk:eY sX o.kind with
 |none =>
  refine bad 1 (by unfold pq; rw[hk]) [] [.cells [.int .i64 1]] ?_ ?_
  ·rw[ahP f o hk,cX]
  ·rw[cX]; exact Xe f o 1
 |some K =>
  by_cases hc:0<=o.bF/\o.bF<16
  ·obtain⟨x,y,hx,hy,hs⟩:=ahQ f o K (td K f o) hk hc.1 hc.2 (RJ hk hf ho)
   by_cases he:(td K f o).2.2=0
   ·have hd:pq f o=((td K f o).1,(td K f o).2.1):=by unfold pq; rw[hk]; simp only[aZ hc,aZ he]
    rw[hd];refine fe (g:=pDo) rfl ?_;rw[WK,hs,aR (by simp[he]),bN]
    generalize td K f o=r at hx hy ⊢;obtain⟨f',⟨a1,a2,a3,a4,a5,ns,dt⟩,e⟩:=r;simp only at hx hy;rcases hx with rfl|⟨rfl,hn⟩<;>rcases hy with rfl|⟨rfl,hm⟩
    ·rfl
    ·rw[oG] at hm; subst hm; rfl
    ·rw[oG] at hn; subst hn; rfl
    ·rw[oG] at hn hm; subst hn; subst hm; rfl
   ·refine bad (td K f o).2.2 (by unfold pq; rw[hk]; simp only[aZ hc,aR he]) [dA (td K f o).1 o (td K f o).2.1 x y] _ ?_ (ahR f o _ _)
    rw[hs,aZ (by simpa using he)]
  ·refine bad 1 (by unfold pq; rw[hk]; simp only[aR hc]) [] [.cells [.int .i64 1]] ?_ ?_
   ·rw[ahO f o K hk hc,cX]
   ·rw[cX]; exact Xe f o 1
def Wd(ae:List Node)(i:Int):Nat:=(bl ae i).data.length
def kl(m:AM Bool):List Int:=m.map Prod.fst
def yn(ae:List Node)(l:List Int):Nat:=(l.map (Wd ae)).sum
structure Seen(ae:List Node)(m:AM Bool):Prop where
 nd:(kl m).Nodup
 tr:∀p,p∈m->p.2=true
 inn:∀k,k∈kl m->(find ae k).isSome=true
inductive Rch(ae:List Node):Int->Int->Prop
 |one {i:Int} {e:gI}:e∈(bl ae i).bc->Rch ae i e.ar
 |step {i x:Int} {e:gI}:e∈(bl ae i).bc->Rch ae e.ar x->Rch ae i x
theorem JE:∀(m:AM Bool)(k:Int),k∈kl m->∃v,eY m k=some v
 | [],k,h=>by grind [kl]
 |(a,v)::m,k,h=>by
  rw[eY];split
  ·simp
  ·refine JE m k ?_
   grind [kl]
theorem Seen.get{ae:List Node}{m:AM Bool}(h:Seen ae m)(k:Int):(eY m k).getD false=true↔k∈kl m:=by
 constructor
 ·intro hg;cases hm:eY m k with
  |none=>grind
  |some v=>exact eJ.2 ⟨_,xt _ _ _ hm,rfl⟩
 ·intro hk;obtain⟨v,hv⟩:=JE m k hk;have:=h.tr _ (xt _ _ _ hv)
  grind
def JF:∀(m:AM Bool)(k:Int)(v:Bool),k∉kl m->kR m k v=m++[(k,v)]
 | [],k,v,_=>rfl
 |(a,w)::m,k,v,h=>by
  simp only[kl,aE,bI,o7] at h;rw[kR,aR h.1,JF m k v h.2]; rfl
theorem Seen.put{ae:List Node}{m:AM Bool}(h:Seen ae m){k:Int}(hk:k∉kl m)(hf:(find ae k).isSome=true):Seen ae (kR m k true)/\kl (kR m k true)=kl m++[k]:=by
 rw[JF m k _ hk];have e:kl (m++[(k,true)])=kl m++[k]:=by simp[kl]
 refine⟨⟨?_,fun p hp=>?_,fun x hx=>?_⟩,e⟩
 ·rw[e];refine lh.2 ⟨h.nd,dy,fun a ha b hb=>?_⟩
  grind
 ·rcases bm.1 hp with hp|hp
  ·exact h.tr p hp
  grind
 ·rw[e] at hx;rcases bm.1 hx with hx|hx
  ·exact h.inn x hx
  grind
def abL{t:Tree}{dD:Int->Nat}(h:dS t dD 0)(i:Int):Wd t.ae i<=4096:=by
 unfold Wd bl;cases hi:find _ i with
 |none=>simp[Node.zero]
 |some n =>
  rcases h.kind _ _ hi with h1|h1
  ·exact(h.file _ _ hi h1).2.2
  ·simp[h.dir _ _ hi h1]
theorem N3{t:Tree}{dD:Int->Nat}(h:dS t dD 0):∀l:List Int,yn t.ae l<=4096*l.length
 | []=>by simp[yn]
 |i::l=>by
  have h1:=abL h i;have h2:=N3 h l
  grind [yn]
theorem Seen.len{t:Tree}{dD:Int->Nat}(h:dS t dD 0){m:AM Bool}(hs:Seen t.ae m):(kl m).length<=200:=by
 have:=JH _ _ hs.nd (fun x hx=>by
  obtain⟨n,hn⟩:=fA.1 (hs.inn x hx);exact eJ.2 ⟨n,(cD hn).1,(cD hn).2⟩)
 have h2:=h.ae
 grind
structure Fol(ae:List Node)(r i:Int)(l:List gI)(s s':Int×AM Bool):Prop where
 seen:Seen ae s'.2
 sum:s'.1=(Wd ae r:Int)+yn ae (kl s'.2)
 sub:∀x,x∈kl s.2->x∈kl s'.2
 all:∀e,e∈l->e.ar∈kl s'.2
 new:∀x,x∈kl s'.2->x∈kl s.2\/((∀e,e∈(bl ae x).bc->e.ar∈kl s'.2)/\Rch ae i x)
def I7{t:Tree}{dD:Int->Nat}(h:dS t dD 0)(r:Int):∀(f:Nat)(ar:Int)(s:Int×AM Bool),(∀n,find t.ae ar=some n->n.kind=2->13<f+dD ar)->0<f ->
  Seen t.ae s.2->s.1+Wd t.ae ar=(Wd t.ae r:Int)+yn t.ae (kl s.2)->Fol t.ae r ar (bl t.ae ar).bc s (mM t.ae f ar s):=by
 intro f;induction f with
 |zero=>simp
 |succ f ih =>
  intro ar s hd _ hs hq
  have key:∀(l:List gI)(u:Int×AM Bool),(∀e,e∈l->e∈(bl t.ae ar).bc)->Seen t.ae u.2->u.1=(Wd t.ae r:Int)+yn t.ae (kl u.2) ->
    Fol t.ae r ar l u (l.foldl (fun s e=>if !((eY s.2 e.ar).getD false) then mM t.ae f e.ar (s.1,kR s.2 e.ar true) else s) u):=by
   intro l;induction l with
   |nil=>intro u _ h1 h2; exact⟨h1,h2,fun x hx=>hx,fun e he=>(by cases he),fun x hx => .inl hx⟩
   |cons e l ihl =>
    intro u hl h1 h2;rw[eK];have he:=hl e bD
    by_cases hk:e.ar∈kl u.2
    ·rw[aR (by rw[(h1.get _).2 hk]; simp)]
     have g:=ihl u (fun x hx=>hl x (bt _ hx)) h1 h2
     refine⟨g.seen,g.sum,g.sub,fun x hx=>?_,g.new⟩
     rcases bI.1 hx with rfl|hx
     ·exact g.sub _ hk
     ·exact g.all x hx
    ·have hb:(eY u.2 e.ar).getD false=false:=by
      cases hc:(eY u.2 e.ar).getD false with
      |false=>rfl
      |true=>exact absurd ((h1.get _).1 hc) hk
     rw[hb,aZ (show(!false)=true from rfl)]
     obtain⟨n,hi⟩:∃n,find t.ae ar=some n:=by
      cases hi:find t.ae ar with
      |none=>simp[bl,hi,Node.zero] at he
      |some n=>simp
     have he':e∈n.bc:=by simpa[bl,hi] using he
     have hk2:n.kind=2:=by
      rcases h.kind _ _ hi with h3|h3
      ·rw[(h.file _ _ hi h3).1] at he'; cases he'
      ·exact h3
     obtain⟨_,_,e1,_,m,hm,hu⟩:=h.CF _ _ _ hi he';obtain⟨p1,p2⟩:=h1.put hk (by rw[hm]; rfl)
     have hsum:yn t.ae (kl (kR u.2 e.ar true))=yn t.ae (kl u.2)+Wd t.ae e.ar:=by rw[p2]; simp[yn]
     have g1:=ih e.ar (u.1,kR u.2 e.ar true) (fun n' hn' hk'=>by
      rw[hm] at hn'; cases hn';have h3:=(h.qF _ _ hm hk' e1).1;have h4:=hd n hi hk2;rw[hu hk'] at h3;omega) (by
      have h4:=hd n hi hk2;have h5:=(h.deep _ _ hi hk2).1;omega) p1 (by simp only; rw[hsum,h2]; omega)
     have g2:=ihl _ (fun x hx=>hl x (bt _ hx)) g1.seen g1.sum
     have hin:e.ar∈kl (kR u.2 e.ar true):=by rw[p2]; simp
     refine⟨g2.seen,g2.sum,fun x hx=>g2.sub _ (g1.sub _ (by simp only; rw[p2]; simp[hx])),fun x hx=>?_,fun x hx=>?_⟩
     ·rcases bI.1 hx with rfl|hx
      ·exact g2.sub _ (g1.sub _ hin)
      ·exact g2.all x hx
     ·rcases g2.new x hx with hx|hx
      ·rcases g1.new x hx with hx|⟨hx,hr⟩
       ·simp only at hx;rw[p2] at hx;rcases bm.1 hx with hx|hx
        ·exact .inl hx
        ·rw[bS.1 hx];exact .inr ⟨fun e' he'=>g2.sub _ (g1.all e' he'),.one he⟩
       ·exact .inr ⟨fun e' he'=>g2.sub _ (hx e' he'),.step he hr⟩
      ·exact .inr hx
  have hw:nw (s.1+(bl t.ae ar).data.length)=s.1+Wd t.ae ar:=by
   have h1:=abL h r;have h2:=N3 h (kl s.2);have h3:=hs.len h;have hW:((bl t.ae ar).data.length:Int)=(Wd t.ae ar:Int):=rfl;rw[hW];exact gv aH aH
  have g:=key (bl t.ae ar).bc (s.1+Wd t.ae ar,s.2) (fun _ h=>h) hs hq
  rw[mM,hw];exact⟨g.seen,g.sum,g.sub,g.all,g.new⟩
def InB(ae:List Node)(ar x:Int):Prop:=∃d e,d∈ae/\d.kind=2/\iJ ae d.ar ar=true/\e∈d.bc/\e.ar=x
theorem ahJ{t:Tree}{dD:Int->Nat}(h:dS t dD 0){ar:Int}:∀ {i x:Int},Rch t.ae i x->(∃d,find t.ae i=some d/\(d.kind=2->iJ t.ae i ar=true))->InB t.ae ar x:=by
 intro i x hr;induction hr with
 |one he =>
  rintro⟨d,hd,hb⟩;rename_i i e;have he':e∈d.bc:=jK
  have hk:d.kind=2:=by
   rcases h.kind _ _ hd with h3|h3
   ·rw[(h.file _ _ hd h3).1] at he'; grind
   omega
  exact⟨d,e,(cD hd).1,hk,by rw[(cD hd).2]; grind,he',rfl⟩
 |step he _ ih =>
  rintro⟨d,hd,hb⟩;rename_i i x e _;have he':e∈d.bc:=jK
  have hk:d.kind=2:=by
   rcases h.kind _ _ hd with h3|h3
   ·rw[(h.file _ _ hd h3).1] at he'; grind
   omega
  obtain⟨_,_,e1,_,m,hm,hu⟩:=h.CF _ _ _ hd he';refine ih ⟨m,hm,fun hk'=>?_⟩
  by_cases ho:e.ar=ar
  ·rw[ho]; simp[dS.oN]
  ·rw[h.su hm hk' e1 ho]
   grind
theorem HP{t:Tree}{dD:Int->Nat}(h:dS t dD 0){ar:Int}{d:Node}(hd:find t.ae ar=some d)(hk:d.kind=2) :
  ∃K:List Int,K.Nodup/\(∀x,x∈K↔InB t.ae ar x)/\(∀x,x∈K->(find t.ae x).isSome=true)/\lq t.ae ar=((K.length:Int),(yn t.ae K:Int)):=by
 have g:=I7 h ar 14 ar (0,[]) (fun n hn hk=>aH) aH ⟨by simp[kl],fun p hp=>(by cases hp),fun k hk=>(by simp[kl] at hk)⟩ (by simp[kl,yn])
 have hu:lq t.ae ar=(((mM t.ae 14 ar (0,[])).2.length:Int),(mM t.ae 14 ar (0,[])).1):=by
  simp_all [lq,bl]
 generalize mM t.ae 14 ar (0,[])=s' at g hu;have w0:Wd t.ae ar=0:=by simp[Wd,bl,hd,h.dir _ _ hd hk]
 have cl:∀x,x∈kl s'.2->∀e,e∈(bl t.ae x).bc->e.ar∈kl s'.2:=fun x hx=>by
  rcases g.new x hx with h1|h1
  ·simp[kl] at h1
  ·exact h1.1
 refine⟨kl s'.2,g.seen.nd,fun x=>⟨fun hx=>?_,fun hx=>?_⟩,g.seen.inn,?_⟩
 ·rcases g.new x hx with h1|h1
  ·simp[kl] at h1
  grind [ahJ,dS.oN]
 ·obtain⟨p,e,hp,hpk,hb,he,rfl⟩:=hx
  have key:∀(m:Nat)(i:Int)(n:Node),find t.ae i=some n->n.kind=2->dD i=m->iJ t.ae i ar=true->∀e,e∈n.bc->e.ar∈kl s'.2:=by
   intro m;induction m with
   |zero =>
    intro i n hi hnk hm hb e he
    by_cases ho:i=ar
    ·subst ho;exact g.all e (by simpa[bl,hi] using he)
    ·by_cases h1:i=1
     ·grind [dS.qM]
     ·have:=(h.qF _ _ hi hnk h1).1; omega
   |succ m ihm =>
    intro i n hi hnk hm hb e he
    by_cases ho:i=ar
    ·subst ho;exact g.all e (by simpa[bl,hi] using he)
    ·have h1:i≠1:=fun hh=>by subst hh; have:=h.CE; omega
     rw[h.su hi hnk h1 ho] at hb;obtain⟨a,q,hq,hqk⟩:=h.qF _ _ hi hnk h1;obtain⟨p,e',p1,p2,p3,p4⟩:=h.named hi hnk h1 (by have:=(h.num _ _ hi).1; omega)
     have:=ihm n.up p p1 p2 aH hb e' p3;rw[p4] at this
     grind
  have hpf:find t.ae p.ar=some p:=(ic h.lK.mo).2 ⟨hp,rfl⟩
  grind
 ·rw[hu,g.sum,w0];simp[kl]
def NB(e:Int)(ae:List Node)(met:List Bool):List Bool:=List.zipWith (fun n b=>b||n.ar==e) ae met
def V5(ae:List Node)(ar:Int)(met:List Bool)(d:Node):List Bool:=if d.kind==2&&iJ ae d.ar ar then d.bc.foldl (fun m e=>NB e.ar ae m) met else met
def sy(ae:List Node)(ar:Int):List Bool:=ae.foldl (V5 ae ar) (ae.map fun _=>false)
def OY(met:List Bool):Nat:=met.countP id
def HR(ae:List Node)(met:List Bool):Nat:=((ae.zip met).map fun p=>if p.2 then p.1.data.length else 0).sum
def Gf(e:Int)(p:Node->Bool):∀l:List Node,NB e l (l.map p)=l.map fun n=>p n||n.ar==e
 | []=>rfl
 |n::l=>by
  have:=Gf e p l;simp only[NB,aE,List.zipWith_cons_cons] at this ⊢;rw[this]
def D9(ae:List Node):∀(l:List gI)(p:Node->Bool),l.foldl (fun m e=>NB e.ar ae m) (ae.map p)=ae.map fun n=>p n||l.any fun e=>n.ar==e.ar
 | [],p=>dy
 |e::l,p=>by
  rw[eK,Gf,D9 ae l];simp only[jR,Bool.or_assoc]
def yU(ae:List Node)(ar:Int):∀(l:List Node)(p:Node->Bool),∃q:Node->Bool,l.foldl (V5 ae ar) (ae.map p)=ae.map q /\
  ∀n,q n=true↔p n=true\/∃d e,d∈l/\d.kind=2/\iJ ae d.ar ar=true/\e∈d.bc/\e.ar=n.ar
 | [],p=>⟨p,rfl,fun n=>dy⟩
 |d::l,p=>by
  rw[eK,V5]
  by_cases hd:(d.kind==2&&iJ ae d.ar ar)=true
  ·rw[aZ hd,D9];obtain⟨q,h1,h2⟩:=yU ae ar l fun n=>p n||d.bc.any fun e=>n.ar==e.ar
   refine⟨q,h1,fun n=>?_⟩
   rw[h2];rw[bw,eG] at hd;simp only[cW,km,eG,bI];constructor
   ·rintro((h|⟨e,h3,h4⟩)|⟨d',e,h3,h4⟩)
    ·exact .inl h
    ·exact .inr ⟨d,e,.inl rfl,hd.1,hd.2,h3,h4.symm⟩
    ·exact .inr ⟨d',e,.inr h3,h4⟩
   ·rintro(h|⟨d',e,rfl|h3,h4,h5,h6,h7⟩)
    ·exact .inl (.inl h)
    ·exact .inl (.inr ⟨e,h6,h7.symm⟩)
    ·exact .inr ⟨d',e,h3,h4,h5,h6,h7⟩
  ·rw[aR hd];obtain⟨q,h1,h2⟩:=yU ae ar l p;refine⟨q,h1,fun n=>?_⟩
   rw[h2];rw[bw,eG] at hd;simp only[bI];constructor
   ·rintro(h|⟨d',e,h3,h4⟩)
    ·exact .inl h
    ·exact .inr ⟨d',e,.inr h3,h4⟩
   ·rintro(h|⟨d',e,rfl|h3,h4,h5,h6⟩)
    ·exact .inl h
    ·exact absurd ⟨h4,h5⟩ hd
    ·exact .inr ⟨d',e,h3,h4,h5,h6⟩
def w8(ae:List Node)(ar:Int):∃q:Node->Bool,sy ae ar=ae.map q/\∀n,q n=true↔InB ae ar n.ar:=by
 obtain⟨q,h1,h2⟩:=yU ae ar ae fun _=>false
 exact⟨q,h1,fun n=>by rw[h2]; simp[InB]⟩
def Dp(q:Node->Bool):∀l:List Node,OY (l.map q)=(l.filter q).length
 | []=>rfl
 |n::l=>by
  have:=Dp q l;simp only[OY,aE,lR,fq,id] at this ⊢;split<;>simp[this]
def HK(q:Node->Bool):∀l:List Node,HR l (l.map q)=((l.filter q).map fun n=>n.data.length).sum
 | []=>rfl
 |n::l=>by
  have:=HK q l;simp only[HR,aE,List.zip_cons_cons,List.sum_cons,fq] at this ⊢;rw[this];split<;>simp
def G6{t:Tree}{dD:Int->Nat}(h:dS t dD 0){ar:Int}{d:Node}(hd:find t.ae ar=some d)(hk:d.kind=2) :
  lq t.ae ar=((OY (sy t.ae ar):Int),(HR t.ae (sy t.ae ar):Int)):=by
 obtain⟨K,k1,k2,k3,k4⟩:=HP h hd hk;obtain⟨q,q1,q2⟩:=w8 t.ae ar;have hasc:=h.lK.mo
 have hp:K.Perm ((t.ae.filter q).map Node.ar):=by
  refine(List.perm_ext_iff_of_nodup k1 ?_).2 fun x=>?_
  ·have:((t.ae.filter q).map Node.ar).Pairwise (· < ·):=jT.2 (jQ _ hasc)
   exact this.imp fun h=>aH
  ·rw[k2];constructor
   ·intro hx;obtain⟨n,hn⟩:=fA.1 (k3 x ((k2 x).2 hx));refine eJ.2 ⟨n,ei.2 ⟨(cD hn).1,(q2 n).2 ?_⟩,(cD hn).2⟩;rw[(cD hn).2]; exact hx
   ·intro hx;obtain⟨n,hn,rfl⟩:=eJ.1 hx;exact(q2 n).1 (ei.1 hn).2
 rw[k4,q1,Dp,HK];have h1:K.length=(t.ae.filter q).length:=by rw[hp.length_eq,dU]
 have h2:yn t.ae K=((t.ae.filter q).map fun n=>n.data.length).sum:=by
  unfold yn;rw[(hp.map (Wd t.ae)).sum_nat,gD];congr 1;refine cT fun n hn=>?_
  have:find t.ae n.ar=some n:=(ic hasc).2 ⟨(ei.1 hn).1,rfl⟩;simp[Wd,bl,this]
 rw[h1,h2]
abbrev Fl(n:Node):Prop:=n.bc.length<=64/\n.data.length<=4096
structure FB(k:Nat)(f:aa):Prop where
 ok:vg f
 past:f.s.eR.length<=k
structure C4(a:vR):Prop where
 names:a.names.length<=90000
 data:a.data.length<=90000
def FB.mono{k m:Nat}{f:aa}(h:FB k f)(hm:k<=m):FB m f:=⟨h.ok,aY h.past hm⟩
def Rt.XV{t:Tree}(h:Rt t){n:Node}(hn:n∈t.ae):Fl n:=by
 obtain⟨dD,h⟩:=h;have hi:find t.ae n.ar=some n:=(ic h.lK.mo).2 ⟨hn,rfl⟩;refine⟨(h.yl _ _ hi).2,?_⟩;rcases h.kind _ _ hi with h1|h1
 ·exact(h.file _ _ hi h1).2.2
 ·rw[h.dir _ _ hi h1]; simp
def Bv(t:Tree)(tk:List mT)(c:Int):∀(l:List Node)(y:List Int),(lO t tk c l y).length<=l.length/\∀p,p∈lO t tk c l y->p.node∈l
 | [],y=>⟨by simp[lO],fun p h=>by simp[lO] at h⟩
 |n::r,[]=>⟨by simp[lO],fun p h=>by simp[lO] at h⟩
 |n::r,x::y=>by
  obtain⟨h1,h2⟩:=Bv t tk c r y;rw[lO];refine⟨?_,fun p hp=>?_⟩
  ·rw[aA,aw];split<;>simp<;>omega
  ·rcases bm.1 hp with hp|hp
   ·split at hp
    ·rw[bS.1 hp]; exact bD
    ·cases hp
   ·exact bt _ (h2 p hp)
def FB.put{k:Nat}{f:aa}(h:FB k f)(hk:k<=89000){t:Tree}(ht:Rt t){H:List fD}(hH:uA H)(hl:H.length<=64){Q:List dN}(hQ:pw Q)(hq:Q.length<=16):FB (k+200) ⟨qt f.s t,H,Q⟩:=by
 have hf:=h.ok;have hp:=h.past;unfold qt;split
 ·exact⟨⟨hf.rt,hf.len,hf.eR,hf.Ep,hf.dP,hH,hl,hQ,hq⟩,by simp only; omega⟩
 ·obtain⟨h1,h2⟩:=Bv t f.s.dP (nw (f.s.tick+1)) f.s.now.ae f.s.since;have h3:=hf.rt.sz.ae;have h4:(f.s.eR++lO t f.s.dP (nw (f.s.tick+1)) f.s.now.ae f.s.since).length<=k+200:=by rw[aA]; omega
  refine⟨⟨ht,dy,by simp only; omega,fun p hp=>?_,hf.dP,hH,hl,hQ,hq⟩,h4⟩
  rcases bm.1 hp with hp|hp
  ·exact hf.Ep p hp
  ·exact hf.rt.XV (h2 p hp)
def FB.settle{k:Nat}{f:aa}(h:FB k f)(hk:k<=89000){t:Tree}(ht:Rt t){Q:List dN}(hQ:pw Q)(hq:Q.length<=16):FB (k+200) (j5 f t Q).1:=by
 unfold j5;split
 ·exact h.mono aH
 split
 ·exact h.mono aH
 ·exact h.put hk (A6 _ _ _ ht) h.ok.holds h.ok.dJ (F6 hQ) (aY (Bi _ _) hq)
def JJ{t:Tree}{l:List fD}(hl:uA l)(hn:l.length<=64)(c g ar:Int):uA (vG t l c g ar).1/\(vG t l c g ar).1.length<=64:=by
 have hlow:=D6 hl c g;unfold vG;split
 ·exact⟨hl,hn⟩
 split
 ·exact⟨hl,hn⟩
 split
 ·exact⟨hl,hn⟩
 split
 ·exact⟨hl,hn⟩
 split
 ·exact⟨hl,hn⟩
 ·rename_i hi dJ;simp only[bh] at dJ
  have hat:∀(i:Nat)(y:fD),l[i]?=some y->decide (ig y c g<0)=false->xc ⟨c,g,ar⟩ y:=by
   intro i y hy hge;have h1:=hlow.le
   by_cases he:i=ml (fun x=>decide (ig x c g<0)) l
   ·subst he;have hne:¬(y.bF=c/\y.handle=g):=fun hh=>hi (by unfold pg; rw[hy]; simpa using(DS y c g).2 hh)
    have cG:=sa y c g;simp only[dv,cG] at hge;unfold xc; simp only;omega
   ·have cG:=sa y c g;simp only[dv,cG] at hge
    have hgt:ml (fun x=>decide (ig x c g<0)) l<i:=by
     rcases bz (ml (fun x=>decide (ig x c g<0)) l) i with h|h
     ·exact h
     ·exact absurd ((hlow.lt i y hy).2 aH) (by simp only[bh,cG]; exact hge)
    have hi':=(aj.1 hy).1;have hz:l[ml (fun x=>decide (ig x c g<0)) l]?=some l[ml (fun x=>decide (ig x c g<0)) l]:=ai aH
    have hp:xc l[ml (fun x=>decide (ig x c g<0)) l] y:=by
     have:=(cd.1 hl) _ i aH hi' hgt;rw[<-(aj.1 hy).2]; exact this
    generalize l[ml (fun x=>decide (ig x c g<0)) l]=z at hz hp
    have hzl:¬ig z c g<0:=fun h=>by
     have:=(hlow.lt _ z hz).1 (by simpa using h)
     omega
    rw[sa] at hzl;unfold xc at hp ⊢; simp only;omega
  refine⟨Nj hl hlow (fun y hy h=>?_) (fun y hy h=>?_) (fun a b d h1 h2=>?_),by simp; have:=hlow.le; omega⟩
  ·simp only[bh,sa] at h; unfold xc; simp only; omega
  ·obtain⟨i,hy'⟩:=bV hy;exact hat i y hy' h
  ·unfold xc at *; omega
def Dn{t:Tree}{l:List fD}(hl:uA l)(c g:Int):uA (nz t l c g).2.1:=by
 unfold nz;split
 ·exact hl
 ·exact hl.sublist List.eraseP_sublist
def A9(c:Int):∀(r l:List fD)(t:Tree),uA l->l.length<=64->uA (sP c r t l).2/\(sP c r t l).2.length<=64
 | [],l,t,h1,h2=>⟨h1,h2⟩
 |x::r,l,t,h1,h2=>by
  rw[sP];split
  ·exact A9 c r _ _ (Dn h1 _ _) (aY (yT _ _ _ _) h2)
  ·exact A9 c r l t h1 h2
def FB.set{k:Nat}{f:aa}(h:FB k f){H:List fD}(hH:uA H)(hl:H.length<=64):FB (k+200) ⟨f.s,H,f.dR⟩ :=
 ⟨⟨h.ok.rt,h.ok.len,h.ok.eR,h.ok.Ep,h.ok.dP,hH,hl,h.ok.dR,h.ok.sI⟩,by have:=h.past; simp only; omega⟩
def FB.adH{k:Nat}{f:aa}(h:FB k f)(hk:k<=89000)(o:jA)(ar:Int)(d:Bytes):FB (k+200) (rC f o ar d).1:=by
 have hr:=h.settle hk (h.ok.rt.put ar d) h.ok.dR h.ok.sI;unfold rC;simp only[];split
 ·exact h.mono aH
 split<;>exact hr
def sD{α:Type}{P:α->Prop}{c:Prop}[Decidable c]{a b:α}(ha:P a)(hb:P b):P (if c then a else b):=by
 split
 ·exact ha
 ·exact hb
def Oa{P:Wk->Prop}{f:aa}{o:jA}(h55:P (Cf f o))(h56:P (Cg f o))(h57:P (Ce f o))(h58:P (uS f o))(h59:P (uQ f o))(h60:P (Ga f o))(h61:P (Cs f o))(h62:P (Ch f o))(h63:P (w7 f o))(h64:P (Gx f o))(h65:P (xM f o))(h66:P (IA f o))(h67:P (xh f o))(h68:P (Cu f o))(h69:P (Gn f o))(h70:P (BX f o))(h71:P (AP f o))(h0:P (f,gr,0))(K:Nat):P (td K f o) :=
 sD h55 (sD h56 (sD h57 (sD h58 (sD h59 (sD h60 (sD h61 (sD h62 (sD h63 (sD h64 (sD h65 (sD h66 (sD h67 (sD h68 (sD h69 (sD h70 (sD h71 (h0)))))))))))))))))
def XN{k:Nat}{f:aa}(h:FB k f)(hk:k<=89000)(K:Nat)(o:jA):FB (k+200) (td K f o).1:=by
 have h0:FB (k+200) f:=h.mono aH;have hp {t:Tree} (ht:Rt t):=h.settle hk ht h.ok.dR h.ok.sI;refine Oa (P:=fun r=>FB (k+200) r.1) ?_ ?_ ?_ ?_ ?_ ?_ ?_ ?_ ?_ ?_ ?_ ?_ ?_ ?_ ?_ ?_ ?_ ?_ K
 ·unfold Cf; split<;>exact h0
 ·have hr:=hp (h.ok.rt.add (mR f.s.now o.dG).1 (mR f.s.now o.dG).2.1 o.n);unfold Cg; simp only[];split
  ·exact h0
  split
  ·exact h0
  split<;>exact hr
 ·have hr:=hp (h.ok.rt.ln (bl f.s.now.ae (ky f.s.now o.dG).1).ar (mR f.s.now o.vd).1 (mR f.s.now o.vd).2.1);unfold Ce; simp only[];split
  ·exact h0
  split
  ·exact h0
  split
  ·exact h0
  split<;>exact hr
 ·have hr:=hp (h.ok.rt.un (mR f.s.now o.dG).1 (mR f.s.now o.dG).2.1);unfold uS; simp only[];split
  ·exact h0
  split
  ·exact h0
  split<;>exact hr
 ·have hr:=hp (h.ok.rt.mv (mR f.s.now o.dG).1 (mR f.s.now o.dG).2.1 (mR f.s.now o.vd).1 (mR f.s.now o.vd).2.1);unfold uQ; simp only[];split
  ·exact h0
  split
  ·exact h0
  split
  ·exact h0
  split
  ·exact h0
  split<;>exact hr
 ·unfold Ga; simp only[];split
  ·exact h0
  split<;>exact h0
 ·unfold Cs; simp only[]; split<;>exact h0
 ·obtain⟨g1,g2⟩:=JJ (t:=f.s.now) h.ok.holds h.ok.dJ o.bF o.handle (bl f.s.now.ae (ky f.s.now o.dG).1).ar;unfold Ch; simp only[];split
  ·exact h0
  split
  ·exact h0
  ·exact h.set g1 g2
 ·have hr:=h.put hk (h.ok.rt.close f.holds o.bF o.handle) (Dn (t:=f.s.now) h.ok.holds o.bF o.handle) (aY (yT _ _ _ _) h.ok.dJ) h.ok.dR h.ok.sI;unfold w7; simp only[];split
  ·exact h0
  ·exact hr
 ·unfold Gx;split
  ·exact h0
  split<;>exact h0
 ·unfold xM;split
  ·exact h0
  split
  ·exact h0
  split
  ·exact h0
  ·exact h.adH hk o _ _
 ·unfold IA;split
  ·exact h0
  ·exact h.adH hk o _ _
 ·obtain⟨g1,g2⟩:=Gw (t:=f.s.now) h.ok.dR h.ok.sI (bl f.s.now.ae (ky f.s.now o.dG).1).ar o.n o.m;have hr:=h.settle hk h.ok.rt g1 g2;unfold xh; simp only[];split
  ·exact h0
  split
  ·exact h0
  split<;>exact hr
 ·unfold Cu; simp only[];split
  ·exact h0
  split
  ·exact h0
  ·rename_i hh;unfold takeN at hh ⊢;split
   ·exact h0
   split
   ·exact h0
   split
   ·exact h0
   ·rename_i dJ;refine⟨⟨h.ok.rt,h.ok.len,h.ok.eR,h.ok.Ep,?_,h.ok.holds,h.ok.dJ,h.ok.dR,h.ok.sI⟩,by have:=h.past; simp only; omega⟩
    simp only[cW,bh,o7] at dJ;simp; omega
 ·unfold Gn; simp only[];split
  ·exact h0
  split
  ·exact h0
  split<;>exact h0
 ·unfold BX; simp only[];split
  ·exact h0
  ·unfold rq;split
   ·exact h0
   ·refine⟨⟨h.ok.rt,h.ok.len,aY (bT _ _) h.ok.eR,fun p hp=>h.ok.Ep p (ei.1 hp).1,aY (bT _ _) h.ok.dP,h.ok.holds,h.ok.dJ,h.ok.dR,h.ok.sI⟩,?_⟩
    have:=h.past;have h2:=bT (vJ (f.s.dP.filter (rF o.n))) f.s.eR;simp only; omega
 ·obtain⟨g1,g2⟩:=A9 o.bF f.holds f.holds f.s.now h.ok.holds h.ok.dJ;exact h.put hk (h.ok.rt.gone o.bF f.holds f.holds) g1 g2 h.ok.dR h.ok.sI
 ·exact h0
def RG{k:Nat}{f:aa}(h:FB k f)(hk:k<=89000)(o:jA):FB (k+200) (pq f o).1:=by
 unfold pq;split
 ·exact h.mono aH
 ·split
  ·split
   ·exact XN h hk _ o
   ·exact h.mono aH
  ·exact h.mono aH
def Wb{P:Node->Prop}{m:AM Node}(h:∀k n,eY m k=some n->P n)(n:Node)(hn:P n):∀k x,eY (kR m n.ar n) k=some x->P x:=by
 intro k x hx;rw[jz] at hx;split at hx
 ·injection hx with hx; rw[<-hx]; exact hn
 ·exact h k x hx
def Eo{P:Node->Prop}(a:Int):∀(l:List po)(m:AM Node),(∀k n,eY m k=some n->P n)->(∀p,p∈l->P p.node)->∀k n,eY (l.foldl (nt a) m) k=some n->P n
 | [],m,h,hl=>h
 |p::r,m,h,hl=>by
  rw[eK];refine Eo a r _ ?_ (fun p hp=>hl p (bt _ hp))
  unfold nt;split
  ·exact Wb h _ (hl p bD)
  ·exact h
def JG{P:Node->Prop}(a:Int):∀(l:List Node)(y:List Int)(m:AM Node),(∀k n,eY m k=some n->P n)->(∀p,p∈l->P p)->∀k n,eY (sd a l y m) k=some n->P n
 | [],y,m,h,hl=>h
 |n::r,[],m,h,hl=>h
 |n::r,x::y,m,h,hl=>by
  rw[sd];refine JG a r y _ ?_ (fun p hp=>hl p (bt _ hp))
  split
  ·exact Wb h _ (hl n bD)
  ·exact h
def Yo{f:aa}(hf:vg f)(id:Int):∀n,n∈(vl f.s id).2.1->Fl n:=by
 unfold vl;split
 ·rename_i x _;intro n hn;have:=Bl n _ hn;refine GG (P:=Fl) ?_ 200001 x.ar ([],[]) (fun n h=>by cases h) n this
  exact JG x.at' _ _ _ (Eo x.at' _ _ (fun k n h=>by cases h) hf.Ep) (fun n hn=>hf.rt.XV hn)
 ·exact fun n h=>by cases h
def JQ{P:Node->Prop}{all:AM Node}(hall:∀k n,eY all k=some n->P n):∀(p:List Bytes)(o:Option Node),(∀n,o=some n->P n)->∀n,(jl all p o).1=some n->P n
 | [],o,ho,n,h=>ho n h
 |s::r,o,ho,n,h=>by
  rw[jl] at h;split at h
  ·exact ho n h
  ·split at h
   ·exact ho n h
   ·exact JQ hall r _ (fun m hm=>hall _ _ hm) n h
def nh{a:vR}(h1:a.names=[])(h2:a.data=[]):C4 a:=⟨by rw[h1]; simp,by rw[h2]; simp⟩
def He(e:Int):C4 (hU e):=nh rfl rfl
def QB{f:aa}(h:vg f)(K:Nat)(o:jA):C4 (td K f o).2.1:=by
 have h0:C4 gr:=nh rfl rfl;have hv (i:Int) (d:Bytes):C4 (rC f o i d).2.1:=nh (tF f o i d).1 (tF f o i d).2;refine Oa (P:=fun r=>C4 r.2.1) ?_ ?_ ?_ ?_ ?_ ?_ ?_ ?_ ?_ ?_ ?_ ?_ ?_ ?_ ?_ ?_ ?_ ?_ K
 ·unfold Cf; split<;>exact nh rfl rfl
 ·unfold Cg; simp only[]; repeat' split
  all_goals exact nh rfl rfl
 ·unfold Ce; simp only[]; repeat' split
  all_goals exact nh rfl rfl
 ·unfold uS; simp only[]; repeat' split
  all_goals exact nh rfl rfl
 ·unfold uQ; simp only[]; repeat' split
  all_goals exact nh rfl rfl
 ·unfold Ga; simp only[];split
  ·exact h0
  split
  ·exact h0
  ·refine⟨?_,dy⟩;simp only[dU];obtain⟨dD,g⟩:=h.rt;have h64:=(xZ g (bl f.s.now.ae (ky f.s.now o.dG).1).ar).2
   have hfr:(zO f.s.now.ae (bl f.s.now.ae (ky f.s.now o.dG).1).ar o.n).length<=64:=by
    unfold zO;rw[wk];exact aY (bT _ _) h64
   unfold wD;split
   ·simp
   split
   ·simp
   split
   ·simp only; omega
   ·simp only[cq]; omega
 ·unfold Cs; simp only[]; split<;>exact nh rfl rfl
 ·unfold Ch; simp only[]; repeat' split
  all_goals exact nh rfl rfl
 ·unfold w7; simp only[]; split<;>exact nh rfl rfl
 ·unfold Gx;split
  ·exact h0
  split
  ·exact h0
  ·rename_i hh _;obtain⟨_,i,hi⟩:=CU (f:=f) (o:=o) (by simpa using hh)
   have:=(xu h i).1;rw[hi];exact⟨dy,by simp only[cq,gZ]; omega⟩
 ·unfold xM;split
  ·exact h0
  split
  ·exact h0
  split
  ·exact h0
  ·exact hv _ _
 ·unfold IA;split
  ·exact h0
  ·exact hv _ _
 ·unfold xh; simp only[]; repeat' split
  all_goals exact nh rfl rfl
 ·unfold Cu; simp only[]; repeat' split
  all_goals exact nh rfl rfl
 ·have ha:=Yo h o.n;unfold Gn; simp only[]
  have hall:∀k n,eY (fZ (vl f.s o.n).2.1 []) k=some n->Fl n:=fun k n h=>by
   rcases zg _ _ _ _ h with h|h
   ·exact ha n h
   ·cases h
  have hpe:=JQ hall (gy o.dG).1 (eY (fZ (vl f.s o.n).2.1 []) (vl f.s o.n).1) (fun n h=>hall _ _ h)
  split
  ·exact h0
  split
  ·exact h0
  split
  ·exact h0
  ·generalize (jl (fZ (vl f.s o.n).2.1 []) (gy o.dG).1 (eY (fZ (vl f.s o.n).2.1 []) (vl f.s o.n).1)).1=z at hpe ⊢;cases z with
   |none=>exact nh rfl rfl
   |some n =>
    obtain⟨g1,g2⟩:=hpe n rfl;exact⟨by simp only[bA,dU]; omega,by simp only[bA]; omega⟩
 ·unfold BX; simp only[]; split<;>exact nh rfl rfl
 ·exact nh rfl rfl
 ·exact nh rfl rfl
def G8{f:aa}(h:vg f)(o:jA):C4 (pq f o).2:=by
 unfold pq;split
 ·exact He _
 ·split
  ·split
   ·exact QB h _ o
   ·exact He _
  ·exact He _
def OJ{t:Tree}{dD:Int->Nat}(h:dS t dD 0){q:Int}:∀(m:Nat)(i:Int)(n:Node),find t.ae i=some n->n.kind=2->dD i=m->iJ t.ae i q=true->∃d,find t.ae q=some d/\d.kind=2:=by
 intro m;induction m with
 |zero =>
  intro i n hi hk hm hb
  by_cases ho:i=q
  ·subst ho; exact⟨n,hi,hk⟩
  by_cases h1:i=1
  ·subst h1; rw[dS.qM (fun hh=>ho hh.symm)] at hb; cases hb
  ·have:=(h.qF _ _ hi hk h1).1; omega
 |succ m ih =>
  intro i n hi hk hm hb
  by_cases ho:i=q
  ·subst ho; exact⟨n,hi,hk⟩
  have h1:i≠1:=fun hh=>by subst hh; have:=h.CE; omega
  rw[h.su hi hk h1 ho] at hb;obtain⟨a,p,hp,hpk⟩:=h.qF _ _ hi hk h1;exact ih _ p hp hpk aH hb
def vY{t:Tree}{dD:Int->Nat}(h:dS t dD 0){q:Int}(hq:∀d,find t.ae q=some d->d.kind≠2):lq t.ae q=(0,0)/\OY (sy t.ae q)=0/\HR t.ae (sy t.ae q)=0:=by
 have hin:∀x,¬InB t.ae q x:=by
  rintro x ⟨d,e,hd,hk,hb,_,_⟩;obtain⟨p,p1,p2⟩:=OJ h _ _ d ((ic h.lK.mo).2 ⟨hd,rfl⟩) hk rfl hb;exact hq p p1 p2
 obtain⟨p,p1,p2⟩:=w8 t.ae q;have hf:t.ae.filter p=[]:=List.filter_eq_nil_iff.2 fun n _ hn=>hin _ ((p2 n).1 hn)
 refine⟨?_,by rw[p1,Dp,hf]; rfl,by rw[p1,HK,hf]; rfl⟩
 unfold lq;rw[aR];intro hc;rw[bw,eG] at hc;obtain⟨d,hd⟩:=fA.1 hc.1;exact hq d hd (by simpa[bl,hd] using hc.2)
def HO{t:Tree}(h:Rt t)(q:Int):lq t.ae q=((OY (sy t.ae q):Int),(HR t.ae (sy t.ae q):Int)):=by
 obtain⟨dD,h⟩:=h
 by_cases hq:∃d,find t.ae q=some d/\d.kind=2
 ·obtain⟨d,h1,h2⟩:=hq;exact G6 h h1 h2
 ·obtain⟨h1,h2,h3⟩:=vY h (q:=q) fun d hd hk=>hq ⟨d,hd,hk⟩
  rw[h1,h2,h3]; rfl
def Qu{t:Tree}(h:Rt t)(i q:Int):lq (kJ t i).1.ae q=lq t.ae q:=by
 obtain⟨dD,h⟩:=h;have h':=FJ h i
 have hcase:(kJ t i).1=t\/(∃m,find t.ae i=some m/\m.kind=1/\uI t.ae i=0/\(kJ t i).1=⟨fP t.ae i,t.next,t.ak⟩):=by
  unfold kJ;split
  ·exact .inl rfl
  split
  ·exact .inl rfl
  split
  ·exact .inl rfl
  ·rename_i h1 h2 h3;right;cases hi:find t.ae i with
   |none=>simp[hi] at h1
   |some m =>
    simp only[bl,hi,bA,eG,bh] at h2 h3;have hl:=h.eE _ _ hi;have hm:=(h.num _ _ hi).1;rw[aR aH] at hl;exact⟨m,rfl,(h.kind _ _ hi).resolve_right h2,aH,rfl⟩
 rcases hcase with e|⟨m,hm,hmk,hc,e⟩
 ·rw[e]
 rw[e] at h' ⊢;have hff:=mj h.lK.mo i
 have hne:∀j n,find t.ae j=some n->n.kind=2->j≠i:=by
  rintro j n hj hk rfl;rw[hm] at hj; cases hj;omega
 have fd:∀j n,find t.ae j=some n->n.kind=2->find (fP t.ae i) j=some n:=fun j n hj hk=>by rw[hff,aR (hne j n hj hk),hj]
 have bel:∀(m:Nat)(j:Int)(n:Node),find t.ae j=some n->n.kind=2->dD j=m->iJ (fP t.ae i) j q=iJ t.ae j q:=by
  intro m;induction m with
  |zero =>
   intro j n hj hk hd
   by_cases ho:j=q
   ·subst ho;exact(dS.oN (t:=⟨fP t.ae i,t.next,t.ak⟩) j).trans (dS.oN j).symm
   by_cases h1:j=1
   ·subst h1;exact(dS.qM (t:=⟨fP t.ae i,t.next,t.ak⟩) fun hh=>ho hh.symm).trans (dS.qM fun hh=>ho hh.symm).symm
   ·have:=(h.qF _ _ hj hk h1).1; omega
  |succ m ih =>
   intro j n hj hk hd
   by_cases ho:j=q
   ·subst ho;exact(dS.oN (t:=⟨fP t.ae i,t.next,t.ak⟩) j).trans (dS.oN j).symm
   have h1:j≠1:=fun hh=>by subst hh; have:=h.CE; omega
   obtain⟨a,p,hp,hpk⟩:=h.qF _ _ hj hk h1;have b1:=h'.su (fd j n hj hk) hk h1 ho;rw[h.su hj hk h1 ho];exact b1.trans (ih _ p hp hpk aH)
 by_cases hq:∃d,find t.ae q=some d/\d.kind=2
 ·obtain⟨d,d1,d2⟩:=hq;obtain⟨K,k1,k2,k3,k4⟩:=HP h d1 d2;obtain⟨L,l1,l2,l3,l4⟩:=HP h' (fd q d d1 d2) d2
  have hin:∀x,InB (fP t.ae i) q x↔InB t.ae q x:=fun x=>by
   constructor
   ·rintro⟨d,e,hd,hk,hb,he,hx⟩;have hd':find (fP t.ae i) d.ar=some d:=(ic h'.lK.mo).2 ⟨hd,rfl⟩;rw[hff] at hd';split at hd'
    ·cases hd'
    ·exact⟨d,e,(cD hd').1,hk,by rw[<-bel _ _ d hd' hk rfl]; exact hb,he,hx⟩
   ·rintro⟨d,e,hd,hk,hb,he,hx⟩;have hd':find t.ae d.ar=some d:=(ic h.lK.mo).2 ⟨hd,rfl⟩;exact⟨d,e,(cD (fd _ _ hd' hk)).1,hk,by rw[bel _ _ d hd' hk rfl]; exact hb,he,hx⟩
  have hp:L.Perm K:=(List.perm_ext_iff_of_nodup l1 k1).2 fun x=>by rw[l2,k2]; exact hin x
  have hs:yn (fP t.ae i) L=yn t.ae K:=by
   unfold yn;rw[<-(hp.map (Wd t.ae)).sum_nat];congr 1;refine cT fun x hx=>?_
   obtain⟨d,e,hd,_,_,he,hxe⟩:=(k2 x).1 (hp.mem_iff.1 hx)
   have hxi:x≠i:=fun hh=>by
    have:=vX.2 ⟨d,e,hd,he,hxe.trans hh⟩;omega
   simp only[Wd,bl,hff,aR hxi]
  rw[k4,l4,hp.length_eq,hs]
 ·rw[(vY h fun d hd hk=>hq ⟨d,hd,hk⟩).1]
  refine(vY h' fun d hd hk=>?_).1
  have hd:find (fP t.ae i) q=some d:=hd;rw[hff] at hd;split at hd
  ·cases hd
  ·exact hq ⟨d,hd,hk⟩
def t0:Tree:=⟨[⟨1,2,0,[],[],1⟩],2,1⟩
def f0:aa:=⟨⟨t0,0,[0],[],[],1⟩,[],[]⟩
section
attribute [local irreducible] eX fM lu gK dX kr aq aU cr bJ
def c39:aq bW 39 [] []=some (.agg (aM t0),[]):=by
 refine aB ?_;simp only[alF,E39,EW,seval];rfl
def k39:=cP c39
def k38(M:aC):aU (aq bW) 38 [.agg [ba t0.ae,aF t0.next,aF t0.ak]] M=some (.agg (bL f0.s),M):=cO (c38 t0 mi) M
def c24:aq bW 24 [] []=some (.agg (cm f0),[]):=by
 refine aB ?_;have q:=k39;simp only[aM] at q;simp only[alp,E24,q,k38,bL,EW,seval];rfl
def k24:=cP c24
end
def rt0:Rt t0:=⟨_,We⟩
def fb0:FB 0 f0:=by
 refine⟨⟨rt0,rfl,?_,?_,?_,List.Pairwise.nil,?_,List.Pairwise.nil,?_⟩,?_⟩<;>simp[f0]
abbrev IG(l:List jA):ag := .slice .sh (l.map XQ)
def Fy(n:jA):(XQ n).cells=eS n:=rfl
def Jv(n:jA):(eS n).length=8:=rfl
def N9(l:List jA):wid (l.map XQ) 8=True:=pk XQ _ (fun _=>rfl) l
def tkO(n:jA):List.take 8 (eS n)=eS n:=rfl
def shO(n:jA):List.map ag.shut (eS n)=eS n:=rfl
set_option linter.defProp false in
def EVO:=bQ @Fy (bQ @Jv (bQ @N9 (bQ @tkO (@shO))))
def xi(o:jA):Bool:=decide (5000<(o.data.length:Int))||(decide (1000<(o.dG.length:Int))||decide (1000<(o.vd.length:Int)))
def DN(l:List jA):Bool:=if decide (50<(l.length:Int)) then true else l.any xi
def Nu{o:jA}(h:xi o=false):sr o:=by
 simp only[xi,jP,dv] at h;exact⟨aH,aH,aH⟩
section
attribute [local irreducible] eX fM lu gK dX kr aq aU cr bJ
def c26(o:jA):aq bW 26 [XQ o] []=some (.bool (xi o),[]):=by
 refine aB ?_;unfold xi
 cases h1:decide (5000<(o.data.length:Int))<;>cases h2:decide (1000<(o.dG.length:Int))<;>cases h3:decide (1000<(o.vd.length:Int)) <;>
  simp only[als,E26,XQ,eS,h1,h2,h3,er,dH,fF,cQ,EW,seval]
def k26(o:jA)(M:aC):aU (aq bW) 26 [.agg (eS o)] M=some (.bool (xi o),M):=cO (c26 o) M
def c25(xs:List jA):aq bW 25 [IG xs] []=some (.bool (DN xs),[]):=by
 refine aB ?_;unfold DN;cases h0:decide (50<(xs.length:Int))<;>simp only[alr,E25,h0,aJ,af,aD,EVO,EW,seval]
 have hn:xs.length<=50:=by simp at h0; omega
 refine AY (xs:=xs) aH (fun l (_:Unit)=>l.any xi) (fun _ i=>[(0,IG xs),(3,aF i)]) (fun _=>[]) (fun b=>some (ag.bool b,([]:aC))) (fun _=>?_) (fun pre x post _ h hx cG hw h0 hm hi=>?_) ()
 ·simp only[E25,br,oV,EVO,EW,seval]
 ·have q:=fun M=>k26 x M
  have i1:=hi ();cases hl:xi x<;>rw[hl] at q<;>simp only[E25,cG,hx,hw,q,hl,jR,dH,cQ,EVO,EW,seval]
  exact i1
def k25 xs:=cP (c25 xs)
def lE{f:Nat}{vs:List ag}{M:aC}{x:ag×aC}(h:aU (aq bW) f vs M=some x):aU (aq Fi) f vs M=some x:=lD (lS h)
def k29 f o hf ho:=cP (c29 f o hf ho)
end
section
open Go.ChangeShapes Go.WideShapes Go.ChangeAt Go.RowKit Go.Deep
def laidOut:laidOutB Tryz.prog=true:=fz
section
variable {H:Type} {enc:TypeId×Value->H}
def yC{W W':World}(hb:Below W.heap.size W W'):∀ {ts:List TypeId} {vs:List Value} {ds:List (DataW H)} {p:List MemPlace},DataW.TrodAll enc Tryz.prog W 0 (fun _=>true) true ts vs ds p ->
  (∀t,t∈ts->Tryz.prog.readableRec t=true/\t<Tryz.prog.types.size)->(∀x∈p,x.block<W.heap.size)->DataW.TrodAll enc Tryz.prog W' 0 (fun b=>decide (b<W.heap.size)) true ts vs ds p
 | [],vs,ds,p,h,_,_=>by
  obtain⟨rfl,rfl,rfl⟩:=trodAll_nil h;exact trodAll_mk0
 |t::ts,vs,ds,p,h,ht,hp=>by
  obtain⟨v,vs',d,ds',p1,q,rfl,rfl,rfl,h1,h2⟩:=trodAll_cons h
  exact trodAll_cons_mk (Below.trod laidOut (ht t bD).1 (ht t bD).2 h1 hb (fun x hx=>hp x (ft _ hx)))
   (yC hb h2 (fun t ht'=>ht t (bt _ ht')) (fun x hx=>hp x (iC _ hx)))
abbrev E1(w:World):Nat->Nat->Prop:=oo SZ [] w
def Xg{w:World}{b off:Nat}(h:b<w.heap.size):E1 w b off:=⟨h,fun id hid=>absurd hid (jJ _),fun hx=>hx⟩
def lQ(b off i:Nat):(⟨b,off,none⟩:Addr).add i=⟨b,off+i,none⟩:=by
 unfold Addr.add;split
 ·rename_i h; rw[h]; rfl
 ·rfl
def zW{w:World}{fuel t:Nat}{v:Value}{x:DataW H×List MemPlace}(ht:Tryz.prog.underlying t=some (.int .i64))(h:DataW.trod enc Tryz.prog w 0 (fun _=>true) true fuel t [v]=some x):∃n:Int,fQ w (E1 w) (.int .i64 n) v:=by
 obtain⟨n,q,_,_⟩:=DataW.trod_int ht h;cases q;exact⟨n,.int _ _⟩
def HM{w:World}{fuel t:Nat}{v:Value}{x:DataW H×List MemPlace}(ht:Tryz.prog.underlying t=some (.int .u8))(h:DataW.trod enc Tryz.prog w 0 (fun _=>true) true fuel t [v]=some x):∃b:UInt8,fQ w (E1 w) (pt b) v:=by
 obtain⟨n,q,_,wf⟩:=DataW.trod_int ht h;cases q;have h3:IntKind.u8.min<=n/\n<=IntKind.u8.max:=by simpa[Lit.wf] using wf
 have e1:IntKind.u8.min=0:=mi;have e2:IntKind.u8.max=255:=mi;have e:n=((UInt8.ofNat n.toNat).toNat:Int):=by rw[UInt8.toNat_ofNat']; omega
 refine⟨UInt8.ofNat n.toNat,?_⟩;unfold pt;rw[<-e];exact .int _ _
def N2{w:World}{fuel t:Nat}{v:Value}{x:DataW H×List MemPlace}(ht:Tryz.prog.underlying t=some .string)(h:DataW.trod enc Tryz.prog w 0 (fun _=>true) true fuel t [v]=some x):∃s:Bytes,fQ w (E1 w) (.str s) v:=by
 obtain⟨s,q,_,_⟩:=DataW.trod_string ht h;cases q;refine⟨s.data.toList,?_⟩;have:Go.Abs.bs s.data.toList=s:=by apply ByteArray.ext; simp[Go.Abs.bs]
 have h:=fQ.str (w:=w) (iy:=E1 w) s.data.toList;rw[this] at h;exact h
def BW{α:Type}(P:Nat->α->Prop):∀(n:Nat),(∀i,i<n->∃a,P i a)->∃l:List α,l.length=n/\∀i a,l[i]?=some a->P i a
 |0,_=>⟨[],rfl,fun i a h=>by cases i<;>cases h⟩
 |n+1,h=>by
  obtain⟨l,hl,hp⟩:=BW P n (fun i hi=>h i aH)
  obtain⟨a,ha⟩:=h n aH;refine⟨l++[a],by simp[hl],fun i b hb=>?_⟩
  rcases bz i n with hi|hi
  ·rw[aO aH] at hb;exact hp i b hb
  ·rw[bj aH] at hb
   have:i=n:=by
    have:=(aj.1 hb).1;simp at this; omega
   subst this;simp[hl] at hb;subst hb; exact ha
def nI(w:World)(l:List ag)(cs:List Value):Prop:=l.length=cs.length/\∀(k:Nat)(c:ag)(v:Value),l[k]?=some c->cs[k]?=some v->fQ w (E1 w) c v
def nI.one{w:World}{c:ag}{v:Value}(h:fQ w (E1 w) c v):nI w [c] [v]:=⟨rfl,fun k c' v' h1 h2=>by
 match k with
 |0=>cases h1; cases h2; exact h
 |k+1=>cases h1⟩
def nI.app{w:World}{a b:List ag}{cs ds:List Value}(h:nI w a cs)(g:nI w b ds):nI w (a++b) (cs++ds):=⟨by simp[h.1,g.1],fun k c v h1 h2=>by
 rcases bz k a.length with hk|hk
 ·rw[aO hk] at h1;rw[aO (by rw[<-h.1]; exact hk)] at h2
  exact h.2 k c v h1 h2
 ·rw[bj hk] at h1;rw[bj (by rw[<-h.1]; exact hk),<-h.1] at h2
  exact g.2 _ c v h1 h2⟩
def nI.nil{w:World}:nI w [] []:=⟨rfl,fun k c v h1 _=>by cases h1⟩
def amZ:DataW H->Nat
 | .slice es _=>es.length
 |_=>0
def Ez{α:Type}{w:World}{fuel t e m:Nat}{v:Value}{x:DataW H×List MemPlace}{eC:α->List ag}{mk:α->ag}(ht:Tryz.prog.underlying t=some (.slice e))(hm:Tryz.prog.cellsOf e=m)(hm0:0<m)
  (hmk:∀a,(mk a).cells=eC a) (dJ:∀a,(eC a).length=m)
  (he:∀(n:Nat)(cs:List Value)(y:DataW H×List MemPlace),cs.length=m->DataW.trod enc Tryz.prog w 0 (fun _=>true) true n e cs=some y->∃a,nI w (eC a) cs)
  (h:DataW.trod enc Tryz.prog w 0 (fun _=>true) true fuel t [v]=some x) :
  ∃l:List α,fQ w (E1 w) (.slice .sh (l.map mk)) v/\l.length=amZ x.1:=by
 rcases open_slice ht h with ⟨hcs,hxx⟩|⟨a,len,cap,mm,n,D,Pl,hcs,_,hl,_,hmm,hxx,hi⟩
 ·cases hcs;exact⟨[],fQ.nil _ _ _,by rw[hxx]; rfl⟩
 ·cases hcs;simp only[aJ] at hmm;obtain⟨b,off,spot⟩:=a;rw[hm] at hi
  have each:∀i,i<len->∃s:α,∃cs',w.cells? 0 ((⟨b,off,spot⟩:Addr).add (i*m)) m=some cs'/\cs'.length=m/\nI w (eC s) cs':=by
   intro i hi';obtain⟨cs',hcl,ht⟩:=hi i aH;have hln:cs'.length=m:=(World.cells?_some hcl).2.1;obtain⟨s,hr⟩:=he _ _ _ hln ht;exact⟨s,cs',hcl,hln,hr⟩
  obtain⟨l,hll,hlp⟩:=BW _ len each;refine⟨l,?_,by rw[hxx]; simp[amZ,hll]⟩
  have hsp:len≠0->spot=none:=fun h0=>by
   obtain⟨s,cs',hcl,h6,_⟩:=each 0 aH;obtain⟨_,_,hat⟩:=World.cells?_some hcl;have:=hat 0 hm0;have h3:cs'[0]?=some (cs'[0]'(by omega)):=ai aH
   rw[h3] at this;simpa[Addr.add] using World.cell?_spot this
  have cell:∀(i:Nat)(s:α)(k:Nat)(c:ag),l[i]?=some s->(eC s)[k]?=some c->∃u,w.cell? ⟨b,off+(i*m+k),none⟩=some u/\fQ w (E1 w) c u:=fun i s k c hs hk=>by
   obtain⟨cs',hcl,h6,hr⟩:=hlp i s hs;have hil:i<len:=by have:=(aj.1 hs).1; omega
   obtain rfl:=hsp aH;obtain⟨_,_,hat⟩:=World.cells?_some hcl;have hk6:k<m:=by have:=(aj.1 hk).1; rw[dJ] at this; exact this
   have h1:=hat k hk6;have h3:cs'[k]?=some (cs'[k]'(by omega)):=ai aH
   rw[lQ,lQ,h3] at h1;exact⟨_,by rw[<-Nat.add_assoc]; exact h1,hr.2 k c _ hk h3⟩
  refine .slice _ _ _ _ b off m (fun q=>(w.cell? ⟨b,off+q,none⟩).getD undef) (by simp[hll]) hl (fun hne=>?_) ?_ ?_ ?_
  ·obtain rfl:=hsp (fun h0=>hne (by rw[h0] at hll; rw[dM.1 hll]; rfl))
   rfl
  ·intro x hx;obtain⟨s,_,rfl⟩:=eJ.1 hx;rw[hmk,dJ]
  ·intro i x k c hx hk;rw[aX] at hx;obtain⟨s,hs,rfl⟩:=aV.1 hx;rw[hmk] at hk;obtain⟨u,h1,_⟩:=cell i s k c hs hk;refine⟨by rw[h1]; rfl,Xg (MH h1)⟩
  ·intro i x k c hx hk;rw[aX] at hx;obtain⟨s,hs,rfl⟩:=aV.1 hx;rw[hmk] at hk;obtain⟨u,h1,h2⟩:=cell i s k c hs hk
   show fQ w _ c ((w.cell? _).getD undef)
   rw[h1];exact h2
def OM{w:World}{fuel t e:Nat}{v:Value}{x:DataW H×List MemPlace}(ht:Tryz.prog.underlying t=some (.slice e))(he:Tryz.prog.underlying e=some (.int .u8))(hc:Tryz.prog.cellsOf e=1)(h:DataW.trod enc Tryz.prog w 0 (fun _=>true) true fuel t [v]=some x) :
  ∃d:Bytes,fQ w (E1 w) (.slice .sh (d.map pt)) v:=by
 obtain⟨l,h,_⟩:=Ez (eC:=fun b=>[pt b]) (mk:=pt) ht hc aH (fun _=>rfl) (fun _=>rfl) (fun n cs y hl hy=>by
  match cs,hl with
  | [c],_ =>
   obtain⟨b,hb⟩:=HM he hy;exact⟨b,.one hb⟩) h
 exact⟨l,h⟩
def Yj{w:World}{l:List ag}{cs:Array Value}(h:nI w l cs.toList):gj SZ [] w (.agg l) (.agg cs) :=
 .agg (by rw[h.1]; simp) (fun i c v hc hv => .plain (h.2 i c v hc (by simpa using hv)))
def Mr{T:zt}(hT:nJ Tryz.prog (aq T)){f:Nat}{args:List ag}(h:aq T f args []=some (.bool true,[]))(w:World)(hG:sO SZ [] w)(vs:Array Value)(hl:args.length=vs.size)(hv:∀(i:Nat)(c:ag)(v:Value),args[i]?=some c->vs[i]?=some v->gj SZ [] w c v) :
  Calls Tryz.prog f vs w fun e w'=>e = .returned (.bool true)/\Below w.heap.size w w':=by
 refine((hT f args [] _ h).2 SZ w vs (auc w) hG hl hv).mono ?_;intro e w' hce;obtain⟨v,rfl,j',_,hx,hr⟩:=hce.ret rfl;obtain rfl:=hr.jD;exact⟨rfl,hx.os,hx.tape,hx.output,hx.size,fun k hk=>(hx.ui k hk fun i hi=>absurd hi (jJ _)).1⟩
def Ym{w:World}{n t k:Nat}{cs:List Value}{v:Value}{y:DataW H×List MemPlace}(hc:Tryz.prog.cellsOf t=1)(hk:cs[k]?=some v)(h:DataW.trod enc Tryz.prog w 0 (fun _=>true) true n t ((cs.drop k).take (Tryz.prog.cellsOf t))=some y):DataW.trod enc Tryz.prog w 0 (fun _=>true) true n t [v]=some y:=by
 rw[hc] at h
 have:(cs.drop k).take 1=[v]:=by
  have:=(aj.1 hk);obtain⟨h1,h2⟩:=this;rw[dp h1,h2]; rfl
 rw[this] at h;exact h
def Kg:Tryz.prog.underlying 3=some (.int .i64):=fz
def adW:Tryz.prog.underlying 9=some .string:=fz
def XD:Tryz.prog.underlying 5=some (.int .u8):=fz
def abx:Tryz.prog.underlying 45=some (.slice 5):=fz
def Il:Tryz.prog.cellsOf 3=1:=fz
def abP:Tryz.prog.cellsOf 9=1:=fz
def aeT:Tryz.prog.cellsOf 5=1:=fz
def YC:Tryz.prog.cellsOf 45=1:=fz
def am3:Tryz.prog.cellsOf 49=8:=fz
def adV:Tryz.prog.underlying 22=some (.slice 49):=fz
set_option maxRecDepth 100000 in
def WD{w:World}{fuel:Nat}{cs:List Value}{x:DataW H×List MemPlace}(h:DataW.trod enc Tryz.prog w 0 (fun _=>true) true fuel 49 cs=some x):∃o:jA,nI w (eS o) cs:=by
 obtain⟨xs,n,_,_,hl,hxl,hf⟩:=DataW.trod_struct underlying49 h;have h0:cs.length=8:=by rw[hl]; kernel_rfl
 match cs,h0 with
 | [v0,v1,v2,v3,v4,v5,v6,v7],_ =>
  match xs,hxl with
  | [y0,y1,y2,y3,y4,y5,y6,y7],_ =>
   obtain⟨a0,r0⟩:=zW Kg (Ym (k:=0) Il rfl (hf 0 _ rfl));obtain⟨a1,r1⟩:=zW Kg (Ym (k:=1) Il rfl (hf 1 _ rfl));obtain⟨a2,r2⟩:=N2 adW (Ym (k:=2) abP rfl (hf 2 _ rfl));obtain⟨a3,r3⟩:=N2 adW (Ym (k:=3) abP rfl (hf 3 _ rfl));obtain⟨a4,r4⟩:=zW Kg (Ym (k:=4) Il rfl (hf 4 _ rfl));obtain⟨a5,r5⟩:=zW Kg (Ym (k:=5) Il rfl (hf 5 _ rfl));obtain⟨a6,r6⟩:=zW Kg (Ym (k:=6) Il rfl (hf 6 _ rfl));obtain⟨a7,r7⟩:=OM abx XD aeT (Ym (k:=7) YC rfl (hf 7 _ rfl));exact⟨⟨a0,a1,a2,a3,a4,a5,a6,a7⟩,.app (.one r0) (.app (.one r1) (.app (.one r2) (.app (.one r3) (.app (.one r4) (.app (.one r5) (.app (.one r6) (.one r7)))))))⟩
set_option maxRecDepth 100000 in
def aa3{w:World}{r:Reach}{b:Nat}{v:Value}{d:DataW H}{ps:List MemPlace}(h:DataW.Trod enc Tryz.prog w 0 (fun _=>true) true 22 v d ps)(hv:Value.okWide Tryz.prog w r b 22 v):∃l:List jA,gj SZ [] w (IG l) v:=by
 obtain⟨a,len,cap,rfl⟩:=okWide_slice adV hv;obtain⟨fuel,hf⟩:=h;obtain⟨l,h2,_⟩:=Ez (eC:=eS) (mk:=XQ) adV am3 aH (fun _=>rfl) (fun _=>rfl) (fun n cs y _ hy=>WD hy) hf
 exact⟨l,.plain h2⟩
set_option maxRecDepth 100000 in
def ah4{w:World}{r:Reach}{b:Nat}{v:Value}{d:DataW H}{ps:List MemPlace}(h:DataW.Trod enc Tryz.prog w 0 (fun _=>true) true 5 v d ps)(hv:Value.okWide Tryz.prog w r b 5 v):∃x:UInt8,gj SZ [] w (pt x) v:=by
 obtain⟨n,rfl,_,_,hw⟩:=open_int XD hv h;have h3:IntKind.u8.min<=n/\n<=IntKind.u8.max:=by simpa[Lit.wf] using hw
 have e1:IntKind.u8.min=0:=mi;have e2:IntKind.u8.max=255:=mi;have e:n=((UInt8.ofNat n.toNat).toNat:Int):=by rw[UInt8.toNat_ofNat']; omega
 refine⟨UInt8.ofNat n.toNat,.plain ?_⟩;unfold pt;rw[<-e];exact .int _ _
end
def ah3{α:Type}{a:Array α}{l:List α}(h:a.toList=l):a=l.toArray:=by rw[<-h]
end
section
attribute [local irreducible] eX fM lu gK dX kr aq aU cr bJ
def aaK(l:List gI)(s:Bytes)(a b:Int):l.map iE++[.agg [.str s,aF a,aF b]]=(l++[gI.mk s a b]).map iE:=by simp[iE,gd]
def tu(ar:Int):List Node->Nat->Int
 | [],_ => -1
 |n::r,i=>if n.ar=ar then i else tu ar r (i+1)
def aai{t:Tree}{ar:Int}(ht:t.ae.length<=100000){k:List K}{R:Int->Option (ag×aC)}
  (hx:∀e,kr (aq bW) [.tmp 4] 0 k ⟨.exit 0,e,[cu (aM t)]⟩=R (-1)) (hr:∀(i:Nat),kr (aq bW) [.tmp 4] 0 k ⟨.ret,[(4,aF i)],[cu (aM t)]⟩=R i) :
  ∀(l pre:List Node),t.ae=pre++l->eX (aq bW) [.tmp 4] 0 k (.loop [1,2,5] ZE) [(1,aF ar),(2,ct 0),(5,aF pre.length)] [cu (aM t)]=R (tu ar l pre.length):=by
 intro l;induction l with
 |nil =>
  intro pre h;rw[bG];simp only[Ks,aM,ba,jL h,EN,seval];exact hx _
 |cons n r ih =>
  intro pre h;rw[bG];have dJ:pre.length+1<=100000:=by rw[h] at ht; simp at ht; omega
  have hw:=zp pre n;simp only[Ks,aM,ba,iK h,gP h,aL,EN,seval];refine bB (fun hb=>?_) (fun hb=>?_)
  ·have hb:n.ar=ar:=by simpa using hb
   simp only[Ks,EN,seval];rw[tu,aZ hb];exact hr _
  ·have hb:¬n.ar=ar:=by simpa using hb
   simp only[Ks,hw,EN,seval];rw[tu,aR hb];have:=ih (pre++[n]) (by rw[h]; simp)
   simp only[aA,aw,az] at this ⊢;exact this
def ap6(t:Tree)(ar:Int)(ht:t.ae.length<=100000):aq bW 130 [bq t,aF ar] []=some (aF (tu ar t.ae 0),[]):=by
 refine aB ?_;simp only[acj,Ks,bq,EN,seval];exact aai (R:=fun z=>some (aF z,[])) ht (fun e=>by simp only[Ks,EN,seval]) (fun i=>by simp only[Ks,EN,seval]) t.ae [] rfl
def aso(ae:List Node)(next ak ar:Int)(h:ae.length<=100000)(M:aC):aU (aq bW) 130 [.agg [ba ae,aF next,aF ak],aF ar] M=some (aF (tu ar ae 0),M) :=
 cO (ap6 ⟨ae,next,ak⟩ ar h) M
def An(ar:Int):∀(l:List Node)(i:Nat),(find l ar=none/\tu ar l i = -1)\/∃m n,l[m]?=some n/\find l ar=some n/\tu ar l i=((i+m:Nat):Int)
 | [],_ => .inl ⟨rfl,rfl⟩
 |n::r,i=>by
  unfold find tu
  by_cases h:n.ar=ar
  ·exact .inr ⟨0,n,rfl,by simp[h],by simp[h]⟩
  ·rcases An ar r (i+1) with ⟨h1,h2⟩|⟨m,n',h1,h2,h3⟩
   ·exact .inl ⟨by simp[h]; simpa[find] using h1,by simp[h,h2]⟩
   ·exact .inr ⟨m+1,n',by simpa using h1,by simp[h]; simpa[find] using h2,by simp[h,h3]; omega⟩
def c74(t:Tree)(ar:Int)(ht:t.ae.length<=100000):aq bW 74 [bq t,aF ar] []=some (.tuple [bK ((find t.ae ar).getD Node.zero),.bool (find t.ae ar).isSome],[]):=by
 refine aB ?_;simp only[alU,E74,bq,aM,aso,ht,EN,seval];rcases An ar t.ae 0 with ⟨h1,h2⟩|⟨m,n,h1,h2,h3⟩
 ·rw[h2];simp only[E74,h1,EN,seval];rfl
 ·rw[h3];simp only[E74,h1,h2,ba,aL,EN,seval];rfl
def Bh(ae:List Node)(next ak ar:Int)(h:ae.length<=100000)(M:aC):aU (aq bW) 74 [.agg [ba ae,aF next,aF ak],aF ar] M=some (.tuple [bK ((find ae ar).getD Node.zero),.bool (find ae ar).isSome],M) :=
 cO (c74 ⟨ae,next,ak⟩ ar h) M
def apZ(t:Tree)(ar:Int)(ht:t.ae.length<=100000):aq bW 123 [bq t,aF ar] []=some (.tuple [bK (gV t.ae ar).1,aF (gV t.ae ar).2],[]):=by
 refine aB ?_;simp only[acb,XZ,bq,aM,Bh,ht,bK,aL,EN,seval];unfold gV;cases hf:find t.ae ar with
 |none=>simp only[XZ,Option.isSome,EN,seval]; first|done|rfl
 |some n =>
  simp only[XZ,Option.isSome,bA,EN,seval]
  repeat' ((first|apply bB|apply bU|apply dI)<;>intro hb<;>simp only[hb,EN,XZ,seval])
  all_goals simp_all [Node.zero]
def Zb(ae:List Node)(next ak ar:Int)(h:ae.length<=100000)(M:aC):aU (aq bW) 123 [.agg [ba ae,aF next,aF ak],aF ar] M=some (.tuple [bK (gV ae ar).1,aF (gV ae ar).2],M) :=
 cO (apZ ⟨ae,next,ak⟩ ar h) M
def tp(s:Bytes):List gI->Nat->Int
 | [],_ => -1
 |n::r,i=>if n.name=s then i else tp s r (i+1)
def tq(s:Bytes):∀(l:List gI)(i:Nat),(gq l s=none/\tp s l i = -1)\/∃m n,l[m]?=some n/\gq l s=some n/\tp s l i=((i+m:Nat):Int)
 | [],_ => .inl ⟨rfl,rfl⟩
 |n::r,i=>by
  unfold gq tp
  by_cases h:n.name=s
  ·exact .inr ⟨0,n,rfl,by simp[h],by simp[h]⟩
  ·rcases tq s r (i+1) with ⟨h1,h2⟩|⟨m,n',h1,h2,h3⟩
   ·exact .inl ⟨by simp[h]; simpa[gq] using h1,by simp[h,h2]⟩
   ·exact .inr ⟨m+1,n',by simpa using h1,by simp[h]; simpa[gq] using h2,by simp[h,h3]; omega⟩
def aae{t:Node}{s:Bytes}(ht:t.bc.length<=100000){k:List K}{R:Int->Option (ag×aC)}
  (hx:∀e,kr (aq bW) [.tmp 4] 0 k ⟨.exit 0,e,[cu (aL t)]⟩=R (-1)) (hr:∀(i:Nat),kr (aq bW) [.tmp 4] 0 k ⟨.ret,[(4,aF i)],[cu (aL t)]⟩=R i) :
  ∀(l pre:List gI),t.bc=pre++l->eX (aq bW) [.tmp 4] 0 k (.loop [1,2,5] ZA) [(1,.str s),(2,ct 0),(5,aF pre.length)] [cu (aL t)]=R (tp s l pre.length):=by
 intro l;induction l with
 |nil =>
  intro pre h;rw[bG];simp only[Kq,aL,ja,jL h,EN,seval];exact hx _
 |cons n r ih =>
  intro pre h;rw[bG];have dJ:pre.length+1<=100000:=by rw[h] at ht; simp at ht; omega
  have hw:=zp pre n;simp only[Kq,aL,ja,iK h,gP h,gd,EN,seval];refine bB (fun hb=>?_) (fun hb=>?_)
  ·have hb:n.name=s:=by simpa using hb
   simp only[Kq,EN,seval];rw[tp,aZ hb];exact hr _
  ·have hb:¬n.name=s:=by simpa using hb
   simp only[Kq,hw,EN,seval];rw[tp,aR hb];have:=ih (pre++[n]) (by rw[h]; simp)
   simp only[aA,aw,az] at this ⊢;exact this
def ap1(t:Node)(s:Bytes)(ht:t.bc.length<=100000):aq bW 125 [bK t,.str s] []=some (aF (tp s t.bc 0),[]):=by
 refine aB ?_;simp only[ace,Kq,bK,EN,seval];exact aae (R:=fun z=>some (aF z,[])) ht (fun e=>by simp only[Kq,EN,seval]) (fun i=>by simp only[Kq,EN,seval]) t.bc [] rfl
def afy(a b c:Int)(d:Bytes)(e:List gI)(u:Int)(s:Bytes)(h:e.length<=100000)(M:aC):aU (aq bW) 125 [.agg [aF a,aF b,aF c,cR d,ja e,aF u],.str s] M=some (aF (tp s e 0),M) :=
 cO (ap1 ⟨a,b,c,d,e,u⟩ s h) M
def aad{s:Bytes}(hs:s.length<=100000){k:List K}{R:Bool->Option (ag×aC)}
  (hx:∀e,kr (aq bW) [.tmp 2] 0 k ⟨.exit 0,e,[]⟩=R true) (hr:kr (aq bW) [.tmp 2] 0 k ⟨.ret,[(2,.bool false)],[]⟩=R false) :
  ∀(l pre:Bytes),s=pre++l->eX (aq bW) [.tmp 2] 0 k (.loop [0,3] Zz) [(0,.str s),(3,aF pre.length)] []=R (l.all sS):=by
 intro l;induction l with
 |nil =>
  intro pre h;rw[bG];simp only[HT,jL h,EN,seval];exact hx _
 |cons n r ih =>
  intro pre h;rw[bG];have dJ:pre.length+1<=100000:=by rw[h] at hs; simp at hs; omega
  have hw:=zp pre n;have hi:=ih (pre++[n]) (by rw[h]; simp)
  simp only[aA,aw,az] at hi;simp only[HT,iK h,gP h,EN,seval]
  repeat' ((first|apply bB|apply bU|apply dI)<;>intro hb<;>simp only[hb,EN,HT,gP h,hw,seval])
  all_goals try simp only[HT,EN,seval]
  all_goals first
   |(refine hr.trans ?_; congr 1; symm; simp_all [sS]; done)
   |(refine hi.trans ?_; congr 1; symm; simp_all [sS]; done)
def ap0(s:Bytes)(hs:s.length<=100000):aq bW 124 [.str s] []=some (.bool (fU s),[]):=by
 refine aB ?_;simp only[acd,HT,EN,seval];have hl:=fun k hx hr=>aad (k:=k) (R:=fun b=>some (ag.bool b,[])) hs hx hr s [] rfl
 repeat' ((first|apply bB|apply bU|apply dI)<;>intro hb<;>simp only[hb,EN,HT,seval])
 all_goals first
  |(simp_all [fU]; done)
  |(refine(hl _ (fun e=>by simp only[HT,EN,seval]) (by simp only[HT,EN,seval])).trans ?_; simp_all [fU]; done)
def S0 s hs:=cP (ap0 s hs)
def c72(t:Tree)(ar:Int)(s:Bytes)(ht:Small t)(hs:s.length<=100000):aq bW 72 [bq t,aF ar,.str s] []=some (.tuple [aF (fg t.ae ar s).1,aF (fg t.ae ar s).2],[]):=by
 refine aB ?_;have hd:=tC ht ar;simp only[alS,E72,bq,aM,Zb,ht.ae,bK,aL,EN,seval];unfold fg;refine bB (fun hb=>?_) (fun hb=>?_)
 ·simp only[E72,EN,seval];simp_all
 ·simp only[E72,S0,hs,EN,seval];refine bB (fun hb'=>?_) (fun hb'=>?_)
  ·simp only[E72,EN,seval];simp_all
  ·simp only[E72,afy,hd,EN,seval];rcases tq s (gV t.ae ar).1.bc 0 with ⟨h1,h2⟩|⟨m,n,h1,h2,h3⟩
   ·rw[h2];simp only[E72,EN,seval];simp_all
   ·rw[h3];simp only[E72,h1,ja,gd,EN,seval];simp_all
def k72(ae:List Node)(next ak ar:Int)(s:Bytes)(ht:Small ⟨ae,next,ak⟩)(hs:s.length<=100000)(M:aC):aU (aq bW) 72 [.agg [ba ae,aF next,aF ak],aF ar,.str s] M =
  some (.tuple [aF (fg ae ar s).1,aF (fg ae ar s).2],M):=cO (c72 ⟨ae,next,ak⟩ ar s ht hs) M
def aab{t:Tree}{n:Node}(ht:t.ae.length<=100000){k:List K}{R:List Node->Bool->Option (ag×aC)}
  (hx:∀out done v e,out.length<=300000->kr (aq bW) [.dE 4 3] 0 k ⟨.exit 0,[(2,ct 0),(3,ct 1),(4,ct 2),(5,.slice (.own 3) (out.map bK)),(6,.bool done),(7,v),(12,e)],[cu (aM t),cu (aL n),.cells zT,.tick 6 out.length]⟩=R out done) :
  ∀(l pre out:List Node)(done:Bool),t.ae=pre++l->out.length+2*l.length<=300000->eX (aq bW) [.dE 4 3] 0 k (.loop [2,3,4,5,6,7] Zu) [(2,ct 0),(3,ct 1),(4,ct 2),(5,.slice (.own 3) (out.map bK)),(6,.bool done),(7,aF pre.length)] [cu (aM t),cu (aL n),.cells zT,.tick 6 out.length]=R (ot n l out done).1 (ot n l out done).2:=by
 intro l;induction l with
 |nil =>
  intro pre out done h ho;rw[bG];simp only[Km,aM,ba,jL h,EN,seval];exact hx _ _ _ _ (by simp at ho; omega)
 |cons m r ih =>
  intro pre out done h ho;rw[bG];have dJ:pre.length+1<=100000:=by rw[h] at ht; simp at ht; omega
  have hw:=zp pre m;have hi:=fun out done ho=>ih (pre++[m]) out done (by rw[h]; simp) ho
  simp only[aw] at ho;have r1:cp (out.length+1) 80=True:=qH;have r2:cp (out.length+1+1) 80=True:=qH;rw[ot];simp only[Km,aM,ba,iK h,gP h,aL,EN,seval]
  repeat' ((first|apply bB|apply bU|apply dI)<;>intro hb<;>simp only[hb,EN,Km,gP h,hw,r1,r2,aL,seval])
  all_goals try simp only[Km,gP h,hw,r1,r2,aL,EN,seval]
  all_goals first
   |(refine ik ?_ ((hi (out++[n]++[m]) true gh).trans ?_)
     ·simp only[aW,aE,aQ,aA,aw,az]; rfl
     ·clear hi ih hx hw h; simp_all; done)
   |(refine ik ?_ ((hi (out++[n]) true gh).trans ?_)
     ·simp only[aW,aE,aQ,aA,aw,az]; rfl
     ·clear hi ih hx hw h; simp_all; done)
   |(refine ik ?_ ((hi (out++[m]) done gh).trans ?_)
     ·simp only[aW,aE,aQ,aA,aw,az]; rfl
     ·clear hi ih hx hw h; simp_all; done)
   |(refine ik ?_ ((hi out done aH).trans ?_)
     ·simp only[aW,aE,aQ,aA,aw,az]; rfl
     ·clear hi ih hx hw h; simp_all; done)
def c119(t:Tree)(n:Node)(ht:t.ae.length<=100000):aq bW 119 [bq t,bK n] []=some (bq ⟨eT t.ae n,t.next,t.ak⟩,[]):=by
 refine aB ?_;simp only[R7,Km,bq,bK,EN,seval];refine aab (R:=fun out done=>some (bq ⟨out++(if done then [] else [n]),t.next,t.ak⟩,[])) ht (fun out done v e ho=>?_) t.ae [] [] false rfl gh
 have r1:cp (out.length+1) 80=True:=qH;cases done
 ·simp only[Km,r1,bq,aM,zT,aL,EN,seval];simp[ba,bK,aL]
 ·simp only[Km,r1,bq,aM,zT,aL,EN,seval]
  try simp[ba]
def Hl(ae:List Node)(next ak a b c:Int)(d:Bytes)(e:List gI)(u:Int)(h:ae.length<=100000)(M:aC):aU (aq bW) 119 [.agg [ba ae,aF next,aF ak],.agg [aF a,aF b,aF c,cR d,ja e,aF u]] M =
  some (.agg [ba (eT ae ⟨a,b,c,d,e,u⟩),aF next,aF ak],M):=cO (c119 ⟨ae,next,ak⟩ ⟨a,b,c,d,e,u⟩ h) M
def aam{t:Tree}{ar:Int}(ht:t.ae.length<=100000){k:List K}{R:List Node->Option (ag×aC)}
  (hx:∀out v e,out.length<=300000->kr (aq bW) [.dE 4 3] 0 k ⟨.exit 0,[(1,aF ar),(2,ct 0),(4,ct 1),(5,.slice (.own 2) (out.map bK)),(6,v),(11,e)],[cu (aM t),.cells zT,.tick 6 out.length]⟩=R out) :
  ∀(l pre out:List Node),t.ae=pre++l->out.length+l.length<=150000->eX (aq bW) [.dE 4 3] 0 k (.loop [1,2,4,5,6] ZR) [(1,aF ar),(2,ct 0),(4,ct 1),(5,.slice (.own 2) (out.map bK)),(6,aF pre.length)] [cu (aM t),.cells zT,.tick 6 out.length]=R (out++fP l ar):=by
 intro l;induction l with
 |nil =>
  intro pre out h ho;rw[bG];simp only[QT,aM,ba,jL h,EN,seval];refine(hx _ _ _ (by simp at ho; omega)).trans (by simp[fP])
 |cons m r ih =>
  intro pre out h ho;rw[bG];have dJ:pre.length+1<=100000:=by rw[h] at ht; simp at ht; omega
  have hw:=zp pre m;have hi:=fun out ho=>ih (pre++[m]) out (by rw[h]; simp) ho
  simp only[aw] at ho;have r1:cp (out.length+1) 80=True:=qH;simp only[QT,aM,ba,iK h,gP h,aL,EN,seval]
  repeat' ((first|apply bB|apply bU|apply dI)<;>intro hb<;>simp only[hb,EN,QT,gP h,hw,r1,aL,seval])
  all_goals first
   |(refine ik ?_ ((hi (out++[m]) gh).trans ?_)
     ·simp only[aW,aE,aQ,aA,aw,az]; rfl
     ·clear hi ih hx hw h; simp_all[fP]; done)
   |(refine ik ?_ ((hi out aH).trans ?_)
     ·simp only[aW,aE,aQ,aA,aw,az]; rfl
     ·clear hi ih hx hw h; simp_all[fP]; done)
def aqG(t:Tree)(ar:Int)(ht:t.ae.length<=100000):aq bW 175 [bq t,aF ar] []=some (bq ⟨fP t.ae ar,t.next,t.ak⟩,[]):=by
 refine aB ?_;simp only[Sg,QT,bq,EN,seval];refine(aam (R:=fun out=>some (bq ⟨out,t.next,t.ak⟩,[])) ht (fun out v e ho=>?_) t.ae [] [] rfl gh).trans (by simp[bq])
 simp only[QT,bq,aM,zT,EN,seval]
 try simp[ba]
def ams(ae:List Node)(next ak ar:Int)(h:ae.length<=100000)(M:aC):aU (aq bW) 175 [.agg [ba ae,aF next,aF ak],aF ar] M =
  some (.agg [ba (fP ae ar),aF next,aF ak],M):=cO (aqG ⟨ae,next,ak⟩ ar h) M
def aac{T:List ag}{n:Node}{s:Bytes}(hn:n.bc.length<=100000){k:List K}{R:List gI->Option (ag×aC)}
  (hx:∀out v e,out.length<=300000->kr (aq bW) [.dE 6 3] 0 k ⟨.exit 0,[(2,.str s),(3,ct 0),(6,ct 1),(7,ct 2),(9,.slice (.own 3) (out.map iE)),(10,v),(21,e)],[.cells T,.cells zT,cu (aL n),.tick 3 out.length]⟩=R out)
  (hT:∀B M,T.map (ag.jW B M)=T) :
  ∀(l pre out:List gI),n.bc=pre++l->out.length+l.length<=150000->eX (aq bW) [.dE 6 3] 0 k (.loop [2,3,6,7,9,10] Zy) [(2,.str s),(3,ct 0),(6,ct 1),(7,ct 2),(9,.slice (.own 3) (out.map iE)),(10,aF pre.length)] [.cells T,.cells zT,cu (aL n),.tick 3 out.length]=R (out++j8 l s):=by
 intro l;induction l with
 |nil =>
  intro pre out h ho;rw[bG];simp only[Kn,aL,ja,jL h,EN,seval];refine(hx _ _ _ (by simp at ho; omega)).trans (by simp[j8])
 |cons m r ih =>
  intro pre out h ho;rw[bG];have dJ:pre.length+1<=100000:=by rw[h] at hn; simp at hn; omega
  have hw:=zp pre m;have hi:=fun out ho=>ih (pre++[m]) out (by rw[h]; simp) ho
  simp only[aw] at ho;have r1:cp (out.length+1) 32=True:=qH;simp only[Kn,aL,ja,iK h,gP h,gd,hT,zT,EN,seval]
  repeat' ((first|apply bB|apply bU|apply dI)<;>intro hb<;>simp only[hb,EN,Kn,gP h,hw,r1,gd,hT,zT,seval])
  all_goals first
   |(refine ik ?_ ((hi (out++[m]) gh).trans ?_)
     ·simp only[aW,aE,aQ,aA,aw,az]; rfl
     ·clear hi ih hx hw h hT; simp_all[j8]; done)
   |(refine ik ?_ ((hi out aH).trans ?_)
     ·simp only[aW,aE,aQ,aA,aw,az]; rfl
     ·clear hi ih hx hw h hT; simp_all[j8]; done)
def FG{t:Tree}(hs:Small t)(ar:Int):((find t.ae ar).getD Node.zero).bc.length<=100000:=by
 cases h:find t.ae ar with
 |none=>simp[Node.zero]
 |some n=>exact hs.bc n (cD h).1
def apY(t:Tree)(ar:Int)(s:Bytes)(ht:Small t):aq bW 122 [bq t,aF ar,.str s] []=some (bq ⟨dx t.ae ar s,t.next,t.ak⟩,[]):=by
 refine aB ?_;have hd:=FG ht ar;unfold dx;simp only[R8,Kn,bq,aM,Bh,ht.ae,bK,EN,seval];generalize (find t.ae ar).getD Node.zero=n at hd ⊢;simp only[Kn,aL,EN,seval];refine(aac (R:=fun out=>some (bq ⟨eT t.ae { n with bc:=out },t.next,t.ak⟩,[])) hd (fun out v e ho=>?_) (fun B M=>by simp only[Kn,EN,seval]) n.bc [] [] rfl gh).trans (by simp[bq,aM])
 simp only[Kn,zT,aL,Hl,ht.ae,EN,seval];simp[bq,aM]
def ab1{X:Option (ag×aC)}{v:ag×aC}(h:∃r,r=v/\X=some r):X=some v:=by
 obtain⟨_,rfl,h⟩:=h;exact h
def aqe(a b:List gI)(ha:a.length<=100000):aq bW 141 [ja a,ja b] []=some (.bool (decide (a=b)),[]):=by
 refine aB ?_;cases h0:(a.length:Int) != (b.length:Int)
 ·have hl:a.length=b.length:=by simp at h0; omega
  simp only[Sa,QQ,h0,EW,seval];refine ab1 (jc (xs:=a) aH (fun m (_:Unit)=>a.take m=b.take m) (fun _ i=>[(0,ja a),(1,ja b),(5,aF i)]) (fun _=>[]) (fun r=>r=(.bool (decide (a=b)),[])) (fun _ hI=>?_) (fun pre x post _ e hx cG hw h0 hm hI hi=>?_) () rfl)
  ·refine⟨_,rfl,?_⟩;rw[kf (Ar hl hI)];simp only[QQ,br,EW,seval]
  ·have hp:=(aj.1 hx).1;obtain⟨y,hy⟩:∃y,b[pre.length]?=some y:=⟨_,ai aH⟩;cases h1:decide (x=y)
   ·have hd:decide (a=b)=false:=iY fun e=>of_decide_eq_false h1 (by rw[e,hy] at hx; injection hx with hx; exact hx.symm)
    refine⟨_,rfl,?_⟩;rw[hd];simp only[QQ,cG,hx,hy,h0,h1,iE,RQ,aiO,EW,seval]
   ·have i1:=hi () (yi hI hx (by rw[hy,jV h1]))
    simp only[QQ,cG,hx,hy,hw,h0,h1,iE,RQ,aiO,EW,seval];exact i1
 ·have hd:decide (a=b)=false:=iY fun e=>by rw[e] at h0; simp at h0
  rw[hd];simp only[Sa,QQ,h0,EW,seval]
def ass a b ha:=cP (aqe a b ha)
def c88(x y:Node)(hx:x.bc.length<=100000):aq bW 88 [.agg (aL x),.agg (aL y)] []=some (.bool (decide (x=y)),[]):=by
 rw[adM];have hk:=fun M=>ass x.bc y.bc hx M
 refine aB ?_;simp only[alX,E88,bK,aL,EN,seval]
 repeat' ((first|apply bB|apply bU|apply dI)<;>intro hb<;>simp only[hb,EN,E88,hk,zA,seval])
 all_goals clear hk
 all_goals simp_all [bne]
def k88 x y hx:=cP (c88 x y hx)
def aqd(a b:List Node)(ha:a.length<=100000)(he:∀n,n∈a->n.bc.length<=100000):aq bW 140 [ba a,ba b] []=some (.bool (decide (a=b)),[]):=by
 refine aB ?_;cases h0:(a.length:Int) != (b.length:Int)
 ·have hl:a.length=b.length:=by simp at h0; omega
  simp only[R9,QP,h0,EW,seval];refine ab1 (jc (xs:=a) aH (fun m (_:Unit)=>a.take m=b.take m) (fun _ i=>[(0,ba a),(1,ba b),(5,aF i)]) (fun _=>[]) (fun r=>r=(.bool (decide (a=b)),[])) (fun _ hI=>?_) (fun pre x post _ e hx cG hw h0 hm hI hi=>?_) () rfl)
  ·refine⟨_,rfl,?_⟩;rw[kf (Ar hl hI)];simp only[QP,br,EW,seval]
  ·have hp:=(aj.1 hx).1;obtain⟨y,hy⟩:∃y,b[pre.length]?=some y:=⟨_,ai aH⟩;have q:=fun M=>k88 x y (he x hm) M
   simp only[aL] at q;cases h1:decide (x=y)<;>rw[h1] at q
   ·have hd:decide (a=b)=false:=iY fun e=>of_decide_eq_false h1 (by rw[e,hy] at hx; injection hx with hx; exact hx.symm)
    refine⟨_,rfl,?_⟩;rw[hd];simp only[QP,cG,hx,hy,h0,q,bK,aL,EW,seval]
   ·have i1:=hi () (yi hI hx (by rw[hy,jV h1]))
    simp only[QP,cG,hx,hy,hw,h0,q,bK,aL,EW,seval];exact i1
 ·have hd:decide (a=b)=false:=iY fun e=>by rw[e] at h0; simp at h0
  rw[hd];simp only[R9,QP,h0,EW,seval]
def asr a b ha he:=cP (aqd a b ha he)
def c87(a b:Tree)(ha:a.ae.length<=100000)(he:∀n,n∈a.ae->n.bc.length<=100000):aq bW 87 [bq a,bq b] []=some (.bool (decide (a=b)),[]):=by
 have hd:decide (a=b)=(a.next==b.next&&(a.ak==b.ak&&decide (a.ae=b.ae))):=by
  obtain⟨a1,a2,a3⟩:=a;obtain⟨b1,b2,b3⟩:=b;rw[cE]; simp; constructor
  ·rintro⟨h1,h2,h3⟩; exact⟨h2,h3,h1⟩
  ·rintro⟨h1,h2,h3⟩; exact⟨h3,h1,h2⟩
 rw[hd];have q:=fun M=>asr a.ae b.ae ha he M
 refine aB ?_
 cases h1:a.next==b.next<;>cases h2:a.ak==b.ak <;>
  simp only[alW,E87,h1,h2,q,bq,aM,dZ,dW,dV,EW,seval]
def k87(a b:Tree)(ha:a.ae.length<=100000)(he:∀n,n∈a.ae->n.bc.length<=100000)(M:aC):aU (aq bW) 87 [.agg [ba a.ae,aF a.next,aF a.ak],.agg [ba b.ae,aF b.next,aF b.ak]] M=some (.bool (decide (a=b)),M):=cO (c87 a b ha he) M
end
end Go.Proofs.YteoamaffclmdbaaGreatDoor
