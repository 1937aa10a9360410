import Derived.Stop.Asserts
import Derived.Test.YteoamaffclmdbaaGreatDoorHlaD
set_option linter.all false
open Go.Proofs.Tryz
namespace Go.Proofs.YteoamaffclmdbaaGreatDoor
section
open Go Go.Abs
section
attribute [local irreducible] eS fI lx gK dZ kr aq aR cu bJ
def LX(l:List fD)(c h:Int):Int×Int:=match l.find? (sZ c h) with
 |some x=>(x.ar,0)
 |none=>(0,80)
def arZ(l:List fD)(c h:Int)(hn:l.length<=100000):aq bX 224 [fN l,aD c,aD h] []=some (.tuple [aD (LX l c h).1,aD (LX l c h).2],[]):=by
 refine aB ?_;have hk:=aei l c h hn;simp only[adM,aeQ,hk,EW,seval];unfold LX;rcases yb (sZ c h) l 0 with ⟨h1,h2⟩|⟨m,x,h1,h2,h3,_⟩
 ·simp only[aeQ,h1,h2,EW,seval]
 ·have cQ:(((0+m:Nat):Int)<0)=False:=dw;simp only[aeQ,h1,h2,h3,cQ,jb,EW,seval]
def atE l c h hn:=cP (arZ l c h hn)
def pT(l:List fD)(ar:Int):Bool:=l.any fun x=>x.ar==ar
def arV(l:List fD)(ar:Int)(hn:l.length<=100000):aq bX 219 [fN l,aD ar] []=some (.bool (pT l ar),[]):=by
 refine aB ?_;have hk:aR (aq bX) 185 [fN l,.func 262 [cC 0]] [cF [aD ar]]=some (.bool (pT l ar),[cF [aD ar]]):=lk (ids:=[0]) rfl rfl (Xi ar) rfl rfl (alr l ar hn) rfl rfl rfl rfl rfl;simp only[adI,apA,hk,EW,seval]
def mN(t:Tree):List Int:=(t.ae.filter gS).map Node.ar
def vQ(t:Tree)(l:List fD)(c h ar:Int):List fD×Int :=
 if !z8 c h then (l,1)
 else if !(find t.ae ar).isSome||gS (bl t.ae ar) then (l,70)
 else if (bl t.ae ar).kind==2 then (l,72)
 else if pr (fun x=>ig x c h==0) l (mj (fun x=>decide (ig x c h<0)) l)=true then (l,71)
 else if decide (64<=(l.length:Int)) then (l,76)
 else (l.take (mj (fun x=>decide (ig x c h<0)) l)++⟨c,h,ar⟩::l.drop (mj (fun x=>decide (ig x c h<0)) l),0)
def xk(a b:fD):Prop:=a.bF<b.bF\/(a.bF=b.bF/\a.handle<b.handle)
abbrev uH(l:List fD):Prop:=l.Pairwise xk
def sd(x:fD)(c h:Int):(ig x c h<0)↔(x.bF<c\/(x.bF=c/\x.handle<h)):=by
 unfold ig orI qR
 by_cases h1:x.bF<c
 ·simp[h1]
 ·by_cases h2:c<x.bF
  ·simp[h1,h2]; omega
  ·have:x.bF=c:=aH
   by_cases h3:x.handle<h
   ·simp[h3,this]
   ·by_cases h4:h<x.handle
    ·simp[h3,h4,this]
    ·simp[h3,h4,this]
def D1(x:fD)(c h:Int):(ig x c h=0)↔(x.bF=c/\x.handle=h):=by
 unfold ig orI qR
 by_cases h1:x.bF<c
 ·simp[h1]; omega
 ·by_cases h2:c<x.bF
  ·simp[h1,h2]; omega
  ·have:x.bF=c:=aH
   by_cases h3:x.handle<h
   ·simp[h3,this]; omega
   ·by_cases h4:h<x.handle
    ·simp[h3,h4,this]; omega
    ·simp[h3,h4,this]; omega
def Eg{l:List fD}(h:uH l)(c g:Int):Yh (fun x=>decide (ig x c g<0)) l (mj (fun x=>decide (ig x c g<0)) l):=by
 refine HA (h.imp ?_);intro a b hab hb;simp only[bh,sd] at hb ⊢;unfold xk at hab;omega
def atB(l:List fD)(c g:Int)(hl:uH l)(hn:l.length<=100000)(M:aC):aR (aq bX) 211 [fN l,.agg [aD c,aD g],.rb 212 [.agg [aD c,aD g]]] M =
  some (.tuple [aD (mj (fun x=>decide (ig x c g<0)) l),.bool (pr (fun x=>ig x c g==0) l (mj (fun x=>decide (ig x c g<0)) l))],M) :=
 cO (arR l c g _ (Eg hl c g) hn) M
def aq6(t:Tree)(l:List fD)(c h ar:Int)(ht:Small t)(hr:rU t)(hl:uH l)(hn:l.length<=64):aq bX 156 [br t,fN l,aD c,aD h,aD ar] []=some (.tuple [fN (vQ t l c h ar).1,aD (vQ t l c h ar).2],[]):=by
 refine aB ?_;have q1:=Fl t ar ht hr;have q2:=atB l c h hl aH;have hb:=(Eg hl c h).le;unfold vQ;generalize mj (fun x=>decide (ig x c h<0)) l=b at q2 hb ⊢
 generalize pr (fun x=>ig x c h==0) l b=e at q2 ⊢
 simp only[SI,OE,br,aM,atA,q1,q2,EW,seval];refine bB (fun h1=>?_) (fun h1=>?_)
 ·simp only[OE,h1,EW,seval]
 ·have q3:=fun M=>agj (bl t.ae ar) M
  simp only[aL] at q3
  by_cases h0:l=[]
  ·have hb0:b=0:=by subst h0; simpa using hb
   have p1:=fun M=>DR ib (f:=215) (sz:=3) (bytes:=24) rfl h0 M
   have p2:=fun M=>FW (f:=214) (sz:=3) (bytes:=24) rfl hb0 (.agg [aD c,aD h,aD ar]) rfl M
   simp only[OE,h1,q1,q2,q3,aL,EW,seval]
   repeat' ((first|apply bB|apply bW|apply dM)<;>intro hb<;>simp only[hb,EW,OE,q3,p1,p2,aL,seval])
   all_goals clear q1 q2 q3 p1 p2
   all_goals first|(simp_all only[qC,↓reduceIte,reduceCtorEq,aw]; done)|(simp_all only[qC,↓reduceIte,reduceCtorEq,aw]; rfl)
  ·have hb0:=hb;have p1:=fun M=>CZ ib (f:=215) (sz:=3) (bytes:=24) rfl (fun _=>rfl) aH h0 aH M
   have p2:=fun M=>Jp ib (f:=214) (sz:=3) (bytes:=24) (v:=0) (id:=3) rfl aH hb aH (.agg [aD c,aD h,aD ar]) rfl M
   simp only[OE,h1,q1,q2,q3,aL,EW,seval]
   repeat' ((first|apply bB|apply bW|apply dM)<;>intro hb<;>simp only[hb,EW,OE,q3,p1,p2,aL,seval])
   all_goals clear q1 q2 q3 p1 p2
   all_goals first|(simp_all only[qC,↓reduceIte,reduceCtorEq,aw]; done)|(simp_all only[qC,↓reduceIte,reduceCtorEq,aw]; exact congrArg (fun z=>some (ag.tuple [ag.slice .sh z,aD 0],([]:aC))) (NC ib hb0 ⟨c,h,ar⟩))
def atf(t:Tree)(l:List fD)(c h ar:Int)(ht:Small t)(hr:rU t)(hl:uH l)(hn:l.length<=64)(M:aC):aR (aq bX) 156 [.agg [ba t.ae,aD t.next,aD t.ak],fN l,aD c,aD h,aD ar] M=some (.tuple [fN (vQ t l c h ar).1,aD (vQ t l c h ar).2],M) :=
 cO (aq6 t l c h ar ht hr hl hn) M
def atD l ar hn:=cP (arV l ar hn)
def nB(t:Tree)(l:List fD)(c h:Int):Tree×List fD×Int:=match l.find? (sZ c h) with
 |none=>(t,l,80)
 |some x=>(if (find t.ae x.ar).isSome&&gS (bl t.ae x.ar) && !pT (l.eraseP (sZ c h)) x.ar then (kL t x.ar).1 else t,l.eraseP (sZ c h),0)
def aq7(t:Tree)(l:List fD)(c h:Int)(ht:Small t)(hr:rU t)(hn:l.length<=64):aq bX 157 [br t,fN l,aD c,aD h] []=some (.tuple [br (nB t l c h).1,fN (nB t l c h).2.1,aD (nB t l c h).2.2],[]):=by
 refine aB ?_;have hk:=aei l c h aH;unfold nB;rcases yb (sZ c h) l 0 with ⟨h1,h2⟩|⟨m,x,h1,h2,h3,h4⟩
 ·simp only[Nk,aeH,hk,h1,h2,br,aM,EW,seval]
 ·have cQ:(((0+m:Nat):Int)<0)=False:=dw;have hm:m<l.length:=(aj.1 h2).1;have hne:l≠[]:=by rintro rfl; simp at hm
  have p1:=fun M=>CZ ib (f:=215) (sz:=3) (bytes:=24) rfl (fun _=>rfl) aH hne aH M
  have p2:=fun M=>FV ib (f:=218) (sz:=3) (v:=0) (id:=2) rfl hm aH M
  have hw:IntKind.i64.wrap ((m:Int)+1)=((m+1:Nat):Int):=by rw[gx aH aH]; rfl
  have q1:=Fl t x.ar ht hr;have q2:=anc t x.ar ht hr;have q3:=fun M=>agj (bl t.ae x.ar) M
  have q4:=atD (l.eraseP (sZ c h)) x.ar (by have:=List.length_eraseP_le (p:=sZ c h) (l:=l); omega)
  simp only[h3];generalize kL t x.ar=fr at q2 ⊢;rw[h4] at p2;simp only[aL,aM] at q1 q2 q3;simp only[Nk,aeH,hk,h1,h2,cQ,jb,p1,p2,hw,q1,q3,aL,br,aM,FZ,qE,EW,seval]
  repeat' ((first|apply bB|apply bW|apply dM)<;>intro hb<;>simp only[hb,EW,aeH,hk,h1,h2,cQ,p1,p2,hw,q1,q2,q3,q4,aL,FZ,qE,seval])
  all_goals clear q1 q2 q3 q4 p1 p2 hk
  all_goals first|rfl|(simp_all only[qC,↓reduceIte,reduceCtorEq,aw]; done)|(simp_all only[qC,↓reduceIte,reduceCtorEq,aw]; rfl)|skip
def am4(t:Tree)(l:List fD)(c h:Int)(ht:Small t)(hr:rU t)(hn:l.length<=64)(M:aC):aR (aq bX) 157 [.agg [ba t.ae,aD t.next,aD t.ak],fN l,aD c,aD h] M=some (.tuple [.agg (aM (nB t l c h).1),fN (nB t l c h).2.1,aD (nB t l c h).2.2],M) :=
 cO (aq7 t l c h ht hr hn) M
def dY.sz{t:Tree}{dJ:Int->Nat}{x:Int}(h:dY t dJ x):Sz 200 t where
 ae:=h.ae
 bc:=fun n hn=>by have:=(h.yv _ _ ((ic h.lL.ml).2 ⟨hn,rfl⟩)).2; omega
 data:=fun n hn=>by
  have hi:=(ic h.lL.ml).2 ⟨hn,rfl⟩;rcases h.kind _ _ hi with h1|h1
  ·have:=(h.file _ _ hi h1).2.2; omega
  ·rw[h.dir _ _ hi h1]; simp
def Sz.HR{b:Nat}{t:Tree}(h:Sz b t)(hb:b<=100000:=by omega):Small t:=h.small hb
def Rt(t:Tree):Prop:=∃dJ,dY t dJ 0
def Rt.lL{t:Tree}(h:Rt t):rU t:=let ⟨_,g⟩:=h; g.lL
def Rt.sz{t:Tree}(h:Rt t):Sz 200 t:=let ⟨_,g⟩:=h; g.sz
def Rt.small{t:Tree}(h:Rt t):Small t:=h.sz.small aH
def Rt.free{t:Tree}(h:Rt t)(ar:Int):Rt (kL t ar).1:=let ⟨_,g⟩:=h; ⟨_,FT g ar⟩
def Rt.close{t:Tree}(h:Rt t)(l:List fD)(c g:Int):Rt (nB t l c g).1:=by
 unfold nB;split
 ·exact h
 ·split
  ·exact h.free _
  ·exact h
def y9(t:Tree)(l:List fD)(c g:Int):(nB t l c g).2.1.length<=l.length:=by
 unfold nB;split
 ·exact av _
 ·exact List.length_eraseP_le
def b0T(n:Tree)(B:Nat)(M:aC):List.map (ag.jH B M) (aM n)=aM n:=rfl
def aaX{t:Tree}(ht:t.ae.length<=100000){k:List K}{R:List Int->Option (ag×aC)}
  (hx:∀(out:List Int) e,kr (aq bX) [.tmp 2] 0 k ⟨.exit 0,(3,.slice (.own 1) (out.map mS))::e,[cF (aM t),.tick 1 out.length]⟩=R out) :
  ∀(l pre:List Node)(out:List Int),t.ae=pre++l->out.length<=pre.length->eS (aq bX) [.tmp 2] 0 k (.loop [3,7,8,9] aaw) [(3,.slice (.own 1) (out.map mS)),(7,ba t.ae),(8,aD t.ae.length),(9,aD pre.length)] [cF (aM t),.tick 1 out.length]=R (out++(l.filter gS).map Node.ar):=by
 intro l;induction l with
 |nil =>
  intro pre out h ho;rw[bI];simp only[OI,jP h,kO,EW,seval];exact hx _ _
 |cons n rest ih =>
  intro pre out h ho;rw[bI];have dN:pre.length+1<=100000:=by rw[h] at ht; simp at ht; omega
  have hw:=zB pre n;have hi1:=ih (pre++[n]) out (by rw[h]; simp) gr
  have hi2:=ih (pre++[n]) (out++[n.ar]) (by rw[h]; simp) gr
  simp only[aA,au,az,aW,aK,aV] at hi1 hi2;have r1:cB (out.length+1) 8=True:=qV;have q3:=fun M=>agj n M
  simp only[aL] at q3;simp only[OI,iP h,gQ h,aL,aM,q3,EW,seval] at hi1 hi2 ⊢;refine bB (fun hb=>?_) (fun hb=>?_)
  ·simp only[OI,hb,r1,uG,hw,EW,seval];simpa[hb] using hi2
  ·simp only[OI,hb,hw,EW,seval];simpa[hb] using hi1
def arA(t:Tree)(ht:t.ae.length<=100000):aq bX 184 [br t] []=some (uU (mN t),[]):=by
 refine aB ?_;have hl:=aaX ht (k:=[.block 0,.seq aii]) (R:=fun out=>some (uU out,[])) (fun out e=>by simp only[OI,EW,seval]) t.ae [] [] rfl (av _)
 simp only[aM,aV,az] at hl;simp only[SP,OI,br,aM,EW,seval];exact hl
def ats(t:Tree)(ht:t.ae.length<=100000)(M:aC):aR (aq bX) 184 [.agg [ba t.ae,aD t.next,aD t.ak]] M=some (uU (mN t),M):=cO (arA t ht) M
def sY(c:Int):List fD->Tree->List fD->Tree×List fD
 | [],t,l=>(t,l)
 |x::r,t,l=>if x.bF==c then sY c r (nB t l c x.handle).1 (nB t l c x.handle).2.1 else sY c r t l
def DW(t:Tree)(l:List fD)(c:Int):Tree×List fD:=sY c l t l
def aaU{h0:List fD}(c:Int)(h64:h0.length<=64){k:List K}{R:Tree->List fD->Option (ag×aC)}
  (hx:∀(t:Tree) (l:List fD) e,kr (aq bX) [.dQ 6 3,.tmp 7] 0 k ⟨.exit 0,(1,fN l)::(2,aD c)::(3,cC 0)::(6,cC 1)::e,[cF (aM t),cF [.slice .c0 [],aD 0,aD 0]]⟩=R t l) :
  ∀(r pre:List fD)(t:Tree)(l:List fD),h0=pre++r->Rt t->l.length<=64->eS (aq bX) [.dQ 6 3,.tmp 7] 0 k (.loop [1,2,3,6,10,11,12] aan) [(1,fN l),(2,aD c),(3,cC 0),(6,cC 1),(10,fN h0),(11,aD h0.length),(12,aD pre.length)] [cF (aM t),cF [.slice .c0 [],aD 0,aD 0]]=R (sY c r t l).1 (sY c r t l).2:=by
 intro r;induction r with
 |nil =>
  intro pre t l h ht hl;rw[bI];simp only[OH,jP h,sY,EW,seval];exact hx _ _ _
 |cons x rest ih =>
  intro pre t l h ht hl;rw[bI];have dN:pre.length+1<=100000:=by rw[h] at h64; simp at h64; omega
  have hw:=zB pre x;have q1:=am4 t l c x.handle ht.small ht.lL hl;have hi1:=ih (pre++[x]) t l (by rw[h]; simp) ht hl
  have hi2:=ih (pre++[x]) _ _ (by rw[h]; simp) (ht.close l c x.handle) (aY (y9 t l c x.handle) hl)
  rw[sY];generalize nB t l c x.handle=cl at q1 hi2 ⊢;simp only[aA,au,az] at hi1 hi2;simp only[OH,iP h,gQ h,jb,aM,EW,seval] at q1 hi1 hi2 ⊢;refine bB (fun hb=>?_) (fun hb=>?_)
  ·simp only[OH,hb,q1,hw,EW,seval];exact hi2
  ·simp only[OH,hb,hw,af,EW,seval];exact hi1
def ari(t:Tree)(l:List fD)(c:Int)(ht:Rt t)(hl:l.length<=64):aq bX 169 [br t,fN l,aD c] []=some (.tuple [br (DW t l c).1,fN (DW t l c).2],[]):=by
 refine aB ?_;have hq:=aaU (h0:=l) c hl (k:=[.block 0,.seq aif]) (R:=fun t l=>some (.tuple [br t,fN l],[])) (fun t l e=>by simp only[OH,br,aM,EW,seval]) l [] t l rfl ht hl
 simp only[aM,az] at hq;simp only[ade,OH,br,aM,EW,seval];exact hq
def atl(t:Tree)(l:List fD)(c:Int)(ht:Rt t)(hl:l.length<=64)(M:aC):aR (aq bX) 169 [.agg [ba t.ae,aD t.next,aD t.ak],fN l,aD c] M=some (.tuple [.agg (aM (DW t l c).1),fN (DW t l c).2],M) :=
 cO (ari t l c ht hl) M
end
abbrev AM(α:Type):=List (Int×α)
section
variable {α:Type}
def B9(l:AM α):List ag:=l.map fun p => .int .i64 p.1
def pk(enc:α->ag)(l:AM α):List ag:=l.map fun p=>enc p.2
def eZ:AM α->Int->Option α
 | [],_=>none
 |(k',v)::l,k=>if k=k' then some v else eZ l k
def kS:AM α->Int->α->AM α
 | [],k,v=>[(k,v)]
 |(k',v')::l,k,v=>if k=k' then (k,v)::l else (k',v')::kS l k v
theorem jC:∀(l:AM α)(k:Int)(v:α)(j:Int),eZ (kS l k v) j=if j=k then some v else eZ l j
 | [],k,v,j=>by simp only[kS,eZ]
 |(k',v')::l,k,v,j=>by
  simp only[kS];split
  ·rename_i h;subst h;simp only[eZ];split<;>rfl
  ·rename_i h;simp only[eZ];split
   ·rename_i h2;rw[aQ (fun hh=>h (hh.symm.trans h2))]
   ·exact jC l k v j
def xB:∀(l:AM α)(k:Int)(v:α),eZ l k=some v->(k,v)∈l
 |(k',v')::l,k,v,h=>by
  simp only[eZ] at h;split at h
  ·rename_i hk;injection h with h
   subst h; subst hk;exact bD
  ·exact bu _ (xB l k v h)
def Eo:∀(l:AM α)(k:Int)(v:α),(kS l k v).length<=l.length+1
 | [],_,_=>by simp[kS]
 |(k',v')::l,k,v=>by
  simp only[kS];split
  ·simp
  ·have:=Eo l k v;simp; omega
def pd(enc:α->ag):∀(l:AM α)(k:Int),xx .i (.int .i64 k) (B9 l) (pk enc l)=some ((eZ l k).map enc)
 | [],k=>rfl
 |(k',v)::l,k=>by
  show bJ (kC .i (.int .i64 k) (.int .i64 k')) (fun b=>Bz b (some (some (enc v))) (xx .i (.int .i64 k) (B9 l) (pk enc l)))=_
  rw[pd enc l k];simp only[kC,↓reduceIte,bN,eZ]
  by_cases h:k=k'
  ·rw[aZ h,show(k==k')=true by simpa using h,vO]; rfl
  ·rw[aQ h,show(k==k')=false by simpa using h,qm]
end
section
variable {α:Type}
def sI(enc:α->ag):∀(l:AM α)(k:Int)(v:α),xz .i (.int .i64 k) (enc v) (B9 l) (pk enc l)=some (B9 (kS l k v),pk enc (kS l k v))
 | [],k,v=>by
  show bJ (kC .i (.int .i64 k) (.int .i64 k)) (fun _=>some ([ag.int .i64 k],[enc v]))=_
  simp only[kC,↓reduceIte,bN];rfl
 |(k',v')::l,k,v=>by
  show bJ (kC .i (.int .i64 k) (.int .i64 k')) (fun b=>Bz b (some (ag.int .i64 k::B9 l,enc v::pk enc l)) (bJ (xz .i (.int .i64 k) (enc v) (B9 l) (pk enc l)) fun x=>some (ag.int .i64 k'::x.1,enc v'::x.2)))=_
  rw[sI enc l k v];simp only[kC,↓reduceIte,bN,kS]
  by_cases h:k=k'
  ·rw[aZ h,show(k==k')=true by simpa using h,vO]; rfl
  ·rw[aQ h,show(k==k')=false by simpa using h,qm]; rfl
def Y8(enc:α->ag)(B:Nat)(M:aC)(h:∀a,(enc a).j4 B M=enc a)(l:AM α):List.map (ag.j4 B M) (pk enc l)=pk enc l:=by
 unfold pk;rw[gI];exact cT (fun p _=>h p.2)
def Te(enc:α->ag)(h:∀a,(enc a).ids=[])(l:AM α):(pk enc l).flatMap ag.ids=[]:=by
 unfold pk;rw[List.flatMap_map];exact mC.2 fun p _=>h p.2
def LK(enc:α->ag)(h:∀a,(enc a).flat=true)(l:AM α):(pk enc l).all ag.flat=true:=bK.2 fun x hx=>by
 obtain⟨p,_,rfl⟩:=eJ.1 hx;exact h p.2
def Xv(enc:α->ag)(ρ:Nat->Nat)(h:∀a,(enc a).pv ρ=enc a)(l:AM α):(pk enc l).map (ag.pv ρ)=pk enc l:=by
 unfold pk;rw[gI];exact cT (fun p _=>h p.2)
def NN(o:Option Bool):pt (.bool false) false (o.map ag.bool) = .bool (o.getD false):=by cases o<;>rfl
end
def mL(ae:List Node):Nat->Int->Int×AM Bool->Int×AM Bool
 |0,_,s=>s
 |f+1,ar,s=>(bl ae ar).bc.foldl (fun s e=>if !((eZ s.2 e.ar).getD false) then mL ae f e.ar (s.1,kS s.2 e.ar true) else s) (nw (s.1+(bl ae ar).data.length),s.2)
def vW:ag := .func 247 [.ptr 0 0,.ptr 1 0,.ptr 2 0,.ptr 3 0]
def jJ(t:Tree)(s:Int×AM Bool):aC:=[.cells (aM t),.cells [.int .i64 s.1],.cells [.iy 4],.cells [vW],.map (B9 s.2) (pk ag.bool s.2)]
def flB(l:AM Bool):(pk ag.bool l).all ag.flat=true:=LK _ (fun _=>rfl) l
def rnB(ρ:Nat->Nat)(l:AM Bool):(pk ag.bool l).map (ag.pv ρ)=pk ag.bool l:=Xv _ _ (fun _=>rfl) l
def idB(l:AM Bool):(pk ag.bool l).flatMap ag.ids=[]:=Te _ (fun _=>rfl) l
def bkB(B:Nat)(M:aC)(l:AM Bool):List.map (ag.j4 B M) (pk ag.bool l)=pk ag.bool l:=Y8 _ _ _ (fun _=>rfl) l
def Kc(t:Tree)(s:Int×AM Bool):(jJ t s).map (cV.pv (iw [0,1,2,3,4]))=jJ t s/\(jJ t s).map (cV.pv (wC [0,1,2,3,4]))=jJ t s:=by
 constructor
 ·simp only[jJ,aK,aV,cV.pv,rnB]; rfl
 ·simp only[jJ,aK,aV,cV.pv,rnB]; rfl
def aot(t:Tree)(s:Int×AM Bool)(L:aC):j7 (jJ t s++L) (iw [0,1,2,3,4]) [0,1,2,3,4]=some (jJ t s):=by
 have h:=(Kc t s).1;simp only[jJ,aK,aV] at h;injection h with h0 h; injection h with h1 h; injection h with h2 h; injection h with h3 h; injection h with h4 h
 simp only[jJ,aG,aP,j7,nth,h0,h1,h2,h3,h4];simp only[cV.flat,flB,aF];rfl
def asW(t:Tree)(s:Int×AM Bool)(L:aC):qy (jJ t s++L) [0,1,2,3]=[4,0,1,2,3]/\qy (jJ t s++L) [0,1,2,3,4]=[4,0,1,2,3]:=by
 refine⟨rfl,?_⟩
 show[4,0,1,2,3]++((pk ag.bool s.2).flatMap ag.ids++[])=_
 rw[idB]; rfl
def Xr(t:Tree)(s:Int×AM Bool)(L:aC):reach (jJ t s++L) [0,1,2,3]=[0,1,2,3,4]/\kE (jJ t s++L) [0,1,2,3,4]=[0,1,2,3,4]:=by
 obtain⟨h1,h2⟩:=asW t s L;have e0:ke [] [0,1,2,3]=[0,1,2,3]:=rfl;have e1:ke [0,1,2,3] [4,0,1,2,3]=[0,1,2,3,4]:=rfl;have e2:ke [0,1,2,3,4] [4,0,1,2,3]=[0,1,2,3,4]:=rfl;simp only[reach,kE,e0,h1,e1,h2,e2,jw]
def aiI(t:Tree)(s s':Int×AM Bool)(L:aC):mc [0,1,2,3,4] (jJ t s++L) [0,1,2,3,4] (jJ t s')=jJ t s'++L:=by
 have h:=(Kc t s').2;simp only[jJ,aK,aV] at h;injection h with h0 h; injection h with h1 h; injection h with h2 h; injection h with h3 h; injection h with h4 h
 simp only[jJ,aG,aP,mc,h0,h1,h2,h3,h4,jo]
def acF(t:Tree)(s:Int×AM Bool):(jJ t s).all cV.flat=true:=by
 simp only[jJ,kN,cV.flat,flB]; rfl
def alI{t:Tree}{ar:Int}{s s':Int×AM Bool}{L:aC}(h:aq bX 247 [aD ar,cC 0,cC 1,cC 2,cC 3] (jJ t s)=some (.tuple [],jJ t s')) :
  aR (aq bX) 247 [aD ar,cC 0,cC 1,cC 2,cC 3] (jJ t s++L)=some (.tuple [],jJ t s'++L) :=
 lk (ids:=[0,1,2,3,4]) rfl (Xr t s L).1 (aot t s L) (Xr t s L).2 rfl h rfl rfl (acF t s') rfl (aiI t s s' L)
def yM(t:Tree)(s:Int×AM Bool)(n:Node):aC:=[.cells [ba t.ae,.int .i64 t.next,.int .i64 t.ak],.map (B9 s.2) (pk ag.bool s.2),.cells [.iy 1],.cells [.int .i64 s.1],.cells [.func 247 [.ptr 0 0,.ptr 3 0,.ptr 2 0,.ptr 4 0]],.cells (aL n)]
def afu{t:Tree}{ar:Int}{s':Int×AM Bool}(n:Node)(h:aq bX 247 [aD ar,cC 0,cC 1,cC 2,cC 3] (jJ t (0,[]))=some (.tuple [],jJ t s')) :
  aR (aq bX) 247 [aD ar,cC 0,cC 3,cC 2,cC 4] (yM t (0,[]) n)=some (.tuple [],yM t s' n):=by
 have i1:qy (yM t (0,[]) n) [0,3,2,4]=[1,0,3,2,4]:=rfl;have i2:qy (yM t (0,[]) n) [0,3,2,4,1]=[1,0,3,2,4]:=rfl;have e0:ke [] [0,3,2,4]=[0,3,2,4]:=rfl;have e1:ke [0,3,2,4] [1,0,3,2,4]=[0,3,2,4,1]:=rfl;have e2:ke [0,3,2,4,1] [1,0,3,2,4]=[0,3,2,4,1]:=rfl
 have hr:reach (yM t (0,[]) n) [0,3,2,4]=[0,3,2,4,1]/\kE (yM t (0,[]) n) [0,3,2,4,1]=[0,3,2,4,1]:=by
  simp only[reach,kE,e0,i1,e1,i2,e2,jw]
 have hp:j7 (yM t (0,[]) n) (iw [0,3,2,4,1]) [0,3,2,4,1]=some (jJ t (0,[])):=by
  simp only[yM,j7,nth,cV.flat,flB,bN,aF,cV.pv,rnB];rfl
 refine lk (ids:=[0,3,2,4,1]) rfl hr.1 hp hr.2 rfl h rfl rfl (acF t s') rfl ?_;simp only[jJ,yM,mc,cV.pv,rnB,jo];rfl
section
attribute [local irreducible] eS fI lx gK dZ kr aq aR cu bJ
def aa3{t:Tree}{n:Node}{f:Nat}{k:List K}{R:Int×AM Bool->Option (ag×aC)}(hn:n.bc.length<=100000)
  (ih:∀e,e∈n.bc->∀s,aq bX 247 [aD e.ar,cC 0,cC 1,cC 2,cC 3] (jJ t s)=some (.tuple [],jJ t (mL t.ae f e.ar s)))
  (hx:∀s e,kr (aq bX) [] 5 k ⟨.exit 0,e,jJ t s++[cF (aL n)]⟩=R s) :
  ∀(l pre:List gN)(s:Int×AM Bool),n.bc=pre++l->eS (aq bX) [] 5 k (.loop [3,4,22,23,24] aaE) [(3,cC 2),(4,cC 3),(22,ja n.bc),(23,aD n.bc.length),(24,aD pre.length)] (jJ t s++[cF (aL n)]) =
   R (l.foldl (fun s e=>if !((eZ s.2 e.ar).getD false) then mL t.ae f e.ar (s.1,kS s.2 e.ar true) else s) s):=by
 intro l;induction l with
 |nil =>
  intro pre s h;rw[bI];simp only[jJ,OJ,jP h,na,EW,seval] at hx ⊢;exact hx _ _
 |cons x rest ihl =>
  intro pre s h;rw[bI];have dN:pre.length+1<=100000:=by rw[h] at hn; simp at hn; omega
  have hw:=zB pre x;rw[eK];have hi1:=fun s=>ihl (pre++[x]) s (by rw[h]; simp)
  have q:=alI (L:=[cF (aL n),cF (gj x)]) (ih x (by rw[h]; simp) (s.1,kS s.2 x.ar true))
  generalize mL t.ae f x.ar (s.1,kS s.2 x.ar true)=s' at q ⊢;simp only[jJ,vW,aL,gj,aA,au,az,aI,aG,aP] at hi1 q;simp only[jJ,vW,OJ,iP h,gQ h,aL,gj,pd,NN,mapOf.eq_1,EW,seval];refine bB (fun hb=>?_) (fun hb=>?_)
  ·simp only[OJ,hb,hw,sI,q,b0T,bkB,↓reduceIte,EW,seval];exact hi1 _
  ·simp only[OJ,hb,hw,b0T,bkB,af,EW,seval];exact hi1 _
def asf{t:Tree}{dJ:Int->Nat}(h:dY t dJ 0):∀(f:Nat)(ar:Int)(s:Int×AM Bool),(∀n,find t.ae ar=some n->n.kind=2->13<f+dJ ar)->0<f ->
  aq bX 247 [aD ar,cC 0,cC 1,cC 2,cC 3] (jJ t s)=some (.tuple [],jJ t (mL t.ae f ar s)):=by
 intro f;induction f with
 |zero=>intro ar s _ h0; omega
 |succ f ih =>
  intro ar s hd _;have q1:=Fl t ar h.sz.HR h.lL
  have hl:=aa3 (t:=t) (n:=bl t.ae ar) (f:=f) (k:=[.block 0]) (R:=fun s=>some (.tuple [],jJ t s)) (by
    cases hi:find t.ae ar with
    |none=>simp[bl,hi,Node.zero]
    |some n=>have:=(h.yv _ _ hi).2; simp only[bl,hi,bC]; omega) ?_ (fun s e=>by simp only[jJ,vW,OJ,aL,b0T,bkB,EW,seval]) (bl t.ae ar).bc [] (nw (s.1+(bl t.ae ar).data.length),s.2) rfl
  ·refine aB ?_;rw[mL];simp only[jJ,vW,aL,aG,aP,az] at hl q1;simp only[adW,OJ,jJ,vW,aM,aL,q1,EW,seval];exact hl
  ·intro e he s;cases hi:find t.ae ar with
   |none=>simp[bl,hi,Node.zero] at he
   |some n =>
    simp only[bl,hi,bC] at he
    have hk:n.kind=2:=by
     rcases h.kind _ _ hi with h1|h1
     ·rw[(h.file _ _ hi h1).1] at he; cases he
     ·exact h1
    have h1:=hd n hi hk;have h2:=(h.deep _ _ hi hk).1;obtain⟨_,_,e1,_,m,hm,hu⟩:=h.CO _ _ _ hi he;refine ih e.ar s (fun n' hn' hk'=>?_) aH
    rw[hm] at hn'; cases hn';have:=(h.qK _ _ hm hk' e1).1;rw[hu hk'] at this;omega
def lq(ae:List Node)(ar:Int):Int×Int :=
 if (find ae ar).isSome&&(bl ae ar).kind==2 then (((mL ae 14 ar (0,[])).2.length:Int),(mL ae 14 ar (0,[])).1) else (0,0)
def c193{t:Tree}(h:Rt t)(ar:Int):aq bX 193 [br t,aD ar] []=some (.tuple [aD (lq t.ae ar).1,aD (lq t.ae ar).2],[]):=by
 obtain⟨dJ,h⟩:=h;refine aB ?_;have q1:=Fl t ar h.sz.HR h.lL;have q2:=asf h 14 ar (0,[]) (fun n hn hk=>aH) aH
 unfold lq;generalize mL t.ae 14 ar (0,[])=s' at q2 ⊢;simp only[aL] at q1;simp only[adr,Rk,br,aM,q1,aL,EW,seval];refine bW (fun hb=>?_) (fun hb=>?_)
 ·simp only[hb,Rk,EW,seval];refine bB (fun hc=>?_) (fun hc=>?_)
  ·have q3:=afu (bl t.ae ar) q2;simp only[yM,aL,B9,pk,aV] at q3;simp only[hb,hc,q3,Rk,mapOf.eq_1,EW,seval]
  ·simp only[hb,hc,Rk,mapOf.eq_1,dR,af,EW,seval]
 ·simp only[hb,Rk,mapOf.eq_1,cK,af,EW,seval]
def age{t:Tree}(h:Rt t)(ar:Int)(M:aC):aR (aq bX) 193 [.agg [ba t.ae,aD t.next,aD t.ak],aD ar] M=some (.tuple [aD (lq t.ae ar).1,aD (lq t.ae ar).2],M) :=
 cO (c193 h ar) M
end
section
def aia(l:List dV)(o:Int)(b:cV):j7 [cF [cY l],cF [aD o],b] (iw [0,1]) [0,1]=some [cF [cY l],cF [aD o]]:=rfl
def aib(l:List dV)(o:Int)(b:cV):j7 [b,cF [cY l],cF [aD o]] (iw [1,2]) [1,2]=some [cF [cY l],cF [aD o]]:=rfl
attribute [local irreducible] eS fI lx gK dZ kr aq aR cu bJ
abbrev pA(l:List dV):Prop:=l.Pairwise fun a b=>a.ar<b.ar
def wQ(l:List dV)(ar:Int):Nat:=mj (fun x=>decide (qR x.ar ar<0)) l
def Gc(l:List dV)(ar:Int):Bool:=pr (fun x=>qR x.ar ar==0) l (wQ l ar)
def yf{l:List dV}(h:pA l)(ar:Int):Yh (fun x=>decide (qR x.ar ar<0)) l (wQ l ar):=by
 refine HA (h.imp ?_);intro a b hab hb;simp only[bh,x6] at hb ⊢;omega
def ar1(l:List dV)(ar:Int)(h:pA l)(hn:l.length<=100000):aq bX 226 [cY l,aD ar] []=some (.tuple [aD (wQ l ar),.bool (Gc l ar)],[]):=by
 refine aB ?_;have q:=fun M=>cO (asv l ar _ (yf h ar) hn) M
 simp only[adO,apD,q,Gc,EW,seval]
def ano l ar h hn:=cP (ar1 l ar h hn)
def asB(l:List dV)(dir o:Int)(h:pA l)(hn:l.length<=100000):aq bX 285 [aD dir,cC 0,cC 1] [cF [cY l],cF [aD o]] =
  some (.bool ((if Gc l dir then dir else o)==0),[cF [cY l],cF [aD (if Gc l dir then dir else o)]]):=by
 refine aB ?_;have q:=ano l dir h hn;simp only[aeb,aeU,q,EW,seval];refine bB (fun hb=>?_) (fun hb=>?_)
 ·simp only[aeU,hb,aF,EW,seval]
 ·simp only[aeU,hb,af,aE,EW,seval]
def sE(ae:List Node)(l:List dV):Nat->Int->Int
 |0,_=>0
 |f+1,dir=>if Gc l dir then dir else if dir != 1 then sE ae l f (bl ae dir).up else 0
def aa6{t:Tree}{dJ:Int->Nat}(ht:dY t dJ 0){l:List dV}(hq:pA l)(hn:l.length<=100000){k:List K}{R:Int->Option (ag×aC)}
  (hx:∀o e,kr (aq bX) [] 2 k ⟨.exit 0,e,[cF [cY l],cF [aD o],cF (aM t)]⟩=R o) :
  ∀(f:Nat)(dir:Int)(n:Node),find t.ae dir=some n->n.kind=2->dJ dir<f->eS (aq bX) [] 2 k (.loop [1,2,3] aaH) [(1,aD dir),(2,.func 285 [cC 0,cC 1]),(3,cC 2)] [cF [cY l],cF [aD 0],cF (aM t)] =
   R (sE t.ae l f dir):=by
 intro f;induction f with
 |zero=>intro dir n _ _ h; omega
 |succ f ih =>
  intro dir n hi hk hd;rw[bI,sE]
  have q0:aR (aq bX) 285 [aD dir,cC 0,cC 1] [cF [cY l],cF [aD 0],cF (aM t)] =
    some (.bool ((if Gc l dir then dir else 0)==0),[cF [cY l],cF [aD (if Gc l dir then dir else 0)],cF (aM t)]) :=
   lk (ids:=[0,1]) rfl rfl (aia l 0 _) rfl rfl (asB l dir 0 hq hn) rfl rfl rfl rfl rfl
  have q1:=Fl t dir ht.sz.HR ht.lL;have hd1:=(ht.num _ _ hi).1;simp only[aL,aM] at q0 q1 hx;simp only[OM,q0,aM,EW,seval];cases hb:Gc l dir
  ·simp only[hb,af,aE]
   by_cases h1:dir=1
   ·subst h1;simp only[OM,aw,af,aE,EW,seval];exact hx _ _
   ·have h1':(dir != 1)=true:=by simpa using h1
    obtain⟨g1,p,g2,g3⟩:=ht.qK _ _ hi hk h1;have hi':=ih n.up p g2 g3 aH;simp only[aM] at hi';simp only[bl,hi,bC] at q1 ⊢;simp only[OM,h1',q1,aL,EW,seval];exact hi'
  ·simp only[hb,aF];have h0:(dir==0)=false:=gr;simp only[h0,OM,EW,seval];exact hx _ _
def asA{t:Tree}{dJ:Int->Nat}(ht:dY t dJ 0){l:List dV}(hq:pA l)(hn:l.length<=100000){dir:Int}{n:Node}(hi:find t.ae dir=some n)(hk:n.kind=2) :
  aq bX 284 [br t,aD dir,.func 285 [cC 0,cC 1]] [cF [cY l],cF [aD 0]]=some (.tuple [],[cF [cY l],cF [aD (sE t.ae l 13 dir)]]):=by
 refine aB ?_;have hl:=aa6 ht hq hn (k:=[.block 0]) (R:=fun o=>some (.tuple [],[cF [cY l],cF [aD o]])) (fun o e=>by simp only[OM,aM,EW,seval]) 13 dir n hi hk (by have:=(ht.deep _ _ hi hk).1; omega)
 simp only[aM] at hl;simp only[aea,OM,br,aM,EW,seval];exact hl
def mg(ae:List Node)(l:List dV)(dir:Int):Int:=sE ae l 13 dir
def ase{t:Tree}{dJ:Int->Nat}(ht:dY t dJ 0){l:List dV}(hq:pA l)(hn:l.length<=100000){dir:Int}{n:Node}(hi:find t.ae dir=some n)(hk:n.kind=2) :
  aq bX 246 [br t,cY l,aD dir] []=some (aD (mg t.ae l dir),[]):=by
 refine aB ?_
 have q:aR (aq bX) 284 [.agg (aM t),aD dir,.func 285 [cC 1,cC 2]] [cF (aM t),cF [cY l],cF [aD 0]] =
   some (.tuple [],[cF (aM t),cF [cY l],cF [aD (sE t.ae l 13 dir)]]) :=
  lk (ids:=[1,2]) rfl rfl (aib l 0 _) rfl rfl (asA ht hq hn hi hk) rfl rfl rfl rfl rfl
 simp only[aM] at q;simp only[adV,apI,br,aM,q,mg,EW,seval]
def atH{t:Tree}{dJ:Int->Nat}(ht:dY t dJ 0){l:List dV}(hq:pA l)(hn:l.length<=100000){dir:Int}{n:Node}(hi:find t.ae dir=some n)(hk:n.kind=2)(M:aC) :
  aR (aq bX) 246 [.agg [ba t.ae,aD t.next,aD t.ak],cY l,aD dir] M=some (aD (mg t.ae l dir),M):=cO (ase ht hq hn hi hk) M
def vo(t:Tree)(l:List dV)(ar ae bytes:Int):List dV×Int :=
 if !(find t.ae ar).isSome then (l,70)
 else if (bl t.ae ar).kind != 2 then (l,73)
 else if decide (ae<0) then (if Gc l ar then l.eraseIdx (wQ l ar) else l,0)
 else if decide ((lq t.ae ar).1>ae)||decide ((lq t.ae ar).2>bytes) then (l,90)
 else if Gc l ar then (l.set (wQ l ar) ⟨ar,ae,bytes⟩,0)
 else if decide ((l.length:Int)>=16) then (l,76)
 else (l.take (wQ l ar)++⟨ar,ae,bytes⟩::l.drop (wQ l ar),0)
def arb(t:Tree)(l:List dV)(ar ae bytes:Int)(ht:Rt t)(hq:pA l)(hn:l.length<=16):aq bX 162 [br t,cY l,aD ar,aD ae,aD bytes] []=some (.tuple [cY (vo t l ar ae bytes).1,aD (vo t l ar ae bytes).2],[]):=by
 refine aB ?_;have q1:=Fl t ar ht.small ht.lL;have q2:=ano l ar hq aH;have q3:=age ht ar;have hb:=(yf hq ar).le
 have cQ:Gc l ar=true->wQ l ar<l.length:=by
  intro h;unfold Gc pr at h;split at h
  ·rename_i x hx; exact(aj.1 hx).1
  ·cases h
 unfold vo;generalize lq t.ae ar=u at q3 ⊢;generalize wQ l ar=b at q2 hb cQ ⊢;generalize Gc l ar=e at q2 cQ ⊢;simp only[aL] at q1
 by_cases h0:l=[]
 ·have hb0:b=0:=by subst h0; simpa using hb
  have he:e=false:=by
   cases e
   ·rfl
   ·have:=cQ rfl; subst h0; simp at this
  subst he;have p1:=fun M=>DR gF (f:=189) (sz:=3) (bytes:=24) rfl h0 M
  have p2:=fun M=>FW (f:=228) (sz:=3) (bytes:=24) rfl hb0 (.agg [aD ar,aD ae,aD bytes]) rfl M
  simp only[Jg,OG,br,aM,q1,q2,q3,aL,EW,seval]
  repeat' ((first|apply bB|apply bW|apply dM)<;>intro hb<;>simp only[hb,EW,OG,q1,q2,q3,p1,p2,aL,seval])
  all_goals clear q1 q2 q3 p1 p2
  all_goals first|rfl|(simp_all only[qC,↓reduceIte,reduceCtorEq,aw]; done)|(simp_all only[qC,↓reduceIte,reduceCtorEq,aw]; rfl)
 ·have hb0:=hb;have p1:=fun M=>CZ gF (f:=189) (sz:=3) (bytes:=24) rfl (fun _=>rfl) aH h0 aH M
  have p2:=fun M=>Jp gF (f:=228) (sz:=3) (bytes:=24) (v:=0) (id:=3) rfl aH hb aH (.agg [aD ar,aD ae,aD bytes]) rfl M
  cases he:e
  ·subst he;simp only[Jg,OG,br,aM,q1,q2,q3,aL,EW,seval]
   repeat' ((first|apply bB|apply bW|apply dM)<;>intro hb<;>simp only[hb,EW,OG,q1,q2,q3,p1,p2,aL,seval])
   all_goals clear q1 q2 q3 p1 p2
   all_goals first|rfl|(simp_all only[qC,↓reduceIte,reduceCtorEq,aw]; done)|(simp_all only[qC,↓reduceIte,reduceCtorEq,aw]; rfl)|(simp_all only[qC,↓reduceIte,reduceCtorEq,aw]; exact congrArg (fun z=>some (ag.tuple [ag.slice .sh z,aD 0],([]:aC))) (NC gF hb0 ⟨ar,ae,bytes⟩))
  ·subst he;have p3:=fun M=>FV gF (f:=227) (sz:=3) (v:=0) (id:=2) rfl (cQ rfl) aH M
   have hbl:=cQ rfl;have hx:=ai hbl;generalize l[b]=x at hx;have h1:((b:Int)<((l.length-0:Nat):Int))=True:=gr
   have hs:jo (l.map gF) b (putCells (gF x) 0 [aD ar,aD ae,aD bytes])=(l.set b ⟨ar,ae,bytes⟩).map gF:=by
    rw[fH,jg]; rfl
   have ht2:List.take l.length ((l.set b ⟨ar,ae,bytes⟩).map gF)=(l.set b ⟨ar,ae,bytes⟩).map gF:=bt dw;have hw:IntKind.i64.wrap ((b:Int)+1)=((b+1:Nat):Int):=by have:=cQ rfl; rw[gx aH aH]; rfl
   simp only[Jg,OG,br,aM,q1,q2,q3,hw,aL,EW,seval]
   repeat' ((first|apply bB|apply bW|apply dM)<;>intro hb<;>simp only[hb,EW,OG,q1,q2,q3,p1,p2,p3,hw,h1,hx,hs,ht2,aL,seval])
   all_goals clear q1 q2 q3 p1 p2 p3
   all_goals first|rfl|(simp_all only[qC,↓reduceIte,reduceCtorEq,aw]; done)|(simp_all only[qC,↓reduceIte,reduceCtorEq,aw]; rfl)
end
section
attribute [local irreducible] eS fI lx gK dZ kr aq aR cu bJ
def wP{α:Type}(key:α->Int)(l:List α)(k:Int):Nat:=mj (fun x=>decide (qR (key x) k<0)) l
def Ym{α:Type}(key:α->Int)(l:List α)(k:Int):Bool:=pr (fun x=>qR (key x) k==0) l (wP key l k)
def NS{α:Type}{key:α->Int}{l:List α}(h:l.Pairwise fun a b=>key a<key b)(k:Int):Yh (fun x=>decide (qR (key x) k<0)) l (wP key l k):=by
 refine HA (h.imp ?_);intro a b hab hb;simp[x6] at hb ⊢;omega
theorem RJ{α:Type}{key:α->Int}{l:List α}(h:l.Pairwise fun a b=>key a<key b)(k:Int) :
  (Ym key l k=true/\∃n,l[wP key l k]?=some n/\key n=k/\l.find? (fun x=>key x==k)=some n)\/(Ym key l k=false/\l.find? (fun x=>key x==k)=none):=by
 obtain⟨l1,l2⟩:=NS h k;simp only[bh,x6] at l2;cases hf:l.find? (fun x=>key x==k) with
 |some n =>
  left;have hm:=iz hf;have he:key n=k:=jO;obtain⟨i,hi⟩:=bV hm;have hib:¬i<wP key l k:=fun hc=>by have:=(l2 i n hi).2 hc; omega
  have hb:wP key l k<l.length:=by have:=(aj.1 hi).1; omega
  have hx:=ai hb
  have hie:i=wP key l k:=by
   grind [Nat.lt_or_ge,wP,List.pairwise_iff_getElem,absurd]
  subst hie;exact⟨by simp_all [Ym,pr,Ha],n,hi,he,rfl⟩
 |none =>
  right;refine⟨?_,rfl⟩
  grind [Ym,pr,List.find?_eq_none,List.mem_of_getElem?,qR,Ha]
theorem arX(x y:Node)(hx:x.bc.length<=100000):aq bX 222 [.agg (aL x),.agg (aL y)] []=some (.bool (decide (x=y)),[]):=by
 have hd:decide (x=y)=(x.ar==y.ar&&(x.kind==y.kind&&(x.eG==y.eG&&(x.up==y.up&&(x.data==y.data&&decide (x.bc=y.bc)))))):=by
  obtain⟨a,b,c,d,e,f⟩:=x;obtain⟨a',b',c',d',e',f'⟩:=y
  grind
 refine aB ?_;have q:=fun M=>cO (alm x.bc y.bc hx) M
 rw[hd];simp only[adK,apB,bL,aL,EW,seval]
 repeat' ((first|apply bB|apply bW|apply dM)<;>intro hb<;>simp only[hb,EW,q,vz,seval])
 all_goals (rfl)
def anm x y hx:=cP (arX x y hx)
def YV(ae:List Node)(ar:Int):Int:=if Ym Node.ar ae ar then (wP Node.ar ae ar:Int) else -1
def arW(ae:List Node)(ar:Int)(h:o6 ae)(hn:ae.length<=100000):aq bX 221 [ba ae,aD ar] []=some (aD (YV ae ar),[]):=by
 refine aB ?_;have q  := fun M=>cO (alD ae ar _ (NS h ar) hn) M
 simp only[adJ,aeP,q,YV,EW,seval];refine bB (fun hb=>?_) (fun hb=>?_)
 ·simp_all [Ym,aeP,EW]
 simp_all [Ym,aeP,EW]
def anl(ae:List Node)(ar:Int)(h:o6 ae)(hn:ae.length<=100000)(M:aC):aR (aq bX) 221 [ba ae,aD ar] M=some (aD (YV ae ar),M):=cO (arW _ _ h hn) M
def xJ(l:List mR)(a b:Int):Bool:=l.any (zq a b)
def arY(l:List mR)(a b:Int)(hn:l.length<=100000):aq bX 223 [kB l,aD a,aD b] []=some (.bool (xJ l a b),[]):=by
 refine aB ?_
 have q:aR (aq bX) 265 [kB l,.func 266 [cC 0,cC 1]] _=some (.bool (xJ l a b),[cF [aD a],cF [aD b]]) :=
  lk (ids:=[0,1]) rfl rfl (Mr a b) rfl rfl (alF l a b hn) rfl rfl rfl rfl rfl
 simp only[adL,apC,q,EW,seval]
def ann l a b hn:=cP (arY l a b hn)
def k56(a b:Tree)(ha:Small a)(M:aC):aR (aq bX) 56 [.agg [ba a.ae,aD a.next,aD a.ak],.agg [ba b.ae,aD b.next,aD b.ak]] M=some (.bool (decide (a=b)),M):=cO (c56 a b ha) M
def lR(t:Tree)(dW:List mR)(tick:Int):List Node->List Int->List py
 |n::r,x::y=>(if (decide (YV t.ae n.ar<0) || !decide (n=bl t.ae n.ar))&&xJ dW x tick then [⟨x,tick,n⟩] else [])++lR t dW tick r y
 |_,_=>[]
def rL(s:iQ)(tick:Int)(n:Node):Int :=
 if decide (0<=YV s.now.ae n.ar)&&decide (n=bl s.now.ae n.ar) then s.since.getD (wP Node.ar s.now.ae n.ar) 0 else tick
def qz(s:iQ)(t:Tree):iQ:=if decide (s.now=t) then s else
 ⟨t,nw (s.tick+1),t.ae.map (rL s (nw (s.tick+1))),s.eR++lR t s.dW (nw (s.tick+1)) s.now.ae s.since,s.dW,s.next⟩
def CW{ae:List Node}(h:o6 ae)(ar:Int) :
  (Ym Node.ar ae ar=true/\YV ae ar=(wP Node.ar ae ar:Int)/\ae[wP Node.ar ae ar]?=some (bl ae ar)/\find ae ar=some (bl ae ar))\/(Ym Node.ar ae ar=false/\YV ae ar = -1/\find ae ar=none):=by
 rcases RJ h ar with ⟨h1,n,h2,_,h4⟩|⟨h1,h2⟩<;>simp_all [find,bl,YV]
def yw(s:iQ)(t:Tree)(P:List py)(S:List Int):aC :=
 [.cells (bM s),.cells (aM t),.cells [.slice .c0 [],.int .i64 0,.int .i64 0,.int .i64 0,.slice .c0 [],.slice .c0 [],.slice .c0 [],.int .i64 0],.tick 8 P.length,
  .cells [ba t.ae,.int .i64 t.next,.int .i64 t.ak,.int .i64 (nw (s.tick+1)),.slice (.own 5) (S.map mS),.slice (.own 3) (P.map ma),kB s.dW,.int .i64 s.next],.tick 1 S.length]
theorem Wi{s:iQ}{t:Tree}(hs:rU s.now)(hz:Sz 200 s.now)(ht:rU t)(hzt:Sz 200 t)(hk:s.dW.length<=100000)(hl:s.since.length=s.now.ae.length){k:List K}{R:List py->Option (ag×aC)}
  (hx:∀P e,kr (aq bX) [.dQ 4 8] 0 k ⟨.exit 0,(2,cC 0)::(3,cC 1)::(4,cC 2)::(5,cC 4)::e,yw s t P []⟩=R P) :
  ∀(l pre:List Node)(y ypre:List Int)(P:List py),s.now.ae=pre++l->s.since=ypre++y->ypre.length=pre.length->P.length<=100000+pre.length ->
   eS (aq bX) [.dQ 4 8] 0 k (.loop [2,3,4,5,32,33,34] aak) [(2,cC 0),(3,cC 1),(4,cC 2),(5,cC 4),(32,ba s.now.ae),(33,aD s.now.ae.length),(34,aD pre.length)] (yw s t P []) =
   R (P++lR t s.dW (nw (s.tick+1)) l y):=by
 intro l;induction l with
 |nil =>
  intro pre y ypre P h hy hyl hP;rw[bI];have hy0:y=[]:=by have:=congrArg List.length h; have h2:=congrArg List.length hy; simp_all
  subst hy0;simp only[yw,GZ,jP h,lR,EW,seval] at hx ⊢;exact hx _ _
 |cons n rest ih =>
  intro pre y ypre P h hy hyl hP;rw[bI];have hn200:=hz.ae;have dN:pre.length+1<=200:=by rw[h] at hn200; grind
  have hw:=zB pre n;cases y with
  |nil=>have h1:=congrArg List.length h; have h2:=congrArg List.length hy; simp at h1 h2; omega
  |cons x y =>
   have hxa:s.since[pre.length]?=some x:=by rw[hy,<-hyl]; simp
   have hi1:=ih (pre++[n]) y (ypre++[x]) P (by rw[h]; simp) (by rw[hy]; simp) (by simp[hyl]) gr
   have hi2:=ih (pre++[n]) y (ypre++[x]) (P++[⟨x,nw (s.tick+1),n⟩]) (by rw[h]; simp) (by rw[hy]; simp) (by simp[hyl]) gr
   have q1:=anl t.ae n.ar ht.ml (by have:=hzt.ae; omega)
   have q2:=anm n (bl t.ae n.ar) (by have:=hz.bc n (by rw[h]; simp); omega)
   have q3:=ann s.dW x (nw (s.tick+1)) hk;have r1:cB (P.length+1) 96=True:=qV;rw[lR];simp only[yw,aL,aM,bM,aA,au,az,aI,aW,aK,aV] at hi1 hi2 q1 q2 q3;rcases CW ht.ml n.ar with ⟨_,a2,a3,a4⟩|⟨_,a2,a4⟩
   ·have ha0:((wP Node.ar t.ae n.ar:Int)<0)=False:=dw;generalize decide (n=bl t.ae n.ar)=e1 at q2 ⊢;generalize xJ s.dW x (nw (s.tick+1))=e2 at q3 ⊢;cases e1<;>cases e2<;>simp only[yw,GZ,iP h,gQ h,aL,aM,bM,q1,q2,q3,a2,a3,ha0,hxa,hw,r1,EW,seval]
    ·simpa using hi1
    ·simpa[ma,mJ,aL] using hi2
    ·simpa using hi1
    ·simpa using hi1
   ·have ha0:((-1:Int)<0)=True:=dw;generalize decide (n=bl t.ae n.ar)=e1 at q2 ⊢;generalize xJ s.dW x (nw (s.tick+1))=e2 at q3 ⊢;cases e2<;>simp only[yw,GZ,iP h,gQ h,aL,aM,bM,q1,q3,a2,ha0,hxa,hw,r1,EW,seval]
    ·simpa using hi1
    ·simpa[ma,mJ,aL] using hi2
def Wj{s:iQ}{t:Tree}(hs:rU s.now)(hz:Sz 200 s.now)(hzt:Sz 200 t)(hl:s.since.length=s.now.ae.length)(P:List py){k:List K}{R:List Int->Option (ag×aC)}
  (hx:∀S e,kr (aq bX) [.dQ 4 8] 0 k ⟨.exit 2,(2,cC 0)::(4,cC 2)::(5,cC 4)::e,yw s t P S⟩=R S) :
  ∀(l pre:List Node)(S:List Int),t.ae=pre++l->S.length<=100000+pre.length ->
   eS (aq bX) [.dQ 4 8] 0 k (.loop [2,4,5,84,85,86] aal) [(2,cC 0),(4,cC 2),(5,cC 4),(84,ba t.ae),(85,aD t.ae.length),(86,aD pre.length)] (yw s t P S) =
   R (S++l.map (rL s (nw (s.tick+1)))):=by
 intro l;induction l with
 |nil =>
  intro pre S h hS;rw[bI];simp only[yw,GZ,jP h,EW,seval] at hx ⊢;exact hx _ _
 |cons n rest ih =>
  intro pre S h hS;rw[bI];have hn200:=hzt.ae;have dN:pre.length+1<=200:=by rw[h] at hn200; simp at hn200; omega
  have hw:=zB pre n;have hi1:=ih (pre++[n]) (S++[rL s (nw (s.tick+1)) n]) (by rw[h]; simp) gr
  have q1:=anl s.now.ae n.ar hs.ml (by have:=hz.ae; omega)
  have q2:=anm n (bl s.now.ae n.ar) (by have:=hzt.bc n (by rw[h]; simp); omega)
  have r1:cB (S.length+1) 8=True:=qV;rw[aK];unfold rL at hi1 ⊢;simp only[yw,aL,aM,bM,aA,au,az,aI,aW,aK,aV] at hi1 q1 q2;rcases CW hs.ml n.ar with ⟨_,a2,a3,a4⟩|⟨_,a2,a4⟩
  ·have ha0:(0<=(wP Node.ar s.now.ae n.ar:Int))=True:=dw;have cQ:wP Node.ar s.now.ae n.ar<s.since.length:=by rw[hl]; exact(aj.1 a3).1
   have hxa:=ai cQ;have hxd:s.since.getD (wP Node.ar s.now.ae n.ar) 0=s.since[wP Node.ar s.now.ae n.ar]:=by simp[List.getD,hxa]
   rw[hxd] at hi1 ⊢;generalize s.since[wP Node.ar s.now.ae n.ar]=x at hxa hi1 ⊢;generalize decide (n=bl s.now.ae n.ar)=e1 at q2 hi1 ⊢;rw[a2] at hi1 ⊢;cases e1<;>simp only[yw,GZ,iP h,gQ h,aL,aM,bM,q1,q2,a2,a3,ha0,hxa,hw,r1,uG,EW,seval]
   ·simpa using hi1
   ·simpa using hi1
  ·have ha0:(0<=(-1:Int))=False:=dw;rw[a2] at hi1 ⊢;simp only[yw,GZ,iP h,gQ h,aL,aM,bM,q1,q2,a2,ha0,hw,r1,uG,EW,seval];simpa using hi1
def S8{α:Type}(enc:α->ag){f sz bytes:Nat}(hp:bX.o4 f=some (sv sz bytes))(hw:∀a,(enc a).cells.length=sz)(hb:bytes<=1000){l:List α}(hn:l.length<=100000)(M:aC) :
  aq bX f [gv (l.map enc)] M=some (.slice (.own M.length) (l.map enc),M++[.tick sz l.length]):=by
 refine eP (g:=sv sz bytes) hp ?_;have hw':wid (l.map enc) sz:=by have:=pw enc sz hw l; simpa using this
 have hr:cB (l.map enc).length bytes:=by have:=tG (a:=l.length) (b:=bytes) aH aH; simpa using this
 unfold sv;simp only[];rw[fh ⟨hw',hr⟩];rw[cz]
def EG{α:Type}(enc:α->ag){f sz bytes:Nat}(hp:bX.o4 f=some (sv sz bytes))(hw:∀a,(enc a).cells.length=sz)(hb:bytes<=1000){l:List α}(hn:l.length<=100000)(M:aC) :
  BE (aq bX) f [gv (l.map enc)] M=some (.slice (.own M.length) (l.map enc),M++[.tick sz l.length]):=by
 unfold BE;rw[aZ ⟨rfl,rfl⟩,S8 enc hp hw hb hn,bN];rfl
def aq8(s:iQ)(t:Tree)(hs:rU s.now)(hz:Sz 200 s.now)(ht:rU t)(hzt:Sz 200 t)(hk:s.dW.length<=100000)(hl:s.since.length=s.now.ae.length)(hp:s.eR.length<=100000) :
  aq bX 158 [qS s,br t] []=some (qS (qz s t),[]):=by
 refine aB ?_;have q1:=k56 s.now t (hz.small aH);have p1:=fun M=>EG ma (f:=220) (sz:=8) (bytes:=96) rfl (fun _=>rfl) aH hp M
 have l2:=fun P=>Wj hs hz hzt hl P (k:=[.block 2,.seq abM]) (R:=fun S=>some (.agg [ba t.ae,aD t.next,aD t.ak,aD (nw (s.tick+1)),uU S,sX P,kB s.dW,aD s.next],[]))
  (fun S e=>by simp only[yw,bM,aM,GZ,EW,seval]) t.ae [] [] rfl dw
 have l1:=Wi hs hz ht hzt hk hl (k:=[.block 0,.seq abN]) (R:=fun P=>some (.agg [ba t.ae,aD t.next,aD t.ak,aD (nw (s.tick+1)),uU (t.ae.map (rL s (nw (s.tick+1)))),sX P,kB s.dW,aD s.next],[]))
  (fun P e=>by
   have:=l2 P;simp only[yw,bM,aM,az,aP] at this;simp only[yw,bM,aM,GZ,EW,seval];exact this) s.now.ae [] s.since [] s.eR rfl rfl rfl (by simpa using hp)
 unfold qz;generalize decide (s.now=t)=e1 at q1 ⊢;simp only[yw,bM,aM,az] at l1;cases e1<;>simp only[SJ,GZ,qS,bM,br,aM,q1,p1,or_false,EW,seval]
 exact l1
end
section
def zJ{C:eL}{f g p:Nat}{xs:List ag}{r:ag}{M:aC}{c:ag}(hM:nth M p=some (cF [c]))(h:C f [gv xs,.func g [cC 0]] [cF [c]]=some (r,[cF [c]]))(h3:r.wH=true)(h5:r.Ax (wC [p])=r)
  (h6:c.vH&&c.nG.isEmpty=true) (h8:∀ρ,c.si ρ=c:=by intro ρ; rfl):aR C f [gv xs,.func g [cC p]] M=some (r,M):=by
 simp only[bz,List.isEmpty_iff,bh] at h6;obtain⟨h6,h7⟩:=h6;have hids:[ag.slice .sh xs,.func g [cC p]].flatMap ag.ids=[p]:=rfl;have hi:qy M [p]=[]:=by simp[qy,hM,cV.ids,h7]
 have e0:kE M [p]=[p]:=by simp[kE,hi,ke]
 have e1:reach M [p]=[p]:=by
  have ea:ke [] [p]=[p]:=rfl;simp only[reach,ea,e0]
 have hfl:[ag.slice .sh xs,.func g [cC p]].all ag.flat=true:=rfl;unfold aR;rw[aZ hfl,hids,e1];have hpk:j7 M (iw [p]) [p]=some [cF [c]]:=by simp[j7,hM,cV.flat,h6,cV.pv,h8]
 rw[hpk];simp only[bN];rw[aZ e0]
 have hrn:[ag.slice .sh xs,.func g [cC p]].map (ag.pv (iw [p]))=[gv xs,.func g [cC 0]]:=by
  simp[ag.pv,ag.si,ag.uw,iw]
 rw[hrn,h];simp only[bN];rw[aZ ⟨by trivial,h3,by simp[cV.flat,h6]⟩,h5]
 simp only[mc,cV.pv,aK,aV,h8];rw[u7 hM]
attribute [local irreducible] eS fI lx gK dZ kr aq aR cu bJ
def rG(id:Int)(x:mR):Bool:=x.id != id
def vT(tk:List mR)(p:py):Bool:=xJ tk p.ku p.BR
def Ts(n:mR):(iC n).all ag.je=true:=rfl
def Xk(n:mR):(iC n).all ag.plainCell=true:=rfl
def Xj(n:py):(mJ n).all ag.plainCell=true:=rfl
def Tr(n:py):(mJ n).all ag.je=true:=rfl
def takeN(s:iQ)(ar:Int):iQ×Int×Int :=
 if !(find s.now.ae ar).isSome then (s,0,70)
 else if (bl s.now.ae ar).kind != 2 then (s,0,73)
 else if decide ((s.dW.length:Int)>=16)||decide (s.next>=1099511627776) then (s,0,76)
 else (⟨s.now,s.tick,s.since,s.eR,s.dW++[⟨s.next,ar,s.tick⟩],nw (s.next+1)⟩,s.next,0)
def arc(s:iQ)(ar:Int)(hz:Small s.now)(hs:rU s.now)(hk:s.dW.length<=16):aq bX 163 [qS s,aD ar] []=some (.tuple [qS (takeN s ar).1,aD (takeN s ar).2.1,aD (takeN s ar).2.2],[]):=by
 refine aB ?_;have q1:=Fl s.now ar hz hs;have p1:=fun M=>EG kU (f:=229) (sz:=3) (bytes:=24) rfl (fun _=>rfl) aH (l:=s.dW) aH M
 have r1:cB (s.dW.length+1) 24=True:=qV;unfold takeN;simp only[aL] at q1;simp only[SK,ai3,qS,bM,q1,aL,EW,seval]
 repeat' ((first|apply bB|apply bW|apply dM)<;>intro hb<;>simp only[hb,EW,ai3,q1,p1,r1,or_false,aL,seval])
 all_goals clear q1 p1
 all_goals first|rfl|(simp_all only[qC,↓reduceIte,reduceCtorEq,aw]; done)|(simp_all only[qC,↓reduceIte,reduceCtorEq,aw,bM]; rfl)|(simp_all only[qC,↓reduceIte,reduceCtorEq,aw,bM,kB,aW,aK,aV]; rfl)
def ati(s:iQ)(ar:Int)(hz:Small s.now)(hs:rU s.now)(hk:s.dW.length<=16)(M:aC):aR (aq bX) 163 [.agg (bM s),aD ar] M=some (.tuple [.agg (bM (takeN s ar).1),aD (takeN s ar).2.1,aD (takeN s ar).2.2],M) :=
 cO (arc s ar hz hs hk) M
def ar4(x:mR)(id:Int):aq bX 233 [kU x,cC 0] [cF [aD id]]=some (.bool (rG id x),[cF [aD id]]):=by
 refine aB ?_;simp only[rG,adP,apE,kU,iC,EW,seval]
def ar6(p:py)(tk:List mR)(hk:tk.length<=100000):aq bX 235 [ma p,cC 0] [cF [kB tk]]=some (.bool (vT tk p),[cF [kB tk]]):=by
 refine aB ?_;unfold vT;have q:=ann tk p.ku p.BR hk;simp only[adQ,apF,ma,mJ,aL,q,EW,seval]
def aa1{xs:List mR}{id:Int}  (hn:xs.length<=100000){k:List K}{R:List mR->Option (ag×aC)}
  (hx:∀(out:List mR) e,kr (aq bX) [.tmp 4] 1 k ⟨.exit 0,(1,.func 233 [cC 0])::(5,.slice (.own 1) (out.map kU))::e,[cF [aD id],.tick 3 out.length]⟩=R out) :
  ∀(l pre out:List mR),xs=pre++l->out.length<=pre.length->eS (aq bX) [.tmp 4] 1 k (.loop [1,5,8,9,10] aaC) [(1,.func 233 [cC 0]),(5,.slice (.own 1) (out.map kU)),(8,gv (xs.map kU)),(9,aD xs.length),(10,aD pre.length)] [cF [aD id],.tick 3 out.length] =
   R (out++l.filter (rG id)):=by
 intro l;induction l with
 |nil =>
  intro pre out h ho;rw[bI];simp only[YE,jP h,kO,EW,seval];exact hx _ _
 |cons n rest ih =>
  intro pre out h ho;rw[bI];have dN:pre.length+1<=100000:=by rw[h] at hn; simp at hn; omega
  have hw:=zB pre n;have hi1:=ih (pre++[n]) out (by rw[h]; simp) gr
  have hi2:=ih (pre++[n]) (out++[n]) (by rw[h]; simp) gr
  simp only[aA,au,az,aI,aW,aK,aV] at hi1 hi2;have r1:cB (out.length+1) 24=True:=qV
  have q1:∀M,nth M 0=some (cF [aD id])->aR (aq bX) 233 [.agg (iC n),cC 0] M=some (.bool ((rG id) n),M) :=
   fun M hM=>uR (f:=233) (p:=0) (vs:=[.agg (iC n)]) hM (ar4 n id) rfl rfl rfl rfl rfl rfl rfl rfl rfl
  rw[fq];generalize (rG id) n=e at q1 ⊢;cases e<;>simp only[YE,iP h,gQ h,q1,hw,r1,Ts,Tr,Xk,Xj,aF,af,aE,EW,seval]
  ·exact hi1
  ·simpa[kU] using hi2
def ar3(xs:List mR)(id:Int)  (hn:xs.length<=100000):aq bX 232 [gv (xs.map kU),.func 233 [cC 0]] [cF [aD id]]=some (gv ((xs.filter (rG id)).map kU),[cF [aD id]]):=by
 refine aB ?_;simp only[SX,YE,EW,seval];exact aa1  hn (R:=fun out=>some (gv (out.map kU),[cF [aD id]])) (fun out e=>by simp only[YE,EW,seval]) xs [] [] rfl (av _)
def aa2{xs:List py}{tk:List mR}(hk:tk.length<=100000)(hn:xs.length<=100000){k:List K}{R:List py->Option (ag×aC)}
  (hx:∀(out:List py) e,kr (aq bX) [.tmp 4] 1 k ⟨.exit 0,(1,.func 235 [cC 0])::(5,.slice (.own 1) (out.map ma))::e,[cF [kB tk],.tick 8 out.length]⟩=R out) :
  ∀(l pre out:List py),xs=pre++l->out.length<=pre.length->eS (aq bX) [.tmp 4] 1 k (.loop [1,5,8,9,10] aaD) [(1,.func 235 [cC 0]),(5,.slice (.own 1) (out.map ma)),(8,gv (xs.map ma)),(9,aD xs.length),(10,aD pre.length)] [cF [kB tk],.tick 8 out.length] =
   R (out++l.filter (vT tk)):=by
 intro l;induction l with
 |nil =>
  intro pre out h ho;rw[bI];simp only[YF,jP h,kO,EW,seval];exact hx _ _
 |cons n rest ih =>
  intro pre out h ho;rw[bI];have dN:pre.length+1<=100000:=by rw[h] at hn; simp at hn; omega
  have hw:=zB pre n;have hi1:=ih (pre++[n]) out (by rw[h]; simp) gr
  have hi2:=ih (pre++[n]) (out++[n]) (by rw[h]; simp) gr
  simp only[aA,au,az,aI,aW,aK,aV] at hi1 hi2;have r1:cB (out.length+1) 96=True:=qV
  have q1:∀M,nth M 0=some (cF [kB tk])->aR (aq bX) 235 [.agg (mJ n),cC 0] M=some (.bool ((vT tk) n),M) :=
   fun M hM=>uR (f:=235) (p:=0) (vs:=[.agg (mJ n)]) hM (ar6 n tk hk) rfl rfl rfl rfl rfl rfl rfl rfl rfl
  rw[fq];generalize (vT tk) n=e at q1 ⊢;cases e<;>simp only[YF,iP h,gQ h,q1,hw,r1,Ts,Tr,Xk,Xj,aF,af,aE,EW,seval]
  ·exact hi1
  ·simpa[ma] using hi2
def ar5(xs:List py)(tk:List mR)(hk:tk.length<=100000)(hn:xs.length<=100000):aq bX 234 [gv (xs.map ma),.func 235 [cC 0]] [cF [kB tk]]=some (gv ((xs.filter (vT tk)).map ma),[cF [kB tk]]):=by
 refine aB ?_;simp only[SY,YF,EW,seval];exact aa2 hk hn (R:=fun out=>some (gv (out.map ma),[cF [kB tk]])) (fun out e=>by simp only[YF,EW,seval]) xs [] [] rfl (av _)
def ru(s:iQ)(id:Int):iQ×Int :=
 if ((s.dW.filter (rG id)).length:Int)==(s.dW.length:Int) then (s,100)
 else (⟨s.now,s.tick,s.since,s.eR.filter (vT (s.dW.filter (rG id))),s.dW.filter (rG id),s.next⟩,0)
def arh(s:iQ)(id:Int)(hk:s.dW.length<=100000)(hp:s.eR.length<=100000):aq bX 168 [qS s,aD id] []=some (.tuple [qS (ru s id).1,aD (ru s id).2],[]):=by
 refine aB ?_;have hf:(s.dW.filter (rG id)).length<=100000:=aY (bU _ _) hk
 have q1:∀M,nth M 1=some (cF [aD id])->aR (aq bX) 232 [kB s.dW,.func 233 [cC 1]] M=some (kB (s.dW.filter (rG id)),M):=by
  intro M hM;exact zJ hM (ar3 s.dW id hk) rfl rfl rfl
 unfold ru;generalize (s.dW.filter (rG id))=tk at q1 hf ⊢
 have q2:∀M,nth M 3=some (cF [kB tk])->aR (aq bX) 234 [sX s.eR,.func 235 [cC 3]] M=some (sX (s.eR.filter (vT tk)),M):=by
  intro M hM;exact zJ hM (ar5 s.eR tk hf hp) rfl rfl rfl
 simp only[adb,ai5,qS,bM,q1,EW,seval]
 repeat' ((first|apply bB|apply bW|apply dM)<;>intro hb<;>simp only[hb,EW,ai5,q1,q2,seval])
 all_goals clear q1 q2
 all_goals first|rfl|(simp_all only[qC,↓reduceIte,reduceCtorEq,aw]; done)|(simp_all only[qC,↓reduceIte,reduceCtorEq,aw,bM]; rfl)
def atk(s:iQ)(id:Int)(hk:s.dW.length<=100000)(hp:s.eR.length<=100000)(M:aC):aR (aq bX) 168 [.agg (bM s),aD id] M=some (.tuple [.agg (bM (ru s id).1),aD (ru s id).2],M) :=
 cO (arh s id hk hp) M
def c38(t:Tree)(ht:t.ae.length<=100000):aq bX 38 [br t] []=some (qS ⟨t,0,List.replicate t.ae.length 0,[],[],1⟩,[]):=by
 refine aB ?_;have r1:cB t.ae.length 8=True:=qV;simp only[aml,E38,br,aM,qS,bM,r1,ag.norm,uU,gX,EW,seval];rfl
end
abbrev eU:Unit->ag:=fun _ => .agg []
def flN(l:AM Node):(pk bL l).all ag.flat=true:=LK _ (fun _=>rfl) l
def rnN(ρ:Nat->Nat)(l:AM Node):(pk bL l).map (ag.pv ρ)=pk bL l:=Xv _ _ (fun _=>rfl) l
def amT(l:AM Node):(pk bL l).flatMap ag.ids=[]:=Te _ (fun _=>rfl) l
def bkN(B:Nat)(M:aC)(l:AM Node):List.map (ag.j4 B M) (pk bL l)=pk bL l:=Y8 _ _ _ (fun _=>rfl) l
def flU(l:AM Unit):(pk eU l).all ag.flat=true:=LK _ (fun _=>rfl) l
def rnU(ρ:Nat->Nat)(l:AM Unit):(pk eU l).map (ag.pv ρ)=pk eU l:=Xv _ _ (fun _=>rfl) l
def asV(l:AM Unit):(pk eU l).flatMap ag.ids=[]:=Te _ (fun _=>rfl) l
def bkU(B:Nat)(M:aC)(l:AM Unit):List.map (ag.j4 B M) (pk eU l)=pk eU l:=Y8 _ _ _ (fun _=>rfl) l
abbrev VS:=AM Unit×List Node
def j9(all:AM Node):Nat->Int->VS->Bool×VS
 |0,_,st=>(false,st)
 |f+1,ar,st =>
  if (eZ st.1 ar).isSome=true then (true,st) else
  if !(eZ all ar).isSome then (false,(kS st.1 ar (),st.2)) else
  ((eZ all ar).getD Node.zero).bc.foldl (fun w e=>((j9 all f e.ar w.2).1&&w.1,(j9 all f e.ar w.2).2)) (true,(kS st.1 ar (),st.2++[(eZ all ar).getD Node.zero]))
def missing(all:AM Node)(met:AM Unit):Nat:=(all.filter fun p=>(eZ met p.1).isNone).length
def sJ(all:AM Node)(met:AM Unit)(ar:Int):missing all (kS met ar ())<=missing all met:=by
 unfold missing;simp only[jC];induction all with
 |nil=>simp
 |cons p r ih =>
  simp only[fq]
  by_cases h:p.1=ar
  ·simp only[h,aF,Option.isNone_some,af,aE];split
   ·simp only[au]; omega
   ·exact ih
  ·simp only[h,aE];split
   ·simp only[au]; omega
   ·exact ih
def Em{all:AM Node}{met:AM Unit}{ar:Int}{n:Node}(h:eZ all ar=some n)(h0:eZ met ar=none):missing all (kS met ar ())<missing all met:=by
 have hm:=xB _ _ _ h;clear h;unfold missing;induction all with
 |nil=>cases hm
 |cons p r ih =>
  simp only[fq,jC]
  by_cases hp:p.1=ar
  ·have h1:=sJ r met ar;unfold missing at h1;simp only[jC] at h1;simp only[hp,aF,Option.isNone_some,af,aE,h0,Option.isNone_none];simp only[au];omega
  ·rcases bH.1 hm with h2|h2
   ·exact absurd (by rw[<-h2]) hp
   ·have:=ih h2;simp only[jC] at this;simp only[hp,aE];split
    ·simp only[au]; omega
    ·exact this
structure vv(all:AM Node)(st st':VS):Prop where
 len:st'.2.length+missing all st'.1<=st.2.length+missing all st.1
 ahO:missing all st'.1<=missing all st.1
 met:∀j,(eZ st.1 j).isSome=true->(eZ st'.1 j).isSome=true
 nodup:(st.2.map Node.ar).Nodup->(∀n,n∈st.2->(eZ st.1 n.ar).isSome=true)->(st'.2.map Node.ar).Nodup/\∀n,n∈st'.2->(eZ st'.1 n.ar).isSome=true
def vv.refl(all:AM Node)(st:VS):vv all st st:=⟨av _,av _,fun _ h=>h,fun h1 h2=>⟨h1,h2⟩⟩
theorem vv.trans{all:AM Node}{a b c:VS}(h:vv all a b)(k:vv all b c):vv all a c :=
 ⟨aY k.len h.len,aY k.ahO h.ahO,fun j hj=>k.met j (h.met j hj),fun h1 h2=>let ⟨g1,g2⟩:=h.nodup h1 h2; k.nodup g1 g2⟩
def Own(all:AM Node):Prop:=∀k n,eZ all k=some n->n.ar=k
def xR{all:AM Node}(ho:Own all):∀(f:Nat)(ar:Int)(st:VS),vv all st (j9 all f ar st).2:=by
 intro f;induction f with
 |zero=>intro ar st; exact vv.refl _ _
 |succ f ih =>
  intro ar st;rw[j9];split
  ·exact vv.refl _ _
  ·rename_i h0;have h0:eZ st.1 ar=none:=by simpa using h0
   have hput:vv all st (kS st.1 ar (),st.2):=by
    refine⟨?_,sJ _ _ _,fun j hj=>?_,fun h1 h2=>⟨h1,fun n hn=>?_⟩⟩
    ·have:=sJ all st.1 ar;simp only;omega
    ·simp only[jC]; split
     ·rfl
     ·exact hj
    ·simp only[jC]; split
     ·rfl
     ·exact h2 n hn
   split
   ·exact hput
   ·rename_i h1;cases hn:eZ all ar with
    |none=>simp[hn] at h1
    |some n =>
     simp only[bC]
     have hstep:vv all st (kS st.1 ar (),st.2++[n]):=by
      have cQ:=Em hn h0;refine⟨gr,sJ _ _ _,hput.met,fun g1 g2=>?_⟩
      have hni:=ho _ _ hn;refine⟨?_,fun m hm=>?_⟩
      ·rw[aW,lh];refine⟨g1,dw,?_⟩;intro a ha b hb;simp only[aK,aV,bT] at hb;subst hb;intro hab;obtain⟨m,hm,rfl⟩:=eJ.1 ha;have:=g2 m hm;rw[hab,hni,h0] at this;cases this
      ·rcases bo.1 hm with h|h
       ·exact(hput.nodup g1 g2).2 m h
       ·simp only[bT] at h;subst h;simp only[jC,hni,aF,bQ]
     have hfold:∀(l:List gN)(w:Bool×VS),vv all w.2 (l.foldl (fun w e=>((j9 all f e.ar w.2).1&&w.1,(j9 all f e.ar w.2).2)) w).2:=by
      intro l;induction l with
      |nil=>intro w; exact vv.refl _ _
      |cons e r ihr =>
       intro w;rw[eK];exact(ih e.ar w.2).trans (ihr ((j9 all f e.ar w.2).1&&w.1,(j9 all f e.ar w.2).2))
     exact hstep.trans (hfold n.bc (true,(kS st.1 ar (),st.2++[n])))
def vd:ag := .func 271 [.ptr 0 0,.ptr 1 0,.ptr 2 0,.ptr 3 0]
def nv(all:AM Node)(st:VS):aC:=[.cells [.iy 4],.cells [.iy 5],.cells [.cE 6 st.2.length 6 0 st.2.length],.cells [vd],.map (B9 st.1) (pk eU st.1),.map (B9 all) (pk bL all),.arr 6 st.2.length (st.2.map bL)]
def Od(all:AM Node)(st:VS):(nv all st).map (cV.pv (iw [0,1,2,3,4,5,6]))=nv all st/\(nv all st).map (cV.pv (wC [0,1,2,3,4,5,6]))=nv all st:=by
 constructor
 ·simp only[nv,aK,aV,cV.pv,rnN,rnU]; rfl
 ·simp only[nv,aK,aV,cV.pv,rnN,rnU]; rfl
def aou(all:AM Node)(st:VS)(L:aC):j7 (nv all st++L) (iw [0,1,2,3,4,5,6]) [0,1,2,3,4,5,6]=some (nv all st):=by
 have h:=(Od all st).1;simp only[nv,aK,aV] at h;injection h with h0 h; injection h with h1 h; injection h with h2 h; injection h with h3 h; injection h with h4 h; injection h with h5 h; injection h with h6 h
 simp only[nv,aG,aP,j7,nth,h0,h1,h2,h3,h4,h5,h6];simp only[cV.flat,flN,flU,aF];rfl
def asX(all:AM Node)(st:VS)(L:aC):qy (nv all st++L) [0,1,2,3]=[4,5,6,0,1,2,3]/\qy (nv all st++L) [0,1,2,3,4,5,6]=[4,5,6,0,1,2,3]:=by
 refine⟨rfl,?_⟩
 show[4,5,6,0,1,2,3]++((pk eU st.1).flatMap ag.ids++((pk bL all).flatMap ag.ids++([]++[])))=_
 rw[asV,amT]; rfl
def Xt(all:AM Node)(st:VS)(L:aC):reach (nv all st++L) [0,1,2,3]=[0,1,2,3,4,5,6]/\kE (nv all st++L) [0,1,2,3,4,5,6]=[0,1,2,3,4,5,6]:=by
 obtain⟨h1,h2⟩:=asX all st L;have e0:ke [] [0,1,2,3]=[0,1,2,3]:=rfl;have e1:ke [0,1,2,3] [4,5,6,0,1,2,3]=[0,1,2,3,4,5,6]:=rfl;have e2:ke [0,1,2,3,4,5,6] [4,5,6,0,1,2,3]=[0,1,2,3,4,5,6]:=rfl;simp only[reach,kE,e0,h1,e1,h2,e2,jw]
def aiJ(all:AM Node)(st st':VS)(L:aC):mc [0,1,2,3,4,5,6] (nv all st++L) [0,1,2,3,4,5,6] (nv all st')=nv all st'++L:=by
 have h:=(Od all st').2;simp only[nv,aK,aV] at h;injection h with h0 h; injection h with h1 h; injection h with h2 h; injection h with h3 h; injection h with h4 h; injection h with h5 h; injection h with h6 h
 simp only[nv,aG,aP,mc,h0,h1,h2,h3,h4,h5,h6,jo]
def acG(all:AM Node)(st:VS):(nv all st).all cV.flat=true:=by
 simp only[nv,kN,cV.flat,flN,flU]; rfl
def afv{all:AM Node}{ar:Int}{st st':VS}{b:Bool}{L:aC}(h:aq bX 271 [aD ar,cC 0,cC 1,cC 2,cC 3] (nv all st)=some (.bool b,nv all st')) :
  aR (aq bX) 271 [aD ar,cC 0,cC 1,cC 2,cC 3] (nv all st++L)=some (.bool b,nv all st'++L) :=
 lk (ids:=[0,1,2,3,4,5,6]) rfl (Xt all st L).1 (aou all st L) (Xt all st L).2 rfl h rfl rfl (acG all st') rfl (aiJ all st st' L)
section
attribute [local irreducible] eS fI lx gK dZ kr aq aR cu bJ
def aa5{all:AM Node}{n:Node}{f:Nat}(ho:Own all){k:List K}{R:Bool×VS->Option (ag×aC)}(hn:n.bc.length<=100000)
  (ih:∀e,e∈n.bc->∀st,missing all st.1<f->st.2.length+missing all st.1<=200000->aq bX 271 [aD e.ar,cC 0,cC 1,cC 2,cC 3] (nv all st)=some (.bool (j9 all f e.ar st).1,nv all (j9 all f e.ar st).2))
  (hx:∀w e,kr (aq bX) [.tmp 6] 7 k ⟨.exit 0,(4,cC 3)::(11,.bool w.1)::e,nv all w.2++[cF [],cF (aL n)]⟩=R w) :
  ∀(l pre:List gN)(w:Bool×VS),n.bc=pre++l->missing all w.2.1<f->w.2.2.length+missing all w.2.1<=200000->eS (aq bX) [.tmp 6] 7 k (.loop [4,11,37,38,39] aaG) [(4,cC 3),(11,.bool w.1),(37,ja n.bc),(38,aD n.bc.length),(39,aD pre.length)] (nv all w.2++[cF [],cF (aL n)]) =
   R (l.foldl (fun w e=>((j9 all f e.ar w.2).1&&w.1,(j9 all f e.ar w.2).2)) w):=by
 intro l;induction l with
 |nil =>
  intro pre w h _ _;rw[bI];simp only[nv,OL,jP h,na,EW,seval] at hx ⊢;exact hx _ _
 |cons x rest ihl =>
  intro pre w h hm hl;rw[bI];have dN:pre.length+1<=100000:=by rw[h] at hn; simp at hn; omega
  have hw:=zB pre x;rw[eK];have hg:=xR ho f x.ar w.2;have q:=afv (L:=[cF [],cF (aL n),cF (gj x)]) (ih x (by rw[h]; simp) w.2 hm hl)
  have hi1:=ihl (pre++[x]) ((j9 all f x.ar w.2).1&&w.1,(j9 all f x.ar w.2).2) (by rw[h]; simp) (by have:=hg.ahO; simp only; omega) (by have:=hg.len; simp only; omega)
  generalize j9 all f x.ar w.2=v at q hi1 ⊢;clear hg ih;simp only[nv,vd,aL,gj,aA,au,az,aI,aG,aP] at hi1 q;obtain⟨b,st'⟩:=v;cases b<;>simp only[nv,vd,OL,iP h,gQ h,aL,gj,q,hw,bkN,bkU,cW,cK,EW,seval] at hi1 ⊢
  ·exact hi1
  ·exact hi1
def NP(z x:ag):pt z true (some x) = .tuple [x,.bool true]:=rfl
def V7(z:ag):pt z true none = .tuple [z,.bool false]:=rfl
def asx{all:AM Node}(ho:Own all)(hb:∀k n,eZ all k=some n->n.bc.length<=100000):∀(f:Nat)(ar:Int)(st:VS),missing all st.1<f->st.2.length+missing all st.1<=200000 ->
  aq bX 271 [aD ar,cC 0,cC 1,cC 2,cC 3] (nv all st)=some (.bool (j9 all f ar st).1,nv all (j9 all f ar st).2):=by
 intro f;induction f with
 |zero=>intro ar st h; omega
 |succ f ih =>
  intro ar st hm hl;refine aB ?_;rw[j9];have p1:=sI eU st.1 ar ();cases h0:eZ st.1 ar with
  |some u =>
   simp only[bQ,aF];simp only[nv,vd,Nt,OL,pd,NP,eU,mapOf.eq_1,h0,bkN,bkU,EW,seval]
  |none =>
   simp only[cU,af,aE];have hp:=sJ all st.1 ar;cases hn:eZ all ar with
   |none =>
    simp only[nv,vd,Nt,OL,pd,NP,V7,mapOf.eq_1,h0,hn,p1,oQ,cU,aF,bkN,bkU,EW,seval]
   |some n =>
    have cQ:=Em hn h0;have r1:cB (st.2.length+1) 80=True:=qV;have hl1:=aa5 ho (hb ar n hn) (f:=f) (k:=[.block 0,.seq aij]) (R:=fun w=>some (.bool w.1,nv all w.2)) (fun e he st h1 h2=>ih e.ar st h1 h2) (fun w e=>by simp only[nv,vd,OL,aL,bkN,bkU,EW,seval]) n.bc [] (true,(kS st.1 ar (),st.2++[n])) rfl (by simp only; omega) gr
    clear ih;simp only[nv,vd,aL,az,aG,aP,aA,au,aI,aW,aK,aV,bL] at hl1;simp only[nv,vd,Nt,OL,pd,NP,V7,mapOf.eq_1,h0,hn,p1,r1,aL,bL,oQ,bQ,bC,af,aE,sj,EW,seval];exact hl1
end
section
def Hp(x:Node):List Node->List Node
 | []=>[x]
 |y::r=>if x.ar<y.ar then x::y::r else y::Hp x r
def CA:List Node->List Node
 | []=>[]
 |x::r=>Hp x (CA r)
def aub(n:Node):um 0 (bL n)=n.ar:=rfl
def Ga(x:Node):∀l:List Node,D3 0 (bL x) (l.map bL)=(Hp x l).map bL
 | []=>rfl
 |y::r=>by
  simp only[aK,D3,Hp,aub]
  by_cases h:x.ar<y.ar
  ·simp only[h,aF,aK]
  ·simp only[h,aE,aK,Ga x r]
def ET:∀l:List Node,rV 0 (l.map bL)=(CA l).map bL
 | []=>rfl
 |x::r=>by simp only[aK,rV,CA,ET r,Ga]
def nt(a:Int)(m:AM Node)(p:py):AM Node:=if decide (p.ku<=a)&&decide (a<p.BR) then kS m p.node.ar p.node else m
def sf(a:Int):List Node->List Int->AM Node->AM Node
 |n::r,y::ys,m=>sf a r ys (if decide (y<=a) then kS m n.ar n else m)
 |_,_,m=>m
def zF(s:iQ)(a:Int):AM Node:=sf a s.now.ae s.since (s.eR.foldl (nt a) [])
structure yB(m:AM Node):Prop where
 own:Own m
 bc:∀k n,eZ m k=some n->n.bc.length<=100000
def yB.put{m:AM Node}(h:yB m)(n:Node)(hn:n.bc.length<=100000):yB (kS m n.ar n) where
 own:=fun k x hx=>by
  rw[jC] at hx;split at hx
  ·rename_i e; injection hx with hx; rw[<-hx,e]
  ·exact h.own k x hx
 bc:=fun k x hx=>by
  rw[jC] at hx;split at hx
  ·injection hx with hx; rw[<-hx]; exact hn
  ·exact h.bc k x hx
def xF(a:Int):∀(l:List py)(m:AM Node),yB m->(∀p,p∈l->p.node.bc.length<=100000)->yB (l.foldl (nt a) m)/\(l.foldl (nt a) m).length<=m.length+l.length
 | [],m,h,_=>⟨h,av _⟩
 |p::r,m,h,hp=>by
  rw[eK]
  have h1:yB (nt a m p)/\(nt a m p).length<=m.length+1:=by
   unfold nt;split
   ·exact⟨h.put _ (hp p dw),Eo _ _ _⟩
   ·exact⟨h,aH⟩
  obtain⟨g1,g2⟩:=xF a r _ h1.1 (fun q hq=>hp q (by simp[hq]))
  exact⟨g1,by simp only[au]; omega⟩
def Bx(a:Int):∀(l:List Node)(y:List Int)(m:AM Node),yB m->(∀p,p∈l->p.bc.length<=100000)->yB (sf a l y m)/\(sf a l y m).length<=m.length+l.length
 | [],_,m,h,_=>by unfold sf; exact⟨h,av _⟩
 |n::r,[],m,h,_=>by unfold sf; exact⟨h,aH⟩
 |n::r,y::ys,m,h,hp=>by
  rw[sf]
  have h1:yB (if decide (y<=a) then kS m n.ar n else m)/\(if decide (y<=a) then kS m n.ar n else m).length<=m.length+1:=by
   split
   ·exact⟨h.put _ (hp n dw),Eo _ _ _⟩
   ·exact⟨h,aH⟩
  obtain⟨g1,g2⟩:=Bx a r ys _ h1.1 (fun q hq=>hp q (by simp[hq]))
  exact⟨g1,by simp only[au]; omega⟩
def wq(m:AM Node)(met:AM Unit):missing m met<=m.length:=bU _ _
def xQ(s:iQ)(x:mR):Bool×VS:=j9 (zF s x.at') 200001 x.ar ([],[])
def DZ(s:iQ)(x:mR):List Node:=CA (xQ s x).2.2
attribute [local irreducible] eS fI lx gK dZ kr aq aR cu bJ
def zZ(s:iQ)(x:mR)(m:AM Node):aC:=[.cells (bM s),.cells (iC x),.map (B9 m) (pk bL m),.cells [.iy 2]]
def Wt{s:iQ}{x:mR}(hn:s.eR.length<=100000){k:List K}{fin:AM Node}{r:Option (ag×aC)}
  (hx:∀e,kr (aq bX) [.tmp 4,.tmp 5] 0 k ⟨.exit 0,(2,cC 0)::(3,cC 1)::(6,cC 3)::e,zZ s x fin⟩=r) :
  ∀(l pre:List py)(m:AM Node),s.eR=pre++l->l.foldl (nt x.at') m=fin->eS (aq bX) [.tmp 4,.tmp 5] 0 k (.loop [2,3,6,17,18,19] aaA) [(2,cC 0),(3,cC 1),(6,cC 3),(17,sX s.eR),(18,aD s.eR.length),(19,aD pre.length)] (zZ s x m)=r:=by
 intro l;induction l with
 |nil =>
  intro pre m h hfin;rw[bI];rw[na] at hfin;subst hfin;simp only[zZ,G2,jP h,EW,seval] at hx ⊢;exact hx _
 |cons p rest ih =>
  intro pre m h hfin;rw[bI];have dN:pre.length+1<=100000:=by rw[h] at hn; simp at hn; omega
  have hw:=zB pre p;rw[eK] at hfin;have hi1:=ih (pre++[p]) (nt x.at' m p) (by rw[h]; simp) hfin
  clear hfin;have hput:=sI bL m p.node.ar p.node;unfold nt at hi1;simp only[zZ,bM,iC,bL,aL,aA,au,az,aI] at hi1 hput;simp only[zZ,G2,iP h,gQ h,bM,iC,mJ,aL,EW,seval];cases h1:decide (p.ku<=x.at')<;>cases h2:decide (x.at'<p.BR)<;>simp only[h1,h2,G2,hw,hput,mapOf.eq_1,dR,af,aF,aE,bkN,EW,seval] at hi1 ⊢
  all_goals exact hi1
def Wu{s:iQ}{x:mR}(hn:s.now.ae.length<=100000)(hl:s.since.length=s.now.ae.length){k:List K}{fin:AM Node}{r:Option (ag×aC)}
  (hx:∀e,kr (aq bX) [.tmp 4,.tmp 5] 0 k ⟨.exit 2,(2,cC 0)::(3,cC 1)::(6,cC 3)::e,zZ s x fin⟩=r) :
  ∀(l pre:List Node)(y ypre:List Int)(m:AM Node),s.now.ae=pre++l->s.since=ypre++y->ypre.length=pre.length->sf x.at' l y m=fin->eS (aq bX) [.tmp 4,.tmp 5] 0 k (.loop [2,3,6,44,45,46] aaB) [(2,cC 0),(3,cC 1),(6,cC 3),(44,ba s.now.ae),(45,aD s.now.ae.length),(46,aD pre.length)] (zZ s x m)=r:=by
 intro l;induction l with
 |nil =>
  intro pre y ypre m h hy hyl hfin;rw[bI];have hg:sf x.at' [] y m=m:=by unfold sf; rfl
  rw[hg] at hfin;subst hfin;simp only[zZ,G2,jP h,EW,seval] at hx ⊢;exact hx _
 |cons n rest ih =>
  intro pre y ypre m h hy hyl hfin;rw[bI];have dN:pre.length+1<=100000:=by rw[h] at hn; simp at hn; omega
  have hw:=zB pre n;cases y with
  |nil=>have h1:=congrArg List.length h; have h2:=congrArg List.length hy; simp at h1 h2; omega
  |cons c y =>
   have hxa:s.since[pre.length]?=some c:=by rw[hy,<-hyl]; simp
   have hi1:=ih (pre++[n]) y (ypre++[c]) (if decide (c<=x.at') then kS m n.ar n else m) (by rw[h]; simp) (by rw[hy]; simp) (by simp[hyl]) (by rw[<-hfin,sf])
   clear hfin;have hput:=sI bL m n.ar n;simp only[zZ,bM,iC,bL,aL,aA,au,az,aI] at hi1 hput;simp only[zZ,G2,iP h,gQ h,bM,iC,aL,hxa,EW,seval];cases h1:decide (c<=x.at')<;>simp only[h1,G2,hw,hput,mapOf.eq_1,af,aF,aE,bkN,EW,seval] at hi1 ⊢
   all_goals exact hi1
def Fj(s:iQ)(x:mR)(all:AM Node)(st:VS):aC:=[.cells (bM s),.cells (iC x),.map (B9 all) (pk bL all),.cells [.iy 2],.map (B9 st.1) (pk eU st.1),.cells [.iy 4],.arr 6 st.2.length (st.2.map bL),.cells [.cE 6 st.2.length 6 0 st.2.length],.cells [.func 271 [.ptr 5 0,.ptr 3 0,.ptr 7 0,.ptr 8 0]]]
end
section
def Hh{α:Type}:B9 ([]:AM α)=[]:=rfl
def Hi{α:Type}(enc:α->ag):pk enc ([]:AM α)=[]:=rfl
def alH{s:iQ}{x:mR}{all:AM Node}{ar:Int}{st':VS}{b:Bool}(h:aq bX 271 [aD ar,cC 0,cC 1,cC 2,cC 3] (nv all ([],[]))=some (.bool b,nv all st')) :
  aR (aq bX) 271 [aD ar,cC 5,cC 3,cC 7,cC 8] (Fj s x all ([],[]))=some (.bool b,Fj s x all st'):=by
 have i1:qy (Fj s x all ([],[])) [5,3,7,8]=[4,2,6,5,3,7,8]:=rfl
 have i2:qy (Fj s x all ([],[])) [5,3,7,8,4,2,6]=[4,2,6,5,3,7,8]:=by
  show[4,2,6,5,3,7,8]++([]++((pk bL all).flatMap ag.ids++([]++[])))=_
  rw[amT]; rfl
 have e0:ke [] [5,3,7,8]=[5,3,7,8]:=rfl;have e1:ke [5,3,7,8] [4,2,6,5,3,7,8]=[5,3,7,8,4,2,6]:=rfl;have e2:ke [5,3,7,8,4,2,6] [4,2,6,5,3,7,8]=[5,3,7,8,4,2,6]:=rfl
 have hr:reach (Fj s x all ([],[])) [5,3,7,8]=[5,3,7,8,4,2,6]/\kE (Fj s x all ([],[])) [5,3,7,8,4,2,6]=[5,3,7,8,4,2,6]:=by
  simp only[reach,kE,e0,i1,e1,i2,e2,jw]
 have hp:j7 (Fj s x all ([],[])) (iw [5,3,7,8,4,2,6]) [5,3,7,8,4,2,6]=some (nv all ([],[])):=by
  simp only[Fj,j7,nth,cV.flat,flN,flU,bN,aF,cV.pv,rnN,rnU];rfl
 refine lk (ids:=[5,3,7,8,4,2,6]) rfl hr.1 hp hr.2 rfl h rfl rfl (acG all st') rfl ?_;simp only[nv,Fj,mc,cV.pv,rnN,rnU,jo];rfl
def aos(n:Nat)(xs:List ag)(b0 b1 b2 b3 b4 b5 b7 b8:cV):j7 [b0,b1,b2,b3,b4,b5,.arr 6 n xs,b7,b8] (iw [6]) [6]=some [.arr 6 n xs]:=rfl
def QC{l:List Node}(hl:l.length<=1000000)(hn:(l.map Node.ar).Nodup):aq bX 272 [.cE 0 l.length 6 0 l.length,.func 273 []] [.arr 6 l.length (l.map bL)]=some (.tuple [],[.arr 6 l.length ((CA l).map bL)]):=by
 refine eP (g:=wL 6 0 273) rfl ?_;unfold wL;simp only[nth];have ht:(l.map bL).take l.length=l.map bL:=bt dw;have hd:(l.map bL).drop l.length=[]:=iq dw;rw[ht,hd,ET,dz];rw[fh]
 ·rfl
 ·refine⟨trivial,trivial,trivial,dw,trivial,aH,?_,?_⟩
  ·intro x hx;obtain⟨n,_,rfl⟩:=eJ.1 hx;rfl
  ·rw[gI];exact hn
attribute [local irreducible] eS fI lx gK dZ kr aq aR cu bJ
def Jy(x:Node):∀l,(Hp x l).length=l.length+1
 | []=>rfl
 |y::r=>by simp only[Hp]; split<;>simp[Jy x r]
theorem BJ:∀l,(CA l).length=l.length
 | []=>rfl
 |x::r=>by simp[CA,Jy,BJ r]
def ar2(s:iQ)(x:mR)(hp:s.eR.length<=100000)(hpe:∀p,p∈s.eR->p.node.bc.length<=100000)(hz:Sz 200 s.now)(hl:s.since.length=s.now.ae.length) :
  aq bX 230 [qS s,kU x] []=some (.tuple [ba (DZ s x),.bool (xQ s x).1],[]):=by
 refine aB ?_;obtain⟨g1,g2⟩:=xF x.at' s.eR [] ⟨fun k n h=>(by cases h),fun k n h=>(by cases h)⟩ hpe
 obtain⟨g3,g4⟩:=Bx x.at' s.now.ae s.since (s.eR.foldl (nt x.at') []) g1 (fun n hn=>by have:=hz.bc n hn; omega)
 have hall:(zF s x.at').length<=100200:=by have:=hz.ae; simp at g2; unfold zF; omega
 have hv:=asx (all:=zF s x.at') g3.own g3.bc 200001 x.ar ([],[]) (by have:=wq (zF s x.at') []; simp only; omega) (by have:=wq (zF s x.at') []; simp only[az]; omega)
 have hg:=xR (all:=zF s x.at') g3.own 200001 x.ar ([],[]);have hnd:=(hg.nodup dw dw).1;have dN:(xQ s x).2.2.length<=100200:=by have:=hg.len; have h2:=wq (zF s x.at') []; simp only[az] at this; unfold xQ; omega
 have q:=alH (s:=s) (x:=x) hv;have hs:=QC (l:=(xQ s x).2.2) aH hnd
 have q2:∀b0 b1 b2 b3 b4 b5 b7 b8,aR (aq bX) 272 [.cE 6 (xQ s x).2.2.length 6 0 (xQ s x).2.2.length,.func 273 []] [b0,b1,b2,b3,b4,b5,.arr 6 (xQ s x).2.2.length ((xQ s x).2.2.map bL),b7,b8] =
   some (.tuple [],[b0,b1,b2,b3,b4,b5,.arr 6 (xQ s x).2.2.length ((DZ s x).map bL),b7,b8]):=fun b0 b1 b2 b3 b4 b5 b7 b8 =>
  lk (ids:=[6]) rfl rfl (aos _ _ ..) rfl rfl hs rfl rfl rfl rfl rfl
 have ht:List.take (xQ s x).2.2.length ((DZ s x).map bL)=(DZ s x).map bL:=bt (by simp[DZ,BJ])
 have l2:=Wu (s:=s) (x:=x) (by have:=hz.ae; omega) hl (fin:=zF s x.at') (r:=some (.tuple [ba (DZ s x),.bool (xQ s x).1],[])) (k:=[.block 2,.seq abP]) (fun e=>by
  clear g1 g2 g3 g4 hv hg hnd hs;have hvv:j9 (zF s x.at') 200001 x.ar ([],[])=xQ s x:=rfl;rw[hvv] at q;generalize xQ s x=v at q q2 ht dN ⊢;obtain⟨b,met,out⟩:=v;simp only[Fj,bM,iC,az,aV,Hh,Hi] at q q2 ht;simp only[zZ,bM,iC,G2,q,q2,ht,EW,seval]) s.now.ae [] s.since [] (s.eR.foldl (nt x.at') []) rfl rfl rfl rfl
 have l1:=Wt (s:=s) (x:=x) hp (fin:=s.eR.foldl (nt x.at') []) (r:=some (.tuple [ba (DZ s x),.bool (xQ s x).1],[])) (k:=[.block 0,.seq abQ]) (fun e=>by
  simp only[zZ,bM,iC,az] at l2;simp only[zZ,bM,iC,G2,EW,seval];exact l2) s.eR [] [] rfl rfl
 simp only[zZ,bM,iC,az,Hh,Hi] at l1;simp only[SV,G2,qS,kU,bM,iC,EW,seval];exact l1
def atF(s:iQ)(x:mR)(hp:s.eR.length<=100000)(hpe:∀p,p∈s.eR->p.node.bc.length<=100000)(hz:Sz 200 s.now)(hl:s.since.length=s.now.ae.length)(M:aC) :
  aR (aq bX) 230 [.agg (bM s),.agg (iC x)] M=some (.tuple [ba (DZ s x),.bool (xQ s x).1],M):=cO (ar2 s x hp hpe hz hl) M
def vw(s:iQ)(id:Int):Int×List Node×Int:=match s.dW.find? (fun x=>x.id==id) with
 |some x=>(x.ar,DZ s x,0)
 |none=>(0,[],100)
def aaT{s:iQ}{id:Int}(hk:s.dW.length<=100000)(hp:s.eR.length<=100000)(hpe:∀p,p∈s.eR->p.node.bc.length<=100000)(hz:Sz 200 s.now)(hl:s.since.length=s.now.ae.length) :
  ∀(l pre:List mR),s.dW=pre++l->eS (aq bX) [.tmp 4,.tmp 5,.tmp 6] 0 [.block 0,.seq aie] (.loop [1,2,12,13,14] aam) [(1,aD id),(2,cC 0),(12,kB s.dW),(13,aD s.dW.length),(14,aD pre.length)] [cF (bM s)] =
   some (match l.find? (fun x=>x.id==id) with|some x => .tuple [aD x.ar,ba (DZ s x),aD 0]|none => .tuple [aD 0,ba [],aD 100],[]):=by
 intro l;induction l with
 |nil =>
  intro pre h;rw[bI];simp only[Yx,jP h,List.find?_nil,bM,EW,seval];rfl
 |cons x rest ih =>
  intro pre h;rw[bI];have dN:pre.length+1<=100000:=by rw[h] at hk; simp at hk; omega
  have hw:=zB pre x;have hi1:=ih (pre++[x]) (by rw[h]; simp)
  have q:=atF s x hp hpe hz hl;simp only[aA,au,az,aI,bM,iC] at hi1 q;rw[List.find?_cons];simp only[Yx,iP h,gQ h,bM,iC,EW,seval];cases he:x.id==id<;>simp only[Yx,he,q,hw,EW,seval]
  exact hi1
def ard(s:iQ)(id:Int)(hk:s.dW.length<=100000)(hp:s.eR.length<=100000)(hpe:∀p,p∈s.eR->p.node.bc.length<=100000)(hz:Sz 200 s.now)(hl:s.since.length=s.now.ae.length) :
  aq bX 164 [qS s,aD id] []=some (.tuple [aD (vw s id).1,ba (vw s id).2.1,aD (vw s id).2.2],[]):=by
 refine aB ?_;have hq:=aaT (id:=id) hk hp hpe hz hl s.dW [] rfl;simp only[bM,az] at hq;simp only[ac8,Yx,qS,bM,EW,seval];refine iI hq ?_;unfold vw;split<;>rfl
def atj(s:iQ)(id:Int)(hk:s.dW.length<=100000)(hp:s.eR.length<=100000)(hpe:∀p,p∈s.eR->p.node.bc.length<=100000)(hz:Sz 200 s.now)(hl:s.since.length=s.now.ae.length)(M:aC) :
  aR (aq bX) 164 [.agg (bM s),aD id] M=some (.tuple [aD (vw s id).1,ba (vw s id).2.1,aD (vw s id).2.2],M):=cO (ard s id hk hp hpe hz hl) M
end
noncomputable def xN:zA:=⟨fun f=>if f=188 then some SR else code f,o4⟩
def ab1:uQ Tryz.prog xN:=by
 refine⟨fun f fn h=>?_,N4⟩
 simp only[xN] at h;split at h
 ·rename_i hf;cases h; subst hf;exact⟨_,_,func188,aoa⟩
 ·exact M5 f fn h
def aiv:ny Tryz.prog (aq xN):=qW ft ab1
def Kw:∀n,wV (kd bX n) (kd xN n)
 |0,f,a,M,x,h=>by rw[kd] at h ⊢; exact h
 |n+1,f,a,M,x,h=>by
  rw[kd] at h ⊢;have hp:xN.o4 f=bX.o4 f:=rfl;rw[hp];split at h
  ·rename_i g hg; exact h
  ·rename_i hg;split at h
   ·cases h
   ·rename_i fn hfn
    have hc:xN.code f=some fn:=by
     simp only[xN];split
     ·rename_i hf; subst hf; cases hfn
     ·exact hfn
    rw[hc];split at h
    ·rename_i hl;simp only[aZ hl];obtain⟨o,ho,h⟩:=bm h;rw[jK (Kw n) _ ho,bN];exact h
    ·cases h
def ab3{f:Nat}{a:List ag}{M:aC}{x:ag×aC}(h:aq bX f a M=some x):aq xN f a M=some x:=by
 obtain⟨n,hn⟩:=uq h;exact pU (fun n x h=>tI xN n f a M x h) (Kw n f a M x hn)
def lW{f:Nat}{vs:List ag}{M:aC}{x:ag×aC}(h:aR (aq bX) f vs M=some x):aR (aq xN) f vs M=some x:=by
 obtain⟨a,B,y,h1,h2⟩:=oV h;exact h2 _ (ab3 h1)
def Jr(t:Tree)(q:dV):Bool := !(find t.ae q.ar).isSome
def C6(n:dV):(iW n).all ag.je=true:=rfl
section
def aic(z:Tree):j7 [cF (aM z)] (iw [0]) [0]=some [cF (aM z)]:=rfl
section
attribute [local irreducible] eS fI lx gK dZ kr aq aR cu bJ
def arE(q:dV)(t:Tree)(ht:Rt t):aq xN 190 [gF q,cC 0] [cF (aM t)]=some (.bool (Jr t q),[cF (aM t)]):=by
 refine aB ?_;have q1:=fun M=>lW (Fl t q.ar ht.small ht.lL M)
 unfold Jr;simp only[aL] at q1;simp only[ado,apr,gF,iW,aM,q1,aL,b0T,C6,EW,seval]
def atu(q:dV)(t:Tree)(ht:Rt t)(p:Nat)(M:aC)(hM:nth M p=some (cF (aM t))):aR (aq xN) 190 [.agg (iW q),cC p] M=some (.bool (Jr t q),M) :=
 uR (f:=190) (p:=p) (vs:=[.agg (iW q)]) hM (arE q t ht) rfl rfl rfl rfl rfl rfl rfl rfl rfl
def nV(z:Tree)(l:List dV):List dV:=l.filter fun e => !Jr z e
def Q1:dV:=⟨0,0,0⟩
abbrev aoz(m:Nat):ag:=DC 3 m
def arD(xs:List dV)(z:Tree)(hz:Rt z)(hn:xs.length<=100000)(h0:xs≠[]):aq xN 188 [.cE 0 0 3 0 xs.length,.func 190 [cC 1]] [.arr 3 0 (xs.map gF),cF (aM z)] =
  some (aoz (nV z xs).length,[.arr 3 0 ((nV z xs++List.replicate (xs.length-(nV z xs).length) Q1).map gF),cF (aM z)]) :=
 aed (sz:=3) (z:=[aD 0,aD 0,aD 0]) (zc:=[aD 0,aD 0,aD 0]) (gi:=245) (e:=iW) (zx:=Q1) (p:=Jr z) ft rfl ft rfl rfl hn (fun _=>rfl) rfl mw (fun _=>rfl) (fun _=>rfl) (fun _=>rfl) ⟨fun _ _=>rfl,rfl,fun _=>rfl,rfl⟩ (fun e _ _=>atu e z hz 1 _ rfl) h0
end
def alB(z:Tree):aq xN 245 [gv [],.func 190 [cC 0]] [cF (aM z)]=some (aD (-1),[cF (aM z)]):=by
 refine aB ?_;simp only[adU,aje,aM,b0T,C6,EW,seval];rw[bI];have h0:((0:Int)<((0:Nat):Int))=False:=dw;simp only[aje,aM,h0,b0T,C6,EW,seval]
def alu(z:Tree):aq xN 188 [gv [],.func 190 [cC 0]] [cF (aM z)]=some (gv [],[cF (aM z)]):=by
 have h11:((-1:Int) == -1)=true:=rfl;have q:aR (aq xN) 245 [gv [],.func 190 [cC 0]] [cF (aM z)]=some (aD (-1),[cF (aM z)]):=lk (ids:=[0]) rfl rfl (aic z) rfl rfl (alB z) rfl rfl rfl rfl rfl;refine aB ?_;simp only[aM] at q;simp only[SR,apq,aM,q,h11,b0T,C6,EW,seval]
end
noncomputable def Cs(args:List ag)(M:aC):Option (ag×aC):=bJ (aq xN 188 args M) fun x=>cu (x.1.jr=false) (some (x.1.rz x.2,qE x.2 x.1.ids))
def Lq{args:List ag}{M:aC}{x:ag×aC}(h:Cs args M=some x):dp Tryz.prog 188 args M x:=by
 obtain⟨y,h1,h2⟩:=bm h;obtain⟨hp,h2⟩:=dq h2;cases h2;exact FU (aiv _ _ _ _ h1).2 hp
def Qy(z:Tree):Cs [gv [],.func 190 [cC 0]] [cF (aM z)]=some (gv [],[cF (aM z)]):=by
 unfold Cs;rw[alu,bN];exact fh rfl
def Still(b:cV):Prop:=(∀B M,b.back B M=b)/\b.flat=true/\(∀ρ,b.pv ρ=b)
def Xf(xs:List dV)(z:Tree)(hz:Rt z)(hn:xs.length<=100000)(h0:xs≠[]):∃b,Still b/\Cs [.cE 0 0 3 0 xs.length,.func 190 [cC 1]] [.arr 3 0 (xs.map gF),cF (aM z)]=some (cY (nV z xs),[b,cF (aM z)]):=by
 have h:=arD xs z hz hn h0;unfold Cs;rw[h,bN];unfold aoz DC
 by_cases hl:(nV z xs).length=0
 ·have h1:nV z xs=[]:=dU.1 hl;refine⟨.arr 3 0 ((nV z xs++List.replicate (xs.length-(nV z xs).length) Q1).map gF),⟨fun _ _=>rfl,rfl,fun _=>rfl⟩,?_⟩
  rw[aZ hl];refine(fh rfl).trans ?_;rw[h1];rfl
 ·refine⟨.tick 3 ((nV z xs++List.replicate (xs.length-(nV z xs).length) Q1).map gF).length,⟨fun _ _=>rfl,rfl,fun _=>rfl⟩,?_⟩
  rw[aQ hl];refine(fh rfl).trans ?_
  have ht:List.drop 0 (List.take (nV z xs).length ((nV z xs++List.replicate (xs.length-(nV z xs).length) Q1).map gF))=(nV z xs).map gF:=by
   simp[fQ]
  show some (ag.slice .sh (List.drop 0 (List.take (nV z xs).length ((nV z xs++List.replicate (xs.length-(nV z xs).length) Q1).map gF))),_)=_
  rw[ht];rfl
noncomputable def lu(T:zA)(f0:Nat)(g:List ag->aC->Option (ag×aC)):zA:=⟨T.code,fun f=>if f=f0 then some g else T.o4 f⟩
def oE{P:Program}{T:zA}(hT:uQ P T){f0:Nat}{g:List ag->aC->Option (ag×aC)}(he:lG P f0=true)(hg:∀ {args:List ag} {M:aC} {x:ag×aC},g args M=some x->dp P f0 args M x):uQ P (lu T f0 g):=by
 refine⟨hT.code,fun f g' h args M x hx=>?_⟩
 simp only[lu] at h;split at h
 ·rename_i hf;cases h; subst hf;exact⟨he,hg hx⟩
 ·exact hT.o4 f g' h args M x hx
def AH{T:zA}{f0:Nat}{g:List ag->aC->Option (ag×aC)}(h1:T.code f0=none)(h2:T.o4 f0=none):∀n,wV (kd T n) (kd (lu T f0 g) n)
 |0,f,a,M,x,h=>by
  by_cases hf:f=f0
  ·subst hf;rw[kd,h2] at h;cases h
  ·have hp:(lu T f0 g).o4 f=T.o4 f:=by simp[lu,hf]
   rw[kd] at h ⊢;rw[hp];exact h
 |n+1,f,a,M,x,h=>by
  by_cases hf:f=f0
  ·subst hf;rw[kd,h2,h1] at h;cases h
  ·have hp:(lu T f0 g).o4 f=T.o4 f:=by simp[lu,hf]
   rw[kd] at h ⊢;rw[hp];split at h
   ·rename_i g hg; exact h
   ·rename_i hg;have hc:(lu T f0 g).code f=T.code f:=rfl;rw[hc];split at h
    ·cases h
    ·rename_i fn hfn;split at h
     ·rename_i hl;simp only[aZ hl];obtain⟨o,ho,h⟩:=bm h;rw[jK (AH h1 h2 n) _ ho,bN];exact h
     ·cases h
def p6{T:zA}{f0:Nat}{g:List ag->aC->Option (ag×aC)}(h1:T.code f0=none)(h2:T.o4 f0=none){f:Nat}{a:List ag}{M:aC}{x:ag×aC}(h:aq T f a M=some x):aq (lu T f0 g) f a M=some x:=by
 obtain⟨n,hn⟩:=uq h;exact pU (fun n x h=>tI _ n f a M x h) (AH h1 h2 n f a M x hn)
noncomputable def aoM:zA:=lu bX 188 Cs
def ab2:uQ Tryz.prog aoM:=oE aiy ft (fun h=>Lq h)
noncomputable def gM:zA:=lu aoM 165 Ez
def Oq:uQ Tryz.prog gM:=oE ab2 ft (fun h=>QK h)
def MB:ny Tryz.prog (aq gM):=qW ft Oq
def Ot{f:Nat}{a:List ag}{M:aC}{x:ag×aC}(h:aq bX f a M=some x):aq gM f a M=some x:=p6 rfl rfl (p6 rfl rfl h)
def lS'{f:Nat}{a:List ag}{M:aC}{x:ag×aC}(h:aq bX f a M=some x):aq gM f a M=some x:=Ot h
def lS{f:Nat}{vs:List ag}{M:aC}{x:ag×aC}(h:aR (aq bX) f vs M=some x):aR (aq gM) f vs M=some x:=by
 obtain⟨a,B,y,h1,h2⟩:=oV h;exact h2 _ (Ot h1)
def agd(s:Bytes)(hs:s.length<=100000)(M:aC):aR (aq gM) 165 [.str s] M=some (.tuple [dr (gG s).1,aD (gG s).2],M):=by
 have h:aq gM 165 [.str s] []=some (.tuple [dr (gG s).1,aD (gG s).2],[]):=by
  refine eP (g:=Ez) rfl ?_;unfold Ez;simp only[];rw[aZ ⟨trivial,hs⟩]
 exact cO h M
section
def qT{s:Bytes}(h:fX s=true):s.length<=32:=by
 unfold fX at h;simp only[bz,ij,jT,dD] at h;omega
def Kr:∀(x:List (Bytes×Bool)) (n:Nat) (l:List Bytes),qM x n=some l->n<=12->(∀s,s∈l->fX s=true)/\l.length+n<=12
 | [],n,l,h,hn=>by
  simp only[qM,ga] at h;subst h;exact⟨fun s hs=>by simp at hs,gr⟩
 |x::r,n,l,h,hn=>by
  rw[qM] at h;split at h
  ·cases h
  ·rename_i hb;cases hr:qM r (n+1) with
   |none=>rw[hr] at h; cases h
   |some k =>
    rw[hr] at h;simp only[ep,ga] at h;subst h;have hb':Fe x n=false:=by simpa using hb
    unfold Fe at hb';simp only[jT,Bool.not_eq_false',jm] at hb';obtain⟨g1,g2⟩:=Kr r (n+1) k hr aH;refine⟨fun s hs=>?_,gr⟩
    rcases bH.1 hs with h1|h1
    ·subst h1; exact hb'.1.2
    ·exact g1 s h1
def yp(s:Bytes):(∀x,x∈(gG s).1->fX x=true)/\(gG s).1.length<=12:=by
 unfold gG;split
 ·exact⟨fun s hs=>by simp at hs,dw⟩
 ·split
  ·exact⟨fun s hs=>by simp at hs,dw⟩
  ·exact⟨fun s hs=>by simp at hs,dw⟩
  ·rename_i l hl;obtain⟨g1,g2⟩:=Kr _ 0 _ hl aH;exact⟨g1,aH⟩
def EX:∀l:List Bytes,BN (l.map ag.str)=some l
 | []=>rfl
 |s::r=>by
  show bJ (BN (r.map ag.str)) (fun l=>some (s::l))=_
  rw[EX r]; rfl
def D7(l:List Bytes)(h:∀x,x∈l->fX x=true):(Lib.join l [47]).length<=33*l.length:=by
 induction l with
 |nil=>simp[Lib.join]
 |cons a r ih =>
  have h1:=qT (h a dw);have h2:=ih (fun x hx=>h x (by simp[hx]))
  cases r with
  |nil=>simp[Lib.join]; omega
  |cons b r=>simp[Lib.join] at h2 ⊢; omega
def JC(l:List Bytes):Bytes:=if (l.length:Int)==0 then [47] else [47]++Lib.join l [47]
def PU(l:List Bytes)(h:∀x,x∈l->fX x=true)(hl:l.length<=12):(JC l).length<=1000:=by
 unfold JC;have:=D7 l h;split<;>simp<;>omega
def atW(l:List Bytes)(h:∀x,x∈l->fX x=true)(hl:l.length<=12)(M:aC):aR (aq bX) 277 [dr l,.str [47]] M=some (.str (Lib.join l [47]),M):=by
 have hq:aq bX 277 [dr l,.str [47]] []=some (.str (Lib.join l [47]),[]):=by
  refine eP (g:=J3) rfl ?_;unfold J3;simp only[];rw[EX,bN,aZ];have:=D7 l h;omega
 exact cO hq M
attribute [local irreducible] eS fI lx gK dZ kr aq aR cu bJ
def ar9(l:List Bytes)(h:∀x,x∈l->fX x=true)(hl:l.length<=12):aq bX 238 [dr l] []=some (.str (JC l),[]):=by
 refine aB ?_;have q:=atW l h hl;have hm:(IntKind.i64.max<((1+(Lib.join l [47]).length:Nat):Int))=False:=max_lt _ (by have:=D7 l h; omega)
 unfold JC;simp only[adR,ajd,q,EW,seval];cases h0:(l.length:Int)==0<;>simp only[ajd,h0,af,aF,aE,q,hm,EW,seval]
def atG l h hl:=cP (ar9 l h hl)
def uo(s:Bytes):Bytes×Bytes×Int :=
 if (gG s).2 != 0||(((gG s).1.length:Int)==0) then ([],[],60)
 else ((gG s).1.getD ((gG s).1.length-1) [],JC ((gG s).1.take ((gG s).1.length-1)),0)
def arw(s:Bytes)(hs:s.length<=100000):aq gM 180 [.str s] []=some (.tuple [.str (uo s).1,.str (uo s).2.1,aD (uo s).2.2],[]):=by
 refine aB ?_;have q:=agd s hs;obtain⟨h1,h2⟩:=yp s;unfold uo;generalize gG s=l at q h1 h2 ⊢;obtain⟨l,e⟩:=l;simp only at h1 h2;have q2:=fun M=>lS (atG (l.take (l.length-1)) (fun x hx=>h1 x (dB hx)) gr M)
 simp only[dr,ec] at q2;simp only[adk,YA,q,EW,seval];cases he:e != 0
 ·cases h0:(l.length:Int)==0
  ·have hne:0<l.length:=by
    have:¬((l.length:Int)=0):=by simpa using h0
    omega
   have hw:IntKind.i64.wrap ((l.length:Int)-1)=((l.length-1:Nat):Int):=by rw[gx aH aH]; omega
   have hx:=ai (show l.length-1<l.length by omega)
   have hg:l.getD (l.length-1) []=l[l.length-1]:=by simp[List.getD,hx]
   have hle:((l.length-1:Nat):Int)<=(l.length:Int):=aH;have hz:((0:Int)<=((l.length-1:Nat):Int))=True:=dw;simp only[YA,he,h0,hw,hx,q2,hg,hle,hz,fG,af,aE,EW,seval]
  ·simp only[YA,he,h0,eu,aF,EW,seval]
 ·simp only[YA,he,dL,aF,EW,seval]
def atr s hs:=cP (arw s hs)
def Gh(s:Bytes)(_hs:s.length<=100000):(uo s).1.length<=1000/\(uo s).2.1.length<=1000:=by
 obtain⟨h1,h2⟩:=yp s;unfold uo;split
 ·exact⟨dw,dw⟩
 ·refine⟨?_,PU _ (fun x hx=>h1 x (dB hx)) gr⟩
  simp only[List.getD];cases hx:(gG s).1[(gG s).1.length-1]? with
  |none=>simp
  |some x=>have:=qT (h1 x (aJ hx)); simp; omega
def BU(ae:List Node):List Bytes->Int->Int×Int
 | [],ar=>(ar,0)
 |s::r,ar=>if (fg ae ar s).2 != 0 then (0,(fg ae ar s).2) else BU ae r (fg ae ar s).1
def ky(t:Tree)(dK:Bytes):Int×Int:=if (gG dK).2 != 0 then (0,(gG dK).2) else BU t.ae (gG dK).1 1
def aaW{t:Tree}(ht:Small t)(hr:rU t){xs:List Bytes}(hxs:∀x,x∈xs->x.length<=100000)(hn:xs.length<=100000) :
  ∀(l pre:List Bytes)(ar:Int),xs=pre++l->eS (aq gM) [.tmp 4,.tmp 5] 0 [.block 0,.seq aih] (.loop [2,8,19,20,21] aav) [(2,cC 0),(8,aD ar),(19,dr xs),(20,aD xs.length),(21,aD pre.length)] [cF (aM t)] =
   some (.tuple [aD (BU t.ae l ar).1,aD (BU t.ae l ar).2],[]):=by
 intro l;induction l with
 |nil =>
  intro pre ar h;rw[bI];simp only[KL,jP h,aM,BU,EW,seval]
 |cons s rest ih =>
  intro pre ar h;rw[bI];have dN:pre.length+1<=100000:=by rw[h] at hn; simp at hn; omega
  have hw:=zB pre s;have hi1:=ih (pre++[s]) (fg t.ae ar s).1 (by rw[h]; simp)
  have q:=fun M=>lS (ZO t.ae t.next t.ak ar s ht hr (hxs s (by rw[h]; simp)) trivial M)
  rw[BU];generalize fg t.ae ar s=v at q hi1 ⊢;simp only[aA,au,az,aI,aM] at hi1;simp only[KL,iP h,gQ h,aM,q,EW,seval];cases he:v.2 != 0
  ·simp only[KL,he,hw,af,aE,EW,seval];exact hi1
  ·simp only[KL,he,aF,EW,seval]
def aru(t:Tree)(dK:Bytes)(ht:Small t)(hr:rU t)(hp:dK.length<=100000):aq gM 178 [br t,.str dK] []=some (.tuple [aD (ky t dK).1,aD (ky t dK).2],[]):=by
 refine aB ?_;have q:=agd dK hp;obtain⟨h1,h2⟩:=yp dK;have hl:=aaW ht hr (xs:=(gG dK).1) (fun x hx=>by have:=qT (h1 x hx); omega) aH (gG dK).1 [] 1 rfl
 unfold ky;generalize gG dK=v at q hl ⊢;simp only[aM,az] at hl;simp only[adi,KL,br,aM,q,EW,seval];cases he:v.2 != 0
 ·simp only[KL,he,af,aE,EW,seval];exact hl
 ·simp only[KL,he,aF,EW,seval]
def am9(t:Tree)(dK:Bytes)(ht:Small t)(hr:rU t)(hp:dK.length<=100000)(M:aC):aR (aq gM) 178 [.agg [ba t.ae,aD t.next,aD t.ak],.str dK] M=some (.tuple [aD (ky t dK).1,aD (ky t dK).2],M) :=
 cO (aru t dK ht hr hp) M
def gh(e:Int):ag := .nH (.iface 43 (.int .i64 e))
def aqv(e:Int):aq gM 110 [aD e] []=some (if e != 0 then gh e else .tuple [],[]):=by
 refine aB ?_;simp only[acI,aez,EW,seval];cases he:e != 0
 ·simp only[aez,af,aE,EW,seval]
 ·simp only[aez,aF,valOf,gh,EW,seval]
def pb(e:Int)(M:aC):aR (aq gM) 110 [aD e] M=some (if e != 0 then gh e else .tuple [],M) :=
 CX (aqv e) rfl rfl (by split<;>rfl) rfl (by split<;>rfl) M
def c53(b:Bool)(e:Int)(he:(e != 0)=true):aq gM 53 [.bool b,aD e] []=some (if b then .tuple [] else gh e,[]):=by
 refine aB ?_;have q:=pb e;rw[aZ he] at q;cases b<;>simp only[amr,E53,q,gh,af,aF,aE,EW,seval]
def Q9(b:Bool)(e:Int)(he:(e != 0)=true)(M:aC):aR (aq gM) 53 [.bool b,aD e] M=some (if b then .tuple [] else gh e,M) :=
 CX (c53 b e he) rfl rfl (by split<;>rfl) rfl (by split<;>rfl) M
end
section
attribute [local irreducible] eS fI lx gK dZ kr aq aR cu bJ
def bZ(f:aa)(o:jz):List ag:=[ba f.s.now.ae,.int .i64 f.s.now.next,.int .i64 f.s.now.ak,.int .i64 f.s.tick,uU f.s.since,sX f.s.eR,kB f.s.dW,.int .i64 f.s.next,fN f.holds,cY f.dX,
 .int .i64 o.kind,.int .i64 o.bF,.str o.dK,.str o.u9,.int .i64 o.n,.int .i64 o.m,.int .i64 o.handle,df o.data,
 .int .i64 0,.int .i64 0,.int .i64 0,.int .i64 0,.int .i64 0,.slice .c0 [],.slice .c0 []]
abbrev dv(f:aa)(o:jz):cV := .cells (bZ f o)
def dG(f:aa)(o:jz)(a:sR)(x y:ag):cV := .cells [ba f.s.now.ae,.int .i64 f.s.now.next,.int .i64 f.s.now.ak,.int .i64 f.s.tick,uU f.s.since,sX f.s.eR,kB f.s.dW,.int .i64 f.s.next,fN f.holds,cY f.dX,
 .int .i64 o.kind,.int .i64 o.bF,.str o.dK,.str o.u9,.int .i64 o.n,.int .i64 o.m,.int .i64 o.handle,df o.data,
 .int .i64 a.err,.int .i64 a.ar,.int .i64 a.kind,.int .i64 a.n,.int .i64 a.m,x,y]
def Row(x:ag)(xs:List ag):Prop:=x = .slice .sh xs\/(x = .slice .c0 []/\xs=[])
def px(K:Nat)(f:aa)(o:jz)(r:aa×sR×Int):Prop :=
 ∃x y,Row x (r.2.1.names.map ag.str)/\Row y (r.2.1.data.map qB)/\aq gM K [.ptr 0 0] [.cells (bZ f o)]=some (if r.2.2 != 0 then gh r.2.2 else .tuple [],[dG r.1 o r.2.1 x y])
def gy:sR:=⟨0,0,0,0,0,[],[]⟩
def JD{C:eL}{g p:Nat}{vs:List ag}{r:ag}{M:aC}{f f':aa}{o o':jz}(hM:nth M p=some (dv f o))(h:C g (.ptr 0 0::vs) [dv f o]=some (r,[dv f' o']))
  (h1:vs.all ag.flat=true) (h2:vs.flatMap ag.ids=[]) (h3:r.wH=true) (h4:∀p,vs.map (ag.pv (iw [p]))=vs) (h5:∀p,r.Ax (wC [p])=r) :
  aR C g (.ptr p 0::vs) M=some (r,jo M p (dv f' o')) :=
 tx hM h h1 h2 h3 (h4 p) (h5 p) rfl rfl rfl rfl rfl
def arv(f:aa)(o:jz)(ar:Int)(ht:Small f.s.now)(hr:rU f.s.now):aq gM 179 [cC 0,aD ar] [dv f o]=some (.agg (aL (bl f.s.now.ae ar)),[dv f o]):=by
 refine aB ?_;have q:=fun M=>lS (Fl f.s.now ar ht hr M)
 simp only[aL] at q;simp only[adj,apn,dv,bZ,q,aL,EW,seval]
def ana(f:aa)(o:jz)(ar:Int)(ht:Small f.s.now)(hr:rU f.s.now){p:Nat}{M:aC}(hM:nth M p=some (dv f o)):aR (aq gM) 179 [cC p,aD ar] M=some (.agg (aL (bl f.s.now.ae ar)),M):=by
 have:=JD hM (arv f o ar ht hr) rfl rfl rfl (fun _=>rfl) (fun _=>rfl)
 rwa[u7 hM] at this
def aqV(f:aa)(o:jz)(dK:Bytes)(ht:Small f.s.now)(hr:rU f.s.now)(hp:dK.length<=100000):aq gM 145 [cC 0,.str dK] [dv f o] =
  some (if (ky f.s.now dK).2 != 0 then gh (ky f.s.now dK).2 else .agg (aL (bl f.s.now.ae (ky f.s.now dK).1)),[dv f o]):=by
 refine aB ?_;have q1:=am9 f.s.now dK ht hr hp;generalize ky f.s.now dK=v at q1 ⊢;have q2:=pb v.2;have q3:∀b,aR (aq gM) 179 [cC 0,aD v.1] [dv f o,b]=some (.agg (aL (bl f.s.now.ae v.1)),[dv f o,b]):=fun b=>ana f o v.1 ht hr (p:=0) rfl
 simp only[dv,bZ,aL] at q3;simp only[ac0,aeE,dv,bZ,q1,EW,seval];cases he:v.2 != 0<;>simp only[he,af,aF,aE,gh] at q2 ⊢
 ·simp only[aeE,q2,q3,aL,EW,seval]
 ·simp only[aeE,q2,EW,seval]
def LY(f:aa)(o:jz)(dK:Bytes)(ht:Small f.s.now)(hr:rU f.s.now)(hp:dK.length<=100000){p:Nat}{M:aC}(hM:nth M p=some (dv f o)):aR (aq gM) 145 [cC p,.str dK] M =
  some (if (ky f.s.now dK).2 != 0 then gh (ky f.s.now dK).2 else .agg (aL (bl f.s.now.ae (ky f.s.now dK).1)),M):=by
 have:=JD hM (aqV f o dK ht hr hp) rfl rfl (by split<;>rfl) (fun _=>rfl) (fun _=>by split<;>rfl)
 rwa[u7 hM] at this
def mP(t:Tree)(dK:Bytes):Int×Bytes×Int :=
 if (uo dK).2.2 != 0 then (0,[],(uo dK).2.2)
 else if (ky t (uo dK).2.1).2 != 0 then (0,[],(ky t (uo dK).2.1).2)
 else ((ky t (uo dK).2.1).1,(uo dK).1,0)
def aqW(f:aa)(o:jz)(dK:Bytes)(ht:Small f.s.now)(hr:rU f.s.now)(hp:dK.length<=100000):aq gM 146 [cC 0,.str dK] [dv f o] =
  some (if (mP f.s.now dK).2.2 != 0 then gh (mP f.s.now dK).2.2 else .tuple [aD (mP f.s.now dK).1,.str (mP f.s.now dK).2.1],[dv f o]):=by
 refine aB ?_;have q1:=atr dK hp;have hl:=Gh dK hp;have q4:=am9 f.s.now (uo dK).2.1 ht hr aH;unfold mP;generalize uo dK=l at q1 q4 ⊢;have q2:=pb l.2.2;generalize ky f.s.now l.2.1=v at q4 ⊢;have q3:=pb v.2;simp only[ac1,Yv,dv,bZ,q1,EW,seval];cases he:l.2.2 != 0<;>simp only[he,af,aF,aE,gh] at q2 ⊢
 ·cases hv:v.2 != 0<;>simp only[hv,af,aF,aE,gh] at q3 ⊢
  ·simp only[Yv,q2,q4,q3,aw,af,aE,EW,seval]
  ·simp only[Yv,q2,q4,q3,hv,aF,EW,seval]
 ·simp only[Yv,q2,he,aF,EW,seval]
def Tv(f:aa)(o:jz)(dK:Bytes)(ht:Small f.s.now)(hr:rU f.s.now)(hp:dK.length<=100000){p:Nat}{M:aC}(hM:nth M p=some (dv f o)):aR (aq gM) 146 [cC p,.str dK] M =
  some (if (mP f.s.now dK).2.2 != 0 then gh (mP f.s.now dK).2.2 else .tuple [aD (mP f.s.now dK).1,.str (mP f.s.now dK).2.1],M):=by
 have:=JD hM (aqW f o dK ht hr hp) rfl rfl (by split<;>rfl) (fun _=>rfl) (fun _=>by split<;>rfl)
 rwa[u7 hM] at this
def Cz(n:Node):Int:=if (n.data.length:Int)<(n.bc.length:Int) then (n.bc.length:Int) else (n.data.length:Int)
def aq5(n:Node):aq gM 155 [.agg (aL n)] []=some (aD (Cz n),[]):=by
 refine aB ?_;simp only[ac7,apk,bL,aL,Cz,EW,seval]
def aaS{xs:List gN}(hn:xs.length<=100000){k:List K}{R:List Bytes->Option (ag×aC)}
  (hx:∀(out:List Bytes) e,kr (aq gM) [.tmp 2] 0 k ⟨.exit 0,(3,.slice (.own 0) (out.map ag.str))::e,[.tick 1 out.length]⟩=R out) :
  ∀(l pre:List gN)(out:List Bytes),xs=pre++l->out.length<=pre.length->eS (aq gM) [.tmp 2] 0 k (.loop [3,6,7,8] aaj) [(3,.slice (.own 0) (out.map ag.str)),(6,ja xs),(7,aD xs.length),(8,aD pre.length)] [.tick 1 out.length]=R (out++l.map gN.name):=by
 intro l;induction l with
 |nil =>
  intro pre out h ho;rw[bI];simp only[Yw,jP h,EW,seval];exact hx _ _
 |cons n rest ih =>
  intro pre out h ho;rw[bI];have dN:pre.length+1<=100000:=by rw[h] at hn; simp at hn; omega
  have hw:=zB pre n;have hi:=ih (pre++[n]) (out++[n.name]) (by rw[h]; simp) gr
  simp only[aA,au,az,aW,aK,aV,aI,cm,aG,aP] at hi;have r1:cB (out.length+1) 16=True:=qV;simp only[Yw,iP h,gQ h,gj,r1,hw,EW,seval];exact hi
def aq4(l:List gN)(hn:l.length<=100000):aq gM 154 [ja l] []=some (dr (l.map gN.name),[]):=by
 refine aB ?_;have hl:=aaS hn (k:=[.block 0,.seq aid]) (R:=fun out=>some (dr out,[])) (fun out e=>by simp only[Yw,EW,seval]) l [] [] rfl (av _)
 simp only[aV,az] at hl;simp only[SH,Yw,EW,seval];exact hl
def aga l hn:=cP (aq4 l hn)
def agb n:=cP (aq5 n)
end
section
abbrev eI:Int->ag:=fun n => .int .i64 n
def bkI(B:Nat)(M:aC)(l:AM Int):List.map (ag.j4 B M) (pk eI l)=pk eI l:=Y8 _ _ _ (fun _=>rfl) l
attribute [local irreducible] eS fI lx gK dZ kr aq aR cu bJ
def zP(ae:List Node)(dom:Int):List gN->AM Int->Option (AM Int)
 | [],m=>some m
 |e::r,m=>if (bl ae e.ar).kind==1&&(eZ m e.ar).isSome&&((eZ m e.ar).getD 0 != dom) then none else zP ae dom r (kS m e.ar dom)
def ue(ae:List Node)(l:List dV):List Node->AM Int->Bool
 | [],_=>true
 |d::r,m=>if (d.bc.length:Int)==0 then ue ae l r m else match zP ae (mg ae l d.ar) d.bc m with
  |none=>false
  |some m'=>ue ae l r m'
def sg(t:Tree)(l:List dV):Bool:=ue t.ae l t.ae []
def Wq{t:Tree}(ht:Small t)(hr:rU t){ql:List dV}{d:Node}{dom i n0:Int}{k:List K}{R:Option (AM Int)->Option (ag×aC)}(hn:d.bc.length<=100000)
  (hx:∀m e,kr (aq bX) [.tmp 4] 0 k ⟨.exit 2,(1,cY ql)::(2,cC 0)::(5,.iy 1)::(8,aD dom)::(17,ba t.ae)::(18,aD n0)::(19,aD i)::e,[cF (aM t),.map (B9 m) (pk eI m),cF (aL d)]⟩=R (some m))
  (hret:∀m b1 b2,kr (aq bX) [.tmp 4] 0 k ⟨.ret,[(4,.bool false)],[cF (aM t),.map (B9 m) (pk eI m),cF (aL d),b1,b2]⟩=R none) :
  ∀(l pre:List gN)(m:AM Int),d.bc=pre++l->eS (aq bX) [.tmp 4] 0 k (.loop [1,2,5,8,17,18,19,33,34,35] aax) [(1,cY ql),(2,cC 0),(5,.iy 1),(8,aD dom),(17,ba t.ae),(18,aD n0),(19,aD i),(33,ja d.bc),(34,aD d.bc.length),(35,aD pre.length)] [cF (aM t),.map (B9 m) (pk eI m),cF (aL d)] =
   R (zP t.ae dom l m):=by
 simp only[aM,aL] at hx hret ⊢;intro l;induction l with
 |nil =>
  intro pre m h;rw[bI];simp only[Dd,jP h,zP,bkI,EW,seval];exact hx _ _
 |cons e rest ih =>
  intro pre m h;rw[bI];have dN:pre.length+1<=100000:=by rw[h] at hn; simp at hn; omega
  have hw:=zB pre e;have q1:=Fl t e.ar ht hr;have hput:=sI eI m e.ar dom;have hi:=ih (pre++[e]) (kS m e.ar dom) (by rw[h]; simp)
  rw[zP];simp only[aL,aA,au,az,aI] at q1 hi;simp only[Dd,iP h,gQ h,gj,q1,pd,mapOf.eq_1,EW,seval];cases hm:eZ m e.ar with
  |none =>
   cases hk:(bl t.ae e.ar).kind==1<;>simp only[Dd,hm,hk,V7,hput,hw,mapOf.eq_1,bkI,oQ,cU,dR,cK,af,aE,EW,seval]
   ·exact hi
   ·exact hi
  |some v =>
   cases hk:(bl t.ae e.ar).kind==1<;>cases hd:v != dom<;>simp only[Dd,hm,hk,hd,NP,hput,hw,mapOf.eq_1,bkI,bQ,bC,dR,cK,cW,af,aF,aE,EW,seval]
   ·exact hi
   ·exact hi
   ·exact hi
   ·exact hret _ _ _
def Wr{t:Tree}{dJ:Int->Nat}(ht:dY t dJ 0){ql:List dV}(hq:pA ql)(hql:ql.length<=100000) :
  ∀(l pre:List Node)(m:AM Int),t.ae=pre++l->eS (aq bX) [.tmp 4] 0 [.block 0,.seq N8] (.loop [1,2,5,17,18,19] NJ) [(1,cY ql),(2,cC 0),(5,.iy 1),(17,ba t.ae),(18,aD t.ae.length),(19,aD pre.length)] [cF (aM t),.map (B9 m) (pk eI m)] =
   some (.bool (ue t.ae ql l m),[]):=by
 intro l;induction l with
 |nil =>
  intro pre m h;rw[bI];simp only[Dd,jP h,ue,aM,EW,seval]
 |cons d rest ih =>
  intro pre m h;rw[bI];have hn:=ht.ae;have dN:pre.length+1<=200:=by rw[h] at hn; simp at hn; omega
  have hw:=zB pre d;have hi:=fun m=>ih (pre++[d]) m (by rw[h]; simp)
  have hfd:find t.ae d.ar=some d:=(ic ht.lL.ml).2 ⟨by rw[h]; simp,rfl⟩
  rw[ue];simp only[aM,aA,au,az,aI] at hi;simp only[Dd,iP h,gQ h,aM,aL,EW,seval];cases he:(d.bc.length:Int)==0
  ·have hk:d.kind=2:=by
    rcases ht.kind _ _ hfd with h1|h1
    ·rw[(ht.file _ _ hfd h1).1] at he; simp at he
    ·exact h1
   have q1:=atH ht hq hql hfd hk
   have hin:=Wq ht.sz.HR ht.lL (ql:=ql) (d:=d) (dom:=mg t.ae ql d.ar) (i:=pre.length) (n0:=t.ae.length) (k:=[.block 2,.block 1,.seq abO,.loop [1,2,5,17,18,19] 2 NJ,.block 0,.seq N8])
    (R:=fun o=>some (.bool (match o with|none=>false|some m'=>ue t.ae ql rest m'),[])) (by have:=(ht.yv _ _ hfd).2; omega)
    (fun m e=>by
     have:=hi m;simp only[aM,aL,Dd,hw,bkI,EW,seval];exact this)
    (fun m b1 b2=>by simp only[aM,aL,Dd,EW,seval]) d.bc [] m rfl
   simp only[aM,aL,az] at hin;simp only[Dd,he,q1,af,aE,EW,seval];refine hin.trans ?_;rfl
  ·simp only[Dd,he,hw,aF,bkI,EW,seval];exact hi m
def arG(t:Tree)(l:List dV)(ht:Rt t)(hq:pA l)(hl:l.length<=100000):aq bX 192 [br t,cY l] []=some (.bool (sg t l),[]):=by
 obtain⟨dJ,ht⟩:=ht;refine aB ?_;have h:=Wr ht hq hl t.ae [] [] rfl;simp only[aM,az] at h;simp only[adq,Dd,br,aM,EW,seval];exact h
def atv(t:Tree)(l:List dV)(ht:Rt t)(hq:pA l)(hl:l.length<=100000)(M:aC):aR (aq bX) 192 [.agg [ba t.ae,aD t.next,aD t.ak],cY l] M=some (.bool (sg t l),M):=cO (arG t l ht hq hl) M
end
section
def Gw{args:List ag}{M:aC}{x:ag×aC}(h:Cs args M=some x):aq gM 188 args M=some x:=eP (T:=gM) (g:=Cs) rfl h
def aoq(xs:List ag)(z:Tree)(W:cV):j7 [W,cF (aM z),.arr 3 0 xs] (iw [2,1]) [2,1]=some [.arr 3 0 xs,cF (aM z)]:=rfl
def ah8(z:Tree)(W:cV):j7 [W,cF (aM z)] (iw [1]) [1]=some [cF (aM z)]:=rfl
attribute [local irreducible] eS fI lx gK dZ kr aq aR cu bJ
def ane(z:Tree)(W:cV):aR (aq gM) 188 [gv [],.func 190 [cC 1]] [W,cF (aM z)]=some (gv [],[W,cF (aM z)]) :=
 lk (ids:=[1]) rfl rfl (ah8 z W) rfl rfl (Gw (Qy z)) rfl rfl rfl rfl rfl
def att(xs:List dV)(z:Tree)(hz:Rt z)(hn:xs.length<=100000)(h0:xs≠[])(W:cV):∃b,Still b/\aR (aq gM) 188 [.cE 2 0 3 0 xs.length,.func 190 [cC 1]] [W,cF (aM z),.arr 3 0 (xs.map gF)] =
  some (cY (nV z xs),[W,cF (aM z),b]):=by
 obtain⟨b,hb,h⟩:=Xf xs z hz hn h0;refine⟨b,hb,lk (ids:=[2,1]) rfl rfl (aoq _ z W) rfl rfl (Gw h) rfl rfl ?_ rfl ?_⟩
 ·simp only[kN,hb.2.1]; rfl
 ·simp only[mc,hb.2.2]; rfl
def ry(l:List fD):List Int->Tree->Tree
 | [],t=>t
 |i::r,t=>ry l r (if !pT l i then (kL t i).1 else t)
def Bc(l:List fD):∀(r:List Int)(t:Tree),Rt t->Rt (ry l r t)
 | [],t,h=>h
 |i::r,t,h=>by
  rw[ry];refine Bc l r _ ?_;split
  ·exact h.free i
  ·exact h
def Wh{f:aa}{o:jz}{q:List dV}(hh:f.holds.length<=100000){xs:List Int}(hn:xs.length<=100000){fin:Tree}{k:List K}{r:Option (ag×aC)}
  (hx:∀e,kr (aq gM) [] 1 k ⟨.exit 0,(0,cC 0)::(2,cY q)::(4,cC 1)::e,[dv f o,cF (aM fin)]⟩=r) :
  ∀(l pre:List Int)(t:Tree),xs=pre++l->Rt t->ry f.holds l t=fin->eS (aq gM) [] 1 k (.loop [0,2,4,13,14,15] aai) [(0,cC 0),(2,cY q),(4,cC 1),(13,uU xs),(14,aD xs.length),(15,aD pre.length)] [dv f o,cF (aM t)]=r:=by
 simp only[dv,bZ,aM] at hx ⊢;intro l;induction l with
 |nil =>
  intro pre t h ht hfin;rw[bI];rw[ry] at hfin;subst hfin;simp only[tq,jP h,EW,seval];exact hx _
 |cons i rest ih =>
  intro pre t h ht hfin;rw[bI];have dN:pre.length+1<=100000:=by rw[h] at hn; simp at hn; omega
  have hw:=zB pre i;rw[ry] at hfin;have hi1:=ih (pre++[i]) t (by rw[h]; simp) ht
  have hi2:=ih (pre++[i]) (kL t i).1 (by rw[h]; simp) (ht.free i)
  have q1:∀M,nth M 2=some (cF [aD i])->aR (aq gM) 185 [fN f.holds,.func 186 [cC 2]] M=some (.bool (pT f.holds i),M):=fun M hM=>lS (zJ hM (als f.holds i hh) rfl rfl rfl)
  have q2:=fun M=>lS (anc t i ht.small ht.lL M)
  simp only[aM,aA,au,az,aI] at hi1 hi2 q2;simp only[tq,iP h,gQ h,q1,EW,seval];cases he:pT f.holds i<;>rw[he] at hfin
  ·simp only[dH,aF] at hfin;have:=hi2 hfin;simp only[tq,he,q2,hw,EW,seval];exact this
  ·simp only[cv,af,aE] at hfin;have:=hi1 hfin;simp only[tq,he,hw,EW,seval];exact this
def nr(t:Tree)(q:dV):Bool := !(decide ((lq t.ae q.ar).1<=q.ae)&&decide ((lq t.ae q.ar).2<=q.bytes))
def P8{f:aa}{o:jz}{t:Tree}(ht:Rt t){xs:List dV}(hn:xs.length<=100000){k:List K}{r:Option (ag×aC)}
  (hx:∀e,xs.any (nr t)=false->kr (aq gM) [] 1 k ⟨.exit 2,(0,.ptr 0 0)::(2,cY xs)::(4,.ptr 1 0)::e,[dv f o,.cells (aM t)]⟩=r)
  (hp:∀c,xs.any (nr t)=true->kr (aq gM) [] 1 k ⟨.nH (.iface 43 (.int .i64 90)),[],[dv f o,.cells (aM t),c]⟩=r) :
  ∀(l pre:List dV),xs=pre++l->pre.any (nr t)=false->eS (aq gM) [] 1 k (.loop [0,2,4,42,43,44] NI) [(0,.ptr 0 0),(2,cY xs),(4,.ptr 1 0),(42,cY xs),(43,.int .i64 xs.length),(44,.int .i64 pre.length)] [dv f o,.cells (aM t)]=r:=by
 simp only[dv,bZ,aM] at hx hp ⊢;intro l;induction l with
 |nil =>
  intro pre h hpre;rw[bI];have hany:xs.any (nr t)=false:=by rw[h,dz]; exact hpre
  simp only[tq,jP h,EW,seval];exact hx _ hany
 |cons q rest ih =>
  intro pre h hpre;rw[bI];have dN:pre.length+1<=100000:=by rw[h] at hn; simp at hn; omega
  have hw:=zB pre q;have q1:=fun M=>lS (age ht q.ar M)
  have q2:=fun bb=>Q9 bb 90 rfl
  have hov:∀z,nr t q=z->(decide ((lq t.ae q.ar).1<=q.ae)&&decide ((lq t.ae q.ar).2<=q.bytes)) = !z:=fun z hz=>by rw[<-hz]; unfold nr; simp
  simp only[tq,iP h,gQ h,iW,q1,EW,seval];cases ho:nr t q
  ·have hi:=ih (pre++[q]) (by rw[h]; simp) (by simp[hpre,ho])
   have hv:=hov _ ho;simp only[aA,au,az,aI] at hi;simp only[dH,bz] at hv;simp only[tq,hv.1,hv.2,q2,hw,aF,EW,seval];exact hi
  ·have hany:xs.any (nr t)=true:=by rw[h]; simp[ho]
   have hv:=hov _ ho;cases h1:decide ((lq t.ae q.ar).1<=q.ae)<;>cases h2:decide ((lq t.ae q.ar).2<=q.bytes)<;>simp only[h1,h2,jS,cv] at hv
   ·simp only[tq,h1,h2,q2,gh,af,aE,EW,seval];exact hp _ hany
   ·simp only[tq,h1,h2,q2,gh,af,aE,EW,seval];exact hp _ hany
   ·simp only[tq,h1,h2,q2,gh,af,aE,EW,seval];exact hp _ hany
   ·cases hv
def P7{f:aa}{o:jz}{t:Tree}(ht:Rt t){xs:List dV}(hn:xs.length<=100000){b:cV}(hbb:Still b){k:List K}{r:Option (ag×aC)}
  (hx:∀e,xs.any (nr t)=false->kr (aq gM) [] 1 k ⟨.exit 2,(0,.ptr 0 0)::(2,cY xs)::(4,.ptr 1 0)::e,[dv f o,.cells (aM t),b]⟩=r)
  (hp:∀c,xs.any (nr t)=true->kr (aq gM) [] 1 k ⟨.nH (.iface 43 (.int .i64 90)),[],[dv f o,.cells (aM t),b,c]⟩=r) :
  ∀(l pre:List dV),xs=pre++l->pre.any (nr t)=false->eS (aq gM) [] 1 k (.loop [0,2,4,42,43,44] NI) [(0,.ptr 0 0),(2,cY xs),(4,.ptr 1 0),(42,cY xs),(43,.int .i64 xs.length),(44,.int .i64 pre.length)] [dv f o,.cells (aM t),b]=r:=by
 simp only[dv,bZ,aM] at hx hp ⊢;intro l;induction l with
 |nil =>
  intro pre h hpre;rw[bI];have hany:xs.any (nr t)=false:=by rw[h,dz]; exact hpre
  simp only[tq,jP h,EW,seval];exact hx _ hany
 |cons q rest ih =>
  intro pre h hpre;rw[bI];have dN:pre.length+1<=100000:=by rw[h] at hn; simp at hn; omega
  have hw:=zB pre q;have q1:=fun M=>lS (age ht q.ar M)
  have q2:=fun bb=>Q9 bb 90 rfl
  have hov:∀z,nr t q=z->(decide ((lq t.ae q.ar).1<=q.ae)&&decide ((lq t.ae q.ar).2<=q.bytes)) = !z:=fun z hz=>by rw[<-hz]; unfold nr; simp
  simp only[tq,iP h,gQ h,iW,q1,EW,seval];cases ho:nr t q
  ·have hi:=ih (pre++[q]) (by rw[h]; simp) (by simp[hpre,ho])
   have hv:=hov _ ho;simp only[aA,au,az,aI] at hi;simp only[dH,bz] at hv;simp only[tq,hv.1,hv.2,q2,hw,aF,hbb.1,EW,seval];exact hi
  ·have hany:xs.any (nr t)=true:=by rw[h]; simp[ho]
   have hv:=hov _ ho;cases h1:decide ((lq t.ae q.ar).1<=q.ae)<;>cases h2:decide ((lq t.ae q.ar).2<=q.bytes)<;>simp only[h1,h2,jS,cv] at hv
   ·simp only[tq,h1,h2,q2,gh,af,aE,EW,seval];exact hp _ hany
   ·simp only[tq,h1,h2,q2,gh,af,aE,EW,seval];exact hp _ hany
   ·simp only[tq,h1,h2,q2,gh,af,aE,EW,seval];exact hp _ hany
   ·cases hv
def j8(f:aa)(t:Tree)(q:List dV):aa×Int :=
 if !sg (ry f.holds (mN t) t) (nV (ry f.holds (mN t) t) q) then (f,91)
 else if (nV (ry f.holds (mN t) t) q).any (nr (ry f.holds (mN t) t)) then (f,90)
 else (⟨qz f.s (ry f.holds (mN t) t),f.holds,nV (ry f.holds (mN t) t) q⟩,0)
structure vr(f:aa):Prop where
 rt:Rt f.s.now
 len:f.s.since.length=f.s.now.ae.length
 eR:f.s.eR.length<=90000
 ED:∀p,p∈f.s.eR->p.node.bc.length<=64/\p.node.data.length<=4096
 dW:f.s.dW.length<=16
 holds:uH f.holds
 dN:f.holds.length<=64
 dX:pA f.dX
 sN:f.dX.length<=16
def am5(s:iQ)(t:Tree)(hs:rU s.now)(hz:Sz 200 s.now)(ht:rU t)(hzt:Sz 200 t)(hk:s.dW.length<=100000)(hl:s.since.length=s.now.ae.length)(hp:s.eR.length<=100000)(M:aC) :
  aR (aq bX) 158 [.agg (bM s),.agg [ba t.ae,aD t.next,aD t.ak]] M=some (.agg (bM (qz s t)),M):=cO (aq8 s t hs hz ht hzt hk hl hp) M
def Gf{t:Tree}{q:List dV}(h:pA q):pA (nV t q):=jU _ h
def Bq(t:Tree)(q:List dV):(nV t q).length<=q.length:=bU _ _
def aqY(f:aa)(o:jz)(t:Tree)(q:List dV)(hf:vr f)(ht:Rt t)(hq:pA q)(hql:q.length<=16):aq gM 148 [cC 0,br t,cY q] [dv f o] =
  some (if (j8 f t q).2 != 0 then gh (j8 f t q).2 else .tuple [],[dv (j8 f t q).1 o]):=by
 refine aB ?_;have q0:=fun M=>lS (ats t (by have:=ht.sz.ae; omega) M)
 have hor:(mN t).length<=100000:=by have:=ht.sz.ae; have h2:=bU gS t.ae; unfold mN; simp; omega
 have hl:=Wh (f:=f) (o:=o) (q:=q) (by have:=hf.dN; omega) (xs:=mN t) hor (fin:=ry f.holds (mN t) t) (k:=[.block 0,.seq abL])
  (r:=some (if (j8 f t q).2 != 0 then gh (j8 f t q).2 else .tuple [],[dv (j8 f t q).1 o])) ?_ (mN t) [] t rfl ht rfl
 ·simp only[dv,bZ,aM,az] at hl;simp only[SG,tq,dv,bZ,br,aM,q0,EW,seval];exact hl
 ·intro e;have ht1:=Bc f.holds (mN t) t ht;unfold j8;generalize ry f.holds (mN t) t=t1 at ht1 ⊢;have q1:=fun M=>lS (atv t1 (nV t1 q) ht1 (Gf hq) (by have:=Bq t1 q; omega) M)
  have q2:=fun bb=>Q9 bb 91 rfl
  have q3:=fun M=>lS (am5 f.s t1 hf.rt.lL hf.rt.sz ht1.lL ht1.sz (by have:=hf.dW; omega) hf.len (by have:=hf.eR; omega) M)
  generalize qz f.s t1=ps at q3 ⊢;simp only[bM] at q3
  by_cases h0:q=[]
  ·have p1:=fun M=>lS' (DR gF (f:=189) (sz:=3) (bytes:=24) rfl h0 M)
   have hk0:nV t1 q=[]:=by subst h0; rfl
   rw[hk0] at q1 ⊢;have q1:∀M,aR (aq gM) 192 [.agg [ba t1.ae,aD t1.next,aD t1.ak],gv []] M=some (.bool (sg t1 []),M):=q1
   have p2:=ane t1 (dv f o);cases hd:sg t1 []
   ·rw[hd] at q1;simp only[dv,bZ,aM,gh] at p2 ⊢;simp only[tq,p1,p2,q1,q2,gh,hd,af,aF,aE,EW,seval]
   ·rw[hd] at q1
    have hlp:=P8 (f:=f) (o:=o) (t:=t1) ht1 (xs:=[]) dw (k:=[.block 2,.seq N6]) (r:=some (.tuple [],[dv ⟨ps,f.holds,[]⟩ o]))
     (fun e _=>by simp only[dv,bZ,aM,tq,q3,bM,EW,seval]; rfl) (fun c h=>by cases h) [] [] rfl rfl
    simp only[dv,bZ,aM,gh,az] at p2 hlp ⊢;simp only[tq,p1,p2,q1,q2,hd,gh,af,aF,aE,o7,aw,EW,seval];exact hlp
  ·obtain⟨b,hb,p2⟩:=att q t1 ht1 aH h0 (dv f o);have p1:=fun M=>lS' (CZ gF (f:=189) (sz:=3) (bytes:=24) rfl (fun _=>rfl) aH h0 aH M)
   have hkl:(nV t1 q).length<=100000:=by have:=Bq t1 q; omega
   generalize nV t1 q=kq at q1 p2 hkl ⊢;cases hd:sg t1 kq
   ·rw[hd] at q1;simp only[dv,bZ,aM,gh] at p2 ⊢;simp only[tq,p1,p2,q1,q2,gh,hd,hb.1,af,aF,aE,EW,seval]
   ·rw[hd] at q1
    have hlp:=P7 (f:=f) (o:=o) (t:=t1) ht1 (xs:=kq) hkl hb (k:=[.block 2,.seq N6]) (r:=some (if kq.any (nr t1) then gh 90 else .tuple [],[dv (if kq.any (nr t1) then f else ⟨ps,f.holds,kq⟩) o]))
     (fun e h=>by simp only[h,af,aE,dv,bZ,aM,tq,q3,bM,EW,seval]) (fun c h=>by simp only[h,aF,dv,bZ,aM,tq,gh,EW,seval]) kq [] rfl rfl
    simp only[dv,bZ,aM,gh,az] at p2 hlp ⊢;simp only[tq,p1,p2,q1,q2,hd,gh,af,aF,aE,EW,seval];refine hlp.trans ?_;cases kq.any (nr t1)<;>rfl
end
section
attribute [local irreducible] eS fI lx gK dZ kr aq aR cu bJ
structure sm(o:jz):Prop where
 dK:o.dK.length<=90000
 u9:o.u9.length<=90000
 data:o.data.length<=90000
def dY.Yk{t:Tree}{dJ:Int->Nat}(h:dY t dJ 0)(to:Int)(nm:Bytes):∀e,gw (gW t.ae to).1.bc nm=some e->(bl t.ae e.ar).ar≠to:=by
 intro e he;unfold gW at he;split at he
 ·cases he
 ·rename_i n hn;split at he
  ·have hem:=(j6 he).1;obtain⟨_,_,_,_,m,hm,_⟩:=h.CO _ _ e hn hem;simp only[bl,hm,bC,(cJ hm).2];exact h.xj hn hem
  ·cases he
def PW(f:aa)(o:jz)(t:Tree)(q:List dV)(hf:vr f)(ht:Rt t)(hq:pA q)(hql:q.length<=16){p:Nat}{M:aC}(hM:nth M p=some (dv f o)):aR (aq gM) 148 [cC p,.agg [ba t.ae,aD t.next,aD t.ak],cY q] M =
  some (if (j8 f t q).2 != 0 then gh (j8 f t q).2 else .tuple [],jo M p (dv (j8 f t q).1 o)) :=
 JD hM (aqY f o t q hf ht hq hql) rfl rfl (by split<;>rfl) (fun _=>rfl) (fun _=>by split<;>rfl)
def ata(t:Tree)(ht:Rt t)(dir:Int)(s:Bytes)(kind:Int)(hs:s.length<=100000)(M:aC):aR (aq gM) 147 [.agg [ba t.ae,aD t.next,aD t.ak],aD dir,.str s,aD kind] M =
  some (.tuple [.agg [ba (rX t dir s kind).1.ae,aD (rX t dir s kind).1.next,aD (rX t dir s kind).1.ak],aD (rX t dir s kind).2.1,aD (rX t dir s kind).2.2],M):=by
 obtain⟨dJ,h⟩:=ht;have:=aqX t dir s kind (h.sz.up aH) h.lL hs trivial h.jq;rw[YL h] at this;exact lS (cO this M)
def atb(t:Tree)(ht:Rt t)(ar dir:Int)(s:Bytes)(hs:s.length<=100000)(M:aC):aR (aq gM) 149 [.agg [ba t.ae,aD t.next,aD t.ak],aD ar,aD dir,.str s] M =
  some (.tuple [.agg [ba (CS t ar dir s).1.ae,aD (CS t ar dir s).1.next,aD (CS t ar dir s).1.ak],aD (CS t ar dir s).2],M):=by
 obtain⟨dJ,h⟩:=ht;have:=aqZ t ar dir s (h.sz.up aH) h.lL hs trivial;rw[ahJ h] at this;exact lS (cO this M)
def atc(t:Tree)(ht:Rt t)(dir:Int)(s:Bytes)(hs:s.length<=100000)(M:aC):aR (aq gM) 150 [.agg [ba t.ae,aD t.next,aD t.ak],aD dir,.str s] M =
  some (.tuple [.agg [ba (BT t dir s).1.ae,aD (BT t dir s).1.next,aD (BT t dir s).1.ak],aD (BT t dir s).2.1,aD (BT t dir s).2.2],M):=by
 obtain⟨dJ,h⟩:=ht;have:=aq0 t dir s (h.sz.up aH) h.lL hs trivial;rw[aiH h] at this;exact lS (cO this M)
def atd(t:Tree)(ht:Rt t)(dir:Int)(s:Bytes)(to:Int)(nm:Bytes)(hs:s.length<=100000)(hn:nm.length<=100000)(M:aC):aR (aq gM) 152 [.agg [ba t.ae,aD t.next,aD t.ak],aD dir,.str s,aD to,.str nm] M =
  some (.tuple [.agg [ba (wT t dir s to nm).1.ae,aD (wT t dir s to nm).1.next,aD (wT t dir s to nm).1.ak],aD (wT t dir s to nm).2.1,aD (wT t dir s to nm).2.2],M):=by
 obtain⟨dJ,h⟩:=ht;have:=aq2 t dir s to nm (h.sz.up aH) h.lL hs trivial hn trivial (fun e he=>h.Yk to nm e he)
 rw[ahQ h] at this;exact lS (cO this M)
def auc(t:Tree)(ht:Rt t)(ar:Int)(s:Bytes)(hs:s.length<=100000)(M:aC):aR (aq gM) 151 [.agg [ba t.ae,aD t.next,aD t.ak],aD ar,.str s] M =
  some (.tuple [aD (fg t.ae ar s).1,aD (fg t.ae ar s).2],M):=lS (ZO t.ae t.next t.ak ar s ht.small ht.lL hs trivial M)
def anu(t:Tree)(ht:Rt t)(ar:Int)(d:Bytes)(hd:d.length<=100000)(M:aC):aR (aq gM) 225 [.agg [ba t.ae,aD t.next,aD t.ak],aD ar,df d] M =
  some (.tuple [.agg [ba (rT t ar d).1.ae,aD (rT t ar d).1.next,aD (rT t ar d).1.ak],aD (rT t ar d).2],M):=lS (cO (ar0 t ar d ht.small ht.lL hd) M)
def Rt.add{t:Tree}(h:Rt t)(dir:Int)(s:Bytes)(kind:Int):Rt (rX t dir s kind).1:=let ⟨_,g⟩:=h; Rx g dir s kind (fun h=>h)
def Rt.ln{t:Tree}(h:Rt t)(ar dir:Int)(s:Bytes):Rt (CS t ar dir s).1:=let ⟨_,g⟩:=h; ⟨_,aaI g ar dir s (fun h=>h)⟩
def Rt.un{t:Tree}(h:Rt t)(dir:Int)(s:Bytes):Rt (BT t dir s).1:=let ⟨_,g⟩:=h; ⟨_,ab9 g dir s⟩
def Rt.mv{t:Tree}(h:Rt t)(dir:Int)(s:Bytes)(to:Int)(nm:Bytes):Rt (wT t dir s to nm).1:=let ⟨_,g⟩:=h; abm g dir s to nm (fun h=>h)
def Rt.put{t:Tree}(h:Rt t)(ar:Int)(d:Bytes):Rt (rT t ar d).1:=let ⟨_,g⟩:=h; ⟨_,Xm g ar d⟩
def vU(t:Tree)(s:Bytes)(hs:s.length<=100000):(mP t s).2.1.length<=1000:=by
 have:=Gh s hs;unfold mP;split
 ·simp
 ·split
  ·simp
  ·simp only; omega
abbrev Wk:=aa×sR×Int
def Cp(f:aa)(o:jz):Wk :=
 if (ky f.s.now o.dK).2 != 0 then (f,gy,(ky f.s.now o.dK).2)
 else (f,⟨0,(bl f.s.now.ae (ky f.s.now o.dK).1).ar,(bl f.s.now.ae (ky f.s.now o.dK).1).kind,0,0,[],[]⟩,0)
def c93(f:aa)(o:jz)(hf:vr f)(ho:sm o):px 93 f o (Cp f o):=by
 unfold px;refine⟨.slice .c0 [],.slice .c0 [],.inr ⟨rfl,?_⟩,.inr ⟨rfl,?_⟩,aB ?_⟩
 ·unfold Cp; split<;>rfl
 ·unfold Cp; split<;>rfl
 have q1:=fun {M}=>LY f o o.dK hf.rt.small hf.rt.lL (by have:=ho.dK; omega) (p:=0) (M:=M)
 unfold Cp;generalize ky f.s.now o.dK=v at q1 ⊢;simp only[dv,bZ,aL] at q1;cases he:v.2 != 0
 ·simp only[he,af,aE] at q1 ⊢;simp only[afX,E93,dv,bZ,dG,q1,aw,af,aE,EW,seval]
 ·simp only[he,aF,gh] at q1 ⊢;simp only[afX,E93,dv,bZ,dG,gy,q1,he,aF,gh,EW,seval]
def Cq(f:aa)(o:jz):Wk :=
 let v:=mP f.s.now o.dK
 let w:=rX f.s.now v.1 v.2.1 o.n
 let r:=j8 f w.1 f.dX
 if v.2.2 != 0 then (f,gy,v.2.2)
 else if w.2.2 != 0 then (f,gy,w.2.2)
 else if r.2 != 0 then (r.1,gy,r.2)
 else (r.1,⟨0,w.2.1,o.n,0,0,[],[]⟩,0)
def c94(f:aa)(o:jz)(hf:vr f)(ho:sm o):px 94 f o (Cq f o):=by
 unfold px;refine⟨.slice .c0 [],.slice .c0 [],.inr ⟨rfl,?_⟩,.inr ⟨rfl,?_⟩,aB ?_⟩
 ·unfold Cq; simp only[]; split<;>(try split)<;>(try split)<;>rfl
 ·unfold Cq; simp only[]; split<;>(try split)<;>(try split)<;>rfl
 have hp:o.dK.length<=100000:=by have:=ho.dK; omega
 have q1:=fun {M}=>Tv f o o.dK hf.rt.small hf.rt.lL hp (p:=0) (M:=M)
 have hl:=vU f.s.now o.dK hp;unfold Cq;simp only[];generalize mP f.s.now o.dK=v at q1 hl ⊢;have q2:=ata f.s.now hf.rt v.1 v.2.1 o.n aH;have hr:=hf.rt.add v.1 v.2.1 o.n;generalize rX f.s.now v.1 v.2.1 o.n=w at q2 hr ⊢;have q3:=pb w.2.2;have q4:=fun {M}=>PW f o w.1 f.dX hf hr hf.dX hf.sN (p:=0) (M:=M)
 generalize j8 f w.1 f.dX=r at q4 ⊢;simp only[dv,bZ] at q1 q4;cases he:v.2.2 != 0
 ·simp only[he,af,aE] at q1 ⊢;cases hw:w.2.2 != 0
  ·simp only[hw,af,aE] at q3 ⊢;cases hs:r.2 != 0
   ·simp only[hs,af,aE] at q4 ⊢;simp only[S3,E94,dv,bZ,dG,q1,q2,q3,q4,aw,af,aE,EW,seval]
   ·simp only[hs,aF,gh] at q4 ⊢;simp only[S3,E94,dv,bZ,dG,gy,q1,q2,q3,q4,hs,aF,EW,seval]
  ·simp only[hw,aF,gh] at q3 ⊢;simp only[S3,E94,dv,bZ,dG,gy,q1,q2,q3,hw,aF,EW,seval]
 ·simp only[he,aF,gh] at q1 ⊢;simp only[S3,E94,dv,bZ,dG,gy,q1,he,aF,EW,seval]
def aud(t:Tree)(ht:Rt t)(l:List fD)(c h ar:Int)(hl:uH l)(hn:l.length<=64)(M:aC):aR (aq gM) 156 [.agg [ba t.ae,aD t.next,aD t.ak],fN l,aD c,aD h,aD ar] M=some (.tuple [fN (vQ t l c h ar).1,aD (vQ t l c h ar).2],M):=lS (atf t l c h _ ht.small ht.lL hl hn M)
def aue(t:Tree)(ht:Rt t)(l:List fD)(c h:Int)(hn:l.length<=64)(M:aC):aR (aq gM) 157 [.agg [ba t.ae,aD t.next,aD t.ak],fN l,aD c,aD h] M=some (.tuple [.agg (aM (nB t l c h).1),fN (nB t l c h).2.1,aD (nB t l c h).2.2],M):=lS (am4 t l c h ht.small ht.lL hn M)
def ath(t:Tree)(l:List dV)(ar ae bytes:Int)(ht:Rt t)(hq:pA l)(hn:l.length<=16)(M:aC):aR (aq gM) 162 [.agg [ba t.ae,aD t.next,aD t.ak],cY l,aD ar,aD ae,aD bytes] M=some (.tuple [cY (vo t l ar ae bytes).1,aD (vo t l ar ae bytes).2],M) :=
 lS (cO (arb t l _ _ _ ht hq hn) M)
def anv(f:aa)(hf:vr f)(t:Tree)(ht:Rt t)(M:aC):aR (aq gM) 158 [.agg (bM f.s),.agg [ba t.ae,aD t.next,aD t.ak]] M=some (.agg (bM (qz f.s t)),M) :=
 lS (am5 _ t hf.rt.lL hf.rt.sz ht.lL ht.sz (by have:=hf.dW; omega) hf.len (by have:=hf.eR; omega) M)
theorem Rt.gone{t:Tree}(h:Rt t)(c:Int):∀(l k:List fD),Rt (sY c l t k).1:=by
 intro l;induction l generalizing t with
 |nil=>intro k; exact h
 |cons x r ih =>
  intro k;rw[sY];split
  ·exact ih (h.close _ _ _) _
  grind
theorem NB{α:Type}{lt:α->Bool}{R:α->α->Prop}{l:List α}{b:Nat}(h:l.Pairwise R)(hl:Yh lt l b){x:α}(h1:∀y,y∈l->lt y=true->R y x)(h2:∀y,y∈l->lt y=false->R x y)(ht:∀a b c,R a b->R b c->R a c):(l.take b++x::l.drop b).Pairwise R:=by
 have hT:∀y,y∈l.take b->R y x:=by
  intro y hy;obtain⟨i,hi⟩:=bV hy;rw[fz] at hi;split at hi
  ·rename_i hib;exact h1 y (aJ hi) ((hl.lt i y hi).2 hib)
  grind
 have hD:∀y,y∈l.drop b->R x y:=by
  intro y hy;obtain⟨i,hi⟩:=bV hy;rw[cS] at hi;refine h2 y (aJ hi) ?_;cases he:lt y
  ·rfl
  ·have:=(hl.lt _ y hi).1 he; omega
 grind [List.pairwise_cons]
theorem GC{t:Tree}{l:List dV}(hq:pA l)(hn:l.length<=16)(ar ae bytes:Int):pA (vo t l ar ae bytes).1/\(vo t l ar ae bytes).1.length<=16:=by
 have hlow:=yf hq ar;have hat:=RJ (key:=dV.ar) hq ar;have e1:Ym dV.ar l ar=Gc l ar:=rfl;have e2:wP dV.ar l ar=wQ l ar:=rfl;rw[e1,e2] at hat;unfold vo;split
 ·exact⟨hq,hn⟩
 split
 ·exact⟨hq,hn⟩
 split
 ·grind
 split
 ·exact⟨hq,hn⟩
 split
 ·rename_i hi;rcases hat with ⟨_,n,h2,h3,_⟩|⟨h1,_⟩
  ·refine⟨?_,by simpa using hn⟩
   have hm:((l.set (wQ l ar) ⟨ar,ae,bytes⟩).map dV.ar)=l.map dV.ar:=by
    rw[jg];have cQ:=(aj.1 h2).1;refine ct fun i=>?_
    rw[fK]
    grind
   have:((l.set (wQ l ar) ⟨ar,ae,bytes⟩).map dV.ar).Pairwise (· < ·):=by rw[hm]; exact jX.2 hq
   exact jX.1 this
  ·rw[hi] at h1; cases h1
 split
 ·exact⟨hq,hn⟩
 ·rename_i hi dN
  have hne:∀y,y∈l->y.ar≠ar:=by
   grind
  simp only[p8,bh] at dN;refine⟨NB hq hlow (fun y hy h=>?_) (fun y hy h=>?_) (fun a b c h1 h2=>Int.lt_trans h1 h2),by simp; have:=hlow.le; omega⟩
  ·simp only[bh,x6] at h; exact h
  ·simp only[dD,x6] at h; have:=hne y hy; simp only; omega
def Co(f:aa)(o:jz):Wk :=
 let v:=ky f.s.now o.dK
 let n:=bl f.s.now.ae v.1
 let s:=mP f.s.now o.u9
 let w:=CS f.s.now n.ar s.1 s.2.1
 let r:=j8 f w.1 f.dX
 if v.2 != 0 then (f,gy,v.2) else
 if s.2.2 != 0 then (f,gy,s.2.2) else
 if w.2 != 0 then (f,gy,w.2) else
 if r.2 != 0 then (r.1,gy,r.2) else
 (r.1,⟨0,n.ar,0,0,0,[],[]⟩,0)
def c95(f:aa)(o:jz)(hf:vr f)(ho:sm o):px 95 f o (Co f o):=by
 unfold px;have hp:o.dK.length<=100000:=by have:=ho.dK; omega
 have hto:o.u9.length<=100000:=by have:=ho.u9; omega
 refine⟨.slice .c0 [],.slice .c0 [],.inr ⟨rfl,?_⟩,.inr ⟨rfl,?_⟩,aB ?_⟩
 ·unfold Co; simp only[]; split<;>(try split)<;>(try split)<;>(try split)<;>rfl
 ·unfold Co; simp only[]; split<;>(try split)<;>(try split)<;>(try split)<;>rfl
 unfold Co;simp only[];have q1:=fun {M}=>LY f o o.dK hf.rt.small hf.rt.lL hp (p:=0) (M:=M)
 generalize ky f.s.now o.dK=v at q1 ⊢;have q1:=@q1;generalize bl f.s.now.ae v.1=n at q1 ⊢;have hl:=vU f.s.now o.u9 hto;have q2:=fun {M}=>Tv f o o.u9 hf.rt.small hf.rt.lL hto (p:=0) (M:=M)
 have hl:=hl;generalize mP f.s.now o.u9=s at q2 hl ⊢;have q3:=atb f.s.now hf.rt n.ar s.1 s.2.1 aH;have hr:=hf.rt.ln n.ar s.1 s.2.1;generalize CS f.s.now n.ar s.1 s.2.1=w at q3 hr ⊢;have q5:=fun {M}=>PW f o w.1 f.dX hf hr hf.dX hf.sN (p:=0) (M:=M)
 generalize j8 f w.1 f.dX=r at q5 ⊢;simp only[dv,bZ,aL] at q1 q2 q3 q5;cases h0:v.2 != 0
 ·cases h1:s.2.2 != 0
  ·cases h2:w.2 != 0
   ·cases h3:r.2 != 0
    ·simp only[PG,E95,bZ,dG,q1,q2,q3,q5,h0,h1,h2,h3,pb,aw,af,EW,seval]
    ·simp only[PG,E95,bZ,dG,gy,q1,q2,q3,q5,h0,h1,h2,h3,gh,pb,af,EW,seval]
   ·simp only[PG,E95,bZ,dG,gy,q1,q2,q3,h0,h1,h2,gh,pb,af,EW,seval]
  ·simp only[PG,E95,bZ,dG,gy,q1,q2,h0,h1,gh,af,EW,seval]
 simp_all [PG,E95,dv,bZ,dG,gy,gh,EW]
def va(f:aa)(o:jz):Wk :=
 let s:=mP f.s.now o.dK
 let w:=BT f.s.now s.1 s.2.1
 let r:=j8 f w.1 f.dX
 if s.2.2 != 0 then (f,gy,s.2.2) else
 if w.2.2 != 0 then (f,gy,w.2.2) else
 if r.2 != 0 then (r.1,gy,r.2) else
 (r.1,⟨0,w.2.1,0,0,0,[],[]⟩,0)
def c96(f:aa)(o:jz)(hf:vr f)(ho:sm o):px 96 f o (va f o):=by
 unfold px;have hp:o.dK.length<=100000:=by have:=ho.dK; omega
 have hto:o.u9.length<=100000:=by have:=ho.u9; omega
 refine⟨.slice .c0 [],.slice .c0 [],.inr ⟨rfl,?_⟩,.inr ⟨rfl,?_⟩,aB ?_⟩
 ·unfold va; simp only[]; split<;>(try split)<;>(try split)<;>rfl
 ·unfold va; simp only[]; split<;>(try split)<;>(try split)<;>rfl
 unfold va;simp only[];have hl:=vU f.s.now o.dK hp;have q2:=fun {M}=>Tv f o o.dK hf.rt.small hf.rt.lL hp (p:=0) (M:=M)
 have hl:=hl;generalize mP f.s.now o.dK=s at q2 hl ⊢;have q3:=atc f.s.now hf.rt s.1 s.2.1 aH;have hr:=hf.rt.un s.1 s.2.1;generalize BT f.s.now s.1 s.2.1=w at q3 hr ⊢;have q5:=fun {M}=>PW f o w.1 f.dX hf hr hf.dX hf.sN (p:=0) (M:=M)
 generalize j8 f w.1 f.dX=r at q5 ⊢;simp only[dv,bZ] at q2 q3 q5;cases h0:s.2.2 != 0
 ·cases h1:w.2.2 != 0
  ·cases h2:r.2 != 0
   ·simp only[S4,E96,bZ,dG,q2,q3,q5,h0,h1,h2,pb,aw,af,EW,seval]
   ·simp only[S4,E96,bZ,dG,gy,q2,q3,q5,h0,h1,h2,gh,pb,af,EW,seval]
  ·simp only[S4,E96,bZ,dG,gy,q2,q3,h0,h1,gh,pb,af,EW,seval]
 simp_all [S4,E96,bZ,dG,gy,gh,EW]
def u6(f:aa)(o:jz):Wk :=
 let s:=mP f.s.now o.dK
 let u:=mP f.s.now o.u9
 let l:=fg f.s.now.ae s.1 s.2.1
 let w:=wT f.s.now s.1 s.2.1 u.1 u.2.1
 let r:=j8 f w.1 f.dX
 if s.2.2 != 0 then (f,gy,s.2.2) else
 if u.2.2 != 0 then (f,gy,u.2.2) else
 if l.2 != 0 then (f,gy,l.2) else
 if w.2.2 != 0 then (f,gy,w.2.2) else
 if r.2 != 0 then (r.1,gy,r.2) else
 (r.1,⟨0,l.1,0,0,0,[],[]⟩,0)
def c97(f:aa)(o:jz)(hf:vr f)(ho:sm o):px 97 f o (u6 f o):=by
 unfold px;have hp:o.dK.length<=100000:=by have:=ho.dK; omega
 have hto:o.u9.length<=100000:=by have:=ho.u9; omega
 refine⟨.slice .c0 [],.slice .c0 [],.inr ⟨rfl,?_⟩,.inr ⟨rfl,?_⟩,aB ?_⟩
 ·unfold u6; simp only[]; split<;>(try split)<;>(try split)<;>(try split)<;>(try split)<;>rfl
 ·unfold u6; simp only[]; split<;>(try split)<;>(try split)<;>(try split)<;>(try split)<;>rfl
 unfold u6;simp only[];have hl:=vU f.s.now o.dK hp;have q1:=fun {M}=>Tv f o o.dK hf.rt.small hf.rt.lL hp (p:=0) (M:=M)
 have hl:=hl;generalize mP f.s.now o.dK=s at q1 hl ⊢;have hl2:=vU f.s.now o.u9 hto;have q2:=fun {M}=>Tv f o o.u9 hf.rt.small hf.rt.lL hto (p:=0) (M:=M)
 have hl2:=hl2;generalize mP f.s.now o.u9=u at q2 hl2 ⊢;have q3:=auc f.s.now hf.rt s.1 s.2.1 aH;generalize fg f.s.now.ae s.1 s.2.1=l at q3 ⊢;have q4:=atd f.s.now hf.rt s.1 s.2.1 u.1 u.2.1 aH aH;have hr:=hf.rt.mv s.1 s.2.1 u.1 u.2.1;generalize wT f.s.now s.1 s.2.1 u.1 u.2.1=w at q4 hr ⊢;have q5:=fun {M}=>PW f o w.1 f.dX hf hr hf.dX hf.sN (p:=0) (M:=M)
 generalize j8 f w.1 f.dX=r at q5 ⊢;simp only[dv,bZ] at q1 q2 q3 q4 q5;cases h0:s.2.2 != 0
 ·cases h1:u.2.2 != 0
  ·cases h2:l.2 != 0
   ·cases h3:w.2.2 != 0
    ·cases h4:r.2 != 0
     ·simp only[LP,E97,bZ,dG,q1,q2,q3,q4,q5,h0,h1,h2,h3,h4,pb,aw,af,EW,seval]
     ·simp only[LP,E97,bZ,dG,gy,q1,q2,q3,q4,q5,h0,h1,h2,h3,h4,gh,pb,af,EW,seval]
    ·simp only[LP,E97,bZ,dG,gy,q1,q2,q3,q4,h0,h1,h2,h3,gh,pb,af,EW,seval]
   ·simp only[LP,E97,bZ,dG,gy,q1,q2,q3,h0,h1,h2,gh,pb,af,EW,seval]
  ·simp only[LP,E97,bZ,dG,gy,q1,q2,h0,h1,gh,af,EW,seval]
 simp_all [LP,E97,bZ,dG,gy,gh,EW]
def CC(f:aa)(o:jz):Wk :=
 let v:=ky f.s.now o.dK
 let n:=bl f.s.now.ae v.1
 if v.2 != 0 then (f,gy,v.2) else
 (f,⟨0,n.ar,n.kind,n.eG,Cz n,[],[]⟩,0)
def c99(f:aa)(o:jz)(hf:vr f)(ho:sm o):px 99 f o (CC f o):=by
 unfold px;have hp:o.dK.length<=100000:=by have:=ho.dK; omega
 refine⟨.slice .c0 [],.slice .c0 [],.inr ⟨rfl,?_⟩,.inr ⟨rfl,?_⟩,aB ?_⟩
 ·unfold CC; simp only[]; split<;>rfl
 ·unfold CC; simp only[]; split<;>rfl
 unfold CC;simp only[];have q1:=fun {M}=>LY f o o.dK hf.rt.small hf.rt.lL hp (p:=0) (M:=M)
 generalize ky f.s.now o.dK=v at q1 ⊢;have q1:=@q1;generalize bl f.s.now.ae v.1=n at q1 ⊢;have q2:=fun M=>agb n M
 simp only[dv,bZ,aL] at q1 q2;cases h0:v.2 != 0
 ·simp only[afY,E99,bZ,dG,q1,q2,h0,aw,af,EW,seval]
 simp_all [afY,E99,dv,bZ,dG,gy,gh,EW]
def Cr(f:aa)(o:jz):Wk :=
 let v:=ky f.s.now o.dK
 let n:=bl f.s.now.ae v.1
 let w:=vQ f.s.now f.holds o.bF o.handle n.ar
 if v.2 != 0 then (f,gy,v.2) else
 if w.2 != 0 then (f,gy,w.2) else
 (⟨f.s,w.1,f.dX⟩,⟨0,n.ar,0,0,0,[],[]⟩,0)
def aql(f:aa)(o:jz)(hf:vr f)(ho:sm o):px 100 f o (Cr f o):=by
 unfold px;have hp:o.dK.length<=100000:=by have:=ho.dK; omega
 have hto:o.u9.length<=100000:=by have:=ho.u9; omega
 refine⟨.slice .c0 [],.slice .c0 [],.inr ⟨rfl,?_⟩,.inr ⟨rfl,?_⟩,aB ?_⟩
 ·unfold Cr; simp only[]; split<;>(try split)<;>rfl
 ·unfold Cr; simp only[]; split<;>(try split)<;>rfl
 unfold Cr;simp only[];have q1:=fun {M}=>LY f o o.dK hf.rt.small hf.rt.lL hp (p:=0) (M:=M)
 generalize ky f.s.now o.dK=v at q1 ⊢;have q1:=@q1;generalize bl f.s.now.ae v.1=n at q1 ⊢;have q2:=aud f.s.now hf.rt f.holds o.bF o.handle n.ar hf.holds hf.dN;generalize vQ f.s.now f.holds o.bF o.handle n.ar=w at q2 ⊢;simp only[dv,bZ,aL] at q1 q2;cases h0:v.2 != 0
 ·cases h1:w.2 != 0
  ·simp only[Nb,aew,bZ,dG,q1,q2,h0,h1,pb,aw,af,EW,seval]
  ·simp only[Nb,aew,bZ,dG,gy,q1,q2,h0,h1,gh,pb,af,EW,seval]
 simp_all [Nb,aew,dv,bZ,dG,gy,gh,EW]
def xf(f:aa)(o:jz):Wk :=
 let w:=nB f.s.now f.holds o.bF o.handle
 let p:=qz f.s w.1
 if w.2.2 != 0 then (f,gy,w.2.2) else
 (⟨p,w.2.1,f.dX⟩,gy,0)
def aqm(f:aa)(o:jz)(hf:vr f)(ho:sm o):px 101 f o (xf f o):=by
 unfold px;have hp:o.dK.length<=100000:=by have:=ho.dK; omega
 have hto:o.u9.length<=100000:=by have:=ho.u9; omega
 refine⟨.slice .c0 [],.slice .c0 [],.inr ⟨rfl,?_⟩,.inr ⟨rfl,?_⟩,aB ?_⟩
 ·unfold xf; simp only[]; split<;>rfl
 ·unfold xf; simp only[]; split<;>rfl
 unfold xf;simp only[];have q2:=aue f.s.now hf.rt f.holds o.bF o.handle hf.dN;have hr:=hf.rt.close f.holds o.bF o.handle;generalize nB f.s.now f.holds o.bF o.handle=w at q2 hr ⊢;have q3:=anv f hf w.1 hr;generalize qz f.s w.1=p at q3 ⊢;simp only[bM,aM] at q2 q3;cases h0:w.2.2 != 0
 ·simp only[Sx,aiX,bZ,dG,gy,q2,q3,h0,pb,aw,af,EW,seval]
 ·simp only[Sx,aiX,bZ,dG,gy,q2,h0,gh,pb,EW,seval]
def xu(f:aa)(o:jz):Wk :=
 let v:=ky f.s.now o.dK
 let n:=bl f.s.now.ae v.1
 let w:=vo f.s.now f.dX n.ar o.n o.m
 let r:=j8 f f.s.now w.1
 if v.2 != 0 then (f,gy,v.2) else
 if w.2 != 0 then (f,gy,w.2) else
 if r.2 != 0 then (r.1,gy,r.2) else
 (r.1,⟨0,n.ar,0,0,0,[],[]⟩,0)
def aqq(f:aa)(o:jz)(hf:vr f)(ho:sm o):px 105 f o (xu f o):=by
 unfold px;have hp:o.dK.length<=100000:=by have:=ho.dK; omega
 have hto:o.u9.length<=100000:=by have:=ho.u9; omega
 refine⟨.slice .c0 [],.slice .c0 [],.inr ⟨rfl,?_⟩,.inr ⟨rfl,?_⟩,aB ?_⟩
 ·unfold xu; simp only[]; split<;>(try split)<;>(try split)<;>rfl
 ·unfold xu; simp only[]; split<;>(try split)<;>(try split)<;>rfl
 unfold xu;simp only[];have q1:=fun {M}=>LY f o o.dK hf.rt.small hf.rt.lL hp (p:=0) (M:=M)
 generalize ky f.s.now o.dK=v at q1 ⊢;have q1:=@q1;generalize bl f.s.now.ae v.1=n at q1 ⊢;have q2:=ath f.s.now f.dX n.ar o.n o.m hf.rt hf.dX hf.sN;have hr:=GC (t:=f.s.now) hf.dX hf.sN n.ar o.n o.m;generalize vo f.s.now f.dX n.ar o.n o.m=w at q2 hr ⊢;have q5:=fun {M}=>PW f o f.s.now w.1 hf hf.rt hr.1 hr.2 (p:=0) (M:=M)
 generalize j8 f f.s.now w.1=r at q5 ⊢;simp only[dv,bZ,aL] at q1 q2 q5;cases h0:v.2 != 0
 ·cases h1:w.2 != 0
  ·cases h2:r.2 != 0
   ·simp only[Jd,Yr,bZ,dG,q1,q2,q5,h0,h1,h2,pb,aw,af,EW,seval]
   ·simp only[Jd,Yr,bZ,dG,gy,q1,q2,q5,h0,h1,h2,gh,pb,af,EW,seval]
  ·simp only[Jd,Yr,bZ,dG,gy,q1,q2,h0,h1,gh,pb,af,EW,seval]
 simp_all [Jd,Yr,dv,bZ,dG,gy,gh,EW]
def CE(f:aa)(o:jz):Wk :=
 let v:=ky f.s.now o.dK
 let n:=bl f.s.now.ae v.1
 let w:=takeN f.s n.ar
 if v.2 != 0 then (f,gy,v.2) else
 if w.2.2 != 0 then (f,gy,w.2.2) else
 (⟨w.1,f.holds,f.dX⟩,⟨0,0,0,w.2.1,0,[],[]⟩,0)
def aqr(f:aa)(o:jz)(hf:vr f)(ho:sm o):px 106 f o (CE f o):=by
 unfold px;have hp:o.dK.length<=100000:=by have:=ho.dK; omega
 have hto:o.u9.length<=100000:=by have:=ho.u9; omega
 refine⟨.slice .c0 [],.slice .c0 [],.inr ⟨rfl,?_⟩,.inr ⟨rfl,?_⟩,aB ?_⟩
 ·unfold CE; simp only[]; split<;>(try split)<;>rfl
 ·unfold CE; simp only[]; split<;>(try split)<;>rfl
 unfold CE;simp only[];have q1:=fun {M}=>LY f o o.dK hf.rt.small hf.rt.lL hp (p:=0) (M:=M)
 generalize ky f.s.now o.dK=v at q1 ⊢;have q1:=@q1;generalize bl f.s.now.ae v.1=n at q1 ⊢;have q2:=fun M=>lS (ati f.s n.ar hf.rt.small hf.rt.lL hf.dW M)
 generalize takeN f.s n.ar=w at q2 ⊢;simp only[dv,bZ,aL,bM,aM] at q1 q2;cases h0:v.2 != 0
 ·cases h1:w.2.2 != 0
  ·simp only[Nd,aey,dv,bZ,dG,gy,q1,q2,h0,h1,pb,aw,af,aF,aE,EW,seval]
  ·simp only[Nd,aey,dv,bZ,dG,gy,q1,q2,h0,h1,gh,pb,aw,af,aF,aE,EW,seval]
 ·simp only[Nd,aey,dv,bZ,dG,gy,q1,q2,h0,gh,pb,aw,af,aF,aE,EW,seval]
def B7(f:aa)(o:jz):Wk :=
 let w:=ru f.s o.n
 if w.2 != 0 then (f,gy,w.2) else
 (⟨w.1,f.holds,f.dX⟩,gy,0)
def aqt(f:aa)(o:jz)(hf:vr f)(ho:sm o):px 108 f o (B7 f o):=by
 unfold px;have hp:o.dK.length<=100000:=by have:=ho.dK; omega
 have hto:o.u9.length<=100000:=by have:=ho.u9; omega
 refine⟨.slice .c0 [],.slice .c0 [],.inr ⟨rfl,?_⟩,.inr ⟨rfl,?_⟩,aB ?_⟩
 ·unfold B7; simp only[]; split<;>rfl
 ·unfold B7; simp only[]; split<;>rfl
 unfold B7;simp only[];have q2:=fun M=>lS (atk f.s o.n (by have:=hf.dW; omega) (by have:=hf.eR; omega) M)
 generalize ru f.s o.n=w at q2 ⊢;simp only[dv,bZ,aL,bM,aM] at q2;cases h0:w.2 != 0
 ·simp only[Sy,aiY,dv,bZ,dG,gy,q2,h0,pb,aw,af,aF,aE,EW,seval]
 ·simp only[Sy,aiY,dv,bZ,dG,gy,q2,h0,gh,pb,aw,af,aF,aE,EW,seval]
def AY(f:aa)(o:jz):Wk :=
 let w:=DW f.s.now f.holds o.bF
 let p:=qz f.s w.1
 (⟨p,w.2,f.dX⟩,gy,0)
def aqu(f:aa)(o:jz)(hf:vr f)(ho:sm o):px 109 f o (AY f o):=by
 unfold px;have hp:o.dK.length<=100000:=by have:=ho.dK; omega
 have hto:o.u9.length<=100000:=by have:=ho.u9; omega
 refine⟨.slice .c0 [],.slice .c0 [],.inr ⟨rfl,?_⟩,.inr ⟨rfl,?_⟩,aB ?_⟩
 ·unfold AY; simp only[]; skip<;>rfl
 ·unfold AY; simp only[]; skip<;>rfl
 unfold AY;simp only[];have q2:=fun M=>lS (atl f.s.now f.holds o.bF hf.rt hf.dN M)
 have hr:=(show Rt (DW f.s.now f.holds o.bF).1 from hf.rt.gone o.bF _ _)
 generalize DW f.s.now f.holds o.bF=w at q2 hr ⊢;have q3:=anv f hf w.1 hr;generalize qz f.s w.1=p at q3 ⊢;simp only[dv,bZ,aL,bM,aM] at q2 q3;simp only[acH,apf,dv,bZ,dG,gy,q2,q3,aw,af,aF,aE,EW,seval]
def jd(f:aa)(o:jz):Node×Int :=
 if (LX f.holds o.bF o.handle).2 != 0 then (Node.zero,(LX f.holds o.bF o.handle).2)
 else if decide (0<=o.n) then (bl f.s.now.ae (LX f.holds o.bF o.handle).1,0) else (Node.zero,1)
def aq9(f:aa)(o:jz)(hf:vr f):aq gM 159 [cC 0] [dv f o]=some (if (jd f o).2 != 0 then gh (jd f o).2 else .agg (aL (jd f o).1),[dv f o]):=by
 refine aB ?_;have q1:=fun M=>lS (atE f.holds o.bF o.handle (by have:=hf.dN; omega) M)
 have q2:=fun bb=>Q9 bb 1 rfl
 unfold jd;generalize LX f.holds o.bF o.handle=v at q1 ⊢;have q3:=fun {M}=>ana f o v.1 hf.rt.small hf.rt.lL (p:=0) (M:=M)
 simp only[dv,bZ,aL] at q3;cases h0:v.2 != 0
 ·cases h1:decide (0<=o.n)
  ·simp only[Nl,aeI,dv,bZ,aL,q1,q2,q3,pb,h0,h1,gh,aw,af,aF,aE,EW,seval]
  ·simp only[Nl,aeI,dv,bZ,aL,q1,q2,q3,pb,h0,h1,gh,aw,af,aF,aE,EW,seval]
 ·simp only[Nl,aeI,dv,bZ,aL,q1,q2,q3,pb,h0,gh,aw,af,aF,aE,EW,seval]
def agc(f:aa)(o:jz)(hf:vr f){p:Nat}{M:aC}(hM:nth M p=some (dv f o)):aR (aq gM) 159 [cC p] M=some (if (jd f o).2 != 0 then gh (jd f o).2 else .agg (aL (jd f o).1),M):=by
 have:=JD (vs:=[]) hM (aq9 f o hf) rfl rfl (by split<;>rfl) (fun _=>rfl) (fun _=>by split<;>rfl)
 rwa[u7 hM] at this
def rD(f:aa)(o:jz)(ar:Int)(d:Bytes):Wk :=
 let w:=rT f.s.now ar d
 let r:=j8 f w.1 f.dX
 if w.2 != 0 then (f,gy,w.2) else
 if r.2 != 0 then (r.1,gy,r.2) else
 (r.1,⟨0,ar,0,0,d.length,[],[]⟩,0)
def ara(f:aa)(o:jz)(hf:vr f)(ar:Int)(d:Bytes)(hd:d.length<=100000):aq gM 161 [cC 0,aD ar,df d] [dv f o] =
  some (if (rD f o ar d).2.2 != 0 then gh (rD f o ar d).2.2 else .tuple [],[dG (rD f o ar d).1 o (rD f o ar d).2.1 (.slice .c0 []) (.slice .c0 [])]):=by
 refine aB ?_;unfold rD;simp only[];have q1:=anu f.s.now hf.rt ar d hd;have hr:=hf.rt.put ar d;generalize rT f.s.now ar d=w at q1 hr ⊢;have q5:=fun {M}=>PW f o w.1 f.dX hf hr hf.dX hf.sN (p:=0) (M:=M)
 generalize j8 f w.1 f.dX=r at q5 ⊢;simp only[dv,bZ] at q5;cases h0:w.2 != 0
 ·cases h1:r.2 != 0
  ·simp only[Nn,aeJ,dv,bZ,dG,gy,q1,q5,pb,h0,h1,aw,af,aF,aE,EW,seval]
  ·simp only[Nn,aeJ,dv,bZ,dG,gy,q1,q5,pb,h0,h1,gh,aw,af,aF,aE,EW,seval]
 ·simp only[Nn,aeJ,dv,bZ,dG,gy,q1,q5,pb,h0,gh,aw,af,aF,aE,EW,seval]
def am6(f:aa)(o:jz)(hf:vr f)(ar:Int)(d:Bytes)(hd:d.length<=100000){p:Nat}{M:aC}(hM:nth M p=some (dv f o)):aR (aq gM) 161 [cC p,aD ar,df d] M =
  some (if (rD f o ar d).2.2 != 0 then gh (rD f o ar d).2.2 else .tuple [],jo M p (dG (rD f o ar d).1 o (rD f o ar d).2.1 (.slice .c0 []) (.slice .c0 []))) :=
 tx hM (ara f o hf ar d hd) rfl rfl (by split<;>rfl) rfl (by split<;>rfl) rfl rfl rfl rfl rfl
end
section
theorem auf(d:Bytes)(hd:d.length<=100000)(M:aC):aR (aq gM) 160 [df d] M=some (df d,M):=by
 have h:aq bX 160 [df d] []=some (df d,[]):=by
  refine eP rfl ?_
  show J0 1 1 [df d] _=_
  grind [J0,sk,cB,fh]
 exact lS (cO h M)
def BP(X w:Bytes)(N:Nat)(h:N+w.length<=X.length):List.take X.length (List.take N (X.map qB)++(List.take w.length (w.map qB)++List.drop (N+w.length) (X.map qB)))=(X.take N++(w++X.drop (N+w.length))).map qB:=by
 rw[bt jO,bt (l:=w.map _) dw];simp
def KB(k:Nat):List.replicate k (ag.agg [.int .u8 0]).norm=(List.replicate k (0:UInt8)).map qB:=by
 rw[gX]; rfl
def ZF(M:aC)(id ver sz lo hi:Nat):ag.rz M (.cE id ver sz lo hi)=match nth M id with
  |some (.arr _ v xs)=>if v=ver then gv ((xs.take hi).drop lo) else .any
  |_ => .any:=rfl
theorem p93{d:Bytes}(h0:d≠[])(hd:d.length<=100000)(b:cV)(M:aC):aq gM 160 [gv (d.map qB)] (b::M)=some (.cE (M.length+1) 0 1 0 d.length,(b::M)++[.arr 1 0 (d.map qB)]):=by
 refine lS' (eP rfl ?_)
 show mO 1 1 [gv _] _=_
 obtain⟨a,r,rfl⟩:=fi h0
 grind [wid,sk,cB,mO,fh]
def aom{d:Bytes}(h0:d=[])(b:cV)(M:aC):aq gM 160 [gv (d.map qB)] (b::M)=some (.slice .c0 [],b::M):=by
 subst h0;exact lS' (eP rfl rfl)
def Bv(a:Int)(n:Nat):Nat:=(if (n:Int)<a then (n:Int) else a).toNat
theorem Ae{a:Int}(h:0<=a)(n:Nat):(if (n:Int)<a then (n:Int) else a)=(Bv a n:Int)/\Bv a n<=n:=by
 grind [Bv]
theorem C2{f:aa}{o:jz}(h:((jd f o).2 != 0)=false):0<=o.n/\∃i,(jd f o).1=bl f.s.now.ae i:=by
 grind [jd]
def xC{f:aa}(hf:vr f)(i:Int):(bl f.s.now.ae i).data.length<=4096/\(bl f.s.now.ae i).bc.length<=64:=by
 obtain⟨dJ,h⟩:=hf.rt;unfold bl;cases hi:find _ i with
 |none=>simp[Node.zero]
 |some n =>
  simp;refine⟨?_,(h.yv _ _ hi).2⟩;rcases h.kind _ _ hi with h1|h1
  ·exact(h.file _ _ hi h1).2.2
  ·rw[h.dir _ _ hi h1]; simp
attribute [local irreducible] eS fI lx gK dZ kr aq aR cu bJ
def IV(f:aa)(o:jz):Wk :=
 if (jd f o).2 != 0 then (f,gy,(jd f o).2)
 else rD f o (jd f o).1.ar ((jd f o).1.data.take (Bv o.n (jd f o).1.data.length))
theorem tQ(f:aa)(o:jz)(ar:Int)(d:Bytes):(rD f o ar d).2.1.names=[]/\(rD f o ar d).2.1.data=[]:=by
 unfold rD; simp only; split
 ·exact⟨rfl,rfl⟩
 ·split<;>exact⟨rfl,rfl⟩
def aqp(f:aa)(o:jz)(hf:vr f)(ho:sm o):px 104 f o (IV f o):=by
 unfold px;refine⟨.slice .c0 [],.slice .c0 [],.inr ⟨rfl,?_⟩,.inr ⟨rfl,?_⟩,aB ?_⟩
 ·unfold IV; split
  ·rfl
  simp[tQ]
 ·unfold IV; split
  ·rfl
  simp[tQ]
 have q1:=fun {M}=>agc f o hf (p:=0) (M:=M)
 have hn:=C2 (f:=f) (o:=o);unfold IV;cases h0:(jd f o).2 != 0
 ·obtain⟨hn0,i,hi⟩:=hn h0;have hsz:=(xC hf i).1;rw[<-hi] at hsz;generalize (jd f o).1=n at q1 hsz ⊢;generalize (jd f o).2=e at q1 h0 ⊢;obtain⟨m1,m2⟩:=Ae hn0 n.data.length;generalize Bv o.n n.data.length=mn at m1 m2 ⊢;have q2:=fun {M}=>am6 f o hf n.ar (n.data.take mn) gr (p:=0) (M:=M)
  generalize rD f o n.ar (n.data.take mn)=r at q2 ⊢;have hle:((mn:Int)<=(n.data.length:Int))=True:=gr;have hz:((0:Int)<=(mn:Int))=True:=dw;simp only[dv,bZ,dG,aL,df,ec] at q1 q2;cases h1:r.2.2 != 0
  ·simp only[Nc,aex,bZ,dG,q1,q2,h0,h1,m1,hle,hz,gA,af,EW,seval]
  ·simp only[Nc,aex,bZ,dG,q1,q2,h0,h1,m1,hle,hz,gA,gh,af,EW,seval]
 simp_all [dv,bZ,Nc,aex,dG,gy,gh,EW]
def GD(f:aa)(o:jz):Wk :=
 if (jd f o).2 != 0 then (f,gy,(jd f o).2) else
 if !(decide (0<=o.m)&&decide (o.m<=4096)) then (f,gy,1) else
 (f,⟨0,(jd f o).1.ar,0,0,0,[],((jd f o).1.data.drop (Bv o.n (jd f o).1.data.length)).take (Bv o.m ((jd f o).1.data.length-Bv o.n (jd f o).1.data.length))⟩,0)
theorem aqn(f:aa)(o:jz)(hf:vr f)(ho:sm o):px 102 f o (GD f o):=by
 unfold px;have q1:=fun {M}=>agc f o hf (p:=0) (M:=M)
 have hn:=C2 (f:=f) (o:=o);have q2:=fun bb=>Q9 bb 1 rfl
 unfold GD;cases h0:(jd f o).2 != 0
 ·obtain⟨hn0,i,hi⟩:=hn h0;have hsz:=(xC hf i).1;rw[<-hi] at hsz;generalize (jd f o).1=n at q1 hsz ⊢;generalize (jd f o).2=e at q1 h0 ⊢;obtain⟨m1,m2⟩:=Ae hn0 n.data.length;generalize Bv o.n n.data.length=mn at m1 m2 ⊢;have hle:((mn:Int)<=(n.data.length:Int))=True:=jO;have hz:∀k:Nat,((0:Int)<=(k:Int))=True:=fun k=>dw
  have ht:List.take n.data.length (n.data.map qB)=n.data.map qB:=bt dw;have dN:(List.drop mn (n.data.map qB)).length=n.data.length-mn:=dw;cases h1:(!(decide (0<=o.m)&&decide (o.m<=4096)))
  ·have h1':decide (0<=o.m)=true/\decide (o.m<=4096)=true:=by simpa using h1
   have hm0:0<=o.m:=jO;obtain⟨p1,p2⟩:=Ae hm0 (n.data.length-mn);generalize Bv o.m (n.data.length-mn)=mm at p1 p2 ⊢;have hle2:((mm:Int)<=((n.data.length-mn:Nat):Int))=True:=jO;have hw1:wid (List.drop mn (n.data.map qB)) 1=True:=by have:=sk (n.data.drop mn); rwa[jW] at this
   have q3:=fun M=>auf ((n.data.drop mn).take mm) jO M
   refine⟨.slice .c0 [],df ((n.data.drop mn).take mm),.inr ⟨rfl,rfl⟩,.inl rfl,aB ?_⟩;simp only[dv,bZ,aL,df,ec,jW] at q1 q3;simp only[Jc,Yq,bZ,dG,q1,q2,q3,h0,h1'.1,h1'.2,m1,p1,hle,hle2,hz,ht,dN,hw1,gA,df,jW,dS,aw,af,EW,seval]
  ·refine⟨.slice .c0 [],.slice .c0 [],.inr ⟨rfl,rfl⟩,.inr ⟨rfl,rfl⟩,aB ?_⟩
   have h1':(decide (0<=o.m)&&decide (o.m<=4096))=false:=by
    grind
   simp only[dv,bZ,aL,df] at q1;cases ha:decide (0<=o.m)<;>cases hb:decide (o.m<=4096)<;>simp only[ha,hb,jS,dR,gd] at h1'
   ·grind
   ·simp only[Jc,Yq,bZ,dG,gy,q1,q2,h0,ha,gh,af,EW,seval]
   ·simp only[Jc,Yq,bZ,dG,gy,q1,q2,h0,ha,hb,gh,af,EW,seval]
   ·cases h1'
 ·refine⟨.slice .c0 [],.slice .c0 [],.inr ⟨rfl,rfl⟩,.inr ⟨rfl,rfl⟩,aB ?_⟩;simp_all [dv,bZ,Jc,Yq,dG,gy,gh,af,EW]
def n9(d:Bytes)(n:Nat)(w:Bytes):Bytes :=
 if w=[] then d else (d++List.replicate (n+w.length-d.length) 0).take n++(w++(d++List.replicate (n+w.length-d.length) 0).drop (n+w.length))
def xT(f:aa)(o:jz):Wk :=
 if (jd f o).2 != 0 then (f,gy,(jd f o).2) else
 if !decide (o.n<=4096) then (f,gy,1) else
 if !decide (((o.n.toNat+o.data.length:Nat):Int)<=4096) then (f,gy,2) else
 rD f o (jd f o).1.ar (n9 (jd f o).1.data o.n.toNat o.data)
theorem aqo(f:aa)(o:jz)(hf:vr f)(ho:sm o):px 103 f o (xT f o):=by
 unfold px;refine⟨.slice .c0 [],.slice .c0 [],.inr ⟨rfl,?_⟩,.inr ⟨rfl,?_⟩,aB ?_⟩
 ·unfold xT; split
  ·rfl
  ·split
   ·rfl
   ·split
    ·rfl
    grind [tQ]
 ·unfold xT; split
  ·rfl
  ·split
   ·rfl
   ·split
    ·rfl
    ·rw[(tQ ..).2]; rfl
 have q1:=fun {M}=>agc f o hf (p:=0) (M:=M)
 have hn:=C2 (f:=f) (o:=o);have q2:=fun bb=>Q9 bb 1 rfl
 have q3:=fun bb=>Q9 bb 2 rfl
 unfold xT;cases h0:(jd f o).2 != 0
 ·obtain⟨hn0,i,hi⟩:=hn h0;have hsz:=(xC hf i).1;rw[<-hi] at hsz;generalize (jd f o).1=n at q1 hsz ⊢;generalize (jd f o).2=e at q1 h0 ⊢;simp only[dv,bZ,aL] at q1;cases h1:decide (o.n<=4096)
  ·simp only[yG,H4,bZ,dG,gy,q1,q2,h0,h1,gh,af,EW,seval]
  ·have hn1:o.n<=4096:=by simpa using h1
   obtain⟨N,hN⟩:∃N:Nat,o.n=(N:Int):=⟨o.n.toNat,aH⟩;have hdl:=ho.data;have hw:IntKind.i64.wrap ((N:Int)+(o.data.length:Int))=((N+o.data.length:Nat):Int):=by rw[gx aH aH]; omega
   have hT:o.n.toNat=N:=aH;rw[hT];rw[hN] at q1 h1;cases h2:decide (((N+o.data.length:Nat):Int)<=4096)
   ·simp only[yG,H4,bZ,dG,gy,q1,q2,q3,h0,h1,h2,hw,hN,gh,af,EW,seval]
   ·have hE:N+o.data.length<=4096:=by
     have:((N+o.data.length:Nat):Int)<=4096:=by simpa using h2
     omega
    have hwl:(n9 n.data N o.data).length<=100000:=by
     unfold n9; split
     ·omega
     ·simp; omega
    have q4:=fun {M}=>am6 f o hf n.ar (n9 n.data N o.data) hwl (p:=0) (M:=M)
    generalize rD f o n.ar (n9 n.data N o.data)=r at q4 ⊢;simp only[dv,bZ,dG,df,hN] at q4
    by_cases hD:o.data=[]
    ·have hg:((0:Int)<(o.data.length:Int))=False:=by simp[hD]
     have hwr:n9 n.data N o.data=n.data:=by unfold n9; rw[aZ hD]
     rw[hwr] at q4
     by_cases hd0:n.data=[]
     ·have p1:=aom (d:=n.data) hd0;rw[hd0] at q4;simp only[aV] at q4;cases h3:r.2.2 != 0<;>simp only[yG,H4,bZ,dG,q1,q2,q3,q4,p1,h0,h1,h2,h3,hN,hw,hg,gh,df,qE,af,EW,seval]
     ·have p1:=p93 (d:=n.data) hd0 aH;have ht:List.take n.data.length (n.data.map qB)=n.data.map qB:=bt dw;cases h3:r.2.2 != 0<;>simp only[yG,H4,bZ,dG,q1,q2,q3,q4,p1,h0,h1,h2,h3,hN,hw,hg,ht,gh,df,ZF,qE,af,EW,seval]
    ·have hdl0:0<o.data.length:=gP.2 hD;have hg:((0:Int)<(o.data.length:Int))=True:=gr;have hwb:=sk o.data
     by_cases hd0:n.data=[]
     ·have p1:=aom (d:=n.data) hd0;have hk:IntKind.i64.wrap (((N+o.data.length:Nat):Int)-0)=((N+o.data.length:Nat):Int):=by rw[gx aH aH]; simp
      have hm:(((N+o.data.length:Nat):Int)<0)=False:=gr;have hmi:min o.data.length (N+o.data.length-N)=o.data.length:=aH;have rk:cB (N+o.data.length) 1=True:=qV;have b0:(((N+o.data.length:Nat):Int)==0)=false:=gr;have b1:((N:Int)==((N+o.data.length:Nat):Int))=false:=gr;have b2:((N:Int)<=((N+o.data.length:Nat):Int))=True:=gr;have b3:(((N+o.data.length:Nat):Int)<=((N+o.data.length:Nat):Int))=True:=dw;have hz:=KB (N+o.data.length);have htl:=BP (List.replicate (N+o.data.length) 0) o.data N dw
      have hwr:n9 n.data N o.data=(List.replicate (N+o.data.length) 0).take N++(o.data++(List.replicate (N+o.data.length) 0).drop (N+o.data.length)):=by
       unfold n9; rw[aQ hD,hd0]; simp
      rw[hwr,<-htl] at q4;rw[kW] at q4;have l1:(0<((List.replicate (N+o.data.length) (0:UInt8)).map qB).length)=True:=gr;generalize (List.replicate (N+o.data.length) (0:UInt8)).map qB=X at hz q4 l1;cases h3:r.2.2 != 0<;>simp only[yG,H4,bZ,dG,q1,q2,q3,q4,p1,h0,h1,h2,h3,hN,hw,hg,hk,hm,hmi,hwb,rk,b0,b1,b2,b3,hz,l1,gA,gh,df,ZF,qE,bO,af,EW,seval]
     ·have p1:=p93 (d:=n.data) hd0 aH;have hL0:0<n.data.length:=gP.2 hd0;have l0:(0<n.data.length)=True:=gr;have hwn:=sk n.data
      by_cases hE2:N+o.data.length<=n.data.length
      ·have hk:IntKind.i64.wrap (((N+o.data.length:Nat):Int)-(n.data.length:Int))=((N+o.data.length:Nat):Int)-(n.data.length:Int):=gx aH aH;have hmx:(if ((N+o.data.length:Nat):Int)-(n.data.length:Int)<0 then (0:Int) else ((N+o.data.length:Nat):Int)-(n.data.length:Int))=0:=by split<;>omega
       have hmi:min o.data.length (n.data.length-N)=o.data.length:=aH;have rk:cB (n.data.length+0) 1=True:=qV;have rk0:cB n.data.length 1=True:=qV;have b1:((N:Int)==(n.data.length:Int))=false:=gr;have b2:((N:Int)<=(n.data.length:Int))=True:=gr;have htl:=BP n.data o.data N hE2
       have hwr:n9 n.data N o.data=n.data.take N++(o.data++n.data.drop (N+o.data.length)):=by
        unfold n9; rw[aQ hD,show N+o.data.length-n.data.length=0 by omega]; simp
       rw[hwr,<-htl] at q4;cases h3:r.2.2 != 0<;>simp only[yG,H4,bZ,dG,q1,q2,q3,q4,p1,h0,h1,h2,h3,hN,hw,hg,hk,hmx,hmi,hwb,rk0,l0,b1,b2,gA,gh,df,dS,ZF,qE,bO,af,EW,seval]
      ·have hk:IntKind.i64.wrap (((N+o.data.length:Nat):Int)-(n.data.length:Int))=((N+o.data.length:Nat):Int)-(n.data.length:Int):=gx aH aH;have hmx:(if ((N+o.data.length:Nat):Int)-(n.data.length:Int)<0 then (0:Int) else ((N+o.data.length:Nat):Int)-(n.data.length:Int))=((N+o.data.length-n.data.length:Nat):Int):=by split<;>omega
       have hsum:n.data.length+(N+o.data.length-n.data.length)=N+o.data.length:=aH;have hmi:min o.data.length (N+o.data.length-N)=o.data.length:=aH;have rk:cB (N+o.data.length) 1=True:=qV;have b0:(((N+o.data.length-n.data.length:Nat):Int)==0)=false:=gr;have b1:((N:Int)==((N+o.data.length:Nat):Int))=false:=gr;have b2:((N:Int)<=((N+o.data.length:Nat):Int))=True:=gr;have hz:=KB (N+o.data.length-n.data.length);have htl:=BP (n.data++List.replicate (N+o.data.length-n.data.length) 0) o.data N gr
       have hwr:n9 n.data N o.data=(n.data++List.replicate (N+o.data.length-n.data.length) 0).take N++(o.data++(n.data++List.replicate (N+o.data.length-n.data.length) 0).drop (N+o.data.length)):=by
        unfold n9; rw[aQ hD]
       rw[hwr,<-htl] at q4;have hlX:(n.data++List.replicate (N+o.data.length-n.data.length) (0:UInt8)).length=N+o.data.length:=gr;rw[hlX,aW] at q4;have l1:(0<N+o.data.length)=True:=gr;have lz:((List.replicate (N+o.data.length-n.data.length) (0:UInt8)).map qB).length=N+o.data.length-n.data.length:=dw;generalize (List.replicate (N+o.data.length-n.data.length) (0:UInt8)).map qB=Z at hz q4 lz;cases h3:r.2.2 != 0<;>simp only[yG,H4,bZ,dG,q1,q2,q3,q4,p1,h0,h1,h2,h3,hN,hw,hg,hk,hmx,hsum,hmi,hwb,rk,l0,l1,lz,b0,b1,b2,hz,gA,gh,df,dS,ZF,qE,bO,af,EW,seval]
 ·simp only[dv,bZ,aL] at q1;simp only[yG,H4,bZ,dG,gy,q1,h0,gh,EW,seval]
end
section
attribute [local irreducible] eS fI lx gK dZ kr aq aR cu bJ
def alp(z:Int):aq bX 166 [gv [],.func 206 [cC 0]] [cF [aD z]]=some (aD (-1),[cF [aD z]]):=by
 have h00:decide ((0:Int)<0)=false:=rfl;have hz:((0:Nat):Int)=0:=rfl;refine aB ?_;simp only[ac9,ai4,hz,EN,seval];rw[bI];simp only[ai4,h00,EN,seval]
end
def am7(z:Int):aR (aq bX) 166 [gv [],.func 206 [cC 0]] [cF [aD z]]=some (aD (-1),[cF [aD z]]) :=
 lk (ids:=[0]) rfl rfl (show j7 [cF [aD z]] (iw [0]) [0]=some [cF [aD z]] from rfl) rfl rfl (alp z) rfl rfl rfl rfl rfl
section
attribute [local irreducible] eS fI lx gK dZ kr aq aR cu bJ
def alx(z:Int):aq bX 204 [gv [],.func 206 [cC 0]] [cF [aD z]]=some (gv [],[cF [aD z]]):=by
 have h11:((-1:Int) == -1)=true:=rfl;refine aB ?_;simp only[adz,apw,am7,h11,EN,seval]
end
def ani(z:Int)(b0 b2 b3:cV):aR (aq bX) 204 [gv [],.func 206 [cC 1]] [b0,cF [aD z],b2,b3]=some (gv [],[b0,cF [aD z],b2,b3]) :=
 lk (ids:=[1]) rfl rfl (show j7 [b0,cF [aD z],b2,b3] (iw [1]) [1]=some [cF [aD z]] from rfl) rfl rfl (alx z) rfl rfl rfl rfl rfl
def aer(b0 b2 b3:cV)(xs:List ag)(z:Int):j7 [b0,cF [aD z],b2,b3,.arr 3 0 xs] (iw [4,1]) [4,1]=some [.arr 3 0 xs,cF [aD z]]:=rfl
def atx(xs:List gN)(z:Int)(hn:xs.length<=100000)(h0:xs≠[])(hk:ra z xs≠[])(b0 b2 b3:cV):aR (aq bX) 204 [.cE 4 0 3 0 xs.length,.func 206 [cC 1]] [b0,cF [aD z],b2,b3,.arr 3 0 (xs.map iG)] =
  some (.cE 4 0 3 0 (ra z xs).length,[b0,cF [aD z],b2,b3,.arr 3 0 ((ra z xs++List.replicate (xs.length-(ra z xs).length) MJ).map iG)]):=by
 have h:=alw xs z hn h0;have hl:(ra z xs).length≠0:=fun hh=>hk (dU.1 hh)
 have hr:Xy (ra z xs).length = .cE 0 0 3 0 (ra z xs).length:=by simp[Xy,DC,hl]
 rw[hr] at h;exact lk (ids:=[4,1]) rfl rfl (aer ..) rfl rfl h rfl rfl rfl rfl rfl
def anj(xs:List gN)(z:Int)(hn:xs.length<=100000)(h0:xs≠[])(hk:ra z xs=[])(b0 b2 b3:cV):aR (aq bX) 204 [.cE 4 0 3 0 xs.length,.func 206 [cC 1]] [b0,cF [aD z],b2,b3,.arr 3 0 (xs.map iG)] =
  some (gv [],[b0,cF [aD z],b2,b3,.arr 3 0 ((List.replicate xs.length MJ).map iG)]):=by
 have h:=alw xs z hn h0;have hr:Xy (ra z xs).length = gv []:=by simp[Xy,DC,hk]
 rw[hr,hk] at h;simp only[aP,az,bO] at h;exact lk (ids:=[4,1]) rfl rfl (aer ..) rfl rfl h rfl rfl rfl rfl rfl
section
attribute [local irreducible] eS fI lx gK dZ kr aq aR cu bJ
end
section
def F8(x:gN):List gN->List gN
 | []=>[x]
 |y::r=>if x.ak<y.ak then x::y::r else y::F8 x r
def uB:List gN->List gN
 | []=>[]
 |x::r=>F8 x (uB r)
def aua(n:gN):um 2 (iG n)=n.ak:=rfl
def Ju(x:gN):∀l:List gN,D3 2 (iG x) (l.map iG)=(F8 x l).map iG
 | []=>rfl
 |y::r=>by
  simp only[aK,D3,F8,aua]
  by_cases h:x.ak<y.ak
  ·simp only[h,aF,aK]
  ·simp only[h,aE,aK,Ju x r]
def GJ:∀l:List gN,rV 2 (l.map iG)=(uB l).map iG
 | []=>rfl
 |x::r=>by simp only[aK,rV,uB,GJ r,Ju]
def F9(x:gN):∀l,(F8 x l).length=l.length+1
 | []=>rfl
 |y::r=>by simp only[F8]; split<;>simp[F9 x r]
def wx:∀l,(uB l).length=l.length
 | []=>rfl
 |x::r=>by simp[uB,F9,wx r]
def Mt{l Z:List gN}{v:Nat}(hl:l.length<=1000000)(hn:(l.map gN.ak).Nodup):aq bX 207 [.cE 0 v 3 0 l.length,.func 208 []] [.arr 3 v ((l++Z).map iG)]=some (.tuple [],[.arr 3 v ((uB l++Z).map iG)]):=by
 refine eP (g:=wL 3 2 208) rfl ?_;unfold wL;simp only[nth];have ht:((l++Z).map iG).take l.length=l.map iG:=by simp[fQ]
 have hd:((l++Z).map iG).drop l.length=Z.map iG:=dw;rw[ht,hd,GJ,<-aW];rw[fh]
 ·rfl
 ·refine⟨trivial,trivial,trivial,dw,trivial,aH,?_,?_⟩
  ·intro x hx;obtain⟨n,_,rfl⟩:=eJ.1 hx;rfl
  ·rw[gI];exact hn
def aor(xs:List ag)(v:Nat)(b0 b1 b2 b3:cV):j7 [b0,b1,b2,b3,.arr 3 v xs] (iw [4]) [4]=some [.arr 3 v xs]:=rfl
attribute [local irreducible] eS fI lx gK dZ kr aq aR cu bJ
def atz{l Z:List gN}{v:Nat}(hl:l.length<=1000000)(hn:(l.map gN.ak).Nodup)(b0 b1 b2 b3:cV):aR (aq bX) 207 [.cE 4 v 3 0 l.length,.func 208 []] [b0,b1,b2,b3,.arr 3 v ((l++Z).map iG)]=some (.tuple [],[b0,b1,b2,b3,.arr 3 v ((uB l++Z).map iG)]) :=
 lk (ids:=[4]) rfl rfl (aor _ _ ..) rfl rfl (Mt hl hn) rfl rfl rfl rfl rfl
def aeh(M:aC):aR (aq bX) 207 [gv [],.func 208 []] M=some (.tuple [],M):=by
 have h:aq bX 207 [gv [],.func 208 []] []=some (.tuple [],[]):=by
  refine eP (g:=wL 3 2 208) rfl ?_;unfold wL;simp only[aF]
 exact cO h M
def zV(ae:List Node)(ar z:Int):List gN:=uB (ra z (gW ae ar).1.bc)
def wK(t:Tree)(ar z m:Int):List gN×Int×Int :=
 if decide (z<0)||(decide (m<1)||decide (64<m)) then ([],0,1)
 else if (gW t.ae ar).2 != 0 then ([],0,(gW t.ae ar).2)
 else if decide (((zV t.ae ar z).length:Int)<=m) then (zV t.ae ar z,0,0)
 else ((zV t.ae ar z).take m.toNat,nw (((zV t.ae ar z).getD (m.toNat-1) MJ).ak+1),0)
def x8{t:Tree}{dJ:Int->Nat}(h:dY t dJ 0)(ar:Int):((gW t.ae ar).1.bc.map gN.ak).Nodup/\(gW t.ae ar).1.bc.length<=64:=by
 unfold gW;cases hi:find t.ae ar with
 |none=>exact⟨lA,by simp[Node.zero]⟩
 |some n =>
  simp only;split
  ·exact⟨by rw[List.nodup_iff_pairwise_ne,jX]; exact(h.yv _ _ hi).1,(h.yv _ _ hi).2⟩
  ·exact⟨lA,by simp[Node.zero]⟩
def aq3(t:Tree)(ht:Rt t)(ar z m:Int):aq bX 153 [br t,aD ar,aD z,aD m] []=some (.tuple [ja (wK t ar z m).1,aD (wK t ar z m).2.1,aD (wK t ar z m).2.2],[]):=by
 obtain⟨dJ,h⟩:=ht;refine aB ?_;have q1:=fun b c M=>ZQ t.ae t.next t.ak ar h.lL.ml (by have:=h.ae; omega) 2 (b::c :: cF [ba t.ae,aD t.next,aD t.ak]::M) rfl
 obtain⟨hnd,h64⟩:=x8 h ar;have hknd:((ra z (gW t.ae ar).1.bc).map gN.ak).Nodup:=(List.filter_sublist.map _).nodup hnd;have hkl:(ra z (gW t.ae ar).1.bc).length<=64:=aY (bU _ _) h64;unfold wK zV;generalize gW t.ae ar=d at q1 hnd h64 hknd hkl ⊢;simp only[bL,aL] at q1;cases g1:decide (z<0)
 ·cases g2:decide (m<1)
  ·cases g3:decide (64<m)
   ·cases g4:d.2 != 0
    ·obtain⟨M,hM⟩:∃M:Nat,m=(M:Int):=⟨m.toNat,by simp at g2; omega⟩
     subst hM;have hM1:1<=M:=by simp at g2; omega
     have hM64:M<=64:=by simp at g3; omega
     generalize hE:d.1.bc=E at q1 hknd hkl h64 ⊢;have c0:∀b0 b2 b3,aR (aq bX) 204 [gv [],.func 206 [cC 1]] [b0,cF [aD z],b2,b3]=some (gv [],[b0,cF [aD z],b2,b3]):=fun b0 b2 b3=>ani z b0 b2 b3
     have z0:((0:Int)<=(M:Int))=True:=dw
     by_cases hE0:E=[]
     ·have p1:∀M,aq bX 205 [ja E] M=some (.slice .c0 [],M):=fun M=>by subst hE0; exact aol M
      have hk:uB (ra z E)=[]:=by subst hE0; rfl
      rw[hk];simp only[yH,H6,br,aM,q1,g1,g2,g3,g4,p1,c0,aeh,z0,az,aL,fG,af,aF,aE,EW,seval];rfl
     ·have p1:=fun M=>p58 (l:=E) hE0 aH M
      by_cases hK0:ra z E=[]
      ·have p2:=fun b0 b2 b3=>anj E z aH hE0 hK0 b0 b2 b3
       have hk:uB (ra z E)=[]:=by rw[hK0]; rfl
       rw[hk];simp only[yH,H6,br,aM,q1,g1,g2,g3,g4,p1,p2,aeh,z0,az,aL,fG,af,aF,aE,EW,seval];rfl
      ·have p2:=fun b0 b2 b3=>atx E z aH hE0 hK0 b0 b2 b3
       have hsl:=wx (ra z E);generalize ra z E=kk at p2 hknd hkl hK0 hsl ⊢;generalize List.replicate (E.length-kk.length) MJ=Z at p2;have p3:=fun b0 b1 b2 b3=>atz (l:=kk) (Z:=Z) (v:=0) aH hknd b0 b1 b2 b3
       generalize uB kk=ss at p3 hsl ⊢;have tk:List.take kk.length ((ss++Z).map iG)=ss.map iG:=by rw[<-hsl]; simp[fQ]
       cases g5:decide ((kk.length:Int)<=(M:Int))
       ·have cQ:M<kk.length:=by simp at g5; omega
        have g6:decide ((ss.length:Int)<=(M:Int))=false:=by rw[hsl]; exact g5
        have hw1:IntKind.i64.wrap ((M:Int)-1)=((M-1:Nat):Int):=by rw[gx aH aH]; omega
        have hx:=ai (show M-1<ss.length by omega)
        have hg:ss.getD (M-1) MJ=ss[M-1]:=by simp[List.getD,hx]
        have hat:(ss++Z)[M-1]?=some ss[M-1]:=by rw[aO aH]; exact hx
        have tm:List.take M ((ss++Z).map iG)=(ss.take M).map iG:=by
         rw[<-ec,fQ aH]
        have b1:((M:Int)<=(kk.length:Int))=True:=gr;have b2:((M:Int)==0)=false:=gr;have b3:((0:Int)==(M:Int))=false:=gr;have b4:(((M-1:Nat):Int)<(kk.length:Int))=True:=gr;simp only[yH,H6,br,aM,q1,g1,g2,g3,g4,g5,g6,p1,p2,p3,z0,hw1,hg,hat,tm,b1,b2,b3,b4,gA,dS,bO,gj,aL,fG,af,aF,aE,EW,seval];rw[<-ec]
       ·have g6:decide ((ss.length:Int)<=(M:Int))=true:=by rw[hsl]; exact g5
        simp only[yH,H6,br,aM,q1,g1,g2,g3,g4,g5,g6,p1,p2,p3,tk,bO,aL,fG,af,aF,aE,EW,seval]
    ·simp only[yH,H6,br,aM,q1,g1,g2,g3,g4,aL,fG,af,aF,aE,EW,seval];rfl
   ·simp only[yH,H6,br,aM,g1,g2,g3,aL,eu,fG,af,aF,aE,EW,seval];rfl
  ·simp only[yH,H6,br,aM,g1,g2,aL,dL,eu,fG,af,aF,aE,EW,seval];rfl
 ·simp only[yH,H6,br,aM,g1,aL,dL,fG,af,aF,aE,EW,seval];rfl
def ate(t:Tree)(ht:Rt t)(ar z m:Int)(M:aC):aR (aq gM) 153 [.agg [ba t.ae,aD t.next,aD t.ak],aD ar,aD z,aD m] M=some (.tuple [ja (wK t ar z m).1,aD (wK t ar z m).2.1,aD (wK t ar z m).2.2],M) :=
 lS (cO (aq3 t ht ar z m) M)
def P6{t:Tree}(ht:Rt t)(ar z m:Int):(wK t ar z m).1.length<=100000:=by
 obtain⟨dJ,h⟩:=ht;have h64:=(x8 h ar).2;have hf:(zV t.ae ar z).length<=64:=by unfold zV; rw[wx]; exact aY (bU _ _) h64
 unfold wK;split
 ·simp
 ·split
  ·simp
  ·split
   ·simp only; omega
   ·simp; omega
def Gj(f:aa)(o:jz):Wk :=
 let v:=ky f.s.now o.dK
 let l:=wK f.s.now (bl f.s.now.ae v.1).ar o.n o.m
 if v.2 != 0 then (f,gy,v.2) else
 if l.2.2 != 0 then (f,gy,l.2.2) else
 (f,⟨0,0,0,l.2.1,0,l.1.map gN.name,[]⟩,0)
def c98(f:aa)(o:jz)(hf:vr f)(ho:sm o):px 98 f o (Gj f o):=by
 unfold px;have q1:=fun {M}=>LY f o o.dK hf.rt.small hf.rt.lL (by have:=ho.dK; omega) (p:=0) (M:=M)
 unfold Gj;simp only[];generalize ky f.s.now o.dK=v at q1 ⊢;generalize bl f.s.now.ae v.1=n at q1 ⊢;have q2:=ate f.s.now hf.rt n.ar o.n o.m;have hl:=P6 hf.rt n.ar o.n o.m;generalize wK f.s.now n.ar o.n o.m=l at q2 hl ⊢;have q3:=aga l.1 hl;simp only[dv,bZ,aL] at q1;cases h0:v.2 != 0
 ·cases h1:l.2.2 != 0
  ·refine⟨dr (l.1.map gN.name),.slice .c0 [],.inl rfl,.inr ⟨rfl,rfl⟩,aB ?_⟩;simp only[ZC,E98,dv,bZ,dG,aL,q1,q2,q3,pb,h0,h1,aw,af,aF,aE,EW,seval]
  ·refine⟨.slice .c0 [],.slice .c0 [],.inr ⟨rfl,rfl⟩,.inr ⟨rfl,rfl⟩,aB ?_⟩;simp only[ZC,E98,dv,bZ,dG,gy,aL,q1,q2,q3,pb,h0,h1,gh,aw,af,aF,aE,EW,seval]
 ·refine⟨.slice .c0 [],.slice .c0 [],.inr ⟨rfl,rfl⟩,.inr ⟨rfl,rfl⟩,aB ?_⟩;simp only[ZC,E98,dv,bZ,dG,gy,aL,q1,h0,gh,aw,af,aF,aE,EW,seval]
end
section
attribute [local irreducible] eS fI lx gK dZ kr aq aR cu bJ
def arf(e:gN)(s:Bytes):aq bX 167 [iG e,cC 0] [cF [.str s]]=some (.bool (e.name==s),[cF [.str s]]):=by
 refine aB ?_;simp[ada,apl,iG,gj,EW]
def alq(xs:List gN)(s:Bytes)(hn:xs.length<=100000):aq bX 166 [gv (xs.map iG),.func 167 [cC 0]] [cF [.str s]]=some (aD (qF (fun e:gN=>e.name==s) xs 0),[cF [.str s]]) :=
 DT (by rfl) rfl hn (fun _=>rfl) (fun _=>rfl) rfl rfl fun x _ => .inl ⟨_,_,rfl,uR rfl (arf x s) rfl rfl rfl rfl rfl rfl rfl rfl rfl⟩
def OA:List ag:=[.int .i64 0,.int .i64 0,.int .i64 0,.slice .c0 [],.slice .c0 [],.int .i64 0]
def wO(o:Option Node):List ag:=match o with
 |some n=>aL n
 |none=>OA
def aej(o:Option Node):pt (.agg [aD 0,aD 0,aD 0,.slice .c0 [],.slice .c0 [],aD 0]) false (o.map bL) = .agg (wO o):=by cases o<;>rfl
def jn(all:AM Node):List Bytes->Option Node->Option Node×Int
 | [],o=>(o,0)
 |s::r,o=>if !((o.getD Node.zero).kind==2) then (o,73) else match (o.getD Node.zero).bc.find? (fun e=>e.name==s) with
  |none=>(o,70)
  |some e=>jn all r (eZ all e.ar)
def gb(l:List Node)(m:AM Node):AM Node:=l.foldl (fun m n=>kS m n.ar n) m
theorem V8{W:aa×jz}{at':Int}{p:List Bytes}{xs:List Node}(hn:xs.length<=200000){fin:AM Node}{k:List K}{r:Option (ag×aC)}
  (hx:∀e,kr (aq gM) [] 1 k ⟨.exit 0,(0,cC 0)::(2,aD at')::(5,dr p)::(6,.iy 1)::e,[dv W.1 W.2,.map (B9 fin) (pk bL fin)]⟩=r) :
  ∀(l pre:List Node)(m:AM Node),xs=pre++l->gb l m=fin->eS (aq gM) [] 1 k (.loop [0,2,5,6,42,43,44] Z1) [(0,cC 0),(2,aD at'),(5,dr p),(6,.iy 1),(42,ba xs),(43,aD xs.length),(44,aD pre.length)] [dv W.1 W.2,.map (B9 m) (pk bL m)]=r:=by
 obtain⟨f,o⟩:=W;simp only[dv,bZ] at hx ⊢;intro l;induction l with
 |nil =>
  intro pre m h hfin;rw[bI];simp only[gb,na] at hfin;subst hfin;simp only[AK,jP h,EW,seval];simp_all
 |cons n rest ih =>
  intro pre m h hfin;rw[bI];have dN:pre.length+1<=200000:=by rw[h] at hn; grind
  have hw:IntKind.i64.wrap ((pre.length:Int)+1)=((pre++[n]).length:Int):=by rw[gx aH aH]; simp
  have hi1:=ih (pre++[n]) (kS m n.ar n) (by rw[h]; simp) hfin
  have hput:=sI bL m n.ar n;simp only[bL,aL,aA,az,aI] at hi1 hput;simp only[AK,iP h,gQ h,aL,hw,hput,bkN,EW,seval];omega
def V9{W:aa×jz}{all:AM Node}(hall:∀k n,eZ all k=some n->n.bc.length<=100000){xs:List Bytes}(hn:xs.length<=100000){fin:Option Node×Int}{k:List K}{r:Option (ag×aC)}
  (hx:fin.2=0->∀e,kr (aq gM) [] 1 k ⟨.exit 2,(0,.ptr 0 0)::(6,.iy 1)::(9,.ptr 2 0)::e,[dv W.1 W.2,.map (B9 all) (pk bL all),.cells (wO fin.1)]⟩=r)
  (hp:(fin.2 != 0)=true->∀c d,kr (aq gM) [] 1 k ⟨.nH (.iface 43 (.int .i64 fin.2)),[],[dv W.1 W.2,.map (B9 all) (pk bL all),.cells c,d]⟩=r) :
  ∀(l pre:List Bytes)(o:Option Node),xs=pre++l->(∀n,o=some n->n.bc.length<=100000)->jn all l o=fin->eS (aq gM) [] 1 k (.loop [0,6,9,56,57,58] Z2) [(0,.ptr 0 0),(6,.iy 1),(9,.ptr 2 0),(56,dr xs),(57,.int .i64 xs.length),(58,.int .i64 pre.length)] [dv W.1 W.2,.map (B9 all) (pk bL all),.cells (wO o)]=r:=by
 obtain⟨f,op⟩:=W;simp only[dv,bZ] at hx hp ⊢;intro l;induction l with
 |nil =>
  intro pre o h ho hfin;rw[bI];rw[jn] at hfin;subst hfin;cases o<;>simp only[wO,OA,aL,AK,jP h,EW,seval] at hx ⊢ <;> exact hx trivial _
 |cons s rest ih =>
  intro pre o h ho hfin;rw[bI];have dN:pre.length+1<=100000:=by rw[h] at hn; simp at hn; omega
  have hw:=zB pre s;have q2:=fun bb=>Q9 bb 73 rfl
  have q3:=fun bb=>Q9 bb 70 rfl
  cases o with
  |none =>
   have hf:jn all (s::rest) none=(none,73):=rfl;rw[hf] at hfin;subst hfin;have h02:((0:Int)==2)=false:=rfl;simp only[wO,OA,AK,iP h,gQ h,h02,q2,gh,af,EW,seval];exact hp rfl _ _
  |some n =>
   rw[jn] at hfin;simp only[bC] at hfin;cases hk:n.kind==2
   ·rw[hk] at hfin;simp only[dH,aF] at hfin;subst hfin;simp only[wO,aL,AK,iP h,gQ h,hk,q2,gh,af,EW,seval];exact hp rfl _ _
   ·rw[hk] at hfin;simp only[cv,af,aE] at hfin;have hne:=ho n rfl;have q4:∀M,nth M 3=some (.cells [.str s])->aR (aq gM) 166 [ja n.bc,.func 167 [.ptr 3 0]] M=some (.int .i64 (qF (fun e:gN=>e.name==s) n.bc 0),M):=fun M hM=>lS (zJ hM (alq n.bc s hne) rfl rfl rfl)
    rcases yb (fun e:gN=>e.name==s) n.bc 0 with ⟨i1,i2⟩|⟨j,e,i1,i2,i3,_⟩
    ·rw[i2] at hfin;simp only at hfin;subst hfin;rw[i1] at q4;have hneg:(0<=(-1:Int))=False:=dw;simp only[wO,aL,AK,iP h,gQ h,hk,q2,q3,q4,hneg,gh,af,EW,seval];exact hp rfl _ _
    ·rw[i3] at hfin;simp only at hfin;rw[i1,aI] at q4;have hi:=ih (pre++[s]) (eZ all e.ar) (by rw[h]; simp) (fun m hm=>hall _ _ hm) hfin
     have hlg:=aej (eZ all e.ar);simp only[aA,au,az,aI] at hi;have hisC:(wO (eZ all e.ar)).all ag.je=true:=by cases eZ all e.ar<;>rfl
     have hlC:(wO (eZ all e.ar)).length=6:=by cases eZ all e.ar<;>rfl
     have hbC:∀B M,List.map (ag.jH B M) (wO (eZ all e.ar))=wO (eZ all e.ar):=fun B M=>by cases eZ all e.ar<;>rfl
     generalize wO (eZ all e.ar)=gc at hi hlg hisC hlC hbC;simp only[wO,aL,gj,AK,iP h,gQ h,hk,q2,q3,q4,i2,pd,hlg,hisC,hlC,hbC,hw,mapOf.eq_1,bkN,EW,seval];exact hi
theorem GM{all:AM Node}{P:Node->Prop}(hall:∀k n,eZ all k=some n->P n):∀(f:Nat)(ar:Int)(st:VS),(∀n,n∈st.2->P n)->∀n,n∈(j9 all f ar st).2.2->P n:=by
 intro f;induction f with
 |zero=>intro ar st h; exact h
 |succ f ih =>
  intro ar st h;rw[j9];split
  ·exact h
  ·split
   ·exact h
   ·rename_i h1;cases hn:eZ all ar with
    |none=>grind
    |some n =>
     have hfold:∀(l:List gN)(w:Bool×VS),(∀n,n∈w.2.2->P n)->∀n,n∈(l.foldl (fun w e=>((j9 all f e.ar w.2).1&&w.1,(j9 all f e.ar w.2).2)) w).2.2->P n:=by
      intro l;induction l<;>grind
     grind
theorem JR(x y:Node):∀l:List Node,y∈Hp x l->y=x\/y∈l
 | [],h=>by grind [Hp]
 |z::r,h=>by
  simp[Hp] at h;split at h
  ·grind
  ·rcases bH.1 h with h|h
   ·grind
   ·rcases JR x y r h with h|h
    ·grind
    grind
theorem Bt(y:Node):∀l:List Node,y∈CA l->y∈l
 | [],h=>h
 |x::r,h=>by
  rcases JR x y _ h with h|h
  ·grind
  ·exact bu _ (Bt y r h)
theorem zm:∀(l:List Node)(m:AM Node)(k:Int)(n:Node),eZ (gb l m) k=some n->n∈l\/eZ m k=some n
 | [],m,k,n,h => .inr h
 |x::r,m,k,n,h=>by
  have h'  := h;rcases zm r _ k n h' with h|h
  ·grind
  grind [jC]
theorem vr.all{f:aa}(hf:vr f)(a:Int):yB (zF f.s a)/\(zF f.s a).length<=100200:=by
 obtain⟨g1,g2⟩:=xF a _ [] ⟨fun k n h=>(by cases h),fun k n h=>(by cases h)⟩ (fun p hp=>by have:=(hf.ED p hp).1; omega)
 obtain⟨g3,g4⟩:=Bx a _ f.s.since _ g1 (fun n hn=>by have:=hf.rt.sz.bc n hn; omega)
 have:=hf.rt.sz.ae; have h3:=hf.eR
 grind [zF]
theorem ae3{f:aa}(hf:vr f)(id:Int):(vw f.s id).2.1.length<=200000/\∀n,n∈(vw f.s id).2.1->n.bc.length<=100000:=by
 unfold vw;split
 ·rename_i x _;obtain⟨h1,h2⟩:=hf.all x.at';have hg:=xR h1.own 200001 x.ar ([],[]);refine⟨?_,fun n hn=>?_⟩
  ·have:=hg.len; have h3:=wq (zF f.s x.at') []
   grind [DZ,BJ,xQ]
  ·have:=Bt n _ hn;exact GM h1.bc 200001 x.ar _ (fun n h=>jO) n this
 simp
def Gv(f:aa)(o:jz):Wk :=
 let a:=vw f.s o.n
 let p:=gG o.dK
 let r:=jn (gb a.2.1 []) p.1 (eZ (gb a.2.1 []) a.1)
 if a.2.2 != 0 then (f,gy,a.2.2) else
 if p.2 != 0 then (f,gy,p.2) else
 if r.2 != 0 then (f,gy,r.2) else
 (f,⟨0,(r.1.getD Node.zero).ar,(r.1.getD Node.zero).kind,(r.1.getD Node.zero).eG,Cz (r.1.getD Node.zero),(r.1.getD Node.zero).bc.map gN.name,(r.1.getD Node.zero).data⟩,0)
theorem Cu{all:AM Node}(hall:∀k n,eZ all k=some n->n.bc.length<=100000):∀(p:List Bytes)(o:Option Node),(∀n,o=some n->n.bc.length<=100000)->∀n,(jn all p o).1=some n->n.bc.length<=100000
 | [],o,ho,n,h=>ho n h
 |s::r,o,ho,n,h=>by
  rw[jn] at h;split at h
  ·grind
  ·split at h
   ·grind
   ·exact Cu hall r _ (fun m hm=>hall _ _ hm) n h
theorem aqs(f:aa)(o:jz)(hf:vr f)(ho:sm o):px 107 f o (Gv f o):=by
 unfold px;have q1:=fun M=>lS (atj f.s o.n (by have:=hf.dW; omega) (by have:=hf.eR; omega) (fun p hp=>by have:=(hf.ED p hp).1; omega) hf.rt.sz hf.len M)
 have ha:=ae3 hf o.n;have q2:=agd o.dK (by have:=ho.dK; omega)
 have hp:=(yp o.dK).2;unfold Gv;simp only[];generalize vw f.s o.n=a at q1 ha ⊢;generalize gG o.dK=p at q2 hp ⊢
 have hall:∀k n,eZ (gb a.2.1 []) k=some n->n.bc.length<=100000:=fun k n h=>by
  rcases zm _ _ _ _ h with h|h
  ·exact ha.2 n h
  ·cases h
 have hpe:=Cu hall p.1 (eZ (gb a.2.1 []) a.1) (fun n h=>hall _ _ h)
 simp only[bM] at q1;have k155z:∀M,aR (aq gM) 155 [.agg [aD 0,aD 0,aD 0,gv [],gv [],aD 0]] M=some (aD (Cz Node.zero),M):=fun M=>agb Node.zero M
 have k154z:∀M,aR (aq gM) 154 [gv []] M=some (gv [],M):=fun M=>aga [] dw M
 cases h0:a.2.2 != 0
 ·cases h1:p.2 != 0
  ·have hlg:=aej (eZ (gb a.2.1 []) a.1);have hisC:(wO (eZ (gb a.2.1 []) a.1)).all ag.je=true:=by cases eZ (gb a.2.1 []) a.1<;>rfl
   have hlC:(wO (eZ (gb a.2.1 []) a.1)).length=6:=by cases eZ (gb a.2.1 []) a.1<;>rfl
   have main:∀x y,(Row x (((jn (gb a.2.1 []) p.1 (eZ (gb a.2.1 []) a.1)).1.getD Node.zero).bc.map gN.name |>.map ag.str)/\x=dr (((jn (gb a.2.1 []) p.1 (eZ (gb a.2.1 []) a.1)).1.getD Node.zero).bc.map gN.name)) ->
     (y=match (jn (gb a.2.1 []) p.1 (eZ (gb a.2.1 []) a.1)).1 with|some n=>df n.data|none => .slice .c0 []) ->
     aq gM 107 [cC 0] [cF (bZ f o)]=some (if (jn (gb a.2.1 []) p.1 (eZ (gb a.2.1 []) a.1)).2 != 0 then gh (jn (gb a.2.1 []) p.1 (eZ (gb a.2.1 []) a.1)).2 else .tuple [],
      [if (jn (gb a.2.1 []) p.1 (eZ (gb a.2.1 []) a.1)).2 != 0 then dG f o gy (.slice .c0 []) (.slice .c0 []) else
       dG f o ⟨0,((jn (gb a.2.1 []) p.1 (eZ (gb a.2.1 []) a.1)).1.getD Node.zero).ar,((jn (gb a.2.1 []) p.1 (eZ (gb a.2.1 []) a.1)).1.getD Node.zero).kind,((jn (gb a.2.1 []) p.1 (eZ (gb a.2.1 []) a.1)).1.getD Node.zero).eG,Cz ((jn (gb a.2.1 []) p.1 (eZ (gb a.2.1 []) a.1)).1.getD Node.zero),[],[]⟩ x y]):=by
    rintro x y ⟨_,hx⟩ hy;subst hx hy;refine aB ?_
    have hb:=V9 (W:=(f,o)) hall (xs:=p.1) aH (fin:=jn (gb a.2.1 []) p.1 (eZ (gb a.2.1 []) a.1)) (k:=[.block 2,.seq abJ]) (r:=some (if (jn (gb a.2.1 []) p.1 (eZ (gb a.2.1 []) a.1)).2 != 0 then gh (jn (gb a.2.1 []) p.1 (eZ (gb a.2.1 []) a.1)).2 else .tuple [],
      [if (jn (gb a.2.1 []) p.1 (eZ (gb a.2.1 []) a.1)).2 != 0 then dG f o gy (.slice .c0 []) (.slice .c0 []) else
       dG f o ⟨0,((jn (gb a.2.1 []) p.1 (eZ (gb a.2.1 []) a.1)).1.getD Node.zero).ar,((jn (gb a.2.1 []) p.1 (eZ (gb a.2.1 []) a.1)).1.getD Node.zero).kind,((jn (gb a.2.1 []) p.1 (eZ (gb a.2.1 []) a.1)).1.getD Node.zero).eG,Cz ((jn (gb a.2.1 []) p.1 (eZ (gb a.2.1 []) a.1)).1.getD Node.zero),[],[]⟩ (dr (((jn (gb a.2.1 []) p.1 (eZ (gb a.2.1 []) a.1)).1.getD Node.zero).bc.map gN.name)) (match (jn (gb a.2.1 []) p.1 (eZ (gb a.2.1 []) a.1)).1 with|some n=>df n.data|none => .slice .c0 [])]))
     (fun hz e=>by
      generalize jn (gb a.2.1 []) p.1 (eZ (gb a.2.1 []) a.1)=r at hz hpe ⊢;obtain⟨o',e'⟩:=r;simp only at hz;subst hz;cases o' with
      |none =>
       simp only[dv,bZ,dG,wO,OA,k154z,k155z,AK,iK,aw,af,EW,seval];rfl
      |some n =>
       have q5:=aga n.bc (hpe n rfl);have q6:=agb n;simp only[aL] at q6;simp only[dv,bZ,dG,wO,aL,q5,q6,AK,bC,aw,af,EW,seval])
     (fun hz c d=>by
      rw[aZ hz,aZ hz];simp[dv,bZ,dG,gy,gh,EW]) p.1 [] (eZ (gb a.2.1 []) a.1) rfl (fun n h=>hall _ _ h) rfl
    generalize jn (gb a.2.1 []) p.1 (eZ (gb a.2.1 []) a.1)=r at hb ⊢
    have hl:=V8 (W:=(f,o)) (at':=a.1) (p:=p.1) (xs:=a.2.1) ha.1 (fin:=gb a.2.1 []) (k:=[.block 0,.seq abK]) (r:=some (if r.2 != 0 then gh r.2 else .tuple [],[if r.2 != 0 then dG f o gy (.slice .c0 []) (.slice .c0 []) else
       dG f o ⟨0,(r.1.getD Node.zero).ar,(r.1.getD Node.zero).kind,(r.1.getD Node.zero).eG,Cz (r.1.getD Node.zero),[],[]⟩ (dr ((r.1.getD Node.zero).bc.map gN.name)) (match r.1 with|some n=>df n.data|none => .slice .c0 [])]))
     (fun e=>by
      generalize gb a.2.1 []=al at hlg hisC hlC hb ⊢;generalize wO (eZ al a.1)=gc at hlg hisC hlC hb;simp only[dv,bZ,az] at hb;simp only[dv,bZ,AK,pd,mapOf.eq_1,hlg,hisC,hlC,EW,seval];omega) a.2.1 [] [] rfl rfl
    simp only[dv,bZ,az,Hh,Hi] at hl;simp only[Nf,AK,bZ,q1,q2,pb,h0,h1,af,EW,seval]
    grind
   generalize jn (gb a.2.1 []) p.1 (eZ (gb a.2.1 []) a.1)=r at main ⊢;cases h2:r.2 != 0
   ·refine⟨dr ((r.1.getD Node.zero).bc.map gN.name),(match r.1 with|some n=>df n.data|none => .slice .c0 []),.inl rfl,?_,?_⟩
    ·obtain⟨o',e'⟩:=r;cases o'
     ·exact .inr ⟨rfl,rfl⟩
     ·exact .inl rfl
    ·have:=main _ _ ⟨.inl rfl,rfl⟩ rfl;rw[h2] at this;simpa only[af,aE,aw,dG] using this
   ·refine⟨.slice .c0 [],.slice .c0 [],.inr ⟨rfl,rfl⟩,.inr ⟨rfl,rfl⟩,?_⟩;have:=main _ _ ⟨.inl rfl,rfl⟩ rfl;rw[h2] at this
    grind
  ·refine⟨.slice .c0 [],.slice .c0 [],.inr ⟨rfl,rfl⟩,.inr ⟨rfl,rfl⟩,aB ?_⟩;simp only[Nf,AK,bZ,dG,gy,q1,q2,pb,h0,h1,gh,af,EW,seval]
 ·refine⟨.slice .c0 [],.slice .c0 [],.inr ⟨rfl,rfl⟩,.inr ⟨rfl,rfl⟩,aB ?_⟩;simp only[Nf,AK,bZ,dG,gy,q1,pb,h0,gh,EW,seval]
end
end
section
open Go Go.RowKit Go.Extern.Stop Go.Stop Go.Extern
def Mg (h:Value) (w:World):(Go.method 507 215 (.agg #[h]) "Kind").run Tryz.prog w = .ok (352,h) w:=ft
def Mf (h:Value) (w:World):(Go.method 507 215 (.agg #[h]) "Elem").run Tryz.prog w = .ok (362,.agg #[h]) w:=ft
def Bu (h:Value) (w:World):(Go.method 507 215 (.agg #[h]) "Implements").run Tryz.prog w = .ok (363,.agg #[h]) w:=ft
def zl (h:Value) (w:World):(Go.method 507 215 (.agg #[h]) "AssignableTo").run Tryz.prog w = .ok (360,.agg #[h]) w:=ft
def rlm(z:Sem Value)(f:TypeId->Addr->Nat->Nat->Sem Value)(v:Value) :
  ReflectliteValue.method z f #[v]=(do match <-ReflectliteValue.parts v with|none=>z|some (t,a,fl)=>f t a fl (fl % 32)):=rfl
def rls:∃s1 s2 s3 s4 s5:String,∀v x:Value,ReflectliteValue.set #[v,x]=(do
  let (some (dst,a,fl),some (src,b,_)):=(<-ReflectliteValue.parts v,<-ReflectliteValue.parts x)
   |unsupported (.noEntry s1)
  if fl / ReflectliteValue.flagAddr % 2==0 then unsupported (.noEntry s2)
  let val <-loadVar src b
  if <-Rtype.directlyAssignable dst src then storeVar dst a val
  else if <-Rtype.implements dst src then
   if (<-Rtype.kind src)==20 then
    match val with
    | .nilIface=>unsupported (.noEntry s3)
    |_=>storeVar dst a val
   else storeVar dst a (.iface src val)
  else panicString (s4++(<-Rtype.spelt src)++s5++(<-Rtype.spelt dst))
  pure (.tuple #[])):=⟨_,_,_,_,_,fun v x=>rfl⟩
def LG(t:Addr)(w:World):(ReflectliteValue.unpack (.iface 102 (.pointer (some t)))).run Tryz.prog w
  = .ok (.agg #[.pointer (some ⟨2,102,none⟩),.pointer (some ⟨w.heap.size,0,none⟩),.int .u64 150]) (w.alloc (.cells #[.pointer (some t)] 102)):=ft
def Zu (a:Addr) (w:World):(ReflectliteValue.methodAny (ReflectliteValue.valueError "reflectlite.Value.Type" 0) (fun t _ _ _=>ReflectliteType.toType t) #[.agg #[.pointer (some ⟨2,102,none⟩),.pointer (some a),.int .u64 150]]).run Tryz.prog w
  = .ok (.iface 215 (.agg #[.pointer (some ⟨2,102,none⟩)])) w:=ft
def Zq(w:World):((ReflectliteType.abiMethod fun t=>Functor.map (fun a:Nat=>Value.int IntKind.u8 (a:Int)) (Rtype.kind t)) #[.pointer (some ⟨2,102,none⟩)]).run Tryz.prog w = .ok (.int .u8 22) w:=ft
def Zt(w:World):((ReflectliteType.abiMethod fun t=>Functor.map (fun a:Nat=>Value.int IntKind.u8 (a:Int)) (Rtype.kind t)) #[.pointer (some ⟨2,43,none⟩)]).run Tryz.prog w = .ok (.int .u8 2) w:=ft
def I4(a:Addr)(w:World):(ReflectliteValue.parts (.agg #[.pointer (some ⟨2,102,none⟩),.pointer (some a),.int .u64 150])).run Tryz.prog w = .ok (some (102,a,150)) w:=ft
def Sk(a p:Addr)(W:World)(ha:W.cell? a=some (.pointer (some p))) :
  (ReflectliteValue.method (ReflectliteValue.valueError "reflectlite.Value.IsNil" 0) ReflectliteValue.isNil #[.agg #[.pointer (some ⟨2,102,none⟩),.pointer (some a),.int .u64 150]]).run Tryz.prog W = .ok (.bool false) W:=by
 rw[rlm];simp only[Sem.run_bind,I4,Result.andThen];simp[ReflectliteValue.isNil,loadVar,isAgg,underlying,underlying102,ha,Result.andThen]
def Zp(w:World):(ReflectliteType.method ReflectliteType.elem #[.agg #[.pointer (some ⟨2,102,none⟩)]]).run Tryz.prog w = .ok (.iface 215 (.agg #[.pointer (some ⟨2,43,none⟩)])) w:=ft
def Fg (w:World):(ReflectliteType.relation "Implements" ReflectliteType.implements_ #[.agg #[.pointer (some ⟨2,43,none⟩)],.iface 215 (.agg #[.pointer (some ⟨2,99,none⟩)])]).run Tryz.prog w = .ok (.bool true) w:=ft
def Py(v:Value)(w:World):(ReflectliteType.typeOf #[.iface 43 v]).run Tryz.prog w = .ok (.iface 215 (.agg #[.pointer (some ⟨2,43,none⟩)])) w:=ft
def Ff (w:World):(ReflectliteType.relation "AssignableTo" ReflectliteType.assignableTo #[.agg #[.pointer (some ⟨2,43,none⟩)],.iface 215 (.agg #[.pointer (some ⟨2,43,none⟩)])]).run Tryz.prog w = .ok (.bool true) w:=ft
def LH(e:Int)(w:World):(ReflectliteValue.unpack (.iface 43 (.int .i64 e))).run Tryz.prog w
  = .ok (.agg #[.pointer (some ⟨2,43,none⟩),.pointer (some ⟨w.heap.size,0,none⟩),.int .u64 130]) (w.alloc (.cells #[.int .i64 e] 43)):=ft
def Pw(w:World):(Rtype.elem? 102).run Tryz.prog w = .ok (some 43) w:=ft
def alR(p:Addr)(w:World):(ReflectliteValue.mk 43 p ReflectliteValue.flagAddr).run Tryz.prog w = .ok (.agg #[.pointer (some ⟨2,43,none⟩),.pointer (some p),.int .u64 386]) w:=ft
def Sj(a p:Addr)(W:World)(ha:W.cell? a=some (.pointer (some p))) :
  (ReflectliteValue.method (ReflectliteValue.valueError "reflectlite.Value.Elem" 0) ReflectliteValue.elem #[.agg #[.pointer (some ⟨2,102,none⟩),.pointer (some a),.int .u64 150]]).run Tryz.prog W
   = .ok (.agg #[.pointer (some ⟨2,43,none⟩),.pointer (some p),.int .u64 386]) W:=by
 rw[rlm];simp only[Sem.run_bind,I4,Result.andThen];simp[ReflectliteValue.elem,loadVar,isAgg,underlying,underlying102,ha,Result.andThen,Pw,alR]
def Px(a:Addr)(w:World):(ReflectliteValue.parts (.agg #[.pointer (some ⟨2,43,none⟩),.pointer (some a),.int .u64 386])).run Tryz.prog w = .ok (some (43,a,386)) w:=ft
def Sl(a:Addr)(w:World):(ReflectliteValue.parts (.agg #[.pointer (some ⟨2,43,none⟩),.pointer (some a),.int .u64 130])).run Tryz.prog w = .ok (some (43,a,130)) w:=ft
def Pv(w:World):(Rtype.directlyAssignable 43 43).run Tryz.prog w = .ok true w:=ft
def afO(ta b:Addr)(e:Int)(tV:Value)(W:World)(hb:W.cell? b=some (.int .i64 e))(ht:W.cell? ta=some tV)(hf:W.frozen? ta=false) :
  (ReflectliteValue.set #[.agg #[.pointer (some ⟨2,43,none⟩),.pointer (some ta),.int .u64 386],.agg #[.pointer (some ⟨2,43,none⟩),.pointer (some b),.int .u64 130]]).run Tryz.prog W
   = .ok (.tuple #[]) (W.setCell ta (.int .i64 e)):=by
 have hz:=sizeOf43;have hadd:∀a:Addr,a.add 0=a:=fun a=>by simp[Addr.add]
 obtain⟨s1,s2,s3,s4,s5,rls⟩:=rls;rw[rls];simp only[Sem.run_bind,Px,Sl,Result.andThen];simp[ReflectliteValue.flagAddr,loadVar,isAgg,underlying,underlying43,hb,Result.andThen,Pv,storeVar,Value.cells,storeCells,loadCells,loadCellsFrom,hz,hadd];rw[run_store Tryz.prog W ta _ _ (by rfl)]
 simp[ht,hf]
set_option maxHeartbeats 4000000 in
set_option maxRecDepth 40000 in
def alQ(e:Int)(t:Addr)(tV:Value)(w:World)(hg:w.cell? ⟨0,0,none⟩=some (.iface 215 (.agg #[.pointer (some ⟨2,99,none⟩)])))(ht0:w.cell? t=some tV)(hf0:w.frozen? t=false) :
  Calls Tryz.prog 51 #[.iface 43 (.int .i64 e),.iface 102 (.pointer (some t))] w fun ev w'=>ev = .returned (.bool true)/\w'=((((w.alloc (.cells #[.pointer (some t)] 102)).alloc (.cells #[.pointer (some ⟨2,102,none⟩),.pointer (some ⟨w.heap.size,0,none⟩),.int .u64 150] 173)).alloc (.cells #[.pointer (some ⟨2,102,none⟩),.pointer (some ⟨w.heap.size,0,none⟩),.int .u64 150] 173)).alloc (.cells #[.int .i64 e] 43)).setCell t (.int .i64 e):=by
 have h6:=@run_callFunc_extern Tryz.prog 89 _ (fun args=>ReflectliteValue.unpack (args.getD 0 (.tuple #[]))) func89 ft ft ft ft
 have h7:=@run_callFunc_extern Tryz.prog 90 _ (ReflectliteValue.methodAny (ReflectliteValue.valueError "reflectlite.Value.Type" 0) (fun t _ _ _=>ReflectliteType.toType t)) func90 ft ft ft ft
 have h8:=@run_callFunc_extern Tryz.prog 91 _ (ReflectliteValue.method (ReflectliteValue.valueError "reflectlite.Value.IsNil" 0) ReflectliteValue.isNil) func91 ft ft ft ft;have h27:=@run_callFunc_extern Tryz.prog 352 _ (ReflectliteType.abiMethod fun t=>do pure (.int .u8 (<-Rtype.kind t))) func352 ft ft ft ft
 have h37:=@run_callFunc_extern Tryz.prog 362 _ (ReflectliteType.method ReflectliteType.elem) func362 ft ft ft ft;have h38:=@run_callFunc_extern Tryz.prog 363 _ (ReflectliteType.relation "Implements" ReflectliteType.implements_) func363 ft ft ft ft;have h10:=@run_callFunc_extern Tryz.prog 142 _ ReflectliteType.typeOf func142 ft ft ft ft;have h35:=@run_callFunc_extern Tryz.prog 360 _ (ReflectliteType.relation "AssignableTo" ReflectliteType.assignableTo) func360 ft ft ft ft;have h11:=@run_callFunc_extern Tryz.prog 143 _ (ReflectliteValue.method (ReflectliteValue.valueError "reflectlite.Value.Elem" 0) ReflectliteValue.elem) func143 ft ft ft ft;have h12:=@run_callFunc_extern Tryz.prog 144 _ ReflectliteValue.set func144 ft ft ft ft;have tO:=Py;have mA:=zl;have a25:=Ff;have v25:=LH;have f6:=LG;have f7:=Zu;have mK:=Mg;have mE:=Mf;have mI:=Bu;have k27:=Zq;have k25:=Zt;have e27:=Zp;have i25:=Fg;have n8:=Sk ⟨w.heap.size,0,none⟩ t ((w.alloc (.cells #[.pointer (some t)] 102)).alloc (.cells #[.pointer (some ⟨2,102,none⟩),.pointer (some ⟨w.heap.size,0,none⟩),.int .u64 150] 173)) dw
 have cQ:0<w.heap.size:=by
  rcases gY w.heap.size with h0|h
  ·simp[World.cell?,h0] at hg
  ·exact h
 have hg2:((w.alloc (.cells #[.pointer (some t)] 102)).alloc (.cells #[.pointer (some ⟨2,102,none⟩),.pointer (some ⟨w.heap.size,0,none⟩),.int .u64 150] 173)).cell? ⟨0,0,none⟩=some (.iface 215 (.agg #[.pointer (some ⟨2,99,none⟩)])):=by
  rw[World.cell?_alloc_lt _ _ ⟨0,0,none⟩ dw,World.cell?_alloc_lt _ _ ⟨0,0,none⟩ cQ]; exact hg
 have htl:t.block<w.heap.size:=by
  rcases bA t.block w.heap.size with h|h
  ·exact h
  ·simp[World.cell?,im h] at ht0
 have el:=Sj ⟨w.heap.size,0,none⟩ t (((w.alloc (.cells #[.pointer (some t)] 102)).alloc (.cells #[.pointer (some ⟨2,102,none⟩),.pointer (some ⟨w.heap.size,0,none⟩),.int .u64 150] 173)).alloc (.cells #[.pointer (some ⟨2,102,none⟩),.pointer (some ⟨w.heap.size,0,none⟩),.int .u64 150] 173)) (by rw[World.cell?_alloc_lt _ _ ⟨w.heap.size,0,none⟩ gr]; simp)
 have st:=afO t ⟨w.heap.size+1+1+1,0,none⟩ e tV ((((w.alloc (.cells #[.pointer (some t)] 102)).alloc (.cells #[.pointer (some ⟨2,102,none⟩),.pointer (some ⟨w.heap.size,0,none⟩),.int .u64 150] 173)).alloc (.cells #[.pointer (some ⟨2,102,none⟩),.pointer (some ⟨w.heap.size,0,none⟩),.int .u64 150] 173)).alloc (.cells #[.int .i64 e] 43))
  (by rw[World.cell?_alloc_at _ _ _ _ dw]; rfl)
  (by rw[World.cell?_alloc_lt _ _ t gr,World.cell?_alloc_lt _ _ t gr,World.cell?_alloc_lt _ _ t gr,World.cell?_alloc_lt _ _ t htl]; exact ht0)
  (by rw[World.frozen?_alloc_old _ _ t gr,World.frozen?_alloc_old _ _ t gr,World.frozen?_alloc_old _ _ t gr,World.frozen?_alloc_old _ _ t (gJ htl)]; exact hf0)
 go_enter func51,ntmps51
 go_wp2
 refine wp_loop_rounds 1 ?_;rw[rounds_succ]
 go_wp2
 go_ret
 exact⟨rfl,rfl⟩
end
end Go.Proofs.YteoamaffclmdbaaGreatDoor
namespace Go.Proofs.YteoamaffclmdbaaGreatDoor
open Go Go.Abs
def Gy:cG :=
 (.seq (.region [
 ob 36 (.mv (.tmp 8)),
 ob 37 (.chk (.tmp 36)),
 ob 38 (.yF 0 (.tmp 37)),
 ob 39 (.mM 10 (.tmp 38)),
 ob 40 (.mv (.tmp 8)),
 ob 41 (.chk (.tmp 40)),
 ob 42 (.yF 18 (.tmp 41)),
 ob 43 (.mM 7 (.tmp 42)),
 ⟨none,.store 10 (.tmp 4) (.tmp 39),none,true,false,[42],true⟩,
 ox (.store 7 (.tmp 5) (.tmp 43))] true [4,5]) (.ret))
def Gz:cG :=
 (.seq (.region [
 ob 33 (.mv (.tmp 6)),
 ob 34 (.mv (.tmp 8)),
 ob 35 (.sB (.tmp 33) [(.tmp 34)])] false [4,5,8]) Gy)
def GA:cG :=
 (.seq (.region [
 ob 29 (.mM 10 (.tmp 2)),
 ob 30 (.mM 8 (.tmp 3)),
 ob 31 (.build [(.slice .c0 []),(.int .i64 0),(.int .i64 0),(.int .i64 0),(.slice .c0 []),(.slice .c0 []),(.slice .c0 []),(.int .i64 0),(.slice .c0 []),(.slice .c0 []),(.int .i64 0),(.int .i64 0),(.str []),(.str []),(.int .i64 0),(.int .i64 0),(.int .i64 0),(.slice .c0 []),(.int .i64 0),(.int .i64 0),(.int .i64 0),(.int .i64 0),(.int .i64 0),(.slice .c0 []),(.slice .c0 [])] [(0,10,(.tmp 29)),(10,8,(.tmp 30))]),
 ob 32 (.box (.tmp 31)),
 ob 8 (.mv (.tmp 32))] false [4,5,6,8]) Gz)
def GB:cG :=
 (.seq (.region [
 ob 17 (.mv (.tmp 7)),
 ob 18 (.mv (.tmp 17)),
 og 19 18 true (.yF 1 (.tmp 3)),
 og 20 18 true (.rE (.tmp 19)),
 og 21 18 true (.bin .geq (.tmp 20) (.ti (.int .i64 0))),
 ob 22 (.pick (.tmp 18) (.tmp 21) (.ti (.bool false))),
 ob 23 (.mv (.tmp 22)),
 og 24 23 true (.yF 1 (.tmp 3)),
 og 25 23 true (.rE (.tmp 24)),
 og 26 23 true (.bin .lss (.tmp 25) (.ti (.int .i64 16))),
 ob 27 (.pick (.tmp 23) (.tmp 26) (.ti (.bool false))),
 ob 28 (.call 53 [(.tmp 27),(.ti (.int .i64 1))])] false [2,3,4,5,6]) GA)
noncomputable def acx:Code:=match Tryz.f29.body with|some (.seq _ (.seq _ r))=>r|_ => .skip
def RD:BX:={ n:=44,own:=[],lv:=[(2,[2,3,4,5,6,7]),(3,[2,3,4,5,6]),(4,[4,5,6,8]),(5,[4,5,8]),(6,[4,5])],lp:=[] }
def wG:cG :=
 (.seq (.region [
 ⟨(some 11),.call 52 [],none,true,false,[],false⟩,
 ob 12 (.yF 0 (.tmp 3)),
 ob 13 (.rE (.tmp 12)),
 ob 14 (.look .i (.raw .nilFunc) true (.tmp 11) (.tmp 13)),
 ob 10 (.mv (.tmp 14)),
 ob 15 (.extract (.tmp 10) 0),
 ob 16 (.extract (.tmp 10) 1),
 ob 6 (.mv (.tmp 15)),
 ob 7 (.mv (.tmp 16))] true [2,3,4,5,6,7]) GB)
def aoi:comp Tryz.prog RD acx=some wG:=ft
noncomputable def acy:Code:=match Tryz.f50.body with|some (.seq _ (.seq _ (.cond _ (.seq _ (.seq _ r)) _)))=>r|_ => .skip
def ae0:BX:={ n:=20,own:=[],lv:=[(5,[])],lp:=[] }
def yE:cG :=
 (.region [
 ob 17 (.mM 10 (.tmp 0)),
 ob 18 (.rE (.tmp 5)),
 ob 19 (.build [(.int .i64 0),(.int .i64 0),(.int .i64 0),(.int .i64 0),(.int .i64 0),(.slice .c0 []),(.slice .c0 [])] [(0,1,(.tmp 18))]),
 ox (.store 10 (.tmp 1) (.tmp 17)),
 ox (.store 7 (.tmp 2) (.tmp 19))] false [])
def aoj:comp Tryz.prog ae0 acy=some yE:=ft
noncomputable def acw:Code:=match Tryz.f29.body with|some (.seq r _)=>r|_ => .skip
def aeZ:BX:={ n:=44,own:=[],lv:=[(0,[2,3,4,5])],lp:=[] }
def MY:cG :=
 (.region [
 ob 2 (.box (.tmp 0)),
 ob 3 (.box (.tmp 1)),
 ob 4 (.yX [(.slice .c0 []),(.int .i64 0),(.int .i64 0),(.int .i64 0),(.slice .c0 []),(.slice .c0 []),(.slice .c0 []),(.int .i64 0),(.slice .c0 []),(.slice .c0 [])]),
 ob 5 (.yX [(.int .i64 0),(.int .i64 0),(.int .i64 0),(.int .i64 0),(.int .i64 0),(.slice .c0 []),(.slice .c0 [])])] false [2,3,4,5])
def aoh:comp Tryz.prog aeZ acw=some MY:=ft
end Go.Proofs.YteoamaffclmdbaaGreatDoor
namespace Go.Proofs.YteoamaffclmdbaaGreatDoor
open Go Go.Abs
def K1(w:World):(Instr.typeAssert .nilIface 20 99 true).run Tryz.prog w = .ok (.tuple #[.nilIface,.bool false]) w:=ft
def K0(v:Value)(w:World):(Instr.typeAssert (.iface 43 v) 20 99 true).run Tryz.prog w = .ok (.tuple #[.iface 43 v,.bool true]) w:=ft
set_option maxRecDepth 40000 in
def La(p q r:Value)(w:World) :
  CallsD Tryz.prog 50 #[p,q,r] .returning w fun e u' w'=>e = .returned (.tuple #[])/\u' = .returning/\w'=w:=by
 refine callsD_of_wpS func50 rfl fun c₀ cs hu=>?_
 simp only[ntmps50,db,au,az,Nat.reduceAdd,Nat.reduceSub,jQ,jR,lj,kf,aG,aP];apply wpS_seq;apply wpS_region;simp[wpOpsS,go_sem,recoverD,hu,Exit.thenS,K1];apply wpS_seq;apply wpS_region;simp[wpOpsS,go_sem,Exit.thenS];refine wpS_cond (t:=false) (by simp[Act.eval]) ?_
 simp only[af,aE];refine wpS_of_wp (wp_skip ?_);cases c₀;simp_all [bodyPostS,results,Tryz.results50]
def G6(w:World)(o:Obj):(w.alloc o).heap=w.heap.push o:=rfl
def Xl{e:Int}{j:J}{M:aC}{w W:World}(hr:Rel j M w)(hsz:w.heap.size<W.heap.size)(hos:W.os=w.os)(ht:W.tape=w.tape)(hou:W.output=w.output)(jq:W.heap[w.heap.size]?=some (.cells #[.int .i64 e] 43 (0,0)))(hb:∀b,b<w.heap.size->W.heap[b]?=w.heap[b]?) :
  Rel (gH j M.length (some w.heap.size)) (M++[.cells [.int .i64 e]]) W/\Ext j M w (gH j M.length (some w.heap.size)) (M++[.cells [.int .i64 e]]) W:=by
 have hob:∀b,some w.heap.size=some b->w.heap.size<=b/\b<W.heap.size:=fun b h=>by injection h with h; omega
 have q:Quiet w W:=⟨aH,hos,ht,hou⟩;refine⟨hr.push hob q hb (fun _=>⟨_,rfl,fun j' M' _=>⟨_,_,jq,rfl,fun i c v hc hv=>?_⟩⟩) (fun sz n b h=>by cases h),Ext.push (fun b h=>(hob b h).1) q hb⟩
 match i with
 |0 =>
  simp at hc hv;subst hc; subst hv;exact .plain (.int _ _)
 |i+1=>simp at hc
def Pc{e:Int}{j:J}{M:aC}{w:World}(hr:Rel j M w)(hG:sW j M w){p q r:Value}{xp xq xr:ag}(hp:gk j M w xp p)(hq:gk j M w xq q)(hr':gk j M w xr r){o:Out}
  (ho:eM (aq gM) yE [(0,xp),(1,xq),(2,xr),(5,.ptr M.length 0)] (M++[.cells [.int .i64 e]])=some o) (hn:o.e = .normal) :
  CallsD Tryz.prog 50 #[p,q,r] (.panicking [{ v := .iface 43 (.int .i64 e),recovered:=false }]) w fun ed u' w' =>
   ed = .returned (.tuple #[])/\u' = .panicking [{ v := .iface 43 (.int .i64 e),recovered:=true }]/\∃j',Rel j' o.mem w'/\Ext j M w j' o.mem w':=by
 have hg:=(hG.g 0 [I5] 0 I5 rfl rfl).2;have cQ:0<w.heap.size:=(hG.g 0 [I5] 0 I5 rfl rfl).1.lt;refine callsD_of_wpS func50 rfl fun c₀ cs hu=>?_
 simp only[ntmps50,db,au,az,Nat.reduceAdd,Nat.reduceSub,jQ,jR,lj,kf,aG,aP];apply wpS_seq;apply wpS_region;simp[wpOpsS,go_sem,recoverD,hu,Exit.thenS,K0];apply wpS_seq;apply wpS_region;simp[wpOpsS,go_sem,Exit.thenS];refine wpS_cond (t:=true) (by simp[Act.eval]) ?_
 simp only[aF];refine wpS_of_wp ?_;refine wp_seq (wp_region ?_);simp[wpOps,go_sem,Exit.then]
 refine .inl (wp_seq (wp_seq (wp_region ?_)));simp[wpOps,go_sem,Exit.then]
 repeat' refine Or.inl ?_
 refine(alQ e ⟨w.heap.size,0,none⟩ (.int .i64 0) _ ?_ ?_ ?_).mono ?_
 ·rw[World.cell?_alloc_lt _ _ ⟨0,0,none⟩ cQ]; exact hg
 ·simp
 ·simp
 rintro ev w' ⟨rfl,rfl⟩;simp[go_sem];refine .inl (wp_cond (t:=false) ?_ ?_)
 ·simp[Act.eval]
 simp only[af,aE];refine wp_skip ?_;simp only[Exit.then]
 have hR:=Xl (e:=e) hr (W:=((((w.alloc (.cells #[.int .i64 e] 43)).alloc (.cells #[.pointer (some ⟨w.heap.size,0,none⟩)] 102)).alloc (.cells #[.pointer (some ⟨2,102,none⟩),.pointer (some ⟨w.heap.size+1,0,none⟩),.int .u64 150] 173)).alloc (.cells #[.pointer (some ⟨2,102,none⟩),.pointer (some ⟨w.heap.size+1,0,none⟩),.int .u64 150] 173)).alloc (.cells #[.int .i64 e] 43))
  (by simp only[G6,Array.size_push]; omega) rfl rfl rfl (by
   have h2:w.heap.size≠w.heap.size+1+1:=aH;have h3:w.heap.size≠w.heap.size+1+1+1:=aH;have h4:w.heap.size≠w.heap.size+1+1+1+1:=aH;simp only[G6]; simp[fV,h2,h3,h4]) (fun b hb=>by
   have h1:b≠w.heap.size:=aH;have h2:b≠w.heap.size+1:=aH;have h3:b≠w.heap.size+1+1:=aH;have h4:b≠w.heap.size+1+1+1:=aH;have h5:b≠w.heap.size+1+1+1+1:=aH;simp only[G6]; simp[fV,h1,h2,h3,h4,h5])
 have hG':=hG.mono hR.2;have key:=wpIn_wide.1 (mH (rd:=none) (nd:=0) ft MB acy aoj ho hR.1 hG' (a:={ tmps := #[p,q,r,.iface 43 (.int .i64 e),.bool true,.pointer (some ⟨w.heap.size,0,none⟩),.tuple #[.iface 43 (.int .i64 e),.bool true],.iface 43 (.int .i64 e),.tuple #[.iface 43 (.int .i64 e),.bool true],.iface 43 (.int .i64 e),.bool true,.bool true,.iface 43 (.int .i64 e),.iface 102 (.pointer (some ⟨w.heap.size,0,none⟩)),.bool true,.bool false,undef,undef,undef,undef],defers:=[] }) ?_ rfl)
 ·refine wp_mono key ?_;rintro ex a' w' ⟨h1,h2,h3,j',h4,h5,h6⟩;rw[hn] at h1;simp only[rS] at h1;subst h1;simp[bodyPostS,results,Tryz.results50,h3];exact⟨j',h4,hR.2.trans h6⟩
 ·refine⟨fun t=>?_,hG'⟩
  match t with
  |0=>exact hp.mono hR.2
  |1=>exact hq.mono hR.2
  |2=>exact hr'.mono hR.2
  |5=>exact .ptr dw ⟨_,kh⟩ (by simp[gH])
  |3=>exact .any _
  |4=>exact .any _
  |t+6=>exact .any _
end Go.Proofs.YteoamaffclmdbaaGreatDoor
namespace Go.Abs
open Go
variable [kx]
def Xn{a:Act}{d:Option Nat}{v:Value}{t:Nat}(h:d≠some t):(a.put d v).tmps.getD t undef=a.tmps.getD t undef:=by
 cases d with
 |none=>rfl
 |some s =>
  have hne:s≠t:=fun e=>h (by rw[e])
  simp[Act.put,dy,fE hne]
def Tz{F:Fence}{n:Nat}{P:Program}{ops:Array Oper}{Q:Exit->Act->World->Prop}{ks:List Nat}{v0:Nat->Value}:∀(l:List Nat)(a:Act)(w:World),
  (∀i o,i∈l->ops[i]?=some o->∀t,t∈ks->o.dst≠some t)->(∀t,t∈ks->a.tmps.getD t undef=v0 t)->wpOpsIn F n P ops Q l a w->wpOpsIn F n P ops (fun e a' w'=>Q e a' w'/\(e = .outgrown\/∀t,t∈ks->a'.tmps.getD t undef=v0 t)) l a w:=by
 intro l;induction l with
 |nil=>exact fun a w _ hv h=>⟨h,.inr hv⟩
 |cons i rest ih =>
  intro a w hd hv h;have hd':∀i o,i∈rest->ops[i]?=some o->∀t,t∈ks->o.dst≠some t:=fun i o hi=>hd i o (bu _ hi)
  simp only[wpOpsIn] at h ⊢;cases ho:ops[i]? with
  |none=>rw[ho] at h; exact ih a w hd' hv h
  |some o =>
   rw[ho] at h;have hdo:=hd i o bD ho;have hp:∀(a:Act) v,(∀t,t∈ks->a.tmps.getD t undef=v0 t)->∀t,t∈ks->(a.put o.dst v).tmps.getD t undef=v0 t:=fun a v h t ht=>(Xn (hdo t ht)).trans (h t ht)
   simp only at h ⊢;split at h
   ·rename_i hw;rw[aZ hw];refine⟨h.1,?_⟩;have h:=h.2;unfold Oper.uponIn at h ⊢;split at h
    ·exact ih _ _ hd' (hp _ _ hv) h
    ·exact ih _ _ hd' (hp _ _ hv) h
    ·exact ih _ _ hd' (hp _ _ hv) h
    ·refine⟨h.1,h.2.mono fun e w' h=>?_⟩
     cases e with
     |returned v=>exact ih _ _ hd' (hp _ _ hv) h
     |panicked c=>exact⟨h,.inr hv⟩
     |outgrown=>obtain⟨a1,w1,h⟩:=h; exact⟨a1,w1,h,.inl rfl⟩
    ·exact⟨h.1,h.2.mono fun v w' h=>ih _ _ hd' (hp _ _ hv) h⟩
    ·refine⟨h.1,h.2.mono fun e w' h=>?_⟩
     cases e with
     |returned v=>exact ih _ _ hd' (hp _ _ hv) h
     |panicked c=>exact⟨h,.inr hv⟩
     |outgrown=>obtain⟨a1,w1,h⟩:=h; exact⟨a1,w1,h,.inl rfl⟩
    ·exact⟨h,.inr hv⟩
    ·exact h.elim
   ·rename_i hw;rw[aQ hw];exact⟨h.1,ih _ _ hd' (hp _ _ hv) h.2⟩
def CT(ks:List Nat)(bp:Env)(o:Out):Out:=match o.e with
 | .nH v=>⟨.nH v,jI bp ks,o.mem⟩
 |_=>o
noncomputable def rK(C:eL)(ks:List Nat):cG->Env->aC->Option Out
 | .seq x y,bp,M=>bJ (rK C ks x bp M) fun o=>ug o (rK C ks y)
 | .region ops d live,bp,M=>bJ (eM C (.region ops d live) bp M) fun o=>some (if d then o else CT ks bp o)
 | .rz t c,bp,M=>rK C ks c (LQ M t bp) (qE M (hZ bp t).ids)
 |c,bp,M=>eM C c bp M
def Jo(ks:List Nat):Code->Bool
 | .seq x y=>Jo ks x&&Jo ks y
 | .region _ ops _=>ops.toList.all fun o=>match o.dst with|some d => !ks.contains d|none=>true
 |_=>true
def Kk{P:Program}{C:eL}{A:BX}(hmix:P.follows .mixedOrders=true)(hC:ny P C){rd:Option Nat}{nd:Nat}{ks:List Nat}:∀(c:Code){ac:cG},comp P A c=some ac->Jo ks c=true->∀ {bp:Env} {M:aC} {o:Out},rK C ks ac bp M=some o ->
  ∀ {j:J} {w:World} {a:Act},Rel j M w->sW j M w->cq j M w bp a->a.tmps.size=A.n->c.wpIn (Wd rd) nd P (YK A j M w a o) a w:=by
 intro c;induction c with
 |seq x y ihx ihy =>
  intro ac hc hf bp M o h j w a hr hG he hs;simp only[comp] at hc;obtain⟨ax,hx,hc⟩:=bf hc;obtain⟨ay,hy,hc⟩:=bf hc;cases hc;simp only[Jo,bz] at hf;simp only[rK] at h;obtain⟨o1,h1,h⟩:=bm h;refine wpIn_seq (wpIn_mono (ihx hx hf.1 h1 hr hG he hs) ?_);rintro e a1 w1 ⟨he1,hs1,hd1,j1,r1,e1,x1⟩;rcases uh h with ⟨hn,h2⟩|⟨hn,h2⟩
  ·rw[hn] at he1;subst he1;obtain⟨env',M',h3,r3,e3,x3⟩:=Nw (F:=rK C ks) (fun _ _ _ _=>rfl) h2 r1 e1
   refine wpIn_mono (ihy hy hf.2 h3 r3 (hG.mono (x1.trans x3)) e3 hs1) ?_;rintro e a2 w2 ⟨he2,hs2,hd2,j2,r2,e2,x2⟩;exact⟨he2,hs2,hd2.trans hd1,j2,r2,e2,(x1.trans x3).trans x2⟩
  ·subst h2;have:rS o.e ≠ .normal:=by cases ho:o.e<;>simp_all [rS]
   subst he1
   cases hx:rS o.e<;>first
    |exact absurd hx this
    |exact⟨hx.symm,hs1,hd1,j1,r1,e1,x1⟩
 |region id ops draw =>
  intro ac hc hf bp M o h j w a hr hG he hs;cases draw with
  |true =>
   have hc0:=hc;simp only[comp,aF] at hc;obtain⟨l0,hl0,hc⟩:=bf hc;obtain⟨l,hl,hc⟩:=bf hc;cases hc;simp only[rK,aF] at h;obtain⟨o1,h1,h⟩:=bm h;cases h;exact mH hmix hC _ hc0 h1 hr hG he hs
  |false =>
   have hc0:=hc;simp only[comp,af,aE] at hc;obtain⟨l,hl,hc⟩:=bf hc;cases hc;simp only[rK,af,aE] at h;obtain⟨o1,h1,h⟩:=bm h;cases h;simp only[eM] at h1;obtain⟨x,hx,h1⟩:=bm h1;cases h1
   have hdst:∀i o,i∈List.range ops.size->ops[i]?=some o->∀t,t∈ks->o.dst≠some t:=by
    intro i o _ hio t ht hd;simp only[Jo,bK] at hf;have:=hf o (Array.mem_toList_iff.2 (Array.mem_of_getElem? hio));rw[hd] at this;simp[ht] at this
   refine wpIn_mono (wpIn_region (Tz (v0:=fun t=>a.tmps.getD t undef) _ a w hdst (fun _ _=>rfl) (by
    rw[lB];exact yj hC (grow:=[]) ops.toList 0 dw hl hx hr hG he hs fun a' w' j' h1 h2 h3 h4 h5=>BD (live:=find A.lv id) h1 h2 h3 h4 h5))) ?_
   rintro e a1 w1 ⟨⟨he1,hs1,hd1,j1,r1,e1,x1⟩,hk⟩;clear hx;generalize x.rn (find A.lv id)=y at he1 r1 e1 x1 ⊢;cases hye:y.e with
   |nH v =>
    have hp:CT ks bp y=⟨.nH v,jI bp ks,y.mem⟩:=by unfold CT; rw[hye]
    rw[hp];have hk':=hk.resolve_left (by rw[he1,hye]; simp[rS])
    refine⟨by rw[he1,hye],hs1,hd1,j1,r1,⟨fun t=>?_,hG.mono x1⟩,x1⟩
    rw[zf];split
    ·rename_i ht;rw[hk' t ht];exact(he.at' t).mono x1
    ·exact .any _
   |normal =>
    have hp:CT ks bp y=y:=by unfold CT; rw[hye]
    rw[hp]; exact⟨he1,hs1,hd1,j1,r1,e1,x1⟩
   |ret =>
    have hp:CT ks bp y=y:=by unfold CT; rw[hye]
    rw[hp]; exact⟨he1,hs1,hd1,j1,r1,e1,x1⟩
   |exit i =>
    have hp:CT ks bp y=y:=by unfold CT; rw[hye]
    rw[hp]; exact⟨he1,hs1,hd1,j1,r1,e1,x1⟩
 |_ =>
  intro ac hc hf bp M o h j w a hr hG he hs;refine mH hmix hC _ hc (o:=o) ?_ hr hG he hs;simp only[comp] at hc
  first
   |(cases hc; exact h)
   |(obtain⟨_,_,hc⟩:=bf hc; injection hc with hc; unfold NR at hc; split at hc<;>subst hc<;>exact h)
   |(obtain⟨_,_,hc⟩:=bf hc; cases hc; exact h)
   |(obtain⟨_,_,hc⟩:=bf hc; obtain⟨_,_,hc⟩:=bf hc; obtain⟨_,_,hc⟩:=bf hc; cases hc; exact h)
   |cases hc
end Go.Abs
namespace Go.Proofs.YteoamaffclmdbaaGreatDoor
open Go Go.Abs
def abU:List sV:=[.dQ 4 10,.dQ 5 7]
noncomputable def M7(o1 o2:Out):Option (ag×aC) :=
 match o2.e with
 | .ret=>bJ (te o2.bp o2.mem abU) fun l=>some ((Abs.one l).kK 0 o2.mem,iB 0 o2.mem)
 | .nH (.iface 43 (.int .i64 e)) =>
  bJ (eM (aq gM) yE [(0,hZ o1.bp 2),(1,hZ o1.bp 4),(2,hZ o1.bp 5),(5,.ptr o2.mem.length 0)] (o2.mem++[.cells [.int .i64 e]])) fun o3 =>
  match o3.e with
  | .normal=>bJ (te o2.bp o3.mem abU) fun l=>some ((Abs.one l).kK 0 o3.mem,iB 0 o3.mem)
  |_=>none
 |_=>none
noncomputable def pDo:List ag->aC->Option (ag×aC):=fun args M =>
 match M with
 |_::_=>none
 | []=>if args.length=2 then
   bJ (eM (aq gM) MY (ef 0 args) []) fun o1 =>
   match o1.e with
   | .normal=>bJ (rK (aq gM) [4,5] wG (jI o1.bp [2,3,4,5]) o1.mem) fun o2=>M7 o1 o2
   |_=>none
  else none
def Sd{args:List ag}{M:aC}{x:ag×aC}(h:pDo args M=some x):dp Tryz.prog 29 args M x:=by
 unfold pDo at h;split at h
 ·cases h
 split at h
 rotate_left
 ·cases h
 rename_i dN;obtain⟨o1,ho1,h⟩:=bm h;split at h
 rotate_left
 ·cases h
 rename_i hn1;obtain⟨o2,ho2,h⟩:=bm h;intro j w vs hr hG hvl hv;refine calls_of_wp_defers func29 rfl ?_;refine wp_seq ?_;have hsz:(vs++Array.replicate (Tryz.f29.ntmps-vs.size) undef).size=44:=by rw[ntmps29]; simp; omega
 have he:cq j [] w (ef 0 args) { tmps:=vs++Array.replicate (Tryz.f29.ntmps-vs.size) undef,defers:=[] }:=by
  refine⟨fun t=>?_,hG⟩
  rw[Bf,aZ (cI _),bO];rcases bA t args.length with ht|ht
  ·have h1:=ai ht;have cQ:t<vs.size:=aH;have h2:=bg cQ;rw[h1];have h3:=hv t _ _ h1 h2
   have:(vs++Array.replicate (Tryz.f29.ntmps-vs.size) undef).getD t undef=vs[t]:=by
    simp[dy,cd cQ,h2]
   rw[this];exact h3
  ·rw[fj ht]; exact .any _
 refine wp_mono (wpIn_wide.1 (mH (rd:=none) (nd:=0) ft MB acw aoh ho1 hr hG he hsz)) ?_;rintro ex a1 w1 ⟨h1,h2,h3,j1,r1,e1,x1⟩;rw[hn1] at h1;simp only[rS] at h1;subst h1;simp only[Exit.then]
 refine wp_seq (wp_region ?_);obtain⟨t1,d1⟩:=a1;simp only at h2 h3;subst h3;have hmf:∀(fn:Fn)(first cap:Array Value)(w:World),(Instr.makeFunc fn first cap).run Tryz.prog w = .ok (.func fn first cap) w:=fun _ _ _ _=>rfl
 have h2':t1.size=44:=h2;have h9:9<t1.size:=aH;simp[wpOps,go_sem,Exit.then,hmf,h9,Array.getElem?_setIfInBounds,gZ]
 repeat' refine Or.inl ?_
 have key:∀d:List Deferred,cq j1 o1.mem w1 (jI o1.bp [2,3,4,5]) { tmps:=t1.setIfInBounds 9 (.func (.func 50) #[] #[t1[2]?.getD undef,t1[4]?.getD undef,t1[5]?.getD undef]),defers:=d }:=fun d=>by
  refine⟨fun t=>?_,e1.gl⟩
  rw[zf];split
  ·rename_i hm;have hne:9≠t:=by rintro rfl; simp at hm
   have:=e1.at' t;simp only[dy] at this ⊢;rw[fE hne];exact this
  ·exact .any _
 refine wp_mono (wpIn_wide.1 (Kk (rd:=none) (nd:=0) ft MB acx aoi ft ho2 r1 e1.gl (key _) (by simpa[RD] using h2'))) ?_
 rintro ex a2 w2 ⟨g1,g2,g3,j2,r2,e2,x2⟩;have hp:=(e1.at' 2).mono x2;have hq:=(e1.at' 4).mono x2;have hs:=(e1.at' 5).mono x2;simp only[dy] at hp hq hs;have hb0:0<=o2.mem.length:=cI _
 have fin:∀(j3:J)(M3:aC)(w3:World)(y:ag×aC),Rel j3 M3 w3->cq j3 M3 w3 o2.bp a2->Ext j [] w j3 M3 w3->(bJ (te o2.bp M3 abU) fun l=>some ((Abs.one l).kK 0 M3,iB 0 M3))=some y ->
   ∃v,(results f29 a2.tmps).run Tryz.prog w3 = .ok v w3/\wa j [] w y (.returned v) w3:=by
  intro j3 M3 w3 y r3 e3 x3 hy;obtain⟨l,hl,hy⟩:=bm hy;cases hy;obtain⟨us,u1,u2,u3⟩:=C9 (P:=Tryz.prog) (rs:=Tryz.f29.results.toList) r3 e3 (by kernel_rfl:IE Tryz.prog Tryz.f29.results.toList=some abU) hl
  have hres:(results f29 a2.tmps).run Tryz.prog w3 = .ok (if h:us.toArray.size=1 then us.toArray[0] else .tuple us.toArray) w3:=by
   unfold results;rw[lP,Sem.run_bind,Sem.run_map];refine iI (congrArg (fun r:Result (List Value)=>Result.andThen (r.andThen fun a w' => .ok a.toArray w') _) (iI ?_ u1)) rfl
   rfl
  exact⟨_,hres,.inl ⟨_,rfl,j3,zH (cI _) r3,xb (cI _) dw x3,FD (cI _) r3 (NY u2 u3)⟩⟩
 unfold M7 at h;split at h
 ·rename_i hret;rw[hret] at g1;simp only[rS] at g1;subst g1;simp only[bodyPostD,g3];refine leaves_cons (f:=50) (args := #[t1[2]?.getD undef,t1[4]?.getD undef,t1[5]?.getD undef]) dw (by simp[go_sem]) ?_
  refine(La _ _ _ _).mono ?_;rintro ed u' w'' ⟨rfl,rfl,rfl⟩;simp only[Leaves,settle];exact fin _ _ _ _ r2 e2 (x1.trans x2) h
 ·rename_i e hpan;obtain⟨o3,ho3,h⟩:=bm h;split at h
  rotate_left
  ·cases h
  rename_i hn3;rw[hpan] at g1;simp only[rS] at g1;subst g1;simp only[bodyPostD,g3];refine leaves_cons (f:=50) (args := #[t1[2]?.getD undef,t1[4]?.getD undef,t1[5]?.getD undef]) dw (by simp[go_sem]) ?_
  refine(Pc r2 e2.gl hp hq hs ho3 hn3).mono ?_;rintro ed u' w'' ⟨rfl,rfl,j3,r3,x3⟩;simp only[Leaves,settle];exact fin _ _ _ _ r3 (e2.mono x3) ((x1.trans x2).trans x3) h
 ·cases h
noncomputable def Fs:zA:=lu gM 29 pDo
def Oo:uQ Tryz.prog Fs:=oE Oq ft (fun h=>Sd h)
def X2{f:Nat}{a:List ag}{M:aC}{x:ag×aC}(h:aq gM f a M=some x):aq Fs f a M=some x:=p6 rfl rfl h
def lD{f:Nat}{vs:List ag}{M:aC}{x:ag×aC}(h:aR (aq gM) f vs M=some x):aR (aq Fs) f vs M=some x:=by
 obtain⟨a,B,y,h1,h2⟩:=oV h;exact h2 _ (X2 h1)
section
attribute [local irreducible] eS fI lx gK dZ kr aq aR cu bJ
def tg:AM Nat:=[(1,93),(2,94),(3,95),(4,96),(5,97),(6,98),(7,99),(8,100),(9,101),(10,102),(11,103),(12,104),(13,105),(14,106),(15,107),(16,108),(17,109)]
def fnV(K:Nat):ag := .raw (.func (.func K) ⟨[]⟩ ⟨[]⟩)
def c52:aq gM 52 [] []=some (.kj (B9 tg) (pk fnV tg),[]):=by
 refine aB ?_;simp only[amq,E52,xz,kC,Int.reduceBEq,Int.reduceEq,↓reduceIte,aw,EW,seval];rfl
end
def tp(K:Nat)(f:aa)(o:jz):aa×sR×Int :=
 if K=93 then Cp f o else if K=94 then Cq f o else if K=95 then Co f o else if K=96 then va f o else if K=97 then u6 f o else if K=98 then Gj f o else if K=99 then CC f o else if K=100 then Cr f o else if K=101 then xf f o else if K=102 then GD f o else if K=103 then xT f o else if K=104 then IV f o else if K=105 then xu f o else if K=106 then CE f o else if K=107 then Gv f o else if K=108 then B7 f o else if K=109 then AY f o else (f,gy,0)
def Se{k:Int}{K:Nat}(hk:eZ tg k=some K){f:aa}{o:jz}(hf:vr f)(ho:sm o):px K f o (tp K f o):=by
 have hm:=xB _ _ _ hk;simp only[tg,bH,jY,List.not_mem_nil,or_false] at hm;rcases hm with ⟨_,rfl⟩|⟨_,rfl⟩|⟨_,rfl⟩|⟨_,rfl⟩|⟨_,rfl⟩|⟨_,rfl⟩|⟨_,rfl⟩|⟨_,rfl⟩|⟨_,rfl⟩|⟨_,rfl⟩|⟨_,rfl⟩|⟨_,rfl⟩|⟨_,rfl⟩|⟨_,rfl⟩|⟨_,rfl⟩|⟨_,rfl⟩|⟨_,rfl⟩
 ·exact c93 f o hf ho
 ·exact c94 f o hf ho
 ·exact c95 f o hf ho
 ·exact c96 f o hf ho
 ·exact c97 f o hf ho
 ·exact c98 f o hf ho
 ·exact c99 f o hf ho
 ·exact aql f o hf ho
 ·exact aqm f o hf ho
 ·exact aqn f o hf ho
 ·exact aqo f o hf ho
 ·exact aqp f o hf ho
 ·exact aqq f o hf ho
 ·exact aqr f o hf ho
 ·exact aqs f o hf ho
 ·exact aqt f o hf ho
 ·exact aqu f o hf ho
def xG(c:Bool)(b:Bool)(M:aC)(k:Option Out):E7 c ((.bool b),M) k=k:=rfl
def Ao(c:Bool)(i:IntKind)(n:Int)(M:aC)(k:Option Out):E7 c ((.int i n),M) k=k:=rfl
def Au(c:Bool)(b:Bytes)(M:aC)(k:Option Out):E7 c ((.str b),M) k=k:=rfl
def vR(c:Bool)(t:Tk)(l:List ag)(M:aC)(k:Option Out):E7 c ((.slice t l),M) k=k:=rfl
def Am(c:Bool)(l:List ag)(M:aC)(k:Option Out):E7 c ((.agg l),M) k=k:=rfl
def vS(c:Bool)(l:List ag)(M:aC)(k:Option Out):E7 c ((.tuple l),M) k=k:=rfl
def Aq(c:Bool)(i n:Nat)(M:aC)(k:Option Out):E7 c ((.ptr i n),M) k=k:=rfl
def xH(c:Bool)(a b:List ag)(M:aC)(k:Option Out):E7 c ((.kj a b),M) k=k:=rfl
def Ar(c:Bool)(v:Value)(M:aC)(k:Option Out):E7 c ((.raw v),M) k=k:=rfl
def An(c:Bool)  (M:aC)(k:Option Out):E7 c (.any,M) k=k:=rfl
def Ap(v:Value)(M:aC)(k:Option Out):E7 true (.nH v,M) k=some ⟨.nH v,[],M⟩:=rfl
def DU(e:Env)(M:aC)(k:Env->aC->Option Out):ug ⟨.normal,e,M⟩ k=k e M:=rfl
def DV(v:Value)(e:Env)(M:aC)(k:Env->aC->Option Out):ug ⟨.nH v,e,M⟩ k=some ⟨.nH v,e,M⟩:=rfl
def S9(e:Env)(M:aC)(k:Env->aC->Option Out):ug ⟨.ret,e,M⟩ k=some ⟨.ret,e,M⟩:=rfl
def TA(live:List Nat)(e:Env)(M:aC):Out.rn live ⟨.ret,e,M⟩=⟨.ret,e,M⟩:=rfl
def Xh(ks:List Nat)(bp e:Env)(M:aC):CT ks bp ⟨.ret,e,M⟩=⟨.ret,e,M⟩:=rfl
def D9(live:List Nat)(e:Env)(M:aC):Out.rn live ⟨.normal,e,M⟩=⟨.normal,jI e live,M⟩:=rfl
def Ea(live:List Nat)(v:Value)(e:Env)(M:aC):Out.rn live ⟨.nH v,e,M⟩=⟨.nH v,e,M⟩:=rfl
def EA(ks:List Nat)(bp e:Env)(M:aC):CT ks bp ⟨.normal,e,M⟩=⟨.normal,e,M⟩:=rfl
def EB(ks:List Nat)(bp:Env)(v:Value)(e:Env)(M:aC):CT ks bp ⟨.nH v,e,M⟩=⟨.nH v,jI bp ks,M⟩:=rfl
def IA:(false==true)=false:=rfl
def IB:(true==false)=false:=rfl
def Iz:(false==false)=true:=rfl
def IC:(true==true)=true:=rfl
def hV(e:Int):sR:=⟨e,0,0,0,0,[],[]⟩
def oa(f:aa)(o:jz):aa×sR :=
 match eZ tg o.kind with
 |none=>(f,hV 1)
 |some K=>if 0<=o.bF/\o.bF<16 then (if (tp K f o).2.2=0 then ((tp K f o).1,(tp K f o).2.1) else (f,hV (tp K f o).2.2)) else (f,hV 1)
def sQ:List ag:=[.slice .c0 [],.int .i64 0,.int .i64 0,.int .i64 0,.slice .c0 [],.slice .c0 [],.slice .c0 [],.int .i64 0,.slice .c0 [],.slice .c0 []]
def rh:List ag:=[.int .i64 0,.int .i64 0,.int .i64 0,.int .i64 0,.int .i64 0,.slice .c0 [],.slice .c0 []]
def yC(f:aa)(o:jz):aC:=[.cells (cg f),.cells (eW o),.cells sQ,.cells rh]
def uV:Env:=[(2,.ptr 0 0),(3,.ptr 1 0),(4,.ptr 2 0),(5,.ptr 3 0)]
def B8(a:sR)(x y:ag):List ag:=[.int .i64 a.err,.int .i64 a.ar,.int .i64 a.kind,.int .i64 a.n,.int .i64 a.m,x,y]
section
attribute [local irreducible] aq aR cu bJ
def aio(f:aa)(o:jz):eM (aq gM) MY (ef 0 [.agg (cg f),.agg (eW o)]) []=some ⟨.normal,uV,yC f o⟩:=by
 simp only[MY,cg,eW,yC,uV,sQ,rh,eM,gu,ug,xE,E7,EV,seval];rfl
def k52:=cP c52
def XG(f:aa)(o:jz)(e:Int):eM (aq gM) yE [(0,cC 0),(1,cC 2),(2,cC 3),(5,cC 4)] (yC f o++[cF [aD e]]) =
  some ⟨.normal,[],cF (cg f) :: cF (eW o) :: cF (cg f) :: cF (B8 (hV e) (.slice .c0 []) (.slice .c0 []))::[cF [aD e]]⟩:=by
 simp only[yE,cg,eW,yC,sQ,rh,B8,hV,eM,gu,ug,xE,E7,EV,seval];rfl
def ais(f:aa)(o:jz)(b:cV)(e:Int):eM (aq gM) yE [(0,cC 0),(1,cC 2),(2,cC 3),(5,cC 5)] (yC f o++[b]++[cF [aD e]]) =
  some ⟨.normal,[],cF (cg f) :: cF (eW o) :: cF (cg f) :: cF (B8 (hV e) (.slice .c0 []) (.slice .c0 []))::[b,cF [aD e]]⟩:=by
 simp only[yE,cg,eW,yC,sQ,rh,B8,hV,eM,gu,ug,xE,E7,EV,seval];rfl
def aiq(f:aa)(o:jz)(h:eZ tg o.kind=none):rK (aq gM) [4,5] wG (jI uV [2,3,4,5]) (yC f o)=some ⟨.nH (.iface 43 (.int .i64 1)),[(4,.ptr 2 0),(5,.ptr 3 0)],yC f o⟩:=by
 have g:=pd fnV tg o.kind;rw[h] at g;have q:=fun M=>Q9 false 1 rfl M
 simp only[af,aE,gh] at q;have q0:=k52;simp only[wG,Gy,Gz,GA,GB,cg,eW,yC,uV,rK,eM,gu,xG,Ao,Au,vR,Am,vS,Aq,xH,Ar,An,Ap,DU,DV,D9,Ea,EA,EB,IA,IB,Iz,IC,af,aF,aE,mapOf.eq_2,pt,q0,g,q,oQ,iK,cU,EV,seval]
def aip(f:aa)(o:jz)(K:Nat)(h:eZ tg o.kind=some K)(hc:¬(0<=o.bF/\o.bF<16)):rK (aq gM) [4,5] wG (jI uV [2,3,4,5]) (yC f o)=some ⟨.nH (.iface 43 (.int .i64 1)),[(4,.ptr 2 0),(5,.ptr 3 0)],yC f o⟩:=by
 have g:=pd fnV tg o.kind;rw[h] at g;have q:=fun M=>Q9 false 1 rfl M
 simp only[af,aE,gh] at q;have q0:=k52
 by_cases h1:0<=o.bF
 ·have h2:(o.bF<16)=False:=Yp;have h1:(0<=o.bF)=True:=by simp only[fT,jx]; exact h1
  simp only[wG,Gy,Gz,GA,GB,cg,eW,yC,uV,rK,eM,gu,xG,Ao,Au,vR,Am,vS,Aq,xH,Ar,An,Ap,DU,DV,D9,Ea,EA,EB,IA,IB,Iz,IC,af,aF,aE,mapOf.eq_2,pt,q0,g,q,bC,bQ,fnV,h1,h2,EV,seval]
 ·have h1:(0<=o.bF)=False:=by simp only[fT,iff_false]; exact h1
  simp only[wG,Gy,Gz,GA,GB,cg,eW,yC,uV,rK,eM,gu,xG,Ao,Au,vR,Am,vS,Aq,xH,Ar,An,Ap,DU,DV,D9,Ea,EA,EB,IA,IB,Iz,IC,af,aF,aE,mapOf.eq_2,pt,q0,g,q,bC,bQ,fnV,h1,EV,seval]
def air(f:aa)(o:jz)(K:Nat)(r:aa×sR×Int)(h:eZ tg o.kind=some K)(hc0:0<=o.bF)(hc1:o.bF<16)(hd:px K f o r) :
  ∃x y,Row x (r.2.1.names.map ag.str)/\Row y (r.2.1.data.map qB)/\rK (aq gM) [4,5] wG (jI uV [2,3,4,5]) (yC f o) =
   some (if r.2.2 != 0 then ⟨.nH (.iface 43 (.int .i64 r.2.2)),[(4,.ptr 2 0),(5,.ptr 3 0)],yC f o++[dG r.1 o r.2.1 x y]⟩
    else ⟨.ret,[(4,.ptr 2 0),(5,.ptr 3 0)],[.cells (cg f),.cells (eW o),.cells (cg r.1),.cells (B8 r.2.1 x y),dG r.1 o r.2.1 x y]⟩):=by
 obtain⟨x,y,hx,hy,ha⟩:=hd;refine⟨x,y,hx,hy,?_⟩;have cx:x.je=true:=by rcases hx with h|⟨h,_⟩<;>rw[h]<;>rfl
 have cy:y.je=true:=by rcases hy with h|⟨h,_⟩<;>rw[h]<;>rfl
 have g:=pd fnV tg o.kind;rw[h] at g;have q:=fun M=>Q9 true 1 rfl M
 simp only[aF] at q;have q0:=k52;have h1:(0<=o.bF)=True:=by simp only[fT,jx]; exact hc0
 have h2:(o.bF<16)=True:=by simp only[fT,jx]; exact hc1
 have q5:aR (aq gM) K [.ptr 4 0] (yC f o++[.cells (bZ f o)])=some (if r.2.2 != 0 then gh r.2.2 else .tuple [],yC f o++[dG r.1 o r.2.1 x y]):=by
  obtain⟨f',a,e⟩:=r;simp only at hx hy ha ⊢;unfold dG at ha ⊢;rcases hx with rfl|⟨rfl,_⟩<;>rcases hy with rfl|⟨rfl,_⟩<;>exact tx (vs:=[]) (p:=4) rfl ha rfl rfl (by split<;>rfl) rfl (by split<;>rfl) rfl rfl rfl rfl rfl
 obtain⟨f',a,e⟩:=r;simp only at q5 ⊢;simp only[yC,cg,eW,bZ,dG,sQ,rh,aG,aP,gh] at q5 ⊢;cases he:e != 0<;>simp only[he,af,aF,aE] at q5 ⊢
 ·simp only[sQ,rh,S9,TA,Xh,wG,Gy,Gz,GA,GB,cg,eW,yC,uV,rK,eM,gu,xG,Ao,Au,vR,Am,vS,Aq,xH,Ar,An,Ap,DU,DV,D9,Ea,EA,EB,IA,IB,Iz,IC,af,aF,aE,mapOf.eq_2,pt,q0,g,q,bC,bQ,fnV,h1,h2,q5,B8,cx,cy,cW,EV,seval]
 ·simp only[sQ,rh,S9,TA,Xh,wG,Gy,Gz,GA,GB,cg,eW,yC,uV,rK,eM,gu,xG,Ao,Au,vR,Am,vS,Aq,xH,Ar,An,Ap,DU,DV,D9,Ea,EA,EB,IA,IB,Iz,IC,af,aF,aE,mapOf.eq_2,pt,q0,g,q,bC,bQ,fnV,h1,h2,q5,EV,seval]
end
def Pt(f:aa)(o:jz)(e:Int){R:aC}{M3:aC}(h:eM (aq gM) yE [(0,.ptr 0 0),(1,.ptr 2 0),(2,.ptr 3 0),(5,.ptr (yC f o++R).length 0)] (yC f o++R++[.cells [.int .i64 e]])=some ⟨.normal,[],.cells (cg f) :: .cells (eW o) :: .cells (cg f) :: .cells (B8 (hV e) (.slice .c0 []) (.slice .c0 []))::M3⟩) :
  M7 ⟨.normal,uV,yC f o⟩ ⟨.nH (.iface 43 (.int .i64 e)),[(4,.ptr 2 0),(5,.ptr 3 0)],yC f o++R⟩=some (.tuple [.agg (cg f),.agg (cN (hV e))],[]):=by
 show bJ (eM (aq gM) yE [(0,.ptr 0 0),(1,.ptr 2 0),(2,.ptr 3 0),(5,.ptr (yC f o++R).length 0)] (yC f o++R++[.cells [.int .i64 e]])) _=_
 rw[h,bN];rfl
def Xg(f:aa)(o:jz):pDo [.agg (cg f),.agg (eW o)] []=bJ (rK (aq gM) [4,5] wG (jI uV [2,3,4,5]) (yC f o)) fun o2=>M7 ⟨.normal,uV,yC f o⟩ o2:=by
 unfold pDo;simp only[];have h2:[ag.agg (cg f),ag.agg (eW o)].length=2:=rfl;rw[aZ h2,aio,bN]
def c29(f:aa)(o:jz)(hf:vr f)(ho:sm o):aq Fs 29 [.agg (cg f),.agg (eW o)] []=some (.tuple [.agg (cg (oa f o).1),.agg (cN (oa f o).2)],[]):=by
 have bad:∀e,oa f o=(f,hV e)->∀R M3,rK (aq gM) [4,5] wG (jI uV [2,3,4,5]) (yC f o)=some ⟨.nH (.iface 43 (.int .i64 e)),[(4,.ptr 2 0),(5,.ptr 3 0)],yC f o++R⟩ ->
   eM (aq gM) yE [(0,.ptr 0 0),(1,.ptr 2 0),(2,.ptr 3 0),(5,.ptr (yC f o++R).length 0)] (yC f o++R++[.cells [.int .i64 e]])=some ⟨.normal,[],.cells (cg f) :: .cells (eW o) :: .cells (cg f) :: .cells (B8 (hV e) (.slice .c0 []) (.slice .c0 []))::M3⟩ ->
   aq Fs 29 [.agg (cg f),.agg (eW o)] []=some (.tuple [.agg (cg (oa f o).1),.agg (cN (oa f o).2)],[]):=by
  intro e he R M3 h1 h2;rw[he];refine eP (g:=pDo) rfl ?_;rw[Xg,h1,bN];exact Pt f o e h2
 cases hk:eZ tg o.kind with
 |none =>
  refine bad 1 (by unfold oa; rw[hk]) [] [.cells [.int .i64 1]] ?_ ?_
  ·rw[aiq f o hk,dz]
  ·rw[dz]; exact XG f o 1
 |some K =>
  by_cases hc:0<=o.bF/\o.bF<16
  ·obtain⟨x,y,hx,hy,hs⟩:=air f o K (tp K f o) hk hc.1 hc.2 (Se hk hf ho)
   by_cases he:(tp K f o).2.2=0
   ·have hd:oa f o=((tp K f o).1,(tp K f o).2.1):=by unfold oa; rw[hk]; simp only[aZ hc,aZ he]
    rw[hd];refine eP (g:=pDo) rfl ?_;rw[Xg,hs,aQ (by simp[he]),bN]
    generalize tp K f o=r at hx hy ⊢;obtain⟨f',⟨a1,a2,a3,a4,a5,ns,dt⟩,e⟩:=r;simp only at hx hy;rcases hx with rfl|⟨rfl,hn⟩<;>rcases hy with rfl|⟨rfl,hm⟩
    ·rfl
    ·rw[oM] at hm; subst hm; rfl
    ·rw[oM] at hn; subst hn; rfl
    ·rw[oM] at hn hm; subst hn; subst hm; rfl
   ·refine bad (tp K f o).2.2 (by unfold oa; rw[hk]; simp only[aZ hc,aQ he]) [dG (tp K f o).1 o (tp K f o).2.1 x y] _ ?_ (ais f o _ _)
    rw[hs,aZ (by simpa using he)]
  ·refine bad 1 (by unfold oa; rw[hk]; simp only[aQ hc]) [] [.cells [.int .i64 1]] ?_ ?_
   ·rw[aip f o K hk hc,dz]
   ·rw[dz]; exact XG f o 1
def Wd(ae:List Node)(i:Int):Nat:=(bl ae i).data.length
def kl(m:AM Bool):List Int:=m.map Prod.fst
def yz(ae:List Node)(l:List Int):Nat:=(l.map (Wd ae)).sum
structure Seen(ae:List Node)(m:AM Bool):Prop where
 nd:(kl m).Nodup
 tr:∀p,p∈m->p.2=true
 inn:∀k,k∈kl m->(find ae k).isSome=true
inductive Rch(ae:List Node):Int->Int->Prop
 |one {i:Int} {e:gN}:e∈(bl ae i).bc->Rch ae i e.ar
 |step {i x:Int} {e:gN}:e∈(bl ae i).bc->Rch ae e.ar x->Rch ae i x
theorem JS:∀(m:AM Bool)(k:Int),k∈kl m->∃v,eZ m k=some v
 | [],k,h=>by grind [kl]
 |(a,v)::m,k,h=>by
  rw[eZ];split
  ·simp
  ·refine JS m k ?_
   grind [kl]
theorem Seen.get{ae:List Node}{m:AM Bool}(h:Seen ae m)(k:Int):(eZ m k).getD false=true↔k∈kl m:=by
 constructor
 ·intro hg;cases hm:eZ m k with
  |none=>grind
  |some v=>exact eJ.2 ⟨_,xB _ _ _ hm,rfl⟩
 ·intro hk;obtain⟨v,hv⟩:=JS m k hk;have:=h.tr _ (xB _ _ _ hv)
  grind
def JT:∀(m:AM Bool)(k:Int)(v:Bool),k∉kl m->kS m k v=m++[(k,v)]
 | [],k,v,_=>rfl
 |(a,w)::m,k,v,h=>by
  simp only[kl,aK,bH,pg] at h;rw[kS,aQ h.1,JT m k v h.2]; rfl
theorem Seen.put{ae:List Node}{m:AM Bool}(h:Seen ae m){k:Int}(hk:k∉kl m)(hf:(find ae k).isSome=true):Seen ae (kS m k true)/\kl (kS m k true)=kl m++[k]:=by
 rw[JT m k _ hk];have e:kl (m++[(k,true)])=kl m++[k]:=by simp[kl]
 refine⟨⟨?_,fun p hp=>?_,fun x hx=>?_⟩,e⟩
 ·rw[e];refine lh.2 ⟨h.nd,dw,fun a ha b hb=>?_⟩
  grind
 ·rcases bo.1 hp with hp|hp
  ·exact h.tr p hp
  grind
 ·rw[e] at hx;rcases bo.1 hx with hx|hx
  ·exact h.inn x hx
  grind
def aco{t:Tree}{dJ:Int->Nat}(h:dY t dJ 0)(i:Int):Wd t.ae i<=4096:=by
 unfold Wd bl;cases hi:find _ i with
 |none=>simp[Node.zero]
 |some n =>
  rcases h.kind _ _ hi with h1|h1
  ·exact(h.file _ _ hi h1).2.2
  ·simp[h.dir _ _ hi h1]
theorem On{t:Tree}{dJ:Int->Nat}(h:dY t dJ 0):∀l:List Int,yz t.ae l<=4096*l.length
 | []=>by simp[yz]
 |i::l=>by
  have h1:=aco h i;have h2:=On h l
  grind [yz]
theorem Seen.len{t:Tree}{dJ:Int->Nat}(h:dY t dJ 0){m:AM Bool}(hs:Seen t.ae m):(kl m).length<=200:=by
 have:=JV _ _ hs.nd (fun x hx=>by
  obtain⟨n,hn⟩:=fA.1 (hs.inn x hx);exact eJ.2 ⟨n,(cJ hn).1,(cJ hn).2⟩)
 have h2:=h.ae
 grind
structure Fol(ae:List Node)(r i:Int)(l:List gN)(s s':Int×AM Bool):Prop where
 seen:Seen ae s'.2
 sum:s'.1=(Wd ae r:Int)+yz ae (kl s'.2)
 sub:∀x,x∈kl s.2->x∈kl s'.2
 all:∀e,e∈l->e.ar∈kl s'.2
 new:∀x,x∈kl s'.2->x∈kl s.2\/((∀e,e∈(bl ae x).bc->e.ar∈kl s'.2)/\Rch ae i x)
def Jn{t:Tree}{dJ:Int->Nat}(h:dY t dJ 0)(r:Int):∀(f:Nat)(ar:Int)(s:Int×AM Bool),(∀n,find t.ae ar=some n->n.kind=2->13<f+dJ ar)->0<f ->
  Seen t.ae s.2->s.1+Wd t.ae ar=(Wd t.ae r:Int)+yz t.ae (kl s.2)->Fol t.ae r ar (bl t.ae ar).bc s (mL t.ae f ar s):=by
 intro f;induction f with
 |zero=>simp
 |succ f ih =>
  intro ar s hd _ hs hq
  have key:∀(l:List gN)(u:Int×AM Bool),(∀e,e∈l->e∈(bl t.ae ar).bc)->Seen t.ae u.2->u.1=(Wd t.ae r:Int)+yz t.ae (kl u.2) ->
    Fol t.ae r ar l u (l.foldl (fun s e=>if !((eZ s.2 e.ar).getD false) then mL t.ae f e.ar (s.1,kS s.2 e.ar true) else s) u):=by
   intro l;induction l with
   |nil=>intro u _ h1 h2; exact⟨h1,h2,fun x hx=>hx,fun e he=>(by cases he),fun x hx => .inl hx⟩
   |cons e l ihl =>
    intro u hl h1 h2;rw[eK];have he:=hl e bD
    by_cases hk:e.ar∈kl u.2
    ·rw[aQ (by rw[(h1.get _).2 hk]; simp)]
     have g:=ihl u (fun x hx=>hl x (bu _ hx)) h1 h2
     refine⟨g.seen,g.sum,g.sub,fun x hx=>?_,g.new⟩
     rcases bH.1 hx with rfl|hx
     ·exact g.sub _ hk
     ·exact g.all x hx
    ·have hb:(eZ u.2 e.ar).getD false=false:=by
      cases hc:(eZ u.2 e.ar).getD false with
      |false=>rfl
      |true=>exact absurd ((h1.get _).1 hc) hk
     rw[hb,aZ (show(!false)=true from rfl)]
     obtain⟨n,hi⟩:∃n,find t.ae ar=some n:=by
      cases hi:find t.ae ar with
      |none=>simp[bl,hi,Node.zero] at he
      |some n=>simp
     have he':e∈n.bc:=by simpa[bl,hi] using he
     have hk2:n.kind=2:=by
      rcases h.kind _ _ hi with h3|h3
      ·rw[(h.file _ _ hi h3).1] at he'; cases he'
      ·exact h3
     obtain⟨_,_,e1,_,m,hm,hu⟩:=h.CO _ _ _ hi he';obtain⟨p1,p2⟩:=h1.put hk (by rw[hm]; rfl)
     have hsum:yz t.ae (kl (kS u.2 e.ar true))=yz t.ae (kl u.2)+Wd t.ae e.ar:=by rw[p2]; simp[yz]
     have g1:=ih e.ar (u.1,kS u.2 e.ar true) (fun n' hn' hk'=>by
      rw[hm] at hn'; cases hn';have h3:=(h.qK _ _ hm hk' e1).1;have h4:=hd n hi hk2;rw[hu hk'] at h3;omega) (by
      have h4:=hd n hi hk2;have h5:=(h.deep _ _ hi hk2).1;omega) p1 (by simp only; rw[hsum,h2]; omega)
     have g2:=ihl _ (fun x hx=>hl x (bu _ hx)) g1.seen g1.sum
     have hin:e.ar∈kl (kS u.2 e.ar true):=by rw[p2]; simp
     refine⟨g2.seen,g2.sum,fun x hx=>g2.sub _ (g1.sub _ (by simp only; rw[p2]; simp[hx])),fun x hx=>?_,fun x hx=>?_⟩
     ·rcases bH.1 hx with rfl|hx
      ·exact g2.sub _ (g1.sub _ hin)
      ·exact g2.all x hx
     ·rcases g2.new x hx with hx|hx
      ·rcases g1.new x hx with hx|⟨hx,hr⟩
       ·simp only at hx;rw[p2] at hx;rcases bo.1 hx with hx|hx
        ·exact .inl hx
        ·rw[bT.1 hx];exact .inr ⟨fun e' he'=>g2.sub _ (g1.all e' he'),.one he⟩
       ·exact .inr ⟨fun e' he'=>g2.sub _ (hx e' he'),.step he hr⟩
      ·exact .inr hx
  have hw:nw (s.1+(bl t.ae ar).data.length)=s.1+Wd t.ae ar:=by
   have h1:=aco h r;have h2:=On h (kl s.2);have h3:=hs.len h;have hW:((bl t.ae ar).data.length:Int)=(Wd t.ae ar:Int):=rfl;rw[hW];exact gx aH aH
  have g:=key (bl t.ae ar).bc (s.1+Wd t.ae ar,s.2) (fun _ h=>h) hs hq
  rw[mL,hw];exact⟨g.seen,g.sum,g.sub,g.all,g.new⟩
def InB(ae:List Node)(ar x:Int):Prop:=∃d e,d∈ae/\d.kind=2/\iM ae d.ar ar=true/\e∈d.bc/\e.ar=x
theorem aik{t:Tree}{dJ:Int->Nat}(h:dY t dJ 0){ar:Int}:∀ {i x:Int},Rch t.ae i x->(∃d,find t.ae i=some d/\(d.kind=2->iM t.ae i ar=true))->InB t.ae ar x:=by
 intro i x hr;induction hr with
 |one he =>
  rintro⟨d,hd,hb⟩;rename_i i e;have he':e∈d.bc:=jO
  have hk:d.kind=2:=by
   rcases h.kind _ _ hd with h3|h3
   ·rw[(h.file _ _ hd h3).1] at he'; grind
   omega
  exact⟨d,e,(cJ hd).1,hk,by rw[(cJ hd).2]; grind,he',rfl⟩
 |step he _ ih =>
  rintro⟨d,hd,hb⟩;rename_i i x e _;have he':e∈d.bc:=jO
  have hk:d.kind=2:=by
   rcases h.kind _ _ hd with h3|h3
   ·rw[(h.file _ _ hd h3).1] at he'; grind
   omega
  obtain⟨_,_,e1,_,m,hm,hu⟩:=h.CO _ _ _ hd he';refine ih ⟨m,hm,fun hk'=>?_⟩
  by_cases ho:e.ar=ar
  ·rw[ho]; simp[dY.oU]
  ·rw[h.sy hm hk' e1 ho]
   grind
theorem H0{t:Tree}{dJ:Int->Nat}(h:dY t dJ 0){ar:Int}{d:Node}(hd:find t.ae ar=some d)(hk:d.kind=2) :
  ∃K:List Int,K.Nodup/\(∀x,x∈K↔InB t.ae ar x)/\(∀x,x∈K->(find t.ae x).isSome=true)/\lq t.ae ar=((K.length:Int),(yz t.ae K:Int)):=by
 have g:=Jn h ar 14 ar (0,[]) (fun n hn hk=>aH) aH ⟨by simp[kl],fun p hp=>(by cases hp),fun k hk=>(by simp[kl] at hk)⟩ (by simp[kl,yz])
 have hu:lq t.ae ar=(((mL t.ae 14 ar (0,[])).2.length:Int),(mL t.ae 14 ar (0,[])).1):=by
  simp_all [lq,bl]
 generalize mL t.ae 14 ar (0,[])=s' at g hu;have w0:Wd t.ae ar=0:=by simp[Wd,bl,hd,h.dir _ _ hd hk]
 have cl:∀x,x∈kl s'.2->∀e,e∈(bl t.ae x).bc->e.ar∈kl s'.2:=fun x hx=>by
  rcases g.new x hx with h1|h1
  ·simp[kl] at h1
  ·exact h1.1
 refine⟨kl s'.2,g.seen.nd,fun x=>⟨fun hx=>?_,fun hx=>?_⟩,g.seen.inn,?_⟩
 ·rcases g.new x hx with h1|h1
  ·simp[kl] at h1
  grind [aik,dY.oU]
 ·obtain⟨p,e,hp,hpk,hb,he,rfl⟩:=hx
  have key:∀(m:Nat)(i:Int)(n:Node),find t.ae i=some n->n.kind=2->dJ i=m->iM t.ae i ar=true->∀e,e∈n.bc->e.ar∈kl s'.2:=by
   intro m;induction m with
   |zero =>
    intro i n hi hnk hm hb e he
    by_cases ho:i=ar
    ·subst ho;exact g.all e (by simpa[bl,hi] using he)
    ·by_cases h1:i=1
     ·grind [dY.qP]
     ·have:=(h.qK _ _ hi hnk h1).1; omega
   |succ m ihm =>
    intro i n hi hnk hm hb e he
    by_cases ho:i=ar
    ·subst ho;exact g.all e (by simpa[bl,hi] using he)
    ·have h1:i≠1:=fun hh=>by subst hh; have:=h.CN; omega
     rw[h.sy hi hnk h1 ho] at hb;obtain⟨a,q,hq,hqk⟩:=h.qK _ _ hi hnk h1;obtain⟨p,e',p1,p2,p3,p4⟩:=h.named hi hnk h1 (by have:=(h.num _ _ hi).1; omega)
     have:=ihm n.up p p1 p2 aH hb e' p3;rw[p4] at this
     grind
  have hpf:find t.ae p.ar=some p:=(ic h.lL.ml).2 ⟨hp,rfl⟩
  grind
 ·rw[hu,g.sum,w0];simp[kl]
def NU(e:Int)(ae:List Node)(met:List Bool):List Bool:=List.zipWith (fun n b=>b||n.ar==e) ae met
def Wy(ae:List Node)(ar:Int)(met:List Bool)(d:Node):List Bool:=if d.kind==2&&iM ae d.ar ar then d.bc.foldl (fun m e=>NU e.ar ae m) met else met
def sD(ae:List Node)(ar:Int):List Bool:=ae.foldl (Wy ae ar) (ae.map fun _=>false)
def Pj(met:List Bool):Nat:=met.countP id
def H3(ae:List Node)(met:List Bool):Nat:=((ae.zip met).map fun p=>if p.2 then p.1.data.length else 0).sum
def Gn(e:Int)(p:Node->Bool):∀l:List Node,NU e l (l.map p)=l.map fun n=>p n||n.ar==e
 | []=>rfl
 |n::l=>by
  have:=Gn e p l;simp only[NU,aK,List.zipWith_cons_cons] at this ⊢;rw[this]
def Ej(ae:List Node):∀(l:List gN)(p:Node->Bool),l.foldl (fun m e=>NU e.ar ae m) (ae.map p)=ae.map fun n=>p n||l.any fun e=>n.ar==e.ar
 | [],p=>dw
 |e::l,p=>by
  rw[eK,Gn,Ej ae l];simp only[jV,Bool.or_assoc]
def za(ae:List Node)(ar:Int):∀(l:List Node)(p:Node->Bool),∃q:Node->Bool,l.foldl (Wy ae ar) (ae.map p)=ae.map q /\
  ∀n,q n=true↔p n=true\/∃d e,d∈l/\d.kind=2/\iM ae d.ar ar=true/\e∈d.bc/\e.ar=n.ar
 | [],p=>⟨p,rfl,fun n=>dw⟩
 |d::l,p=>by
  rw[eK,Wy]
  by_cases hd:(d.kind==2&&iM ae d.ar ar)=true
  ·rw[aZ hd,Ej];obtain⟨q,h1,h2⟩:=za ae ar l fun n=>p n||d.bc.any fun e=>n.ar==e.ar
   refine⟨q,h1,fun n=>?_⟩
   rw[h2];rw[bz,eH] at hd;simp only[dh,km,eH,bH];constructor
   ·rintro((h|⟨e,h3,h4⟩)|⟨d',e,h3,h4⟩)
    ·exact .inl h
    ·exact .inr ⟨d,e,.inl rfl,hd.1,hd.2,h3,h4.symm⟩
    ·exact .inr ⟨d',e,.inr h3,h4⟩
   ·rintro(h|⟨d',e,rfl|h3,h4,h5,h6,h7⟩)
    ·exact .inl (.inl h)
    ·exact .inl (.inr ⟨e,h6,h7.symm⟩)
    ·exact .inr ⟨d',e,h3,h4,h5,h6,h7⟩
  ·rw[aQ hd];obtain⟨q,h1,h2⟩:=za ae ar l p;refine⟨q,h1,fun n=>?_⟩
   rw[h2];rw[bz,eH] at hd;simp only[bH];constructor
   ·rintro(h|⟨d',e,h3,h4⟩)
    ·exact .inl h
    ·exact .inr ⟨d',e,.inr h3,h4⟩
   ·rintro(h|⟨d',e,rfl|h3,h4,h5,h6⟩)
    ·exact .inl h
    ·exact absurd ⟨h4,h5⟩ hd
    ·exact .inr ⟨d',e,h3,h4,h5,h6⟩
def xg(ae:List Node)(ar:Int):∃q:Node->Bool,sD ae ar=ae.map q/\∀n,q n=true↔InB ae ar n.ar:=by
 obtain⟨q,h1,h2⟩:=za ae ar ae fun _=>false
 exact⟨q,h1,fun n=>by rw[h2]; simp[InB]⟩
def Dz(q:Node->Bool):∀l:List Node,Pj (l.map q)=(l.filter q).length
 | []=>rfl
 |n::l=>by
  have:=Dz q l;simp only[Pj,aK,lX,fq,id] at this ⊢;split<;>simp[this]
def HV(q:Node->Bool):∀l:List Node,H3 l (l.map q)=((l.filter q).map fun n=>n.data.length).sum
 | []=>rfl
 |n::l=>by
  have:=HV q l;simp only[H3,aK,List.zip_cons_cons,List.sum_cons,fq] at this ⊢;rw[this];split<;>simp
def Hc{t:Tree}{dJ:Int->Nat}(h:dY t dJ 0){ar:Int}{d:Node}(hd:find t.ae ar=some d)(hk:d.kind=2) :
  lq t.ae ar=((Pj (sD t.ae ar):Int),(H3 t.ae (sD t.ae ar):Int)):=by
 obtain⟨K,k1,k2,k3,k4⟩:=H0 h hd hk;obtain⟨q,q1,q2⟩:=xg t.ae ar;have hasc:=h.lL.ml
 have hp:K.Perm ((t.ae.filter q).map Node.ar):=by
  refine(List.perm_ext_iff_of_nodup k1 ?_).2 fun x=>?_
  ·have:((t.ae.filter q).map Node.ar).Pairwise (· < ·):=jX.2 (jU _ hasc)
   exact this.imp fun h=>aH
  ·rw[k2];constructor
   ·intro hx;obtain⟨n,hn⟩:=fA.1 (k3 x ((k2 x).2 hx));refine eJ.2 ⟨n,dP.2 ⟨(cJ hn).1,(q2 n).2 ?_⟩,(cJ hn).2⟩;rw[(cJ hn).2]; exact hx
   ·intro hx;obtain⟨n,hn,rfl⟩:=eJ.1 hx;exact(q2 n).1 (dP.1 hn).2
 rw[k4,q1,Dz,HV];have h1:K.length=(t.ae.filter q).length:=by rw[hp.length_eq,cz]
 have h2:yz t.ae K=((t.ae.filter q).map fun n=>n.data.length).sum:=by
  unfold yz;rw[(hp.map (Wd t.ae)).sum_nat,gI];congr 1;refine cT fun n hn=>?_
  have:find t.ae n.ar=some n:=(ic hasc).2 ⟨(dP.1 hn).1,rfl⟩;simp[Wd,bl,this]
 rw[h1,h2]
abbrev Fv(n:Node):Prop:=n.bc.length<=64/\n.data.length<=4096
structure FB(k:Nat)(f:aa):Prop where
 ok:vr f
 past:f.s.eR.length<=k
structure zC(a:sR):Prop where
 names:a.names.length<=90000
 data:a.data.length<=90000
def FB.mono{k m:Nat}{f:aa}(h:FB k f)(hm:k<=m):FB m f:=⟨h.ok,aY h.past hm⟩
def Rt.Yn{t:Tree}(h:Rt t){n:Node}(hn:n∈t.ae):Fv n:=by
 obtain⟨dJ,h⟩:=h;have hi:find t.ae n.ar=some n:=(ic h.lL.ml).2 ⟨hn,rfl⟩;refine⟨(h.yv _ _ hi).2,?_⟩;rcases h.kind _ _ hi with h1|h1
 ·exact(h.file _ _ hi h1).2.2
 ·rw[h.dir _ _ hi h1]; simp
def BC(t:Tree)(tk:List mR)(c:Int):∀(l:List Node)(y:List Int),(lR t tk c l y).length<=l.length/\∀p,p∈lR t tk c l y->p.node∈l
 | [],y=>⟨by simp[lR],fun p h=>by simp[lR] at h⟩
 |n::r,[]=>⟨by simp[lR],fun p h=>by simp[lR] at h⟩
 |n::r,x::y=>by
  obtain⟨h1,h2⟩:=BC t tk c r y;rw[lR];refine⟨?_,fun p hp=>?_⟩
  ·rw[aA,au];split<;>simp<;>omega
  ·rcases bo.1 hp with hp|hp
   ·split at hp
    ·rw[bT.1 hp]; exact bD
    ·cases hp
   ·exact bu _ (h2 p hp)
def FB.put{k:Nat}{f:aa}(h:FB k f)(hk:k<=89000){t:Tree}(ht:Rt t){H:List fD}(hH:uH H)(hl:H.length<=64){Q:List dV}(hQ:pA Q)(hq:Q.length<=16):FB (k+200) ⟨qz f.s t,H,Q⟩:=by
 have hf:=h.ok;have hp:=h.past;unfold qz;split
 ·exact⟨⟨hf.rt,hf.len,hf.eR,hf.ED,hf.dW,hH,hl,hQ,hq⟩,by simp only; omega⟩
 ·obtain⟨h1,h2⟩:=BC t f.s.dW (nw (f.s.tick+1)) f.s.now.ae f.s.since;have h3:=hf.rt.sz.ae;have h4:(f.s.eR++lR t f.s.dW (nw (f.s.tick+1)) f.s.now.ae f.s.since).length<=k+200:=by rw[aA]; omega
  refine⟨⟨ht,dw,by simp only; omega,fun p hp=>?_,hf.dW,hH,hl,hQ,hq⟩,h4⟩
  rcases bo.1 hp with hp|hp
  ·exact hf.ED p hp
  ·exact hf.rt.Yn (h2 p hp)
def FB.settle{k:Nat}{f:aa}(h:FB k f)(hk:k<=89000){t:Tree}(ht:Rt t){Q:List dV}(hQ:pA Q)(hq:Q.length<=16):FB (k+200) (j8 f t Q).1:=by
 unfold j8;split
 ·exact h.mono aH
 split
 ·exact h.mono aH
 ·exact h.put hk (Bc _ _ _ ht) h.ok.holds h.ok.dN (Gf hQ) (aY (Bq _ _) hq)
def JY{t:Tree}{l:List fD}(hl:uH l)(hn:l.length<=64)(c g ar:Int):uH (vQ t l c g ar).1/\(vQ t l c g ar).1.length<=64:=by
 have hlow:=Eg hl c g;unfold vQ;split
 ·exact⟨hl,hn⟩
 split
 ·exact⟨hl,hn⟩
 split
 ·exact⟨hl,hn⟩
 split
 ·exact⟨hl,hn⟩
 split
 ·exact⟨hl,hn⟩
 ·rename_i hi dN;simp only[bh] at dN
  have hat:∀(i:Nat)(y:fD),l[i]?=some y->decide (ig y c g<0)=false->xk ⟨c,g,ar⟩ y:=by
   intro i y hy hge;have h1:=hlow.le
   by_cases he:i=mj (fun x=>decide (ig x c g<0)) l
   ·subst he;have hne:¬(y.bF=c/\y.handle=g):=fun hh=>hi (by unfold pr; rw[hy]; simpa using(D1 y c g).2 hh)
    have cQ:=sd y c g;simp only[dD,cQ] at hge;unfold xk; simp only;omega
   ·have cQ:=sd y c g;simp only[dD,cQ] at hge
    have hgt:mj (fun x=>decide (ig x c g<0)) l<i:=by
     rcases bA (mj (fun x=>decide (ig x c g<0)) l) i with h|h
     ·exact h
     ·exact absurd ((hlow.lt i y hy).2 aH) (by simp only[bh,cQ]; exact hge)
    have hi':=(aj.1 hy).1;have hz:l[mj (fun x=>decide (ig x c g<0)) l]?=some l[mj (fun x=>decide (ig x c g<0)) l]:=ai aH
    have hp:xk l[mj (fun x=>decide (ig x c g<0)) l] y:=by
     have:=(cn.1 hl) _ i aH hi' hgt;rw[<-(aj.1 hy).2]; exact this
    generalize l[mj (fun x=>decide (ig x c g<0)) l]=z at hz hp
    have hzl:¬ig z c g<0:=fun h=>by
     have:=(hlow.lt _ z hz).1 (by simpa using h)
     omega
    rw[sd] at hzl;unfold xk at hp ⊢; simp only;omega
  refine⟨NB hl hlow (fun y hy h=>?_) (fun y hy h=>?_) (fun a b d h1 h2=>?_),by simp; have:=hlow.le; omega⟩
  ·simp only[bh,sd] at h; unfold xk; simp only; omega
  ·obtain⟨i,hy'⟩:=bV hy;exact hat i y hy' h
  ·unfold xk at *; omega
def Dy{t:Tree}{l:List fD}(hl:uH l)(c g:Int):uH (nB t l c g).2.1:=by
 unfold nB;split
 ·exact hl
 ·exact hl.sublist List.eraseP_sublist
def Bg(c:Int):∀(r l:List fD)(t:Tree),uH l->l.length<=64->uH (sY c r t l).2/\(sY c r t l).2.length<=64
 | [],l,t,h1,h2=>⟨h1,h2⟩
 |x::r,l,t,h1,h2=>by
  rw[sY];split
  ·exact Bg c r _ _ (Dy h1 _ _) (aY (y9 _ _ _ _) h2)
  ·exact Bg c r l t h1 h2
def FB.set{k:Nat}{f:aa}(h:FB k f){H:List fD}(hH:uH H)(hl:H.length<=64):FB (k+200) ⟨f.s,H,f.dX⟩ :=
 ⟨⟨h.ok.rt,h.ok.len,h.ok.eR,h.ok.ED,h.ok.dW,hH,hl,h.ok.dX,h.ok.sN⟩,by have:=h.past; simp only; omega⟩
def FB.aeg{k:Nat}{f:aa}(h:FB k f)(hk:k<=89000)(o:jz)(ar:Int)(d:Bytes):FB (k+200) (rD f o ar d).1:=by
 have hr:=h.settle hk (h.ok.rt.put ar d) h.ok.dX h.ok.sN;unfold rD;simp only[];split
 ·exact h.mono aH
 split<;>exact hr
def sH{α:Type}{P:α->Prop}{c:Prop}[Decidable c]{a b:α}(ha:P a)(hb:P b):P (if c then a else b):=by
 split
 ·exact ha
 ·exact hb
def Oy{P:Wk->Prop}{f:aa}{o:jz}(h55:P (Cp f o))(h56:P (Cq f o))(h57:P (Co f o))(h58:P (va f o))(h59:P (u6 f o))(h60:P (Gj f o))(h61:P (CC f o))(h62:P (Cr f o))(h63:P (xf f o))(h64:P (GD f o))(h65:P (xT f o))(h66:P (IV f o))(h67:P (xu f o))(h68:P (CE f o))(h69:P (Gv f o))(h70:P (B7 f o))(h71:P (AY f o))(h0:P (f,gy,0))(K:Nat):P (tp K f o) :=
 sH h55 (sH h56 (sH h57 (sH h58 (sH h59 (sH h60 (sH h61 (sH h62 (sH h63 (sH h64 (sH h65 (sH h66 (sH h67 (sH h68 (sH h69 (sH h70 (sH h71 (h0)))))))))))))))))
def Yg{k:Nat}{f:aa}(h:FB k f)(hk:k<=89000)(K:Nat)(o:jz):FB (k+200) (tp K f o).1:=by
 have h0:FB (k+200) f:=h.mono aH;have hp {t:Tree} (ht:Rt t):=h.settle hk ht h.ok.dX h.ok.sN;refine Oy (P:=fun r=>FB (k+200) r.1) ?_ ?_ ?_ ?_ ?_ ?_ ?_ ?_ ?_ ?_ ?_ ?_ ?_ ?_ ?_ ?_ ?_ ?_ K
 ·unfold Cp; split<;>exact h0
 ·have hr:=hp (h.ok.rt.add (mP f.s.now o.dK).1 (mP f.s.now o.dK).2.1 o.n);unfold Cq; simp only[];split
  ·exact h0
  split
  ·exact h0
  split<;>exact hr
 ·have hr:=hp (h.ok.rt.ln (bl f.s.now.ae (ky f.s.now o.dK).1).ar (mP f.s.now o.u9).1 (mP f.s.now o.u9).2.1);unfold Co; simp only[];split
  ·exact h0
  split
  ·exact h0
  split
  ·exact h0
  split<;>exact hr
 ·have hr:=hp (h.ok.rt.un (mP f.s.now o.dK).1 (mP f.s.now o.dK).2.1);unfold va; simp only[];split
  ·exact h0
  split
  ·exact h0
  split<;>exact hr
 ·have hr:=hp (h.ok.rt.mv (mP f.s.now o.dK).1 (mP f.s.now o.dK).2.1 (mP f.s.now o.u9).1 (mP f.s.now o.u9).2.1);unfold u6; simp only[];split
  ·exact h0
  split
  ·exact h0
  split
  ·exact h0
  split
  ·exact h0
  split<;>exact hr
 ·unfold Gj; simp only[];split
  ·exact h0
  split<;>exact h0
 ·unfold CC; simp only[]; split<;>exact h0
 ·obtain⟨g1,g2⟩:=JY (t:=f.s.now) h.ok.holds h.ok.dN o.bF o.handle (bl f.s.now.ae (ky f.s.now o.dK).1).ar;unfold Cr; simp only[];split
  ·exact h0
  split
  ·exact h0
  ·exact h.set g1 g2
 ·have hr:=h.put hk (h.ok.rt.close f.holds o.bF o.handle) (Dy (t:=f.s.now) h.ok.holds o.bF o.handle) (aY (y9 _ _ _ _) h.ok.dN) h.ok.dX h.ok.sN;unfold xf; simp only[];split
  ·exact h0
  ·exact hr
 ·unfold GD;split
  ·exact h0
  split<;>exact h0
 ·unfold xT;split
  ·exact h0
  split
  ·exact h0
  split
  ·exact h0
  ·exact h.aeg hk o _ _
 ·unfold IV;split
  ·exact h0
  ·exact h.aeg hk o _ _
 ·obtain⟨g1,g2⟩:=GC (t:=f.s.now) h.ok.dX h.ok.sN (bl f.s.now.ae (ky f.s.now o.dK).1).ar o.n o.m;have hr:=h.settle hk h.ok.rt g1 g2;unfold xu; simp only[];split
  ·exact h0
  split
  ·exact h0
  split<;>exact hr
 ·unfold CE; simp only[];split
  ·exact h0
  split
  ·exact h0
  ·rename_i hh;unfold takeN at hh ⊢;split
   ·exact h0
   split
   ·exact h0
   split
   ·exact h0
   ·rename_i dN;refine⟨⟨h.ok.rt,h.ok.len,h.ok.eR,h.ok.ED,?_,h.ok.holds,h.ok.dN,h.ok.dX,h.ok.sN⟩,by have:=h.past; simp only; omega⟩
    simp only[dh,bh,pg] at dN;simp; omega
 ·unfold Gv; simp only[];split
  ·exact h0
  split
  ·exact h0
  split<;>exact h0
 ·unfold B7; simp only[];split
  ·exact h0
  ·unfold ru;split
   ·exact h0
   ·refine⟨⟨h.ok.rt,h.ok.len,aY (bU _ _) h.ok.eR,fun p hp=>h.ok.ED p (dP.1 hp).1,aY (bU _ _) h.ok.dW,h.ok.holds,h.ok.dN,h.ok.dX,h.ok.sN⟩,?_⟩
    have:=h.past;have h2:=bU (vT (f.s.dW.filter (rG o.n))) f.s.eR;simp only; omega
 ·obtain⟨g1,g2⟩:=Bg o.bF f.holds f.holds f.s.now h.ok.holds h.ok.dN;exact h.put hk (h.ok.rt.gone o.bF f.holds f.holds) g1 g2 h.ok.dX h.ok.sN
 ·exact h0
def Hf{k:Nat}{f:aa}(h:FB k f)(hk:k<=89000)(o:jz):FB (k+200) (oa f o).1:=by
 unfold oa;split
 ·exact h.mono aH
 ·split
  ·split
   ·exact Yg h hk _ o
   ·exact h.mono aH
  ·exact h.mono aH
def WD{P:Node->Prop}{m:AM Node}(h:∀k n,eZ m k=some n->P n)(n:Node)(hn:P n):∀k x,eZ (kS m n.ar n) k=some x->P x:=by
 intro k x hx;rw[jC] at hx;split at hx
 ·injection hx with hx; rw[<-hx]; exact hn
 ·exact h k x hx
def EC{P:Node->Prop}(a:Int):∀(l:List py)(m:AM Node),(∀k n,eZ m k=some n->P n)->(∀p,p∈l->P p.node)->∀k n,eZ (l.foldl (nt a) m) k=some n->P n
 | [],m,h,hl=>h
 |p::r,m,h,hl=>by
  rw[eK];refine EC a r _ ?_ (fun p hp=>hl p (bu _ hp))
  unfold nt;split
  ·exact WD h _ (hl p bD)
  ·exact h
def JU{P:Node->Prop}(a:Int):∀(l:List Node)(y:List Int)(m:AM Node),(∀k n,eZ m k=some n->P n)->(∀p,p∈l->P p)->∀k n,eZ (sf a l y m) k=some n->P n
 | [],y,m,h,hl=>h
 |n::r,[],m,h,hl=>h
 |n::r,x::y,m,h,hl=>by
  rw[sf];refine JU a r y _ ?_ (fun p hp=>hl p (bu _ hp))
  split
  ·exact WD h _ (hl n bD)
  ·exact h
def YW{f:aa}(hf:vr f)(id:Int):∀n,n∈(vw f.s id).2.1->Fv n:=by
 unfold vw;split
 ·rename_i x _;intro n hn;have:=Bt n _ hn;refine GM (P:=Fv) ?_ 200001 x.ar ([],[]) (fun n h=>by cases h) n this
  exact JU x.at' _ _ _ (EC x.at' _ _ (fun k n h=>by cases h) hf.ED) (fun n hn=>hf.rt.Yn hn)
 ·exact fun n h=>by cases h
def J5{P:Node->Prop}{all:AM Node}(hall:∀k n,eZ all k=some n->P n):∀(p:List Bytes)(o:Option Node),(∀n,o=some n->P n)->∀n,(jn all p o).1=some n->P n
 | [],o,ho,n,h=>ho n h
 |s::r,o,ho,n,h=>by
  rw[jn] at h;split at h
  ·exact ho n h
  ·split at h
   ·exact ho n h
   ·exact J5 hall r _ (fun m hm=>hall _ _ hm) n h
def ng{a:sR}(h1:a.names=[])(h2:a.data=[]):zC a:=⟨by rw[h1]; simp,by rw[h2]; simp⟩
def Hk(e:Int):zC (hV e):=ng rfl rfl
def Q0{f:aa}(h:vr f)(K:Nat)(o:jz):zC (tp K f o).2.1:=by
 have h0:zC gy:=ng rfl rfl;have hv (i:Int) (d:Bytes):zC (rD f o i d).2.1:=ng (tQ f o i d).1 (tQ f o i d).2;refine Oy (P:=fun r=>zC r.2.1) ?_ ?_ ?_ ?_ ?_ ?_ ?_ ?_ ?_ ?_ ?_ ?_ ?_ ?_ ?_ ?_ ?_ ?_ K
 ·unfold Cp; split<;>exact ng rfl rfl
 ·unfold Cq; simp only[]; repeat' split
  all_goals exact ng rfl rfl
 ·unfold Co; simp only[]; repeat' split
  all_goals exact ng rfl rfl
 ·unfold va; simp only[]; repeat' split
  all_goals exact ng rfl rfl
 ·unfold u6; simp only[]; repeat' split
  all_goals exact ng rfl rfl
 ·unfold Gj; simp only[];split
  ·exact h0
  split
  ·exact h0
  ·refine⟨?_,dw⟩;simp only[cz];obtain⟨dJ,g⟩:=h.rt;have h64:=(x8 g (bl f.s.now.ae (ky f.s.now o.dK).1).ar).2
   have hfr:(zV f.s.now.ae (bl f.s.now.ae (ky f.s.now o.dK).1).ar o.n).length<=64:=by
    unfold zV;rw[wx];exact aY (bU _ _) h64
   unfold wK;split
   ·simp
   split
   ·simp
   split
   ·simp only; omega
   ·simp only[cf]; omega
 ·unfold CC; simp only[]; split<;>exact ng rfl rfl
 ·unfold Cr; simp only[]; repeat' split
  all_goals exact ng rfl rfl
 ·unfold xf; simp only[]; split<;>exact ng rfl rfl
 ·unfold GD;split
  ·exact h0
  split
  ·exact h0
  ·rename_i hh _;obtain⟨_,i,hi⟩:=C2 (f:=f) (o:=o) (by simpa using hh)
   have:=(xC h i).1;rw[hi];exact⟨dw,by simp only[cf,hU]; omega⟩
 ·unfold xT;split
  ·exact h0
  split
  ·exact h0
  split
  ·exact h0
  ·exact hv _ _
 ·unfold IV;split
  ·exact h0
  ·exact hv _ _
 ·unfold xu; simp only[]; repeat' split
  all_goals exact ng rfl rfl
 ·unfold CE; simp only[]; repeat' split
  all_goals exact ng rfl rfl
 ·have ha:=YW h o.n;unfold Gv; simp only[]
  have hall:∀k n,eZ (gb (vw f.s o.n).2.1 []) k=some n->Fv n:=fun k n h=>by
   rcases zm _ _ _ _ h with h|h
   ·exact ha n h
   ·cases h
  have hpe:=J5 hall (gG o.dK).1 (eZ (gb (vw f.s o.n).2.1 []) (vw f.s o.n).1) (fun n h=>hall _ _ h)
  split
  ·exact h0
  split
  ·exact h0
  split
  ·exact h0
  ·generalize (jn (gb (vw f.s o.n).2.1 []) (gG o.dK).1 (eZ (gb (vw f.s o.n).2.1 []) (vw f.s o.n).1)).1=z at hpe ⊢;cases z with
   |none=>exact ng rfl rfl
   |some n =>
    obtain⟨g1,g2⟩:=hpe n rfl;exact⟨by simp only[bC,cz]; omega,by simp only[bC]; omega⟩
 ·unfold B7; simp only[]; split<;>exact ng rfl rfl
 ·exact ng rfl rfl
 ·exact ng rfl rfl
def CY{f:aa}(h:vr f)(o:jz):zC (oa f o).2:=by
 unfold oa;split
 ·exact Hk _
 ·split
  ·split
   ·exact Q0 h _ o
   ·exact Hk _
  ·exact Hk _
def O7{t:Tree}{dJ:Int->Nat}(h:dY t dJ 0){q:Int}:∀(m:Nat)(i:Int)(n:Node),find t.ae i=some n->n.kind=2->dJ i=m->iM t.ae i q=true->∃d,find t.ae q=some d/\d.kind=2:=by
 intro m;induction m with
 |zero =>
  intro i n hi hk hm hb
  by_cases ho:i=q
  ·subst ho; exact⟨n,hi,hk⟩
  by_cases h1:i=1
  ·subst h1; rw[dY.qP (fun hh=>ho hh.symm)] at hb; cases hb
  ·have:=(h.qK _ _ hi hk h1).1; omega
 |succ m ih =>
  intro i n hi hk hm hb
  by_cases ho:i=q
  ·subst ho; exact⟨n,hi,hk⟩
  have h1:i≠1:=fun hh=>by subst hh; have:=h.CN; omega
  rw[h.sy hi hk h1 ho] at hb;obtain⟨a,p,hp,hpk⟩:=h.qK _ _ hi hk h1;exact ih _ p hp hpk aH hb
def wi{t:Tree}{dJ:Int->Nat}(h:dY t dJ 0){q:Int}(hq:∀d,find t.ae q=some d->d.kind≠2):lq t.ae q=(0,0)/\Pj (sD t.ae q)=0/\H3 t.ae (sD t.ae q)=0:=by
 have hin:∀x,¬InB t.ae q x:=by
  rintro x ⟨d,e,hd,hk,hb,_,_⟩;obtain⟨p,p1,p2⟩:=O7 h _ _ d ((ic h.lL.ml).2 ⟨hd,rfl⟩) hk rfl hb;exact hq p p1 p2
 obtain⟨p,p1,p2⟩:=xg t.ae q;have hf:t.ae.filter p=[]:=List.filter_eq_nil_iff.2 fun n _ hn=>hin _ ((p2 n).1 hn)
 refine⟨?_,by rw[p1,Dz,hf]; rfl,by rw[p1,HV,hf]; rfl⟩
 unfold lq;rw[aQ];intro hc;rw[bz,eH] at hc;obtain⟨d,hd⟩:=fA.1 hc.1;exact hq d hd (by simpa[bl,hd] using hc.2)
def HZ{t:Tree}(h:Rt t)(q:Int):lq t.ae q=((Pj (sD t.ae q):Int),(H3 t.ae (sD t.ae q):Int)):=by
 obtain⟨dJ,h⟩:=h
 by_cases hq:∃d,find t.ae q=some d/\d.kind=2
 ·obtain⟨d,h1,h2⟩:=hq;exact Hc h h1 h2
 ·obtain⟨h1,h2,h3⟩:=wi h (q:=q) fun d hd hk=>hq ⟨d,hd,hk⟩
  rw[h1,h2,h3]; rfl
def QS{t:Tree}(h:Rt t)(i q:Int):lq (kL t i).1.ae q=lq t.ae q:=by
 obtain⟨dJ,h⟩:=h;have h':=FT h i
 have hcase:(kL t i).1=t\/(∃m,find t.ae i=some m/\m.kind=1/\uS t.ae i=0/\(kL t i).1=⟨fS t.ae i,t.next,t.ak⟩):=by
  unfold kL;split
  ·exact .inl rfl
  split
  ·exact .inl rfl
  split
  ·exact .inl rfl
  ·rename_i h1 h2 h3;right;cases hi:find t.ae i with
   |none=>simp[hi] at h1
   |some m =>
    simp only[bl,hi,bC,eH,bh] at h2 h3;have hl:=h.eG _ _ hi;have hm:=(h.num _ _ hi).1;rw[aQ aH] at hl;exact⟨m,rfl,(h.kind _ _ hi).resolve_right h2,aH,rfl⟩
 rcases hcase with e|⟨m,hm,hmk,hc,e⟩
 ·rw[e]
 rw[e] at h' ⊢;have hff:=mi h.lL.ml i
 have hne:∀j n,find t.ae j=some n->n.kind=2->j≠i:=by
  rintro j n hj hk rfl;rw[hm] at hj; cases hj;omega
 have fd:∀j n,find t.ae j=some n->n.kind=2->find (fS t.ae i) j=some n:=fun j n hj hk=>by rw[hff,aQ (hne j n hj hk),hj]
 have bel:∀(m:Nat)(j:Int)(n:Node),find t.ae j=some n->n.kind=2->dJ j=m->iM (fS t.ae i) j q=iM t.ae j q:=by
  intro m;induction m with
  |zero =>
   intro j n hj hk hd
   by_cases ho:j=q
   ·subst ho;exact(dY.oU (t:=⟨fS t.ae i,t.next,t.ak⟩) j).trans (dY.oU j).symm
   by_cases h1:j=1
   ·subst h1;exact(dY.qP (t:=⟨fS t.ae i,t.next,t.ak⟩) fun hh=>ho hh.symm).trans (dY.qP fun hh=>ho hh.symm).symm
   ·have:=(h.qK _ _ hj hk h1).1; omega
  |succ m ih =>
   intro j n hj hk hd
   by_cases ho:j=q
   ·subst ho;exact(dY.oU (t:=⟨fS t.ae i,t.next,t.ak⟩) j).trans (dY.oU j).symm
   have h1:j≠1:=fun hh=>by subst hh; have:=h.CN; omega
   obtain⟨a,p,hp,hpk⟩:=h.qK _ _ hj hk h1;have b1:=h'.sy (fd j n hj hk) hk h1 ho;rw[h.sy hj hk h1 ho];exact b1.trans (ih _ p hp hpk aH)
 by_cases hq:∃d,find t.ae q=some d/\d.kind=2
 ·obtain⟨d,d1,d2⟩:=hq;obtain⟨K,k1,k2,k3,k4⟩:=H0 h d1 d2;obtain⟨L,l1,l2,l3,l4⟩:=H0 h' (fd q d d1 d2) d2
  have hin:∀x,InB (fS t.ae i) q x↔InB t.ae q x:=fun x=>by
   constructor
   ·rintro⟨d,e,hd,hk,hb,he,hx⟩;have hd':find (fS t.ae i) d.ar=some d:=(ic h'.lL.ml).2 ⟨hd,rfl⟩;rw[hff] at hd';split at hd'
    ·cases hd'
    ·exact⟨d,e,(cJ hd').1,hk,by rw[<-bel _ _ d hd' hk rfl]; exact hb,he,hx⟩
   ·rintro⟨d,e,hd,hk,hb,he,hx⟩;have hd':find t.ae d.ar=some d:=(ic h.lL.ml).2 ⟨hd,rfl⟩;exact⟨d,e,(cJ (fd _ _ hd' hk)).1,hk,by rw[bel _ _ d hd' hk rfl]; exact hb,he,hx⟩
  have hp:L.Perm K:=(List.perm_ext_iff_of_nodup l1 k1).2 fun x=>by rw[l2,k2]; exact hin x
  have hs:yz (fS t.ae i) L=yz t.ae K:=by
   unfold yz;rw[<-(hp.map (Wd t.ae)).sum_nat];congr 1;refine cT fun x hx=>?_
   obtain⟨d,e,hd,_,_,he,hxe⟩:=(k2 x).1 (hp.mem_iff.1 hx)
   have hxi:x≠i:=fun hh=>by
    have:=wh.2 ⟨d,e,hd,he,hxe.trans hh⟩;omega
   simp only[Wd,bl,hff,aQ hxi]
  rw[k4,l4,hp.length_eq,hs]
 ·rw[(wi h fun d hd hk=>hq ⟨d,hd,hk⟩).1]
  refine(wi h' fun d hd hk=>?_).1
  have hd:find (fS t.ae i) q=some d:=hd;rw[hff] at hd;split at hd
  ·cases hd
  ·exact hq ⟨d,hd,hk⟩
def t0:Tree:=⟨[⟨1,2,0,[],[],1⟩],2,1⟩
def f0:aa:=⟨⟨t0,0,[0],[],[],1⟩,[],[]⟩
section
attribute [local irreducible] eS fI lx gK dZ kr aq aR cu bJ
def c39:aq bX 39 [] []=some (.agg (aM t0),[]):=by
 refine aB ?_;simp only[amm,E39,EW,seval];rfl
def k39:=cP c39
def k38(M:aC):aR (aq bX) 38 [.agg [ba t0.ae,aD t0.next,aD t0.ak]] M=some (.agg (bM f0.s),M):=cO (c38 t0 mw) M
def c24:aq bX 24 [] []=some (.agg (cg f0),[]):=by
 refine aB ?_;have q:=k39;simp only[aM] at q;simp only[al7,E24,q,k38,bM,EW,seval];rfl
def k24:=cP c24
end
def rt0:Rt t0:=⟨_,WG⟩
def fb0:FB 0 f0:=by
 refine⟨⟨rt0,rfl,?_,?_,?_,List.Pairwise.nil,?_,List.Pairwise.nil,?_⟩,?_⟩<;>simp[f0]
abbrev I0(l:List jz):ag := .slice .sh (l.map eOp)
def FI(n:jz):(eOp n).cells=eW n:=rfl
def JL(n:jz):(eW n).length=8:=rfl
def Ox(l:List jz):wid (l.map eOp) 8=True:=pw eOp _ (fun _=>rfl) l
def tkO(n:jz):List.take 8 (eW n)=eW n:=rfl
def shO(n:jz):List.map ag.shut (eW n)=eW n:=rfl
def EVO:=bR @FI (bR @JL (bR @Ox (bR @tkO @shO)))
def xv(o:jz):Bool:=decide (5000<(o.data.length:Int))||(decide (1000<(o.dK.length:Int))||decide (1000<(o.u9.length:Int)))
def DX(l:List jz):Bool:=if decide (50<(l.length:Int)) then true else l.any xv
def NM{o:jz}(h:xv o=false):sm o:=by
 simp only[xv,jT,dD] at h;exact⟨aH,aH,aH⟩
section
attribute [local irreducible] eS fI lx gK dZ kr aq aR cu bJ
def c26(o:jz):aq bX 26 [eOp o] []=some (.bool (xv o),[]):=by
 refine aB ?_;unfold xv
 cases h1:decide (5000<(o.data.length:Int))<;>cases h2:decide (1000<(o.dK.length:Int))<;>cases h3:decide (1000<(o.u9.length:Int)) <;>
  simp only[ama,E26,eOp,eW,h1,h2,h3,eu,dL,fF,c8,EW,seval]
def k26(o:jz)(M:aC):aR (aq bX) 26 [.agg (eW o)] M=some (.bool (xv o),M):=cO (c26 o) M
def c25(xs:List jz):aq bX 25 [I0 xs] []=some (.bool (DX xs),[]):=by
 refine aB ?_;unfold DX;cases h0:decide (50<(xs.length:Int))<;>simp only[al9,E25,h0,aF,af,aE,EVO,EW,seval]
 have hn:xs.length<=50:=by simp at h0; omega
 refine A8 (xs:=xs) aH (fun l (_:Unit)=>l.any xv) (fun _ i=>[(0,I0 xs),(3,aD i)]) (fun _=>[]) (fun b=>some (ag.bool b,([]:aC))) (fun _=>?_) (fun pre x post _ h hx cQ hw h0 hm hi=>?_) ()
 ·simp only[E25,bq,o7,EVO,EW,seval]
 ·have q:=fun M=>k26 x M
  have i1:=hi ();cases hl:xv x<;>rw[hl] at q<;>simp only[E25,cQ,hx,hw,q,hl,jV,dL,c8,EVO,EW,seval]
  exact i1
def k25 xs:=cP (c25 xs)
def lE{f:Nat}{vs:List ag}{M:aC}{x:ag×aC}(h:aR (aq bX) f vs M=some x):aR (aq Fs) f vs M=some x:=lD (lS h)
def k29 f o hf ho:=cP (c29 f o hf ho)
end
section
open Go.ChangeShapes Go.WideShapes Go.ChangeAt Go.RowKit Go.Deep
def laidOut:laidOutB Tryz.prog=true:=ft
section
variable {H:Type} {enc:TypeId×Value->H}
def yK{W W':World}(hb:Below W.heap.size W W'):∀ {ts:List TypeId} {vs:List Value} {ds:List (DataW H)} {p:List MemPlace},DataW.TrodAll enc Tryz.prog W 0 (fun _=>true) true ts vs ds p ->
  (∀t,t∈ts->Tryz.prog.readableRec t=true/\t<Tryz.prog.types.size)->(∀x∈p,x.block<W.heap.size)->DataW.TrodAll enc Tryz.prog W' 0 (fun b=>decide (b<W.heap.size)) true ts vs ds p
 | [],vs,ds,p,h,_,_=>by
  obtain⟨rfl,rfl,rfl⟩:=trodAll_nil h;exact trodAll_mk0
 |t::ts,vs,ds,p,h,ht,hp=>by
  obtain⟨v,vs',d,ds',p1,q,rfl,rfl,rfl,h1,h2⟩:=trodAll_cons h
  exact trodAll_cons_mk (Below.trod laidOut (ht t bD).1 (ht t bD).2 h1 hb (fun x hx=>hp x (fu _ hx)))
   (yK hb h2 (fun t ht'=>ht t (bu _ ht')) (fun x hx=>hp x (iE _ hx)))
abbrev Dg(w:World):Nat->Nat->Prop:=nM Tt [] w
def XJ{w:World}{b off:Nat}(h:b<w.heap.size):Dg w b off:=⟨h,fun id hid=>absurd hid (jL _),fun hx=>hx⟩
def lV(b off i:Nat):(⟨b,off,none⟩:Addr).add i=⟨b,off+i,none⟩:=by
 unfold Addr.add;split
 ·rename_i h; rw[h]; rfl
 ·rfl
def sq{w:World}{fuel t:Nat}{v:Value}{x:DataW H×List MemPlace}(ht:Tryz.prog.underlying t=some (.int .i64))(h:DataW.trod enc Tryz.prog w 0 (fun _=>true) true fuel t [v]=some x):∃n:Int,fP w (Dg w) (.int .i64 n) v:=by
 obtain⟨n,q,_,_⟩:=DataW.trod_int ht h;cases q;exact⟨n,.int _ _⟩
def X6{w:World}{fuel t:Nat}{v:Value}{x:DataW H×List MemPlace}(ht:Tryz.prog.underlying t=some (.int .u8))(h:DataW.trod enc Tryz.prog w 0 (fun _=>true) true fuel t [v]=some x):∃b:UInt8,fP w (Dg w) (qB b) v:=by
 obtain⟨n,q,_,wf⟩:=DataW.trod_int ht h;cases q;have h3:IntKind.u8.min<=n/\n<=IntKind.u8.max:=by simpa[Lit.wf] using wf
 have e1:IntKind.u8.min=0:=mw;have e2:IntKind.u8.max=255:=mw;have e:n=((UInt8.ofNat n.toNat).toNat:Int):=by rw[UInt8.toNat_ofNat']; omega
 refine⟨UInt8.ofNat n.toNat,?_⟩;unfold qB;rw[<-e];exact .int _ _
def HU{w:World}{fuel t:Nat}{v:Value}{x:DataW H×List MemPlace}(ht:Tryz.prog.underlying t=some .string)(h:DataW.trod enc Tryz.prog w 0 (fun _=>true) true fuel t [v]=some x):∃s:Bytes,fP w (Dg w) (.str s) v:=by
 obtain⟨s,q,_,_⟩:=DataW.trod_string ht h;cases q;refine⟨s.data.toList,?_⟩;have:Go.Abs.bs s.data.toList=s:=by apply ByteArray.ext; simp[Go.Abs.bs]
 have h:=fP.str (w:=w) (iv:=Dg w) s.data.toList;rw[this] at h;exact h
def B6{α:Type}(P:Nat->α->Prop):∀(n:Nat),(∀i,i<n->∃a,P i a)->∃l:List α,l.length=n/\∀i a,l[i]?=some a->P i a
 |0,_=>⟨[],rfl,fun i a h=>by cases i<;>cases h⟩
 |n+1,h=>by
  obtain⟨l,hl,hp⟩:=B6 P n (fun i hi=>h i aH)
  obtain⟨a,ha⟩:=h n aH;refine⟨l++[a],by simp[hl],fun i b hb=>?_⟩
  rcases bA i n with hi|hi
  ·rw[aO aH] at hb;exact hp i b hb
  ·rw[bj aH] at hb
   have:i=n:=by
    have:=(aj.1 hb).1;simp at this; omega
   subst this;simp[hl] at hb;subst hb; exact ha
def mX(w:World)(l:List ag)(cs:List Value):Prop:=l.length=cs.length/\∀(k:Nat)(c:ag)(v:Value),l[k]?=some c->cs[k]?=some v->fP w (Dg w) c v
def mX.one{w:World}{c:ag}{v:Value}(h:fP w (Dg w) c v):mX w [c] [v]:=⟨rfl,fun k c' v' h1 h2=>by
 match k with
 |0=>cases h1; cases h2; exact h
 |k+1=>cases h1⟩
def mX.app{w:World}{a b:List ag}{cs ds:List Value}(h:mX w a cs)(g:mX w b ds):mX w (a++b) (cs++ds):=⟨by simp[h.1,g.1],fun k c v h1 h2=>by
 rcases bA k a.length with hk|hk
 ·rw[aO hk] at h1;rw[aO (by rw[<-h.1]; exact hk)] at h2
  exact h.2 k c v h1 h2
 ·rw[bj hk] at h1;rw[bj (by rw[<-h.1]; exact hk),<-h.1] at h2
  exact g.2 _ c v h1 h2⟩
def mX.nil{w:World}:mX w [] []:=⟨rfl,fun k c v h1 _=>by cases h1⟩
def anI:DataW H->Nat
 | .slice es _=>es.length
 |_=>0
def Az{α:Type}{w:World}{fuel t e m:Nat}{v:Value}{x:DataW H×List MemPlace}{eC:α->List ag}{mk:α->ag}(ht:Tryz.prog.underlying t=some (.slice e))(hm:Tryz.prog.cellsOf e=m)(hm0:0<m)
  (hmk:∀a,(mk a).cells=eC a) (dN:∀a,(eC a).length=m)
  (he:∀(n:Nat)(cs:List Value)(y:DataW H×List MemPlace),cs.length=m->DataW.trod enc Tryz.prog w 0 (fun _=>true) true n e cs=some y->∃a,mX w (eC a) cs)
  (h:DataW.trod enc Tryz.prog w 0 (fun _=>true) true fuel t [v]=some x) :
  ∃l:List α,fP w (Dg w) (.slice .sh (l.map mk)) v/\l.length=anI x.1:=by
 rcases open_slice ht h with ⟨hcs,hxx⟩|⟨a,len,cap,mm,n,D,Pl,hcs,_,hl,_,hmm,hxx,hi⟩
 ·cases hcs;exact⟨[],fP.nil _ _ _,by rw[hxx]; rfl⟩
 ·cases hcs;simp only[aF] at hmm;obtain⟨b,off,spot⟩:=a;rw[hm] at hi
  have each:∀i,i<len->∃s:α,∃cs',w.cells? 0 ((⟨b,off,spot⟩:Addr).add (i*m)) m=some cs'/\cs'.length=m/\mX w (eC s) cs':=by
   intro i hi';obtain⟨cs',hcl,ht⟩:=hi i aH;have hln:cs'.length=m:=(World.cells?_some hcl).2.1;obtain⟨s,hr⟩:=he _ _ _ hln ht;exact⟨s,cs',hcl,hln,hr⟩
  obtain⟨l,hll,hlp⟩:=B6 _ len each;refine⟨l,?_,by rw[hxx]; simp[anI,hll]⟩
  have hsp:len≠0->spot=none:=fun h0=>by
   obtain⟨s,cs',hcl,h6,_⟩:=each 0 aH;obtain⟨_,_,hat⟩:=World.cells?_some hcl;have:=hat 0 hm0;have h3:cs'[0]?=some (cs'[0]'(by omega)):=ai aH
   rw[h3] at this;simpa[Addr.add] using World.cell?_spot this
  have cell:∀(i:Nat)(s:α)(k:Nat)(c:ag),l[i]?=some s->(eC s)[k]?=some c->∃u,w.cell? ⟨b,off+(i*m+k),none⟩=some u/\fP w (Dg w) c u:=fun i s k c hs hk=>by
   obtain⟨cs',hcl,h6,hr⟩:=hlp i s hs;have hil:i<len:=by have:=(aj.1 hs).1; omega
   obtain rfl:=hsp aH;obtain⟨_,_,hat⟩:=World.cells?_some hcl;have hk6:k<m:=by have:=(aj.1 hk).1; rw[dN] at this; exact this
   have h1:=hat k hk6;have h3:cs'[k]?=some (cs'[k]'(by omega)):=ai aH
   rw[lV,lV,h3] at h1;exact⟨_,by rw[<-Nat.add_assoc]; exact h1,hr.2 k c _ hk h3⟩
  refine .slice _ _ _ _ b off m (fun q=>(w.cell? ⟨b,off+q,none⟩).getD undef) (by simp[hll]) hl (fun hne=>?_) ?_ ?_ ?_
  ·obtain rfl:=hsp (fun h0=>hne (by rw[h0] at hll; rw[dU.1 hll]; rfl))
   rfl
  ·intro x hx;obtain⟨s,_,rfl⟩:=eJ.1 hx;rw[hmk,dN]
  ·intro i x k c hx hk;rw[aX] at hx;obtain⟨s,hs,rfl⟩:=aU.1 hx;rw[hmk] at hk;obtain⟨u,h1,_⟩:=cell i s k c hs hk;refine⟨by rw[h1]; rfl,XJ (MZ h1)⟩
  ·intro i x k c hx hk;rw[aX] at hx;obtain⟨s,hs,rfl⟩:=aU.1 hx;rw[hmk] at hk;obtain⟨u,h1,h2⟩:=cell i s k c hs hk
   show fP w _ c ((w.cell? _).getD undef)
   rw[h1];exact h2
def FG{w:World}{fuel t e:Nat}{v:Value}{x:DataW H×List MemPlace}(ht:Tryz.prog.underlying t=some (.slice e))(he:Tryz.prog.underlying e=some (.int .u8))(hc:Tryz.prog.cellsOf e=1)(h:DataW.trod enc Tryz.prog w 0 (fun _=>true) true fuel t [v]=some x) :
  ∃d:Bytes,fP w (Dg w) (.slice .sh (d.map qB)) v:=by
 obtain⟨l,h,_⟩:=Az (eC:=fun b=>[qB b]) (mk:=qB) ht hc aH (fun _=>rfl) (fun _=>rfl) (fun n cs y hl hy=>by
  match cs,hl with
  | [c],_ =>
   obtain⟨b,hb⟩:=X6 he hy;exact⟨b,.one hb⟩) h
 exact⟨l,h⟩
def X0{w:World}{fuel t e:Nat}{v:Value}{x:DataW H×List MemPlace}(ht:Tryz.prog.underlying t=some (.slice e))(he:Tryz.prog.underlying e=some .string)(hc:Tryz.prog.cellsOf e=1)(h:DataW.trod enc Tryz.prog w 0 (fun _=>true) true fuel t [v]=some x) :
  ∃d:List Bytes,fP w (Dg w) (.slice .sh (d.map .str)) v:=by
 obtain⟨l,h,_⟩:=Az (eC:=fun b=>[.str b]) (mk:=fun(b:Bytes)=>ag.str b) ht hc aH (fun _=>rfl) (fun _=>rfl) (fun n cs y hl hy=>by
  match cs,hl with
  | [c],_ =>
   obtain⟨b,hb⟩:=HU he hy;exact⟨b,.one hb⟩) h
 exact⟨l,h⟩
set_option maxRecDepth 100000 in
def QU{w:World}{t:Nat}{fs:Array Field}{r:Reach}{b:Nat}{v:Value}{d:DataW H}{ps:List MemPlace}{P:List Value->Prop}(ht:Tryz.prog.underlying t=some (.struct fs))(h:DataW.Trod enc Tryz.prog w 0 (fun _=>true) true t v d ps)(hv:Value.okWide Tryz.prog w r b t v)
  (K:∀(n:Nat)(cs:List Value)(y:DataW H×List MemPlace),DataW.trod enc Tryz.prog w 0 (fun _=>true) true n t cs=some y->P cs):∃cs:Array Value,v = .agg cs/\P cs.toList:=by
 obtain⟨cs,rfl,_⟩:=okWide_struct ht hv;obtain⟨fuel,hf⟩:=h;have hcs:(Value.agg cs).cells.toList=cs.toList:=rfl;rw[hcs] at hf;exact⟨cs,rfl,K _ _ _ hf⟩
def YM{w:World}{l:List ag}{cs:Array Value}(h:mX w l cs.toList):gk Tt [] w (.agg l) (.agg cs) :=
 .agg (by rw[h.1]; simp) (fun i c v hc hv => .plain (h.2 i c v hc (by simpa using hv)))
def MG{T:zA}(hT:ny Tryz.prog (aq T)){f:Nat}{args:List ag}(h:aq T f args []=some (.bool true,[]))(w:World)(hG:sW Tt [] w)(vs:Array Value)(hl:args.length=vs.size)(hv:∀(i:Nat)(c:ag)(v:Value),args[i]?=some c->vs[i]?=some v->gk Tt [] w c v) :
  Calls Tryz.prog f vs w fun e w'=>e = .returned (.bool true)/\Below w.heap.size w w':=by
 refine((hT f args [] _ h).2 Tt w vs (auV w) hG hl hv).mono ?_;intro e w' hce;obtain⟨v,rfl,j',_,hx,hr⟩:=hce.ret rfl;obtain rfl:=hr.jE;exact⟨rfl,hx.os,hx.tape,hx.output,hx.size,fun k hk=>(hx.tV k hk fun i hi=>absurd hi (jL _)).1⟩
def KC{w:World}{n t k:Nat}{cs:List Value}{v:Value}{y:DataW H×List MemPlace}(hc:Tryz.prog.cellsOf t=1)(hk:cs[k]?=some v)(h:DataW.trod enc Tryz.prog w 0 (fun _=>true) true n t ((cs.drop k).take (Tryz.prog.cellsOf t))=some y):DataW.trod enc Tryz.prog w 0 (fun _=>true) true n t [v]=some y:=by
 rw[hc] at h
 have:(cs.drop k).take 1=[v]:=by
  have:=(aj.1 hk);obtain⟨h1,h2⟩:=this;rw[cL h1,h2]; rfl
 rw[this] at h;exact h
def AE:Tryz.prog.underlying 3=some (.int .i64):=ft
def X7:Tryz.prog.underlying 9=some .string:=ft
def ab8:Tryz.prog.underlying 5=some (.int .u8):=ft
def Ou:Tryz.prog.underlying 45=some (.slice 5):=ft
def zI:Tryz.prog.cellsOf 3=1:=ft
def RV:Tryz.prog.cellsOf 9=1:=ft
def afs:Tryz.prog.cellsOf 5=1:=ft
def MX:Tryz.prog.cellsOf 45=1:=ft
def anM:Tryz.prog.cellsOf 49=8:=ft
def aet:Tryz.prog.underlying 22=some (.slice 49):=ft
set_option maxRecDepth 100000 in
def W9{w:World}{fuel:Nat}{cs:List Value}{x:DataW H×List MemPlace}(h:DataW.trod enc Tryz.prog w 0 (fun _=>true) true fuel 49 cs=some x):∃o:jz,mX w (eW o) cs:=by
 obtain⟨xs,n,_,_,hl,hxl,hf⟩:=DataW.trod_struct underlying49 h;have h0:cs.length=8:=by rw[hl]; kernel_rfl
 match cs,h0 with
 | [v0,v1,v2,v3,v4,v5,v6,v7],_ =>
  match xs,hxl with
  | [y0,y1,y2,y3,y4,y5,y6,y7],_ =>
   obtain⟨a0,r0⟩:=sq AE (KC (k:=0) zI rfl (hf 0 _ rfl));obtain⟨a1,r1⟩:=sq AE (KC (k:=1) zI rfl (hf 1 _ rfl));obtain⟨a2,r2⟩:=HU X7 (KC (k:=2) RV rfl (hf 2 _ rfl));obtain⟨a3,r3⟩:=HU X7 (KC (k:=3) RV rfl (hf 3 _ rfl));obtain⟨a4,r4⟩:=sq AE (KC (k:=4) zI rfl (hf 4 _ rfl));obtain⟨a5,r5⟩:=sq AE (KC (k:=5) zI rfl (hf 5 _ rfl));obtain⟨a6,r6⟩:=sq AE (KC (k:=6) zI rfl (hf 6 _ rfl));obtain⟨a7,r7⟩:=FG Ou ab8 afs (KC (k:=7) MX rfl (hf 7 _ rfl));exact⟨⟨a0,a1,a2,a3,a4,a5,a6,a7⟩,.app (.one r0) (.app (.one r1) (.app (.one r2) (.app (.one r3) (.app (.one r4) (.app (.one r5) (.app (.one r6) (.one r7)))))))⟩
set_option maxRecDepth 100000 in
def abD{w:World}{r:Reach}{b:Nat}{v:Value}{d:DataW H}{ps:List MemPlace}(h:DataW.Trod enc Tryz.prog w 0 (fun _=>true) true 22 v d ps)(hv:Value.okWide Tryz.prog w r b 22 v):∃l:List jz,gk Tt [] w (I0 l) v:=by
 obtain⟨a,len,cap,rfl⟩:=okWide_slice aet hv;obtain⟨fuel,hf⟩:=h;obtain⟨l,h2,_⟩:=Az (eC:=eW) (mk:=eOp) aet anM aH (fun _=>rfl) (fun _=>rfl) (fun n cs y _ hy=>W9 hy) hf
 exact⟨l,.plain h2⟩
set_option maxRecDepth 100000 in
def aiG{w:World}{r:Reach}{b:Nat}{v:Value}{d:DataW H}{ps:List MemPlace}(h:DataW.Trod enc Tryz.prog w 0 (fun _=>true) true 5 v d ps)(hv:Value.okWide Tryz.prog w r b 5 v):∃x:UInt8,gk Tt [] w (qB x) v:=by
 obtain⟨n,rfl,_,_,hw⟩:=open_int ab8 hv h;have h3:IntKind.u8.min<=n/\n<=IntKind.u8.max:=by simpa[Lit.wf] using hw
 have e1:IntKind.u8.min=0:=mw;have e2:IntKind.u8.max=255:=mw;have e:n=((UInt8.ofNat n.toNat).toNat:Int):=by rw[UInt8.toNat_ofNat']; omega
 refine⟨UInt8.ofNat n.toNat,.plain ?_⟩;unfold qB;rw[<-e];exact .int _ _
end
def aiF{α:Type}{a:Array α}{l:List α}(h:a.toList=l):a=l.toArray:=by rw[<-h]
end
section
attribute [local irreducible] eS fI lx gK dZ kr aq aR cu bJ
def abj(l:List gN)(s:Bytes)(a b:Int):l.map iG++[.agg [.str s,aD a,aD b]]=(l++[gN.mk s a b]).map iG:=by simp[iG,gj]
def tF(ar:Int):List Node->Nat->Int
 | [],_ => -1
 |n::r,i=>if n.ar=ar then i else tF ar r (i+1)
def aaR{t:Tree}{ar:Int}(ht:t.ae.length<=100000){k:List K}{R:Int->Option (ag×aC)}
  (hx:∀e,kr (aq bX) [.tmp 4] 0 k ⟨.exit 0,e,[cF (aM t)]⟩=R (-1)) (hr:∀(i:Nat),kr (aq bX) [.tmp 4] 0 k ⟨.ret,[(4,aD i)],[cF (aM t)]⟩=R i) :
  ∀(l pre:List Node),t.ae=pre++l->eS (aq bX) [.tmp 4] 0 k (.loop [1,2,5] aae) [(1,aD ar),(2,cC 0),(5,aD pre.length)] [cF (aM t)]=R (tF ar l pre.length):=by
 intro l;induction l with
 |nil =>
  intro pre h;rw[bI];simp only[KJ,aM,ba,jP h,EN,seval];exact hx _
 |cons n r ih =>
  intro pre h;rw[bI];have dN:pre.length+1<=100000:=by rw[h] at ht; simp at ht; omega
  have hw:=zB pre n;simp only[KJ,aM,ba,iP h,gQ h,aL,EN,seval];refine bB (fun hb=>?_) (fun hb=>?_)
  ·have hb:n.ar=ar:=by simpa using hb
   simp only[KJ,EN,seval];rw[tF,aZ hb];exact hr _
  ·have hb:¬n.ar=ar:=by simpa using hb
   simp only[KJ,hw,EN,seval];rw[tF,aQ hb];have:=ih (pre++[n]) (by rw[h]; simp)
   simp only[aA,au,az] at this ⊢;exact this
def aqM(t:Tree)(ar:Int)(ht:t.ae.length<=100000):aq bX 130 [br t,aD ar] []=some (aD (tF ar t.ae 0),[]):=by
 refine aB ?_;simp only[acU,KJ,br,EN,seval];exact aaR (R:=fun z=>some (aD z,[])) ht (fun e=>by simp only[KJ,EN,seval]) (fun i=>by simp only[KJ,EN,seval]) t.ae [] rfl
def as6(ae:List Node)(next ak ar:Int)(h:ae.length<=100000)(M:aC):aR (aq bX) 130 [.agg [ba ae,aD next,aD ak],aD ar] M=some (aD (tF ar ae 0),M) :=
 cO (aqM ⟨ae,next,ak⟩ ar h) M
def Av(ar:Int):∀(l:List Node)(i:Nat),(find l ar=none/\tF ar l i = -1)\/∃m n,l[m]?=some n/\find l ar=some n/\tF ar l i=((i+m:Nat):Int)
 | [],_ => .inl ⟨rfl,rfl⟩
 |n::r,i=>by
  unfold find tF
  by_cases h:n.ar=ar
  ·exact .inr ⟨0,n,rfl,by simp[h],by simp[h]⟩
  ·rcases Av ar r (i+1) with ⟨h1,h2⟩|⟨m,n',h1,h2,h3⟩
   ·exact .inl ⟨by simp[h]; simpa[find] using h1,by simp[h,h2]⟩
   ·exact .inr ⟨m+1,n',by simpa using h1,by simp[h]; simpa[find] using h2,by simp[h,h3]; omega⟩
def c74(t:Tree)(ar:Int)(ht:t.ae.length<=100000):aq bX 74 [br t,aD ar] []=some (.tuple [bL ((find t.ae ar).getD Node.zero),.bool (find t.ae ar).isSome],[]):=by
 refine aB ?_;simp only[amA,E74,br,aM,as6,ht,EN,seval];rcases Av ar t.ae 0 with ⟨h1,h2⟩|⟨m,n,h1,h2,h3⟩
 ·rw[h2];simp only[E74,h1,EN,seval];rfl
 ·rw[h3];simp only[E74,h1,h2,ba,aL,EN,seval];rfl
def Bp(ae:List Node)(next ak ar:Int)(h:ae.length<=100000)(M:aC):aR (aq bX) 74 [.agg [ba ae,aD next,aD ak],aD ar] M=some (.tuple [bL ((find ae ar).getD Node.zero),.bool (find ae ar).isSome],M) :=
 cO (c74 ⟨ae,next,ak⟩ ar h) M
def aqF(t:Tree)(ar:Int)(ht:t.ae.length<=100000):aq bX 123 [br t,aD ar] []=some (.tuple [bL (gW t.ae ar).1,aD (gW t.ae ar).2],[]):=by
 refine aB ?_;simp only[acN,Yt,br,aM,Bp,ht,bL,aL,EN,seval];unfold gW;cases hf:find t.ae ar with
 |none=>simp only[Yt,Option.isSome,EN,seval]; first|done|rfl
 |some n =>
  simp only[Yt,Option.isSome,bC,EN,seval]
  repeat' ((first|apply bB|apply bW|apply dM)<;>intro hb<;>simp only[hb,EN,Yt,seval])
  all_goals simp_all [Node.zero]
def ZN(ae:List Node)(next ak ar:Int)(h:ae.length<=100000)(M:aC):aR (aq bX) 123 [.agg [ba ae,aD next,aD ak],aD ar] M=some (.tuple [bL (gW ae ar).1,aD (gW ae ar).2],M) :=
 cO (aqF ⟨ae,next,ak⟩ ar h) M
def tD(s:Bytes):List gN->Nat->Int
 | [],_ => -1
 |n::r,i=>if n.name=s then i else tD s r (i+1)
def tE(s:Bytes):∀(l:List gN)(i:Nat),(gw l s=none/\tD s l i = -1)\/∃m n,l[m]?=some n/\gw l s=some n/\tD s l i=((i+m:Nat):Int)
 | [],_ => .inl ⟨rfl,rfl⟩
 |n::r,i=>by
  unfold gw tD
  by_cases h:n.name=s
  ·exact .inr ⟨0,n,rfl,by simp[h],by simp[h]⟩
  ·rcases tE s r (i+1) with ⟨h1,h2⟩|⟨m,n',h1,h2,h3⟩
   ·exact .inl ⟨by simp[h]; simpa[gw] using h1,by simp[h,h2]⟩
   ·exact .inr ⟨m+1,n',by simpa using h1,by simp[h]; simpa[gw] using h2,by simp[h,h3]; omega⟩
def aaN{t:Node}{s:Bytes}(ht:t.bc.length<=100000){k:List K}{R:Int->Option (ag×aC)}
  (hx:∀e,kr (aq bX) [.tmp 4] 0 k ⟨.exit 0,e,[cF (aL t)]⟩=R (-1)) (hr:∀(i:Nat),kr (aq bX) [.tmp 4] 0 k ⟨.ret,[(4,aD i)],[cF (aL t)]⟩=R i) :
  ∀(l pre:List gN),t.bc=pre++l->eS (aq bX) [.tmp 4] 0 k (.loop [1,2,5] aaa) [(1,.str s),(2,cC 0),(5,aD pre.length)] [cF (aL t)]=R (tD s l pre.length):=by
 intro l;induction l with
 |nil =>
  intro pre h;rw[bI];simp only[KH,aL,ja,jP h,EN,seval];exact hx _
 |cons n r ih =>
  intro pre h;rw[bI];have dN:pre.length+1<=100000:=by rw[h] at ht; simp at ht; omega
  have hw:=zB pre n;simp only[KH,aL,ja,iP h,gQ h,gj,EN,seval];refine bB (fun hb=>?_) (fun hb=>?_)
  ·have hb:n.name=s:=by simpa using hb
   simp only[KH,EN,seval];rw[tD,aZ hb];exact hr _
  ·have hb:¬n.name=s:=by simpa using hb
   simp only[KH,hw,EN,seval];rw[tD,aQ hb];have:=ih (pre++[n]) (by rw[h]; simp)
   simp only[aA,au,az] at this ⊢;exact this
def aqH(t:Node)(s:Bytes)(ht:t.bc.length<=100000):aq bX 125 [bL t,.str s] []=some (aD (tD s t.bc 0),[]):=by
 refine aB ?_;simp only[acP,KH,bL,EN,seval];exact aaN (R:=fun z=>some (aD z,[])) ht (fun e=>by simp only[KH,EN,seval]) (fun i=>by simp only[KH,EN,seval]) t.bc [] rfl
def af7(a b c:Int)(d:Bytes)(e:List gN)(u:Int)(s:Bytes)(h:e.length<=100000)(M:aC):aR (aq bX) 125 [.agg [aD a,aD b,aD c,df d,ja e,aD u],.str s] M=some (aD (tD s e 0),M) :=
 cO (aqH ⟨a,b,c,d,e,u⟩ s h) M
def aaM{s:Bytes}(hs:s.length<=100000){k:List K}{R:Bool->Option (ag×aC)}
  (hx:∀e,kr (aq bX) [.tmp 2] 0 k ⟨.exit 0,e,[]⟩=R true) (hr:kr (aq bX) [.tmp 2] 0 k ⟨.ret,[(2,.bool false)],[]⟩=R false) :
  ∀(l pre:Bytes),s=pre++l->eS (aq bX) [.tmp 2] 0 k (.loop [0,3] Z9) [(0,.str s),(3,aD pre.length)] []=R (l.all td):=by
 intro l;induction l with
 |nil =>
  intro pre h;rw[bI];simp only[H5,jP h,EN,seval];exact hx _
 |cons n r ih =>
  intro pre h;rw[bI];have dN:pre.length+1<=100000:=by rw[h] at hs; simp at hs; omega
  have hw:=zB pre n;have hi:=ih (pre++[n]) (by rw[h]; simp)
  simp only[aA,au,az] at hi;simp only[H5,iP h,gQ h,EN,seval]
  repeat' ((first|apply bB|apply bW|apply dM)<;>intro hb<;>simp only[hb,EN,H5,gQ h,hw,seval])
  all_goals try simp only[H5,EN,seval]
  all_goals first
   |(refine hr.trans ?_; congr 1; symm; simp_all [td]; done)
   |(refine hi.trans ?_; congr 1; symm; simp_all [td]; done)
def aqG(s:Bytes)(hs:s.length<=100000):aq bX 124 [.str s] []=some (.bool (fX s),[]):=by
 refine aB ?_;simp only[acO,H5,EN,seval];have hl:=fun k hx hr=>aaM (k:=k) (R:=fun b=>some (ag.bool b,[])) hs hx hr s [] rfl
 repeat' ((first|apply bB|apply bW|apply dM)<;>intro hb<;>simp only[hb,EN,H5,seval])
 all_goals first
  |(simp_all [fX]; done)
  |(refine(hl _ (fun e=>by simp only[H5,EN,seval]) (by simp only[H5,EN,seval])).trans ?_; simp_all [fX]; done)
def Tu s hs:=cP (aqG s hs)
def c72(t:Tree)(ar:Int)(s:Bytes)(ht:Small t)(hs:s.length<=100000):aq bX 72 [br t,aD ar,.str s] []=some (.tuple [aD (fg t.ae ar s).1,aD (fg t.ae ar s).2],[]):=by
 refine aB ?_;have hd:=tM ht ar;simp only[amy,E72,br,aM,ZN,ht.ae,bL,aL,EN,seval];unfold fg;refine bB (fun hb=>?_) (fun hb=>?_)
 ·simp only[E72,EN,seval];simp_all
 ·simp only[E72,Tu,hs,EN,seval];refine bB (fun hb'=>?_) (fun hb'=>?_)
  ·simp only[E72,EN,seval];simp_all
  ·simp only[E72,af7,hd,EN,seval];rcases tE s (gW t.ae ar).1.bc 0 with ⟨h1,h2⟩|⟨m,n,h1,h2,h3⟩
   ·rw[h2];simp only[E72,EN,seval];simp_all
   ·rw[h3];simp only[E72,h1,ja,gj,EN,seval];simp_all
def k72(ae:List Node)(next ak ar:Int)(s:Bytes)(ht:Small ⟨ae,next,ak⟩)(hs:s.length<=100000)(M:aC):aR (aq bX) 72 [.agg [ba ae,aD next,aD ak],aD ar,.str s] M =
  some (.tuple [aD (fg ae ar s).1,aD (fg ae ar s).2],M):=cO (c72 ⟨ae,next,ak⟩ ar s ht hs) M
def aaK{t:Tree}{n:Node}(ht:t.ae.length<=100000){k:List K}{R:List Node->Bool->Option (ag×aC)}
  (hx:∀out done v e,out.length<=300000->kr (aq bX) [.dQ 4 3] 0 k ⟨.exit 0,[(2,cC 0),(3,cC 1),(4,cC 2),(5,.slice (.own 3) (out.map bL)),(6,.bool done),(7,v),(12,e)],[cF (aM t),cF (aL n),.cells zT,.tick 6 out.length]⟩=R out done) :
  ∀(l pre out:List Node)(done:Bool),t.ae=pre++l->out.length+2*l.length<=300000->eS (aq bX) [.dQ 4 3] 0 k (.loop [2,3,4,5,6,7] Z4) [(2,cC 0),(3,cC 1),(4,cC 2),(5,.slice (.own 3) (out.map bL)),(6,.bool done),(7,aD pre.length)] [cF (aM t),cF (aL n),.cells zT,.tick 6 out.length]=R (oz n l out done).1 (oz n l out done).2:=by
 intro l;induction l with
 |nil =>
  intro pre out done h ho;rw[bI];simp only[KE,aM,ba,jP h,EN,seval];exact hx _ _ _ _ (by simp at ho; omega)
 |cons m r ih =>
  intro pre out done h ho;rw[bI];have dN:pre.length+1<=100000:=by rw[h] at ht; simp at ht; omega
  have hw:=zB pre m;have hi:=fun out done ho=>ih (pre++[m]) out done (by rw[h]; simp) ho
  simp only[au] at ho;have r1:cB (out.length+1) 80=True:=qV;have r2:cB (out.length+1+1) 80=True:=qV;rw[oz];simp only[KE,aM,ba,iP h,gQ h,aL,EN,seval]
  repeat' ((first|apply bB|apply bW|apply dM)<;>intro hb<;>simp only[hb,EN,KE,gQ h,hw,r1,r2,aL,seval])
  all_goals try simp only[KE,gQ h,hw,r1,r2,aL,EN,seval]
  all_goals first
   |(refine iI ?_ ((hi (out++[n]++[m]) true gr).trans ?_)
     ·simp only[aW,aK,aV,aA,au,az]; rfl
     ·clear hi ih hx hw h; simp_all; done)
   |(refine iI ?_ ((hi (out++[n]) true gr).trans ?_)
     ·simp only[aW,aK,aV,aA,au,az]; rfl
     ·clear hi ih hx hw h; simp_all; done)
   |(refine iI ?_ ((hi (out++[m]) done gr).trans ?_)
     ·simp only[aW,aK,aV,aA,au,az]; rfl
     ·clear hi ih hx hw h; simp_all; done)
   |(refine iI ?_ ((hi out done aH).trans ?_)
     ·simp only[aW,aK,aV,aA,au,az]; rfl
     ·clear hi ih hx hw h; simp_all; done)
def c119(t:Tree)(n:Node)(ht:t.ae.length<=100000):aq bX 119 [br t,bL n] []=some (br ⟨eT t.ae n,t.next,t.ak⟩,[]):=by
 refine aB ?_;simp only[SC,KE,br,bL,EN,seval];refine aaK (R:=fun out done=>some (br ⟨out++(if done then [] else [n]),t.next,t.ak⟩,[])) ht (fun out done v e ho=>?_) t.ae [] [] false rfl gr
 have r1:cB (out.length+1) 80=True:=qV;cases done
 ·simp only[KE,r1,br,aM,zT,aL,EN,seval];simp[ba,bL,aL]
 ·simp only[KE,r1,br,aM,zT,aL,EN,seval]
  try simp[ba]
def Hr(ae:List Node)(next ak a b c:Int)(d:Bytes)(e:List gN)(u:Int)(h:ae.length<=100000)(M:aC):aR (aq bX) 119 [.agg [ba ae,aD next,aD ak],.agg [aD a,aD b,aD c,df d,ja e,aD u]] M =
  some (.agg [ba (eT ae ⟨a,b,c,d,e,u⟩),aD next,aD ak],M):=cO (c119 ⟨ae,next,ak⟩ ⟨a,b,c,d,e,u⟩ h) M
def aaV{t:Tree}{ar:Int}(ht:t.ae.length<=100000){k:List K}{R:List Node->Option (ag×aC)}
  (hx:∀out v e,out.length<=300000->kr (aq bX) [.dQ 4 3] 0 k ⟨.exit 0,[(1,aD ar),(2,cC 0),(4,cC 1),(5,.slice (.own 2) (out.map bL)),(6,v),(11,e)],[cF (aM t),.cells zT,.tick 6 out.length]⟩=R out) :
  ∀(l pre out:List Node),t.ae=pre++l->out.length+l.length<=150000->eS (aq bX) [.dQ 4 3] 0 k (.loop [1,2,4,5,6] aar) [(1,aD ar),(2,cC 0),(4,cC 1),(5,.slice (.own 2) (out.map bL)),(6,aD pre.length)] [cF (aM t),.cells zT,.tick 6 out.length]=R (out++fS l ar):=by
 intro l;induction l with
 |nil =>
  intro pre out h ho;rw[bI];simp only[Ri,aM,ba,jP h,EN,seval];refine(hx _ _ _ (by simp at ho; omega)).trans (by simp[fS])
 |cons m r ih =>
  intro pre out h ho;rw[bI];have dN:pre.length+1<=100000:=by rw[h] at ht; simp at ht; omega
  have hw:=zB pre m;have hi:=fun out ho=>ih (pre++[m]) out (by rw[h]; simp) ho
  simp only[au] at ho;have r1:cB (out.length+1) 80=True:=qV;simp only[Ri,aM,ba,iP h,gQ h,aL,EN,seval]
  repeat' ((first|apply bB|apply bW|apply dM)<;>intro hb<;>simp only[hb,EN,Ri,gQ h,hw,r1,aL,seval])
  all_goals first
   |(refine iI ?_ ((hi (out++[m]) gr).trans ?_)
     ·simp only[aW,aK,aV,aA,au,az]; rfl
     ·clear hi ih hx hw h; simp_all[fS]; done)
   |(refine iI ?_ ((hi out aH).trans ?_)
     ·simp only[aW,aK,aV,aA,au,az]; rfl
     ·clear hi ih hx hw h; simp_all[fS]; done)
def arp(t:Tree)(ar:Int)(ht:t.ae.length<=100000):aq bX 175 [br t,aD ar] []=some (br ⟨fS t.ae ar,t.next,t.ak⟩,[]):=by
 refine aB ?_;simp only[SL,Ri,br,EN,seval];refine(aaV (R:=fun out=>some (br ⟨out,t.next,t.ak⟩,[])) ht (fun out v e ho=>?_) t.ae [] [] rfl gr).trans (by simp[br])
 simp only[Ri,br,aM,zT,EN,seval]
 try simp[ba]
def am8(ae:List Node)(next ak ar:Int)(h:ae.length<=100000)(M:aC):aR (aq bX) 175 [.agg [ba ae,aD next,aD ak],aD ar] M =
  some (.agg [ba (fS ae ar),aD next,aD ak],M):=cO (arp ⟨ae,next,ak⟩ ar h) M
def aaL{T:List ag}{n:Node}{s:Bytes}(hn:n.bc.length<=100000){k:List K}{R:List gN->Option (ag×aC)}
  (hx:∀out v e,out.length<=300000->kr (aq bX) [.dQ 6 3] 0 k ⟨.exit 0,[(2,.str s),(3,cC 0),(6,cC 1),(7,cC 2),(9,.slice (.own 3) (out.map iG)),(10,v),(21,e)],[.cells T,.cells zT,cF (aL n),.tick 3 out.length]⟩=R out)
  (hT:∀B M,T.map (ag.jH B M)=T) :
  ∀(l pre out:List gN),n.bc=pre++l->out.length+l.length<=150000->eS (aq bX) [.dQ 6 3] 0 k (.loop [2,3,6,7,9,10] Z8) [(2,.str s),(3,cC 0),(6,cC 1),(7,cC 2),(9,.slice (.own 3) (out.map iG)),(10,aD pre.length)] [.cells T,.cells zT,cF (aL n),.tick 3 out.length]=R (out++kb l s):=by
 intro l;induction l with
 |nil =>
  intro pre out h ho;rw[bI];simp only[KG,aL,ja,jP h,EN,seval];refine(hx _ _ _ (by simp at ho; omega)).trans (by simp[kb])
 |cons m r ih =>
  intro pre out h ho;rw[bI];have dN:pre.length+1<=100000:=by rw[h] at hn; simp at hn; omega
  have hw:=zB pre m;have hi:=fun out ho=>ih (pre++[m]) out (by rw[h]; simp) ho
  simp only[au] at ho;have r1:cB (out.length+1) 32=True:=qV;simp only[KG,aL,ja,iP h,gQ h,gj,hT,zT,EN,seval]
  repeat' ((first|apply bB|apply bW|apply dM)<;>intro hb<;>simp only[hb,EN,KG,gQ h,hw,r1,gj,hT,zT,seval])
  all_goals first
   |(refine iI ?_ ((hi (out++[m]) gr).trans ?_)
     ·simp only[aW,aK,aV,aA,au,az]; rfl
     ·clear hi ih hx hw h hT; simp_all[kb]; done)
   |(refine iI ?_ ((hi out aH).trans ?_)
     ·simp only[aW,aK,aV,aA,au,az]; rfl
     ·clear hi ih hx hw h hT; simp_all[kb]; done)
def FP{t:Tree}(hs:Small t)(ar:Int):((find t.ae ar).getD Node.zero).bc.length<=100000:=by
 cases h:find t.ae ar with
 |none=>simp[Node.zero]
 |some n=>exact hs.bc n (cJ h).1
def aqE(t:Tree)(ar:Int)(s:Bytes)(ht:Small t):aq bX 122 [br t,aD ar,.str s] []=some (br ⟨dE t.ae ar s,t.next,t.ak⟩,[]):=by
 refine aB ?_;have hd:=FP ht ar;unfold dE;simp only[SD,KG,br,aM,Bp,ht.ae,bL,EN,seval];generalize (find t.ae ar).getD Node.zero=n at hd ⊢;simp only[KG,aL,EN,seval];refine(aaL (R:=fun out=>some (br ⟨eT t.ae { n with bc:=out },t.next,t.ak⟩,[])) hd (fun out v e ho=>?_) (fun B M=>by simp only[KG,EN,seval]) n.bc [] [] rfl gr).trans (by simp[br,aM])
 simp only[KG,zT,aL,Hr,ht.ae,EN,seval];simp[br,aM]
def acD{X:Option (ag×aC)}{v:ag×aC}(h:∃r,r=v/\X=some r):X=some v:=by
 obtain⟨_,rfl,h⟩:=h;exact h
def aqU(a b:List gN)(ha:a.length<=100000):aq bX 141 [ja a,ja b] []=some (.bool (decide (a=b)),[]):=by
 refine aB ?_;cases h0:(a.length:Int) != (b.length:Int)
 ·have hl:a.length=b.length:=by simp at h0; omega
  simp only[SF,Rf,h0,EW,seval];refine acD (jc (xs:=a) aH (fun m (_:Unit)=>a.take m=b.take m) (fun _ i=>[(0,ja a),(1,ja b),(5,aD i)]) (fun _=>[]) (fun r=>r=(.bool (decide (a=b)),[])) (fun _ hI=>?_) (fun pre x post _ e hx cQ hw h0 hm hI hi=>?_) () rfl)
  ·refine⟨_,rfl,?_⟩;rw[iR (AA hl hI)];simp only[Rf,bq,EW,seval]
  ·have hp:=(aj.1 hx).1;obtain⟨y,hy⟩:∃y,b[pre.length]?=some y:=⟨_,ai aH⟩;cases h1:decide (x=y)
   ·have hd:decide (a=b)=false:=gn fun e=>of_decide_eq_false h1 (by rw[e,hy] at hx; injection hx with hx; exact hx.symm)
    refine⟨_,rfl,?_⟩;rw[hd];simp only[Rf,cQ,hx,hy,h0,h1,iG,Si,ajp,EW,seval]
   ·have i1:=hi () (yq hI hx (by rw[hy,jZ h1]))
    simp only[Rf,cQ,hx,hy,hw,h0,h1,iG,Si,ajp,EW,seval];exact i1
 ·have hd:decide (a=b)=false:=gn fun e=>by rw[e] at h0; simp at h0
  rw[hd];simp only[SF,Rf,h0,EW,seval]
def as9 a b ha:=cP (aqU a b ha)
def c88(x y:Node)(hx:x.bc.length<=100000):aq bX 88 [.agg (aL x),.agg (aL y)] []=some (.bool (decide (x=y)),[]):=by
 rw[ael];have hk:=fun M=>as9 x.bc y.bc hx M
 refine aB ?_;simp only[amD,E88,bL,aL,EN,seval]
 repeat' ((first|apply bB|apply bW|apply dM)<;>intro hb<;>simp only[hb,EN,E88,hk,vz,seval])
 all_goals clear hk
 all_goals simp_all [bne]
def k88 x y hx:=cP (c88 x y hx)
def aqT(a b:List Node)(ha:a.length<=100000)(he:∀n,n∈a->n.bc.length<=100000):aq bX 140 [ba a,ba b] []=some (.bool (decide (a=b)),[]):=by
 refine aB ?_;cases h0:(a.length:Int) != (b.length:Int)
 ·have hl:a.length=b.length:=by simp at h0; omega
  simp only[SE,Re,h0,EW,seval];refine acD (jc (xs:=a) aH (fun m (_:Unit)=>a.take m=b.take m) (fun _ i=>[(0,ba a),(1,ba b),(5,aD i)]) (fun _=>[]) (fun r=>r=(.bool (decide (a=b)),[])) (fun _ hI=>?_) (fun pre x post _ e hx cQ hw h0 hm hI hi=>?_) () rfl)
  ·refine⟨_,rfl,?_⟩;rw[iR (AA hl hI)];simp only[Re,bq,EW,seval]
  ·have hp:=(aj.1 hx).1;obtain⟨y,hy⟩:∃y,b[pre.length]?=some y:=⟨_,ai aH⟩;have q:=fun M=>k88 x y (he x hm) M
   simp only[aL] at q;cases h1:decide (x=y)<;>rw[h1] at q
   ·have hd:decide (a=b)=false:=gn fun e=>of_decide_eq_false h1 (by rw[e,hy] at hx; injection hx with hx; exact hx.symm)
    refine⟨_,rfl,?_⟩;rw[hd];simp only[Re,cQ,hx,hy,h0,q,bL,aL,EW,seval]
   ·have i1:=hi () (yq hI hx (by rw[hy,jZ h1]))
    simp only[Re,cQ,hx,hy,hw,h0,q,bL,aL,EW,seval];exact i1
 ·have hd:decide (a=b)=false:=gn fun e=>by rw[e] at h0; simp at h0
  rw[hd];simp only[SE,Re,h0,EW,seval]
def as8 a b ha he:=cP (aqT a b ha he)
def c87(a b:Tree)(ha:a.ae.length<=100000)(he:∀n,n∈a.ae->n.bc.length<=100000):aq bX 87 [br a,br b] []=some (.bool (decide (a=b)),[]):=by
 have hd:decide (a=b)=(a.next==b.next&&(a.ak==b.ak&&decide (a.ae=b.ae))):=by
  obtain⟨a1,a2,a3⟩:=a;obtain⟨b1,b2,b3⟩:=b;rw[cr]; simp; constructor
  ·rintro⟨h1,h2,h3⟩; exact⟨h2,h3,h1⟩
  ·rintro⟨h1,h2,h3⟩; exact⟨h3,h1,h2⟩
 rw[hd];have q:=fun M=>as8 a.ae b.ae ha he M
 refine aB ?_
 cases h1:a.next==b.next<;>cases h2:a.ak==b.ak <;>
  simp only[amC,E87,h1,h2,q,br,aM,cW,cK,dR,EW,seval]
def k87(a b:Tree)(ha:a.ae.length<=100000)(he:∀n,n∈a.ae->n.bc.length<=100000)(M:aC):aR (aq bX) 87 [.agg [ba a.ae,aD a.next,aD a.ak],.agg [ba b.ae,aD b.next,aD b.ak]] M=some (.bool (decide (a=b)),M):=cO (c87 a b ha he) M
end
end Go.Proofs.YteoamaffclmdbaaGreatDoor
