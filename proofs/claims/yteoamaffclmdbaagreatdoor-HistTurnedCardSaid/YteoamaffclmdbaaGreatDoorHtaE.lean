import Derived.Stop.Asserts
import Derived.Test.YteoamaffclmdbaaGreatDoorHtaD
set_option linter.all false
open Go.Proofs.Tryz
namespace Go.Proofs.YteoamaffclmdbaaGreatDoor
section
open Go Go.Abs
section
attribute [local irreducible] eX fJ lu gK eb kr aq aU cq bI
def LD(l:List fA)(c h:Int):Int×Int:=match l.find? (sY c h) with
 |some x=>(x.ar,0)
 |none=>(0,80)
def arq(l:List fA)(c h:Int)(hn:l.length<=100000):aq bZ 224 [fI l,aF c,aF h] []=some (.tuple [aF (LD l c h).1,aF (LD l c h).2],[]):=by
 refine aB ?_;have hk:=adR l c h hn;simp only[adj,aeq,hk,EW,seval];unfold LD;rcases ya (sY c h) l 0 with ⟨h1,h2⟩|⟨m,x,h1,h2,h3,_⟩
 ·simp only[aeq,h1,h2,EW,seval]
 ·have cJ:(((0+m:Nat):Int)<0)=False:=dx;simp only[aeq,h1,h2,h3,cJ,jd,EW,seval]
def as2 l c h hn:=cP (arq l c h hn)
def pS(l:List fA)(ar:Int):Bool:=l.any fun x=>x.ar==ar
def arl(l:List fA)(ar:Int)(hn:l.length<=100000):aq bZ 219 [fI l,aF ar] []=some (.bool (pS l ar),[]):=by
 refine aB ?_;have hk:aU (aq bZ) 185 [fI l,.func 262 [cA 0]] [cC [aF ar]]=some (.bool (pS l ar),[cC [aF ar]]):=lj (ids:=[0]) rfl rfl (WM ar) rfl rfl (akV l ar hn) rfl rfl rfl rfl rfl;simp only[adf,ao2,hk,EW,seval]
def mQ(t:Tree):List Int:=(t.ae.filter gV).map Node.ar
def vL(t:Tree)(l:List fA)(c h ar:Int):List fA×Int :=
 if !zZ c h then (l,1)
 else if !(find t.ae ar).isSome||gV (bm t.ae ar) then (l,70)
 else if (bm t.ae ar).kind==2 then (l,72)
 else if pn (fun x=>im x c h==0) l (mq (fun x=>decide (im x c h<0)) l)=true then (l,71)
 else if decide (64<=(l.length:Int)) then (l,76)
 else (l.take (mq (fun x=>decide (im x c h<0)) l)++⟨c,h,ar⟩::l.drop (mq (fun x=>decide (im x c h<0)) l),0)
def xi(a b:fA):Prop:=a.bE<b.bE\/(a.bE=b.bE/\a.handle<b.handle)
abbrev uG(l:List fA):Prop:=l.Pairwise xi
def sf(x:fA)(c h:Int):(im x c h<0)↔(x.bE<c\/(x.bE=c/\x.handle<h)):=by
 unfold im orI qQ
 by_cases h1:x.bE<c
 ·simp[h1]
 ·by_cases h2:c<x.bE
  ·simp[h1,h2]; omega
  ·have:x.bE=c:=aJ
   by_cases h3:x.handle<h
   ·simp[h3,this]
   ·by_cases h4:h<x.handle
    ·simp[h3,h4,this]
    ·simp[h3,h4,this]
def DW(x:fA)(c h:Int):(im x c h=0)↔(x.bE=c/\x.handle=h):=by
 unfold im orI qQ
 by_cases h1:x.bE<c
 ·simp[h1]; omega
 ·by_cases h2:c<x.bE
  ·simp[h1,h2]; omega
  ·have:x.bE=c:=aJ
   by_cases h3:x.handle<h
   ·simp[h3,this]; omega
   ·by_cases h4:h<x.handle
    ·simp[h3,h4,this]; omega
    ·simp[h3,h4,this]; omega
def D9{l:List fA}(h:uG l)(c g:Int):XQ (fun x=>decide (im x c g<0)) l (mq (fun x=>decide (im x c g<0)) l):=by
 refine Hq (h.imp ?_);intro a b hab hb;simp only[bh,sf] at hb ⊢;unfold xi at hab;omega
def asZ(l:List fA)(c g:Int)(hl:uG l)(hn:l.length<=100000)(M:aC):aU (aq bZ) 211 [fI l,.agg [aF c,aF g],.qZ 212 [.agg [aF c,aF g]]] M =
  some (.tuple [aF (mq (fun x=>decide (im x c g<0)) l),.bool (pn (fun x=>im x c g==0) l (mq (fun x=>decide (im x c g<0)) l))],M) :=
 cO (arh l c g _ (D9 hl c g) hn) M
def aqz(t:Tree)(l:List fA)(c h ar:Int)(ht:Small t)(hr:rV t)(hl:uG l)(hn:l.length<=64):aq bZ 156 [br t,fI l,aF c,aF h,aF ar] []=some (.tuple [fI (vL t l c h ar).1,aF (vL t l c h ar).2],[]):=by
 refine aB ?_;have q1:=Fc t ar ht hr;have q2:=asZ l c h hl aJ;have hb:=(D9 hl c h).le;unfold vL;generalize mq (fun x=>decide (im x c h<0)) l=b at q2 hb ⊢
 generalize pn (fun x=>im x c h==0) l b=e at q2 ⊢
 simp only[Sd,Og,br,aM,asY,q1,q2,EW,seval];refine bA (fun h1=>?_) (fun h1=>?_)
 ·simp only[Og,h1,EW,seval]
 ·have q3:=fun M=>afQ (bm t.ae ar) M
  simp only[aL] at q3
  by_cases h0:l=[]
  ·have hb0:b=0:=by subst h0; simpa using hb
   have p1:=fun M=>DL ij (f:=215) (sz:=3) (bytes:=24) rfl h0 M
   have p2:=fun M=>FO (f:=214) (sz:=3) (bytes:=24) rfl hb0 (.agg [aF c,aF h,aF ar]) rfl M
   simp only[Og,h1,q1,q2,q3,aL,EW,seval]
   repeat' ((first|apply bA|apply bV|apply dP)<;>intro hb<;>simp only[hb,EW,Og,q3,p1,p2,aL,seval])
   all_goals clear q1 q2 q3 p1 p2
   all_goals first|(simp_all only[qB,↓reduceIte,reduceCtorEq,av]; done)|(simp_all only[qB,↓reduceIte,reduceCtorEq,av]; rfl)
  ·have hb0:=hb;have p1:=fun M=>CU ij (f:=215) (sz:=3) (bytes:=24) rfl (fun _=>rfl) aJ h0 aJ M
   have p2:=fun M=>I8 ij (f:=214) (sz:=3) (bytes:=24) (v:=0) (id:=3) rfl aJ hb aJ (.agg [aF c,aF h,aF ar]) rfl M
   simp only[Og,h1,q1,q2,q3,aL,EW,seval]
   repeat' ((first|apply bA|apply bV|apply dP)<;>intro hb<;>simp only[hb,EW,Og,q3,p1,p2,aL,seval])
   all_goals clear q1 q2 q3 p1 p2
   all_goals first|(simp_all only[qB,↓reduceIte,reduceCtorEq,av]; done)|(simp_all only[qB,↓reduceIte,reduceCtorEq,av]; exact congrArg (fun z=>some (ag.tuple [ag.slice .sh z,aF 0],([]:aC))) (Nk ij hb0 ⟨c,h,ar⟩))
def asF(t:Tree)(l:List fA)(c h ar:Int)(ht:Small t)(hr:rV t)(hl:uG l)(hn:l.length<=64)(M:aC):aU (aq bZ) 156 [.agg [ba t.ae,aF t.next,aF t.ak],fI l,aF c,aF h,aF ar] M=some (.tuple [fI (vL t l c h ar).1,aF (vL t l c h ar).2],M) :=
 cO (aqz t l c h ar ht hr hl hn) M
def as1 l ar hn:=cP (arl l ar hn)
def nC(t:Tree)(l:List fA)(c h:Int):Tree×List fA×Int:=match l.find? (sY c h) with
 |none=>(t,l,80)
 |some x=>(if (find t.ae x.ar).isSome&&gV (bm t.ae x.ar) && !pS (l.eraseP (sY c h)) x.ar then (kH t x.ar).1 else t,l.eraseP (sY c h),0)
def aqA(t:Tree)(l:List fA)(c h:Int)(ht:Small t)(hr:rV t)(hn:l.length<=64):aq bZ 157 [br t,fI l,aF c,aF h] []=some (.tuple [br (nC t l c h).1,fI (nC t l c h).2.1,aF (nC t l c h).2.2],[]):=by
 refine aB ?_;have hk:=adR l c h aJ;unfold nC;rcases ya (sY c h) l 0 with ⟨h1,h2⟩|⟨m,x,h1,h2,h3,h4⟩
 ·simp only[M1,aeh,hk,h1,h2,br,aM,EW,seval]
 ·have cJ:(((0+m:Nat):Int)<0)=False:=dx;have hm:m<l.length:=(aj.1 h2).1;have hne:l≠[]:=by rintro rfl; simp at hm
  have p1:=fun M=>CU ij (f:=215) (sz:=3) (bytes:=24) rfl (fun _=>rfl) aJ hne aJ M
  have p2:=fun M=>FN ij (f:=218) (sz:=3) (v:=0) (id:=2) rfl hm aJ M
  have hw:IntKind.i64.wrap ((m:Int)+1)=((m+1:Nat):Int):=by rw[gA aJ aJ]; rfl
  have q1:=Fc t x.ar ht hr;have q2:=amD t x.ar ht hr;have q3:=fun M=>afQ (bm t.ae x.ar) M
  have q4:=as1 (l.eraseP (sY c h)) x.ar (by have:=List.length_eraseP_le (p:=sY c h) (l:=l); omega)
  simp only[h3];generalize kH t x.ar=fr at q2 ⊢;rw[h4] at p2;simp only[aL,aM] at q1 q2 q3;simp only[M1,aeh,hk,h1,h2,cJ,jd,p1,p2,hw,q1,q3,aL,br,aM,FZ,qm,EW,seval]
  repeat' ((first|apply bA|apply bV|apply dP)<;>intro hb<;>simp only[hb,EW,aeh,hk,h1,h2,cJ,p1,p2,hw,q1,q2,q3,q4,aL,FZ,qm,seval])
  all_goals clear q1 q2 q3 q4 p1 p2 hk
  all_goals first|rfl|(simp_all only[qB,↓reduceIte,reduceCtorEq,av]; done)|(simp_all only[qB,↓reduceIte,reduceCtorEq,av]; rfl)|skip
def amv(t:Tree)(l:List fA)(c h:Int)(ht:Small t)(hr:rV t)(hn:l.length<=64)(M:aC):aU (aq bZ) 157 [.agg [ba t.ae,aF t.next,aF t.ak],fI l,aF c,aF h] M=some (.tuple [.agg (aM (nC t l c h).1),fI (nC t l c h).2.1,aF (nC t l c h).2.2],M) :=
 cO (aqA t l c h ht hr hn) M
def dY.sz{t:Tree}{dJ:Int->Nat}{x:Int}(h:dY t dJ x):Sz 200 t where
 ae:=h.ae
 bc:=fun n hn=>by have:=(h.yq _ _ ((ik h.lL.mr).2 ⟨hn,rfl⟩)).2; omega
 data:=fun n hn=>by
  have hi:=(ik h.lL.mr).2 ⟨hn,rfl⟩;rcases h.kind _ _ hi with h1|h1
  ·have:=(h.file _ _ hi h1).2.2; omega
  ·rw[h.dir _ _ hi h1]; simp
def Sz.HH{b:Nat}{t:Tree}(h:Sz b t)(hb:b<=100000:=by omega):Small t:=h.small hb
def Rt(t:Tree):Prop:=∃dJ,dY t dJ 0
def Rt.lL{t:Tree}(h:Rt t):rV t:=let ⟨_,g⟩:=h; g.lL
def Rt.sz{t:Tree}(h:Rt t):Sz 200 t:=let ⟨_,g⟩:=h; g.sz
def Rt.small{t:Tree}(h:Rt t):Small t:=h.sz.small aJ
def Rt.free{t:Tree}(h:Rt t)(ar:Int):Rt (kH t ar).1:=let ⟨_,g⟩:=h; ⟨_,FL g ar⟩
def Rt.close{t:Tree}(h:Rt t)(l:List fA)(c g:Int):Rt (nC t l c g).1:=by
 unfold nC;split
 ·exact h
 ·split
  ·exact h.free _
  ·exact h
def yY(t:Tree)(l:List fA)(c g:Int):(nC t l c g).2.1.length<=l.length:=by
 unfold nC;split
 ·exact au _
 ·exact List.length_eraseP_le
def b0T(n:Tree)(B:Nat)(M:aC):List.map (ag.jG B M) (aM n)=aM n:=rfl
def aau{t:Tree}(ht:t.ae.length<=100000){k:List K}{R:List Int->Option (ag×aC)}
  (hx:∀(out:List Int) e,kr (aq bZ) [.tmp 2] 0 k ⟨.exit 0,(3,.slice (.own 1) (out.map mV))::e,[cC (aM t),.tick 1 out.length]⟩=R out) :
  ∀(l pre:List Node)(out:List Int),t.ae=pre++l->out.length<=pre.length->eX (aq bZ) [.tmp 2] 0 k (.loop [3,7,8,9] Z3) [(3,.slice (.own 1) (out.map mV)),(7,ba t.ae),(8,aF t.ae.length),(9,aF pre.length)] [cC (aM t),.tick 1 out.length]=R (out++(l.filter gV).map Node.ar):=by
 intro l;induction l with
 |nil =>
  intro pre out h ho;rw[bG];simp only[Oj,jL h,kL,EW,seval];exact hx _ _
 |cons n rest ih =>
  intro pre out h ho;rw[bG];have dQ:pre.length+1<=100000:=by rw[h] at ht; simp at ht; omega
  have hw:=zy pre n;have hi1:=ih (pre++[n]) out (by rw[h]; simp) gm
  have hi2:=ih (pre++[n]) (out++[n.ar]) (by rw[h]; simp) gm
  simp only[aA,aw,az,aW,aH,aQ] at hi1 hi2;have r1:ct (out.length+1) 8=True:=qM;have q3:=fun M=>afQ n M
  simp only[aL] at q3;simp only[Oj,iQ h,gU h,aL,aM,q3,EW,seval] at hi1 hi2 ⊢;refine bA (fun hb=>?_) (fun hb=>?_)
  ·simp only[Oj,hb,r1,uF,hw,EW,seval];simpa[hb] using hi2
  ·simp only[Oj,hb,hw,EW,seval];simpa[hb] using hi1
def aqY(t:Tree)(ht:t.ae.length<=100000):aq bZ 184 [br t] []=some (uc (mQ t),[]):=by
 refine aB ?_;have hl:=aau ht (k:=[.block 0,.seq ahQ]) (R:=fun out=>some (uc out,[])) (fun out e=>by simp only[Oj,EW,seval]) t.ae [] [] rfl (au _)
 simp only[aM,aQ,az] at hl;simp only[Sj,Oj,br,aM,EW,seval];exact hl
def asQ(t:Tree)(ht:t.ae.length<=100000)(M:aC):aU (aq bZ) 184 [.agg [ba t.ae,aF t.next,aF t.ak]] M=some (uc (mQ t),M):=cO (aqY t ht) M
def sX(c:Int):List fA->Tree->List fA->Tree×List fA
 | [],t,l=>(t,l)
 |x::r,t,l=>if x.bE==c then sX c r (nC t l c x.handle).1 (nC t l c x.handle).2.1 else sX c r t l
def DR(t:Tree)(l:List fA)(c:Int):Tree×List fA:=sX c l t l
def aar{h0:List fA}(c:Int)(h64:h0.length<=64){k:List K}{R:Tree->List fA->Option (ag×aC)}
  (hx:∀(t:Tree) (l:List fA) e,kr (aq bZ) [.dK 6 3,.tmp 7] 0 k ⟨.exit 0,(1,fI l)::(2,aF c)::(3,cA 0)::(6,cA 1)::e,[cC (aM t),cC [.slice .c0 [],aF 0,aF 0]]⟩=R t l) :
  ∀(r pre:List fA)(t:Tree)(l:List fA),h0=pre++r->Rt t->l.length<=64->eX (aq bZ) [.dK 6 3,.tmp 7] 0 k (.loop [1,2,3,6,10,11,12] ZU) [(1,fI l),(2,aF c),(3,cA 0),(6,cA 1),(10,fI h0),(11,aF h0.length),(12,aF pre.length)] [cC (aM t),cC [.slice .c0 [],aF 0,aF 0]]=R (sX c r t l).1 (sX c r t l).2:=by
 intro r;induction r with
 |nil =>
  intro pre t l h ht hl;rw[bG];simp only[Oi,jL h,sX,EW,seval];exact hx _ _ _
 |cons x rest ih =>
  intro pre t l h ht hl;rw[bG];have dQ:pre.length+1<=100000:=by rw[h] at h64; simp at h64; omega
  have hw:=zy pre x;have q1:=amv t l c x.handle ht.small ht.lL hl;have hi1:=ih (pre++[x]) t l (by rw[h]; simp) ht hl
  have hi2:=ih (pre++[x]) _ _ (by rw[h]; simp) (ht.close l c x.handle) (aY (yY t l c x.handle) hl)
  rw[sX];generalize nC t l c x.handle=cl at q1 hi2 ⊢;simp only[aA,aw,az] at hi1 hi2;simp only[Oi,iQ h,gU h,jd,aM,EW,seval] at q1 hi1 hi2 ⊢;refine bA (fun hb=>?_) (fun hb=>?_)
  ·simp only[Oi,hb,q1,hw,EW,seval];exact hi2
  ·simp only[Oi,hb,hw,af,EW,seval];exact hi1
def aqJ(t:Tree)(l:List fA)(c:Int)(ht:Rt t)(hl:l.length<=64):aq bZ 169 [br t,fI l,aF c] []=some (.tuple [br (DR t l c).1,fI (DR t l c).2],[]):=by
 refine aB ?_;have hq:=aar (h0:=l) c hl (k:=[.block 0,.seq ahO]) (R:=fun t l=>some (.tuple [br t,fI l],[])) (fun t l e=>by simp only[Oi,br,aM,EW,seval]) l [] t l rfl ht hl
 simp only[aM,az] at hq;simp only[acK,Oi,br,aM,EW,seval];exact hq
def asL(t:Tree)(l:List fA)(c:Int)(ht:Rt t)(hl:l.length<=64)(M:aC):aU (aq bZ) 169 [.agg [ba t.ae,aF t.next,aF t.ak],fI l,aF c] M=some (.tuple [.agg (aM (DR t l c).1),fI (DR t l c).2],M) :=
 cO (aqJ t l c ht hl) M
end
abbrev AM(α:Type):=List (Int×α)
section
variable {α:Type}
def B2(l:AM α):List ag:=l.map fun p => .int .i64 p.1
def ph(enc:α->ag)(l:AM α):List ag:=l.map fun p=>enc p.2
def eZ:AM α->Int->Option α
 | [],_=>none
 |(k',v)::l,k=>if k=k' then some v else eZ l k
def kR:AM α->Int->α->AM α
 | [],k,v=>[(k,v)]
 |(k',v')::l,k,v=>if k=k' then (k,v)::l else (k',v')::kR l k v
theorem jy:∀(l:AM α)(k:Int)(v:α)(j:Int),eZ (kR l k v) j=if j=k then some v else eZ l j
 | [],k,v,j=>by simp only[kR,eZ]
 |(k',v')::l,k,v,j=>by
  simp only[kR];split
  ·rename_i h;subst h;simp only[eZ];split<;>rfl
  ·rename_i h;simp only[eZ];split
   ·rename_i h2;rw[aR (fun hh=>h (hh.symm.trans h2))]
   ·exact jy l k v j
def xA:∀(l:AM α)(k:Int)(v:α),eZ l k=some v->(k,v)∈l
 |(k',v')::l,k,v,h=>by
  simp only[eZ] at h;split at h
  ·rename_i hk;injection h with h
   subst h; subst hk;exact bD
  ·exact bt _ (xA l k v h)
def Eh:∀(l:AM α)(k:Int)(v:α),(kR l k v).length<=l.length+1
 | [],_,_=>by simp[kR]
 |(k',v')::l,k,v=>by
  simp only[kR];split
  ·simp
  ·have:=Eh l k v;simp; omega
def o9(enc:α->ag):∀(l:AM α)(k:Int),xw .i (.int .i64 k) (B2 l) (ph enc l)=some ((eZ l k).map enc)
 | [],k=>rfl
 |(k',v)::l,k=>by
  show bI (kv .i (.int .i64 k) (.int .i64 k')) (fun b=>Bt b (some (some (enc v))) (xw .i (.int .i64 k) (B2 l) (ph enc l)))=_
  rw[o9 enc l k];simp only[kv,↓reduceIte,bO,eZ]
  by_cases h:k=k'
  ·rw[aZ h,show(k==k')=true by simpa using h,vJ]; rfl
  ·rw[aR h,show(k==k')=false by simpa using h,qq]
end
section
variable {α:Type}
def sK(enc:α->ag):∀(l:AM α)(k:Int)(v:α),xy .i (.int .i64 k) (enc v) (B2 l) (ph enc l)=some (B2 (kR l k v),ph enc (kR l k v))
 | [],k,v=>by
  show bI (kv .i (.int .i64 k) (.int .i64 k)) (fun _=>some ([ag.int .i64 k],[enc v]))=_
  simp only[kv,↓reduceIte,bO];rfl
 |(k',v')::l,k,v=>by
  show bI (kv .i (.int .i64 k) (.int .i64 k')) (fun b=>Bt b (some (ag.int .i64 k::B2 l,enc v::ph enc l)) (bI (xy .i (.int .i64 k) (enc v) (B2 l) (ph enc l)) fun x=>some (ag.int .i64 k'::x.1,enc v'::x.2)))=_
  rw[sK enc l k v];simp only[kv,↓reduceIte,bO,kR]
  by_cases h:k=k'
  ·rw[aZ h,show(k==k')=true by simpa using h,vJ]; rfl
  ·rw[aR h,show(k==k')=false by simpa using h,qq]; rfl
def YF(enc:α->ag)(B:Nat)(M:aC)(h:∀a,(enc a).jW B M=enc a)(l:AM α):List.map (ag.jW B M) (ph enc l)=ph enc l:=by
 unfold ph;rw[gJ];exact c8 (fun p _=>h p.2)
def SJ(enc:α->ag)(h:∀a,(enc a).ids=[])(l:AM α):(ph enc l).flatMap ag.ids=[]:=by
 unfold ph;rw[List.flatMap_map];exact mG.2 fun p _=>h p.2
def Ls(enc:α->ag)(h:∀a,(enc a).flat=true)(l:AM α):(ph enc l).all ag.flat=true:=bN.2 fun x hx=>by
 obtain⟨p,_,rfl⟩:=eL.1 hx;exact h p.2
def WZ(enc:α->ag)(ρ:Nat->Nat)(h:∀a,(enc a).pq ρ=enc a)(l:AM α):(ph enc l).map (ag.pq ρ)=ph enc l:=by
 unfold ph;rw[gJ];exact c8 (fun p _=>h p.2)
def Nv(o:Option Bool):po (.bool false) false (o.map ag.bool) = .bool (o.getD false):=by cases o<;>rfl
end
def mO(ae:List Node):Nat->Int->Int×AM Bool->Int×AM Bool
 |0,_,s=>s
 |f+1,ar,s=>(bm ae ar).bc.foldl (fun s e=>if !((eZ s.2 e.ar).getD false) then mO ae f e.ar (s.1,kR s.2 e.ar true) else s) (nz (s.1+(bm ae ar).data.length),s.2)
def vT:ag := .func 247 [.ptr 0 0,.ptr 1 0,.ptr 2 0,.ptr 3 0]
def jH(t:Tree)(s:Int×AM Bool):aC:=[.cells (aM t),.cells [.int .i64 s.1],.cells [.iC 4],.cells [vT],.map (B2 s.2) (ph ag.bool s.2)]
def flB(l:AM Bool):(ph ag.bool l).all ag.flat=true:=Ls _ (fun _=>rfl) l
def rnB(ρ:Nat->Nat)(l:AM Bool):(ph ag.bool l).map (ag.pq ρ)=ph ag.bool l:=WZ _ _ (fun _=>rfl) l
def idB(l:AM Bool):(ph ag.bool l).flatMap ag.ids=[]:=SJ _ (fun _=>rfl) l
def bkB(B:Nat)(M:aC)(l:AM Bool):List.map (ag.jW B M) (ph ag.bool l)=ph ag.bool l:=YF _ _ _ (fun _=>rfl) l
def JU(t:Tree)(s:Int×AM Bool):(jH t s).map (cL.pq (iB [0,1,2,3,4]))=jH t s/\(jH t s).map (cL.pq (wD [0,1,2,3,4]))=jH t s:=by
 constructor
 ·simp only[jH,aH,aQ,cL.pq,rnB]; rfl
 ·simp only[jH,aH,aQ,cL.pq,rnB]; rfl
def anS(t:Tree)(s:Int×AM Bool)(L:aC):jZ (jH t s++L) (iB [0,1,2,3,4]) [0,1,2,3,4]=some (jH t s):=by
 have h:=(JU t s).1;simp only[jH,aH,aQ] at h;injection h with h0 h; injection h with h1 h; injection h with h2 h; injection h with h3 h; injection h with h4 h
 simp only[jH,aG,aP,jZ,nth,h0,h1,h2,h3,h4];simp only[cL.flat,flB,aI];rfl
def asm(t:Tree)(s:Int×AM Bool)(L:aC):qz (jH t s++L) [0,1,2,3]=[4,0,1,2,3]/\qz (jH t s++L) [0,1,2,3,4]=[4,0,1,2,3]:=by
 refine⟨rfl,?_⟩
 show[4,0,1,2,3]++((ph ag.bool s.2).flatMap ag.ids++[])=_
 rw[idB]; rfl
def WW(t:Tree)(s:Int×AM Bool)(L:aC):reach (jH t s++L) [0,1,2,3]=[0,1,2,3,4]/\kx (jH t s++L) [0,1,2,3,4]=[0,1,2,3,4]:=by
 obtain⟨h1,h2⟩:=asm t s L;have e0:kb [] [0,1,2,3]=[0,1,2,3]:=rfl;have e1:kb [0,1,2,3] [4,0,1,2,3]=[0,1,2,3,4]:=rfl;have e2:kb [0,1,2,3,4] [4,0,1,2,3]=[0,1,2,3,4]:=rfl;simp only[reach,kx,e0,h1,e1,h2,e2,jU]
def aif(t:Tree)(s s':Int×AM Bool)(L:aC):mb [0,1,2,3,4] (jH t s++L) [0,1,2,3,4] (jH t s')=jH t s'++L:=by
 have h:=(JU t s').2;simp only[jH,aH,aQ] at h;injection h with h0 h; injection h with h1 h; injection h with h2 h; injection h with h3 h; injection h with h4 h
 simp only[jH,aG,aP,mb,h0,h1,h2,h3,h4,iR]
def aca(t:Tree)(s:Int×AM Bool):(jH t s).all cL.flat=true:=by
 simp only[jH,kK,cL.flat,flB]; rfl
def ak9{t:Tree}{ar:Int}{s s':Int×AM Bool}{L:aC}(h:aq bZ 247 [aF ar,cA 0,cA 1,cA 2,cA 3] (jH t s)=some (.tuple [],jH t s')) :
  aU (aq bZ) 247 [aF ar,cA 0,cA 1,cA 2,cA 3] (jH t s++L)=some (.tuple [],jH t s'++L) :=
 lj (ids:=[0,1,2,3,4]) rfl (WW t s L).1 (anS t s L) (WW t s L).2 rfl h rfl rfl (aca t s') rfl (aif t s s' L)
def yK(t:Tree)(s:Int×AM Bool)(n:Node):aC:=[.cells [ba t.ae,.int .i64 t.next,.int .i64 t.ak],.map (B2 s.2) (ph ag.bool s.2),.cells [.iC 1],.cells [.int .i64 s.1],.cells [.func 247 [.ptr 0 0,.ptr 3 0,.ptr 2 0,.ptr 4 0]],.cells (aL n)]
def ae0{t:Tree}{ar:Int}{s':Int×AM Bool}(n:Node)(h:aq bZ 247 [aF ar,cA 0,cA 1,cA 2,cA 3] (jH t (0,[]))=some (.tuple [],jH t s')) :
  aU (aq bZ) 247 [aF ar,cA 0,cA 3,cA 2,cA 4] (yK t (0,[]) n)=some (.tuple [],yK t s' n):=by
 have i1:qz (yK t (0,[]) n) [0,3,2,4]=[1,0,3,2,4]:=rfl;have i2:qz (yK t (0,[]) n) [0,3,2,4,1]=[1,0,3,2,4]:=rfl;have e0:kb [] [0,3,2,4]=[0,3,2,4]:=rfl;have e1:kb [0,3,2,4] [1,0,3,2,4]=[0,3,2,4,1]:=rfl;have e2:kb [0,3,2,4,1] [1,0,3,2,4]=[0,3,2,4,1]:=rfl
 have hr:reach (yK t (0,[]) n) [0,3,2,4]=[0,3,2,4,1]/\kx (yK t (0,[]) n) [0,3,2,4,1]=[0,3,2,4,1]:=by
  simp only[reach,kx,e0,i1,e1,i2,e2,jU]
 have hp:jZ (yK t (0,[]) n) (iB [0,3,2,4,1]) [0,3,2,4,1]=some (jH t (0,[])):=by
  simp only[yK,jZ,nth,cL.flat,flB,bO,aI,cL.pq,rnB];rfl
 refine lj (ids:=[0,3,2,4,1]) rfl hr.1 hp hr.2 rfl h rfl rfl (aca t s') rfl ?_;simp only[jH,yK,mb,cL.pq,rnB,iR];rfl
section
attribute [local irreducible] eX fJ lu gK eb kr aq aU cq bI
def aaA{t:Tree}{n:Node}{f:Nat}{k:List K}{R:Int×AM Bool->Option (ag×aC)}(hn:n.bc.length<=100000)
  (ih:∀e,e∈n.bc->∀s,aq bZ 247 [aF e.ar,cA 0,cA 1,cA 2,cA 3] (jH t s)=some (.tuple [],jH t (mO t.ae f e.ar s)))
  (hx:∀s e,kr (aq bZ) [] 5 k ⟨.exit 0,e,jH t s++[cC (aL n)]⟩=R s) :
  ∀(l pre:List gP)(s:Int×AM Bool),n.bc=pre++l->eX (aq bZ) [] 5 k (.loop [3,4,22,23,24] aab) [(3,cA 2),(4,cA 3),(22,jc n.bc),(23,aF n.bc.length),(24,aF pre.length)] (jH t s++[cC (aL n)]) =
   R (l.foldl (fun s e=>if !((eZ s.2 e.ar).getD false) then mO t.ae f e.ar (s.1,kR s.2 e.ar true) else s) s):=by
 intro l;induction l with
 |nil =>
  intro pre s h;rw[bG];simp only[jH,Ol,jL h,ng,EW,seval] at hx ⊢;exact hx _ _
 |cons x rest ihl =>
  intro pre s h;rw[bG];have dQ:pre.length+1<=100000:=by rw[h] at hn; simp at hn; omega
  have hw:=zy pre x;rw[eM];have hi1:=fun s=>ihl (pre++[x]) s (by rw[h]; simp)
  have q:=ak9 (L:=[cC (aL n),cC (gk x)]) (ih x (by rw[h]; simp) (s.1,kR s.2 x.ar true))
  generalize mO t.ae f x.ar (s.1,kR s.2 x.ar true)=s' at q ⊢;simp only[jH,vT,aL,gk,aA,aw,az,aK,aG,aP] at hi1 q;simp only[jH,vT,Ol,iQ h,gU h,aL,gk,o9,Nv,mapOf.eq_1,EW,seval];refine bA (fun hb=>?_) (fun hb=>?_)
  ·simp only[Ol,hb,hw,sK,q,b0T,bkB,↓reduceIte,EW,seval];exact hi1 _
  ·simp only[Ol,hb,hw,b0T,bkB,af,EW,seval];exact hi1 _
def arH{t:Tree}{dJ:Int->Nat}(h:dY t dJ 0):∀(f:Nat)(ar:Int)(s:Int×AM Bool),(∀n,find t.ae ar=some n->n.kind=2->13<f+dJ ar)->0<f ->
  aq bZ 247 [aF ar,cA 0,cA 1,cA 2,cA 3] (jH t s)=some (.tuple [],jH t (mO t.ae f ar s)):=by
 intro f;induction f with
 |zero=>intro ar s _ h0; omega
 |succ f ih =>
  intro ar s hd _;have q1:=Fc t ar h.sz.HH h.lL
  have hl:=aaA (t:=t) (n:=bm t.ae ar) (f:=f) (k:=[.block 0]) (R:=fun s=>some (.tuple [],jH t s)) (by
    cases hi:find t.ae ar with
    |none=>simp[bm,hi,Node.zero]
    |some n=>have:=(h.yq _ _ hi).2; simp only[bm,hi,bz]; omega) ?_ (fun s e=>by simp only[jH,vT,Ol,aL,b0T,bkB,EW,seval]) (bm t.ae ar).bc [] (nz (s.1+(bm t.ae ar).data.length),s.2) rfl
  ·refine aB ?_;rw[mO];simp only[jH,vT,aL,aG,aP,az] at hl q1;simp only[adt,Ol,jH,vT,aM,aL,q1,EW,seval];exact hl
  ·intro e he s;cases hi:find t.ae ar with
   |none=>simp[bm,hi,Node.zero] at he
   |some n =>
    simp only[bm,hi,bz] at he
    have hk:n.kind=2:=by
     rcases h.kind _ _ hi with h1|h1
     ·rw[(h.file _ _ hi h1).1] at he; cases he
     ·exact h1
    have h1:=hd n hi hk;have h2:=(h.deep _ _ hi hk).1;obtain⟨_,_,e1,_,m,hm,hu⟩:=h.CH _ _ _ hi he;refine ih e.ar s (fun n' hn' hk'=>?_) aJ
    rw[hm] at hn'; cases hn';have:=(h.qI _ _ hm hk' e1).1;rw[hu hk'] at this;omega
def lx(ae:List Node)(ar:Int):Int×Int :=
 if (find ae ar).isSome&&(bm ae ar).kind==2 then (((mO ae 14 ar (0,[])).2.length:Int),(mO ae 14 ar (0,[])).1) else (0,0)
def c193{t:Tree}(h:Rt t)(ar:Int):aq bZ 193 [br t,aF ar] []=some (.tuple [aF (lx t.ae ar).1,aF (lx t.ae ar).2],[]):=by
 obtain⟨dJ,h⟩:=h;refine aB ?_;have q1:=Fc t ar h.sz.HH h.lL;have q2:=arH h 14 ar (0,[]) (fun n hn hk=>aJ) aJ
 unfold lx;generalize mO t.ae 14 ar (0,[])=s' at q2 ⊢;simp only[aL] at q1;simp only[acX,QW,br,aM,q1,aL,EW,seval];refine bV (fun hb=>?_) (fun hb=>?_)
 ·simp only[hb,QW,EW,seval];refine bA (fun hc=>?_) (fun hc=>?_)
  ·have q3:=ae0 (bm t.ae ar) q2;simp only[yK,aL,B2,ph,aQ] at q3;simp only[hb,hc,q3,QW,mapOf.eq_1,EW,seval]
  ·simp only[hb,hc,QW,mapOf.eq_1,dR,af,EW,seval]
 ·simp only[hb,QW,mapOf.eq_1,cI,af,EW,seval]
def afM{t:Tree}(h:Rt t)(ar:Int)(M:aC):aU (aq bZ) 193 [.agg [ba t.ae,aF t.next,aF t.ak],aF ar] M=some (.tuple [aF (lx t.ae ar).1,aF (lx t.ae ar).2],M) :=
 cO (c193 h ar) M
end
section
def ahJ(l:List dV)(o:Int)(b:cL):jZ [cC [cR l],cC [aF o],b] (iB [0,1]) [0,1]=some [cC [cR l],cC [aF o]]:=rfl
def ahK(l:List dV)(o:Int)(b:cL):jZ [b,cC [cR l],cC [aF o]] (iB [1,2]) [1,2]=some [cC [cR l],cC [aF o]]:=rfl
attribute [local irreducible] eX fJ lu gK eb kr aq aU cq bI
abbrev py(l:List dV):Prop:=l.Pairwise fun a b=>a.ar<b.ar
def wP(l:List dV)(ar:Int):Nat:=mq (fun x=>decide (qQ x.ar ar<0)) l
def F5(l:List dV)(ar:Int):Bool:=pn (fun x=>qQ x.ar ar==0) l (wP l ar)
def ye{l:List dV}(h:py l)(ar:Int):XQ (fun x=>decide (qQ x.ar ar<0)) l (wP l ar):=by
 refine Hq (h.imp ?_);intro a b hab hb;simp only[bh,x5] at hb ⊢;omega
def aru(l:List dV)(ar:Int)(h:py l)(hn:l.length<=100000):aq bZ 226 [cR l,aF ar] []=some (.tuple [aF (wP l ar),.bool (F5 l ar)],[]):=by
 refine aB ?_;have q:=fun M=>cO (arV l ar _ (ye h ar) hn) M
 simp only[adl,ao5,q,F5,EW,seval]
def amO l ar h hn:=cP (aru l ar h hn)
def ar1(l:List dV)(dir o:Int)(h:py l)(hn:l.length<=100000):aq bZ 285 [aF dir,cA 0,cA 1] [cC [cR l],cC [aF o]] =
  some (.bool ((if F5 l dir then dir else o)==0),[cC [cR l],cC [aF (if F5 l dir then dir else o)]]):=by
 refine aB ?_;have q:=amO l dir h hn;simp only[adJ,aeu,q,EW,seval];refine bA (fun hb=>?_) (fun hb=>?_)
 ·simp only[aeu,hb,aI,EW,seval]
 ·simp only[aeu,hb,af,aD,EW,seval]
def sG(ae:List Node)(l:List dV):Nat->Int->Int
 |0,_=>0
 |f+1,dir=>if F5 l dir then dir else if dir != 1 then sG ae l f (bm ae dir).up else 0
def aaD{t:Tree}{dJ:Int->Nat}(ht:dY t dJ 0){l:List dV}(hq:py l)(hn:l.length<=100000){k:List K}{R:Int->Option (ag×aC)}
  (hx:∀o e,kr (aq bZ) [] 2 k ⟨.exit 0,e,[cC [cR l],cC [aF o],cC (aM t)]⟩=R o) :
  ∀(f:Nat)(dir:Int)(n:Node),find t.ae dir=some n->n.kind=2->dJ dir<f->eX (aq bZ) [] 2 k (.loop [1,2,3] aae) [(1,aF dir),(2,.func 285 [cA 0,cA 1]),(3,cA 2)] [cC [cR l],cC [aF 0],cC (aM t)] =
   R (sG t.ae l f dir):=by
 intro f;induction f with
 |zero=>intro dir n _ _ h; omega
 |succ f ih =>
  intro dir n hi hk hd;rw[bG,sG]
  have q0:aU (aq bZ) 285 [aF dir,cA 0,cA 1] [cC [cR l],cC [aF 0],cC (aM t)] =
    some (.bool ((if F5 l dir then dir else 0)==0),[cC [cR l],cC [aF (if F5 l dir then dir else 0)],cC (aM t)]) :=
   lj (ids:=[0,1]) rfl rfl (ahJ l 0 _) rfl rfl (ar1 l dir 0 hq hn) rfl rfl rfl rfl rfl
  have q1:=Fc t dir ht.sz.HH ht.lL;have hd1:=(ht.num _ _ hi).1;simp only[aL,aM] at q0 q1 hx;simp only[On,q0,aM,EW,seval];cases hb:F5 l dir
  ·simp only[hb,af,aD]
   by_cases h1:dir=1
   ·subst h1;simp only[On,av,af,aD,EW,seval];exact hx _ _
   ·have h1':(dir != 1)=true:=by simpa using h1
    obtain⟨g1,p,g2,g3⟩:=ht.qI _ _ hi hk h1;have hi':=ih n.up p g2 g3 aJ;simp only[aM] at hi';simp only[bm,hi,bz] at q1 ⊢;simp only[On,h1',q1,aL,EW,seval];exact hi'
  ·simp only[hb,aI];have h0:(dir==0)=false:=gm;simp only[h0,On,EW,seval];exact hx _ _
def ar0{t:Tree}{dJ:Int->Nat}(ht:dY t dJ 0){l:List dV}(hq:py l)(hn:l.length<=100000){dir:Int}{n:Node}(hi:find t.ae dir=some n)(hk:n.kind=2) :
  aq bZ 284 [br t,aF dir,.func 285 [cA 0,cA 1]] [cC [cR l],cC [aF 0]]=some (.tuple [],[cC [cR l],cC [aF (sG t.ae l 13 dir)]]):=by
 refine aB ?_;have hl:=aaD ht hq hn (k:=[.block 0]) (R:=fun o=>some (.tuple [],[cC [cR l],cC [aF o]])) (fun o e=>by simp only[On,aM,EW,seval]) 13 dir n hi hk (by have:=(ht.deep _ _ hi hk).1; omega)
 simp only[aM] at hl;simp only[adI,On,br,aM,EW,seval];exact hl
def mg(ae:List Node)(l:List dV)(dir:Int):Int:=sG ae l 13 dir
def arG{t:Tree}{dJ:Int->Nat}(ht:dY t dJ 0){l:List dV}(hq:py l)(hn:l.length<=100000){dir:Int}{n:Node}(hi:find t.ae dir=some n)(hk:n.kind=2) :
  aq bZ 246 [br t,cR l,aF dir] []=some (aF (mg t.ae l dir),[]):=by
 refine aB ?_
 have q:aU (aq bZ) 284 [.agg (aM t),aF dir,.func 285 [cA 1,cA 2]] [cC (aM t),cC [cR l],cC [aF 0]] =
   some (.tuple [],[cC (aM t),cC [cR l],cC [aF (sG t.ae l 13 dir)]]) :=
  lj (ids:=[1,2]) rfl rfl (ahK l 0 _) rfl rfl (ar0 ht hq hn hi hk) rfl rfl rfl rfl rfl
 simp only[aM] at q;simp only[ads,apa,br,aM,q,mg,EW,seval]
def as5{t:Tree}{dJ:Int->Nat}(ht:dY t dJ 0){l:List dV}(hq:py l)(hn:l.length<=100000){dir:Int}{n:Node}(hi:find t.ae dir=some n)(hk:n.kind=2)(M:aC) :
  aU (aq bZ) 246 [.agg [ba t.ae,aF t.next,aF t.ak],cR l,aF dir] M=some (aF (mg t.ae l dir),M):=cO (arG ht hq hn hi hk) M
def vh(t:Tree)(l:List dV)(ar ae bytes:Int):List dV×Int :=
 if !(find t.ae ar).isSome then (l,70)
 else if (bm t.ae ar).kind != 2 then (l,73)
 else if decide (ae<0) then (if F5 l ar then l.eraseIdx (wP l ar) else l,0)
 else if decide ((lx t.ae ar).1>ae)||decide ((lx t.ae ar).2>bytes) then (l,90)
 else if F5 l ar then (l.set (wP l ar) ⟨ar,ae,bytes⟩,0)
 else if decide ((l.length:Int)>=16) then (l,76)
 else (l.take (wP l ar)++⟨ar,ae,bytes⟩::l.drop (wP l ar),0)
def aqE(t:Tree)(l:List dV)(ar ae bytes:Int)(ht:Rt t)(hq:py l)(hn:l.length<=16):aq bZ 162 [br t,cR l,aF ar,aF ae,aF bytes] []=some (.tuple [cR (vh t l ar ae bytes).1,aF (vh t l ar ae bytes).2],[]):=by
 refine aB ?_;have q1:=Fc t ar ht.small ht.lL;have q2:=amO l ar hq aJ;have q3:=afM ht ar;have hb:=(ye hq ar).le
 have cJ:F5 l ar=true->wP l ar<l.length:=by
  intro h;unfold F5 pn at h;split at h
  ·rename_i x hx; exact(aj.1 hx).1
  ·cases h
 unfold vh;generalize lx t.ae ar=u at q3 ⊢;generalize wP l ar=b at q2 hb cJ ⊢;generalize F5 l ar=e at q2 cJ ⊢;simp only[aL] at q1
 by_cases h0:l=[]
 ·have hb0:b=0:=by subst h0; simpa using hb
  have he:e=false:=by
   cases e
   ·rfl
   ·have:=cJ rfl; subst h0; simp at this
  subst he;have p1:=fun M=>DL gF (f:=189) (sz:=3) (bytes:=24) rfl h0 M
  have p2:=fun M=>FO (f:=228) (sz:=3) (bytes:=24) rfl hb0 (.agg [aF ar,aF ae,aF bytes]) rfl M
  simp only[I0,Oh,br,aM,q1,q2,q3,aL,EW,seval]
  repeat' ((first|apply bA|apply bV|apply dP)<;>intro hb<;>simp only[hb,EW,Oh,q1,q2,q3,p1,p2,aL,seval])
  all_goals clear q1 q2 q3 p1 p2
  all_goals first|rfl|(simp_all only[qB,↓reduceIte,reduceCtorEq,av]; done)|(simp_all only[qB,↓reduceIte,reduceCtorEq,av]; rfl)
 ·have hb0:=hb;have p1:=fun M=>CU gF (f:=189) (sz:=3) (bytes:=24) rfl (fun _=>rfl) aJ h0 aJ M
  have p2:=fun M=>I8 gF (f:=228) (sz:=3) (bytes:=24) (v:=0) (id:=3) rfl aJ hb aJ (.agg [aF ar,aF ae,aF bytes]) rfl M
  cases he:e
  ·subst he;simp only[I0,Oh,br,aM,q1,q2,q3,aL,EW,seval]
   repeat' ((first|apply bA|apply bV|apply dP)<;>intro hb<;>simp only[hb,EW,Oh,q1,q2,q3,p1,p2,aL,seval])
   all_goals clear q1 q2 q3 p1 p2
   all_goals first|rfl|(simp_all only[qB,↓reduceIte,reduceCtorEq,av]; done)|(simp_all only[qB,↓reduceIte,reduceCtorEq,av]; rfl)|(simp_all only[qB,↓reduceIte,reduceCtorEq,av]; exact congrArg (fun z=>some (ag.tuple [ag.slice .sh z,aF 0],([]:aC))) (Nk gF hb0 ⟨ar,ae,bytes⟩))
  ·subst he;have p3:=fun M=>FN gF (f:=227) (sz:=3) (v:=0) (id:=2) rfl (cJ rfl) aJ M
   have hbl:=cJ rfl;have hx:=ai hbl;generalize l[b]=x at hx;have h1:((b:Int)<((l.length-0:Nat):Int))=True:=gm
   have hs:iR (l.map gF) b (putCells (gF x) 0 [aF ar,aF ae,aF bytes])=(l.set b ⟨ar,ae,bytes⟩).map gF:=by
    rw[fe,gh]; rfl
   have ht2:List.take l.length ((l.set b ⟨ar,ae,bytes⟩).map gF)=(l.set b ⟨ar,ae,bytes⟩).map gF:=bB dx;have hw:IntKind.i64.wrap ((b:Int)+1)=((b+1:Nat):Int):=by have:=cJ rfl; rw[gA aJ aJ]; rfl
   simp only[I0,Oh,br,aM,q1,q2,q3,hw,aL,EW,seval]
   repeat' ((first|apply bA|apply bV|apply dP)<;>intro hb<;>simp only[hb,EW,Oh,q1,q2,q3,p1,p2,p3,hw,h1,hx,hs,ht2,aL,seval])
   all_goals clear q1 q2 q3 p1 p2 p3
   all_goals first|rfl|(simp_all only[qB,↓reduceIte,reduceCtorEq,av]; done)|(simp_all only[qB,↓reduceIte,reduceCtorEq,av]; rfl)
end
section
attribute [local irreducible] eX fJ lu gK eb kr aq aU cq bI
def wO{α:Type}(key:α->Int)(l:List α)(k:Int):Nat:=mq (fun x=>decide (qQ (key x) k<0)) l
def XW{α:Type}(key:α->Int)(l:List α)(k:Int):Bool:=pn (fun x=>qQ (key x) k==0) l (wO key l k)
def Nz{α:Type}{key:α->Int}{l:List α}(h:l.Pairwise fun a b=>key a<key b)(k:Int):XQ (fun x=>decide (qQ (key x) k<0)) l (wO key l k):=by
 refine Hq (h.imp ?_);intro a b hab hb;simp[x5] at hb ⊢;omega
theorem Ra{α:Type}{key:α->Int}{l:List α}(h:l.Pairwise fun a b=>key a<key b)(k:Int) :
  (XW key l k=true/\∃n,l[wO key l k]?=some n/\key n=k/\l.find? (fun x=>key x==k)=some n)\/(XW key l k=false/\l.find? (fun x=>key x==k)=none):=by
 obtain⟨l1,l2⟩:=Nz h k;simp only[bh,x5] at l2;cases hf:l.find? (fun x=>key x==k) with
 |some n =>
  left;have hm:=iG hf;have he:key n=k:=jK;obtain⟨i,hi⟩:=bX hm;have hib:¬i<wO key l k:=fun hc=>by have:=(l2 i n hi).2 hc; omega
  have hb:wO key l k<l.length:=by have:=(aj.1 hi).1; omega
  have hx:=ai hb
  have hie:i=wO key l k:=by
   grind [Nat.lt_or_ge,wO,List.pairwise_iff_getElem,absurd]
  subst hie;exact⟨by simp_all [XW,pn,G5],n,hi,he,rfl⟩
 |none =>
  right;refine⟨?_,rfl⟩
  grind [XW,pn,List.find?_eq_none,List.mem_of_getElem?,qQ,G5]
theorem aro(x y:Node)(hx:x.bc.length<=100000):aq bZ 222 [.agg (aL x),.agg (aL y)] []=some (.bool (decide (x=y)),[]):=by
 have hd:decide (x=y)=(x.ar==y.ar&&(x.kind==y.kind&&(x.eG==y.eG&&(x.up==y.up&&(x.data==y.data&&decide (x.bc=y.bc)))))):=by
  obtain⟨a,b,c,d,e,f⟩:=x;obtain⟨a',b',c',d',e',f'⟩:=y
  grind
 refine aB ?_;have q:=fun M=>cO (akQ x.bc y.bc hx) M
 rw[hd];simp only[adh,ao3,bL,aL,EW,seval]
 repeat' ((first|apply bA|apply bV|apply dP)<;>intro hb<;>simp only[hb,EW,q,vu,seval])
 all_goals (rfl)
def amM x y hx:=cP (aro x y hx)
def Yt(ae:List Node)(ar:Int):Int:=if XW Node.ar ae ar then (wO Node.ar ae ar:Int) else -1
def arn(ae:List Node)(ar:Int)(h:oZ ae)(hn:ae.length<=100000):aq bZ 221 [ba ae,aF ar] []=some (aF (Yt ae ar),[]):=by
 refine aB ?_;have q  := fun M=>cO (ak5 ae ar _ (Nz h ar) hn) M
 simp only[adg,aep,q,Yt,EW,seval];refine bA (fun hb=>?_) (fun hb=>?_)
 ·simp_all [XW,aep,EW]
 simp_all [XW,aep,EW]
def amL(ae:List Node)(ar:Int)(h:oZ ae)(hn:ae.length<=100000)(M:aC):aU (aq bZ) 221 [ba ae,aF ar] M=some (aF (Yt ae ar),M):=cO (arn _ _ h hn) M
def xJ(l:List mU)(a b:Int):Bool:=l.any (zp a b)
def arp(l:List mU)(a b:Int)(hn:l.length<=100000):aq bZ 223 [kh l,aF a,aF b] []=some (.bool (xJ l a b),[]):=by
 refine aB ?_
 have q:aU (aq bZ) 265 [kh l,.func 266 [cA 0,cA 1]] _=some (.bool (xJ l a b),[cC [aF a],cC [aF b]]) :=
  lj (ids:=[0,1]) rfl rfl (Ma a b) rfl rfl (ak6 l a b hn) rfl rfl rfl rfl rfl
 simp only[adi,ao4,q,EW,seval]
def amN l a b hn:=cP (arp l a b hn)
def k56(a b:Tree)(ha:Small a)(M:aC):aU (aq bZ) 56 [.agg [ba a.ae,aF a.next,aF a.ak],.agg [ba b.ae,aF b.next,aF b.ak]] M=some (.bool (decide (a=b)),M):=cO (c56 a b ha) M
def lP(t:Tree)(dW:List mU)(tick:Int):List Node->List Int->List pv
 |n::r,x::y=>(if (decide (Yt t.ae n.ar<0) || !decide (n=bm t.ae n.ar))&&xJ dW x tick then [⟨x,tick,n⟩] else [])++lP t dW tick r y
 |_,_=>[]
def rO(s:iT)(tick:Int)(n:Node):Int :=
 if decide (0<=Yt s.now.ae n.ar)&&decide (n=bm s.now.ae n.ar) then s.since.getD (wO Node.ar s.now.ae n.ar) 0 else tick
def qA(s:iT)(t:Tree):iT:=if decide (s.now=t) then s else
 ⟨t,nz (s.tick+1),t.ae.map (rO s (nz (s.tick+1))),s.eS++lP t s.dW (nz (s.tick+1)) s.now.ae s.since,s.dW,s.next⟩
def CQ{ae:List Node}(h:oZ ae)(ar:Int) :
  (XW Node.ar ae ar=true/\Yt ae ar=(wO Node.ar ae ar:Int)/\ae[wO Node.ar ae ar]?=some (bm ae ar)/\find ae ar=some (bm ae ar))\/(XW Node.ar ae ar=false/\Yt ae ar = -1/\find ae ar=none):=by
 rcases Ra h ar with ⟨h1,n,h2,_,h4⟩|⟨h1,h2⟩<;>simp_all [find,bm,Yt]
def yt(s:iT)(t:Tree)(P:List pv)(S:List Int):aC :=
 [.cells (bM s),.cells (aM t),.cells [.slice .c0 [],.int .i64 0,.int .i64 0,.int .i64 0,.slice .c0 [],.slice .c0 [],.slice .c0 [],.int .i64 0],.tick 8 P.length,
  .cells [ba t.ae,.int .i64 t.next,.int .i64 t.ak,.int .i64 (nz (s.tick+1)),.slice (.own 5) (S.map mV),.slice (.own 3) (P.map lY),kh s.dW,.int .i64 s.next],.tick 1 S.length]
theorem VO{s:iT}{t:Tree}(hs:rV s.now)(hz:Sz 200 s.now)(ht:rV t)(hzt:Sz 200 t)(hk:s.dW.length<=100000)(hl:s.since.length=s.now.ae.length){k:List K}{R:List pv->Option (ag×aC)}
  (hx:∀P e,kr (aq bZ) [.dK 4 8] 0 k ⟨.exit 0,(2,cA 0)::(3,cA 1)::(4,cA 2)::(5,cA 4)::e,yt s t P []⟩=R P) :
  ∀(l pre:List Node)(y ypre:List Int)(P:List pv),s.now.ae=pre++l->s.since=ypre++y->ypre.length=pre.length->P.length<=100000+pre.length ->
   eX (aq bZ) [.dK 4 8] 0 k (.loop [2,3,4,5,32,33,34] ZQ) [(2,cA 0),(3,cA 1),(4,cA 2),(5,cA 4),(32,ba s.now.ae),(33,aF s.now.ae.length),(34,aF pre.length)] (yt s t P []) =
   R (P++lP t s.dW (nz (s.tick+1)) l y):=by
 intro l;induction l with
 |nil =>
  intro pre y ypre P h hy hyl hP;rw[bG];have hy0:y=[]:=by have:=congrArg List.length h; have h2:=congrArg List.length hy; simp_all
  subst hy0;simp only[yt,GU,jL h,lP,EW,seval] at hx ⊢;exact hx _ _
 |cons n rest ih =>
  intro pre y ypre P h hy hyl hP;rw[bG];have hn200:=hz.ae;have dQ:pre.length+1<=200:=by rw[h] at hn200; grind
  have hw:=zy pre n;cases y with
  |nil=>have h1:=congrArg List.length h; have h2:=congrArg List.length hy; simp at h1 h2; omega
  |cons x y =>
   have hxa:s.since[pre.length]?=some x:=by rw[hy,<-hyl]; simp
   have hi1:=ih (pre++[n]) y (ypre++[x]) P (by rw[h]; simp) (by rw[hy]; simp) (by simp[hyl]) gm
   have hi2:=ih (pre++[n]) y (ypre++[x]) (P++[⟨x,nz (s.tick+1),n⟩]) (by rw[h]; simp) (by rw[hy]; simp) (by simp[hyl]) gm
   have q1:=amL t.ae n.ar ht.mr (by have:=hzt.ae; omega)
   have q2:=amM n (bm t.ae n.ar) (by have:=hz.bc n (by rw[h]; simp); omega)
   have q3:=amN s.dW x (nz (s.tick+1)) hk;have r1:ct (P.length+1) 96=True:=qM;rw[lP];simp only[yt,aL,aM,bM,aA,aw,az,aK,aW,aH,aQ] at hi1 hi2 q1 q2 q3;rcases CQ ht.mr n.ar with ⟨_,a2,a3,a4⟩|⟨_,a2,a4⟩
   ·have ha0:((wO Node.ar t.ae n.ar:Int)<0)=False:=dx;generalize decide (n=bm t.ae n.ar)=e1 at q2 ⊢;generalize xJ s.dW x (nz (s.tick+1))=e2 at q3 ⊢;cases e1<;>cases e2<;>simp only[yt,GU,iQ h,gU h,aL,aM,bM,q1,q2,q3,a2,a3,ha0,hxa,hw,r1,EW,seval]
    ·simpa using hi1
    ·simpa[lY,mN,aL] using hi2
    ·simpa using hi1
    ·simpa using hi1
   ·have ha0:((-1:Int)<0)=True:=dx;generalize decide (n=bm t.ae n.ar)=e1 at q2 ⊢;generalize xJ s.dW x (nz (s.tick+1))=e2 at q3 ⊢;cases e2<;>simp only[yt,GU,iQ h,gU h,aL,aM,bM,q1,q3,a2,ha0,hxa,hw,r1,EW,seval]
    ·simpa using hi1
    ·simpa[lY,mN,aL] using hi2
def VP{s:iT}{t:Tree}(hs:rV s.now)(hz:Sz 200 s.now)(hzt:Sz 200 t)(hl:s.since.length=s.now.ae.length)(P:List pv){k:List K}{R:List Int->Option (ag×aC)}
  (hx:∀S e,kr (aq bZ) [.dK 4 8] 0 k ⟨.exit 2,(2,cA 0)::(4,cA 2)::(5,cA 4)::e,yt s t P S⟩=R S) :
  ∀(l pre:List Node)(S:List Int),t.ae=pre++l->S.length<=100000+pre.length ->
   eX (aq bZ) [.dK 4 8] 0 k (.loop [2,4,5,84,85,86] ZR) [(2,cA 0),(4,cA 2),(5,cA 4),(84,ba t.ae),(85,aF t.ae.length),(86,aF pre.length)] (yt s t P S) =
   R (S++l.map (rO s (nz (s.tick+1)))):=by
 intro l;induction l with
 |nil =>
  intro pre S h hS;rw[bG];simp only[yt,GU,jL h,EW,seval] at hx ⊢;exact hx _ _
 |cons n rest ih =>
  intro pre S h hS;rw[bG];have hn200:=hzt.ae;have dQ:pre.length+1<=200:=by rw[h] at hn200; simp at hn200; omega
  have hw:=zy pre n;have hi1:=ih (pre++[n]) (S++[rO s (nz (s.tick+1)) n]) (by rw[h]; simp) gm
  have q1:=amL s.now.ae n.ar hs.mr (by have:=hz.ae; omega)
  have q2:=amM n (bm s.now.ae n.ar) (by have:=hzt.bc n (by rw[h]; simp); omega)
  have r1:ct (S.length+1) 8=True:=qM;rw[aH];unfold rO at hi1 ⊢;simp only[yt,aL,aM,bM,aA,aw,az,aK,aW,aH,aQ] at hi1 q1 q2;rcases CQ hs.mr n.ar with ⟨_,a2,a3,a4⟩|⟨_,a2,a4⟩
  ·have ha0:(0<=(wO Node.ar s.now.ae n.ar:Int))=True:=dx;have cJ:wO Node.ar s.now.ae n.ar<s.since.length:=by rw[hl]; exact(aj.1 a3).1
   have hxa:=ai cJ;have hxd:s.since.getD (wO Node.ar s.now.ae n.ar) 0=s.since[wO Node.ar s.now.ae n.ar]:=by simp[List.getD,hxa]
   rw[hxd] at hi1 ⊢;generalize s.since[wO Node.ar s.now.ae n.ar]=x at hxa hi1 ⊢;generalize decide (n=bm s.now.ae n.ar)=e1 at q2 hi1 ⊢;rw[a2] at hi1 ⊢;cases e1<;>simp only[yt,GU,iQ h,gU h,aL,aM,bM,q1,q2,a2,a3,ha0,hxa,hw,r1,uF,EW,seval]
   ·simpa using hi1
   ·simpa using hi1
  ·have ha0:(0<=(-1:Int))=False:=dx;rw[a2] at hi1 ⊢;simp only[yt,GU,iQ h,gU h,aL,aM,bM,q1,q2,a2,ha0,hw,r1,uF,EW,seval];simpa using hi1
def SE{α:Type}(enc:α->ag){f sz bytes:Nat}(hp:bZ.oX f=some (sv sz bytes))(hw:∀a,(enc a).cells.length=sz)(hb:bytes<=1000){l:List α}(hn:l.length<=100000)(M:aC) :
  aq bZ f [gG (l.map enc)] M=some (.slice (.own M.length) (l.map enc),M++[.tick sz l.length]):=by
 refine fg (g:=sv sz bytes) hp ?_;have hw':wid (l.map enc) sz:=by have:=pr enc sz hw l; simpa using this
 have hr:ct (l.map enc).length bytes:=by have:=sx (a:=l.length) (b:=bytes) aJ aJ; simpa using this
 unfold sv;simp only[];rw[fi ⟨hw',hr⟩];rw[cU]
def Ey{α:Type}(enc:α->ag){f sz bytes:Nat}(hp:bZ.oX f=some (sv sz bytes))(hw:∀a,(enc a).cells.length=sz)(hb:bytes<=1000){l:List α}(hn:l.length<=100000)(M:aC) :
  Bz (aq bZ) f [gG (l.map enc)] M=some (.slice (.own M.length) (l.map enc),M++[.tick sz l.length]):=by
 unfold Bz;rw[aZ ⟨rfl,rfl⟩,SE enc hp hw hb hn,bO];rfl
def aqB(s:iT)(t:Tree)(hs:rV s.now)(hz:Sz 200 s.now)(ht:rV t)(hzt:Sz 200 t)(hk:s.dW.length<=100000)(hl:s.since.length=s.now.ae.length)(hp:s.eS.length<=100000) :
  aq bZ 158 [qR s,br t] []=some (qR (qA s t),[]):=by
 refine aB ?_;have q1:=k56 s.now t (hz.small aJ);have p1:=fun M=>Ey lY (f:=220) (sz:=8) (bytes:=96) rfl (fun _=>rfl) aJ hp M
 have l2:=fun P=>VP hs hz hzt hl P (k:=[.block 2,.seq abi]) (R:=fun S=>some (.agg [ba t.ae,aF t.next,aF t.ak,aF (nz (s.tick+1)),uc S,sd P,kh s.dW,aF s.next],[]))
  (fun S e=>by simp only[yt,bM,aM,GU,EW,seval]) t.ae [] [] rfl dx
 have l1:=VO hs hz ht hzt hk hl (k:=[.block 0,.seq abj]) (R:=fun P=>some (.agg [ba t.ae,aF t.next,aF t.ak,aF (nz (s.tick+1)),uc (t.ae.map (rO s (nz (s.tick+1)))),sd P,kh s.dW,aF s.next],[]))
  (fun P e=>by
   have:=l2 P;simp only[yt,bM,aM,az,aP] at this;simp only[yt,bM,aM,GU,EW,seval];exact this) s.now.ae [] s.since [] s.eS rfl rfl rfl (by simpa using hp)
 unfold qA;generalize decide (s.now=t)=e1 at q1 ⊢;simp only[yt,bM,aM,az] at l1;cases e1<;>simp only[Se,GU,qR,bM,br,aM,q1,p1,or_false,EW,seval]
 exact l1
end
section
def zG{C:eR}{f g p:Nat}{xs:List ag}{r:ag}{M:aC}{c:ag}(hM:nth M p=some (cC [c]))(h:C f [gG xs,.func g [cA 0]] [cC [c]]=some (r,[cC [c]]))(h3:r.wH=true)(h5:r.Aq (wD [p])=r)
  (h6:c.vB&&c.nH.isEmpty=true) (h8:∀ρ,c.sk ρ=c:=by intro ρ; rfl):aU C f [gG xs,.func g [cA p]] M=some (r,M):=by
 simp only[bw,List.isEmpty_iff,bh] at h6;obtain⟨h6,h7⟩:=h6;have hids:[ag.slice .sh xs,.func g [cA p]].flatMap ag.ids=[p]:=rfl;have hi:qz M [p]=[]:=by simp[qz,hM,cL.ids,h7]
 have e0:kx M [p]=[p]:=by simp[kx,hi,kb]
 have e1:reach M [p]=[p]:=by
  have ea:kb [] [p]=[p]:=rfl;simp only[reach,ea,e0]
 have hfl:[ag.slice .sh xs,.func g [cA p]].all ag.flat=true:=rfl;unfold aU;rw[aZ hfl,hids,e1];have hpk:jZ M (iB [p]) [p]=some [cC [c]]:=by simp[jZ,hM,cL.flat,h6,cL.pq,h8]
 rw[hpk];simp only[bO];rw[aZ e0]
 have hrn:[ag.slice .sh xs,.func g [cA p]].map (ag.pq (iB [p]))=[gG xs,.func g [cA 0]]:=by
  simp[ag.pq,ag.sk,ag.uw,iB]
 rw[hrn,h];simp only[bO];rw[aZ ⟨by trivial,h3,by simp[cL.flat,h6]⟩,h5]
 simp only[mb,cL.pq,aH,aQ,h8];rw[uX hM]
attribute [local irreducible] eX fJ lu gK eb kr aq aU cq bI
def rJ(id:Int)(x:mU):Bool:=x.id != id
def vO(tk:List mU)(p:pv):Bool:=xJ tk p.km p.BM
def SY(n:mU):(iH n).all ag.jg=true:=rfl
def WO(n:mU):(iH n).all ag.plainCell=true:=rfl
def WN(n:pv):(mN n).all ag.plainCell=true:=rfl
def SX(n:pv):(mN n).all ag.jg=true:=rfl
def takeN(s:iT)(ar:Int):iT×Int×Int :=
 if !(find s.now.ae ar).isSome then (s,0,70)
 else if (bm s.now.ae ar).kind != 2 then (s,0,73)
 else if decide ((s.dW.length:Int)>=16)||decide (s.next>=1099511627776) then (s,0,76)
 else (⟨s.now,s.tick,s.since,s.eS,s.dW++[⟨s.next,ar,s.tick⟩],nz (s.next+1)⟩,s.next,0)
def aqF(s:iT)(ar:Int)(hz:Small s.now)(hs:rV s.now)(hk:s.dW.length<=16):aq bZ 163 [qR s,aF ar] []=some (.tuple [qR (takeN s ar).1,aF (takeN s ar).2.1,aF (takeN s ar).2.2],[]):=by
 refine aB ?_;have q1:=Fc s.now ar hz hs;have p1:=fun M=>Ey kS (f:=229) (sz:=3) (bytes:=24) rfl (fun _=>rfl) aJ (l:=s.dW) aJ M
 have r1:ct (s.dW.length+1) 24=True:=qM;unfold takeN;simp only[aL] at q1;simp only[Sf,aiz,qR,bM,q1,aL,EW,seval]
 repeat' ((first|apply bA|apply bV|apply dP)<;>intro hb<;>simp only[hb,EW,aiz,q1,p1,r1,or_false,aL,seval])
 all_goals clear q1 p1
 all_goals first|rfl|(simp_all only[qB,↓reduceIte,reduceCtorEq,av]; done)|(simp_all only[qB,↓reduceIte,reduceCtorEq,av,bM]; rfl)|(simp_all only[qB,↓reduceIte,reduceCtorEq,av,bM,kh,aW,aH,aQ]; rfl)
def asI(s:iT)(ar:Int)(hz:Small s.now)(hs:rV s.now)(hk:s.dW.length<=16)(M:aC):aU (aq bZ) 163 [.agg (bM s),aF ar] M=some (.tuple [.agg (bM (takeN s ar).1),aF (takeN s ar).2.1,aF (takeN s ar).2.2],M) :=
 cO (aqF s ar hz hs hk) M
def arx(x:mU)(id:Int):aq bZ 233 [kS x,cA 0] [cC [aF id]]=some (.bool (rJ id x),[cC [aF id]]):=by
 refine aB ?_;simp only[rJ,adm,ao6,kS,iH,EW,seval]
def arz(p:pv)(tk:List mU)(hk:tk.length<=100000):aq bZ 235 [lY p,cA 0] [cC [kh tk]]=some (.bool (vO tk p),[cC [kh tk]]):=by
 refine aB ?_;unfold vO;have q:=amN tk p.km p.BM hk;simp only[adn,ao7,lY,mN,aL,q,EW,seval]
def aay{xs:List mU}{id:Int}  (hn:xs.length<=100000){k:List K}{R:List mU->Option (ag×aC)}
  (hx:∀(out:List mU) e,kr (aq bZ) [.tmp 4] 1 k ⟨.exit 0,(1,.func 233 [cA 0])::(5,.slice (.own 1) (out.map kS))::e,[cC [aF id],.tick 3 out.length]⟩=R out) :
  ∀(l pre out:List mU),xs=pre++l->out.length<=pre.length->eX (aq bZ) [.tmp 4] 1 k (.loop [1,5,8,9,10] Z9) [(1,.func 233 [cA 0]),(5,.slice (.own 1) (out.map kS)),(8,gG (xs.map kS)),(9,aF xs.length),(10,aF pre.length)] [cC [aF id],.tick 3 out.length] =
   R (out++l.filter (rJ id)):=by
 intro l;induction l with
 |nil =>
  intro pre out h ho;rw[bG];simp only[Yd,jL h,kL,EW,seval];exact hx _ _
 |cons n rest ih =>
  intro pre out h ho;rw[bG];have dQ:pre.length+1<=100000:=by rw[h] at hn; simp at hn; omega
  have hw:=zy pre n;have hi1:=ih (pre++[n]) out (by rw[h]; simp) gm
  have hi2:=ih (pre++[n]) (out++[n]) (by rw[h]; simp) gm
  simp only[aA,aw,az,aK,aW,aH,aQ] at hi1 hi2;have r1:ct (out.length+1) 24=True:=qM
  have q1:∀M,nth M 0=some (cC [aF id])->aU (aq bZ) 233 [.agg (iH n),cA 0] M=some (.bool ((rJ id) n),M) :=
   fun M hM=>uM (f:=233) (p:=0) (vs:=[.agg (iH n)]) hM (arx n id) rfl rfl rfl rfl rfl rfl rfl rfl rfl
  rw[fq];generalize (rJ id) n=e at q1 ⊢;cases e<;>simp only[Yd,iQ h,gU h,q1,hw,r1,SY,SX,WO,WN,aI,af,aD,EW,seval]
  ·exact hi1
  ·simpa[kS] using hi2
def arw(xs:List mU)(id:Int)  (hn:xs.length<=100000):aq bZ 232 [gG (xs.map kS),.func 233 [cA 0]] [cC [aF id]]=some (gG ((xs.filter (rJ id)).map kS),[cC [aF id]]):=by
 refine aB ?_;simp only[Sr,Yd,EW,seval];exact aay  hn (R:=fun out=>some (gG (out.map kS),[cC [aF id]])) (fun out e=>by simp only[Yd,EW,seval]) xs [] [] rfl (au _)
def aaz{xs:List pv}{tk:List mU}(hk:tk.length<=100000)(hn:xs.length<=100000){k:List K}{R:List pv->Option (ag×aC)}
  (hx:∀(out:List pv) e,kr (aq bZ) [.tmp 4] 1 k ⟨.exit 0,(1,.func 235 [cA 0])::(5,.slice (.own 1) (out.map lY))::e,[cC [kh tk],.tick 8 out.length]⟩=R out) :
  ∀(l pre out:List pv),xs=pre++l->out.length<=pre.length->eX (aq bZ) [.tmp 4] 1 k (.loop [1,5,8,9,10] aaa) [(1,.func 235 [cA 0]),(5,.slice (.own 1) (out.map lY)),(8,gG (xs.map lY)),(9,aF xs.length),(10,aF pre.length)] [cC [kh tk],.tick 8 out.length] =
   R (out++l.filter (vO tk)):=by
 intro l;induction l with
 |nil =>
  intro pre out h ho;rw[bG];simp only[Ye,jL h,kL,EW,seval];exact hx _ _
 |cons n rest ih =>
  intro pre out h ho;rw[bG];have dQ:pre.length+1<=100000:=by rw[h] at hn; simp at hn; omega
  have hw:=zy pre n;have hi1:=ih (pre++[n]) out (by rw[h]; simp) gm
  have hi2:=ih (pre++[n]) (out++[n]) (by rw[h]; simp) gm
  simp only[aA,aw,az,aK,aW,aH,aQ] at hi1 hi2;have r1:ct (out.length+1) 96=True:=qM
  have q1:∀M,nth M 0=some (cC [kh tk])->aU (aq bZ) 235 [.agg (mN n),cA 0] M=some (.bool ((vO tk) n),M) :=
   fun M hM=>uM (f:=235) (p:=0) (vs:=[.agg (mN n)]) hM (arz n tk hk) rfl rfl rfl rfl rfl rfl rfl rfl rfl
  rw[fq];generalize (vO tk) n=e at q1 ⊢;cases e<;>simp only[Ye,iQ h,gU h,q1,hw,r1,SY,SX,WO,WN,aI,af,aD,EW,seval]
  ·exact hi1
  ·simpa[lY] using hi2
def ary(xs:List pv)(tk:List mU)(hk:tk.length<=100000)(hn:xs.length<=100000):aq bZ 234 [gG (xs.map lY),.func 235 [cA 0]] [cC [kh tk]]=some (gG ((xs.filter (vO tk)).map lY),[cC [kh tk]]):=by
 refine aB ?_;simp only[Ss,Ye,EW,seval];exact aaz hk hn (R:=fun out=>some (gG (out.map lY),[cC [kh tk]])) (fun out e=>by simp only[Ye,EW,seval]) xs [] [] rfl (au _)
def rC(s:iT)(id:Int):iT×Int :=
 if ((s.dW.filter (rJ id)).length:Int)==(s.dW.length:Int) then (s,100)
 else (⟨s.now,s.tick,s.since,s.eS.filter (vO (s.dW.filter (rJ id))),s.dW.filter (rJ id),s.next⟩,0)
def aqI(s:iT)(id:Int)(hk:s.dW.length<=100000)(hp:s.eS.length<=100000):aq bZ 168 [qR s,aF id] []=some (.tuple [qR (rC s id).1,aF (rC s id).2],[]):=by
 refine aB ?_;have hf:(s.dW.filter (rJ id)).length<=100000:=aY (bU _ _) hk
 have q1:∀M,nth M 1=some (cC [aF id])->aU (aq bZ) 232 [kh s.dW,.func 233 [cA 1]] M=some (kh (s.dW.filter (rJ id)),M):=by
  intro M hM;exact zG hM (arw s.dW id hk) rfl rfl rfl
 unfold rC;generalize (s.dW.filter (rJ id))=tk at q1 hf ⊢
 have q2:∀M,nth M 3=some (cC [kh tk])->aU (aq bZ) 234 [sd s.eS,.func 235 [cA 3]] M=some (sd (s.eS.filter (vO tk)),M):=by
  intro M hM;exact zG hM (ary s.eS tk hf hp) rfl rfl rfl
 simp only[acJ,aiB,qR,bM,q1,EW,seval]
 repeat' ((first|apply bA|apply bV|apply dP)<;>intro hb<;>simp only[hb,EW,aiB,q1,q2,seval])
 all_goals clear q1 q2
 all_goals first|rfl|(simp_all only[qB,↓reduceIte,reduceCtorEq,av]; done)|(simp_all only[qB,↓reduceIte,reduceCtorEq,av,bM]; rfl)
def asK(s:iT)(id:Int)(hk:s.dW.length<=100000)(hp:s.eS.length<=100000)(M:aC):aU (aq bZ) 168 [.agg (bM s),aF id] M=some (.tuple [.agg (bM (rC s id).1),aF (rC s id).2],M) :=
 cO (aqI s id hk hp) M
def c38(t:Tree)(ht:t.ae.length<=100000):aq bZ 38 [br t] []=some (qR ⟨t,0,List.replicate t.ae.length 0,[],[],1⟩,[]):=by
 refine aB ?_;have r1:ct t.ae.length 8=True:=qM;simp only[alM,E38,br,aM,qR,bM,r1,ag.norm,uc,gY,EW,seval];rfl
end
abbrev eU:Unit->ag:=fun _ => .agg []
def flN(l:AM Node):(ph bL l).all ag.flat=true:=Ls _ (fun _=>rfl) l
def rnN(ρ:Nat->Nat)(l:AM Node):(ph bL l).map (ag.pq ρ)=ph bL l:=WZ _ _ (fun _=>rfl) l
def amk(l:AM Node):(ph bL l).flatMap ag.ids=[]:=SJ _ (fun _=>rfl) l
def bkN(B:Nat)(M:aC)(l:AM Node):List.map (ag.jW B M) (ph bL l)=ph bL l:=YF _ _ _ (fun _=>rfl) l
def flU(l:AM Unit):(ph eU l).all ag.flat=true:=Ls _ (fun _=>rfl) l
def rnU(ρ:Nat->Nat)(l:AM Unit):(ph eU l).map (ag.pq ρ)=ph eU l:=WZ _ _ (fun _=>rfl) l
def asl(l:AM Unit):(ph eU l).flatMap ag.ids=[]:=SJ _ (fun _=>rfl) l
def bkU(B:Nat)(M:aC)(l:AM Unit):List.map (ag.jW B M) (ph eU l)=ph eU l:=YF _ _ _ (fun _=>rfl) l
abbrev VS:=AM Unit×List Node
def j6(all:AM Node):Nat->Int->VS->Bool×VS
 |0,_,st=>(false,st)
 |f+1,ar,st =>
  if (eZ st.1 ar).isSome=true then (true,st) else
  if !(eZ all ar).isSome then (false,(kR st.1 ar (),st.2)) else
  ((eZ all ar).getD Node.zero).bc.foldl (fun w e=>((j6 all f e.ar w.2).1&&w.1,(j6 all f e.ar w.2).2)) (true,(kR st.1 ar (),st.2++[(eZ all ar).getD Node.zero]))
def missing(all:AM Node)(met:AM Unit):Nat:=(all.filter fun p=>(eZ met p.1).isNone).length
def sL(all:AM Node)(met:AM Unit)(ar:Int):missing all (kR met ar ())<=missing all met:=by
 unfold missing;simp only[jy];induction all with
 |nil=>simp
 |cons p r ih =>
  simp only[fq]
  by_cases h:p.1=ar
  ·simp only[h,aI,Option.isNone_some,af,aD];split
   ·simp only[aw]; omega
   ·exact ih
  ·simp only[h,aD];split
   ·simp only[aw]; omega
   ·exact ih
def Ef{all:AM Node}{met:AM Unit}{ar:Int}{n:Node}(h:eZ all ar=some n)(h0:eZ met ar=none):missing all (kR met ar ())<missing all met:=by
 have hm:=xA _ _ _ h;clear h;unfold missing;induction all with
 |nil=>cases hm
 |cons p r ih =>
  simp only[fq,jy]
  by_cases hp:p.1=ar
  ·have h1:=sL r met ar;unfold missing at h1;simp only[jy] at h1;simp only[hp,aI,Option.isNone_some,af,aD,h0,Option.isNone_none];simp only[aw];omega
  ·rcases bJ.1 hm with h2|h2
   ·exact absurd (by rw[<-h2]) hp
   ·have:=ih h2;simp only[jy] at this;simp only[hp,aD];split
    ·simp only[aw]; omega
    ·exact this
structure vo(all:AM Node)(st st':VS):Prop where
 len:st'.2.length+missing all st'.1<=st.2.length+missing all st.1
 aho:missing all st'.1<=missing all st.1
 met:∀j,(eZ st.1 j).isSome=true->(eZ st'.1 j).isSome=true
 nodup:(st.2.map Node.ar).Nodup->(∀n,n∈st.2->(eZ st.1 n.ar).isSome=true)->(st'.2.map Node.ar).Nodup/\∀n,n∈st'.2->(eZ st'.1 n.ar).isSome=true
def vo.refl(all:AM Node)(st:VS):vo all st st:=⟨au _,au _,fun _ h=>h,fun h1 h2=>⟨h1,h2⟩⟩
theorem vo.trans{all:AM Node}{a b c:VS}(h:vo all a b)(k:vo all b c):vo all a c :=
 ⟨aY k.len h.len,aY k.aho h.aho,fun j hj=>k.met j (h.met j hj),fun h1 h2=>let ⟨g1,g2⟩:=h.nodup h1 h2; k.nodup g1 g2⟩
def Own(all:AM Node):Prop:=∀k n,eZ all k=some n->n.ar=k
def xQ{all:AM Node}(ho:Own all):∀(f:Nat)(ar:Int)(st:VS),vo all st (j6 all f ar st).2:=by
 intro f;induction f with
 |zero=>intro ar st; exact vo.refl _ _
 |succ f ih =>
  intro ar st;rw[j6];split
  ·exact vo.refl _ _
  ·rename_i h0;have h0:eZ st.1 ar=none:=by simpa using h0
   have hput:vo all st (kR st.1 ar (),st.2):=by
    refine⟨?_,sL _ _ _,fun j hj=>?_,fun h1 h2=>⟨h1,fun n hn=>?_⟩⟩
    ·have:=sL all st.1 ar;simp only;omega
    ·simp only[jy]; split
     ·rfl
     ·exact hj
    ·simp only[jy]; split
     ·rfl
     ·exact h2 n hn
   split
   ·exact hput
   ·rename_i h1;cases hn:eZ all ar with
    |none=>simp[hn] at h1
    |some n =>
     simp only[bz]
     have hstep:vo all st (kR st.1 ar (),st.2++[n]):=by
      have cJ:=Ef hn h0;refine⟨gm,sL _ _ _,hput.met,fun g1 g2=>?_⟩
      have hni:=ho _ _ hn;refine⟨?_,fun m hm=>?_⟩
      ·rw[aW,lg];refine⟨g1,dx,?_⟩;intro a ha b hb;simp only[aH,aQ,bT] at hb;subst hb;intro hab;obtain⟨m,hm,rfl⟩:=eL.1 ha;have:=g2 m hm;rw[hab,hni,h0] at this;cases this
      ·rcases bq.1 hm with h|h
       ·exact(hput.nodup g1 g2).2 m h
       ·simp only[bT] at h;subst h;simp only[jy,hni,aI,bW]
     have hfold:∀(l:List gP)(w:Bool×VS),vo all w.2 (l.foldl (fun w e=>((j6 all f e.ar w.2).1&&w.1,(j6 all f e.ar w.2).2)) w).2:=by
      intro l;induction l with
      |nil=>intro w; exact vo.refl _ _
      |cons e r ihr =>
       intro w;rw[eM];exact(ih e.ar w.2).trans (ihr ((j6 all f e.ar w.2).1&&w.1,(j6 all f e.ar w.2).2))
     exact hstep.trans (hfold n.bc (true,(kR st.1 ar (),st.2++[n])))
def uZ:ag := .func 271 [.ptr 0 0,.ptr 1 0,.ptr 2 0,.ptr 3 0]
def ny(all:AM Node)(st:VS):aC:=[.cells [.iC 4],.cells [.iC 5],.cells [.cD 6 st.2.length 6 0 st.2.length],.cells [uZ],.map (B2 st.1) (ph eU st.1),.map (B2 all) (ph bL all),.arr 6 st.2.length (st.2.map bL)]
def NU(all:AM Node)(st:VS):(ny all st).map (cL.pq (iB [0,1,2,3,4,5,6]))=ny all st/\(ny all st).map (cL.pq (wD [0,1,2,3,4,5,6]))=ny all st:=by
 constructor
 ·simp only[ny,aH,aQ,cL.pq,rnN,rnU]; rfl
 ·simp only[ny,aH,aQ,cL.pq,rnN,rnU]; rfl
def anT(all:AM Node)(st:VS)(L:aC):jZ (ny all st++L) (iB [0,1,2,3,4,5,6]) [0,1,2,3,4,5,6]=some (ny all st):=by
 have h:=(NU all st).1;simp only[ny,aH,aQ] at h;injection h with h0 h; injection h with h1 h; injection h with h2 h; injection h with h3 h; injection h with h4 h; injection h with h5 h; injection h with h6 h
 simp only[ny,aG,aP,jZ,nth,h0,h1,h2,h3,h4,h5,h6];simp only[cL.flat,flN,flU,aI];rfl
def asn(all:AM Node)(st:VS)(L:aC):qz (ny all st++L) [0,1,2,3]=[4,5,6,0,1,2,3]/\qz (ny all st++L) [0,1,2,3,4,5,6]=[4,5,6,0,1,2,3]:=by
 refine⟨rfl,?_⟩
 show[4,5,6,0,1,2,3]++((ph eU st.1).flatMap ag.ids++((ph bL all).flatMap ag.ids++([]++[])))=_
 rw[asl,amk]; rfl
def WX(all:AM Node)(st:VS)(L:aC):reach (ny all st++L) [0,1,2,3]=[0,1,2,3,4,5,6]/\kx (ny all st++L) [0,1,2,3,4,5,6]=[0,1,2,3,4,5,6]:=by
 obtain⟨h1,h2⟩:=asn all st L;have e0:kb [] [0,1,2,3]=[0,1,2,3]:=rfl;have e1:kb [0,1,2,3] [4,5,6,0,1,2,3]=[0,1,2,3,4,5,6]:=rfl;have e2:kb [0,1,2,3,4,5,6] [4,5,6,0,1,2,3]=[0,1,2,3,4,5,6]:=rfl;simp only[reach,kx,e0,h1,e1,h2,e2,jU]
def aih(all:AM Node)(st st':VS)(L:aC):mb [0,1,2,3,4,5,6] (ny all st++L) [0,1,2,3,4,5,6] (ny all st')=ny all st'++L:=by
 have h:=(NU all st').2;simp only[ny,aH,aQ] at h;injection h with h0 h; injection h with h1 h; injection h with h2 h; injection h with h3 h; injection h with h4 h; injection h with h5 h; injection h with h6 h
 simp only[ny,aG,aP,mb,h0,h1,h2,h3,h4,h5,h6,iR]
def acb(all:AM Node)(st:VS):(ny all st).all cL.flat=true:=by
 simp only[ny,kK,cL.flat,flN,flU]; rfl
def ae1{all:AM Node}{ar:Int}{st st':VS}{b:Bool}{L:aC}(h:aq bZ 271 [aF ar,cA 0,cA 1,cA 2,cA 3] (ny all st)=some (.bool b,ny all st')) :
  aU (aq bZ) 271 [aF ar,cA 0,cA 1,cA 2,cA 3] (ny all st++L)=some (.bool b,ny all st'++L) :=
 lj (ids:=[0,1,2,3,4,5,6]) rfl (WX all st L).1 (anT all st L) (WX all st L).2 rfl h rfl rfl (acb all st') rfl (aih all st st' L)
section
attribute [local irreducible] eX fJ lu gK eb kr aq aU cq bI
def aaC{all:AM Node}{n:Node}{f:Nat}(ho:Own all){k:List K}{R:Bool×VS->Option (ag×aC)}(hn:n.bc.length<=100000)
  (ih:∀e,e∈n.bc->∀st,missing all st.1<f->st.2.length+missing all st.1<=200000->aq bZ 271 [aF e.ar,cA 0,cA 1,cA 2,cA 3] (ny all st)=some (.bool (j6 all f e.ar st).1,ny all (j6 all f e.ar st).2))
  (hx:∀w e,kr (aq bZ) [.tmp 6] 7 k ⟨.exit 0,(4,cA 3)::(11,.bool w.1)::e,ny all w.2++[cC [],cC (aL n)]⟩=R w) :
  ∀(l pre:List gP)(w:Bool×VS),n.bc=pre++l->missing all w.2.1<f->w.2.2.length+missing all w.2.1<=200000->eX (aq bZ) [.tmp 6] 7 k (.loop [4,11,37,38,39] aad) [(4,cA 3),(11,.bool w.1),(37,jc n.bc),(38,aF n.bc.length),(39,aF pre.length)] (ny all w.2++[cC [],cC (aL n)]) =
   R (l.foldl (fun w e=>((j6 all f e.ar w.2).1&&w.1,(j6 all f e.ar w.2).2)) w):=by
 intro l;induction l with
 |nil =>
  intro pre w h _ _;rw[bG];simp only[ny,Om,jL h,ng,EW,seval] at hx ⊢;exact hx _ _
 |cons x rest ihl =>
  intro pre w h hm hl;rw[bG];have dQ:pre.length+1<=100000:=by rw[h] at hn; simp at hn; omega
  have hw:=zy pre x;rw[eM];have hg:=xQ ho f x.ar w.2;have q:=ae1 (L:=[cC [],cC (aL n),cC (gk x)]) (ih x (by rw[h]; simp) w.2 hm hl)
  have hi1:=ihl (pre++[x]) ((j6 all f x.ar w.2).1&&w.1,(j6 all f x.ar w.2).2) (by rw[h]; simp) (by have:=hg.aho; simp only; omega) (by have:=hg.len; simp only; omega)
  generalize j6 all f x.ar w.2=v at q hi1 ⊢;clear hg ih;simp only[ny,uZ,aL,gk,aA,aw,az,aK,aG,aP] at hi1 q;obtain⟨b,st'⟩:=v;cases b<;>simp only[ny,uZ,Om,iQ h,gU h,aL,gk,q,hw,bkN,bkU,cN,cI,EW,seval] at hi1 ⊢
  ·exact hi1
  ·exact hi1
def Nw(z x:ag):po z true (some x) = .tuple [x,.bool true]:=rfl
def VE(z:ag):po z true none = .tuple [z,.bool false]:=rfl
def arX{all:AM Node}(ho:Own all)(hb:∀k n,eZ all k=some n->n.bc.length<=100000):∀(f:Nat)(ar:Int)(st:VS),missing all st.1<f->st.2.length+missing all st.1<=200000 ->
  aq bZ 271 [aF ar,cA 0,cA 1,cA 2,cA 3] (ny all st)=some (.bool (j6 all f ar st).1,ny all (j6 all f ar st).2):=by
 intro f;induction f with
 |zero=>intro ar st h; omega
 |succ f ih =>
  intro ar st hm hl;refine aB ?_;rw[j6];have p1:=sK eU st.1 ar ();cases h0:eZ st.1 ar with
  |some u =>
   simp only[bW,aI];simp only[ny,uZ,Na,Om,o9,Nw,eU,mapOf.eq_1,h0,bkN,bkU,EW,seval]
  |none =>
   simp only[cY,af,aD];have hp:=sL all st.1 ar;cases hn:eZ all ar with
   |none =>
    simp only[ny,uZ,Na,Om,o9,Nw,VE,mapOf.eq_1,h0,hn,p1,oO,cY,aI,bkN,bkU,EW,seval]
   |some n =>
    have cJ:=Ef hn h0;have r1:ct (st.2.length+1) 80=True:=qM;have hl1:=aaC ho (hb ar n hn) (f:=f) (k:=[.block 0,.seq ahR]) (R:=fun w=>some (.bool w.1,ny all w.2)) (fun e he st h1 h2=>ih e.ar st h1 h2) (fun w e=>by simp only[ny,uZ,Om,aL,bkN,bkU,EW,seval]) n.bc [] (true,(kR st.1 ar (),st.2++[n])) rfl (by simp only; omega) gm
    clear ih;simp only[ny,uZ,aL,az,aG,aP,aA,aw,aK,aW,aH,aQ,bL] at hl1;simp only[ny,uZ,Na,Om,o9,Nw,VE,mapOf.eq_1,h0,hn,p1,r1,aL,bL,oO,bW,bz,af,aD,ra,EW,seval];exact hl1
end
section
def Hi(x:Node):List Node->List Node
 | []=>[x]
 |y::r=>if x.ar<y.ar then x::y::r else y::Hi x r
def Cr:List Node->List Node
 | []=>[]
 |x::r=>Hi x (Cr r)
def att(n:Node):uk 0 (bL n)=n.ar:=rfl
def F3(x:Node):∀l:List Node,DY 0 (bL x) (l.map bL)=(Hi x l).map bL
 | []=>rfl
 |y::r=>by
  simp only[aH,DY,Hi,att]
  by_cases h:x.ar<y.ar
  ·simp only[h,aI,aH]
  ·simp only[h,aD,aH,F3 x r]
def EI:∀l:List Node,rX 0 (l.map bL)=(Cr l).map bL
 | []=>rfl
 |x::r=>by simp only[aH,rX,Cr,EI r,F3]
def nv(a:Int)(m:AM Node)(p:pv):AM Node:=if decide (p.km<=a)&&decide (a<p.BM) then kR m p.node.ar p.node else m
def si(a:Int):List Node->List Int->AM Node->AM Node
 |n::r,y::ys,m=>si a r ys (if decide (y<=a) then kR m n.ar n else m)
 |_,_,m=>m
def zC(s:iT)(a:Int):AM Node:=si a s.now.ae s.since (s.eS.foldl (nv a) [])
structure yw(m:AM Node):Prop where
 own:Own m
 bc:∀k n,eZ m k=some n->n.bc.length<=100000
def yw.put{m:AM Node}(h:yw m)(n:Node)(hn:n.bc.length<=100000):yw (kR m n.ar n) where
 own:=fun k x hx=>by
  rw[jy] at hx;split at hx
  ·rename_i e; injection hx with hx; rw[<-hx,e]
  ·exact h.own k x hx
 bc:=fun k x hx=>by
  rw[jy] at hx;split at hx
  ·injection hx with hx; rw[<-hx]; exact hn
  ·exact h.bc k x hx
def xF(a:Int):∀(l:List pv)(m:AM Node),yw m->(∀p,p∈l->p.node.bc.length<=100000)->yw (l.foldl (nv a) m)/\(l.foldl (nv a) m).length<=m.length+l.length
 | [],m,h,_=>⟨h,au _⟩
 |p::r,m,h,hp=>by
  rw[eM]
  have h1:yw (nv a m p)/\(nv a m p).length<=m.length+1:=by
   unfold nv;split
   ·exact⟨h.put _ (hp p dx),Eh _ _ _⟩
   ·exact⟨h,aJ⟩
  obtain⟨g1,g2⟩:=xF a r _ h1.1 (fun q hq=>hp q (by simp[hq]))
  exact⟨g1,by simp only[aw]; omega⟩
def Br(a:Int):∀(l:List Node)(y:List Int)(m:AM Node),yw m->(∀p,p∈l->p.bc.length<=100000)->yw (si a l y m)/\(si a l y m).length<=m.length+l.length
 | [],_,m,h,_=>by unfold si; exact⟨h,au _⟩
 |n::r,[],m,h,_=>by unfold si; exact⟨h,aJ⟩
 |n::r,y::ys,m,h,hp=>by
  rw[si]
  have h1:yw (if decide (y<=a) then kR m n.ar n else m)/\(if decide (y<=a) then kR m n.ar n else m).length<=m.length+1:=by
   split
   ·exact⟨h.put _ (hp n dx),Eh _ _ _⟩
   ·exact⟨h,aJ⟩
  obtain⟨g1,g2⟩:=Br a r ys _ h1.1 (fun q hq=>hp q (by simp[hq]))
  exact⟨g1,by simp only[aw]; omega⟩
def wk(m:AM Node)(met:AM Unit):missing m met<=m.length:=bU _ _
def xP(s:iT)(x:mU):Bool×VS:=j6 (zC s x.at') 200001 x.ar ([],[])
def DU(s:iT)(x:mU):List Node:=Cr (xP s x).2.2
attribute [local irreducible] eX fJ lu gK eb kr aq aU cq bI
def zV(s:iT)(x:mU)(m:AM Node):aC:=[.cells (bM s),.cells (iH x),.map (B2 m) (ph bL m),.cells [.iC 2]]
def VZ{s:iT}{x:mU}(hn:s.eS.length<=100000){k:List K}{fin:AM Node}{r:Option (ag×aC)}
  (hx:∀e,kr (aq bZ) [.tmp 4,.tmp 5] 0 k ⟨.exit 0,(2,cA 0)::(3,cA 1)::(6,cA 3)::e,zV s x fin⟩=r) :
  ∀(l pre:List pv)(m:AM Node),s.eS=pre++l->l.foldl (nv x.at') m=fin->eX (aq bZ) [.tmp 4,.tmp 5] 0 k (.loop [2,3,6,17,18,19] Z7) [(2,cA 0),(3,cA 1),(6,cA 3),(17,sd s.eS),(18,aF s.eS.length),(19,aF pre.length)] (zV s x m)=r:=by
 intro l;induction l with
 |nil =>
  intro pre m h hfin;rw[bG];rw[ng] at hfin;subst hfin;simp only[zV,GV,jL h,EW,seval] at hx ⊢;exact hx _
 |cons p rest ih =>
  intro pre m h hfin;rw[bG];have dQ:pre.length+1<=100000:=by rw[h] at hn; simp at hn; omega
  have hw:=zy pre p;rw[eM] at hfin;have hi1:=ih (pre++[p]) (nv x.at' m p) (by rw[h]; simp) hfin
  clear hfin;have hput:=sK bL m p.node.ar p.node;unfold nv at hi1;simp only[zV,bM,iH,bL,aL,aA,aw,az,aK] at hi1 hput;simp only[zV,GV,iQ h,gU h,bM,iH,mN,aL,EW,seval];cases h1:decide (p.km<=x.at')<;>cases h2:decide (x.at'<p.BM)<;>simp only[h1,h2,GV,hw,hput,mapOf.eq_1,dR,af,aI,aD,bkN,EW,seval] at hi1 ⊢
  all_goals exact hi1
def V0{s:iT}{x:mU}(hn:s.now.ae.length<=100000)(hl:s.since.length=s.now.ae.length){k:List K}{fin:AM Node}{r:Option (ag×aC)}
  (hx:∀e,kr (aq bZ) [.tmp 4,.tmp 5] 0 k ⟨.exit 2,(2,cA 0)::(3,cA 1)::(6,cA 3)::e,zV s x fin⟩=r) :
  ∀(l pre:List Node)(y ypre:List Int)(m:AM Node),s.now.ae=pre++l->s.since=ypre++y->ypre.length=pre.length->si x.at' l y m=fin->eX (aq bZ) [.tmp 4,.tmp 5] 0 k (.loop [2,3,6,44,45,46] Z8) [(2,cA 0),(3,cA 1),(6,cA 3),(44,ba s.now.ae),(45,aF s.now.ae.length),(46,aF pre.length)] (zV s x m)=r:=by
 intro l;induction l with
 |nil =>
  intro pre y ypre m h hy hyl hfin;rw[bG];have hg:si x.at' [] y m=m:=by unfold si; rfl
  rw[hg] at hfin;subst hfin;simp only[zV,GV,jL h,EW,seval] at hx ⊢;exact hx _
 |cons n rest ih =>
  intro pre y ypre m h hy hyl hfin;rw[bG];have dQ:pre.length+1<=100000:=by rw[h] at hn; simp at hn; omega
  have hw:=zy pre n;cases y with
  |nil=>have h1:=congrArg List.length h; have h2:=congrArg List.length hy; simp at h1 h2; omega
  |cons c y =>
   have hxa:s.since[pre.length]?=some c:=by rw[hy,<-hyl]; simp
   have hi1:=ih (pre++[n]) y (ypre++[c]) (if decide (c<=x.at') then kR m n.ar n else m) (by rw[h]; simp) (by rw[hy]; simp) (by simp[hyl]) (by rw[<-hfin,si])
   clear hfin;have hput:=sK bL m n.ar n;simp only[zV,bM,iH,bL,aL,aA,aw,az,aK] at hi1 hput;simp only[zV,GV,iQ h,gU h,bM,iH,aL,hxa,EW,seval];cases h1:decide (c<=x.at')<;>simp only[h1,GV,hw,hput,mapOf.eq_1,af,aI,aD,bkN,EW,seval] at hi1 ⊢
   all_goals exact hi1
def Fb(s:iT)(x:mU)(all:AM Node)(st:VS):aC:=[.cells (bM s),.cells (iH x),.map (B2 all) (ph bL all),.cells [.iC 2],.map (B2 st.1) (ph eU st.1),.cells [.iC 4],.arr 6 st.2.length (st.2.map bL),.cells [.cD 6 st.2.length 6 0 st.2.length],.cells [.func 271 [.ptr 5 0,.ptr 3 0,.ptr 7 0,.ptr 8 0]]]
end
section
def G9{α:Type}:B2 ([]:AM α)=[]:=rfl
def Ha{α:Type}(enc:α->ag):ph enc ([]:AM α)=[]:=rfl
def ak8{s:iT}{x:mU}{all:AM Node}{ar:Int}{st':VS}{b:Bool}(h:aq bZ 271 [aF ar,cA 0,cA 1,cA 2,cA 3] (ny all ([],[]))=some (.bool b,ny all st')) :
  aU (aq bZ) 271 [aF ar,cA 5,cA 3,cA 7,cA 8] (Fb s x all ([],[]))=some (.bool b,Fb s x all st'):=by
 have i1:qz (Fb s x all ([],[])) [5,3,7,8]=[4,2,6,5,3,7,8]:=rfl
 have i2:qz (Fb s x all ([],[])) [5,3,7,8,4,2,6]=[4,2,6,5,3,7,8]:=by
  show[4,2,6,5,3,7,8]++([]++((ph bL all).flatMap ag.ids++([]++[])))=_
  rw[amk]; rfl
 have e0:kb [] [5,3,7,8]=[5,3,7,8]:=rfl;have e1:kb [5,3,7,8] [4,2,6,5,3,7,8]=[5,3,7,8,4,2,6]:=rfl;have e2:kb [5,3,7,8,4,2,6] [4,2,6,5,3,7,8]=[5,3,7,8,4,2,6]:=rfl
 have hr:reach (Fb s x all ([],[])) [5,3,7,8]=[5,3,7,8,4,2,6]/\kx (Fb s x all ([],[])) [5,3,7,8,4,2,6]=[5,3,7,8,4,2,6]:=by
  simp only[reach,kx,e0,i1,e1,i2,e2,jU]
 have hp:jZ (Fb s x all ([],[])) (iB [5,3,7,8,4,2,6]) [5,3,7,8,4,2,6]=some (ny all ([],[])):=by
  simp only[Fb,jZ,nth,cL.flat,flN,flU,bO,aI,cL.pq,rnN,rnU];rfl
 refine lj (ids:=[5,3,7,8,4,2,6]) rfl hr.1 hp hr.2 rfl h rfl rfl (acb all st') rfl ?_;simp only[ny,Fb,mb,cL.pq,rnN,rnU,iR];rfl
def anR(n:Nat)(xs:List ag)(b0 b1 b2 b3 b4 b5 b7 b8:cL):jZ [b0,b1,b2,b3,b4,b5,.arr 6 n xs,b7,b8] (iB [6]) [6]=some [.arr 6 n xs]:=rfl
def Qd{l:List Node}(hl:l.length<=1000000)(hn:(l.map Node.ar).Nodup):aq bZ 272 [.cD 0 l.length 6 0 l.length,.func 273 []] [.arr 6 l.length (l.map bL)]=some (.tuple [],[.arr 6 l.length ((Cr l).map bL)]):=by
 refine fg (g:=wL 6 0 273) rfl ?_;unfold wL;simp only[nth];have ht:(l.map bL).take l.length=l.map bL:=bB dx;have hd:(l.map bL).drop l.length=[]:=jn dx;rw[ht,hd,EI,dg];rw[fi]
 ·rfl
 ·refine⟨trivial,trivial,trivial,dx,trivial,aJ,?_,?_⟩
  ·intro x hx;obtain⟨n,_,rfl⟩:=eL.1 hx;rfl
  ·rw[gJ];exact hn
attribute [local irreducible] eX fJ lu gK eb kr aq aU cq bI
def Jg(x:Node):∀l,(Hi x l).length=l.length+1
 | []=>rfl
 |y::r=>by simp only[Hi]; split<;>simp[Jg x r]
theorem BE:∀l,(Cr l).length=l.length
 | []=>rfl
 |x::r=>by simp[Cr,Jg,BE r]
def arv(s:iT)(x:mU)(hp:s.eS.length<=100000)(hpe:∀p,p∈s.eS->p.node.bc.length<=100000)(hz:Sz 200 s.now)(hl:s.since.length=s.now.ae.length) :
  aq bZ 230 [qR s,kS x] []=some (.tuple [ba (DU s x),.bool (xP s x).1],[]):=by
 refine aB ?_;obtain⟨g1,g2⟩:=xF x.at' s.eS [] ⟨fun k n h=>(by cases h),fun k n h=>(by cases h)⟩ hpe
 obtain⟨g3,g4⟩:=Br x.at' s.now.ae s.since (s.eS.foldl (nv x.at') []) g1 (fun n hn=>by have:=hz.bc n hn; omega)
 have hall:(zC s x.at').length<=100200:=by have:=hz.ae; simp at g2; unfold zC; omega
 have hv:=arX (all:=zC s x.at') g3.own g3.bc 200001 x.ar ([],[]) (by have:=wk (zC s x.at') []; simp only; omega) (by have:=wk (zC s x.at') []; simp only[az]; omega)
 have hg:=xQ (all:=zC s x.at') g3.own 200001 x.ar ([],[]);have hnd:=(hg.nodup dx dx).1;have dQ:(xP s x).2.2.length<=100200:=by have:=hg.len; have h2:=wk (zC s x.at') []; simp only[az] at this; unfold xP; omega
 have q:=ak8 (s:=s) (x:=x) hv;have hs:=Qd (l:=(xP s x).2.2) aJ hnd
 have q2:∀b0 b1 b2 b3 b4 b5 b7 b8,aU (aq bZ) 272 [.cD 6 (xP s x).2.2.length 6 0 (xP s x).2.2.length,.func 273 []] [b0,b1,b2,b3,b4,b5,.arr 6 (xP s x).2.2.length ((xP s x).2.2.map bL),b7,b8] =
   some (.tuple [],[b0,b1,b2,b3,b4,b5,.arr 6 (xP s x).2.2.length ((DU s x).map bL),b7,b8]):=fun b0 b1 b2 b3 b4 b5 b7 b8 =>
  lj (ids:=[6]) rfl rfl (anR _ _ ..) rfl rfl hs rfl rfl rfl rfl rfl
 have ht:List.take (xP s x).2.2.length ((DU s x).map bL)=(DU s x).map bL:=bB (by simp[DU,BE])
 have l2:=V0 (s:=s) (x:=x) (by have:=hz.ae; omega) hl (fin:=zC s x.at') (r:=some (.tuple [ba (DU s x),.bool (xP s x).1],[])) (k:=[.block 2,.seq abl]) (fun e=>by
  clear g1 g2 g3 g4 hv hg hnd hs;have hvv:j6 (zC s x.at') 200001 x.ar ([],[])=xP s x:=rfl;rw[hvv] at q;generalize xP s x=v at q q2 ht dQ ⊢;obtain⟨b,met,out⟩:=v;simp only[Fb,bM,iH,az,aQ,G9,Ha] at q q2 ht;simp only[zV,bM,iH,GV,q,q2,ht,EW,seval]) s.now.ae [] s.since [] (s.eS.foldl (nv x.at') []) rfl rfl rfl rfl
 have l1:=VZ (s:=s) (x:=x) hp (fin:=s.eS.foldl (nv x.at') []) (r:=some (.tuple [ba (DU s x),.bool (xP s x).1],[])) (k:=[.block 0,.seq abm]) (fun e=>by
  simp only[zV,bM,iH,az] at l2;simp only[zV,bM,iH,GV,EW,seval];exact l2) s.eS [] [] rfl rfl
 simp only[zV,bM,iH,az,G9,Ha] at l1;simp only[Sq,GV,qR,kS,bM,iH,EW,seval];exact l1
def as3(s:iT)(x:mU)(hp:s.eS.length<=100000)(hpe:∀p,p∈s.eS->p.node.bc.length<=100000)(hz:Sz 200 s.now)(hl:s.since.length=s.now.ae.length)(M:aC) :
  aU (aq bZ) 230 [.agg (bM s),.agg (iH x)] M=some (.tuple [ba (DU s x),.bool (xP s x).1],M):=cO (arv s x hp hpe hz hl) M
def vq(s:iT)(id:Int):Int×List Node×Int:=match s.dW.find? (fun x=>x.id==id) with
 |some x=>(x.ar,DU s x,0)
 |none=>(0,[],100)
def aaq{s:iT}{id:Int}(hk:s.dW.length<=100000)(hp:s.eS.length<=100000)(hpe:∀p,p∈s.eS->p.node.bc.length<=100000)(hz:Sz 200 s.now)(hl:s.since.length=s.now.ae.length) :
  ∀(l pre:List mU),s.dW=pre++l->eX (aq bZ) [.tmp 4,.tmp 5,.tmp 6] 0 [.block 0,.seq ahN] (.loop [1,2,12,13,14] ZT) [(1,aF id),(2,cA 0),(12,kh s.dW),(13,aF s.dW.length),(14,aF pre.length)] [cC (bM s)] =
   some (match l.find? (fun x=>x.id==id) with|some x => .tuple [aF x.ar,ba (DU s x),aF 0]|none => .tuple [aF 0,ba [],aF 100],[]):=by
 intro l;induction l with
 |nil =>
  intro pre h;rw[bG];simp only[X6,jL h,List.find?_nil,bM,EW,seval];rfl
 |cons x rest ih =>
  intro pre h;rw[bG];have dQ:pre.length+1<=100000:=by rw[h] at hk; simp at hk; omega
  have hw:=zy pre x;have hi1:=ih (pre++[x]) (by rw[h]; simp)
  have q:=as3 s x hp hpe hz hl;simp only[aA,aw,az,aK,bM,iH] at hi1 q;rw[List.find?_cons];simp only[X6,iQ h,gU h,bM,iH,EW,seval];cases he:x.id==id<;>simp only[X6,he,q,hw,EW,seval]
  exact hi1
def aqG(s:iT)(id:Int)(hk:s.dW.length<=100000)(hp:s.eS.length<=100000)(hpe:∀p,p∈s.eS->p.node.bc.length<=100000)(hz:Sz 200 s.now)(hl:s.since.length=s.now.ae.length) :
  aq bZ 164 [qR s,aF id] []=some (.tuple [aF (vq s id).1,ba (vq s id).2.1,aF (vq s id).2.2],[]):=by
 refine aB ?_;have hq:=aaq (id:=id) hk hp hpe hz hl s.dW [] rfl;simp only[bM,az] at hq;simp only[acG,X6,qR,bM,EW,seval];refine ir hq ?_;unfold vq;split<;>rfl
def asJ(s:iT)(id:Int)(hk:s.dW.length<=100000)(hp:s.eS.length<=100000)(hpe:∀p,p∈s.eS->p.node.bc.length<=100000)(hz:Sz 200 s.now)(hl:s.since.length=s.now.ae.length)(M:aC) :
  aU (aq bZ) 164 [.agg (bM s),aF id] M=some (.tuple [aF (vq s id).1,ba (vq s id).2.1,aF (vq s id).2.2],M):=cO (aqG s id hk hp hpe hz hl) M
end
noncomputable def xN:zA:=⟨fun f=>if f=188 then some Sl else code f,oX⟩
def abx:vp Tryz.prog xN:=by
 refine⟨fun f fn h=>?_,NM⟩
 simp only[xN] at h;split at h
 ·rename_i hf;cases h; subst hf;exact⟨_,_,func188,anx⟩
 ·exact ML f fn h
def ah4:nM Tryz.prog (aq xN):=qU fu abx
def Ke:∀n,wW (ka bZ n) (ka xN n)
 |0,f,a,M,x,h=>by rw[ka] at h ⊢; exact h
 |n+1,f,a,M,x,h=>by
  rw[ka] at h ⊢;have hp:xN.oX f=bZ.oX f:=rfl;rw[hp];split at h
  ·rename_i g hg; exact h
  ·rename_i hg;split at h
   ·cases h
   ·rename_i fn hfn
    have hc:xN.code f=some fn:=by
     simp only[xN];split
     ·rename_i hf; subst hf; cases hfn
     ·exact hfn
    rw[hc];split at h
    ·rename_i hl;simp only[aZ hl];obtain⟨o,ho,h⟩:=bo h;rw[jI (Ke n) _ ho,bO];exact h
    ·cases h
def abz{f:Nat}{a:List ag}{M:aC}{x:ag×aC}(h:aq bZ f a M=some x):aq xN f a M=some x:=by
 obtain⟨n,hn⟩:=uo h;exact pT (fun n x h=>tF xN n f a M x h) (Ke n f a M x hn)
def lW{f:Nat}{vs:List ag}{M:aC}{x:ag×aC}(h:aU (aq bZ) f vs M=some x):aU (aq xN) f vs M=some x:=by
 obtain⟨a,B,y,h1,h2⟩:=pQ h;exact h2 _ (abz h1)
def Ja(t:Tree)(q:dV):Bool := !(find t.ae q.ar).isSome
def C1(n:dV):(iX n).all ag.jg=true:=rfl
section
def ahL(z:Tree):jZ [cC (aM z)] (iB [0]) [0]=some [cC (aM z)]:=rfl
section
attribute [local irreducible] eX fJ lu gK eb kr aq aU cq bI
def aq2(q:dV)(t:Tree)(ht:Rt t):aq xN 190 [gF q,cA 0] [cC (aM t)]=some (.bool (Ja t q),[cC (aM t)]):=by
 refine aB ?_;have q1:=fun M=>lW (Fc t q.ar ht.small ht.lL M)
 unfold Ja;simp only[aL] at q1;simp only[acU,aoT,gF,iX,aM,q1,aL,b0T,C1,EW,seval]
def asS(q:dV)(t:Tree)(ht:Rt t)(p:Nat)(M:aC)(hM:nth M p=some (cC (aM t))):aU (aq xN) 190 [.agg (iX q),cA p] M=some (.bool (Ja t q),M) :=
 uM (f:=190) (p:=p) (vs:=[.agg (iX q)]) hM (aq2 q t ht) rfl rfl rfl rfl rfl rfl rfl rfl rfl
def nU(z:Tree)(l:List dV):List dV:=l.filter fun e => !Ja z e
def QB:dV:=⟨0,0,0⟩
abbrev anX(m:Nat):ag:=Dw 3 m
def aq1(xs:List dV)(z:Tree)(hz:Rt z)(hn:xs.length<=100000)(h0:xs≠[]):aq xN 188 [.cD 0 0 3 0 xs.length,.func 190 [cA 1]] [.arr 3 0 (xs.map gF),cC (aM z)] =
  some (anX (nU z xs).length,[.arr 3 0 ((nU z xs++List.replicate (xs.length-(nU z xs).length) QB).map gF),cC (aM z)]) :=
 adM (sz:=3) (z:=[aF 0,aF 0,aF 0]) (zc:=[aF 0,aF 0,aF 0]) (gi:=245) (e:=iX) (zx:=QB) (p:=Ja z) fu rfl fu rfl rfl hn (fun _=>rfl) rfl ml (fun _=>rfl) (fun _=>rfl) (fun _=>rfl) ⟨fun _ _=>rfl,rfl,fun _=>rfl,rfl⟩ (fun e _ _=>asS e z hz 1 _ rfl) h0
end
def ak4(z:Tree):aq xN 245 [gG [],.func 190 [cA 0]] [cC (aM z)]=some (aF (-1),[cC (aM z)]):=by
 refine aB ?_;simp only[adr,aiK,aM,b0T,C1,EW,seval];rw[bG];have h0:((0:Int)<((0:Nat):Int))=False:=dx;simp only[aiK,aM,h0,b0T,C1,EW,seval]
def akX(z:Tree):aq xN 188 [gG [],.func 190 [cA 0]] [cC (aM z)]=some (gG [],[cC (aM z)]):=by
 have h11:((-1:Int) == -1)=true:=rfl;have q:aU (aq xN) 245 [gG [],.func 190 [cA 0]] [cC (aM z)]=some (aF (-1),[cC (aM z)]):=lj (ids:=[0]) rfl rfl (ahL z) rfl rfl (ak4 z) rfl rfl rfl rfl rfl;refine aB ?_;simp only[aM] at q;simp only[Sl,aoS,aM,q,h11,b0T,C1,EW,seval]
end
noncomputable def Cj(args:List ag)(M:aC):Option (ag×aC):=bI (aq xN 188 args M) fun x=>cq (x.1.jo=false) (some (x.1.rq x.2,qm x.2 x.1.ids))
def K6{args:List ag}{M:aC}{x:ag×aC}(h:Cj args M=some x):dr Tryz.prog 188 args M x:=by
 obtain⟨y,h1,h2⟩:=bo h;obtain⟨hp,h2⟩:=dq h2;cases h2;exact FM (ah4 _ _ _ _ h1).2 hp
def P9(z:Tree):Cj [gG [],.func 190 [cA 0]] [cC (aM z)]=some (gG [],[cC (aM z)]):=by
 unfold Cj;rw[akX,bO];exact fi rfl
def Still(b:cL):Prop:=(∀B M,b.back B M=b)/\b.flat=true/\(∀ρ,b.pq ρ=b)
def WJ(xs:List dV)(z:Tree)(hz:Rt z)(hn:xs.length<=100000)(h0:xs≠[]):∃b,Still b/\Cj [.cD 0 0 3 0 xs.length,.func 190 [cA 1]] [.arr 3 0 (xs.map gF),cC (aM z)]=some (cR (nU z xs),[b,cC (aM z)]):=by
 have h:=aq1 xs z hz hn h0;unfold Cj;rw[h,bO];unfold anX Dw
 by_cases hl:(nU z xs).length=0
 ·have h1:nU z xs=[]:=dz.1 hl;refine⟨.arr 3 0 ((nU z xs++List.replicate (xs.length-(nU z xs).length) QB).map gF),⟨fun _ _=>rfl,rfl,fun _=>rfl⟩,?_⟩
  rw[aZ hl];refine(fi rfl).trans ?_;rw[h1];rfl
 ·refine⟨.tick 3 ((nU z xs++List.replicate (xs.length-(nU z xs).length) QB).map gF).length,⟨fun _ _=>rfl,rfl,fun _=>rfl⟩,?_⟩
  rw[aR hl];refine(fi rfl).trans ?_
  have ht:List.drop 0 (List.take (nU z xs).length ((nU z xs++List.replicate (xs.length-(nU z xs).length) QB).map gF))=(nU z xs).map gF:=by
   simp[fO]
  show some (ag.slice .sh (List.drop 0 (List.take (nU z xs).length ((nU z xs++List.replicate (xs.length-(nU z xs).length) QB).map gF))),_)=_
  rw[ht];rfl
noncomputable def mc(T:zA)(f0:Nat)(g:List ag->aC->Option (ag×aC)):zA:=⟨T.code,fun f=>if f=f0 then some g else T.oX f⟩
def p6{P:Program}{T:zA}(hT:vp P T){f0:Nat}{g:List ag->aC->Option (ag×aC)}(he:lG P f0=true)(hg:∀ {args:List ag} {M:aC} {x:ag×aC},g args M=some x->dr P f0 args M x):vp P (mc T f0 g):=by
 refine⟨hT.code,fun f g' h args M x hx=>?_⟩
 simp only[mc] at h;split at h
 ·rename_i hf;cases h; subst hf;exact⟨he,hg hx⟩
 ·exact hT.oX f g' h args M x hx
def AD{T:zA}{f0:Nat}{g:List ag->aC->Option (ag×aC)}(h1:T.code f0=none)(h2:T.oX f0=none):∀n,wW (ka T n) (ka (mc T f0 g) n)
 |0,f,a,M,x,h=>by
  by_cases hf:f=f0
  ·subst hf;rw[ka,h2] at h;cases h
  ·have hp:(mc T f0 g).oX f=T.oX f:=by simp[mc,hf]
   rw[ka] at h ⊢;rw[hp];exact h
 |n+1,f,a,M,x,h=>by
  by_cases hf:f=f0
  ·subst hf;rw[ka,h2,h1] at h;cases h
  ·have hp:(mc T f0 g).oX f=T.oX f:=by simp[mc,hf]
   rw[ka] at h ⊢;rw[hp];split at h
   ·rename_i g hg; exact h
   ·rename_i hg;have hc:(mc T f0 g).code f=T.code f:=rfl;rw[hc];split at h
    ·cases h
    ·rename_i fn hfn;split at h
     ·rename_i hl;simp only[aZ hl];obtain⟨o,ho,h⟩:=bo h;rw[jI (AD h1 h2 n) _ ho,bO];exact h
     ·cases h
def rb{T:zA}{f0:Nat}{g:List ag->aC->Option (ag×aC)}(h1:T.code f0=none)(h2:T.oX f0=none){f:Nat}{a:List ag}{M:aC}{x:ag×aC}(h:aq T f a M=some x):aq (mc T f0 g) f a M=some x:=by
 obtain⟨n,hn⟩:=uo h;exact pT (fun n x h=>tF _ n f a M x h) (AD h1 h2 n f a M x hn)
noncomputable def aoc:zA:=mc bZ 188 Cj
def aby:vp Tryz.prog aoc:=p6 ah7 fu (fun h=>K6 h)
noncomputable def gN:zA:=mc aoc 165 Ep
def N4:vp Tryz.prog gN:=p6 aby fu (fun h=>Ql h)
def Mn:nM Tryz.prog (aq gN):=qU fu N4
def N5{f:Nat}{a:List ag}{M:aC}{x:ag×aC}(h:aq bZ f a M=some x):aq gN f a M=some x:=rb rfl rfl (rb rfl rfl h)
def lS'{f:Nat}{a:List ag}{M:aC}{x:ag×aC}(h:aq bZ f a M=some x):aq gN f a M=some x:=N5 h
def lS{f:Nat}{vs:List ag}{M:aC}{x:ag×aC}(h:aU (aq bZ) f vs M=some x):aU (aq gN) f vs M=some x:=by
 obtain⟨a,B,y,h1,h2⟩:=pQ h;exact h2 _ (N5 h1)
def afL(s:Bytes)(hs:s.length<=100000)(M:aC):aU (aq gN) 165 [.str s] M=some (.tuple [dj (gH s).1,aF (gH s).2],M):=by
 have h:aq gN 165 [.str s] []=some (.tuple [dj (gH s).1,aF (gH s).2],[]):=by
  refine fg (g:=Ep) rfl ?_;unfold Ep;simp only[];rw[aZ ⟨trivial,hs⟩]
 exact cO h M
section
def qS{s:Bytes}(h:fW s=true):s.length<=32:=by
 unfold fW at h;simp only[bw,iq,jP,dC] at h;omega
def J9:∀(x:List (Bytes×Bool)) (n:Nat) (l:List Bytes),qL x n=some l->n<=12->(∀s,s∈l->fW s=true)/\l.length+n<=12
 | [],n,l,h,hn=>by
  simp only[qL,fZ] at h;subst h;exact⟨fun s hs=>by simp at hs,gm⟩
 |x::r,n,l,h,hn=>by
  rw[qL] at h;split at h
  ·cases h
  ·rename_i hb;cases hr:qL r (n+1) with
   |none=>rw[hr] at h; cases h
   |some k =>
    rw[hr] at h;simp only[dZ,fZ] at h;subst h;have hb':E3 x n=false:=by simpa using hb
    unfold E3 at hb';simp only[jP,Bool.not_eq_false',ke] at hb';obtain⟨g1,g2⟩:=J9 r (n+1) k hr aJ;refine⟨fun s hs=>?_,gm⟩
    rcases bJ.1 hs with h1|h1
    ·subst h1; exact hb'.1.2
    ·exact g1 s h1
def ym(s:Bytes):(∀x,x∈(gH s).1->fW x=true)/\(gH s).1.length<=12:=by
 unfold gH;split
 ·exact⟨fun s hs=>by simp at hs,dx⟩
 ·split
  ·exact⟨fun s hs=>by simp at hs,dx⟩
  ·exact⟨fun s hs=>by simp at hs,dx⟩
  ·rename_i l hl;obtain⟨g1,g2⟩:=J9 _ 0 _ hl aJ;exact⟨g1,aJ⟩
def EK:∀l:List Bytes,BH (l.map ag.str)=some l
 | []=>rfl
 |s::r=>by
  show bI (BH (r.map ag.str)) (fun l=>some (s::l))=_
  rw[EK r]; rfl
def D2(l:List Bytes)(h:∀x,x∈l->fW x=true):(Lib.join l [47]).length<=33*l.length:=by
 induction l with
 |nil=>simp[Lib.join]
 |cons a r ih =>
  have h1:=qS (h a dx);have h2:=ih (fun x hx=>h x (by simp[hx]))
  cases r with
  |nil=>simp[Lib.join]; omega
  |cons b r=>simp[Lib.join] at h2 ⊢; omega
def Jk(l:List Bytes):Bytes:=if (l.length:Int)==0 then [47] else [47]++Lib.join l [47]
def Pv(l:List Bytes)(h:∀x,x∈l->fW x=true)(hl:l.length<=12):(Jk l).length<=1000:=by
 unfold Jk;have:=D2 l h;split<;>simp<;>omega
def ath(l:List Bytes)(h:∀x,x∈l->fW x=true)(hl:l.length<=12)(M:aC):aU (aq bZ) 277 [dj l,.str [47]] M=some (.str (Lib.join l [47]),M):=by
 have hq:aq bZ 277 [dj l,.str [47]] []=some (.str (Lib.join l [47]),[]):=by
  refine fg (g:=JM) rfl ?_;unfold JM;simp only[];rw[EK,bO,aZ];have:=D2 l h;omega
 exact cO hq M
attribute [local irreducible] eX fJ lu gK eb kr aq aU cq bI
def arC(l:List Bytes)(h:∀x,x∈l->fW x=true)(hl:l.length<=12):aq bZ 238 [dj l] []=some (.str (Jk l),[]):=by
 refine aB ?_;have q:=ath l h hl;have hm:(IntKind.i64.max<((1+(Lib.join l [47]).length:Nat):Int))=False:=max_lt _ (by have:=D2 l h; omega)
 unfold Jk;simp only[ado,aiJ,q,EW,seval];cases h0:(l.length:Int)==0<;>simp only[aiJ,h0,af,aI,aD,q,hm,EW,seval]
def as4 l h hl:=cP (arC l h hl)
def um(s:Bytes):Bytes×Bytes×Int :=
 if (gH s).2 != 0||(((gH s).1.length:Int)==0) then ([],[],60)
 else ((gH s).1.getD ((gH s).1.length-1) [],Jk ((gH s).1.take ((gH s).1.length-1)),0)
def aqU(s:Bytes)(hs:s.length<=100000):aq gN 180 [.str s] []=some (.tuple [.str (um s).1,.str (um s).2.1,aF (um s).2.2],[]):=by
 refine aB ?_;have q:=afL s hs;obtain⟨h1,h2⟩:=ym s;unfold um;generalize gH s=l at q h1 h2 ⊢;obtain⟨l,e⟩:=l;simp only at h1 h2;have q2:=fun M=>lS (as4 (l.take (l.length-1)) (fun x hx=>h1 x (dS hx)) gm M)
 simp only[dj,eP] at q2;simp only[acQ,X9,q,EW,seval];cases he:e != 0
 ·cases h0:(l.length:Int)==0
  ·have hne:0<l.length:=by
    have:¬((l.length:Int)=0):=by simpa using h0
    omega
   have hw:IntKind.i64.wrap ((l.length:Int)-1)=((l.length-1:Nat):Int):=by rw[gA aJ aJ]; omega
   have hx:=ai (show l.length-1<l.length by omega)
   have hg:l.getD (l.length-1) []=l[l.length-1]:=by simp[List.getD,hx]
   have hle:((l.length-1:Nat):Int)<=(l.length:Int):=aJ;have hz:((0:Int)<=((l.length-1:Nat):Int))=True:=dx;simp only[X9,he,h0,hw,hx,q2,hg,hle,hz,fF,af,aD,EW,seval]
  ·simp only[X9,he,h0,er,aI,EW,seval]
 ·simp only[X9,he,dM,aI,EW,seval]
def asP s hs:=cP (aqU s hs)
def F9(s:Bytes)(_hs:s.length<=100000):(um s).1.length<=1000/\(um s).2.1.length<=1000:=by
 obtain⟨h1,h2⟩:=ym s;unfold um;split
 ·exact⟨dx,dx⟩
 ·refine⟨?_,Pv _ (fun x hx=>h1 x (dS hx)) gm⟩
  simp only[List.getD];cases hx:(gH s).1[(gH s).1.length-1]? with
  |none=>simp
  |some x=>have:=qS (h1 x (aE hx)); simp; omega
def BP(ae:List Node):List Bytes->Int->Int×Int
 | [],ar=>(ar,0)
 |s::r,ar=>if (fh ae ar s).2 != 0 then (0,(fh ae ar s).2) else BP ae r (fh ae ar s).1
def ku(t:Tree)(dL:Bytes):Int×Int:=if (gH dL).2 != 0 then (0,(gH dL).2) else BP t.ae (gH dL).1 1
def aat{t:Tree}(ht:Small t)(hr:rV t){xs:List Bytes}(hxs:∀x,x∈xs->x.length<=100000)(hn:xs.length<=100000) :
  ∀(l pre:List Bytes)(ar:Int),xs=pre++l->eX (aq gN) [.tmp 4,.tmp 5] 0 [.block 0,.seq ahP] (.loop [2,8,19,20,21] Z2) [(2,cA 0),(8,aF ar),(19,dj xs),(20,aF xs.length),(21,aF pre.length)] [cC (aM t)] =
   some (.tuple [aF (BP t.ae l ar).1,aF (BP t.ae l ar).2],[]):=by
 intro l;induction l with
 |nil =>
  intro pre ar h;rw[bG];simp only[Ku,jL h,aM,BP,EW,seval]
 |cons s rest ih =>
  intro pre ar h;rw[bG];have dQ:pre.length+1<=100000:=by rw[h] at hn; simp at hn; omega
  have hw:=zy pre s;have hi1:=ih (pre++[s]) (fh t.ae ar s).1 (by rw[h]; simp)
  have q:=fun M=>lS (Zi t.ae t.next t.ak ar s ht hr (hxs s (by rw[h]; simp)) trivial M)
  rw[BP];generalize fh t.ae ar s=v at q hi1 ⊢;simp only[aA,aw,az,aK,aM] at hi1;simp only[Ku,iQ h,gU h,aM,q,EW,seval];cases he:v.2 != 0
  ·simp only[Ku,he,hw,af,aD,EW,seval];exact hi1
  ·simp only[Ku,he,aI,EW,seval]
def aqS(t:Tree)(dL:Bytes)(ht:Small t)(hr:rV t)(hp:dL.length<=100000):aq gN 178 [br t,.str dL] []=some (.tuple [aF (ku t dL).1,aF (ku t dL).2],[]):=by
 refine aB ?_;have q:=afL dL hp;obtain⟨h1,h2⟩:=ym dL;have hl:=aat ht hr (xs:=(gH dL).1) (fun x hx=>by have:=qS (h1 x hx); omega) aJ (gH dL).1 [] 1 rfl
 unfold ku;generalize gH dL=v at q hl ⊢;simp only[aM,az] at hl;simp only[acO,Ku,br,aM,q,EW,seval];cases he:v.2 != 0
 ·simp only[Ku,he,af,aD,EW,seval];exact hl
 ·simp only[Ku,he,aI,EW,seval]
def amA(t:Tree)(dL:Bytes)(ht:Small t)(hr:rV t)(hp:dL.length<=100000)(M:aC):aU (aq gN) 178 [.agg [ba t.ae,aF t.next,aF t.ak],.str dL] M=some (.tuple [aF (ku t dL).1,aF (ku t dL).2],M) :=
 cO (aqS t dL ht hr hp) M
def gd(e:Int):ag := .nI (.iface 43 (.int .i64 e))
def apY(e:Int):aq gN 110 [aF e] []=some (if e != 0 then gd e else .tuple [],[]):=by
 refine aB ?_;simp only[ace,ad8,EW,seval];cases he:e != 0
 ·simp only[ad8,af,aD,EW,seval]
 ·simp only[ad8,aI,valOf,gd,EW,seval]
def o7(e:Int)(M:aC):aU (aq gN) 110 [aF e] M=some (if e != 0 then gd e else .tuple [],M) :=
 CR (apY e) rfl rfl (by split<;>rfl) rfl (by split<;>rfl) M
def c53(b:Bool)(e:Int)(he:(e != 0)=true):aq gN 53 [.bool b,aF e] []=some (if b then .tuple [] else gd e,[]):=by
 refine aB ?_;have q:=o7 e;rw[aZ he] at q;cases b<;>simp only[alS,E53,q,gd,af,aI,aD,EW,seval]
def QK(b:Bool)(e:Int)(he:(e != 0)=true)(M:aC):aU (aq gN) 53 [.bool b,aF e] M=some (if b then .tuple [] else gd e,M) :=
 CR (c53 b e he) rfl rfl (by split<;>rfl) rfl (by split<;>rfl) M
end
section
attribute [local irreducible] eX fJ lu gK eb kr aq aU cq bI
def cg(f:aa)(o:jD):List ag:=[ba f.s.now.ae,.int .i64 f.s.now.next,.int .i64 f.s.now.ak,.int .i64 f.s.tick,uc f.s.since,sd f.s.eS,kh f.s.dW,.int .i64 f.s.next,fI f.holds,cR f.dX,
 .int .i64 o.kind,.int .i64 o.bE,.str o.dL,.str o.vi,.int .i64 o.n,.int .i64 o.m,.int .i64 o.handle,cX o.data,
 .int .i64 0,.int .i64 0,.int .i64 0,.int .i64 0,.int .i64 0,.slice .c0 [],.slice .c0 []]
abbrev dv(f:aa)(o:jD):cL := .cells (cg f o)
def dE(f:aa)(o:jD)(a:tU)(x y:ag):cL := .cells [ba f.s.now.ae,.int .i64 f.s.now.next,.int .i64 f.s.now.ak,.int .i64 f.s.tick,uc f.s.since,sd f.s.eS,kh f.s.dW,.int .i64 f.s.next,fI f.holds,cR f.dX,
 .int .i64 o.kind,.int .i64 o.bE,.str o.dL,.str o.vi,.int .i64 o.n,.int .i64 o.m,.int .i64 o.handle,cX o.data,
 .int .i64 a.err,.int .i64 a.ar,.int .i64 a.kind,.int .i64 a.n,.int .i64 a.m,x,y]
def Row(x:ag)(xs:List ag):Prop:=x = .slice .sh xs\/(x = .slice .c0 []/\xs=[])
def pt(K:Nat)(f:aa)(o:jD)(r:aa×tU×Int):Prop :=
 ∃x y,Row x (r.2.1.names.map ag.str)/\Row y (r.2.1.data.map pZ)/\aq gN K [.ptr 0 0] [.cells (cg f o)]=some (if r.2.2 != 0 then gd r.2.2 else .tuple [],[dE r.1 o r.2.1 x y])
def gy:tU:=⟨0,0,0,0,0,[],[]⟩
def Jl{C:eR}{g p:Nat}{vs:List ag}{r:ag}{M:aC}{f f':aa}{o o':jD}(hM:nth M p=some (dv f o))(h:C g (.ptr 0 0::vs) [dv f o]=some (r,[dv f' o']))
  (h1:vs.all ag.flat=true) (h2:vs.flatMap ag.ids=[]) (h3:r.wH=true) (h4:∀p,vs.map (ag.pq (iB [p]))=vs) (h5:∀p,r.Aq (wD [p])=r) :
  aU C g (.ptr p 0::vs) M=some (r,iR M p (dv f' o')) :=
 tv hM h h1 h2 h3 (h4 p) (h5 p) rfl rfl rfl rfl rfl
def aqT(f:aa)(o:jD)(ar:Int)(ht:Small f.s.now)(hr:rV f.s.now):aq gN 179 [cA 0,aF ar] [dv f o]=some (.agg (aL (bm f.s.now.ae ar)),[dv f o]):=by
 refine aB ?_;have q:=fun M=>lS (Fc f.s.now ar ht hr M)
 simp only[aL] at q;simp only[acP,aoQ,dv,cg,q,aL,EW,seval]
def amB(f:aa)(o:jD)(ar:Int)(ht:Small f.s.now)(hr:rV f.s.now){p:Nat}{M:aC}(hM:nth M p=some (dv f o)):aU (aq gN) 179 [cA p,aF ar] M=some (.agg (aL (bm f.s.now.ae ar)),M):=by
 have:=Jl hM (aqT f o ar ht hr) rfl rfl rfl (fun _=>rfl) (fun _=>rfl)
 rwa[uX hM] at this
def aqo(f:aa)(o:jD)(dL:Bytes)(ht:Small f.s.now)(hr:rV f.s.now)(hp:dL.length<=100000):aq gN 145 [cA 0,.str dL] [dv f o] =
  some (if (ku f.s.now dL).2 != 0 then gd (ku f.s.now dL).2 else .agg (aL (bm f.s.now.ae (ku f.s.now dL).1)),[dv f o]):=by
 refine aB ?_;have q1:=amA f.s.now dL ht hr hp;generalize ku f.s.now dL=v at q1 ⊢;have q2:=o7 v.2;have q3:∀b,aU (aq gN) 179 [cA 0,aF v.1] [dv f o,b]=some (.agg (aL (bm f.s.now.ae v.1)),[dv f o,b]):=fun b=>amB f o v.1 ht hr (p:=0) rfl
 simp only[dv,cg,aL] at q3;simp only[acy,aee,dv,cg,q1,EW,seval];cases he:v.2 != 0<;>simp only[he,af,aI,aD,gd] at q2 ⊢
 ·simp only[aee,q2,q3,aL,EW,seval]
 ·simp only[aee,q2,EW,seval]
def LF(f:aa)(o:jD)(dL:Bytes)(ht:Small f.s.now)(hr:rV f.s.now)(hp:dL.length<=100000){p:Nat}{M:aC}(hM:nth M p=some (dv f o)):aU (aq gN) 145 [cA p,.str dL] M =
  some (if (ku f.s.now dL).2 != 0 then gd (ku f.s.now dL).2 else .agg (aL (bm f.s.now.ae (ku f.s.now dL).1)),M):=by
 have:=Jl hM (aqo f o dL ht hr hp) rfl rfl (by split<;>rfl) (fun _=>rfl) (fun _=>by split<;>rfl)
 rwa[uX hM] at this
def mS(t:Tree)(dL:Bytes):Int×Bytes×Int :=
 if (um dL).2.2 != 0 then (0,[],(um dL).2.2)
 else if (ku t (um dL).2.1).2 != 0 then (0,[],(ku t (um dL).2.1).2)
 else ((ku t (um dL).2.1).1,(um dL).1,0)
def aqp(f:aa)(o:jD)(dL:Bytes)(ht:Small f.s.now)(hr:rV f.s.now)(hp:dL.length<=100000):aq gN 146 [cA 0,.str dL] [dv f o] =
  some (if (mS f.s.now dL).2.2 != 0 then gd (mS f.s.now dL).2.2 else .tuple [aF (mS f.s.now dL).1,.str (mS f.s.now dL).2.1],[dv f o]):=by
 refine aB ?_;have q1:=asP dL hp;have hl:=F9 dL hp;have q4:=amA f.s.now (um dL).2.1 ht hr aJ;unfold mS;generalize um dL=l at q1 q4 ⊢;have q2:=o7 l.2.2;generalize ku f.s.now l.2.1=v at q4 ⊢;have q3:=o7 v.2;simp only[acz,X4,dv,cg,q1,EW,seval];cases he:l.2.2 != 0<;>simp only[he,af,aI,aD,gd] at q2 ⊢
 ·cases hv:v.2 != 0<;>simp only[hv,af,aI,aD,gd] at q3 ⊢
  ·simp only[X4,q2,q4,q3,av,af,aD,EW,seval]
  ·simp only[X4,q2,q4,q3,hv,aI,EW,seval]
 ·simp only[X4,q2,he,aI,EW,seval]
def S1(f:aa)(o:jD)(dL:Bytes)(ht:Small f.s.now)(hr:rV f.s.now)(hp:dL.length<=100000){p:Nat}{M:aC}(hM:nth M p=some (dv f o)):aU (aq gN) 146 [cA p,.str dL] M =
  some (if (mS f.s.now dL).2.2 != 0 then gd (mS f.s.now dL).2.2 else .tuple [aF (mS f.s.now dL).1,.str (mS f.s.now dL).2.1],M):=by
 have:=Jl hM (aqp f o dL ht hr hp) rfl rfl (by split<;>rfl) (fun _=>rfl) (fun _=>by split<;>rfl)
 rwa[uX hM] at this
def Cq(n:Node):Int:=if (n.data.length:Int)<(n.bc.length:Int) then (n.bc.length:Int) else (n.data.length:Int)
def aqy(n:Node):aq gN 155 [.agg (aL n)] []=some (aF (Cq n),[]):=by
 refine aB ?_;simp only[acF,aoN,bL,aL,Cq,EW,seval]
def aap{xs:List gP}(hn:xs.length<=100000){k:List K}{R:List Bytes->Option (ag×aC)}
  (hx:∀(out:List Bytes) e,kr (aq gN) [.tmp 2] 0 k ⟨.exit 0,(3,.slice (.own 0) (out.map ag.str))::e,[.tick 1 out.length]⟩=R out) :
  ∀(l pre:List gP)(out:List Bytes),xs=pre++l->out.length<=pre.length->eX (aq gN) [.tmp 2] 0 k (.loop [3,6,7,8] ZP) [(3,.slice (.own 0) (out.map ag.str)),(6,jc xs),(7,aF xs.length),(8,aF pre.length)] [.tick 1 out.length]=R (out++l.map gP.name):=by
 intro l;induction l with
 |nil =>
  intro pre out h ho;rw[bG];simp only[X5,jL h,EW,seval];exact hx _ _
 |cons n rest ih =>
  intro pre out h ho;rw[bG];have dQ:pre.length+1<=100000:=by rw[h] at hn; simp at hn; omega
  have hw:=zy pre n;have hi:=ih (pre++[n]) (out++[n.name]) (by rw[h]; simp) gm
  simp only[aA,aw,az,aW,aH,aQ,aK,cd,aG,aP] at hi;have r1:ct (out.length+1) 16=True:=qM;simp only[X5,iQ h,gU h,gk,r1,hw,EW,seval];exact hi
def aqx(l:List gP)(hn:l.length<=100000):aq gN 154 [jc l] []=some (dj (l.map gP.name),[]):=by
 refine aB ?_;have hl:=aap hn (k:=[.block 0,.seq ahM]) (R:=fun out=>some (dj out,[])) (fun out e=>by simp only[X5,EW,seval]) l [] [] rfl (au _)
 simp only[aQ,az] at hl;simp only[Sc,X5,EW,seval];exact hl
def afI l hn:=cP (aqx l hn)
def afJ n:=cP (aqy n)
end
section
abbrev eI:Int->ag:=fun n => .int .i64 n
def bkI(B:Nat)(M:aC)(l:AM Int):List.map (ag.jW B M) (ph eI l)=ph eI l:=YF _ _ _ (fun _=>rfl) l
attribute [local irreducible] eX fJ lu gK eb kr aq aU cq bI
def zL(ae:List Node)(dom:Int):List gP->AM Int->Option (AM Int)
 | [],m=>some m
 |e::r,m=>if (bm ae e.ar).kind==1&&(eZ m e.ar).isSome&&((eZ m e.ar).getD 0 != dom) then none else zL ae dom r (kR m e.ar dom)
def ub(ae:List Node)(l:List dV):List Node->AM Int->Bool
 | [],_=>true
 |d::r,m=>if (d.bc.length:Int)==0 then ub ae l r m else match zL ae (mg ae l d.ar) d.bc m with
  |none=>false
  |some m'=>ub ae l r m'
def sj(t:Tree)(l:List dV):Bool:=ub t.ae l t.ae []
def VW{t:Tree}(ht:Small t)(hr:rV t){ql:List dV}{d:Node}{dom i n0:Int}{k:List K}{R:Option (AM Int)->Option (ag×aC)}(hn:d.bc.length<=100000)
  (hx:∀m e,kr (aq bZ) [.tmp 4] 0 k ⟨.exit 2,(1,cR ql)::(2,cA 0)::(5,.iC 1)::(8,aF dom)::(17,ba t.ae)::(18,aF n0)::(19,aF i)::e,[cC (aM t),.map (B2 m) (ph eI m),cC (aL d)]⟩=R (some m))
  (hret:∀m b1 b2,kr (aq bZ) [.tmp 4] 0 k ⟨.ret,[(4,.bool false)],[cC (aM t),.map (B2 m) (ph eI m),cC (aL d),b1,b2]⟩=R none) :
  ∀(l pre:List gP)(m:AM Int),d.bc=pre++l->eX (aq bZ) [.tmp 4] 0 k (.loop [1,2,5,8,17,18,19,33,34,35] Z4) [(1,cR ql),(2,cA 0),(5,.iC 1),(8,aF dom),(17,ba t.ae),(18,aF n0),(19,aF i),(33,jc d.bc),(34,aF d.bc.length),(35,aF pre.length)] [cC (aM t),.map (B2 m) (ph eI m),cC (aL d)] =
   R (zL t.ae dom l m):=by
 simp only[aM,aL] at hx hret ⊢;intro l;induction l with
 |nil =>
  intro pre m h;rw[bG];simp only[C8,jL h,zL,bkI,EW,seval];exact hx _ _
 |cons e rest ih =>
  intro pre m h;rw[bG];have dQ:pre.length+1<=100000:=by rw[h] at hn; simp at hn; omega
  have hw:=zy pre e;have q1:=Fc t e.ar ht hr;have hput:=sK eI m e.ar dom;have hi:=ih (pre++[e]) (kR m e.ar dom) (by rw[h]; simp)
  rw[zL];simp only[aL,aA,aw,az,aK] at q1 hi;simp only[C8,iQ h,gU h,gk,q1,o9,mapOf.eq_1,EW,seval];cases hm:eZ m e.ar with
  |none =>
   cases hk:(bm t.ae e.ar).kind==1<;>simp only[C8,hm,hk,VE,hput,hw,mapOf.eq_1,bkI,oO,cY,dR,cI,af,aD,EW,seval]
   ·exact hi
   ·exact hi
  |some v =>
   cases hk:(bm t.ae e.ar).kind==1<;>cases hd:v != dom<;>simp only[C8,hm,hk,hd,Nw,hput,hw,mapOf.eq_1,bkI,bW,bz,dR,cI,cN,af,aI,aD,EW,seval]
   ·exact hi
   ·exact hi
   ·exact hi
   ·exact hret _ _ _
def VX{t:Tree}{dJ:Int->Nat}(ht:dY t dJ 0){ql:List dV}(hq:py ql)(hql:ql.length<=100000) :
  ∀(l pre:List Node)(m:AM Int),t.ae=pre++l->eX (aq bZ) [.tmp 4] 0 [.block 0,.seq NR] (.loop [1,2,5,17,18,19] Nr) [(1,cR ql),(2,cA 0),(5,.iC 1),(17,ba t.ae),(18,aF t.ae.length),(19,aF pre.length)] [cC (aM t),.map (B2 m) (ph eI m)] =
   some (.bool (ub t.ae ql l m),[]):=by
 intro l;induction l with
 |nil =>
  intro pre m h;rw[bG];simp only[C8,jL h,ub,aM,EW,seval]
 |cons d rest ih =>
  intro pre m h;rw[bG];have hn:=ht.ae;have dQ:pre.length+1<=200:=by rw[h] at hn; simp at hn; omega
  have hw:=zy pre d;have hi:=fun m=>ih (pre++[d]) m (by rw[h]; simp)
  have hfd:find t.ae d.ar=some d:=(ik ht.lL.mr).2 ⟨by rw[h]; simp,rfl⟩
  rw[ub];simp only[aM,aA,aw,az,aK] at hi;simp only[C8,iQ h,gU h,aM,aL,EW,seval];cases he:(d.bc.length:Int)==0
  ·have hk:d.kind=2:=by
    rcases ht.kind _ _ hfd with h1|h1
    ·rw[(ht.file _ _ hfd h1).1] at he; simp at he
    ·exact h1
   have q1:=as5 ht hq hql hfd hk
   have hin:=VW ht.sz.HH ht.lL (ql:=ql) (d:=d) (dom:=mg t.ae ql d.ar) (i:=pre.length) (n0:=t.ae.length) (k:=[.block 2,.block 1,.seq abk,.loop [1,2,5,17,18,19] 2 Nr,.block 0,.seq NR])
    (R:=fun o=>some (.bool (match o with|none=>false|some m'=>ub t.ae ql rest m'),[])) (by have:=(ht.yq _ _ hfd).2; omega)
    (fun m e=>by
     have:=hi m;simp only[aM,aL,C8,hw,bkI,EW,seval];exact this)
    (fun m b1 b2=>by simp only[aM,aL,C8,EW,seval]) d.bc [] m rfl
   simp only[aM,aL,az] at hin;simp only[C8,he,q1,af,aD,EW,seval];refine hin.trans ?_;rfl
  ·simp only[C8,he,hw,aI,bkI,EW,seval];exact hi m
def aq4(t:Tree)(l:List dV)(ht:Rt t)(hq:py l)(hl:l.length<=100000):aq bZ 192 [br t,cR l] []=some (.bool (sj t l),[]):=by
 obtain⟨dJ,ht⟩:=ht;refine aB ?_;have h:=VX ht hq hl t.ae [] [] rfl;simp only[aM,az] at h;simp only[acW,C8,br,aM,EW,seval];exact h
def asT(t:Tree)(l:List dV)(ht:Rt t)(hq:py l)(hl:l.length<=100000)(M:aC):aU (aq bZ) 192 [.agg [ba t.ae,aF t.next,aF t.ak],cR l] M=some (.bool (sj t l),M):=cO (aq4 t l ht hq hl) M
end
section
def Gq{args:List ag}{M:aC}{x:ag×aC}(h:Cj args M=some x):aq gN 188 args M=some x:=fg (T:=gN) (g:=Cj) rfl h
def anP(xs:List ag)(z:Tree)(W:cL):jZ [W,cC (aM z),.arr 3 0 xs] (iB [2,1]) [2,1]=some [.arr 3 0 xs,cC (aM z)]:=rfl
def ahH(z:Tree)(W:cL):jZ [W,cC (aM z)] (iB [1]) [1]=some [cC (aM z)]:=rfl
attribute [local irreducible] eX fJ lu gK eb kr aq aU cq bI
def amE(z:Tree)(W:cL):aU (aq gN) 188 [gG [],.func 190 [cA 1]] [W,cC (aM z)]=some (gG [],[W,cC (aM z)]) :=
 lj (ids:=[1]) rfl rfl (ahH z W) rfl rfl (Gq (P9 z)) rfl rfl rfl rfl rfl
def asR(xs:List dV)(z:Tree)(hz:Rt z)(hn:xs.length<=100000)(h0:xs≠[])(W:cL):∃b,Still b/\aU (aq gN) 188 [.cD 2 0 3 0 xs.length,.func 190 [cA 1]] [W,cC (aM z),.arr 3 0 (xs.map gF)] =
  some (cR (nU z xs),[W,cC (aM z),b]):=by
 obtain⟨b,hb,h⟩:=WJ xs z hz hn h0;refine⟨b,hb,lj (ids:=[2,1]) rfl rfl (anP _ z W) rfl rfl (Gq h) rfl rfl ?_ rfl ?_⟩
 ·simp only[kK,hb.2.1]; rfl
 ·simp only[mb,hb.2.2]; rfl
def rE(l:List fA):List Int->Tree->Tree
 | [],t=>t
 |i::r,t=>rE l r (if !pS l i then (kH t i).1 else t)
def A8(l:List fA):∀(r:List Int)(t:Tree),Rt t->Rt (rE l r t)
 | [],t,h=>h
 |i::r,t,h=>by
  rw[rE];refine A8 l r _ ?_;split
  ·exact h.free i
  ·exact h
def VN{f:aa}{o:jD}{q:List dV}(hh:f.holds.length<=100000){xs:List Int}(hn:xs.length<=100000){fin:Tree}{k:List K}{r:Option (ag×aC)}
  (hx:∀e,kr (aq gN) [] 1 k ⟨.exit 0,(0,cA 0)::(2,cR q)::(4,cA 1)::e,[dv f o,cC (aM fin)]⟩=r) :
  ∀(l pre:List Int)(t:Tree),xs=pre++l->Rt t->rE f.holds l t=fin->eX (aq gN) [] 1 k (.loop [0,2,4,13,14,15] ZO) [(0,cA 0),(2,cR q),(4,cA 1),(13,uc xs),(14,aF xs.length),(15,aF pre.length)] [dv f o,cC (aM t)]=r:=by
 simp only[dv,cg,aM] at hx ⊢;intro l;induction l with
 |nil =>
  intro pre t h ht hfin;rw[bG];rw[rE] at hfin;subst hfin;simp only[tn,jL h,EW,seval];exact hx _
 |cons i rest ih =>
  intro pre t h ht hfin;rw[bG];have dQ:pre.length+1<=100000:=by rw[h] at hn; simp at hn; omega
  have hw:=zy pre i;rw[rE] at hfin;have hi1:=ih (pre++[i]) t (by rw[h]; simp) ht
  have hi2:=ih (pre++[i]) (kH t i).1 (by rw[h]; simp) (ht.free i)
  have q1:∀M,nth M 2=some (cC [aF i])->aU (aq gN) 185 [fI f.holds,.func 186 [cA 2]] M=some (.bool (pS f.holds i),M):=fun M hM=>lS (zG hM (akW f.holds i hh) rfl rfl rfl)
  have q2:=fun M=>lS (amD t i ht.small ht.lL M)
  simp only[aM,aA,aw,az,aK] at hi1 hi2 q2;simp only[tn,iQ h,gU h,q1,EW,seval];cases he:pS f.holds i<;>rw[he] at hfin
  ·simp only[dG,aI] at hfin;have:=hi2 hfin;simp only[tn,he,q2,hw,EW,seval];exact this
  ·simp only[cu,af,aD] at hfin;have:=hi1 hfin;simp only[tn,he,hw,EW,seval];exact this
def nu(t:Tree)(q:dV):Bool := !(decide ((lx t.ae q.ar).1<=q.ae)&&decide ((lx t.ae q.ar).2<=q.bytes))
def PK{f:aa}{o:jD}{t:Tree}(ht:Rt t){xs:List dV}(hn:xs.length<=100000){k:List K}{r:Option (ag×aC)}
  (hx:∀e,xs.any (nu t)=false->kr (aq gN) [] 1 k ⟨.exit 2,(0,.ptr 0 0)::(2,cR xs)::(4,.ptr 1 0)::e,[dv f o,.cells (aM t)]⟩=r)
  (hp:∀c,xs.any (nu t)=true->kr (aq gN) [] 1 k ⟨.nI (.iface 43 (.int .i64 90)),[],[dv f o,.cells (aM t),c]⟩=r) :
  ∀(l pre:List dV),xs=pre++l->pre.any (nu t)=false->eX (aq gN) [] 1 k (.loop [0,2,4,42,43,44] Nq) [(0,.ptr 0 0),(2,cR xs),(4,.ptr 1 0),(42,cR xs),(43,.int .i64 xs.length),(44,.int .i64 pre.length)] [dv f o,.cells (aM t)]=r:=by
 simp only[dv,cg,aM] at hx hp ⊢;intro l;induction l with
 |nil =>
  intro pre h hpre;rw[bG];have hany:xs.any (nu t)=false:=by rw[h,dg]; exact hpre
  simp only[tn,jL h,EW,seval];exact hx _ hany
 |cons q rest ih =>
  intro pre h hpre;rw[bG];have dQ:pre.length+1<=100000:=by rw[h] at hn; simp at hn; omega
  have hw:=zy pre q;have q1:=fun M=>lS (afM ht q.ar M)
  have q2:=fun bb=>QK bb 90 rfl
  have hov:∀z,nu t q=z->(decide ((lx t.ae q.ar).1<=q.ae)&&decide ((lx t.ae q.ar).2<=q.bytes)) = !z:=fun z hz=>by rw[<-hz]; unfold nu; simp
  simp only[tn,iQ h,gU h,iX,q1,EW,seval];cases ho:nu t q
  ·have hi:=ih (pre++[q]) (by rw[h]; simp) (by simp[hpre,ho])
   have hv:=hov _ ho;simp only[aA,aw,az,aK] at hi;simp only[dG,bw] at hv;simp only[tn,hv.1,hv.2,q2,hw,aI,EW,seval];exact hi
  ·have hany:xs.any (nu t)=true:=by rw[h]; simp[ho]
   have hv:=hov _ ho;cases h1:decide ((lx t.ae q.ar).1<=q.ae)<;>cases h2:decide ((lx t.ae q.ar).2<=q.bytes)<;>simp only[h1,h2,jO,cu] at hv
   ·simp only[tn,h1,h2,q2,gd,af,aD,EW,seval];exact hp _ hany
   ·simp only[tn,h1,h2,q2,gd,af,aD,EW,seval];exact hp _ hany
   ·simp only[tn,h1,h2,q2,gd,af,aD,EW,seval];exact hp _ hany
   ·cases hv
def PJ{f:aa}{o:jD}{t:Tree}(ht:Rt t){xs:List dV}(hn:xs.length<=100000){b:cL}(hbb:Still b){k:List K}{r:Option (ag×aC)}
  (hx:∀e,xs.any (nu t)=false->kr (aq gN) [] 1 k ⟨.exit 2,(0,.ptr 0 0)::(2,cR xs)::(4,.ptr 1 0)::e,[dv f o,.cells (aM t),b]⟩=r)
  (hp:∀c,xs.any (nu t)=true->kr (aq gN) [] 1 k ⟨.nI (.iface 43 (.int .i64 90)),[],[dv f o,.cells (aM t),b,c]⟩=r) :
  ∀(l pre:List dV),xs=pre++l->pre.any (nu t)=false->eX (aq gN) [] 1 k (.loop [0,2,4,42,43,44] Nq) [(0,.ptr 0 0),(2,cR xs),(4,.ptr 1 0),(42,cR xs),(43,.int .i64 xs.length),(44,.int .i64 pre.length)] [dv f o,.cells (aM t),b]=r:=by
 simp only[dv,cg,aM] at hx hp ⊢;intro l;induction l with
 |nil =>
  intro pre h hpre;rw[bG];have hany:xs.any (nu t)=false:=by rw[h,dg]; exact hpre
  simp only[tn,jL h,EW,seval];exact hx _ hany
 |cons q rest ih =>
  intro pre h hpre;rw[bG];have dQ:pre.length+1<=100000:=by rw[h] at hn; simp at hn; omega
  have hw:=zy pre q;have q1:=fun M=>lS (afM ht q.ar M)
  have q2:=fun bb=>QK bb 90 rfl
  have hov:∀z,nu t q=z->(decide ((lx t.ae q.ar).1<=q.ae)&&decide ((lx t.ae q.ar).2<=q.bytes)) = !z:=fun z hz=>by rw[<-hz]; unfold nu; simp
  simp only[tn,iQ h,gU h,iX,q1,EW,seval];cases ho:nu t q
  ·have hi:=ih (pre++[q]) (by rw[h]; simp) (by simp[hpre,ho])
   have hv:=hov _ ho;simp only[aA,aw,az,aK] at hi;simp only[dG,bw] at hv;simp only[tn,hv.1,hv.2,q2,hw,aI,hbb.1,EW,seval];exact hi
  ·have hany:xs.any (nu t)=true:=by rw[h]; simp[ho]
   have hv:=hov _ ho;cases h1:decide ((lx t.ae q.ar).1<=q.ae)<;>cases h2:decide ((lx t.ae q.ar).2<=q.bytes)<;>simp only[h1,h2,jO,cu] at hv
   ·simp only[tn,h1,h2,q2,gd,af,aD,EW,seval];exact hp _ hany
   ·simp only[tn,h1,h2,q2,gd,af,aD,EW,seval];exact hp _ hany
   ·simp only[tn,h1,h2,q2,gd,af,aD,EW,seval];exact hp _ hany
   ·cases hv
def j5(f:aa)(t:Tree)(q:List dV):aa×Int :=
 if !sj (rE f.holds (mQ t) t) (nU (rE f.holds (mQ t) t) q) then (f,91)
 else if (nU (rE f.holds (mQ t) t) q).any (nu (rE f.holds (mQ t) t)) then (f,90)
 else (⟨qA f.s (rE f.holds (mQ t) t),f.holds,nU (rE f.holds (mQ t) t) q⟩,0)
structure vm(f:aa):Prop where
 rt:Rt f.s.now
 len:f.s.since.length=f.s.now.ae.length
 eS:f.s.eS.length<=90000
 Eu:∀p,p∈f.s.eS->p.node.bc.length<=64/\p.node.data.length<=4096
 dW:f.s.dW.length<=16
 holds:uG f.holds
 dQ:f.holds.length<=64
 dX:py f.dX
 sO:f.dX.length<=16
def amw(s:iT)(t:Tree)(hs:rV s.now)(hz:Sz 200 s.now)(ht:rV t)(hzt:Sz 200 t)(hk:s.dW.length<=100000)(hl:s.since.length=s.now.ae.length)(hp:s.eS.length<=100000)(M:aC) :
  aU (aq bZ) 158 [.agg (bM s),.agg [ba t.ae,aF t.next,aF t.ak]] M=some (.agg (bM (qA s t)),M):=cO (aqB s t hs hz ht hzt hk hl hp) M
def F7{t:Tree}{q:List dV}(h:py q):py (nU t q):=jQ _ h
def Bl(t:Tree)(q:List dV):(nU t q).length<=q.length:=bU _ _
def aqr(f:aa)(o:jD)(t:Tree)(q:List dV)(hf:vm f)(ht:Rt t)(hq:py q)(hql:q.length<=16):aq gN 148 [cA 0,br t,cR q] [dv f o] =
  some (if (j5 f t q).2 != 0 then gd (j5 f t q).2 else .tuple [],[dv (j5 f t q).1 o]):=by
 refine aB ?_;have q0:=fun M=>lS (asQ t (by have:=ht.sz.ae; omega) M)
 have hor:(mQ t).length<=100000:=by have:=ht.sz.ae; have h2:=bU gV t.ae; unfold mQ; simp; omega
 have hl:=VN (f:=f) (o:=o) (q:=q) (by have:=hf.dQ; omega) (xs:=mQ t) hor (fin:=rE f.holds (mQ t) t) (k:=[.block 0,.seq abh])
  (r:=some (if (j5 f t q).2 != 0 then gd (j5 f t q).2 else .tuple [],[dv (j5 f t q).1 o])) ?_ (mQ t) [] t rfl ht rfl
 ·simp only[dv,cg,aM,az] at hl;simp only[Sb,tn,dv,cg,br,aM,q0,EW,seval];exact hl
 ·intro e;have ht1:=A8 f.holds (mQ t) t ht;unfold j5;generalize rE f.holds (mQ t) t=t1 at ht1 ⊢;have q1:=fun M=>lS (asT t1 (nU t1 q) ht1 (F7 hq) (by have:=Bl t1 q; omega) M)
  have q2:=fun bb=>QK bb 91 rfl
  have q3:=fun M=>lS (amw f.s t1 hf.rt.lL hf.rt.sz ht1.lL ht1.sz (by have:=hf.dW; omega) hf.len (by have:=hf.eS; omega) M)
  generalize qA f.s t1=ps at q3 ⊢;simp only[bM] at q3
  by_cases h0:q=[]
  ·have p1:=fun M=>lS' (DL gF (f:=189) (sz:=3) (bytes:=24) rfl h0 M)
   have hk0:nU t1 q=[]:=by subst h0; rfl
   rw[hk0] at q1 ⊢;have q1:∀M,aU (aq gN) 192 [.agg [ba t1.ae,aF t1.next,aF t1.ak],gG []] M=some (.bool (sj t1 []),M):=q1
   have p2:=amE t1 (dv f o);cases hd:sj t1 []
   ·rw[hd] at q1;simp only[dv,cg,aM,gd] at p2 ⊢;simp only[tn,p1,p2,q1,q2,gd,hd,af,aI,aD,EW,seval]
   ·rw[hd] at q1
    have hlp:=PK (f:=f) (o:=o) (t:=t1) ht1 (xs:=[]) dx (k:=[.block 2,.seq NP]) (r:=some (.tuple [],[dv ⟨ps,f.holds,[]⟩ o]))
     (fun e _=>by simp only[dv,cg,aM,tn,q3,bM,EW,seval]; rfl) (fun c h=>by cases h) [] [] rfl rfl
    simp only[dv,cg,aM,gd,az] at p2 hlp ⊢;simp only[tn,p1,p2,q1,q2,hd,gd,af,aI,aD,o4,av,EW,seval];exact hlp
  ·obtain⟨b,hb,p2⟩:=asR q t1 ht1 aJ h0 (dv f o);have p1:=fun M=>lS' (CU gF (f:=189) (sz:=3) (bytes:=24) rfl (fun _=>rfl) aJ h0 aJ M)
   have hkl:(nU t1 q).length<=100000:=by have:=Bl t1 q; omega
   generalize nU t1 q=kq at q1 p2 hkl ⊢;cases hd:sj t1 kq
   ·rw[hd] at q1;simp only[dv,cg,aM,gd] at p2 ⊢;simp only[tn,p1,p2,q1,q2,gd,hd,hb.1,af,aI,aD,EW,seval]
   ·rw[hd] at q1
    have hlp:=PJ (f:=f) (o:=o) (t:=t1) ht1 (xs:=kq) hkl hb (k:=[.block 2,.seq NP]) (r:=some (if kq.any (nu t1) then gd 90 else .tuple [],[dv (if kq.any (nu t1) then f else ⟨ps,f.holds,kq⟩) o]))
     (fun e h=>by simp only[h,af,aD,dv,cg,aM,tn,q3,bM,EW,seval]) (fun c h=>by simp only[h,aI,dv,cg,aM,tn,gd,EW,seval]) kq [] rfl rfl
    simp only[dv,cg,aM,gd,az] at p2 hlp ⊢;simp only[tn,p1,p2,q1,q2,hd,gd,af,aI,aD,EW,seval];refine hlp.trans ?_;cases kq.any (nu t1)<;>rfl
end
section
attribute [local irreducible] eX fJ lu gK eb kr aq aU cq bI
structure rY(o:jD):Prop where
 dL:o.dL.length<=90000
 vi:o.vi.length<=90000
 data:o.data.length<=90000
def dY.XU{t:Tree}{dJ:Int->Nat}(h:dY t dJ 0)(to:Int)(nm:Bytes):∀e,gx (gX t.ae to).1.bc nm=some e->(bm t.ae e.ar).ar≠to:=by
 intro e he;unfold gX at he;split at he
 ·cases he
 ·rename_i n hn;split at he
  ·have hem:=(jY he).1;obtain⟨_,_,_,_,m,hm,_⟩:=h.CH _ _ e hn hem;simp only[bm,hm,bz,(cH hm).2];exact h.xh hn hem
  ·cases he
def Px(f:aa)(o:jD)(t:Tree)(q:List dV)(hf:vm f)(ht:Rt t)(hq:py q)(hql:q.length<=16){p:Nat}{M:aC}(hM:nth M p=some (dv f o)):aU (aq gN) 148 [cA p,.agg [ba t.ae,aF t.next,aF t.ak],cR q] M =
  some (if (j5 f t q).2 != 0 then gd (j5 f t q).2 else .tuple [],iR M p (dv (j5 f t q).1 o)) :=
 Jl hM (aqr f o t q hf ht hq hql) rfl rfl (by split<;>rfl) (fun _=>rfl) (fun _=>by split<;>rfl)
def asA(t:Tree)(ht:Rt t)(dir:Int)(s:Bytes)(kind:Int)(hs:s.length<=100000)(M:aC):aU (aq gN) 147 [.agg [ba t.ae,aF t.next,aF t.ak],aF dir,.str s,aF kind] M =
  some (.tuple [.agg [ba (rZ t dir s kind).1.ae,aF (rZ t dir s kind).1.next,aF (rZ t dir s kind).1.ak],aF (rZ t dir s kind).2.1,aF (rZ t dir s kind).2.2],M):=by
 obtain⟨dJ,h⟩:=ht;have:=aqq t dir s kind (h.sz.up aJ) h.lL hs trivial h.jw;rw[Ym h] at this;exact lS (cO this M)
def asB(t:Tree)(ht:Rt t)(ar dir:Int)(s:Bytes)(hs:s.length<=100000)(M:aC):aU (aq gN) 149 [.agg [ba t.ae,aF t.next,aF t.ak],aF ar,aF dir,.str s] M =
  some (.tuple [.agg [ba (CL t ar dir s).1.ae,aF (CL t ar dir s).1.next,aF (CL t ar dir s).1.ak],aF (CL t ar dir s).2],M):=by
 obtain⟨dJ,h⟩:=ht;have:=aqs t ar dir s (h.sz.up aJ) h.lL hs trivial;rw[ahj h] at this;exact lS (cO this M)
def asC(t:Tree)(ht:Rt t)(dir:Int)(s:Bytes)(hs:s.length<=100000)(M:aC):aU (aq gN) 150 [.agg [ba t.ae,aF t.next,aF t.ak],aF dir,.str s] M =
  some (.tuple [.agg [ba (BO t dir s).1.ae,aF (BO t dir s).1.next,aF (BO t dir s).1.ak],aF (BO t dir s).2.1,aF (BO t dir s).2.2],M):=by
 obtain⟨dJ,h⟩:=ht;have:=aqt t dir s (h.sz.up aJ) h.lL hs trivial;rw[aie h] at this;exact lS (cO this M)
def asD(t:Tree)(ht:Rt t)(dir:Int)(s:Bytes)(to:Int)(nm:Bytes)(hs:s.length<=100000)(hn:nm.length<=100000)(M:aC):aU (aq gN) 152 [.agg [ba t.ae,aF t.next,aF t.ak],aF dir,.str s,aF to,.str nm] M =
  some (.tuple [.agg [ba (wU t dir s to nm).1.ae,aF (wU t dir s to nm).1.next,aF (wU t dir s to nm).1.ak],aF (wU t dir s to nm).2.1,aF (wU t dir s to nm).2.2],M):=by
 obtain⟨dJ,h⟩:=ht;have:=aqv t dir s to nm (h.sz.up aJ) h.lL hs trivial hn trivial (fun e he=>h.XU to nm e he)
 rw[ahq h] at this;exact lS (cO this M)
def atu(t:Tree)(ht:Rt t)(ar:Int)(s:Bytes)(hs:s.length<=100000)(M:aC):aU (aq gN) 151 [.agg [ba t.ae,aF t.next,aF t.ak],aF ar,.str s] M =
  some (.tuple [aF (fh t.ae ar s).1,aF (fh t.ae ar s).2],M):=lS (Zi t.ae t.next t.ak ar s ht.small ht.lL hs trivial M)
def amT(t:Tree)(ht:Rt t)(ar:Int)(d:Bytes)(hd:d.length<=100000)(M:aC):aU (aq gN) 225 [.agg [ba t.ae,aF t.next,aF t.ak],aF ar,cX d] M =
  some (.tuple [.agg [ba (rT t ar d).1.ae,aF (rT t ar d).1.next,aF (rT t ar d).1.ak],aF (rT t ar d).2],M):=lS (cO (art t ar d ht.small ht.lL hd) M)
def Rt.add{t:Tree}(h:Rt t)(dir:Int)(s:Bytes)(kind:Int):Rt (rZ t dir s kind).1:=let ⟨_,g⟩:=h; Q6 g dir s kind (fun h=>h)
def Rt.ln{t:Tree}(h:Rt t)(ar dir:Int)(s:Bytes):Rt (CL t ar dir s).1:=let ⟨_,g⟩:=h; ⟨_,aaf g ar dir s (fun h=>h)⟩
def Rt.un{t:Tree}(h:Rt t)(dir:Int)(s:Bytes):Rt (BO t dir s).1:=let ⟨_,g⟩:=h; ⟨_,abF g dir s⟩
def Rt.mv{t:Tree}(h:Rt t)(dir:Int)(s:Bytes)(to:Int)(nm:Bytes):Rt (wU t dir s to nm).1:=let ⟨_,g⟩:=h; aaT g dir s to nm (fun h=>h)
def Rt.put{t:Tree}(h:Rt t)(ar:Int)(d:Bytes):Rt (rT t ar d).1:=let ⟨_,g⟩:=h; ⟨_,WR g ar d⟩
def vR(t:Tree)(s:Bytes)(hs:s.length<=100000):(mS t s).2.1.length<=1000:=by
 have:=F9 s hs;unfold mS;split
 ·simp
 ·split
  ·simp
  ·simp only; omega
abbrev Wk:=aa×tU×Int
def Cg(f:aa)(o:jD):Wk :=
 if (ku f.s.now o.dL).2 != 0 then (f,gy,(ku f.s.now o.dL).2)
 else (f,⟨0,(bm f.s.now.ae (ku f.s.now o.dL).1).ar,(bm f.s.now.ae (ku f.s.now o.dL).1).kind,0,0,[],[]⟩,0)
def c93(f:aa)(o:jD)(hf:vm f)(ho:rY o):pt 93 f o (Cg f o):=by
 unfold pt;refine⟨.slice .c0 [],.slice .c0 [],.inr ⟨rfl,?_⟩,.inr ⟨rfl,?_⟩,aB ?_⟩
 ·unfold Cg; split<;>rfl
 ·unfold Cg; split<;>rfl
 have q1:=fun {M}=>LF f o o.dL hf.rt.small hf.rt.lL (by have:=ho.dL; omega) (p:=0) (M:=M)
 unfold Cg;generalize ku f.s.now o.dL=v at q1 ⊢;simp only[dv,cg,aL] at q1;cases he:v.2 != 0
 ·simp only[he,af,aD] at q1 ⊢;simp only[afu,E93,dv,cg,dE,q1,av,af,aD,EW,seval]
 ·simp only[he,aI,gd] at q1 ⊢;simp only[afu,E93,dv,cg,dE,gy,q1,he,aI,gd,EW,seval]
def Ch(f:aa)(o:jD):Wk :=
 let v:=mS f.s.now o.dL
 let w:=rZ f.s.now v.1 v.2.1 o.n
 let r:=j5 f w.1 f.dX
 if v.2.2 != 0 then (f,gy,v.2.2)
 else if w.2.2 != 0 then (f,gy,w.2.2)
 else if r.2 != 0 then (r.1,gy,r.2)
 else (r.1,⟨0,w.2.1,o.n,0,0,[],[]⟩,0)
def c94(f:aa)(o:jD)(hf:vm f)(ho:rY o):pt 94 f o (Ch f o):=by
 unfold pt;refine⟨.slice .c0 [],.slice .c0 [],.inr ⟨rfl,?_⟩,.inr ⟨rfl,?_⟩,aB ?_⟩
 ·unfold Ch; simp only[]; split<;>(try split)<;>(try split)<;>rfl
 ·unfold Ch; simp only[]; split<;>(try split)<;>(try split)<;>rfl
 have hp:o.dL.length<=100000:=by have:=ho.dL; omega
 have q1:=fun {M}=>S1 f o o.dL hf.rt.small hf.rt.lL hp (p:=0) (M:=M)
 have hl:=vR f.s.now o.dL hp;unfold Ch;simp only[];generalize mS f.s.now o.dL=v at q1 hl ⊢;have q2:=asA f.s.now hf.rt v.1 v.2.1 o.n aJ;have hr:=hf.rt.add v.1 v.2.1 o.n;generalize rZ f.s.now v.1 v.2.1 o.n=w at q2 hr ⊢;have q3:=o7 w.2.2;have q4:=fun {M}=>Px f o w.1 f.dX hf hr hf.dX hf.sO (p:=0) (M:=M)
 generalize j5 f w.1 f.dX=r at q4 ⊢;simp only[dv,cg] at q1 q4;cases he:v.2.2 != 0
 ·simp only[he,af,aD] at q1 ⊢;cases hw:w.2.2 != 0
  ·simp only[hw,af,aD] at q3 ⊢;cases hs:r.2 != 0
   ·simp only[hs,af,aD] at q4 ⊢;simp only[Sx,E94,dv,cg,dE,q1,q2,q3,q4,av,af,aD,EW,seval]
   ·simp only[hs,aI,gd] at q4 ⊢;simp only[Sx,E94,dv,cg,dE,gy,q1,q2,q3,q4,hs,aI,EW,seval]
  ·simp only[hw,aI,gd] at q3 ⊢;simp only[Sx,E94,dv,cg,dE,gy,q1,q2,q3,hw,aI,EW,seval]
 ·simp only[he,aI,gd] at q1 ⊢;simp only[Sx,E94,dv,cg,dE,gy,q1,he,aI,EW,seval]
def atv(t:Tree)(ht:Rt t)(l:List fA)(c h ar:Int)(hl:uG l)(hn:l.length<=64)(M:aC):aU (aq gN) 156 [.agg [ba t.ae,aF t.next,aF t.ak],fI l,aF c,aF h,aF ar] M=some (.tuple [fI (vL t l c h ar).1,aF (vL t l c h ar).2],M):=lS (asF t l c h _ ht.small ht.lL hl hn M)
def atw(t:Tree)(ht:Rt t)(l:List fA)(c h:Int)(hn:l.length<=64)(M:aC):aU (aq gN) 157 [.agg [ba t.ae,aF t.next,aF t.ak],fI l,aF c,aF h] M=some (.tuple [.agg (aM (nC t l c h).1),fI (nC t l c h).2.1,aF (nC t l c h).2.2],M):=lS (amv t l c h ht.small ht.lL hn M)
def asH(t:Tree)(l:List dV)(ar ae bytes:Int)(ht:Rt t)(hq:py l)(hn:l.length<=16)(M:aC):aU (aq gN) 162 [.agg [ba t.ae,aF t.next,aF t.ak],cR l,aF ar,aF ae,aF bytes] M=some (.tuple [cR (vh t l ar ae bytes).1,aF (vh t l ar ae bytes).2],M) :=
 lS (cO (aqE t l _ _ _ ht hq hn) M)
def amU(f:aa)(hf:vm f)(t:Tree)(ht:Rt t)(M:aC):aU (aq gN) 158 [.agg (bM f.s),.agg [ba t.ae,aF t.next,aF t.ak]] M=some (.agg (bM (qA f.s t)),M) :=
 lS (amw _ t hf.rt.lL hf.rt.sz ht.lL ht.sz (by have:=hf.dW; omega) hf.len (by have:=hf.eS; omega) M)
theorem Rt.gone{t:Tree}(h:Rt t)(c:Int):∀(l k:List fA),Rt (sX c l t k).1:=by
 intro l;induction l generalizing t with
 |nil=>intro k; exact h
 |cons x r ih =>
  intro k;rw[sX];split
  ·exact ih (h.close _ _ _) _
  grind
theorem Nj{α:Type}{lt:α->Bool}{R:α->α->Prop}{l:List α}{b:Nat}(h:l.Pairwise R)(hl:XQ lt l b){x:α}(h1:∀y,y∈l->lt y=true->R y x)(h2:∀y,y∈l->lt y=false->R x y)(ht:∀a b c,R a b->R b c->R a c):(l.take b++x::l.drop b).Pairwise R:=by
 have hT:∀y,y∈l.take b->R y x:=by
  intro y hy;obtain⟨i,hi⟩:=bX hy;rw[fy] at hi;split at hi
  ·rename_i hib;exact h1 y (aE hi) ((hl.lt i y hi).2 hib)
  grind
 have hD:∀y,y∈l.drop b->R x y:=by
  intro y hy;obtain⟨i,hi⟩:=bX hy;rw[cF] at hi;refine h2 y (aE hi) ?_;cases he:lt y
  ·rfl
  ·have:=(hl.lt _ y hi).1 he; omega
 grind [List.pairwise_cons]
theorem Gx{t:Tree}{l:List dV}(hq:py l)(hn:l.length<=16)(ar ae bytes:Int):py (vh t l ar ae bytes).1/\(vh t l ar ae bytes).1.length<=16:=by
 have hlow:=ye hq ar;have hat:=Ra (key:=dV.ar) hq ar;have e1:XW dV.ar l ar=F5 l ar:=rfl;have e2:wO dV.ar l ar=wP l ar:=rfl;rw[e1,e2] at hat;unfold vh;split
 ·exact⟨hq,hn⟩
 split
 ·exact⟨hq,hn⟩
 split
 ·grind
 split
 ·exact⟨hq,hn⟩
 split
 ·rename_i hi;rcases hat with ⟨_,n,h2,h3,_⟩|⟨h1,_⟩
  ·refine⟨?_,by simpa using hn⟩
   have hm:((l.set (wP l ar) ⟨ar,ae,bytes⟩).map dV.ar)=l.map dV.ar:=by
    rw[gh];have cJ:=(aj.1 h2).1;refine cp fun i=>?_
    rw[gQ]
    grind
   have:((l.set (wP l ar) ⟨ar,ae,bytes⟩).map dV.ar).Pairwise (· < ·):=by rw[hm]; exact jT.2 hq
   exact jT.1 this
  ·rw[hi] at h1; cases h1
 split
 ·exact⟨hq,hn⟩
 ·rename_i hi dQ
  have hne:∀y,y∈l->y.ar≠ar:=by
   grind
  simp only[p9,bh] at dQ;refine⟨Nj hq hlow (fun y hy h=>?_) (fun y hy h=>?_) (fun a b c h1 h2=>Int.lt_trans h1 h2),by simp; have:=hlow.le; omega⟩
  ·simp only[bh,x5] at h; exact h
  ·simp only[dC,x5] at h; have:=hne y hy; simp only; omega
def Cf(f:aa)(o:jD):Wk :=
 let v:=ku f.s.now o.dL
 let n:=bm f.s.now.ae v.1
 let s:=mS f.s.now o.vi
 let w:=CL f.s.now n.ar s.1 s.2.1
 let r:=j5 f w.1 f.dX
 if v.2 != 0 then (f,gy,v.2) else
 if s.2.2 != 0 then (f,gy,s.2.2) else
 if w.2 != 0 then (f,gy,w.2) else
 if r.2 != 0 then (r.1,gy,r.2) else
 (r.1,⟨0,n.ar,0,0,0,[],[]⟩,0)
def c95(f:aa)(o:jD)(hf:vm f)(ho:rY o):pt 95 f o (Cf f o):=by
 unfold pt;have hp:o.dL.length<=100000:=by have:=ho.dL; omega
 have hto:o.vi.length<=100000:=by have:=ho.vi; omega
 refine⟨.slice .c0 [],.slice .c0 [],.inr ⟨rfl,?_⟩,.inr ⟨rfl,?_⟩,aB ?_⟩
 ·unfold Cf; simp only[]; split<;>(try split)<;>(try split)<;>(try split)<;>rfl
 ·unfold Cf; simp only[]; split<;>(try split)<;>(try split)<;>(try split)<;>rfl
 unfold Cf;simp only[];have q1:=fun {M}=>LF f o o.dL hf.rt.small hf.rt.lL hp (p:=0) (M:=M)
 generalize ku f.s.now o.dL=v at q1 ⊢;have q1:=@q1;generalize bm f.s.now.ae v.1=n at q1 ⊢;have hl:=vR f.s.now o.vi hto;have q2:=fun {M}=>S1 f o o.vi hf.rt.small hf.rt.lL hto (p:=0) (M:=M)
 have hl:=hl;generalize mS f.s.now o.vi=s at q2 hl ⊢;have q3:=asB f.s.now hf.rt n.ar s.1 s.2.1 aJ;have hr:=hf.rt.ln n.ar s.1 s.2.1;generalize CL f.s.now n.ar s.1 s.2.1=w at q3 hr ⊢;have q5:=fun {M}=>Px f o w.1 f.dX hf hr hf.dX hf.sO (p:=0) (M:=M)
 generalize j5 f w.1 f.dX=r at q5 ⊢;simp only[dv,cg,aL] at q1 q2 q3 q5;cases h0:v.2 != 0
 ·cases h1:s.2.2 != 0
  ·cases h2:w.2 != 0
   ·cases h3:r.2 != 0
    ·simp only[Pj,E95,cg,dE,q1,q2,q3,q5,h0,h1,h2,h3,o7,av,af,EW,seval]
    ·simp only[Pj,E95,cg,dE,gy,q1,q2,q3,q5,h0,h1,h2,h3,gd,o7,af,EW,seval]
   ·simp only[Pj,E95,cg,dE,gy,q1,q2,q3,h0,h1,h2,gd,o7,af,EW,seval]
  ·simp only[Pj,E95,cg,dE,gy,q1,q2,h0,h1,gd,af,EW,seval]
 simp_all [Pj,E95,dv,cg,dE,gy,gd,EW]
def uY(f:aa)(o:jD):Wk :=
 let s:=mS f.s.now o.dL
 let w:=BO f.s.now s.1 s.2.1
 let r:=j5 f w.1 f.dX
 if s.2.2 != 0 then (f,gy,s.2.2) else
 if w.2.2 != 0 then (f,gy,w.2.2) else
 if r.2 != 0 then (r.1,gy,r.2) else
 (r.1,⟨0,w.2.1,0,0,0,[],[]⟩,0)
def c96(f:aa)(o:jD)(hf:vm f)(ho:rY o):pt 96 f o (uY f o):=by
 unfold pt;have hp:o.dL.length<=100000:=by have:=ho.dL; omega
 have hto:o.vi.length<=100000:=by have:=ho.vi; omega
 refine⟨.slice .c0 [],.slice .c0 [],.inr ⟨rfl,?_⟩,.inr ⟨rfl,?_⟩,aB ?_⟩
 ·unfold uY; simp only[]; split<;>(try split)<;>(try split)<;>rfl
 ·unfold uY; simp only[]; split<;>(try split)<;>(try split)<;>rfl
 unfold uY;simp only[];have hl:=vR f.s.now o.dL hp;have q2:=fun {M}=>S1 f o o.dL hf.rt.small hf.rt.lL hp (p:=0) (M:=M)
 have hl:=hl;generalize mS f.s.now o.dL=s at q2 hl ⊢;have q3:=asC f.s.now hf.rt s.1 s.2.1 aJ;have hr:=hf.rt.un s.1 s.2.1;generalize BO f.s.now s.1 s.2.1=w at q3 hr ⊢;have q5:=fun {M}=>Px f o w.1 f.dX hf hr hf.dX hf.sO (p:=0) (M:=M)
 generalize j5 f w.1 f.dX=r at q5 ⊢;simp only[dv,cg] at q2 q3 q5;cases h0:s.2.2 != 0
 ·cases h1:w.2.2 != 0
  ·cases h2:r.2 != 0
   ·simp only[Sy,E96,cg,dE,q2,q3,q5,h0,h1,h2,o7,av,af,EW,seval]
   ·simp only[Sy,E96,cg,dE,gy,q2,q3,q5,h0,h1,h2,gd,o7,af,EW,seval]
  ·simp only[Sy,E96,cg,dE,gy,q2,q3,h0,h1,gd,o7,af,EW,seval]
 simp_all [Sy,E96,cg,dE,gy,gd,EW]
def uW(f:aa)(o:jD):Wk :=
 let s:=mS f.s.now o.dL
 let u:=mS f.s.now o.vi
 let l:=fh f.s.now.ae s.1 s.2.1
 let w:=wU f.s.now s.1 s.2.1 u.1 u.2.1
 let r:=j5 f w.1 f.dX
 if s.2.2 != 0 then (f,gy,s.2.2) else
 if u.2.2 != 0 then (f,gy,u.2.2) else
 if l.2 != 0 then (f,gy,l.2) else
 if w.2.2 != 0 then (f,gy,w.2.2) else
 if r.2 != 0 then (r.1,gy,r.2) else
 (r.1,⟨0,l.1,0,0,0,[],[]⟩,0)
def c97(f:aa)(o:jD)(hf:vm f)(ho:rY o):pt 97 f o (uW f o):=by
 unfold pt;have hp:o.dL.length<=100000:=by have:=ho.dL; omega
 have hto:o.vi.length<=100000:=by have:=ho.vi; omega
 refine⟨.slice .c0 [],.slice .c0 [],.inr ⟨rfl,?_⟩,.inr ⟨rfl,?_⟩,aB ?_⟩
 ·unfold uW; simp only[]; split<;>(try split)<;>(try split)<;>(try split)<;>(try split)<;>rfl
 ·unfold uW; simp only[]; split<;>(try split)<;>(try split)<;>(try split)<;>(try split)<;>rfl
 unfold uW;simp only[];have hl:=vR f.s.now o.dL hp;have q1:=fun {M}=>S1 f o o.dL hf.rt.small hf.rt.lL hp (p:=0) (M:=M)
 have hl:=hl;generalize mS f.s.now o.dL=s at q1 hl ⊢;have hl2:=vR f.s.now o.vi hto;have q2:=fun {M}=>S1 f o o.vi hf.rt.small hf.rt.lL hto (p:=0) (M:=M)
 have hl2:=hl2;generalize mS f.s.now o.vi=u at q2 hl2 ⊢;have q3:=atu f.s.now hf.rt s.1 s.2.1 aJ;generalize fh f.s.now.ae s.1 s.2.1=l at q3 ⊢;have q4:=asD f.s.now hf.rt s.1 s.2.1 u.1 u.2.1 aJ aJ;have hr:=hf.rt.mv s.1 s.2.1 u.1 u.2.1;generalize wU f.s.now s.1 s.2.1 u.1 u.2.1=w at q4 hr ⊢;have q5:=fun {M}=>Px f o w.1 f.dX hf hr hf.dX hf.sO (p:=0) (M:=M)
 generalize j5 f w.1 f.dX=r at q5 ⊢;simp only[dv,cg] at q1 q2 q3 q4 q5;cases h0:s.2.2 != 0
 ·cases h1:u.2.2 != 0
  ·cases h2:l.2 != 0
   ·cases h3:w.2.2 != 0
    ·cases h4:r.2 != 0
     ·simp only[Lx,E97,cg,dE,q1,q2,q3,q4,q5,h0,h1,h2,h3,h4,o7,av,af,EW,seval]
     ·simp only[Lx,E97,cg,dE,gy,q1,q2,q3,q4,q5,h0,h1,h2,h3,h4,gd,o7,af,EW,seval]
    ·simp only[Lx,E97,cg,dE,gy,q1,q2,q3,q4,h0,h1,h2,h3,gd,o7,af,EW,seval]
   ·simp only[Lx,E97,cg,dE,gy,q1,q2,q3,h0,h1,h2,gd,o7,af,EW,seval]
  ·simp only[Lx,E97,cg,dE,gy,q1,q2,h0,h1,gd,af,EW,seval]
 simp_all [Lx,E97,cg,dE,gy,gd,EW]
def Ct(f:aa)(o:jD):Wk :=
 let v:=ku f.s.now o.dL
 let n:=bm f.s.now.ae v.1
 if v.2 != 0 then (f,gy,v.2) else
 (f,⟨0,n.ar,n.kind,n.eG,Cq n,[],[]⟩,0)
def c99(f:aa)(o:jD)(hf:vm f)(ho:rY o):pt 99 f o (Ct f o):=by
 unfold pt;have hp:o.dL.length<=100000:=by have:=ho.dL; omega
 refine⟨.slice .c0 [],.slice .c0 [],.inr ⟨rfl,?_⟩,.inr ⟨rfl,?_⟩,aB ?_⟩
 ·unfold Ct; simp only[]; split<;>rfl
 ·unfold Ct; simp only[]; split<;>rfl
 unfold Ct;simp only[];have q1:=fun {M}=>LF f o o.dL hf.rt.small hf.rt.lL hp (p:=0) (M:=M)
 generalize ku f.s.now o.dL=v at q1 ⊢;have q1:=@q1;generalize bm f.s.now.ae v.1=n at q1 ⊢;have q2:=fun M=>afJ n M
 simp only[dv,cg,aL] at q1 q2;cases h0:v.2 != 0
 ·simp only[afv,E99,cg,dE,q1,q2,h0,av,af,EW,seval]
 simp_all [afv,E99,dv,cg,dE,gy,gd,EW]
def Ci(f:aa)(o:jD):Wk :=
 let v:=ku f.s.now o.dL
 let n:=bm f.s.now.ae v.1
 let w:=vL f.s.now f.holds o.bE o.handle n.ar
 if v.2 != 0 then (f,gy,v.2) else
 if w.2 != 0 then (f,gy,w.2) else
 (⟨f.s,w.1,f.dX⟩,⟨0,n.ar,0,0,0,[],[]⟩,0)
def apO(f:aa)(o:jD)(hf:vm f)(ho:rY o):pt 100 f o (Ci f o):=by
 unfold pt;have hp:o.dL.length<=100000:=by have:=ho.dL; omega
 have hto:o.vi.length<=100000:=by have:=ho.vi; omega
 refine⟨.slice .c0 [],.slice .c0 [],.inr ⟨rfl,?_⟩,.inr ⟨rfl,?_⟩,aB ?_⟩
 ·unfold Ci; simp only[]; split<;>(try split)<;>rfl
 ·unfold Ci; simp only[]; split<;>(try split)<;>rfl
 unfold Ci;simp only[];have q1:=fun {M}=>LF f o o.dL hf.rt.small hf.rt.lL hp (p:=0) (M:=M)
 generalize ku f.s.now o.dL=v at q1 ⊢;have q1:=@q1;generalize bm f.s.now.ae v.1=n at q1 ⊢;have q2:=atv f.s.now hf.rt f.holds o.bE o.handle n.ar hf.holds hf.dQ;generalize vL f.s.now f.holds o.bE o.handle n.ar=w at q2 ⊢;simp only[dv,cg,aL] at q1 q2;cases h0:v.2 != 0
 ·cases h1:w.2 != 0
  ·simp only[MS,ad5,cg,dE,q1,q2,h0,h1,o7,av,af,EW,seval]
  ·simp only[MS,ad5,cg,dE,gy,q1,q2,h0,h1,gd,o7,af,EW,seval]
 simp_all [MS,ad5,dv,cg,dE,gy,gd,EW]
def xe(f:aa)(o:jD):Wk :=
 let w:=nC f.s.now f.holds o.bE o.handle
 let p:=qA f.s w.1
 if w.2.2 != 0 then (f,gy,w.2.2) else
 (⟨p,w.2.1,f.dX⟩,gy,0)
def apP(f:aa)(o:jD)(hf:vm f)(ho:rY o):pt 101 f o (xe f o):=by
 unfold pt;have hp:o.dL.length<=100000:=by have:=ho.dL; omega
 have hto:o.vi.length<=100000:=by have:=ho.vi; omega
 refine⟨.slice .c0 [],.slice .c0 [],.inr ⟨rfl,?_⟩,.inr ⟨rfl,?_⟩,aB ?_⟩
 ·unfold xe; simp only[]; split<;>rfl
 ·unfold xe; simp only[]; split<;>rfl
 unfold xe;simp only[];have q2:=atw f.s.now hf.rt f.holds o.bE o.handle hf.dQ;have hr:=hf.rt.close f.holds o.bE o.handle;generalize nC f.s.now f.holds o.bE o.handle=w at q2 hr ⊢;have q3:=amU f hf w.1 hr;generalize qA f.s w.1=p at q3 ⊢;simp only[bM,aM] at q2 q3;cases h0:w.2.2 != 0
 ·simp only[R4,ait,cg,dE,gy,q2,q3,h0,o7,av,af,EW,seval]
 ·simp only[R4,ait,cg,dE,gy,q2,h0,gd,o7,EW,seval]
def xt(f:aa)(o:jD):Wk :=
 let v:=ku f.s.now o.dL
 let n:=bm f.s.now.ae v.1
 let w:=vh f.s.now f.dX n.ar o.n o.m
 let r:=j5 f f.s.now w.1
 if v.2 != 0 then (f,gy,v.2) else
 if w.2 != 0 then (f,gy,w.2) else
 if r.2 != 0 then (r.1,gy,r.2) else
 (r.1,⟨0,n.ar,0,0,0,[],[]⟩,0)
def apT(f:aa)(o:jD)(hf:vm f)(ho:rY o):pt 105 f o (xt f o):=by
 unfold pt;have hp:o.dL.length<=100000:=by have:=ho.dL; omega
 have hto:o.vi.length<=100000:=by have:=ho.vi; omega
 refine⟨.slice .c0 [],.slice .c0 [],.inr ⟨rfl,?_⟩,.inr ⟨rfl,?_⟩,aB ?_⟩
 ·unfold xt; simp only[]; split<;>(try split)<;>(try split)<;>rfl
 ·unfold xt; simp only[]; split<;>(try split)<;>(try split)<;>rfl
 unfold xt;simp only[];have q1:=fun {M}=>LF f o o.dL hf.rt.small hf.rt.lL hp (p:=0) (M:=M)
 generalize ku f.s.now o.dL=v at q1 ⊢;have q1:=@q1;generalize bm f.s.now.ae v.1=n at q1 ⊢;have q2:=asH f.s.now f.dX n.ar o.n o.m hf.rt hf.dX hf.sO;have hr:=Gx (t:=f.s.now) hf.dX hf.sO n.ar o.n o.m;generalize vh f.s.now f.dX n.ar o.n o.m=w at q2 hr ⊢;have q5:=fun {M}=>Px f o f.s.now w.1 hf hf.rt hr.1 hr.2 (p:=0) (M:=M)
 generalize j5 f f.s.now w.1=r at q5 ⊢;simp only[dv,cg,aL] at q1 q2 q5;cases h0:v.2 != 0
 ·cases h1:w.2 != 0
  ·cases h2:r.2 != 0
   ·simp only[IX,X1,cg,dE,q1,q2,q5,h0,h1,h2,o7,av,af,EW,seval]
   ·simp only[IX,X1,cg,dE,gy,q1,q2,q5,h0,h1,h2,gd,o7,af,EW,seval]
  ·simp only[IX,X1,cg,dE,gy,q1,q2,h0,h1,gd,o7,af,EW,seval]
 simp_all [IX,X1,dv,cg,dE,gy,gd,EW]
def Cw(f:aa)(o:jD):Wk :=
 let v:=ku f.s.now o.dL
 let n:=bm f.s.now.ae v.1
 let w:=takeN f.s n.ar
 if v.2 != 0 then (f,gy,v.2) else
 if w.2.2 != 0 then (f,gy,w.2.2) else
 (⟨w.1,f.holds,f.dX⟩,⟨0,0,0,w.2.1,0,[],[]⟩,0)
def apU(f:aa)(o:jD)(hf:vm f)(ho:rY o):pt 106 f o (Cw f o):=by
 unfold pt;have hp:o.dL.length<=100000:=by have:=ho.dL; omega
 have hto:o.vi.length<=100000:=by have:=ho.vi; omega
 refine⟨.slice .c0 [],.slice .c0 [],.inr ⟨rfl,?_⟩,.inr ⟨rfl,?_⟩,aB ?_⟩
 ·unfold Cw; simp only[]; split<;>(try split)<;>rfl
 ·unfold Cw; simp only[]; split<;>(try split)<;>rfl
 unfold Cw;simp only[];have q1:=fun {M}=>LF f o o.dL hf.rt.small hf.rt.lL hp (p:=0) (M:=M)
 generalize ku f.s.now o.dL=v at q1 ⊢;have q1:=@q1;generalize bm f.s.now.ae v.1=n at q1 ⊢;have q2:=fun M=>lS (asI f.s n.ar hf.rt.small hf.rt.lL hf.dW M)
 generalize takeN f.s n.ar=w at q2 ⊢;simp only[dv,cg,aL,bM,aM] at q1 q2;cases h0:v.2 != 0
 ·cases h1:w.2.2 != 0
  ·simp only[MU,ad7,dv,cg,dE,gy,q1,q2,h0,h1,o7,av,af,aI,aD,EW,seval]
  ·simp only[MU,ad7,dv,cg,dE,gy,q1,q2,h0,h1,gd,o7,av,af,aI,aD,EW,seval]
 ·simp only[MU,ad7,dv,cg,dE,gy,q1,q2,h0,gd,o7,av,af,aI,aD,EW,seval]
def BZ(f:aa)(o:jD):Wk :=
 let w:=rC f.s o.n
 if w.2 != 0 then (f,gy,w.2) else
 (⟨w.1,f.holds,f.dX⟩,gy,0)
def apW(f:aa)(o:jD)(hf:vm f)(ho:rY o):pt 108 f o (BZ f o):=by
 unfold pt;have hp:o.dL.length<=100000:=by have:=ho.dL; omega
 have hto:o.vi.length<=100000:=by have:=ho.vi; omega
 refine⟨.slice .c0 [],.slice .c0 [],.inr ⟨rfl,?_⟩,.inr ⟨rfl,?_⟩,aB ?_⟩
 ·unfold BZ; simp only[]; split<;>rfl
 ·unfold BZ; simp only[]; split<;>rfl
 unfold BZ;simp only[];have q2:=fun M=>lS (asK f.s o.n (by have:=hf.dW; omega) (by have:=hf.eS; omega) M)
 generalize rC f.s o.n=w at q2 ⊢;simp only[dv,cg,aL,bM,aM] at q2;cases h0:w.2 != 0
 ·simp only[R5,aiu,dv,cg,dE,gy,q2,h0,o7,av,af,aI,aD,EW,seval]
 ·simp only[R5,aiu,dv,cg,dE,gy,q2,h0,gd,o7,av,af,aI,aD,EW,seval]
def AU(f:aa)(o:jD):Wk :=
 let w:=DR f.s.now f.holds o.bE
 let p:=qA f.s w.1
 (⟨p,w.2,f.dX⟩,gy,0)
def apX(f:aa)(o:jD)(hf:vm f)(ho:rY o):pt 109 f o (AU f o):=by
 unfold pt;have hp:o.dL.length<=100000:=by have:=ho.dL; omega
 have hto:o.vi.length<=100000:=by have:=ho.vi; omega
 refine⟨.slice .c0 [],.slice .c0 [],.inr ⟨rfl,?_⟩,.inr ⟨rfl,?_⟩,aB ?_⟩
 ·unfold AU; simp only[]; skip<;>rfl
 ·unfold AU; simp only[]; skip<;>rfl
 unfold AU;simp only[];have q2:=fun M=>lS (asL f.s.now f.holds o.bE hf.rt hf.dQ M)
 have hr:=(show Rt (DR f.s.now f.holds o.bE).1 from hf.rt.gone o.bE _ _)
 generalize DR f.s.now f.holds o.bE=w at q2 hr ⊢;have q3:=amU f hf w.1 hr;generalize qA f.s w.1=p at q3 ⊢;simp only[dv,cg,aL,bM,aM] at q2 q3;simp only[acd,aoI,dv,cg,dE,gy,q2,q3,av,af,aI,aD,EW,seval]
def jf(f:aa)(o:jD):Node×Int :=
 if (LD f.holds o.bE o.handle).2 != 0 then (Node.zero,(LD f.holds o.bE o.handle).2)
 else if decide (0<=o.n) then (bm f.s.now.ae (LD f.holds o.bE o.handle).1,0) else (Node.zero,1)
def aqC(f:aa)(o:jD)(hf:vm f):aq gN 159 [cA 0] [dv f o]=some (if (jf f o).2 != 0 then gd (jf f o).2 else .agg (aL (jf f o).1),[dv f o]):=by
 refine aB ?_;have q1:=fun M=>lS (as2 f.holds o.bE o.handle (by have:=hf.dQ; omega) M)
 have q2:=fun bb=>QK bb 1 rfl
 unfold jf;generalize LD f.holds o.bE o.handle=v at q1 ⊢;have q3:=fun {M}=>amB f o v.1 hf.rt.small hf.rt.lL (p:=0) (M:=M)
 simp only[dv,cg,aL] at q3;cases h0:v.2 != 0
 ·cases h1:decide (0<=o.n)
  ·simp only[M4,aei,dv,cg,aL,q1,q2,q3,o7,h0,h1,gd,av,af,aI,aD,EW,seval]
  ·simp only[M4,aei,dv,cg,aL,q1,q2,q3,o7,h0,h1,gd,av,af,aI,aD,EW,seval]
 ·simp only[M4,aei,dv,cg,aL,q1,q2,q3,o7,h0,gd,av,af,aI,aD,EW,seval]
def afK(f:aa)(o:jD)(hf:vm f){p:Nat}{M:aC}(hM:nth M p=some (dv f o)):aU (aq gN) 159 [cA p] M=some (if (jf f o).2 != 0 then gd (jf f o).2 else .agg (aL (jf f o).1),M):=by
 have:=Jl (vs:=[]) hM (aqC f o hf) rfl rfl (by split<;>rfl) (fun _=>rfl) (fun _=>by split<;>rfl)
 rwa[uX hM] at this
def rG(f:aa)(o:jD)(ar:Int)(d:Bytes):Wk :=
 let w:=rT f.s.now ar d
 let r:=j5 f w.1 f.dX
 if w.2 != 0 then (f,gy,w.2) else
 if r.2 != 0 then (r.1,gy,r.2) else
 (r.1,⟨0,ar,0,0,d.length,[],[]⟩,0)
def aqD(f:aa)(o:jD)(hf:vm f)(ar:Int)(d:Bytes)(hd:d.length<=100000):aq gN 161 [cA 0,aF ar,cX d] [dv f o] =
  some (if (rG f o ar d).2.2 != 0 then gd (rG f o ar d).2.2 else .tuple [],[dE (rG f o ar d).1 o (rG f o ar d).2.1 (.slice .c0 []) (.slice .c0 [])]):=by
 refine aB ?_;unfold rG;simp only[];have q1:=amT f.s.now hf.rt ar d hd;have hr:=hf.rt.put ar d;generalize rT f.s.now ar d=w at q1 hr ⊢;have q5:=fun {M}=>Px f o w.1 f.dX hf hr hf.dX hf.sO (p:=0) (M:=M)
 generalize j5 f w.1 f.dX=r at q5 ⊢;simp only[dv,cg] at q5;cases h0:w.2 != 0
 ·cases h1:r.2 != 0
  ·simp only[M5,aej,dv,cg,dE,gy,q1,q5,o7,h0,h1,av,af,aI,aD,EW,seval]
  ·simp only[M5,aej,dv,cg,dE,gy,q1,q5,o7,h0,h1,gd,av,af,aI,aD,EW,seval]
 ·simp only[M5,aej,dv,cg,dE,gy,q1,q5,o7,h0,gd,av,af,aI,aD,EW,seval]
def amx(f:aa)(o:jD)(hf:vm f)(ar:Int)(d:Bytes)(hd:d.length<=100000){p:Nat}{M:aC}(hM:nth M p=some (dv f o)):aU (aq gN) 161 [cA p,aF ar,cX d] M =
  some (if (rG f o ar d).2.2 != 0 then gd (rG f o ar d).2.2 else .tuple [],iR M p (dE (rG f o ar d).1 o (rG f o ar d).2.1 (.slice .c0 []) (.slice .c0 []))) :=
 tv hM (aqD f o hf ar d hd) rfl rfl (by split<;>rfl) rfl (by split<;>rfl) rfl rfl rfl rfl rfl
end
section
theorem atx(d:Bytes)(hd:d.length<=100000)(M:aC):aU (aq gN) 160 [cX d] M=some (cX d,M):=by
 have h:aq bZ 160 [cX d] []=some (cX d,[]):=by
  refine fg rfl ?_
  show JJ 1 1 [cX d] _=_
  grind [JJ,sm,ct,fi]
 exact lS (cO h M)
def BJ(X w:Bytes)(N:Nat)(h:N+w.length<=X.length):List.take X.length (List.take N (X.map pZ)++(List.take w.length (w.map pZ)++List.drop (N+w.length) (X.map pZ)))=(X.take N++(w++X.drop (N+w.length))).map pZ:=by
 rw[bB jK,bB (l:=w.map _) dx];simp
def Kj(k:Nat):List.replicate k (ag.agg [.int .u8 0]).norm=(List.replicate k (0:UInt8)).map pZ:=by
 rw[gY]; rfl
def Y9(M:aC)(id ver sz lo hi:Nat):ag.rq M (.cD id ver sz lo hi)=match nth M id with
  |some (.arr _ v xs)=>if v=ver then gG ((xs.take hi).drop lo) else .any
  |_ => .any:=rfl
theorem p93{d:Bytes}(h0:d≠[])(hd:d.length<=100000)(b:cL)(M:aC):aq gN 160 [gG (d.map pZ)] (b::M)=some (.cD (M.length+1) 0 1 0 d.length,(b::M)++[.arr 1 0 (d.map pZ)]):=by
 refine lS' (fg rfl ?_)
 show mR 1 1 [gG _] _=_
 obtain⟨a,r,rfl⟩:=fj h0
 grind [wid,sm,ct,mR,fi]
def anL{d:Bytes}(h0:d=[])(b:cL)(M:aC):aq gN 160 [gG (d.map pZ)] (b::M)=some (.slice .c0 [],b::M):=by
 subst h0;exact lS' (fg rfl rfl)
def Bp(a:Int)(n:Nat):Nat:=(if (n:Int)<a then (n:Int) else a).toNat
theorem Aa{a:Int}(h:0<=a)(n:Nat):(if (n:Int)<a then (n:Int) else a)=(Bp a n:Int)/\Bp a n<=n:=by
 grind [Bp]
theorem CX{f:aa}{o:jD}(h:((jf f o).2 != 0)=false):0<=o.n/\∃i,(jf f o).1=bm f.s.now.ae i:=by
 grind [jf]
def xB{f:aa}(hf:vm f)(i:Int):(bm f.s.now.ae i).data.length<=4096/\(bm f.s.now.ae i).bc.length<=64:=by
 obtain⟨dJ,h⟩:=hf.rt;unfold bm;cases hi:find _ i with
 |none=>simp[Node.zero]
 |some n =>
  simp;refine⟨?_,(h.yq _ _ hi).2⟩;rcases h.kind _ _ hi with h1|h1
  ·exact(h.file _ _ hi h1).2.2
  ·rw[h.dir _ _ hi h1]; simp
attribute [local irreducible] eX fJ lu gK eb kr aq aU cq bI
def Iz(f:aa)(o:jD):Wk :=
 if (jf f o).2 != 0 then (f,gy,(jf f o).2)
 else rG f o (jf f o).1.ar ((jf f o).1.data.take (Bp o.n (jf f o).1.data.length))
theorem tL(f:aa)(o:jD)(ar:Int)(d:Bytes):(rG f o ar d).2.1.names=[]/\(rG f o ar d).2.1.data=[]:=by
 unfold rG; simp only; split
 ·exact⟨rfl,rfl⟩
 ·split<;>exact⟨rfl,rfl⟩
def apS(f:aa)(o:jD)(hf:vm f)(ho:rY o):pt 104 f o (Iz f o):=by
 unfold pt;refine⟨.slice .c0 [],.slice .c0 [],.inr ⟨rfl,?_⟩,.inr ⟨rfl,?_⟩,aB ?_⟩
 ·unfold Iz; split
  ·rfl
  simp[tL]
 ·unfold Iz; split
  ·rfl
  simp[tL]
 have q1:=fun {M}=>afK f o hf (p:=0) (M:=M)
 have hn:=CX (f:=f) (o:=o);unfold Iz;cases h0:(jf f o).2 != 0
 ·obtain⟨hn0,i,hi⟩:=hn h0;have hsz:=(xB hf i).1;rw[<-hi] at hsz;generalize (jf f o).1=n at q1 hsz ⊢;generalize (jf f o).2=e at q1 h0 ⊢;obtain⟨m1,m2⟩:=Aa hn0 n.data.length;generalize Bp o.n n.data.length=mn at m1 m2 ⊢;have q2:=fun {M}=>amx f o hf n.ar (n.data.take mn) gm (p:=0) (M:=M)
  generalize rG f o n.ar (n.data.take mn)=r at q2 ⊢;have hle:((mn:Int)<=(n.data.length:Int))=True:=gm;have hz:((0:Int)<=(mn:Int))=True:=dx;simp only[dv,cg,dE,aL,cX,eP] at q1 q2;cases h1:r.2.2 != 0
  ·simp only[MT,ad6,cg,dE,q1,q2,h0,h1,m1,hle,hz,gD,af,EW,seval]
  ·simp only[MT,ad6,cg,dE,q1,q2,h0,h1,m1,hle,hz,gD,gd,af,EW,seval]
 simp_all [dv,cg,MT,ad6,dE,gy,gd,EW]
def Gy(f:aa)(o:jD):Wk :=
 if (jf f o).2 != 0 then (f,gy,(jf f o).2) else
 if !(decide (0<=o.m)&&decide (o.m<=4096)) then (f,gy,1) else
 (f,⟨0,(jf f o).1.ar,0,0,0,[],((jf f o).1.data.drop (Bp o.n (jf f o).1.data.length)).take (Bp o.m ((jf f o).1.data.length-Bp o.n (jf f o).1.data.length))⟩,0)
theorem apQ(f:aa)(o:jD)(hf:vm f)(ho:rY o):pt 102 f o (Gy f o):=by
 unfold pt;have q1:=fun {M}=>afK f o hf (p:=0) (M:=M)
 have hn:=CX (f:=f) (o:=o);have q2:=fun bb=>QK bb 1 rfl
 unfold Gy;cases h0:(jf f o).2 != 0
 ·obtain⟨hn0,i,hi⟩:=hn h0;have hsz:=(xB hf i).1;rw[<-hi] at hsz;generalize (jf f o).1=n at q1 hsz ⊢;generalize (jf f o).2=e at q1 h0 ⊢;obtain⟨m1,m2⟩:=Aa hn0 n.data.length;generalize Bp o.n n.data.length=mn at m1 m2 ⊢;have hle:((mn:Int)<=(n.data.length:Int))=True:=jK;have hz:∀k:Nat,((0:Int)<=(k:Int))=True:=fun k=>dx
  have ht:List.take n.data.length (n.data.map pZ)=n.data.map pZ:=bB dx;have dQ:(List.drop mn (n.data.map pZ)).length=n.data.length-mn:=dx;cases h1:(!(decide (0<=o.m)&&decide (o.m<=4096)))
  ·have h1':decide (0<=o.m)=true/\decide (o.m<=4096)=true:=by simpa using h1
   have hm0:0<=o.m:=jK;obtain⟨p1,p2⟩:=Aa hm0 (n.data.length-mn);generalize Bp o.m (n.data.length-mn)=mm at p1 p2 ⊢;have hle2:((mm:Int)<=((n.data.length-mn:Nat):Int))=True:=jK;have hw1:wid (List.drop mn (n.data.map pZ)) 1=True:=by have:=sm (n.data.drop mn); rwa[jS] at this
   have q3:=fun M=>atx ((n.data.drop mn).take mm) jK M
   refine⟨.slice .c0 [],cX ((n.data.drop mn).take mm),.inr ⟨rfl,rfl⟩,.inl rfl,aB ?_⟩;simp only[dv,cg,aL,cX,eP,jS] at q1 q3;simp only[IW,X0,cg,dE,q1,q2,q3,h0,h1'.1,h1'.2,m1,p1,hle,hle2,hz,ht,dQ,hw1,gD,cX,jS,dU,av,af,EW,seval]
  ·refine⟨.slice .c0 [],.slice .c0 [],.inr ⟨rfl,rfl⟩,.inr ⟨rfl,rfl⟩,aB ?_⟩
   have h1':(decide (0<=o.m)&&decide (o.m<=4096))=false:=by
    grind
   simp only[dv,cg,aL,cX] at q1;cases ha:decide (0<=o.m)<;>cases hb:decide (o.m<=4096)<;>simp only[ha,hb,jO,dR,gb] at h1'
   ·grind
   ·simp only[IW,X0,cg,dE,gy,q1,q2,h0,ha,gd,af,EW,seval]
   ·simp only[IW,X0,cg,dE,gy,q1,q2,h0,ha,hb,gd,af,EW,seval]
   ·cases h1'
 ·refine⟨.slice .c0 [],.slice .c0 [],.inr ⟨rfl,rfl⟩,.inr ⟨rfl,rfl⟩,aB ?_⟩;simp_all [dv,cg,IW,X0,dE,gy,gd,af,EW]
def nZ(d:Bytes)(n:Nat)(w:Bytes):Bytes :=
 if w=[] then d else (d++List.replicate (n+w.length-d.length) 0).take n++(w++(d++List.replicate (n+w.length-d.length) 0).drop (n+w.length))
def xR(f:aa)(o:jD):Wk :=
 if (jf f o).2 != 0 then (f,gy,(jf f o).2) else
 if !decide (o.n<=4096) then (f,gy,1) else
 if !decide (((o.n.toNat+o.data.length:Nat):Int)<=4096) then (f,gy,2) else
 rG f o (jf f o).1.ar (nZ (jf f o).1.data o.n.toNat o.data)
theorem apR(f:aa)(o:jD)(hf:vm f)(ho:rY o):pt 103 f o (xR f o):=by
 unfold pt;refine⟨.slice .c0 [],.slice .c0 [],.inr ⟨rfl,?_⟩,.inr ⟨rfl,?_⟩,aB ?_⟩
 ·unfold xR; split
  ·rfl
  ·split
   ·rfl
   ·split
    ·rfl
    grind [tL]
 ·unfold xR; split
  ·rfl
  ·split
   ·rfl
   ·split
    ·rfl
    ·rw[(tL ..).2]; rfl
 have q1:=fun {M}=>afK f o hf (p:=0) (M:=M)
 have hn:=CX (f:=f) (o:=o);have q2:=fun bb=>QK bb 1 rfl
 have q3:=fun bb=>QK bb 2 rfl
 unfold xR;cases h0:(jf f o).2 != 0
 ·obtain⟨hn0,i,hi⟩:=hn h0;have hsz:=(xB hf i).1;rw[<-hi] at hsz;generalize (jf f o).1=n at q1 hsz ⊢;generalize (jf f o).2=e at q1 h0 ⊢;simp only[dv,cg,aL] at q1;cases h1:decide (o.n<=4096)
  ·simp only[yF,HS,cg,dE,gy,q1,q2,h0,h1,gd,af,EW,seval]
  ·have hn1:o.n<=4096:=by simpa using h1
   obtain⟨N,hN⟩:∃N:Nat,o.n=(N:Int):=⟨o.n.toNat,aJ⟩;have hdl:=ho.data;have hw:IntKind.i64.wrap ((N:Int)+(o.data.length:Int))=((N+o.data.length:Nat):Int):=by rw[gA aJ aJ]; omega
   have hT:o.n.toNat=N:=aJ;rw[hT];rw[hN] at q1 h1;cases h2:decide (((N+o.data.length:Nat):Int)<=4096)
   ·simp only[yF,HS,cg,dE,gy,q1,q2,q3,h0,h1,h2,hw,hN,gd,af,EW,seval]
   ·have hE:N+o.data.length<=4096:=by
     have:((N+o.data.length:Nat):Int)<=4096:=by simpa using h2
     omega
    have hwl:(nZ n.data N o.data).length<=100000:=by
     unfold nZ; split
     ·omega
     ·simp; omega
    have q4:=fun {M}=>amx f o hf n.ar (nZ n.data N o.data) hwl (p:=0) (M:=M)
    generalize rG f o n.ar (nZ n.data N o.data)=r at q4 ⊢;simp only[dv,cg,dE,cX,hN] at q4
    by_cases hD:o.data=[]
    ·have hg:((0:Int)<(o.data.length:Int))=False:=by simp[hD]
     have hwr:nZ n.data N o.data=n.data:=by unfold nZ; rw[aZ hD]
     rw[hwr] at q4
     by_cases hd0:n.data=[]
     ·have p1:=anL (d:=n.data) hd0;rw[hd0] at q4;simp only[aQ] at q4;cases h3:r.2.2 != 0<;>simp only[yF,HS,cg,dE,q1,q2,q3,q4,p1,h0,h1,h2,h3,hN,hw,hg,gd,cX,qm,af,EW,seval]
     ·have p1:=p93 (d:=n.data) hd0 aJ;have ht:List.take n.data.length (n.data.map pZ)=n.data.map pZ:=bB dx;cases h3:r.2.2 != 0<;>simp only[yF,HS,cg,dE,q1,q2,q3,q4,p1,h0,h1,h2,h3,hN,hw,hg,ht,gd,cX,Y9,qm,af,EW,seval]
    ·have hdl0:0<o.data.length:=gS.2 hD;have hg:((0:Int)<(o.data.length:Int))=True:=gm;have hwb:=sm o.data
     by_cases hd0:n.data=[]
     ·have p1:=anL (d:=n.data) hd0;have hk:IntKind.i64.wrap (((N+o.data.length:Nat):Int)-0)=((N+o.data.length:Nat):Int):=by rw[gA aJ aJ]; simp
      have hm:(((N+o.data.length:Nat):Int)<0)=False:=gm;have hmi:min o.data.length (N+o.data.length-N)=o.data.length:=aJ;have rk:ct (N+o.data.length) 1=True:=qM;have b0:(((N+o.data.length:Nat):Int)==0)=false:=gm;have b1:((N:Int)==((N+o.data.length:Nat):Int))=false:=gm;have b2:((N:Int)<=((N+o.data.length:Nat):Int))=True:=gm;have b3:(((N+o.data.length:Nat):Int)<=((N+o.data.length:Nat):Int))=True:=dx;have hz:=Kj (N+o.data.length);have htl:=BJ (List.replicate (N+o.data.length) 0) o.data N dx
      have hwr:nZ n.data N o.data=(List.replicate (N+o.data.length) 0).take N++(o.data++(List.replicate (N+o.data.length) 0).drop (N+o.data.length)):=by
       unfold nZ; rw[aR hD,hd0]; simp
      rw[hwr,<-htl] at q4;rw[kU] at q4;have l1:(0<((List.replicate (N+o.data.length) (0:UInt8)).map pZ).length)=True:=gm;generalize (List.replicate (N+o.data.length) (0:UInt8)).map pZ=X at hz q4 l1;cases h3:r.2.2 != 0<;>simp only[yF,HS,cg,dE,q1,q2,q3,q4,p1,h0,h1,h2,h3,hN,hw,hg,hk,hm,hmi,hwb,rk,b0,b1,b2,b3,hz,l1,gD,gd,cX,Y9,qm,bP,af,EW,seval]
     ·have p1:=p93 (d:=n.data) hd0 aJ;have hL0:0<n.data.length:=gS.2 hd0;have l0:(0<n.data.length)=True:=gm;have hwn:=sm n.data
      by_cases hE2:N+o.data.length<=n.data.length
      ·have hk:IntKind.i64.wrap (((N+o.data.length:Nat):Int)-(n.data.length:Int))=((N+o.data.length:Nat):Int)-(n.data.length:Int):=gA aJ aJ;have hmx:(if ((N+o.data.length:Nat):Int)-(n.data.length:Int)<0 then (0:Int) else ((N+o.data.length:Nat):Int)-(n.data.length:Int))=0:=by split<;>omega
       have hmi:min o.data.length (n.data.length-N)=o.data.length:=aJ;have rk:ct (n.data.length+0) 1=True:=qM;have rk0:ct n.data.length 1=True:=qM;have b1:((N:Int)==(n.data.length:Int))=false:=gm;have b2:((N:Int)<=(n.data.length:Int))=True:=gm;have htl:=BJ n.data o.data N hE2
       have hwr:nZ n.data N o.data=n.data.take N++(o.data++n.data.drop (N+o.data.length)):=by
        unfold nZ; rw[aR hD,show N+o.data.length-n.data.length=0 by omega]; simp
       rw[hwr,<-htl] at q4;cases h3:r.2.2 != 0<;>simp only[yF,HS,cg,dE,q1,q2,q3,q4,p1,h0,h1,h2,h3,hN,hw,hg,hk,hmx,hmi,hwb,rk0,l0,b1,b2,gD,gd,cX,dU,Y9,qm,bP,af,EW,seval]
      ·have hk:IntKind.i64.wrap (((N+o.data.length:Nat):Int)-(n.data.length:Int))=((N+o.data.length:Nat):Int)-(n.data.length:Int):=gA aJ aJ;have hmx:(if ((N+o.data.length:Nat):Int)-(n.data.length:Int)<0 then (0:Int) else ((N+o.data.length:Nat):Int)-(n.data.length:Int))=((N+o.data.length-n.data.length:Nat):Int):=by split<;>omega
       have hsum:n.data.length+(N+o.data.length-n.data.length)=N+o.data.length:=aJ;have hmi:min o.data.length (N+o.data.length-N)=o.data.length:=aJ;have rk:ct (N+o.data.length) 1=True:=qM;have b0:(((N+o.data.length-n.data.length:Nat):Int)==0)=false:=gm;have b1:((N:Int)==((N+o.data.length:Nat):Int))=false:=gm;have b2:((N:Int)<=((N+o.data.length:Nat):Int))=True:=gm;have hz:=Kj (N+o.data.length-n.data.length);have htl:=BJ (n.data++List.replicate (N+o.data.length-n.data.length) 0) o.data N gm
       have hwr:nZ n.data N o.data=(n.data++List.replicate (N+o.data.length-n.data.length) 0).take N++(o.data++(n.data++List.replicate (N+o.data.length-n.data.length) 0).drop (N+o.data.length)):=by
        unfold nZ; rw[aR hD]
       rw[hwr,<-htl] at q4;have hlX:(n.data++List.replicate (N+o.data.length-n.data.length) (0:UInt8)).length=N+o.data.length:=gm;rw[hlX,aW] at q4;have l1:(0<N+o.data.length)=True:=gm;have lz:((List.replicate (N+o.data.length-n.data.length) (0:UInt8)).map pZ).length=N+o.data.length-n.data.length:=dx;generalize (List.replicate (N+o.data.length-n.data.length) (0:UInt8)).map pZ=Z at hz q4 lz;cases h3:r.2.2 != 0<;>simp only[yF,HS,cg,dE,q1,q2,q3,q4,p1,h0,h1,h2,h3,hN,hw,hg,hk,hmx,hsum,hmi,hwb,rk,l0,l1,lz,b0,b1,b2,hz,gD,gd,cX,dU,Y9,qm,bP,af,EW,seval]
 ·simp only[dv,cg,aL] at q1;simp only[yF,HS,cg,dE,gy,q1,h0,gd,EW,seval]
end
section
attribute [local irreducible] eX fJ lu gK eb kr aq aU cq bI
def akT(z:Int):aq bZ 166 [gG [],.func 206 [cA 0]] [cC [aF z]]=some (aF (-1),[cC [aF z]]):=by
 have h00:decide ((0:Int)<0)=false:=rfl;have hz:((0:Nat):Int)=0:=rfl;refine aB ?_;simp only[acH,aiA,hz,EN,seval];rw[bG];simp only[aiA,h00,EN,seval]
end
def amy(z:Int):aU (aq bZ) 166 [gG [],.func 206 [cA 0]] [cC [aF z]]=some (aF (-1),[cC [aF z]]) :=
 lj (ids:=[0]) rfl rfl (show jZ [cC [aF z]] (iB [0]) [0]=some [cC [aF z]] from rfl) rfl rfl (akT z) rfl rfl rfl rfl rfl
section
attribute [local irreducible] eX fJ lu gK eb kr aq aU cq bI
def ak0(z:Int):aq bZ 204 [gG [],.func 206 [cA 0]] [cC [aF z]]=some (gG [],[cC [aF z]]):=by
 have h11:((-1:Int) == -1)=true:=rfl;refine aB ?_;simp only[ac5,aoY,amy,h11,EN,seval]
end
def amI(z:Int)(b0 b2 b3:cL):aU (aq bZ) 204 [gG [],.func 206 [cA 1]] [b0,cC [aF z],b2,b3]=some (gG [],[b0,cC [aF z],b2,b3]) :=
 lj (ids:=[1]) rfl rfl (show jZ [b0,cC [aF z],b2,b3] (iB [1]) [1]=some [cC [aF z]] from rfl) rfl rfl (ak0 z) rfl rfl rfl rfl rfl
def ad0(b0 b2 b3:cL)(xs:List ag)(z:Int):jZ [b0,cC [aF z],b2,b3,.arr 3 0 xs] (iB [4,1]) [4,1]=some [.arr 3 0 xs,cC [aF z]]:=rfl
def asV(xs:List gP)(z:Int)(hn:xs.length<=100000)(h0:xs≠[])(hk:qY z xs≠[])(b0 b2 b3:cL):aU (aq bZ) 204 [.cD 4 0 3 0 xs.length,.func 206 [cA 1]] [b0,cC [aF z],b2,b3,.arr 3 0 (xs.map iJ)] =
  some (.cD 4 0 3 0 (qY z xs).length,[b0,cC [aF z],b2,b3,.arr 3 0 ((qY z xs++List.replicate (xs.length-(qY z xs).length) Mt).map iJ)]):=by
 have h:=akZ xs z hn h0;have hl:(qY z xs).length≠0:=fun hh=>hk (dz.1 hh)
 have hr:W7 (qY z xs).length = .cD 0 0 3 0 (qY z xs).length:=by simp[W7,Dw,hl]
 rw[hr] at h;exact lj (ids:=[4,1]) rfl rfl (ad0 ..) rfl rfl h rfl rfl rfl rfl rfl
def amJ(xs:List gP)(z:Int)(hn:xs.length<=100000)(h0:xs≠[])(hk:qY z xs=[])(b0 b2 b3:cL):aU (aq bZ) 204 [.cD 4 0 3 0 xs.length,.func 206 [cA 1]] [b0,cC [aF z],b2,b3,.arr 3 0 (xs.map iJ)] =
  some (gG [],[b0,cC [aF z],b2,b3,.arr 3 0 ((List.replicate xs.length Mt).map iJ)]):=by
 have h:=akZ xs z hn h0;have hr:W7 (qY z xs).length = gG []:=by simp[W7,Dw,hk]
 rw[hr,hk] at h;simp only[aP,az,bP] at h;exact lj (ids:=[4,1]) rfl rfl (ad0 ..) rfl rfl h rfl rfl rfl rfl rfl
section
attribute [local irreducible] eX fJ lu gK eb kr aq aU cq bI
end
section
def F1(x:gP):List gP->List gP
 | []=>[x]
 |y::r=>if x.ak<y.ak then x::y::r else y::F1 x r
def uB:List gP->List gP
 | []=>[]
 |x::r=>F1 x (uB r)
def ats(n:gP):uk 2 (iJ n)=n.ak:=rfl
def Jd(x:gP):∀l:List gP,DY 2 (iJ x) (l.map iJ)=(F1 x l).map iJ
 | []=>rfl
 |y::r=>by
  simp only[aH,DY,F1,ats]
  by_cases h:x.ak<y.ak
  ·simp only[h,aI,aH]
  ·simp only[h,aD,aH,Jd x r]
def GD:∀l:List gP,rX 2 (l.map iJ)=(uB l).map iJ
 | []=>rfl
 |x::r=>by simp only[aH,rX,uB,GD r,Jd]
def F2(x:gP):∀l,(F1 x l).length=l.length+1
 | []=>rfl
 |y::r=>by simp only[F1]; split<;>simp[F2 x r]
def wv:∀l,(uB l).length=l.length
 | []=>rfl
 |x::r=>by simp[uB,F2,wv r]
def Mc{l Z:List gP}{v:Nat}(hl:l.length<=1000000)(hn:(l.map gP.ak).Nodup):aq bZ 207 [.cD 0 v 3 0 l.length,.func 208 []] [.arr 3 v ((l++Z).map iJ)]=some (.tuple [],[.arr 3 v ((uB l++Z).map iJ)]):=by
 refine fg (g:=wL 3 2 208) rfl ?_;unfold wL;simp only[nth];have ht:((l++Z).map iJ).take l.length=l.map iJ:=by simp[fO]
 have hd:((l++Z).map iJ).drop l.length=Z.map iJ:=dx;rw[ht,hd,GD,<-aW];rw[fi]
 ·rfl
 ·refine⟨trivial,trivial,trivial,dx,trivial,aJ,?_,?_⟩
  ·intro x hx;obtain⟨n,_,rfl⟩:=eL.1 hx;rfl
  ·rw[gJ];exact hn
def anQ(xs:List ag)(v:Nat)(b0 b1 b2 b3:cL):jZ [b0,b1,b2,b3,.arr 3 v xs] (iB [4]) [4]=some [.arr 3 v xs]:=rfl
attribute [local irreducible] eX fJ lu gK eb kr aq aU cq bI
def asX{l Z:List gP}{v:Nat}(hl:l.length<=1000000)(hn:(l.map gP.ak).Nodup)(b0 b1 b2 b3:cL):aU (aq bZ) 207 [.cD 4 v 3 0 l.length,.func 208 []] [b0,b1,b2,b3,.arr 3 v ((l++Z).map iJ)]=some (.tuple [],[b0,b1,b2,b3,.arr 3 v ((uB l++Z).map iJ)]) :=
 lj (ids:=[4]) rfl rfl (anQ _ _ ..) rfl rfl (Mc hl hn) rfl rfl rfl rfl rfl
def adQ(M:aC):aU (aq bZ) 207 [gG [],.func 208 []] M=some (.tuple [],M):=by
 have h:aq bZ 207 [gG [],.func 208 []] []=some (.tuple [],[]):=by
  refine fg (g:=wL 3 2 208) rfl ?_;unfold wL;simp only[aI]
 exact cO h M
def zP(ae:List Node)(ar z:Int):List gP:=uB (qY z (gX ae ar).1.bc)
def wK(t:Tree)(ar z m:Int):List gP×Int×Int :=
 if decide (z<0)||(decide (m<1)||decide (64<m)) then ([],0,1)
 else if (gX t.ae ar).2 != 0 then ([],0,(gX t.ae ar).2)
 else if decide (((zP t.ae ar z).length:Int)<=m) then (zP t.ae ar z,0,0)
 else ((zP t.ae ar z).take m.toNat,nz (((zP t.ae ar z).getD (m.toNat-1) Mt).ak+1),0)
def x7{t:Tree}{dJ:Int->Nat}(h:dY t dJ 0)(ar:Int):((gX t.ae ar).1.bc.map gP.ak).Nodup/\(gX t.ae ar).1.bc.length<=64:=by
 unfold gX;cases hi:find t.ae ar with
 |none=>exact⟨ly,by simp[Node.zero]⟩
 |some n =>
  simp only;split
  ·exact⟨by rw[List.nodup_iff_pairwise_ne,jT]; exact(h.yq _ _ hi).1,(h.yq _ _ hi).2⟩
  ·exact⟨ly,by simp[Node.zero]⟩
def aqw(t:Tree)(ht:Rt t)(ar z m:Int):aq bZ 153 [br t,aF ar,aF z,aF m] []=some (.tuple [jc (wK t ar z m).1,aF (wK t ar z m).2.1,aF (wK t ar z m).2.2],[]):=by
 obtain⟨dJ,h⟩:=ht;refine aB ?_;have q1:=fun b c M=>Zk t.ae t.next t.ak ar h.lL.mr (by have:=h.ae; omega) 2 (b::c :: cC [ba t.ae,aF t.next,aF t.ak]::M) rfl
 obtain⟨hnd,h64⟩:=x7 h ar;have hknd:((qY z (gX t.ae ar).1.bc).map gP.ak).Nodup:=(List.filter_sublist.map _).nodup hnd;have hkl:(qY z (gX t.ae ar).1.bc).length<=64:=aY (bU _ _) h64;unfold wK zP;generalize gX t.ae ar=d at q1 hnd h64 hknd hkl ⊢;simp only[bL,aL] at q1;cases g1:decide (z<0)
 ·cases g2:decide (m<1)
  ·cases g3:decide (64<m)
   ·cases g4:d.2 != 0
    ·obtain⟨M,hM⟩:∃M:Nat,m=(M:Int):=⟨m.toNat,by simp at g2; omega⟩
     subst hM;have hM1:1<=M:=by simp at g2; omega
     have hM64:M<=64:=by simp at g3; omega
     generalize hE:d.1.bc=E at q1 hknd hkl h64 ⊢;have c0:∀b0 b2 b3,aU (aq bZ) 204 [gG [],.func 206 [cA 1]] [b0,cC [aF z],b2,b3]=some (gG [],[b0,cC [aF z],b2,b3]):=fun b0 b2 b3=>amI z b0 b2 b3
     have z0:((0:Int)<=(M:Int))=True:=dx
     by_cases hE0:E=[]
     ·have p1:∀M,aq bZ 205 [jc E] M=some (.slice .c0 [],M):=fun M=>by subst hE0; exact anK M
      have hk:uB (qY z E)=[]:=by subst hE0; rfl
      rw[hk];simp only[yG,HU,br,aM,q1,g1,g2,g3,g4,p1,c0,adQ,z0,az,aL,fF,af,aI,aD,EW,seval];rfl
     ·have p1:=fun M=>p58 (l:=E) hE0 aJ M
      by_cases hK0:qY z E=[]
      ·have p2:=fun b0 b2 b3=>amJ E z aJ hE0 hK0 b0 b2 b3
       have hk:uB (qY z E)=[]:=by rw[hK0]; rfl
       rw[hk];simp only[yG,HU,br,aM,q1,g1,g2,g3,g4,p1,p2,adQ,z0,az,aL,fF,af,aI,aD,EW,seval];rfl
      ·have p2:=fun b0 b2 b3=>asV E z aJ hE0 hK0 b0 b2 b3
       have hsl:=wv (qY z E);generalize qY z E=kk at p2 hknd hkl hK0 hsl ⊢;generalize List.replicate (E.length-kk.length) Mt=Z at p2;have p3:=fun b0 b1 b2 b3=>asX (l:=kk) (Z:=Z) (v:=0) aJ hknd b0 b1 b2 b3
       generalize uB kk=ss at p3 hsl ⊢;have tk:List.take kk.length ((ss++Z).map iJ)=ss.map iJ:=by rw[<-hsl]; simp[fO]
       cases g5:decide ((kk.length:Int)<=(M:Int))
       ·have cJ:M<kk.length:=by simp at g5; omega
        have g6:decide ((ss.length:Int)<=(M:Int))=false:=by rw[hsl]; exact g5
        have hw1:IntKind.i64.wrap ((M:Int)-1)=((M-1:Nat):Int):=by rw[gA aJ aJ]; omega
        have hx:=ai (show M-1<ss.length by omega)
        have hg:ss.getD (M-1) Mt=ss[M-1]:=by simp[List.getD,hx]
        have hat:(ss++Z)[M-1]?=some ss[M-1]:=by rw[aN aJ]; exact hx
        have tm:List.take M ((ss++Z).map iJ)=(ss.take M).map iJ:=by
         rw[<-eP,fO aJ]
        have b1:((M:Int)<=(kk.length:Int))=True:=gm;have b2:((M:Int)==0)=false:=gm;have b3:((0:Int)==(M:Int))=false:=gm;have b4:(((M-1:Nat):Int)<(kk.length:Int))=True:=gm;simp only[yG,HU,br,aM,q1,g1,g2,g3,g4,g5,g6,p1,p2,p3,z0,hw1,hg,hat,tm,b1,b2,b3,b4,gD,dU,bP,gk,aL,fF,af,aI,aD,EW,seval];rw[<-eP]
       ·have g6:decide ((ss.length:Int)<=(M:Int))=true:=by rw[hsl]; exact g5
        simp only[yG,HU,br,aM,q1,g1,g2,g3,g4,g5,g6,p1,p2,p3,tk,bP,aL,fF,af,aI,aD,EW,seval]
    ·simp only[yG,HU,br,aM,q1,g1,g2,g3,g4,aL,fF,af,aI,aD,EW,seval];rfl
   ·simp only[yG,HU,br,aM,g1,g2,g3,aL,er,fF,af,aI,aD,EW,seval];rfl
  ·simp only[yG,HU,br,aM,g1,g2,aL,dM,er,fF,af,aI,aD,EW,seval];rfl
 ·simp only[yG,HU,br,aM,g1,aL,dM,fF,af,aI,aD,EW,seval];rfl
def asE(t:Tree)(ht:Rt t)(ar z m:Int)(M:aC):aU (aq gN) 153 [.agg [ba t.ae,aF t.next,aF t.ak],aF ar,aF z,aF m] M=some (.tuple [jc (wK t ar z m).1,aF (wK t ar z m).2.1,aF (wK t ar z m).2.2],M) :=
 lS (cO (aqw t ht ar z m) M)
def PI{t:Tree}(ht:Rt t)(ar z m:Int):(wK t ar z m).1.length<=100000:=by
 obtain⟨dJ,h⟩:=ht;have h64:=(x7 h ar).2;have hf:(zP t.ae ar z).length<=64:=by unfold zP; rw[wv]; exact aY (bU _ _) h64
 unfold wK;split
 ·simp
 ·split
  ·simp
  ·split
   ·simp only; omega
   ·simp; omega
def Gb(f:aa)(o:jD):Wk :=
 let v:=ku f.s.now o.dL
 let l:=wK f.s.now (bm f.s.now.ae v.1).ar o.n o.m
 if v.2 != 0 then (f,gy,v.2) else
 if l.2.2 != 0 then (f,gy,l.2.2) else
 (f,⟨0,0,0,l.2.1,0,l.1.map gP.name,[]⟩,0)
def c98(f:aa)(o:jD)(hf:vm f)(ho:rY o):pt 98 f o (Gb f o):=by
 unfold pt;have q1:=fun {M}=>LF f o o.dL hf.rt.small hf.rt.lL (by have:=ho.dL; omega) (p:=0) (M:=M)
 unfold Gb;simp only[];generalize ku f.s.now o.dL=v at q1 ⊢;generalize bm f.s.now.ae v.1=n at q1 ⊢;have q2:=asE f.s.now hf.rt n.ar o.n o.m;have hl:=PI hf.rt n.ar o.n o.m;generalize wK f.s.now n.ar o.n o.m=l at q2 hl ⊢;have q3:=afI l.1 hl;simp only[dv,cg,aL] at q1;cases h0:v.2 != 0
 ·cases h1:l.2.2 != 0
  ·refine⟨dj (l.1.map gP.name),.slice .c0 [],.inl rfl,.inr ⟨rfl,rfl⟩,aB ?_⟩;simp only[Y6,E98,dv,cg,dE,aL,q1,q2,q3,o7,h0,h1,av,af,aI,aD,EW,seval]
  ·refine⟨.slice .c0 [],.slice .c0 [],.inr ⟨rfl,rfl⟩,.inr ⟨rfl,rfl⟩,aB ?_⟩;simp only[Y6,E98,dv,cg,dE,gy,aL,q1,q2,q3,o7,h0,h1,gd,av,af,aI,aD,EW,seval]
 ·refine⟨.slice .c0 [],.slice .c0 [],.inr ⟨rfl,rfl⟩,.inr ⟨rfl,rfl⟩,aB ?_⟩;simp only[Y6,E98,dv,cg,dE,gy,aL,q1,h0,gd,av,af,aI,aD,EW,seval]
end
section
attribute [local irreducible] eX fJ lu gK eb kr aq aU cq bI
def aqH(e:gP)(s:Bytes):aq bZ 167 [iJ e,cA 0] [cC [.str s]]=some (.bool (e.name==s),[cC [.str s]]):=by
 refine aB ?_;simp[acI,aoO,iJ,gk,EW]
def akU(xs:List gP)(s:Bytes)(hn:xs.length<=100000):aq bZ 166 [gG (xs.map iJ),.func 167 [cA 0]] [cC [.str s]]=some (aF (qD (fun e:gP=>e.name==s) xs 0),[cC [.str s]]) :=
 DN (by rfl) rfl hn (fun _=>rfl) (fun _=>rfl) rfl rfl fun x _ => .inl ⟨_,_,rfl,uM rfl (aqH x s) rfl rfl rfl rfl rfl rfl rfl rfl rfl⟩
def Oc:List ag:=[.int .i64 0,.int .i64 0,.int .i64 0,.slice .c0 [],.slice .c0 [],.int .i64 0]
def wN(o:Option Node):List ag:=match o with
 |some n=>aL n
 |none=>Oc
def adS(o:Option Node):po (.agg [aF 0,aF 0,aF 0,.slice .c0 [],.slice .c0 [],aF 0]) false (o.map bL) = .agg (wN o):=by cases o<;>rfl
def jm(all:AM Node):List Bytes->Option Node->Option Node×Int
 | [],o=>(o,0)
 |s::r,o=>if !((o.getD Node.zero).kind==2) then (o,73) else match (o.getD Node.zero).bc.find? (fun e=>e.name==s) with
  |none=>(o,70)
  |some e=>jm all r (eZ all e.ar)
def ga(l:List Node)(m:AM Node):AM Node:=l.foldl (fun m n=>kR m n.ar n) m
theorem VF{W:aa×jD}{at':Int}{p:List Bytes}{xs:List Node}(hn:xs.length<=200000){fin:AM Node}{k:List K}{r:Option (ag×aC)}
  (hx:∀e,kr (aq gN) [] 1 k ⟨.exit 0,(0,cA 0)::(2,aF at')::(5,dj p)::(6,.iC 1)::e,[dv W.1 W.2,.map (B2 fin) (ph bL fin)]⟩=r) :
  ∀(l pre:List Node)(m:AM Node),xs=pre++l->ga l m=fin->eX (aq gN) [] 1 k (.loop [0,2,5,6,42,43,44] Zx) [(0,cA 0),(2,aF at'),(5,dj p),(6,.iC 1),(42,ba xs),(43,aF xs.length),(44,aF pre.length)] [dv W.1 W.2,.map (B2 m) (ph bL m)]=r:=by
 obtain⟨f,o⟩:=W;simp only[dv,cg] at hx ⊢;intro l;induction l with
 |nil =>
  intro pre m h hfin;rw[bG];simp only[ga,ng] at hfin;subst hfin;simp only[AG,jL h,EW,seval];simp_all
 |cons n rest ih =>
  intro pre m h hfin;rw[bG];have dQ:pre.length+1<=200000:=by rw[h] at hn; grind
  have hw:IntKind.i64.wrap ((pre.length:Int)+1)=((pre++[n]).length:Int):=by rw[gA aJ aJ]; simp
  have hi1:=ih (pre++[n]) (kR m n.ar n) (by rw[h]; simp) hfin
  have hput:=sK bL m n.ar n;simp only[bL,aL,aA,az,aK] at hi1 hput;simp only[AG,iQ h,gU h,aL,hw,hput,bkN,EW,seval];omega
def VG{W:aa×jD}{all:AM Node}(hall:∀k n,eZ all k=some n->n.bc.length<=100000){xs:List Bytes}(hn:xs.length<=100000){fin:Option Node×Int}{k:List K}{r:Option (ag×aC)}
  (hx:fin.2=0->∀e,kr (aq gN) [] 1 k ⟨.exit 2,(0,.ptr 0 0)::(6,.iC 1)::(9,.ptr 2 0)::e,[dv W.1 W.2,.map (B2 all) (ph bL all),.cells (wN fin.1)]⟩=r)
  (hp:(fin.2 != 0)=true->∀c d,kr (aq gN) [] 1 k ⟨.nI (.iface 43 (.int .i64 fin.2)),[],[dv W.1 W.2,.map (B2 all) (ph bL all),.cells c,d]⟩=r) :
  ∀(l pre:List Bytes)(o:Option Node),xs=pre++l->(∀n,o=some n->n.bc.length<=100000)->jm all l o=fin->eX (aq gN) [] 1 k (.loop [0,6,9,56,57,58] Zy) [(0,.ptr 0 0),(6,.iC 1),(9,.ptr 2 0),(56,dj xs),(57,.int .i64 xs.length),(58,.int .i64 pre.length)] [dv W.1 W.2,.map (B2 all) (ph bL all),.cells (wN o)]=r:=by
 obtain⟨f,op⟩:=W;simp only[dv,cg] at hx hp ⊢;intro l;induction l with
 |nil =>
  intro pre o h ho hfin;rw[bG];rw[jm] at hfin;subst hfin;cases o<;>simp only[wN,Oc,aL,AG,jL h,EW,seval] at hx ⊢ <;> exact hx trivial _
 |cons s rest ih =>
  intro pre o h ho hfin;rw[bG];have dQ:pre.length+1<=100000:=by rw[h] at hn; simp at hn; omega
  have hw:=zy pre s;have q2:=fun bb=>QK bb 73 rfl
  have q3:=fun bb=>QK bb 70 rfl
  cases o with
  |none =>
   have hf:jm all (s::rest) none=(none,73):=rfl;rw[hf] at hfin;subst hfin;have h02:((0:Int)==2)=false:=rfl;simp only[wN,Oc,AG,iQ h,gU h,h02,q2,gd,af,EW,seval];exact hp rfl _ _
  |some n =>
   rw[jm] at hfin;simp only[bz] at hfin;cases hk:n.kind==2
   ·rw[hk] at hfin;simp only[dG,aI] at hfin;subst hfin;simp only[wN,aL,AG,iQ h,gU h,hk,q2,gd,af,EW,seval];exact hp rfl _ _
   ·rw[hk] at hfin;simp only[cu,af,aD] at hfin;have hne:=ho n rfl;have q4:∀M,nth M 3=some (.cells [.str s])->aU (aq gN) 166 [jc n.bc,.func 167 [.ptr 3 0]] M=some (.int .i64 (qD (fun e:gP=>e.name==s) n.bc 0),M):=fun M hM=>lS (zG hM (akU n.bc s hne) rfl rfl rfl)
    rcases ya (fun e:gP=>e.name==s) n.bc 0 with ⟨i1,i2⟩|⟨j,e,i1,i2,i3,_⟩
    ·rw[i2] at hfin;simp only at hfin;subst hfin;rw[i1] at q4;have hneg:(0<=(-1:Int))=False:=dx;simp only[wN,aL,AG,iQ h,gU h,hk,q2,q3,q4,hneg,gd,af,EW,seval];exact hp rfl _ _
    ·rw[i3] at hfin;simp only at hfin;rw[i1,aK] at q4;have hi:=ih (pre++[s]) (eZ all e.ar) (by rw[h]; simp) (fun m hm=>hall _ _ hm) hfin
     have hlg:=adS (eZ all e.ar);simp only[aA,aw,az,aK] at hi;have hisC:(wN (eZ all e.ar)).all ag.jg=true:=by cases eZ all e.ar<;>rfl
     have hlC:(wN (eZ all e.ar)).length=6:=by cases eZ all e.ar<;>rfl
     have hbC:∀B M,List.map (ag.jG B M) (wN (eZ all e.ar))=wN (eZ all e.ar):=fun B M=>by cases eZ all e.ar<;>rfl
     generalize wN (eZ all e.ar)=gc at hi hlg hisC hlC hbC;simp only[wN,aL,gk,AG,iQ h,gU h,hk,q2,q3,q4,i2,o9,hlg,hisC,hlC,hbC,hw,mapOf.eq_1,bkN,EW,seval];exact hi
theorem GH{all:AM Node}{P:Node->Prop}(hall:∀k n,eZ all k=some n->P n):∀(f:Nat)(ar:Int)(st:VS),(∀n,n∈st.2->P n)->∀n,n∈(j6 all f ar st).2.2->P n:=by
 intro f;induction f with
 |zero=>intro ar st h; exact h
 |succ f ih =>
  intro ar st h;rw[j6];split
  ·exact h
  ·split
   ·exact h
   ·rename_i h1;cases hn:eZ all ar with
    |none=>grind
    |some n =>
     have hfold:∀(l:List gP)(w:Bool×VS),(∀n,n∈w.2.2->P n)->∀n,n∈(l.foldl (fun w e=>((j6 all f e.ar w.2).1&&w.1,(j6 all f e.ar w.2).2)) w).2.2->P n:=by
      intro l;induction l<;>grind
     grind
theorem JB(x y:Node):∀l:List Node,y∈Hi x l->y=x\/y∈l
 | [],h=>by grind [Hi]
 |z::r,h=>by
  simp[Hi] at h;split at h
  ·grind
  ·rcases bJ.1 h with h|h
   ·grind
   ·rcases JB x y r h with h|h
    ·grind
    grind
theorem Bn(y:Node):∀l:List Node,y∈Cr l->y∈l
 | [],h=>h
 |x::r,h=>by
  rcases JB x y _ h with h|h
  ·grind
  ·exact bt _ (Bn y r h)
theorem zk:∀(l:List Node)(m:AM Node)(k:Int)(n:Node),eZ (ga l m) k=some n->n∈l\/eZ m k=some n
 | [],m,k,n,h => .inr h
 |x::r,m,k,n,h=>by
  have h'  := h;rcases zk r _ k n h' with h|h
  ·grind
  grind [jy]
theorem vm.all{f:aa}(hf:vm f)(a:Int):yw (zC f.s a)/\(zC f.s a).length<=100200:=by
 obtain⟨g1,g2⟩:=xF a _ [] ⟨fun k n h=>(by cases h),fun k n h=>(by cases h)⟩ (fun p hp=>by have:=(hf.Eu p hp).1; omega)
 obtain⟨g3,g4⟩:=Br a _ f.s.since _ g1 (fun n hn=>by have:=hf.rt.sz.bc n hn; omega)
 have:=hf.rt.sz.ae; have h3:=hf.eS
 grind [zC]
theorem aeA{f:aa}(hf:vm f)(id:Int):(vq f.s id).2.1.length<=200000/\∀n,n∈(vq f.s id).2.1->n.bc.length<=100000:=by
 unfold vq;split
 ·rename_i x _;obtain⟨h1,h2⟩:=hf.all x.at';have hg:=xQ h1.own 200001 x.ar ([],[]);refine⟨?_,fun n hn=>?_⟩
  ·have:=hg.len; have h3:=wk (zC f.s x.at') []
   grind [DU,BE,xP]
  ·have:=Bn n _ hn;exact GH h1.bc 200001 x.ar _ (fun n h=>jK) n this
 simp
def Gp(f:aa)(o:jD):Wk :=
 let a:=vq f.s o.n
 let p:=gH o.dL
 let r:=jm (ga a.2.1 []) p.1 (eZ (ga a.2.1 []) a.1)
 if a.2.2 != 0 then (f,gy,a.2.2) else
 if p.2 != 0 then (f,gy,p.2) else
 if r.2 != 0 then (f,gy,r.2) else
 (f,⟨0,(r.1.getD Node.zero).ar,(r.1.getD Node.zero).kind,(r.1.getD Node.zero).eG,Cq (r.1.getD Node.zero),(r.1.getD Node.zero).bc.map gP.name,(r.1.getD Node.zero).data⟩,0)
theorem Cm{all:AM Node}(hall:∀k n,eZ all k=some n->n.bc.length<=100000):∀(p:List Bytes)(o:Option Node),(∀n,o=some n->n.bc.length<=100000)->∀n,(jm all p o).1=some n->n.bc.length<=100000
 | [],o,ho,n,h=>ho n h
 |s::r,o,ho,n,h=>by
  rw[jm] at h;split at h
  ·grind
  ·split at h
   ·grind
   ·exact Cm hall r _ (fun m hm=>hall _ _ hm) n h
theorem apV(f:aa)(o:jD)(hf:vm f)(ho:rY o):pt 107 f o (Gp f o):=by
 unfold pt;have q1:=fun M=>lS (asJ f.s o.n (by have:=hf.dW; omega) (by have:=hf.eS; omega) (fun p hp=>by have:=(hf.Eu p hp).1; omega) hf.rt.sz hf.len M)
 have ha:=aeA hf o.n;have q2:=afL o.dL (by have:=ho.dL; omega)
 have hp:=(ym o.dL).2;unfold Gp;simp only[];generalize vq f.s o.n=a at q1 ha ⊢;generalize gH o.dL=p at q2 hp ⊢
 have hall:∀k n,eZ (ga a.2.1 []) k=some n->n.bc.length<=100000:=fun k n h=>by
  rcases zk _ _ _ _ h with h|h
  ·exact ha.2 n h
  ·cases h
 have hpe:=Cm hall p.1 (eZ (ga a.2.1 []) a.1) (fun n h=>hall _ _ h)
 simp only[bM] at q1;have k155z:∀M,aU (aq gN) 155 [.agg [aF 0,aF 0,aF 0,gG [],gG [],aF 0]] M=some (aF (Cq Node.zero),M):=fun M=>afJ Node.zero M
 have k154z:∀M,aU (aq gN) 154 [gG []] M=some (gG [],M):=fun M=>afI [] dx M
 cases h0:a.2.2 != 0
 ·cases h1:p.2 != 0
  ·have hlg:=adS (eZ (ga a.2.1 []) a.1);have hisC:(wN (eZ (ga a.2.1 []) a.1)).all ag.jg=true:=by cases eZ (ga a.2.1 []) a.1<;>rfl
   have hlC:(wN (eZ (ga a.2.1 []) a.1)).length=6:=by cases eZ (ga a.2.1 []) a.1<;>rfl
   have main:∀x y,(Row x (((jm (ga a.2.1 []) p.1 (eZ (ga a.2.1 []) a.1)).1.getD Node.zero).bc.map gP.name |>.map ag.str)/\x=dj (((jm (ga a.2.1 []) p.1 (eZ (ga a.2.1 []) a.1)).1.getD Node.zero).bc.map gP.name)) ->
     (y=match (jm (ga a.2.1 []) p.1 (eZ (ga a.2.1 []) a.1)).1 with|some n=>cX n.data|none => .slice .c0 []) ->
     aq gN 107 [cA 0] [cC (cg f o)]=some (if (jm (ga a.2.1 []) p.1 (eZ (ga a.2.1 []) a.1)).2 != 0 then gd (jm (ga a.2.1 []) p.1 (eZ (ga a.2.1 []) a.1)).2 else .tuple [],
      [if (jm (ga a.2.1 []) p.1 (eZ (ga a.2.1 []) a.1)).2 != 0 then dE f o gy (.slice .c0 []) (.slice .c0 []) else
       dE f o ⟨0,((jm (ga a.2.1 []) p.1 (eZ (ga a.2.1 []) a.1)).1.getD Node.zero).ar,((jm (ga a.2.1 []) p.1 (eZ (ga a.2.1 []) a.1)).1.getD Node.zero).kind,((jm (ga a.2.1 []) p.1 (eZ (ga a.2.1 []) a.1)).1.getD Node.zero).eG,Cq ((jm (ga a.2.1 []) p.1 (eZ (ga a.2.1 []) a.1)).1.getD Node.zero),[],[]⟩ x y]):=by
    rintro x y ⟨_,hx⟩ hy;subst hx hy;refine aB ?_
    have hb:=VG (W:=(f,o)) hall (xs:=p.1) aJ (fin:=jm (ga a.2.1 []) p.1 (eZ (ga a.2.1 []) a.1)) (k:=[.block 2,.seq abf]) (r:=some (if (jm (ga a.2.1 []) p.1 (eZ (ga a.2.1 []) a.1)).2 != 0 then gd (jm (ga a.2.1 []) p.1 (eZ (ga a.2.1 []) a.1)).2 else .tuple [],
      [if (jm (ga a.2.1 []) p.1 (eZ (ga a.2.1 []) a.1)).2 != 0 then dE f o gy (.slice .c0 []) (.slice .c0 []) else
       dE f o ⟨0,((jm (ga a.2.1 []) p.1 (eZ (ga a.2.1 []) a.1)).1.getD Node.zero).ar,((jm (ga a.2.1 []) p.1 (eZ (ga a.2.1 []) a.1)).1.getD Node.zero).kind,((jm (ga a.2.1 []) p.1 (eZ (ga a.2.1 []) a.1)).1.getD Node.zero).eG,Cq ((jm (ga a.2.1 []) p.1 (eZ (ga a.2.1 []) a.1)).1.getD Node.zero),[],[]⟩ (dj (((jm (ga a.2.1 []) p.1 (eZ (ga a.2.1 []) a.1)).1.getD Node.zero).bc.map gP.name)) (match (jm (ga a.2.1 []) p.1 (eZ (ga a.2.1 []) a.1)).1 with|some n=>cX n.data|none => .slice .c0 [])]))
     (fun hz e=>by
      generalize jm (ga a.2.1 []) p.1 (eZ (ga a.2.1 []) a.1)=r at hz hpe ⊢;obtain⟨o',e'⟩:=r;simp only at hz;subst hz;cases o' with
      |none =>
       simp only[dv,cg,dE,wN,Oc,k154z,k155z,AG,hZ,av,af,EW,seval];rfl
      |some n =>
       have q5:=afI n.bc (hpe n rfl);have q6:=afJ n;simp only[aL] at q6;simp only[dv,cg,dE,wN,aL,q5,q6,AG,bz,av,af,EW,seval])
     (fun hz c d=>by
      rw[aZ hz,aZ hz];simp[dv,cg,dE,gy,gd,EW]) p.1 [] (eZ (ga a.2.1 []) a.1) rfl (fun n h=>hall _ _ h) rfl
    generalize jm (ga a.2.1 []) p.1 (eZ (ga a.2.1 []) a.1)=r at hb ⊢
    have hl:=VF (W:=(f,o)) (at':=a.1) (p:=p.1) (xs:=a.2.1) ha.1 (fin:=ga a.2.1 []) (k:=[.block 0,.seq abg]) (r:=some (if r.2 != 0 then gd r.2 else .tuple [],[if r.2 != 0 then dE f o gy (.slice .c0 []) (.slice .c0 []) else
       dE f o ⟨0,(r.1.getD Node.zero).ar,(r.1.getD Node.zero).kind,(r.1.getD Node.zero).eG,Cq (r.1.getD Node.zero),[],[]⟩ (dj ((r.1.getD Node.zero).bc.map gP.name)) (match r.1 with|some n=>cX n.data|none => .slice .c0 [])]))
     (fun e=>by
      generalize ga a.2.1 []=al at hlg hisC hlC hb ⊢;generalize wN (eZ al a.1)=gc at hlg hisC hlC hb;simp only[dv,cg,az] at hb;simp only[dv,cg,AG,o9,mapOf.eq_1,hlg,hisC,hlC,EW,seval];omega) a.2.1 [] [] rfl rfl
    simp only[dv,cg,az,G9,Ha] at hl;simp only[MV,AG,cg,q1,q2,o7,h0,h1,af,EW,seval]
    grind
   generalize jm (ga a.2.1 []) p.1 (eZ (ga a.2.1 []) a.1)=r at main ⊢;cases h2:r.2 != 0
   ·refine⟨dj ((r.1.getD Node.zero).bc.map gP.name),(match r.1 with|some n=>cX n.data|none => .slice .c0 []),.inl rfl,?_,?_⟩
    ·obtain⟨o',e'⟩:=r;cases o'
     ·exact .inr ⟨rfl,rfl⟩
     ·exact .inl rfl
    ·have:=main _ _ ⟨.inl rfl,rfl⟩ rfl;rw[h2] at this;simpa only[af,aD,av,dE] using this
   ·refine⟨.slice .c0 [],.slice .c0 [],.inr ⟨rfl,rfl⟩,.inr ⟨rfl,rfl⟩,?_⟩;have:=main _ _ ⟨.inl rfl,rfl⟩ rfl;rw[h2] at this
    grind
  ·refine⟨.slice .c0 [],.slice .c0 [],.inr ⟨rfl,rfl⟩,.inr ⟨rfl,rfl⟩,aB ?_⟩;simp only[MV,AG,cg,dE,gy,q1,q2,o7,h0,h1,gd,af,EW,seval]
 ·refine⟨.slice .c0 [],.slice .c0 [],.inr ⟨rfl,rfl⟩,.inr ⟨rfl,rfl⟩,aB ?_⟩;simp only[MV,AG,cg,dE,gy,q1,o7,h0,gd,EW,seval]
end
end
section
open Go Go.RowKit Go.Extern.Stop Go.Stop Go.Extern
def LZ (h:Value) (w:World):(Go.method 507 215 (.agg #[h]) "Kind").run Tryz.prog w = .ok (352,h) w:=fu
def LY (h:Value) (w:World):(Go.method 507 215 (.agg #[h]) "Elem").run Tryz.prog w = .ok (362,.agg #[h]) w:=fu
def Bo (h:Value) (w:World):(Go.method 507 215 (.agg #[h]) "Implements").run Tryz.prog w = .ok (363,.agg #[h]) w:=fu
def zj (h:Value) (w:World):(Go.method 507 215 (.agg #[h]) "AssignableTo").run Tryz.prog w = .ok (360,.agg #[h]) w:=fu
def rlm(z:Sem Value)(f:TypeId->Addr->Nat->Nat->Sem Value)(v:Value) :
  ReflectliteValue.method z f #[v]=(do match <-ReflectliteValue.parts v with|none=>z|some (t,a,fl)=>f t a fl (fl % 32)):=rfl
theorem rls:∃s1 s2 s3 s4 s5:String,∀v x:Value,ReflectliteValue.set #[v,x]=(do
  let (some (dst,a,fl),some (src,b,_)):=(<-ReflectliteValue.parts v,<-ReflectliteValue.parts x)
   |unsupported (.noEntry s1)
  if fl / ReflectliteValue.flagAddr % 2==0 then unsupported (.noEntry s2)
  let val <-loadVar src b
  if <-Rtype.directlyAssignable dst src then storeVar dst a val
  else if <-Rtype.implements dst src then
   if (<-Rtype.kind src)==20 then
    match val with
    | .nilIface=>unsupported (.noEntry s3)
    |_=>storeVar dst a val
   else storeVar dst a (.iface src val)
  else panicString (s4 ++ (<-Rtype.spelt src) ++ s5 ++ (<-Rtype.spelt dst))
  pure (.tuple #[])):=⟨_,_,_,_,_,fun v x=>rfl⟩
def Lo(t:Addr)(w:World):(ReflectliteValue.unpack (.iface 102 (.pointer (some t)))).run Tryz.prog w
  = .ok (.agg #[.pointer (some ⟨2,102,none⟩),.pointer (some ⟨w.heap.size,0,none⟩),.int .u64 150]) (w.alloc (.cells #[.pointer (some t)] 102)):=fu
def YY (a:Addr) (w:World):(ReflectliteValue.methodAny (ReflectliteValue.valueError "reflectlite.Value.Type" 0) (fun t _ _ _=>ReflectliteType.toType t) #[.agg #[.pointer (some ⟨2,102,none⟩),.pointer (some a),.int .u64 150]]).run Tryz.prog w
  = .ok (.iface 215 (.agg #[.pointer (some ⟨2,102,none⟩)])) w:=fu
def YW(w:World):((ReflectliteType.abiMethod fun t=>Functor.map (fun a:Nat=>Value.int IntKind.u8 (a:Int)) (Rtype.kind t)) #[.pointer (some ⟨2,102,none⟩)]).run Tryz.prog w = .ok (.int .u8 22) w:=fu
def YX(w:World):((ReflectliteType.abiMethod fun t=>Functor.map (fun a:Nat=>Value.int IntKind.u8 (a:Int)) (Rtype.kind t)) #[.pointer (some ⟨2,43,none⟩)]).run Tryz.prog w = .ok (.int .u8 2) w:=fu
def IK(a:Addr)(w:World):(ReflectliteValue.parts (.agg #[.pointer (some ⟨2,102,none⟩),.pointer (some a),.int .u64 150])).run Tryz.prog w = .ok (some (102,a,150)) w:=fu
def RQ(a p:Addr)(W:World)(ha:W.cell? a=some (.pointer (some p))) :
  (ReflectliteValue.method (ReflectliteValue.valueError "reflectlite.Value.IsNil" 0) ReflectliteValue.isNil #[.agg #[.pointer (some ⟨2,102,none⟩),.pointer (some a),.int .u64 150]]).run Tryz.prog W = .ok (.bool false) W:=by
 rw[rlm];simp only[Sem.run_bind,IK,Result.andThen];simp[ReflectliteValue.isNil,loadVar,isAgg,underlying,underlying102,ha,Result.andThen]
def YV(w:World):(ReflectliteType.method ReflectliteType.elem #[.agg #[.pointer (some ⟨2,102,none⟩)]]).run Tryz.prog w = .ok (.iface 215 (.agg #[.pointer (some ⟨2,43,none⟩)])) w:=fu
def E7 (w:World):(ReflectliteType.relation "Implements" ReflectliteType.implements_ #[.agg #[.pointer (some ⟨2,43,none⟩)],.iface 215 (.agg #[.pointer (some ⟨2,99,none⟩)])]).run Tryz.prog w = .ok (.bool true) w:=fu
def Pa(v:Value)(w:World):(ReflectliteType.typeOf #[.iface 43 v]).run Tryz.prog w = .ok (.iface 215 (.agg #[.pointer (some ⟨2,43,none⟩)])) w:=fu
def E6 (w:World):(ReflectliteType.relation "AssignableTo" ReflectliteType.assignableTo #[.agg #[.pointer (some ⟨2,43,none⟩)],.iface 215 (.agg #[.pointer (some ⟨2,43,none⟩)])]).run Tryz.prog w = .ok (.bool true) w:=fu
def Lp(e:Int)(w:World):(ReflectliteValue.unpack (.iface 43 (.int .i64 e))).run Tryz.prog w
  = .ok (.agg #[.pointer (some ⟨2,43,none⟩),.pointer (some ⟨w.heap.size,0,none⟩),.int .u64 130]) (w.alloc (.cells #[.int .i64 e] 43)):=fu
def O8(w:World):(Rtype.elem? 102).run Tryz.prog w = .ok (some 43) w:=fu
def alh(p:Addr)(w:World):(ReflectliteValue.mk 43 p ReflectliteValue.flagAddr).run Tryz.prog w = .ok (.agg #[.pointer (some ⟨2,43,none⟩),.pointer (some p),.int .u64 386]) w:=fu
def RP(a p:Addr)(W:World)(ha:W.cell? a=some (.pointer (some p))) :
  (ReflectliteValue.method (ReflectliteValue.valueError "reflectlite.Value.Elem" 0) ReflectliteValue.elem #[.agg #[.pointer (some ⟨2,102,none⟩),.pointer (some a),.int .u64 150]]).run Tryz.prog W
   = .ok (.agg #[.pointer (some ⟨2,43,none⟩),.pointer (some p),.int .u64 386]) W:=by
 rw[rlm];simp only[Sem.run_bind,IK,Result.andThen];simp[ReflectliteValue.elem,loadVar,isAgg,underlying,underlying102,ha,Result.andThen,O8,alh]
def O9(a:Addr)(w:World):(ReflectliteValue.parts (.agg #[.pointer (some ⟨2,43,none⟩),.pointer (some a),.int .u64 386])).run Tryz.prog w = .ok (some (43,a,386)) w:=fu
def RR(a:Addr)(w:World):(ReflectliteValue.parts (.agg #[.pointer (some ⟨2,43,none⟩),.pointer (some a),.int .u64 130])).run Tryz.prog w = .ok (some (43,a,130)) w:=fu
def O7(w:World):(Rtype.directlyAssignable 43 43).run Tryz.prog w = .ok true w:=fu
def afj(ta b:Addr)(e:Int)(ur:Value)(W:World)(hb:W.cell? b=some (.int .i64 e))(ht:W.cell? ta=some ur)(hf:W.frozen? ta=false) :
  (ReflectliteValue.set #[.agg #[.pointer (some ⟨2,43,none⟩),.pointer (some ta),.int .u64 386],.agg #[.pointer (some ⟨2,43,none⟩),.pointer (some b),.int .u64 130]]).run Tryz.prog W
   = .ok (.tuple #[]) (W.setCell ta (.int .i64 e)):=by
 have hz:=sizeOf43;have hadd:∀a:Addr,a.add 0=a:=fun a=>by simp[Addr.add]
 obtain⟨s1,s2,s3,s4,s5,rls⟩:=rls;rw[rls];simp only[Sem.run_bind,O9,RR,Result.andThen];simp[ReflectliteValue.flagAddr,loadVar,isAgg,underlying,underlying43,hb,Result.andThen,O7,storeVar,Value.cells,storeCells,loadCells,loadCellsFrom,hz,hadd];rw[run_store Tryz.prog W ta _ _ (by rfl)]
 simp[ht,hf]
set_option maxHeartbeats 4000000 in
set_option maxRecDepth 40000 in
def alg(e:Int)(t:Addr)(ur:Value)(w:World)(hg:w.cell? ⟨0,0,none⟩=some (.iface 215 (.agg #[.pointer (some ⟨2,99,none⟩)])))(ht0:w.cell? t=some ur)(hf0:w.frozen? t=false) :
  Calls Tryz.prog 51 #[.iface 43 (.int .i64 e),.iface 102 (.pointer (some t))] w fun ev w'=>ev = .returned (.bool true)/\w'=((((w.alloc (.cells #[.pointer (some t)] 102)).alloc (.cells #[.pointer (some ⟨2,102,none⟩),.pointer (some ⟨w.heap.size,0,none⟩),.int .u64 150] 173)).alloc (.cells #[.pointer (some ⟨2,102,none⟩),.pointer (some ⟨w.heap.size,0,none⟩),.int .u64 150] 173)).alloc (.cells #[.int .i64 e] 43)).setCell t (.int .i64 e):=by
 have h6:=@run_callFunc_extern Tryz.prog 89 _ (fun args=>ReflectliteValue.unpack (args.getD 0 (.tuple #[]))) func89 fu fu fu fu
 have h7:=@run_callFunc_extern Tryz.prog 90 _ (ReflectliteValue.methodAny (ReflectliteValue.valueError "reflectlite.Value.Type" 0) (fun t _ _ _=>ReflectliteType.toType t)) func90 fu fu fu fu
 have h8:=@run_callFunc_extern Tryz.prog 91 _ (ReflectliteValue.method (ReflectliteValue.valueError "reflectlite.Value.IsNil" 0) ReflectliteValue.isNil) func91 fu fu fu fu;have h27:=@run_callFunc_extern Tryz.prog 352 _ (ReflectliteType.abiMethod fun t=>do pure (.int .u8 (<-Rtype.kind t))) func352 fu fu fu fu
 have h37:=@run_callFunc_extern Tryz.prog 362 _ (ReflectliteType.method ReflectliteType.elem) func362 fu fu fu fu;have h38:=@run_callFunc_extern Tryz.prog 363 _ (ReflectliteType.relation "Implements" ReflectliteType.implements_) func363 fu fu fu fu;have h10:=@run_callFunc_extern Tryz.prog 142 _ ReflectliteType.typeOf func142 fu fu fu fu;have h35:=@run_callFunc_extern Tryz.prog 360 _ (ReflectliteType.relation "AssignableTo" ReflectliteType.assignableTo) func360 fu fu fu fu;have h11:=@run_callFunc_extern Tryz.prog 143 _ (ReflectliteValue.method (ReflectliteValue.valueError "reflectlite.Value.Elem" 0) ReflectliteValue.elem) func143 fu fu fu fu;have h12:=@run_callFunc_extern Tryz.prog 144 _ ReflectliteValue.set func144 fu fu fu fu;have tO:=Pa;have mA:=zj;have a25:=E6;have v25:=Lp;have f6:=Lo;have f7:=YY;have mK:=LZ;have mE:=LY;have mI:=Bo;have k27:=YW;have k25:=YX;have e27:=YV;have i25:=E7;have n8:=RQ ⟨w.heap.size,0,none⟩ t ((w.alloc (.cells #[.pointer (some t)] 102)).alloc (.cells #[.pointer (some ⟨2,102,none⟩),.pointer (some ⟨w.heap.size,0,none⟩),.int .u64 150] 173)) dx
 have cJ:0<w.heap.size:=by
  rcases gZ w.heap.size with h0|h
  ·simp[World.cell?,h0] at hg
  ·exact h
 have hg2:((w.alloc (.cells #[.pointer (some t)] 102)).alloc (.cells #[.pointer (some ⟨2,102,none⟩),.pointer (some ⟨w.heap.size,0,none⟩),.int .u64 150] 173)).cell? ⟨0,0,none⟩=some (.iface 215 (.agg #[.pointer (some ⟨2,99,none⟩)])):=by
  rw[World.cell?_alloc_lt _ _ ⟨0,0,none⟩ dx,World.cell?_alloc_lt _ _ ⟨0,0,none⟩ cJ]; exact hg
 have htl:t.block<w.heap.size:=by
  rcases bC t.block w.heap.size with h|h
  ·exact h
  ·simp[World.cell?,iv h] at ht0
 have el:=RP ⟨w.heap.size,0,none⟩ t (((w.alloc (.cells #[.pointer (some t)] 102)).alloc (.cells #[.pointer (some ⟨2,102,none⟩),.pointer (some ⟨w.heap.size,0,none⟩),.int .u64 150] 173)).alloc (.cells #[.pointer (some ⟨2,102,none⟩),.pointer (some ⟨w.heap.size,0,none⟩),.int .u64 150] 173)) (by rw[World.cell?_alloc_lt _ _ ⟨w.heap.size,0,none⟩ gm]; simp)
 have st:=afj t ⟨w.heap.size+1+1+1,0,none⟩ e ur ((((w.alloc (.cells #[.pointer (some t)] 102)).alloc (.cells #[.pointer (some ⟨2,102,none⟩),.pointer (some ⟨w.heap.size,0,none⟩),.int .u64 150] 173)).alloc (.cells #[.pointer (some ⟨2,102,none⟩),.pointer (some ⟨w.heap.size,0,none⟩),.int .u64 150] 173)).alloc (.cells #[.int .i64 e] 43))
  (by rw[World.cell?_alloc_at _ _ _ _ dx]; rfl)
  (by rw[World.cell?_alloc_lt _ _ t gm,World.cell?_alloc_lt _ _ t gm,World.cell?_alloc_lt _ _ t gm,World.cell?_alloc_lt _ _ t htl]; exact ht0)
  (by rw[World.frozen?_alloc_old _ _ t gm,World.frozen?_alloc_old _ _ t gm,World.frozen?_alloc_old _ _ t gm,World.frozen?_alloc_old _ _ t (gM htl)]; exact hf0)
 go_enter func51,ntmps51
 go_wp2
 refine wp_loop_rounds 1 ?_;rw[rounds_succ]
 go_wp2
 go_ret
 exact⟨rfl,rfl⟩
end
end Go.Proofs.YteoamaffclmdbaaGreatDoor
namespace Go.Proofs.YteoamaffclmdbaaGreatDoor
open Go Go.Abs
def Gs:cG :=
 (.seq (.region [
 ob 36 (.mv (.tmp 8)),
 ob 37 (.chk (.tmp 36)),
 ob 38 (.yE 0 (.tmp 37)),
 ob 39 (.mP 10 (.tmp 38)),
 ob 40 (.mv (.tmp 8)),
 ob 41 (.chk (.tmp 40)),
 ob 42 (.yE 18 (.tmp 41)),
 ob 43 (.mP 7 (.tmp 42)),
 ⟨none,.store 10 (.tmp 4) (.tmp 39),none,true,false,[42],true⟩,
 ox (.store 7 (.tmp 5) (.tmp 43))] true [4,5]) (.ret))
def Gu:cG :=
 (.seq (.region [
 ob 33 (.mv (.tmp 6)),
 ob 34 (.mv (.tmp 8)),
 ob 35 (.sC (.tmp 33) [(.tmp 34)])] false [4,5,8]) Gs)
def Gv:cG :=
 (.seq (.region [
 ob 29 (.mP 10 (.tmp 2)),
 ob 30 (.mP 8 (.tmp 3)),
 ob 31 (.build [(.slice .c0 []),(.int .i64 0),(.int .i64 0),(.int .i64 0),(.slice .c0 []),(.slice .c0 []),(.slice .c0 []),(.int .i64 0),(.slice .c0 []),(.slice .c0 []),(.int .i64 0),(.int .i64 0),(.str []),(.str []),(.int .i64 0),(.int .i64 0),(.int .i64 0),(.slice .c0 []),(.int .i64 0),(.int .i64 0),(.int .i64 0),(.int .i64 0),(.int .i64 0),(.slice .c0 []),(.slice .c0 [])] [(0,10,(.tmp 29)),(10,8,(.tmp 30))]),
 ob 32 (.box (.tmp 31)),
 ob 8 (.mv (.tmp 32))] false [4,5,6,8]) Gu)
def Gw:cG :=
 (.seq (.region [
 ob 17 (.mv (.tmp 7)),
 ob 18 (.mv (.tmp 17)),
 og 19 18 true (.yE 1 (.tmp 3)),
 og 20 18 true (.rH (.tmp 19)),
 og 21 18 true (.bin .geq (.tmp 20) (.tg (.int .i64 0))),
 ob 22 (.pick (.tmp 18) (.tmp 21) (.tg (.bool false))),
 ob 23 (.mv (.tmp 22)),
 og 24 23 true (.yE 1 (.tmp 3)),
 og 25 23 true (.rH (.tmp 24)),
 og 26 23 true (.bin .lss (.tmp 25) (.tg (.int .i64 16))),
 ob 27 (.pick (.tmp 23) (.tmp 26) (.tg (.bool false))),
 ob 28 (.call 53 [(.tmp 27),(.tg (.int .i64 1))])] false [2,3,4,5,6]) Gv)
noncomputable def ab2:Code:=match Tryz.f29.body with|some (.seq _ (.seq _ r))=>r|_ => .skip
def Q7:CA:={ n:=44,own:=[],lv:=[(2,[2,3,4,5,6,7]),(3,[2,3,4,5,6]),(4,[4,5,6,8]),(5,[4,5,8]),(6,[4,5])],lp:=[] }
def wG:cG :=
 (.seq (.region [
 ⟨(some 11),.call 52 [],none,true,false,[],false⟩,
 ob 12 (.yE 0 (.tmp 3)),
 ob 13 (.rH (.tmp 12)),
 ob 14 (.look .i (.raw .nilFunc) true (.tmp 11) (.tmp 13)),
 ob 10 (.mv (.tmp 14)),
 ob 15 (.extract (.tmp 10) 0),
 ob 16 (.extract (.tmp 10) 1),
 ob 6 (.mv (.tmp 15)),
 ob 7 (.mv (.tmp 16))] true [2,3,4,5,6,7]) Gw)
def anH:comp Tryz.prog Q7 ab2=some wG:=fu
noncomputable def ab3:Code:=match Tryz.f50.body with|some (.seq _ (.seq _ (.cond _ (.seq _ (.seq _ r)) _)))=>r|_ => .skip
def aex:CA:={ n:=20,own:=[],lv:=[(5,[])],lp:=[] }
def yD:cG :=
 (.region [
 ob 17 (.mP 10 (.tmp 0)),
 ob 18 (.rH (.tmp 5)),
 ob 19 (.build [(.int .i64 0),(.int .i64 0),(.int .i64 0),(.int .i64 0),(.int .i64 0),(.slice .c0 []),(.slice .c0 [])] [(0,1,(.tmp 18))]),
 ox (.store 10 (.tmp 1) (.tmp 17)),
 ox (.store 7 (.tmp 2) (.tmp 19))] false [])
def anI:comp Tryz.prog aex ab3=some yD:=fu
noncomputable def ab1:Code:=match Tryz.f29.body with|some (.seq r _)=>r|_ => .skip
def aew:CA:={ n:=44,own:=[],lv:=[(0,[2,3,4,5])],lp:=[] }
def MG:cG :=
 (.region [
 ob 2 (.box (.tmp 0)),
 ob 3 (.box (.tmp 1)),
 ob 4 (.yU [(.slice .c0 []),(.int .i64 0),(.int .i64 0),(.int .i64 0),(.slice .c0 []),(.slice .c0 []),(.slice .c0 []),(.int .i64 0),(.slice .c0 []),(.slice .c0 [])]),
 ob 5 (.yU [(.int .i64 0),(.int .i64 0),(.int .i64 0),(.int .i64 0),(.int .i64 0),(.slice .c0 []),(.slice .c0 [])])] false [2,3,4,5])
def anG:comp Tryz.prog aew ab1=some MG:=fu
end Go.Proofs.YteoamaffclmdbaaGreatDoor
namespace Go.Proofs.YteoamaffclmdbaaGreatDoor
open Go Go.Abs
def KI(w:World):(Instr.typeAssert .nilIface 20 99 true).run Tryz.prog w = .ok (.tuple #[.nilIface,.bool false]) w:=fu
def KH(v:Value)(w:World):(Instr.typeAssert (.iface 43 v) 20 99 true).run Tryz.prog w = .ok (.tuple #[.iface 43 v,.bool true]) w:=fu
set_option maxRecDepth 40000 in
def KS(p q r:Value)(w:World) :
  CallsD Tryz.prog 50 #[p,q,r] .returning w fun e u' w'=>e = .returned (.tuple #[])/\u' = .returning/\w'=w:=by
 refine callsD_of_wpS func50 rfl fun c₀ cs hu=>?_
 simp only[ntmps50,da,aw,az,Nat.reduceAdd,Nat.reduceSub,jM,jN,lh,kc,aG,aP];apply wpS_seq;apply wpS_region;simp[wpOpsS,go_sem,recoverD,hu,Exit.thenS,KI];apply wpS_seq;apply wpS_region;simp[wpOpsS,go_sem,Exit.thenS];refine wpS_cond (t:=false) (by simp[Act.eval]) ?_
 simp only[af,aD];refine wpS_of_wp (wp_skip ?_);cases c₀;simp_all [bodyPostS,results,Tryz.results50]
def GY(w:World)(o:Obj):(w.alloc o).heap=w.heap.push o:=rfl
def WQ{e:Int}{j:J}{M:aC}{w W:World}(hr:Rel j M w)(hsz:w.heap.size<W.heap.size)(hos:W.os=w.os)(ht:W.tape=w.tape)(hou:W.output=w.output)(jw:W.heap[w.heap.size]?=some (.cells #[.int .i64 e] 43 (0,0)))(hb:∀b,b<w.heap.size->W.heap[b]?=w.heap[b]?) :
  Rel (gI j M.length (some w.heap.size)) (M++[.cells [.int .i64 e]]) W/\Ext j M w (gI j M.length (some w.heap.size)) (M++[.cells [.int .i64 e]]) W:=by
 have hob:∀b,some w.heap.size=some b->w.heap.size<=b/\b<W.heap.size:=fun b h=>by injection h with h; omega
 have q:Quiet w W:=⟨aJ,hos,ht,hou⟩;refine⟨hr.push hob q hb (fun _=>⟨_,rfl,fun j' M' _=>⟨_,_,jw,rfl,fun i c v hc hv=>?_⟩⟩) (fun sz n b h=>by cases h),Ext.push (fun b h=>(hob b h).1) q hb⟩
 match i with
 |0 =>
  simp at hc hv;subst hc; subst hv;exact .plain (.int _ _)
 |i+1=>simp at hc
def OQ{e:Int}{j:J}{M:aC}{w:World}(hr:Rel j M w)(hG:sV j M w){p q r:Value}{xp xq xr:ag}(hp:gn j M w xp p)(hq:gn j M w xq q)(hr':gn j M w xr r){o:Out}
  (ho:eO (aq gN) yD [(0,xp),(1,xq),(2,xr),(5,.ptr M.length 0)] (M++[.cells [.int .i64 e]])=some o) (hn:o.e = .normal) :
  CallsD Tryz.prog 50 #[p,q,r] (.panicking [{ v := .iface 43 (.int .i64 e),recovered:=false }]) w fun ed u' w' =>
   ed = .returned (.tuple #[])/\u' = .panicking [{ v := .iface 43 (.int .i64 e),recovered:=true }]/\∃j',Rel j' o.mem w'/\Ext j M w j' o.mem w':=by
 have hg:=(hG.g 0 [IL] 0 IL rfl rfl).2;have cJ:0<w.heap.size:=(hG.g 0 [IL] 0 IL rfl rfl).1.lt;refine callsD_of_wpS func50 rfl fun c₀ cs hu=>?_
 simp only[ntmps50,da,aw,az,Nat.reduceAdd,Nat.reduceSub,jM,jN,lh,kc,aG,aP];apply wpS_seq;apply wpS_region;simp[wpOpsS,go_sem,recoverD,hu,Exit.thenS,KH];apply wpS_seq;apply wpS_region;simp[wpOpsS,go_sem,Exit.thenS];refine wpS_cond (t:=true) (by simp[Act.eval]) ?_
 simp only[aI];refine wpS_of_wp ?_;refine wp_seq (wp_region ?_);simp[wpOps,go_sem,Exit.then]
 refine .inl (wp_seq (wp_seq (wp_region ?_)));simp[wpOps,go_sem,Exit.then]
 repeat' refine Or.inl ?_
 refine(alg e ⟨w.heap.size,0,none⟩ (.int .i64 0) _ ?_ ?_ ?_).mono ?_
 ·rw[World.cell?_alloc_lt _ _ ⟨0,0,none⟩ cJ]; exact hg
 ·simp
 ·simp
 rintro ev w' ⟨rfl,rfl⟩;simp[go_sem];refine .inl (wp_cond (t:=false) ?_ ?_)
 ·simp[Act.eval]
 simp only[af,aD];refine wp_skip ?_;simp only[Exit.then]
 have hR:=WQ (e:=e) hr (W:=((((w.alloc (.cells #[.int .i64 e] 43)).alloc (.cells #[.pointer (some ⟨w.heap.size,0,none⟩)] 102)).alloc (.cells #[.pointer (some ⟨2,102,none⟩),.pointer (some ⟨w.heap.size+1,0,none⟩),.int .u64 150] 173)).alloc (.cells #[.pointer (some ⟨2,102,none⟩),.pointer (some ⟨w.heap.size+1,0,none⟩),.int .u64 150] 173)).alloc (.cells #[.int .i64 e] 43))
  (by simp only[GY,Array.size_push]; omega) rfl rfl rfl (by
   have h2:w.heap.size≠w.heap.size+1+1:=aJ;have h3:w.heap.size≠w.heap.size+1+1+1:=aJ;have h4:w.heap.size≠w.heap.size+1+1+1+1:=aJ;simp only[GY]; simp[fU,h2,h3,h4]) (fun b hb=>by
   have h1:b≠w.heap.size:=aJ;have h2:b≠w.heap.size+1:=aJ;have h3:b≠w.heap.size+1+1:=aJ;have h4:b≠w.heap.size+1+1+1:=aJ;have h5:b≠w.heap.size+1+1+1+1:=aJ;simp only[GY]; simp[fU,h1,h2,h3,h4,h5])
 have hG':=hG.mono hR.2;have key:=wpIn_wide.1 (mM (rd:=none) (nd:=0) fu Mn ab3 anI ho hR.1 hG' (a:={ tmps := #[p,q,r,.iface 43 (.int .i64 e),.bool true,.pointer (some ⟨w.heap.size,0,none⟩),.tuple #[.iface 43 (.int .i64 e),.bool true],.iface 43 (.int .i64 e),.tuple #[.iface 43 (.int .i64 e),.bool true],.iface 43 (.int .i64 e),.bool true,.bool true,.iface 43 (.int .i64 e),.iface 102 (.pointer (some ⟨w.heap.size,0,none⟩)),.bool true,.bool false,undef,undef,undef,undef],defers:=[] }) ?_ rfl)
 ·refine wp_mono key ?_;rintro ex a' w' ⟨h1,h2,h3,j',h4,h5,h6⟩;rw[hn] at h1;simp only[rS] at h1;subst h1;simp[bodyPostS,results,Tryz.results50,h3];exact⟨j',h4,hR.2.trans h6⟩
 ·refine⟨fun t=>?_,hG'⟩
  match t with
  |0=>exact hp.mono hR.2
  |1=>exact hq.mono hR.2
  |2=>exact hr'.mono hR.2
  |5=>exact .ptr dx ⟨_,kf⟩ (by simp[gI])
  |3=>exact .any _
  |4=>exact .any _
  |t+6=>exact .any _
end Go.Proofs.YteoamaffclmdbaaGreatDoor
namespace Go.Abs
open Go
variable [kC]
def WS{a:Act}{d:Option Nat}{v:Value}{t:Nat}(h:d≠some t):(a.put d v).tmps.getD t undef=a.tmps.getD t undef:=by
 cases d with
 |none=>rfl
 |some s =>
  have hne:s≠t:=fun e=>h (by rw[e])
  simp[Act.put,dy,fD hne]
def S4{F:Fence}{n:Nat}{P:Program}{ops:Array Oper}{Q:Exit->Act->World->Prop}{ks:List Nat}{v0:Nat->Value}:∀(l:List Nat)(a:Act)(w:World),
  (∀i o,i∈l->ops[i]?=some o->∀t,t∈ks->o.dst≠some t)->(∀t,t∈ks->a.tmps.getD t undef=v0 t)->wpOpsIn F n P ops Q l a w->wpOpsIn F n P ops (fun e a' w'=>Q e a' w'/\(e = .outgrown\/∀t,t∈ks->a'.tmps.getD t undef=v0 t)) l a w:=by
 intro l;induction l with
 |nil=>exact fun a w _ hv h=>⟨h,.inr hv⟩
 |cons i rest ih =>
  intro a w hd hv h;have hd':∀i o,i∈rest->ops[i]?=some o->∀t,t∈ks->o.dst≠some t:=fun i o hi=>hd i o (bt _ hi)
  simp only[wpOpsIn] at h ⊢;cases ho:ops[i]? with
  |none=>rw[ho] at h; exact ih a w hd' hv h
  |some o =>
   rw[ho] at h;have hdo:=hd i o bD ho;have hp:∀(a:Act) v,(∀t,t∈ks->a.tmps.getD t undef=v0 t)->∀t,t∈ks->(a.put o.dst v).tmps.getD t undef=v0 t:=fun a v h t ht=>(WS (hdo t ht)).trans (h t ht)
   simp only at h ⊢;split at h
   ·rename_i hw;rw[aZ hw];refine⟨h.1,?_⟩;have h:=h.2;unfold Oper.uponIn at h ⊢;split at h
    ·exact ih _ _ hd' (hp _ _ hv) h
    ·exact ih _ _ hd' (hp _ _ hv) h
    ·exact ih _ _ hd' (hp _ _ hv) h
    ·refine⟨h.1,h.2.mono fun e w' h=>?_⟩
     cases e with
     |returned v=>exact ih _ _ hd' (hp _ _ hv) h
     |panicked c=>exact⟨h,.inr hv⟩
     |outgrown=>obtain⟨a1,w1,h⟩:=h; exact⟨a1,w1,h,.inl rfl⟩
    ·exact⟨h.1,h.2.mono fun v w' h=>ih _ _ hd' (hp _ _ hv) h⟩
    ·refine⟨h.1,h.2.mono fun e w' h=>?_⟩
     cases e with
     |returned v=>exact ih _ _ hd' (hp _ _ hv) h
     |panicked c=>exact⟨h,.inr hv⟩
     |outgrown=>obtain⟨a1,w1,h⟩:=h; exact⟨a1,w1,h,.inl rfl⟩
    ·exact⟨h,.inr hv⟩
    ·exact h.elim
   ·rename_i hw;rw[aR hw];exact⟨h.1,ih _ _ hd' (hp _ _ hv) h.2⟩
def CN(ks:List Nat)(bp:Env)(o:Out):Out:=match o.e with
 | .nI v=>⟨.nI v,jq bp ks,o.mem⟩
 |_=>o
noncomputable def rN(C:eR)(ks:List Nat):cG->Env->aC->Option Out
 | .seq x y,bp,M=>bI (rN C ks x bp M) fun o=>uf o (rN C ks y)
 | .region ops d live,bp,M=>bI (eO C (.region ops d live) bp M) fun o=>some (if d then o else CN ks bp o)
 | .rq t c,bp,M=>rN C ks c (Ly M t bp) (qm M (ib bp t).ids)
 |c,bp,M=>eO C c bp M
def I7(ks:List Nat):Code->Bool
 | .seq x y=>I7 ks x&&I7 ks y
 | .region _ ops _=>ops.toList.all fun o=>match o.dst with|some d => !ks.contains d|none=>true
 |_=>true
def J3{P:Program}{C:eR}{A:CA}(hmix:P.follows .mixedOrders=true)(hC:nM P C){rd:Option Nat}{nd:Nat}{ks:List Nat}:∀(c:Code){ac:cG},comp P A c=some ac->I7 ks c=true->∀ {bp:Env} {M:aC} {o:Out},rN C ks ac bp M=some o ->
  ∀ {j:J} {w:World} {a:Act},Rel j M w->sV j M w->cn j M w bp a->a.tmps.size=A.n->c.wpIn (Wd rd) nd P (Yk A j M w a o) a w:=by
 intro c;induction c with
 |seq x y ihx ihy =>
  intro ac hc hf bp M o h j w a hr hG he hs;simp only[comp] at hc;obtain⟨ax,hx,hc⟩:=bf hc;obtain⟨ay,hy,hc⟩:=bf hc;cases hc;simp only[I7,bw] at hf;simp only[rN] at h;obtain⟨o1,h1,h⟩:=bo h;refine wpIn_seq (wpIn_mono (ihx hx hf.1 h1 hr hG he hs) ?_);rintro e a1 w1 ⟨he1,hs1,hd1,j1,r1,e1,x1⟩;rcases ug h with ⟨hn,h2⟩|⟨hn,h2⟩
  ·rw[hn] at he1;subst he1;obtain⟨env',M',h3,r3,e3,x3⟩:=Nd (F:=rN C ks) (fun _ _ _ _=>rfl) h2 r1 e1
   refine wpIn_mono (ihy hy hf.2 h3 r3 (hG.mono (x1.trans x3)) e3 hs1) ?_;rintro e a2 w2 ⟨he2,hs2,hd2,j2,r2,e2,x2⟩;exact⟨he2,hs2,hd2.trans hd1,j2,r2,e2,(x1.trans x3).trans x2⟩
  ·subst h2;have:rS o.e ≠ .normal:=by cases ho:o.e<;>simp_all [rS]
   subst he1
   cases hx:rS o.e<;>first
    |exact absurd hx this
    |exact⟨hx.symm,hs1,hd1,j1,r1,e1,x1⟩
 |region id ops draw =>
  intro ac hc hf bp M o h j w a hr hG he hs;cases draw with
  |true =>
   have hc0:=hc;simp only[comp,aI] at hc;obtain⟨l0,hl0,hc⟩:=bf hc;obtain⟨l,hl,hc⟩:=bf hc;cases hc;simp only[rN,aI] at h;obtain⟨o1,h1,h⟩:=bo h;cases h;exact mM hmix hC _ hc0 h1 hr hG he hs
  |false =>
   have hc0:=hc;simp only[comp,af,aD] at hc;obtain⟨l,hl,hc⟩:=bf hc;cases hc;simp only[rN,af,aD] at h;obtain⟨o1,h1,h⟩:=bo h;cases h;simp only[eO] at h1;obtain⟨x,hx,h1⟩:=bo h1;cases h1
   have hdst:∀i o,i∈List.range ops.size->ops[i]?=some o->∀t,t∈ks->o.dst≠some t:=by
    intro i o _ hio t ht hd;simp only[I7,bN] at hf;have:=hf o (Array.mem_toList_iff.2 (Array.mem_of_getElem? hio));rw[hd] at this;simp[ht] at this
   refine wpIn_mono (wpIn_region (S4 (v0:=fun t=>a.tmps.getD t undef) _ a w hdst (fun _ _=>rfl) (by
    rw[lA];exact yh hC (grow:=[]) ops.toList 0 dx hl hx hr hG he hs fun a' w' j' h1 h2 h3 h4 h5=>Bx (live:=find A.lv id) h1 h2 h3 h4 h5))) ?_
   rintro e a1 w1 ⟨⟨he1,hs1,hd1,j1,r1,e1,x1⟩,hk⟩;clear hx;generalize x.rn (find A.lv id)=y at he1 r1 e1 x1 ⊢;cases hye:y.e with
   |nI v =>
    have hp:CN ks bp y=⟨.nI v,jq bp ks,y.mem⟩:=by unfold CN; rw[hye]
    rw[hp];have hk':=hk.resolve_left (by rw[he1,hye]; simp[rS])
    refine⟨by rw[he1,hye],hs1,hd1,j1,r1,⟨fun t=>?_,hG.mono x1⟩,x1⟩
    rw[zb];split
    ·rename_i ht;rw[hk' t ht];exact(he.at' t).mono x1
    ·exact .any _
   |normal =>
    have hp:CN ks bp y=y:=by unfold CN; rw[hye]
    rw[hp]; exact⟨he1,hs1,hd1,j1,r1,e1,x1⟩
   |ret =>
    have hp:CN ks bp y=y:=by unfold CN; rw[hye]
    rw[hp]; exact⟨he1,hs1,hd1,j1,r1,e1,x1⟩
   |exit i =>
    have hp:CN ks bp y=y:=by unfold CN; rw[hye]
    rw[hp]; exact⟨he1,hs1,hd1,j1,r1,e1,x1⟩
 |_ =>
  intro ac hc hf bp M o h j w a hr hG he hs;refine mM hmix hC _ hc (o:=o) ?_ hr hG he hs;simp only[comp] at hc
  first
   |(cases hc; exact h)
   |(obtain⟨_,_,hc⟩:=bf hc; injection hc with hc; unfold Ny at hc; split at hc<;>subst hc<;>exact h)
   |(obtain⟨_,_,hc⟩:=bf hc; cases hc; exact h)
   |(obtain⟨_,_,hc⟩:=bf hc; obtain⟨_,_,hc⟩:=bf hc; obtain⟨_,_,hc⟩:=bf hc; cases hc; exact h)
   |cases hc
end Go.Abs
namespace Go.Proofs.YteoamaffclmdbaaGreatDoor
open Go Go.Abs
def abp:List sS:=[.dK 4 10,.dK 5 7]
noncomputable def MN(o1 o2:Out):Option (ag×aC) :=
 match o2.e with
 | .ret=>bI (td o2.bp o2.mem abp) fun l=>some ((Abs.one l).lF 0 o2.mem,iV 0 o2.mem)
 | .nI (.iface 43 (.int .i64 e)) =>
  bI (eO (aq gN) yD [(0,ib o1.bp 2),(1,ib o1.bp 4),(2,ib o1.bp 5),(5,.ptr o2.mem.length 0)] (o2.mem++[.cells [.int .i64 e]])) fun o3 =>
  match o3.e with
  | .normal=>bI (td o2.bp o3.mem abp) fun l=>some ((Abs.one l).lF 0 o3.mem,iV 0 o3.mem)
  |_=>none
 |_=>none
noncomputable def pDo:List ag->aC->Option (ag×aC):=fun args M =>
 match M with
 |_::_=>none
 | []=>if args.length=2 then
   bI (eO (aq gN) MG (eH 0 args) []) fun o1 =>
   match o1.e with
   | .normal=>bI (rN (aq gN) [4,5] wG (jq o1.bp [2,3,4,5]) o1.mem) fun o2=>MN o1 o2
   |_=>none
  else none
def RE{args:List ag}{M:aC}{x:ag×aC}(h:pDo args M=some x):dr Tryz.prog 29 args M x:=by
 unfold pDo at h;split at h
 ·cases h
 split at h
 rotate_left
 ·cases h
 rename_i dQ;obtain⟨o1,ho1,h⟩:=bo h;split at h
 rotate_left
 ·cases h
 rename_i hn1;obtain⟨o2,ho2,h⟩:=bo h;intro j w vs hr hG hvl hv;refine calls_of_wp_defers func29 rfl ?_;refine wp_seq ?_;have hsz:(vs++Array.replicate (Tryz.f29.ntmps-vs.size) undef).size=44:=by rw[ntmps29]; simp; omega
 have he:cn j [] w (eH 0 args) { tmps:=vs++Array.replicate (Tryz.f29.ntmps-vs.size) undef,defers:=[] }:=by
  refine⟨fun t=>?_,hG⟩
  rw[Ba,aZ (cS _),bP];rcases bC t args.length with ht|ht
  ·have h1:=ai ht;have cJ:t<vs.size:=aJ;have h2:=bg cJ;rw[h1];have h3:=hv t _ _ h1 h2
   have:(vs++Array.replicate (Tryz.f29.ntmps-vs.size) undef).getD t undef=vs[t]:=by
    simp[dy,cj cJ,h2]
   rw[this];exact h3
  ·rw[fG ht]; exact .any _
 refine wp_mono (wpIn_wide.1 (mM (rd:=none) (nd:=0) fu Mn ab1 anG ho1 hr hG he hsz)) ?_;rintro ex a1 w1 ⟨h1,h2,h3,j1,r1,e1,x1⟩;rw[hn1] at h1;simp only[rS] at h1;subst h1;simp only[Exit.then]
 refine wp_seq (wp_region ?_);obtain⟨t1,d1⟩:=a1;simp only at h2 h3;subst h3;have hmf:∀(fn:Fn)(first cap:Array Value)(w:World),(Instr.makeFunc fn first cap).run Tryz.prog w = .ok (.func fn first cap) w:=fun _ _ _ _=>rfl
 have h2':t1.size=44:=h2;have h9:9<t1.size:=aJ;simp[wpOps,go_sem,Exit.then,hmf,h9,Array.getElem?_setIfInBounds,hV]
 repeat' refine Or.inl ?_
 have key:∀d:List Deferred,cn j1 o1.mem w1 (jq o1.bp [2,3,4,5]) { tmps:=t1.setIfInBounds 9 (.func (.func 50) #[] #[t1[2]?.getD undef,t1[4]?.getD undef,t1[5]?.getD undef]),defers:=d }:=fun d=>by
  refine⟨fun t=>?_,e1.gl⟩
  rw[zb];split
  ·rename_i hm;have hne:9≠t:=by rintro rfl; simp at hm
   have:=e1.at' t;simp only[dy] at this ⊢;rw[fD hne];exact this
  ·exact .any _
 refine wp_mono (wpIn_wide.1 (J3 (rd:=none) (nd:=0) fu Mn ab2 anH fu ho2 r1 e1.gl (key _) (by simpa[Q7] using h2'))) ?_
 rintro ex a2 w2 ⟨g1,g2,g3,j2,r2,e2,x2⟩;have hp:=(e1.at' 2).mono x2;have hq:=(e1.at' 4).mono x2;have hs:=(e1.at' 5).mono x2;simp only[dy] at hp hq hs;have hb0:0<=o2.mem.length:=cS _
 have fin:∀(j3:J)(M3:aC)(w3:World)(y:ag×aC),Rel j3 M3 w3->cn j3 M3 w3 o2.bp a2->Ext j [] w j3 M3 w3->(bI (td o2.bp M3 abp) fun l=>some ((Abs.one l).lF 0 M3,iV 0 M3))=some y ->
   ∃v,(results f29 a2.tmps).run Tryz.prog w3 = .ok v w3/\vX j [] w y (.returned v) w3:=by
  intro j3 M3 w3 y r3 e3 x3 hy;obtain⟨l,hl,hy⟩:=bo hy;cases hy;obtain⟨us,u1,u2,u3⟩:=C4 (P:=Tryz.prog) (rs:=Tryz.f29.results.toList) r3 e3 (by kernel_rfl:Il Tryz.prog Tryz.f29.results.toList=some abp) hl
  have hres:(results f29 a2.tmps).run Tryz.prog w3 = .ok (if h:us.toArray.size=1 then us.toArray[0] else .tuple us.toArray) w3:=by
   unfold results;rw[lO,Sem.run_bind,Sem.run_map];refine ir (congrArg (fun r:Result (List Value)=>Result.andThen (r.andThen fun a w' => .ok a.toArray w') _) (ir ?_ u1)) rfl
   rfl
  exact⟨_,hres,.inl ⟨_,rfl,j3,zE (cS _) r3,w9 (cS _) dx x3,Fv (cS _) r3 (NH u2 u3)⟩⟩
 unfold MN at h;split at h
 ·rename_i hret;rw[hret] at g1;simp only[rS] at g1;subst g1;simp only[bodyPostD,g3];refine leaves_cons (f:=50) (args := #[t1[2]?.getD undef,t1[4]?.getD undef,t1[5]?.getD undef]) dx (by simp[go_sem]) ?_
  refine(KS _ _ _ _).mono ?_;rintro ed u' w'' ⟨rfl,rfl,rfl⟩;simp only[Leaves,settle];exact fin _ _ _ _ r2 e2 (x1.trans x2) h
 ·rename_i e hpan;obtain⟨o3,ho3,h⟩:=bo h;split at h
  rotate_left
  ·cases h
  rename_i hn3;rw[hpan] at g1;simp only[rS] at g1;subst g1;simp only[bodyPostD,g3];refine leaves_cons (f:=50) (args := #[t1[2]?.getD undef,t1[4]?.getD undef,t1[5]?.getD undef]) dx (by simp[go_sem]) ?_
  refine(OQ r2 e2.gl hp hq hs ho3 hn3).mono ?_;rintro ed u' w'' ⟨rfl,rfl,j3,r3,x3⟩;simp only[Leaves,settle];exact fin _ _ _ _ r3 (e2.mono x3) ((x1.trans x2).trans x3) h
 ·cases h
noncomputable def Fk:zA:=mc gN 29 pDo
def N3:vp Tryz.prog Fk:=p6 N4 fu (fun h=>RE h)
def XA{f:Nat}{a:List ag}{M:aC}{x:ag×aC}(h:aq gN f a M=some x):aq Fk f a M=some x:=rb rfl rfl h
def lD{f:Nat}{vs:List ag}{M:aC}{x:ag×aC}(h:aU (aq gN) f vs M=some x):aU (aq Fk) f vs M=some x:=by
 obtain⟨a,B,y,h1,h2⟩:=pQ h;exact h2 _ (XA h1)
section
attribute [local irreducible] eX fJ lu gK eb kr aq aU cq bI
def tf:AM Nat:=[(1,93),(2,94),(3,95),(4,96),(5,97),(6,98),(7,99),(8,100),(9,101),(10,102),(11,103),(12,104),(13,105),(14,106),(15,107),(16,108),(17,109)]
def fnV(K:Nat):ag := .raw (.func (.func K) ⟨[]⟩ ⟨[]⟩)
def c52:aq gN 52 [] []=some (.ki (B2 tf) (ph fnV tf),[]):=by
 refine aB ?_;simp only[alR,E52,xy,kv,Int.reduceBEq,Int.reduceEq,↓reduceIte,av,EW,seval];rfl
end
def tj(K:Nat)(f:aa)(o:jD):aa×tU×Int :=
 if K=93 then Cg f o else if K=94 then Ch f o else if K=95 then Cf f o else if K=96 then uY f o else if K=97 then uW f o else if K=98 then Gb f o else if K=99 then Ct f o else if K=100 then Ci f o else if K=101 then xe f o else if K=102 then Gy f o else if K=103 then xR f o else if K=104 then Iz f o else if K=105 then xt f o else if K=106 then Cw f o else if K=107 then Gp f o else if K=108 then BZ f o else if K=109 then AU f o else (f,gy,0)
def RG{k:Int}{K:Nat}(hk:eZ tf k=some K){f:aa}{o:jD}(hf:vm f)(ho:rY o):pt K f o (tj K f o):=by
 have hm:=xA _ _ _ hk;simp only[tf,bJ,jl,List.not_mem_nil,or_false] at hm;rcases hm with ⟨_,rfl⟩|⟨_,rfl⟩|⟨_,rfl⟩|⟨_,rfl⟩|⟨_,rfl⟩|⟨_,rfl⟩|⟨_,rfl⟩|⟨_,rfl⟩|⟨_,rfl⟩|⟨_,rfl⟩|⟨_,rfl⟩|⟨_,rfl⟩|⟨_,rfl⟩|⟨_,rfl⟩|⟨_,rfl⟩|⟨_,rfl⟩|⟨_,rfl⟩
 ·exact c93 f o hf ho
 ·exact c94 f o hf ho
 ·exact c95 f o hf ho
 ·exact c96 f o hf ho
 ·exact c97 f o hf ho
 ·exact c98 f o hf ho
 ·exact c99 f o hf ho
 ·exact apO f o hf ho
 ·exact apP f o hf ho
 ·exact apQ f o hf ho
 ·exact apR f o hf ho
 ·exact apS f o hf ho
 ·exact apT f o hf ho
 ·exact apU f o hf ho
 ·exact apV f o hf ho
 ·exact apW f o hf ho
 ·exact apX f o hf ho
def xG(c:Bool)(b:Bool)(M:aC)(k:Option Out):EX c ((.bool b),M) k=k:=rfl
def Aj(c:Bool)(i:IntKind)(n:Int)(M:aC)(k:Option Out):EX c ((.int i n),M) k=k:=rfl
def An(c:Bool)(b:Bytes)(M:aC)(k:Option Out):EX c ((.str b),M) k=k:=rfl
def vM(c:Bool)(t:Tk)(l:List ag)(M:aC)(k:Option Out):EX c ((.slice t l),M) k=k:=rfl
def Ah(c:Bool)(l:List ag)(M:aC)(k:Option Out):EX c ((.agg l),M) k=k:=rfl
def vN(c:Bool)(l:List ag)(M:aC)(k:Option Out):EX c ((.tuple l),M) k=k:=rfl
def Al(c:Bool)(i n:Nat)(M:aC)(k:Option Out):EX c ((.ptr i n),M) k=k:=rfl
def xH(c:Bool)(a b:List ag)(M:aC)(k:Option Out):EX c ((.ki a b),M) k=k:=rfl
def Am(c:Bool)(v:Value)(M:aC)(k:Option Out):EX c ((.raw v),M) k=k:=rfl
def Ai(c:Bool)  (M:aC)(k:Option Out):EX c (.any,M) k=k:=rfl
def Ak(v:Value)(M:aC)(k:Option Out):EX true (.nI v,M) k=some ⟨.nI v,[],M⟩:=rfl
def DP(e:Env)(M:aC)(k:Env->aC->Option Out):uf ⟨.normal,e,M⟩ k=k e M:=rfl
def DQ(v:Value)(e:Env)(M:aC)(k:Env->aC->Option Out):uf ⟨.nI v,e,M⟩ k=some ⟨.nI v,e,M⟩:=rfl
def SF(e:Env)(M:aC)(k:Env->aC->Option Out):uf ⟨.ret,e,M⟩ k=some ⟨.ret,e,M⟩:=rfl
def S5(live:List Nat)(e:Env)(M:aC):Out.rn live ⟨.ret,e,M⟩=⟨.ret,e,M⟩:=rfl
def WL(ks:List Nat)(bp e:Env)(M:aC):CN ks bp ⟨.ret,e,M⟩=⟨.ret,e,M⟩:=rfl
def D4(live:List Nat)(e:Env)(M:aC):Out.rn live ⟨.normal,e,M⟩=⟨.normal,jq e live,M⟩:=rfl
def D5(live:List Nat)(v:Value)(e:Env)(M:aC):Out.rn live ⟨.nI v,e,M⟩=⟨.nI v,e,M⟩:=rfl
def Er(ks:List Nat)(bp e:Env)(M:aC):CN ks bp ⟨.normal,e,M⟩=⟨.normal,e,M⟩:=rfl
def Es(ks:List Nat)(bp:Env)(v:Value)(e:Env)(M:aC):CN ks bp ⟨.nI v,e,M⟩=⟨.nI v,jq bp ks,M⟩:=rfl
def Ii:(false==true)=false:=rfl
def Ij:(true==false)=false:=rfl
def Ih:(false==false)=true:=rfl
def Ik:(true==true)=true:=rfl
def ia(e:Int):tU:=⟨e,0,0,0,0,[],[]⟩
def oU(f:aa)(o:jD):aa×tU :=
 match eZ tf o.kind with
 |none=>(f,ia 1)
 |some K=>if 0<=o.bE/\o.bE<16 then (if (tj K f o).2.2=0 then ((tj K f o).1,(tj K f o).2.1) else (f,ia (tj K f o).2.2)) else (f,ia 1)
def rU:List ag:=[.slice .c0 [],.int .i64 0,.int .i64 0,.int .i64 0,.slice .c0 [],.slice .c0 [],.slice .c0 [],.int .i64 0,.slice .c0 [],.slice .c0 []]
def rh:List ag:=[.int .i64 0,.int .i64 0,.int .i64 0,.int .i64 0,.int .i64 0,.slice .c0 [],.slice .c0 []]
def yA(f:aa)(o:jD):aC:=[.cells (cf f),.cells (eT o),.cells rU,.cells rh]
def uR:Env:=[(2,.ptr 0 0),(3,.ptr 1 0),(4,.ptr 2 0),(5,.ptr 3 0)]
def B1(a:tU)(x y:ag):List ag:=[.int .i64 a.err,.int .i64 a.ar,.int .i64 a.kind,.int .i64 a.n,.int .i64 a.m,x,y]
section
attribute [local irreducible] aq aU cq bI
def ahW(f:aa)(o:jD):eO (aq gN) MG (eH 0 [.agg (cf f),.agg (eT o)]) []=some ⟨.normal,uR,yA f o⟩:=by
 simp only[MG,cf,eT,yA,uR,rU,rh,eO,gv,uf,xE,EX,EV,seval];rfl
def k52:=cP c52
def Xe(f:aa)(o:jD)(e:Int):eO (aq gN) yD [(0,cA 0),(1,cA 2),(2,cA 3),(5,cA 4)] (yA f o++[cC [aF e]]) =
  some ⟨.normal,[],cC (cf f) :: cC (eT o) :: cC (cf f) :: cC (B1 (ia e) (.slice .c0 []) (.slice .c0 []))::[cC [aF e]]⟩:=by
 simp only[yD,cf,eT,yA,rU,rh,B1,ia,eO,gv,uf,xE,EX,EV,seval];rfl
def ah0(f:aa)(o:jD)(b:cL)(e:Int):eO (aq gN) yD [(0,cA 0),(1,cA 2),(2,cA 3),(5,cA 5)] (yA f o++[b]++[cC [aF e]]) =
  some ⟨.normal,[],cC (cf f) :: cC (eT o) :: cC (cf f) :: cC (B1 (ia e) (.slice .c0 []) (.slice .c0 []))::[b,cC [aF e]]⟩:=by
 simp only[yD,cf,eT,yA,rU,rh,B1,ia,eO,gv,uf,xE,EX,EV,seval];rfl
def ahY(f:aa)(o:jD)(h:eZ tf o.kind=none):rN (aq gN) [4,5] wG (jq uR [2,3,4,5]) (yA f o)=some ⟨.nI (.iface 43 (.int .i64 1)),[(4,.ptr 2 0),(5,.ptr 3 0)],yA f o⟩:=by
 have g:=o9 fnV tf o.kind;rw[h] at g;have q:=fun M=>QK false 1 rfl M
 simp only[af,aD,gd] at q;have q0:=k52;simp only[wG,Gs,Gu,Gv,Gw,cf,eT,yA,uR,rN,eO,gv,xG,Aj,An,vM,Ah,vN,Al,xH,Am,Ai,Ak,DP,DQ,D4,D5,Er,Es,Ii,Ij,Ih,Ik,af,aI,aD,mapOf.eq_2,po,q0,g,q,oO,hZ,cY,EV,seval]
def ahX(f:aa)(o:jD)(K:Nat)(h:eZ tf o.kind=some K)(hc:¬(0<=o.bE/\o.bE<16)):rN (aq gN) [4,5] wG (jq uR [2,3,4,5]) (yA f o)=some ⟨.nI (.iface 43 (.int .i64 1)),[(4,.ptr 2 0),(5,.ptr 3 0)],yA f o⟩:=by
 have g:=o9 fnV tf o.kind;rw[h] at g;have q:=fun M=>QK false 1 rfl M
 simp only[af,aD,gd] at q;have q0:=k52
 by_cases h1:0<=o.bE
 ·have h2:(o.bE<16)=False:=XZ;have h1:(0<=o.bE)=True:=by simp only[fH,jb]; exact h1
  simp only[wG,Gs,Gu,Gv,Gw,cf,eT,yA,uR,rN,eO,gv,xG,Aj,An,vM,Ah,vN,Al,xH,Am,Ai,Ak,DP,DQ,D4,D5,Er,Es,Ii,Ij,Ih,Ik,af,aI,aD,mapOf.eq_2,po,q0,g,q,bz,bW,fnV,h1,h2,EV,seval]
 ·have h1:(0<=o.bE)=False:=by simp only[fH,iff_false]; exact h1
  simp only[wG,Gs,Gu,Gv,Gw,cf,eT,yA,uR,rN,eO,gv,xG,Aj,An,vM,Ah,vN,Al,xH,Am,Ai,Ak,DP,DQ,D4,D5,Er,Es,Ii,Ij,Ih,Ik,af,aI,aD,mapOf.eq_2,po,q0,g,q,bz,bW,fnV,h1,EV,seval]
def ahZ(f:aa)(o:jD)(K:Nat)(r:aa×tU×Int)(h:eZ tf o.kind=some K)(hc0:0<=o.bE)(hc1:o.bE<16)(hd:pt K f o r) :
  ∃x y,Row x (r.2.1.names.map ag.str)/\Row y (r.2.1.data.map pZ)/\rN (aq gN) [4,5] wG (jq uR [2,3,4,5]) (yA f o) =
   some (if r.2.2 != 0 then ⟨.nI (.iface 43 (.int .i64 r.2.2)),[(4,.ptr 2 0),(5,.ptr 3 0)],yA f o++[dE r.1 o r.2.1 x y]⟩
    else ⟨.ret,[(4,.ptr 2 0),(5,.ptr 3 0)],[.cells (cf f),.cells (eT o),.cells (cf r.1),.cells (B1 r.2.1 x y),dE r.1 o r.2.1 x y]⟩):=by
 obtain⟨x,y,hx,hy,ha⟩:=hd;refine⟨x,y,hx,hy,?_⟩;have cx:x.jg=true:=by rcases hx with h|⟨h,_⟩<;>rw[h]<;>rfl
 have cy:y.jg=true:=by rcases hy with h|⟨h,_⟩<;>rw[h]<;>rfl
 have g:=o9 fnV tf o.kind;rw[h] at g;have q:=fun M=>QK true 1 rfl M
 simp only[aI] at q;have q0:=k52;have h1:(0<=o.bE)=True:=by simp only[fH,jb]; exact hc0
 have h2:(o.bE<16)=True:=by simp only[fH,jb]; exact hc1
 have q5:aU (aq gN) K [.ptr 4 0] (yA f o++[.cells (cg f o)])=some (if r.2.2 != 0 then gd r.2.2 else .tuple [],yA f o++[dE r.1 o r.2.1 x y]):=by
  obtain⟨f',a,e⟩:=r;simp only at hx hy ha ⊢;unfold dE at ha ⊢;rcases hx with rfl|⟨rfl,_⟩<;>rcases hy with rfl|⟨rfl,_⟩<;>exact tv (vs:=[]) (p:=4) rfl ha rfl rfl (by split<;>rfl) rfl (by split<;>rfl) rfl rfl rfl rfl rfl
 obtain⟨f',a,e⟩:=r;simp only at q5 ⊢;simp only[yA,cf,eT,cg,dE,rU,rh,aG,aP,gd] at q5 ⊢;cases he:e != 0<;>simp only[he,af,aI,aD] at q5 ⊢
 ·simp only[rU,rh,SF,S5,WL,wG,Gs,Gu,Gv,Gw,cf,eT,yA,uR,rN,eO,gv,xG,Aj,An,vM,Ah,vN,Al,xH,Am,Ai,Ak,DP,DQ,D4,D5,Er,Es,Ii,Ij,Ih,Ik,af,aI,aD,mapOf.eq_2,po,q0,g,q,bz,bW,fnV,h1,h2,q5,B1,cx,cy,cN,EV,seval]
 ·simp only[rU,rh,SF,S5,WL,wG,Gs,Gu,Gv,Gw,cf,eT,yA,uR,rN,eO,gv,xG,Aj,An,vM,Ah,vN,Al,xH,Am,Ai,Ak,DP,DQ,D4,D5,Er,Es,Ii,Ij,Ih,Ik,af,aI,aD,mapOf.eq_2,po,q0,g,q,bz,bW,fnV,h1,h2,q5,EV,seval]
end
def O6(f:aa)(o:jD)(e:Int){R:aC}{M3:aC}(h:eO (aq gN) yD [(0,.ptr 0 0),(1,.ptr 2 0),(2,.ptr 3 0),(5,.ptr (yA f o++R).length 0)] (yA f o++R++[.cells [.int .i64 e]])=some ⟨.normal,[],.cells (cf f) :: .cells (eT o) :: .cells (cf f) :: .cells (B1 (ia e) (.slice .c0 []) (.slice .c0 []))::M3⟩) :
  MN ⟨.normal,uR,yA f o⟩ ⟨.nI (.iface 43 (.int .i64 e)),[(4,.ptr 2 0),(5,.ptr 3 0)],yA f o++R⟩=some (.tuple [.agg (cf f),.agg (cE (ia e))],[]):=by
 show bI (eO (aq gN) yD [(0,.ptr 0 0),(1,.ptr 2 0),(2,.ptr 3 0),(5,.ptr (yA f o++R).length 0)] (yA f o++R++[.cells [.int .i64 e]])) _=_
 rw[h,bO];rfl
def WK(f:aa)(o:jD):pDo [.agg (cf f),.agg (eT o)] []=bI (rN (aq gN) [4,5] wG (jq uR [2,3,4,5]) (yA f o)) fun o2=>MN ⟨.normal,uR,yA f o⟩ o2:=by
 unfold pDo;simp only[];have h2:[ag.agg (cf f),ag.agg (eT o)].length=2:=rfl;rw[aZ h2,ahW,bO]
def c29(f:aa)(o:jD)(hf:vm f)(ho:rY o):aq Fk 29 [.agg (cf f),.agg (eT o)] []=some (.tuple [.agg (cf (oU f o).1),.agg (cE (oU f o).2)],[]):=by
 have bad:∀e,oU f o=(f,ia e)->∀R M3,rN (aq gN) [4,5] wG (jq uR [2,3,4,5]) (yA f o)=some ⟨.nI (.iface 43 (.int .i64 e)),[(4,.ptr 2 0),(5,.ptr 3 0)],yA f o++R⟩ ->
   eO (aq gN) yD [(0,.ptr 0 0),(1,.ptr 2 0),(2,.ptr 3 0),(5,.ptr (yA f o++R).length 0)] (yA f o++R++[.cells [.int .i64 e]])=some ⟨.normal,[],.cells (cf f) :: .cells (eT o) :: .cells (cf f) :: .cells (B1 (ia e) (.slice .c0 []) (.slice .c0 []))::M3⟩ ->
   aq Fk 29 [.agg (cf f),.agg (eT o)] []=some (.tuple [.agg (cf (oU f o).1),.agg (cE (oU f o).2)],[]):=by
  intro e he R M3 h1 h2;rw[he];refine fg (g:=pDo) rfl ?_;rw[WK,h1,bO];exact O6 f o e h2
 cases hk:eZ tf o.kind with
 |none =>
  refine bad 1 (by unfold oU; rw[hk]) [] [.cells [.int .i64 1]] ?_ ?_
  ·rw[ahY f o hk,dg]
  ·rw[dg]; exact Xe f o 1
 |some K =>
  by_cases hc:0<=o.bE/\o.bE<16
  ·obtain⟨x,y,hx,hy,hs⟩:=ahZ f o K (tj K f o) hk hc.1 hc.2 (RG hk hf ho)
   by_cases he:(tj K f o).2.2=0
   ·have hd:oU f o=((tj K f o).1,(tj K f o).2.1):=by unfold oU; rw[hk]; simp only[aZ hc,aZ he]
    rw[hd];refine fg (g:=pDo) rfl ?_;rw[WK,hs,aR (by simp[he]),bO]
    generalize tj K f o=r at hx hy ⊢;obtain⟨f',⟨a1,a2,a3,a4,a5,ns,dt⟩,e⟩:=r;simp only at hx hy;rcases hx with rfl|⟨rfl,hn⟩<;>rcases hy with rfl|⟨rfl,hm⟩
    ·rfl
    ·rw[oL] at hm; subst hm; rfl
    ·rw[oL] at hn; subst hn; rfl
    ·rw[oL] at hn hm; subst hn; subst hm; rfl
   ·refine bad (tj K f o).2.2 (by unfold oU; rw[hk]; simp only[aZ hc,aR he]) [dE (tj K f o).1 o (tj K f o).2.1 x y] _ ?_ (ah0 f o _ _)
    rw[hs,aZ (by simpa using he)]
  ·refine bad 1 (by unfold oU; rw[hk]; simp only[aR hc]) [] [.cells [.int .i64 1]] ?_ ?_
   ·rw[ahX f o K hk hc,dg]
   ·rw[dg]; exact Xe f o 1
def Wd(ae:List Node)(i:Int):Nat:=(bm ae i).data.length
def kj(m:AM Bool):List Int:=m.map Prod.fst
def yu(ae:List Node)(l:List Int):Nat:=(l.map (Wd ae)).sum
structure Seen(ae:List Node)(m:AM Bool):Prop where
 nd:(kj m).Nodup
 tr:∀p,p∈m->p.2=true
 inn:∀k,k∈kj m->(find ae k).isSome=true
inductive Rch(ae:List Node):Int->Int->Prop
 |one {i:Int} {e:gP}:e∈(bm ae i).bc->Rch ae i e.ar
 |step {i x:Int} {e:gP}:e∈(bm ae i).bc->Rch ae e.ar x->Rch ae i x
theorem JC:∀(m:AM Bool)(k:Int),k∈kj m->∃v,eZ m k=some v
 | [],k,h=>by grind [kj]
 |(a,v)::m,k,h=>by
  rw[eZ];split
  ·simp
  ·refine JC m k ?_
   grind [kj]
theorem Seen.get{ae:List Node}{m:AM Bool}(h:Seen ae m)(k:Int):(eZ m k).getD false=true↔k∈kj m:=by
 constructor
 ·intro hg;cases hm:eZ m k with
  |none=>grind
  |some v=>exact eL.2 ⟨_,xA _ _ _ hm,rfl⟩
 ·intro hk;obtain⟨v,hv⟩:=JC m k hk;have:=h.tr _ (xA _ _ _ hv)
  grind
def JD:∀(m:AM Bool)(k:Int)(v:Bool),k∉kj m->kR m k v=m++[(k,v)]
 | [],k,v,_=>rfl
 |(a,w)::m,k,v,h=>by
  simp only[kj,aH,bJ,pc] at h;rw[kR,aR h.1,JD m k v h.2]; rfl
theorem Seen.put{ae:List Node}{m:AM Bool}(h:Seen ae m){k:Int}(hk:k∉kj m)(hf:(find ae k).isSome=true):Seen ae (kR m k true)/\kj (kR m k true)=kj m++[k]:=by
 rw[JD m k _ hk];have e:kj (m++[(k,true)])=kj m++[k]:=by simp[kj]
 refine⟨⟨?_,fun p hp=>?_,fun x hx=>?_⟩,e⟩
 ·rw[e];refine lg.2 ⟨h.nd,dx,fun a ha b hb=>?_⟩
  grind
 ·rcases bq.1 hp with hp|hp
  ·exact h.tr p hp
  grind
 ·rw[e] at hx;rcases bq.1 hx with hx|hx
  ·exact h.inn x hx
  grind
def abT{t:Tree}{dJ:Int->Nat}(h:dY t dJ 0)(i:Int):Wd t.ae i<=4096:=by
 unfold Wd bm;cases hi:find _ i with
 |none=>simp[Node.zero]
 |some n =>
  rcases h.kind _ _ hi with h1|h1
  ·exact(h.file _ _ hi h1).2.2
  ·simp[h.dir _ _ hi h1]
theorem N2{t:Tree}{dJ:Int->Nat}(h:dY t dJ 0):∀l:List Int,yu t.ae l<=4096*l.length
 | []=>by simp[yu]
 |i::l=>by
  have h1:=abT h i;have h2:=N2 h l
  grind [yu]
theorem Seen.len{t:Tree}{dJ:Int->Nat}(h:dY t dJ 0){m:AM Bool}(hs:Seen t.ae m):(kj m).length<=200:=by
 have:=JF _ _ hs.nd (fun x hx=>by
  obtain⟨n,hn⟩:=fz.1 (hs.inn x hx);exact eL.2 ⟨n,(cH hn).1,(cH hn).2⟩)
 have h2:=h.ae
 grind
structure Fol(ae:List Node)(r i:Int)(l:List gP)(s s':Int×AM Bool):Prop where
 seen:Seen ae s'.2
 sum:s'.1=(Wd ae r:Int)+yu ae (kj s'.2)
 sub:∀x,x∈kj s.2->x∈kj s'.2
 all:∀e,e∈l->e.ar∈kj s'.2
 new:∀x,x∈kj s'.2->x∈kj s.2\/((∀e,e∈(bm ae x).bc->e.ar∈kj s'.2)/\Rch ae i x)
def I6{t:Tree}{dJ:Int->Nat}(h:dY t dJ 0)(r:Int):∀(f:Nat)(ar:Int)(s:Int×AM Bool),(∀n,find t.ae ar=some n->n.kind=2->13<f+dJ ar)->0<f ->
  Seen t.ae s.2->s.1+Wd t.ae ar=(Wd t.ae r:Int)+yu t.ae (kj s.2)->Fol t.ae r ar (bm t.ae ar).bc s (mO t.ae f ar s):=by
 intro f;induction f with
 |zero=>simp
 |succ f ih =>
  intro ar s hd _ hs hq
  have key:∀(l:List gP)(u:Int×AM Bool),(∀e,e∈l->e∈(bm t.ae ar).bc)->Seen t.ae u.2->u.1=(Wd t.ae r:Int)+yu t.ae (kj u.2) ->
    Fol t.ae r ar l u (l.foldl (fun s e=>if !((eZ s.2 e.ar).getD false) then mO t.ae f e.ar (s.1,kR s.2 e.ar true) else s) u):=by
   intro l;induction l with
   |nil=>intro u _ h1 h2; exact⟨h1,h2,fun x hx=>hx,fun e he=>(by cases he),fun x hx => .inl hx⟩
   |cons e l ihl =>
    intro u hl h1 h2;rw[eM];have he:=hl e bD
    by_cases hk:e.ar∈kj u.2
    ·rw[aR (by rw[(h1.get _).2 hk]; simp)]
     have g:=ihl u (fun x hx=>hl x (bt _ hx)) h1 h2
     refine⟨g.seen,g.sum,g.sub,fun x hx=>?_,g.new⟩
     rcases bJ.1 hx with rfl|hx
     ·exact g.sub _ hk
     ·exact g.all x hx
    ·have hb:(eZ u.2 e.ar).getD false=false:=by
      cases hc:(eZ u.2 e.ar).getD false with
      |false=>rfl
      |true=>exact absurd ((h1.get _).1 hc) hk
     rw[hb,aZ (show(!false)=true from rfl)]
     obtain⟨n,hi⟩:∃n,find t.ae ar=some n:=by
      cases hi:find t.ae ar with
      |none=>simp[bm,hi,Node.zero] at he
      |some n=>simp
     have he':e∈n.bc:=by simpa[bm,hi] using he
     have hk2:n.kind=2:=by
      rcases h.kind _ _ hi with h3|h3
      ·rw[(h.file _ _ hi h3).1] at he'; cases he'
      ·exact h3
     obtain⟨_,_,e1,_,m,hm,hu⟩:=h.CH _ _ _ hi he';obtain⟨p1,p2⟩:=h1.put hk (by rw[hm]; rfl)
     have hsum:yu t.ae (kj (kR u.2 e.ar true))=yu t.ae (kj u.2)+Wd t.ae e.ar:=by rw[p2]; simp[yu]
     have g1:=ih e.ar (u.1,kR u.2 e.ar true) (fun n' hn' hk'=>by
      rw[hm] at hn'; cases hn';have h3:=(h.qI _ _ hm hk' e1).1;have h4:=hd n hi hk2;rw[hu hk'] at h3;omega) (by
      have h4:=hd n hi hk2;have h5:=(h.deep _ _ hi hk2).1;omega) p1 (by simp only; rw[hsum,h2]; omega)
     have g2:=ihl _ (fun x hx=>hl x (bt _ hx)) g1.seen g1.sum
     have hin:e.ar∈kj (kR u.2 e.ar true):=by rw[p2]; simp
     refine⟨g2.seen,g2.sum,fun x hx=>g2.sub _ (g1.sub _ (by simp only; rw[p2]; simp[hx])),fun x hx=>?_,fun x hx=>?_⟩
     ·rcases bJ.1 hx with rfl|hx
      ·exact g2.sub _ (g1.sub _ hin)
      ·exact g2.all x hx
     ·rcases g2.new x hx with hx|hx
      ·rcases g1.new x hx with hx|⟨hx,hr⟩
       ·simp only at hx;rw[p2] at hx;rcases bq.1 hx with hx|hx
        ·exact .inl hx
        ·rw[bT.1 hx];exact .inr ⟨fun e' he'=>g2.sub _ (g1.all e' he'),.one he⟩
       ·exact .inr ⟨fun e' he'=>g2.sub _ (hx e' he'),.step he hr⟩
      ·exact .inr hx
  have hw:nz (s.1+(bm t.ae ar).data.length)=s.1+Wd t.ae ar:=by
   have h1:=abT h r;have h2:=N2 h (kj s.2);have h3:=hs.len h;have hW:((bm t.ae ar).data.length:Int)=(Wd t.ae ar:Int):=rfl;rw[hW];exact gA aJ aJ
  have g:=key (bm t.ae ar).bc (s.1+Wd t.ae ar,s.2) (fun _ h=>h) hs hq
  rw[mO,hw];exact⟨g.seen,g.sum,g.sub,g.all,g.new⟩
def InB(ae:List Node)(ar x:Int):Prop:=∃d e,d∈ae/\d.kind=2/\iP ae d.ar ar=true/\e∈d.bc/\e.ar=x
theorem ahS{t:Tree}{dJ:Int->Nat}(h:dY t dJ 0){ar:Int}:∀ {i x:Int},Rch t.ae i x->(∃d,find t.ae i=some d/\(d.kind=2->iP t.ae i ar=true))->InB t.ae ar x:=by
 intro i x hr;induction hr with
 |one he =>
  rintro⟨d,hd,hb⟩;rename_i i e;have he':e∈d.bc:=jK
  have hk:d.kind=2:=by
   rcases h.kind _ _ hd with h3|h3
   ·rw[(h.file _ _ hd h3).1] at he'; grind
   omega
  exact⟨d,e,(cH hd).1,hk,by rw[(cH hd).2]; grind,he',rfl⟩
 |step he _ ih =>
  rintro⟨d,hd,hb⟩;rename_i i x e _;have he':e∈d.bc:=jK
  have hk:d.kind=2:=by
   rcases h.kind _ _ hd with h3|h3
   ·rw[(h.file _ _ hd h3).1] at he'; grind
   omega
  obtain⟨_,_,e1,_,m,hm,hu⟩:=h.CH _ _ _ hd he';refine ih ⟨m,hm,fun hk'=>?_⟩
  by_cases ho:e.ar=ar
  ·rw[ho]; simp[dY.oT]
  ·rw[h.sA hm hk' e1 ho]
   grind
theorem HP{t:Tree}{dJ:Int->Nat}(h:dY t dJ 0){ar:Int}{d:Node}(hd:find t.ae ar=some d)(hk:d.kind=2) :
  ∃K:List Int,K.Nodup/\(∀x,x∈K↔InB t.ae ar x)/\(∀x,x∈K->(find t.ae x).isSome=true)/\lx t.ae ar=((K.length:Int),(yu t.ae K:Int)):=by
 have g:=I6 h ar 14 ar (0,[]) (fun n hn hk=>aJ) aJ ⟨by simp[kj],fun p hp=>(by cases hp),fun k hk=>(by simp[kj] at hk)⟩ (by simp[kj,yu])
 have hu:lx t.ae ar=(((mO t.ae 14 ar (0,[])).2.length:Int),(mO t.ae 14 ar (0,[])).1):=by
  simp_all [lx,bm]
 generalize mO t.ae 14 ar (0,[])=s' at g hu;have w0:Wd t.ae ar=0:=by simp[Wd,bm,hd,h.dir _ _ hd hk]
 have cl:∀x,x∈kj s'.2->∀e,e∈(bm t.ae x).bc->e.ar∈kj s'.2:=fun x hx=>by
  rcases g.new x hx with h1|h1
  ·simp[kj] at h1
  ·exact h1.1
 refine⟨kj s'.2,g.seen.nd,fun x=>⟨fun hx=>?_,fun hx=>?_⟩,g.seen.inn,?_⟩
 ·rcases g.new x hx with h1|h1
  ·simp[kj] at h1
  grind [ahS,dY.oT]
 ·obtain⟨p,e,hp,hpk,hb,he,rfl⟩:=hx
  have key:∀(m:Nat)(i:Int)(n:Node),find t.ae i=some n->n.kind=2->dJ i=m->iP t.ae i ar=true->∀e,e∈n.bc->e.ar∈kj s'.2:=by
   intro m;induction m with
   |zero =>
    intro i n hi hnk hm hb e he
    by_cases ho:i=ar
    ·subst ho;exact g.all e (by simpa[bm,hi] using he)
    ·by_cases h1:i=1
     ·grind [dY.qO]
     ·have:=(h.qI _ _ hi hnk h1).1; omega
   |succ m ihm =>
    intro i n hi hnk hm hb e he
    by_cases ho:i=ar
    ·subst ho;exact g.all e (by simpa[bm,hi] using he)
    ·have h1:i≠1:=fun hh=>by subst hh; have:=h.CF; omega
     rw[h.sA hi hnk h1 ho] at hb;obtain⟨a,q,hq,hqk⟩:=h.qI _ _ hi hnk h1;obtain⟨p,e',p1,p2,p3,p4⟩:=h.named hi hnk h1 (by have:=(h.num _ _ hi).1; omega)
     have:=ihm n.up p p1 p2 aJ hb e' p3;rw[p4] at this
     grind
  have hpf:find t.ae p.ar=some p:=(ik h.lL.mr).2 ⟨hp,rfl⟩
  grind
 ·rw[hu,g.sum,w0];simp[kj]
def NB(e:Int)(ae:List Node)(met:List Bool):List Bool:=List.zipWith (fun n b=>b||n.ar==e) ae met
def V4(ae:List Node)(ar:Int)(met:List Bool)(d:Node):List Bool:=if d.kind==2&&iP ae d.ar ar then d.bc.foldl (fun m e=>NB e.ar ae m) met else met
def sF(ae:List Node)(ar:Int):List Bool:=ae.foldl (V4 ae ar) (ae.map fun _=>false)
def OX(met:List Bool):Nat:=met.countP id
def HR(ae:List Node)(met:List Bool):Nat:=((ae.zip met).map fun p=>if p.2 then p.1.data.length else 0).sum
def Gg(e:Int)(p:Node->Bool):∀l:List Node,NB e l (l.map p)=l.map fun n=>p n||n.ar==e
 | []=>rfl
 |n::l=>by
  have:=Gg e p l;simp only[NB,aH,List.zipWith_cons_cons] at this ⊢;rw[this]
def Ec(ae:List Node):∀(l:List gP)(p:Node->Bool),l.foldl (fun m e=>NB e.ar ae m) (ae.map p)=ae.map fun n=>p n||l.any fun e=>n.ar==e.ar
 | [],p=>dx
 |e::l,p=>by
  rw[eM,Gg,Ec ae l];simp only[jR,Bool.or_assoc]
def yZ(ae:List Node)(ar:Int):∀(l:List Node)(p:Node->Bool),∃q:Node->Bool,l.foldl (V4 ae ar) (ae.map p)=ae.map q /\
  ∀n,q n=true↔p n=true\/∃d e,d∈l/\d.kind=2/\iP ae d.ar ar=true/\e∈d.bc/\e.ar=n.ar
 | [],p=>⟨p,rfl,fun n=>dx⟩
 |d::l,p=>by
  rw[eM,V4]
  by_cases hd:(d.kind==2&&iP ae d.ar ar)=true
  ·rw[aZ hd,Ec];obtain⟨q,h1,h2⟩:=yZ ae ar l fun n=>p n||d.bc.any fun e=>n.ar==e.ar
   refine⟨q,h1,fun n=>?_⟩
   rw[h2];rw[bw,eu] at hd;simp only[df,iL,eu,bJ];constructor
   ·rintro((h|⟨e,h3,h4⟩)|⟨d',e,h3,h4⟩)
    ·exact .inl h
    ·exact .inr ⟨d,e,.inl rfl,hd.1,hd.2,h3,h4.symm⟩
    ·exact .inr ⟨d',e,.inr h3,h4⟩
   ·rintro(h|⟨d',e,rfl|h3,h4,h5,h6,h7⟩)
    ·exact .inl (.inl h)
    ·exact .inl (.inr ⟨e,h6,h7.symm⟩)
    ·exact .inr ⟨d',e,h3,h4,h5,h6,h7⟩
  ·rw[aR hd];obtain⟨q,h1,h2⟩:=yZ ae ar l p;refine⟨q,h1,fun n=>?_⟩
   rw[h2];rw[bw,eu] at hd;simp only[bJ];constructor
   ·rintro(h|⟨d',e,h3,h4⟩)
    ·exact .inl h
    ·exact .inr ⟨d',e,.inr h3,h4⟩
   ·rintro(h|⟨d',e,rfl|h3,h4,h5,h6⟩)
    ·exact .inl h
    ·exact absurd ⟨h4,h5⟩ hd
    ·exact .inr ⟨d',e,h3,h4,h5,h6⟩
def xf(ae:List Node)(ar:Int):∃q:Node->Bool,sF ae ar=ae.map q/\∀n,q n=true↔InB ae ar n.ar:=by
 obtain⟨q,h1,h2⟩:=yZ ae ar ae fun _=>false
 exact⟨q,h1,fun n=>by rw[h2]; simp[InB]⟩
def Du(q:Node->Bool):∀l:List Node,OX (l.map q)=(l.filter q).length
 | []=>rfl
 |n::l=>by
  have:=Du q l;simp only[OX,aH,lU,fq,id] at this ⊢;split<;>simp[this]
def HL(q:Node->Bool):∀l:List Node,HR l (l.map q)=((l.filter q).map fun n=>n.data.length).sum
 | []=>rfl
 |n::l=>by
  have:=HL q l;simp only[HR,aH,List.zip_cons_cons,List.sum_cons,fq] at this ⊢;rw[this];split<;>simp
def G7{t:Tree}{dJ:Int->Nat}(h:dY t dJ 0){ar:Int}{d:Node}(hd:find t.ae ar=some d)(hk:d.kind=2) :
  lx t.ae ar=((OX (sF t.ae ar):Int),(HR t.ae (sF t.ae ar):Int)):=by
 obtain⟨K,k1,k2,k3,k4⟩:=HP h hd hk;obtain⟨q,q1,q2⟩:=xf t.ae ar;have hasc:=h.lL.mr
 have hp:K.Perm ((t.ae.filter q).map Node.ar):=by
  refine(List.perm_ext_iff_of_nodup k1 ?_).2 fun x=>?_
  ·have:((t.ae.filter q).map Node.ar).Pairwise (· < ·):=jT.2 (jQ _ hasc)
   exact this.imp fun h=>aJ
  ·rw[k2];constructor
   ·intro hx;obtain⟨n,hn⟩:=fz.1 (k3 x ((k2 x).2 hx));refine eL.2 ⟨n,eo.2 ⟨(cH hn).1,(q2 n).2 ?_⟩,(cH hn).2⟩;rw[(cH hn).2]; exact hx
   ·intro hx;obtain⟨n,hn,rfl⟩:=eL.1 hx;exact(q2 n).1 (eo.1 hn).2
 rw[k4,q1,Du,HL];have h1:K.length=(t.ae.filter q).length:=by rw[hp.length_eq,cU]
 have h2:yu t.ae K=((t.ae.filter q).map fun n=>n.data.length).sum:=by
  unfold yu;rw[(hp.map (Wd t.ae)).sum_nat,gJ];congr 1;refine c8 fun n hn=>?_
  have:find t.ae n.ar=some n:=(ik hasc).2 ⟨(eo.1 hn).1,rfl⟩;simp[Wd,bm,this]
 rw[h1,h2]
abbrev Fo(n:Node):Prop:=n.bc.length<=64/\n.data.length<=4096
structure FB(k:Nat)(f:aa):Prop where
 ok:vm f
 past:f.s.eS.length<=k
structure C7(a:tU):Prop where
 names:a.names.length<=90000
 data:a.data.length<=90000
def FB.mono{k m:Nat}{f:aa}(h:FB k f)(hm:k<=m):FB m f:=⟨h.ok,aY h.past hm⟩
def Rt.XX{t:Tree}(h:Rt t){n:Node}(hn:n∈t.ae):Fo n:=by
 obtain⟨dJ,h⟩:=h;have hi:find t.ae n.ar=some n:=(ik h.lL.mr).2 ⟨hn,rfl⟩;refine⟨(h.yq _ _ hi).2,?_⟩;rcases h.kind _ _ hi with h1|h1
 ·exact(h.file _ _ hi h1).2.2
 ·rw[h.dir _ _ hi h1]; simp
def Bw(t:Tree)(tk:List mU)(c:Int):∀(l:List Node)(y:List Int),(lP t tk c l y).length<=l.length/\∀p,p∈lP t tk c l y->p.node∈l
 | [],y=>⟨by simp[lP],fun p h=>by simp[lP] at h⟩
 |n::r,[]=>⟨by simp[lP],fun p h=>by simp[lP] at h⟩
 |n::r,x::y=>by
  obtain⟨h1,h2⟩:=Bw t tk c r y;rw[lP];refine⟨?_,fun p hp=>?_⟩
  ·rw[aA,aw];split<;>simp<;>omega
  ·rcases bq.1 hp with hp|hp
   ·split at hp
    ·rw[bT.1 hp]; exact bD
    ·cases hp
   ·exact bt _ (h2 p hp)
def FB.put{k:Nat}{f:aa}(h:FB k f)(hk:k<=89000){t:Tree}(ht:Rt t){H:List fA}(hH:uG H)(hl:H.length<=64){Q:List dV}(hQ:py Q)(hq:Q.length<=16):FB (k+200) ⟨qA f.s t,H,Q⟩:=by
 have hf:=h.ok;have hp:=h.past;unfold qA;split
 ·exact⟨⟨hf.rt,hf.len,hf.eS,hf.Eu,hf.dW,hH,hl,hQ,hq⟩,by simp only; omega⟩
 ·obtain⟨h1,h2⟩:=Bw t f.s.dW (nz (f.s.tick+1)) f.s.now.ae f.s.since;have h3:=hf.rt.sz.ae;have h4:(f.s.eS++lP t f.s.dW (nz (f.s.tick+1)) f.s.now.ae f.s.since).length<=k+200:=by rw[aA]; omega
  refine⟨⟨ht,dx,by simp only; omega,fun p hp=>?_,hf.dW,hH,hl,hQ,hq⟩,h4⟩
  rcases bq.1 hp with hp|hp
  ·exact hf.Eu p hp
  ·exact hf.rt.XX (h2 p hp)
def FB.settle{k:Nat}{f:aa}(h:FB k f)(hk:k<=89000){t:Tree}(ht:Rt t){Q:List dV}(hQ:py Q)(hq:Q.length<=16):FB (k+200) (j5 f t Q).1:=by
 unfold j5;split
 ·exact h.mono aJ
 split
 ·exact h.mono aJ
 ·exact h.put hk (A8 _ _ _ ht) h.ok.holds h.ok.dQ (F7 hQ) (aY (Bl _ _) hq)
def JH{t:Tree}{l:List fA}(hl:uG l)(hn:l.length<=64)(c g ar:Int):uG (vL t l c g ar).1/\(vL t l c g ar).1.length<=64:=by
 have hlow:=D9 hl c g;unfold vL;split
 ·exact⟨hl,hn⟩
 split
 ·exact⟨hl,hn⟩
 split
 ·exact⟨hl,hn⟩
 split
 ·exact⟨hl,hn⟩
 split
 ·exact⟨hl,hn⟩
 ·rename_i hi dQ;simp only[bh] at dQ
  have hat:∀(i:Nat)(y:fA),l[i]?=some y->decide (im y c g<0)=false->xi ⟨c,g,ar⟩ y:=by
   intro i y hy hge;have h1:=hlow.le
   by_cases he:i=mq (fun x=>decide (im x c g<0)) l
   ·subst he;have hne:¬(y.bE=c/\y.handle=g):=fun hh=>hi (by unfold pn; rw[hy]; simpa using(DW y c g).2 hh)
    have cJ:=sf y c g;simp only[dC,cJ] at hge;unfold xi; simp only;omega
   ·have cJ:=sf y c g;simp only[dC,cJ] at hge
    have hgt:mq (fun x=>decide (im x c g<0)) l<i:=by
     rcases bC (mq (fun x=>decide (im x c g<0)) l) i with h|h
     ·exact h
     ·exact absurd ((hlow.lt i y hy).2 aJ) (by simp only[bh,cJ]; exact hge)
    have hi':=(aj.1 hy).1;have hz:l[mq (fun x=>decide (im x c g<0)) l]?=some l[mq (fun x=>decide (im x c g<0)) l]:=ai aJ
    have hp:xi l[mq (fun x=>decide (im x c g<0)) l] y:=by
     have:=(cm.1 hl) _ i aJ hi' hgt;rw[<-(aj.1 hy).2]; exact this
    generalize l[mq (fun x=>decide (im x c g<0)) l]=z at hz hp
    have hzl:¬im z c g<0:=fun h=>by
     have:=(hlow.lt _ z hz).1 (by simpa using h)
     omega
    rw[sf] at hzl;unfold xi at hp ⊢; simp only;omega
  refine⟨Nj hl hlow (fun y hy h=>?_) (fun y hy h=>?_) (fun a b d h1 h2=>?_),by simp; have:=hlow.le; omega⟩
  ·simp only[bh,sf] at h; unfold xi; simp only; omega
  ·obtain⟨i,hy'⟩:=bX hy;exact hat i y hy' h
  ·unfold xi at *; omega
def Dt{t:Tree}{l:List fA}(hl:uG l)(c g:Int):uG (nC t l c g).2.1:=by
 unfold nC;split
 ·exact hl
 ·exact hl.sublist List.eraseP_sublist
def Bb(c:Int):∀(r l:List fA)(t:Tree),uG l->l.length<=64->uG (sX c r t l).2/\(sX c r t l).2.length<=64
 | [],l,t,h1,h2=>⟨h1,h2⟩
 |x::r,l,t,h1,h2=>by
  rw[sX];split
  ·exact Bb c r _ _ (Dt h1 _ _) (aY (yY _ _ _ _) h2)
  ·exact Bb c r l t h1 h2
def FB.set{k:Nat}{f:aa}(h:FB k f){H:List fA}(hH:uG H)(hl:H.length<=64):FB (k+200) ⟨f.s,H,f.dX⟩ :=
 ⟨⟨h.ok.rt,h.ok.len,h.ok.eS,h.ok.Eu,h.ok.dW,hH,hl,h.ok.dX,h.ok.sO⟩,by have:=h.past; simp only; omega⟩
def FB.adP{k:Nat}{f:aa}(h:FB k f)(hk:k<=89000)(o:jD)(ar:Int)(d:Bytes):FB (k+200) (rG f o ar d).1:=by
 have hr:=h.settle hk (h.ok.rt.put ar d) h.ok.dX h.ok.sO;unfold rG;simp only[];split
 ·exact h.mono aJ
 split<;>exact hr
def sJ{α:Type}{P:α->Prop}{c:Prop}[Decidable c]{a b:α}(ha:P a)(hb:P b):P (if c then a else b):=by
 split
 ·exact ha
 ·exact hb
def Oa{P:Wk->Prop}{f:aa}{o:jD}(h55:P (Cg f o))(h56:P (Ch f o))(h57:P (Cf f o))(h58:P (uY f o))(h59:P (uW f o))(h60:P (Gb f o))(h61:P (Ct f o))(h62:P (Ci f o))(h63:P (xe f o))(h64:P (Gy f o))(h65:P (xR f o))(h66:P (Iz f o))(h67:P (xt f o))(h68:P (Cw f o))(h69:P (Gp f o))(h70:P (BZ f o))(h71:P (AU f o))(h0:P (f,gy,0))(K:Nat):P (tj K f o) :=
 sJ h55 (sJ h56 (sJ h57 (sJ h58 (sJ h59 (sJ h60 (sJ h61 (sJ h62 (sJ h63 (sJ h64 (sJ h65 (sJ h66 (sJ h67 (sJ h68 (sJ h69 (sJ h70 (sJ h71 (h0)))))))))))))))))
def XP{k:Nat}{f:aa}(h:FB k f)(hk:k<=89000)(K:Nat)(o:jD):FB (k+200) (tj K f o).1:=by
 have h0:FB (k+200) f:=h.mono aJ;have hp {t:Tree} (ht:Rt t):=h.settle hk ht h.ok.dX h.ok.sO;refine Oa (P:=fun r=>FB (k+200) r.1) ?_ ?_ ?_ ?_ ?_ ?_ ?_ ?_ ?_ ?_ ?_ ?_ ?_ ?_ ?_ ?_ ?_ ?_ K
 ·unfold Cg; split<;>exact h0
 ·have hr:=hp (h.ok.rt.add (mS f.s.now o.dL).1 (mS f.s.now o.dL).2.1 o.n);unfold Ch; simp only[];split
  ·exact h0
  split
  ·exact h0
  split<;>exact hr
 ·have hr:=hp (h.ok.rt.ln (bm f.s.now.ae (ku f.s.now o.dL).1).ar (mS f.s.now o.vi).1 (mS f.s.now o.vi).2.1);unfold Cf; simp only[];split
  ·exact h0
  split
  ·exact h0
  split
  ·exact h0
  split<;>exact hr
 ·have hr:=hp (h.ok.rt.un (mS f.s.now o.dL).1 (mS f.s.now o.dL).2.1);unfold uY; simp only[];split
  ·exact h0
  split
  ·exact h0
  split<;>exact hr
 ·have hr:=hp (h.ok.rt.mv (mS f.s.now o.dL).1 (mS f.s.now o.dL).2.1 (mS f.s.now o.vi).1 (mS f.s.now o.vi).2.1);unfold uW; simp only[];split
  ·exact h0
  split
  ·exact h0
  split
  ·exact h0
  split
  ·exact h0
  split<;>exact hr
 ·unfold Gb; simp only[];split
  ·exact h0
  split<;>exact h0
 ·unfold Ct; simp only[]; split<;>exact h0
 ·obtain⟨g1,g2⟩:=JH (t:=f.s.now) h.ok.holds h.ok.dQ o.bE o.handle (bm f.s.now.ae (ku f.s.now o.dL).1).ar;unfold Ci; simp only[];split
  ·exact h0
  split
  ·exact h0
  ·exact h.set g1 g2
 ·have hr:=h.put hk (h.ok.rt.close f.holds o.bE o.handle) (Dt (t:=f.s.now) h.ok.holds o.bE o.handle) (aY (yY _ _ _ _) h.ok.dQ) h.ok.dX h.ok.sO;unfold xe; simp only[];split
  ·exact h0
  ·exact hr
 ·unfold Gy;split
  ·exact h0
  split<;>exact h0
 ·unfold xR;split
  ·exact h0
  split
  ·exact h0
  split
  ·exact h0
  ·exact h.adP hk o _ _
 ·unfold Iz;split
  ·exact h0
  ·exact h.adP hk o _ _
 ·obtain⟨g1,g2⟩:=Gx (t:=f.s.now) h.ok.dX h.ok.sO (bm f.s.now.ae (ku f.s.now o.dL).1).ar o.n o.m;have hr:=h.settle hk h.ok.rt g1 g2;unfold xt; simp only[];split
  ·exact h0
  split
  ·exact h0
  split<;>exact hr
 ·unfold Cw; simp only[];split
  ·exact h0
  split
  ·exact h0
  ·rename_i hh;unfold takeN at hh ⊢;split
   ·exact h0
   split
   ·exact h0
   split
   ·exact h0
   ·rename_i dQ;refine⟨⟨h.ok.rt,h.ok.len,h.ok.eS,h.ok.Eu,?_,h.ok.holds,h.ok.dQ,h.ok.dX,h.ok.sO⟩,by have:=h.past; simp only; omega⟩
    simp only[df,bh,pc] at dQ;simp; omega
 ·unfold Gp; simp only[];split
  ·exact h0
  split
  ·exact h0
  split<;>exact h0
 ·unfold BZ; simp only[];split
  ·exact h0
  ·unfold rC;split
   ·exact h0
   ·refine⟨⟨h.ok.rt,h.ok.len,aY (bU _ _) h.ok.eS,fun p hp=>h.ok.Eu p (eo.1 hp).1,aY (bU _ _) h.ok.dW,h.ok.holds,h.ok.dQ,h.ok.dX,h.ok.sO⟩,?_⟩
    have:=h.past;have h2:=bU (vO (f.s.dW.filter (rJ o.n))) f.s.eS;simp only; omega
 ·obtain⟨g1,g2⟩:=Bb o.bE f.holds f.holds f.s.now h.ok.holds h.ok.dQ;exact h.put hk (h.ok.rt.gone o.bE f.holds f.holds) g1 g2 h.ok.dX h.ok.sO
 ·exact h0
def La{k:Nat}{f:aa}(h:FB k f)(hk:k<=89000)(o:jD):FB (k+200) (oU f o).1:=by
 unfold oU;split
 ·exact h.mono aJ
 ·split
  ·split
   ·exact XP h hk _ o
   ·exact h.mono aJ
  ·exact h.mono aJ
def Wb{P:Node->Prop}{m:AM Node}(h:∀k n,eZ m k=some n->P n)(n:Node)(hn:P n):∀k x,eZ (kR m n.ar n) k=some x->P x:=by
 intro k x hx;rw[jy] at hx;split at hx
 ·injection hx with hx; rw[<-hx]; exact hn
 ·exact h k x hx
def Et{P:Node->Prop}(a:Int):∀(l:List pv)(m:AM Node),(∀k n,eZ m k=some n->P n)->(∀p,p∈l->P p.node)->∀k n,eZ (l.foldl (nv a) m) k=some n->P n
 | [],m,h,hl=>h
 |p::r,m,h,hl=>by
  rw[eM];refine Et a r _ ?_ (fun p hp=>hl p (bt _ hp))
  unfold nv;split
  ·exact Wb h _ (hl p bD)
  ·exact h
def JE{P:Node->Prop}(a:Int):∀(l:List Node)(y:List Int)(m:AM Node),(∀k n,eZ m k=some n->P n)->(∀p,p∈l->P p)->∀k n,eZ (si a l y m) k=some n->P n
 | [],y,m,h,hl=>h
 |n::r,[],m,h,hl=>h
 |n::r,x::y,m,h,hl=>by
  rw[si];refine JE a r y _ ?_ (fun p hp=>hl p (bt _ hp))
  split
  ·exact Wb h _ (hl n bD)
  ·exact h
def Yu{f:aa}(hf:vm f)(id:Int):∀n,n∈(vq f.s id).2.1->Fo n:=by
 unfold vq;split
 ·rename_i x _;intro n hn;have:=Bn n _ hn;refine GH (P:=Fo) ?_ 200001 x.ar ([],[]) (fun n h=>by cases h) n this
  exact JE x.at' _ _ _ (Et x.at' _ _ (fun k n h=>by cases h) hf.Eu) (fun n hn=>hf.rt.XX hn)
 ·exact fun n h=>by cases h
def JP{P:Node->Prop}{all:AM Node}(hall:∀k n,eZ all k=some n->P n):∀(p:List Bytes)(o:Option Node),(∀n,o=some n->P n)->∀n,(jm all p o).1=some n->P n
 | [],o,ho,n,h=>ho n h
 |s::r,o,ho,n,h=>by
  rw[jm] at h;split at h
  ·exact ho n h
  ·split at h
   ·exact ho n h
   ·exact JP hall r _ (fun m hm=>hall _ _ hm) n h
def nj{a:tU}(h1:a.names=[])(h2:a.data=[]):C7 a:=⟨by rw[h1]; simp,by rw[h2]; simp⟩
def Hc(e:Int):C7 (ia e):=nj rfl rfl
def QA{f:aa}(h:vm f)(K:Nat)(o:jD):C7 (tj K f o).2.1:=by
 have h0:C7 gy:=nj rfl rfl;have hv (i:Int) (d:Bytes):C7 (rG f o i d).2.1:=nj (tL f o i d).1 (tL f o i d).2;refine Oa (P:=fun r=>C7 r.2.1) ?_ ?_ ?_ ?_ ?_ ?_ ?_ ?_ ?_ ?_ ?_ ?_ ?_ ?_ ?_ ?_ ?_ ?_ K
 ·unfold Cg; split<;>exact nj rfl rfl
 ·unfold Ch; simp only[]; repeat' split
  all_goals exact nj rfl rfl
 ·unfold Cf; simp only[]; repeat' split
  all_goals exact nj rfl rfl
 ·unfold uY; simp only[]; repeat' split
  all_goals exact nj rfl rfl
 ·unfold uW; simp only[]; repeat' split
  all_goals exact nj rfl rfl
 ·unfold Gb; simp only[];split
  ·exact h0
  split
  ·exact h0
  ·refine⟨?_,dx⟩;simp only[cU];obtain⟨dJ,g⟩:=h.rt;have h64:=(x7 g (bm f.s.now.ae (ku f.s.now o.dL).1).ar).2
   have hfr:(zP f.s.now.ae (bm f.s.now.ae (ku f.s.now o.dL).1).ar o.n).length<=64:=by
    unfold zP;rw[wv];exact aY (bU _ _) h64
   unfold wK;split
   ·simp
   split
   ·simp
   split
   ·simp only; omega
   ·simp only[cr]; omega
 ·unfold Ct; simp only[]; split<;>exact nj rfl rfl
 ·unfold Ci; simp only[]; repeat' split
  all_goals exact nj rfl rfl
 ·unfold xe; simp only[]; split<;>exact nj rfl rfl
 ·unfold Gy;split
  ·exact h0
  split
  ·exact h0
  ·rename_i hh _;obtain⟨_,i,hi⟩:=CX (f:=f) (o:=o) (by simpa using hh)
   have:=(xB h i).1;rw[hi];exact⟨dx,by simp only[cr,fS]; omega⟩
 ·unfold xR;split
  ·exact h0
  split
  ·exact h0
  split
  ·exact h0
  ·exact hv _ _
 ·unfold Iz;split
  ·exact h0
  ·exact hv _ _
 ·unfold xt; simp only[]; repeat' split
  all_goals exact nj rfl rfl
 ·unfold Cw; simp only[]; repeat' split
  all_goals exact nj rfl rfl
 ·have ha:=Yu h o.n;unfold Gp; simp only[]
  have hall:∀k n,eZ (ga (vq f.s o.n).2.1 []) k=some n->Fo n:=fun k n h=>by
   rcases zk _ _ _ _ h with h|h
   ·exact ha n h
   ·cases h
  have hpe:=JP hall (gH o.dL).1 (eZ (ga (vq f.s o.n).2.1 []) (vq f.s o.n).1) (fun n h=>hall _ _ h)
  split
  ·exact h0
  split
  ·exact h0
  split
  ·exact h0
  ·generalize (jm (ga (vq f.s o.n).2.1 []) (gH o.dL).1 (eZ (ga (vq f.s o.n).2.1 []) (vq f.s o.n).1)).1=z at hpe ⊢;cases z with
   |none=>exact nj rfl rfl
   |some n =>
    obtain⟨g1,g2⟩:=hpe n rfl;exact⟨by simp only[bz,cU]; omega,by simp only[bz]; omega⟩
 ·unfold BZ; simp only[]; split<;>exact nj rfl rfl
 ·exact nj rfl rfl
 ·exact nj rfl rfl
def CS{f:aa}(h:vm f)(o:jD):C7 (oU f o).2:=by
 unfold oU;split
 ·exact Hc _
 ·split
  ·split
   ·exact QA h _ o
   ·exact Hc _
  ·exact Hc _
def OJ{t:Tree}{dJ:Int->Nat}(h:dY t dJ 0){q:Int}:∀(m:Nat)(i:Int)(n:Node),find t.ae i=some n->n.kind=2->dJ i=m->iP t.ae i q=true->∃d,find t.ae q=some d/\d.kind=2:=by
 intro m;induction m with
 |zero =>
  intro i n hi hk hm hb
  by_cases ho:i=q
  ·subst ho; exact⟨n,hi,hk⟩
  by_cases h1:i=1
  ·subst h1; rw[dY.qO (fun hh=>ho hh.symm)] at hb; cases hb
  ·have:=(h.qI _ _ hi hk h1).1; omega
 |succ m ih =>
  intro i n hi hk hm hb
  by_cases ho:i=q
  ·subst ho; exact⟨n,hi,hk⟩
  have h1:i≠1:=fun hh=>by subst hh; have:=h.CF; omega
  rw[h.sA hi hk h1 ho] at hb;obtain⟨a,p,hp,hpk⟩:=h.qI _ _ hi hk h1;exact ih _ p hp hpk aJ hb
def we{t:Tree}{dJ:Int->Nat}(h:dY t dJ 0){q:Int}(hq:∀d,find t.ae q=some d->d.kind≠2):lx t.ae q=(0,0)/\OX (sF t.ae q)=0/\HR t.ae (sF t.ae q)=0:=by
 have hin:∀x,¬InB t.ae q x:=by
  rintro x ⟨d,e,hd,hk,hb,_,_⟩;obtain⟨p,p1,p2⟩:=OJ h _ _ d ((ik h.lL.mr).2 ⟨hd,rfl⟩) hk rfl hb;exact hq p p1 p2
 obtain⟨p,p1,p2⟩:=xf t.ae q;have hf:t.ae.filter p=[]:=List.filter_eq_nil_iff.2 fun n _ hn=>hin _ ((p2 n).1 hn)
 refine⟨?_,by rw[p1,Du,hf]; rfl,by rw[p1,HL,hf]; rfl⟩
 unfold lx;rw[aR];intro hc;rw[bw,eu] at hc;obtain⟨d,hd⟩:=fz.1 hc.1;exact hq d hd (by simpa[bm,hd] using hc.2)
def HO{t:Tree}(h:Rt t)(q:Int):lx t.ae q=((OX (sF t.ae q):Int),(HR t.ae (sF t.ae q):Int)):=by
 obtain⟨dJ,h⟩:=h
 by_cases hq:∃d,find t.ae q=some d/\d.kind=2
 ·obtain⟨d,h1,h2⟩:=hq;exact G7 h h1 h2
 ·obtain⟨h1,h2,h3⟩:=we h (q:=q) fun d hd hk=>hq ⟨d,hd,hk⟩
  rw[h1,h2,h3]; rfl
def Qs{t:Tree}(h:Rt t)(i q:Int):lx (kH t i).1.ae q=lx t.ae q:=by
 obtain⟨dJ,h⟩:=h;have h':=FL h i
 have hcase:(kH t i).1=t\/(∃m,find t.ae i=some m/\m.kind=1/\uO t.ae i=0/\(kH t i).1=⟨fQ t.ae i,t.next,t.ak⟩):=by
  unfold kH;split
  ·exact .inl rfl
  split
  ·exact .inl rfl
  split
  ·exact .inl rfl
  ·rename_i h1 h2 h3;right;cases hi:find t.ae i with
   |none=>simp[hi] at h1
   |some m =>
    simp only[bm,hi,bz,eu,bh] at h2 h3;have hl:=h.eG _ _ hi;have hm:=(h.num _ _ hi).1;rw[aR aJ] at hl;exact⟨m,rfl,(h.kind _ _ hi).resolve_right h2,aJ,rfl⟩
 rcases hcase with e|⟨m,hm,hmk,hc,e⟩
 ·rw[e]
 rw[e] at h' ⊢;have hff:=mo h.lL.mr i
 have hne:∀j n,find t.ae j=some n->n.kind=2->j≠i:=by
  rintro j n hj hk rfl;rw[hm] at hj; cases hj;omega
 have fd:∀j n,find t.ae j=some n->n.kind=2->find (fQ t.ae i) j=some n:=fun j n hj hk=>by rw[hff,aR (hne j n hj hk),hj]
 have bel:∀(m:Nat)(j:Int)(n:Node),find t.ae j=some n->n.kind=2->dJ j=m->iP (fQ t.ae i) j q=iP t.ae j q:=by
  intro m;induction m with
  |zero =>
   intro j n hj hk hd
   by_cases ho:j=q
   ·subst ho;exact(dY.oT (t:=⟨fQ t.ae i,t.next,t.ak⟩) j).trans (dY.oT j).symm
   by_cases h1:j=1
   ·subst h1;exact(dY.qO (t:=⟨fQ t.ae i,t.next,t.ak⟩) fun hh=>ho hh.symm).trans (dY.qO fun hh=>ho hh.symm).symm
   ·have:=(h.qI _ _ hj hk h1).1; omega
  |succ m ih =>
   intro j n hj hk hd
   by_cases ho:j=q
   ·subst ho;exact(dY.oT (t:=⟨fQ t.ae i,t.next,t.ak⟩) j).trans (dY.oT j).symm
   have h1:j≠1:=fun hh=>by subst hh; have:=h.CF; omega
   obtain⟨a,p,hp,hpk⟩:=h.qI _ _ hj hk h1;have b1:=h'.sA (fd j n hj hk) hk h1 ho;rw[h.sA hj hk h1 ho];exact b1.trans (ih _ p hp hpk aJ)
 by_cases hq:∃d,find t.ae q=some d/\d.kind=2
 ·obtain⟨d,d1,d2⟩:=hq;obtain⟨K,k1,k2,k3,k4⟩:=HP h d1 d2;obtain⟨L,l1,l2,l3,l4⟩:=HP h' (fd q d d1 d2) d2
  have hin:∀x,InB (fQ t.ae i) q x↔InB t.ae q x:=fun x=>by
   constructor
   ·rintro⟨d,e,hd,hk,hb,he,hx⟩;have hd':find (fQ t.ae i) d.ar=some d:=(ik h'.lL.mr).2 ⟨hd,rfl⟩;rw[hff] at hd';split at hd'
    ·cases hd'
    ·exact⟨d,e,(cH hd').1,hk,by rw[<-bel _ _ d hd' hk rfl]; exact hb,he,hx⟩
   ·rintro⟨d,e,hd,hk,hb,he,hx⟩;have hd':find t.ae d.ar=some d:=(ik h.lL.mr).2 ⟨hd,rfl⟩;exact⟨d,e,(cH (fd _ _ hd' hk)).1,hk,by rw[bel _ _ d hd' hk rfl]; exact hb,he,hx⟩
  have hp:L.Perm K:=(List.perm_ext_iff_of_nodup l1 k1).2 fun x=>by rw[l2,k2]; exact hin x
  have hs:yu (fQ t.ae i) L=yu t.ae K:=by
   unfold yu;rw[<-(hp.map (Wd t.ae)).sum_nat];congr 1;refine c8 fun x hx=>?_
   obtain⟨d,e,hd,_,_,he,hxe⟩:=(k2 x).1 (hp.mem_iff.1 hx)
   have hxi:x≠i:=fun hh=>by
    have:=wc.2 ⟨d,e,hd,he,hxe.trans hh⟩;omega
   simp only[Wd,bm,hff,aR hxi]
  rw[k4,l4,hp.length_eq,hs]
 ·rw[(we h fun d hd hk=>hq ⟨d,hd,hk⟩).1]
  refine(we h' fun d hd hk=>?_).1
  have hd:find (fQ t.ae i) q=some d:=hd;rw[hff] at hd;split at hd
  ·cases hd
  ·exact hq ⟨d,hd,hk⟩
def t0:Tree:=⟨[⟨1,2,0,[],[],1⟩],2,1⟩
def f0:aa:=⟨⟨t0,0,[0],[],[],1⟩,[],[]⟩
section
attribute [local irreducible] eX fJ lu gK eb kr aq aU cq bI
def c39:aq bZ 39 [] []=some (.agg (aM t0),[]):=by
 refine aB ?_;simp only[alN,E39,EW,seval];rfl
def k39:=cP c39
def k38(M:aC):aU (aq bZ) 38 [.agg [ba t0.ae,aF t0.next,aF t0.ak]] M=some (.agg (bM f0.s),M):=cO (c38 t0 ml) M
def c24:aq bZ 24 [] []=some (.agg (cf f0),[]):=by
 refine aB ?_;have q:=k39;simp only[aM] at q;simp only[alw,E24,q,k38,bM,EW,seval];rfl
def k24:=cP c24
end
def rt0:Rt t0:=⟨_,We⟩
def fb0:FB 0 f0:=by
 refine⟨⟨rt0,rfl,?_,?_,?_,List.Pairwise.nil,?_,List.Pairwise.nil,?_⟩,?_⟩<;>simp[f0]
abbrev IE(l:List jD):ag := .slice .sh (l.map XT)
def FA(n:jD):(XT n).cells=eT n:=rfl
def Jt(n:jD):(eT n).length=8:=rfl
def N9(l:List jD):wid (l.map XT) 8=True:=pr XT _ (fun _=>rfl) l
def tkO(n:jD):List.take 8 (eT n)=eT n:=rfl
def shO(n:jD):List.map ag.shut (eT n)=eT n:=rfl
def EVO:=bR @FA (bR @Jt (bR @N9 (bR @tkO (@shO))))
def xu(o:jD):Bool:=decide (5000<(o.data.length:Int))||(decide (1000<(o.dL.length:Int))||decide (1000<(o.vi.length:Int)))
def DS(l:List jD):Bool:=if decide (50<(l.length:Int)) then true else l.any xu
def Nu{o:jD}(h:xu o=false):rY o:=by
 simp only[xu,jP,dC] at h;exact⟨aJ,aJ,aJ⟩
section
attribute [local irreducible] eX fJ lu gK eb kr aq aU cq bI
def c26(o:jD):aq bZ 26 [XT o] []=some (.bool (xu o),[]):=by
 refine aB ?_;unfold xu
 cases h1:decide (5000<(o.data.length:Int))<;>cases h2:decide (1000<(o.dL.length:Int))<;>cases h3:decide (1000<(o.vi.length:Int)) <;>
  simp only[alz,E26,XT,eT,h1,h2,h3,er,dM,fE,cV,EW,seval]
def k26(o:jD)(M:aC):aU (aq bZ) 26 [.agg (eT o)] M=some (.bool (xu o),M):=cO (c26 o) M
def c25(xs:List jD):aq bZ 25 [IE xs] []=some (.bool (DS xs),[]):=by
 refine aB ?_;unfold DS;cases h0:decide (50<(xs.length:Int))<;>simp only[aly,E25,h0,aI,af,aD,EVO,EW,seval]
 have hn:xs.length<=50:=by simp at h0; omega
 refine A4 (xs:=xs) aJ (fun l (_:Unit)=>l.any xu) (fun _ i=>[(0,IE xs),(3,aF i)]) (fun _=>[]) (fun b=>some (ag.bool b,([]:aC))) (fun _=>?_) (fun pre x post _ h hx cJ hw h0 hm hi=>?_) ()
 ·simp only[E25,bl,o4,EVO,EW,seval]
 ·have q:=fun M=>k26 x M
  have i1:=hi ();cases hl:xu x<;>rw[hl] at q<;>simp only[E25,cJ,hx,hw,q,hl,jR,dM,cV,EVO,EW,seval]
  exact i1
def k25 xs:=cP (c25 xs)
def lE{f:Nat}{vs:List ag}{M:aC}{x:ag×aC}(h:aU (aq bZ) f vs M=some x):aU (aq Fk) f vs M=some x:=lD (lS h)
def k29 f o hf ho:=cP (c29 f o hf ho)
end
section
open Go.ChangeShapes Go.WideShapes Go.ChangeAt Go.RowKit Go.Deep
def laidOut:laidOutB Tryz.prog=true:=fu
section
variable {H:Type} {enc:TypeId×Value->H}
def yI{W W':World}(hb:Below W.heap.size W W'):∀ {ts:List TypeId} {vs:List Value} {ds:List (DataW H)} {p:List MemPlace},DataW.TrodAll enc Tryz.prog W 0 (fun _=>true) true ts vs ds p ->
  (∀t,t∈ts->Tryz.prog.readableRec t=true/\t<Tryz.prog.types.size)->(∀x∈p,x.block<W.heap.size)->DataW.TrodAll enc Tryz.prog W' 0 (fun b=>decide (b<W.heap.size)) true ts vs ds p
 | [],vs,ds,p,h,_,_=>by
  obtain⟨rfl,rfl,rfl⟩:=trodAll_nil h;exact trodAll_mk0
 |t::ts,vs,ds,p,h,ht,hp=>by
  obtain⟨v,vs',d,ds',p1,q,rfl,rfl,rfl,h1,h2⟩:=trodAll_cons h
  exact trodAll_cons_mk (Below.trod laidOut (ht t bD).1 (ht t bD).2 h1 hb (fun x hx=>hp x (eK _ hx)))
   (yI hb h2 (fun t ht'=>ht t (bt _ ht')) (fun x hx=>hp x (iI _ hx)))
abbrev Db(w:World):Nat->Nat->Prop:=ow SZ [] w
def Xg{w:World}{b off:Nat}(h:b<w.heap.size):Db w b off:=⟨h,fun id hid=>absurd hid (jJ _),fun hx=>hx⟩
def lR(b off i:Nat):(⟨b,off,none⟩:Addr).add i=⟨b,off+i,none⟩:=by
 unfold Addr.add;split
 ·rename_i h; rw[h]; rfl
 ·rfl
def sn{w:World}{fuel t:Nat}{v:Value}{x:DataW H×List MemPlace}(ht:Tryz.prog.underlying t=some (.int .i64))(h:DataW.trod enc Tryz.prog w 0 (fun _=>true) true fuel t [v]=some x):∃n:Int,fR w (Db w) (.int .i64 n) v:=by
 obtain⟨n,q,_,_⟩:=DataW.trod_int ht h;cases q;exact⟨n,.int _ _⟩
def XE{w:World}{fuel t:Nat}{v:Value}{x:DataW H×List MemPlace}(ht:Tryz.prog.underlying t=some (.int .u8))(h:DataW.trod enc Tryz.prog w 0 (fun _=>true) true fuel t [v]=some x):∃b:UInt8,fR w (Db w) (pZ b) v:=by
 obtain⟨n,q,_,wf⟩:=DataW.trod_int ht h;cases q;have h3:IntKind.u8.min<=n/\n<=IntKind.u8.max:=by simpa[Lit.wf] using wf
 have e1:IntKind.u8.min=0:=ml;have e2:IntKind.u8.max=255:=ml;have e:n=((UInt8.ofNat n.toNat).toNat:Int):=by rw[UInt8.toNat_ofNat']; omega
 refine⟨UInt8.ofNat n.toNat,?_⟩;unfold pZ;rw[<-e];exact .int _ _
def HK{w:World}{fuel t:Nat}{v:Value}{x:DataW H×List MemPlace}(ht:Tryz.prog.underlying t=some .string)(h:DataW.trod enc Tryz.prog w 0 (fun _=>true) true fuel t [v]=some x):∃s:Bytes,fR w (Db w) (.str s) v:=by
 obtain⟨s,q,_,_⟩:=DataW.trod_string ht h;cases q;refine⟨s.data.toList,?_⟩;have:Go.Abs.bs s.data.toList=s:=by apply ByteArray.ext; simp[Go.Abs.bs]
 have h:=fR.str (w:=w) (iE:=Db w) s.data.toList;rw[this] at h;exact h
def BX{α:Type}(P:Nat->α->Prop):∀(n:Nat),(∀i,i<n->∃a,P i a)->∃l:List α,l.length=n/\∀i a,l[i]?=some a->P i a
 |0,_=>⟨[],rfl,fun i a h=>by cases i<;>cases h⟩
 |n+1,h=>by
  obtain⟨l,hl,hp⟩:=BX P n (fun i hi=>h i aJ)
  obtain⟨a,ha⟩:=h n aJ;refine⟨l++[a],by simp[hl],fun i b hb=>?_⟩
  rcases bC i n with hi|hi
  ·rw[aN aJ] at hb;exact hp i b hb
  ·rw[bj aJ] at hb
   have:i=n:=by
    have:=(aj.1 hb).1;simp at this; omega
   subst this;simp[hl] at hb;subst hb; exact ha
def na(w:World)(l:List ag)(cs:List Value):Prop:=l.length=cs.length/\∀(k:Nat)(c:ag)(v:Value),l[k]?=some c->cs[k]?=some v->fR w (Db w) c v
def na.one{w:World}{c:ag}{v:Value}(h:fR w (Db w) c v):na w [c] [v]:=⟨rfl,fun k c' v' h1 h2=>by
 match k with
 |0=>cases h1; cases h2; exact h
 |k+1=>cases h1⟩
def na.app{w:World}{a b:List ag}{cs ds:List Value}(h:na w a cs)(g:na w b ds):na w (a++b) (cs++ds):=⟨by simp[h.1,g.1],fun k c v h1 h2=>by
 rcases bC k a.length with hk|hk
 ·rw[aN hk] at h1;rw[aN (by rw[<-h.1]; exact hk)] at h2
  exact h.2 k c v h1 h2
 ·rw[bj hk] at h1;rw[bj (by rw[<-h.1]; exact hk),<-h.1] at h2
  exact g.2 _ c v h1 h2⟩
def na.nil{w:World}:na w [] []:=⟨rfl,fun k c v h1 _=>by cases h1⟩
def am5:DataW H->Nat
 | .slice es _=>es.length
 |_=>0
def Au{α:Type}{w:World}{fuel t e m:Nat}{v:Value}{x:DataW H×List MemPlace}{eC:α->List ag}{mk:α->ag}(ht:Tryz.prog.underlying t=some (.slice e))(hm:Tryz.prog.cellsOf e=m)(hm0:0<m)
  (hmk:∀a,(mk a).cells=eC a) (dQ:∀a,(eC a).length=m)
  (he:∀(n:Nat)(cs:List Value)(y:DataW H×List MemPlace),cs.length=m->DataW.trod enc Tryz.prog w 0 (fun _=>true) true n e cs=some y->∃a,na w (eC a) cs)
  (h:DataW.trod enc Tryz.prog w 0 (fun _=>true) true fuel t [v]=some x) :
  ∃l:List α,fR w (Db w) (.slice .sh (l.map mk)) v/\l.length=am5 x.1:=by
 rcases open_slice ht h with ⟨hcs,hxx⟩|⟨a,len,cap,mm,n,D,Pl,hcs,_,hl,_,hmm,hxx,hi⟩
 ·cases hcs;exact⟨[],fR.nil _ _ _,by rw[hxx]; rfl⟩
 ·cases hcs;simp only[aI] at hmm;obtain⟨b,off,spot⟩:=a;rw[hm] at hi
  have each:∀i,i<len->∃s:α,∃cs',w.cells? 0 ((⟨b,off,spot⟩:Addr).add (i*m)) m=some cs'/\cs'.length=m/\na w (eC s) cs':=by
   intro i hi';obtain⟨cs',hcl,ht⟩:=hi i aJ;have hln:cs'.length=m:=(World.cells?_some hcl).2.1;obtain⟨s,hr⟩:=he _ _ _ hln ht;exact⟨s,cs',hcl,hln,hr⟩
  obtain⟨l,hll,hlp⟩:=BX _ len each;refine⟨l,?_,by rw[hxx]; simp[am5,hll]⟩
  have hsp:len≠0->spot=none:=fun h0=>by
   obtain⟨s,cs',hcl,h6,_⟩:=each 0 aJ;obtain⟨_,_,hat⟩:=World.cells?_some hcl;have:=hat 0 hm0;have h3:cs'[0]?=some (cs'[0]'(by omega)):=ai aJ
   rw[h3] at this;simpa[Addr.add] using World.cell?_spot this
  have cell:∀(i:Nat)(s:α)(k:Nat)(c:ag),l[i]?=some s->(eC s)[k]?=some c->∃u,w.cell? ⟨b,off+(i*m+k),none⟩=some u/\fR w (Db w) c u:=fun i s k c hs hk=>by
   obtain⟨cs',hcl,h6,hr⟩:=hlp i s hs;have hil:i<len:=by have:=(aj.1 hs).1; omega
   obtain rfl:=hsp aJ;obtain⟨_,_,hat⟩:=World.cells?_some hcl;have hk6:k<m:=by have:=(aj.1 hk).1; rw[dQ] at this; exact this
   have h1:=hat k hk6;have h3:cs'[k]?=some (cs'[k]'(by omega)):=ai aJ
   rw[lR,lR,h3] at h1;exact⟨_,by rw[<-Nat.add_assoc]; exact h1,hr.2 k c _ hk h3⟩
  refine .slice _ _ _ _ b off m (fun q=>(w.cell? ⟨b,off+q,none⟩).getD undef) (by simp[hll]) hl (fun hne=>?_) ?_ ?_ ?_
  ·obtain rfl:=hsp (fun h0=>hne (by rw[h0] at hll; rw[dz.1 hll]; rfl))
   rfl
  ·intro x hx;obtain⟨s,_,rfl⟩:=eL.1 hx;rw[hmk,dQ]
  ·intro i x k c hx hk;rw[aX] at hx;obtain⟨s,hs,rfl⟩:=aV.1 hx;rw[hmk] at hk;obtain⟨u,h1,_⟩:=cell i s k c hs hk;refine⟨by rw[h1]; rfl,Xg (MH h1)⟩
  ·intro i x k c hx hk;rw[aX] at hx;obtain⟨s,hs,rfl⟩:=aV.1 hx;rw[hmk] at hk;obtain⟨u,h1,h2⟩:=cell i s k c hs hk
   show fR w _ c ((w.cell? _).getD undef)
   rw[h1];exact h2
def Fy{w:World}{fuel t e:Nat}{v:Value}{x:DataW H×List MemPlace}(ht:Tryz.prog.underlying t=some (.slice e))(he:Tryz.prog.underlying e=some (.int .u8))(hc:Tryz.prog.cellsOf e=1)(h:DataW.trod enc Tryz.prog w 0 (fun _=>true) true fuel t [v]=some x) :
  ∃d:Bytes,fR w (Db w) (.slice .sh (d.map pZ)) v:=by
 obtain⟨l,h,_⟩:=Au (eC:=fun b=>[pZ b]) (mk:=pZ) ht hc aJ (fun _=>rfl) (fun _=>rfl) (fun n cs y hl hy=>by
  match cs,hl with
  | [c],_ =>
   obtain⟨b,hb⟩:=XE he hy;exact⟨b,.one hb⟩) h
 exact⟨l,h⟩
def Xy{w:World}{fuel t e:Nat}{v:Value}{x:DataW H×List MemPlace}(ht:Tryz.prog.underlying t=some (.slice e))(he:Tryz.prog.underlying e=some .string)(hc:Tryz.prog.cellsOf e=1)(h:DataW.trod enc Tryz.prog w 0 (fun _=>true) true fuel t [v]=some x) :
  ∃d:List Bytes,fR w (Db w) (.slice .sh (d.map .str)) v:=by
 obtain⟨l,h,_⟩:=Au (eC:=fun b=>[.str b]) (mk:=fun(b:Bytes)=>ag.str b) ht hc aJ (fun _=>rfl) (fun _=>rfl) (fun n cs y hl hy=>by
  match cs,hl with
  | [c],_ =>
   obtain⟨b,hb⟩:=HK he hy;exact⟨b,.one hb⟩) h
 exact⟨l,h⟩
set_option maxRecDepth 100000 in
def Qu{w:World}{t:Nat}{fs:Array Field}{r:Reach}{b:Nat}{v:Value}{d:DataW H}{ps:List MemPlace}{P:List Value->Prop}(ht:Tryz.prog.underlying t=some (.struct fs))(h:DataW.Trod enc Tryz.prog w 0 (fun _=>true) true t v d ps)(hv:Value.okWide Tryz.prog w r b t v)
  (K:∀(n:Nat)(cs:List Value)(y:DataW H×List MemPlace),DataW.trod enc Tryz.prog w 0 (fun _=>true) true n t cs=some y->P cs):∃cs:Array Value,v = .agg cs/\P cs.toList:=by
 obtain⟨cs,rfl,_⟩:=okWide_struct ht hv;obtain⟨fuel,hf⟩:=h;have hcs:(Value.agg cs).cells.toList=cs.toList:=rfl;rw[hcs] at hf;exact⟨cs,rfl,K _ _ _ hf⟩
def Yn{w:World}{l:List ag}{cs:Array Value}(h:na w l cs.toList):gn SZ [] w (.agg l) (.agg cs) :=
 .agg (by rw[h.1]; simp) (fun i c v hc hv => .plain (h.2 i c v hc (by simpa using hv)))
def Mq{T:zA}(hT:nM Tryz.prog (aq T)){f:Nat}{args:List ag}(h:aq T f args []=some (.bool true,[]))(w:World)(hG:sV SZ [] w)(vs:Array Value)(hl:args.length=vs.size)(hv:∀(i:Nat)(c:ag)(v:Value),args[i]?=some c->vs[i]?=some v->gn SZ [] w c v) :
  Calls Tryz.prog f vs w fun e w'=>e = .returned (.bool true)/\Below w.heap.size w w':=by
 refine((hT f args [] _ h).2 SZ w vs (aug w) hG hl hv).mono ?_;intro e w' hce;obtain⟨v,rfl,j',_,hx,hr⟩:=hce.ret rfl;obtain rfl:=hr.jB;exact⟨rfl,hx.os,hx.tape,hx.output,hx.size,fun k hk=>(hx.ur k hk fun i hi=>absurd hi (jJ _)).1⟩
def Kk{w:World}{n t k:Nat}{cs:List Value}{v:Value}{y:DataW H×List MemPlace}(hc:Tryz.prog.cellsOf t=1)(hk:cs[k]?=some v)(h:DataW.trod enc Tryz.prog w 0 (fun _=>true) true n t ((cs.drop k).take (Tryz.prog.cellsOf t))=some y):DataW.trod enc Tryz.prog w 0 (fun _=>true) true n t [v]=some y:=by
 rw[hc] at h
 have:(cs.drop k).take 1=[v]:=by
  have:=(aj.1 hk);obtain⟨h1,h2⟩:=this;rw[cW h1,h2]; rfl
 rw[this] at h;exact h
def Az:Tryz.prog.underlying 3=some (.int .i64):=fu
def XF:Tryz.prog.underlying 9=some .string:=fu
def abE:Tryz.prog.underlying 5=some (.int .u8):=fu
def N6:Tryz.prog.underlying 45=some (.slice 5):=fu
def zF:Tryz.prog.cellsOf 3=1:=fu
def Rk:Tryz.prog.cellsOf 9=1:=fu
def aeY:Tryz.prog.cellsOf 5=1:=fu
def MF:Tryz.prog.cellsOf 45=1:=fu
def am9:Tryz.prog.cellsOf 49=8:=fu
def ad2:Tryz.prog.underlying 22=some (.slice 49):=fu
set_option maxRecDepth 100000 in
def WD{w:World}{fuel:Nat}{cs:List Value}{x:DataW H×List MemPlace}(h:DataW.trod enc Tryz.prog w 0 (fun _=>true) true fuel 49 cs=some x):∃o:jD,na w (eT o) cs:=by
 obtain⟨xs,n,_,_,hl,hxl,hf⟩:=DataW.trod_struct underlying49 h;have h0:cs.length=8:=by rw[hl]; kernel_rfl
 match cs,h0 with
 | [v0,v1,v2,v3,v4,v5,v6,v7],_ =>
  match xs,hxl with
  | [y0,y1,y2,y3,y4,y5,y6,y7],_ =>
   obtain⟨a0,r0⟩:=sn Az (Kk (k:=0) zF rfl (hf 0 _ rfl));obtain⟨a1,r1⟩:=sn Az (Kk (k:=1) zF rfl (hf 1 _ rfl));obtain⟨a2,r2⟩:=HK XF (Kk (k:=2) Rk rfl (hf 2 _ rfl));obtain⟨a3,r3⟩:=HK XF (Kk (k:=3) Rk rfl (hf 3 _ rfl));obtain⟨a4,r4⟩:=sn Az (Kk (k:=4) zF rfl (hf 4 _ rfl));obtain⟨a5,r5⟩:=sn Az (Kk (k:=5) zF rfl (hf 5 _ rfl));obtain⟨a6,r6⟩:=sn Az (Kk (k:=6) zF rfl (hf 6 _ rfl));obtain⟨a7,r7⟩:=Fy N6 abE aeY (Kk (k:=7) MF rfl (hf 7 _ rfl));exact⟨⟨a0,a1,a2,a3,a4,a5,a6,a7⟩,.app (.one r0) (.app (.one r1) (.app (.one r2) (.app (.one r3) (.app (.one r4) (.app (.one r5) (.app (.one r6) (.one r7)))))))⟩
set_option maxRecDepth 100000 in
def aa8{w:World}{r:Reach}{b:Nat}{v:Value}{d:DataW H}{ps:List MemPlace}(h:DataW.Trod enc Tryz.prog w 0 (fun _=>true) true 22 v d ps)(hv:Value.okWide Tryz.prog w r b 22 v):∃l:List jD,gn SZ [] w (IE l) v:=by
 obtain⟨a,len,cap,rfl⟩:=okWide_slice ad2 hv;obtain⟨fuel,hf⟩:=h;obtain⟨l,h2,_⟩:=Au (eC:=eT) (mk:=XT) ad2 am9 aJ (fun _=>rfl) (fun _=>rfl) (fun n cs y _ hy=>WD hy) hf
 exact⟨l,.plain h2⟩
set_option maxRecDepth 100000 in
def aid{w:World}{r:Reach}{b:Nat}{v:Value}{d:DataW H}{ps:List MemPlace}(h:DataW.Trod enc Tryz.prog w 0 (fun _=>true) true 5 v d ps)(hv:Value.okWide Tryz.prog w r b 5 v):∃x:UInt8,gn SZ [] w (pZ x) v:=by
 obtain⟨n,rfl,_,_,hw⟩:=open_int abE hv h;have h3:IntKind.u8.min<=n/\n<=IntKind.u8.max:=by simpa[Lit.wf] using hw
 have e1:IntKind.u8.min=0:=ml;have e2:IntKind.u8.max=255:=ml;have e:n=((UInt8.ofNat n.toNat).toNat:Int):=by rw[UInt8.toNat_ofNat']; omega
 refine⟨UInt8.ofNat n.toNat,.plain ?_⟩;unfold pZ;rw[<-e];exact .int _ _
end
def aic{α:Type}{a:Array α}{l:List α}(h:a.toList=l):a=l.toArray:=by rw[<-h]
end
section
attribute [local irreducible] eX fJ lu gK eb kr aq aU cq bI
def aaQ(l:List gP)(s:Bytes)(a b:Int):l.map iJ++[.agg [.str s,aF a,aF b]]=(l++[gP.mk s a b]).map iJ:=by simp[iJ,gk]
def tD(ar:Int):List Node->Nat->Int
 | [],_ => -1
 |n::r,i=>if n.ar=ar then i else tD ar r (i+1)
def aao{t:Tree}{ar:Int}(ht:t.ae.length<=100000){k:List K}{R:Int->Option (ag×aC)}
  (hx:∀e,kr (aq bZ) [.tmp 4] 0 k ⟨.exit 0,e,[cC (aM t)]⟩=R (-1)) (hr:∀(i:Nat),kr (aq bZ) [.tmp 4] 0 k ⟨.ret,[(4,aF i)],[cC (aM t)]⟩=R i) :
  ∀(l pre:List Node),t.ae=pre++l->eX (aq bZ) [.tmp 4] 0 k (.loop [1,2,5] ZK) [(1,aF ar),(2,cA 0),(5,aF pre.length)] [cC (aM t)]=R (tD ar l pre.length):=by
 intro l;induction l with
 |nil =>
  intro pre h;rw[bG];simp only[Ks,aM,ba,jL h,EN,seval];exact hx _
 |cons n r ih =>
  intro pre h;rw[bG];have dQ:pre.length+1<=100000:=by rw[h] at ht; simp at ht; omega
  have hw:=zy pre n;simp only[Ks,aM,ba,iQ h,gU h,aL,EN,seval];refine bA (fun hb=>?_) (fun hb=>?_)
  ·have hb:n.ar=ar:=by simpa using hb
   simp only[Ks,EN,seval];rw[tD,aZ hb];exact hr _
  ·have hb:¬n.ar=ar:=by simpa using hb
   simp only[Ks,hw,EN,seval];rw[tD,aR hb];have:=ih (pre++[n]) (by rw[h]; simp)
   simp only[aA,aw,az] at this ⊢;exact this
def aqf(t:Tree)(ar:Int)(ht:t.ae.length<=100000):aq bZ 130 [br t,aF ar] []=some (aF (tD ar t.ae 0),[]):=by
 refine aB ?_;simp only[acr,Ks,br,EN,seval];exact aao (R:=fun z=>some (aF z,[])) ht (fun e=>by simp only[Ks,EN,seval]) (fun i=>by simp only[Ks,EN,seval]) t.ae [] rfl
def asw(ae:List Node)(next ak ar:Int)(h:ae.length<=100000)(M:aC):aU (aq bZ) 130 [.agg [ba ae,aF next,aF ak],aF ar] M=some (aF (tD ar ae 0),M) :=
 cO (aqf ⟨ae,next,ak⟩ ar h) M
def Ao(ar:Int):∀(l:List Node)(i:Nat),(find l ar=none/\tD ar l i = -1)\/∃m n,l[m]?=some n/\find l ar=some n/\tD ar l i=((i+m:Nat):Int)
 | [],_ => .inl ⟨rfl,rfl⟩
 |n::r,i=>by
  unfold find tD
  by_cases h:n.ar=ar
  ·exact .inr ⟨0,n,rfl,by simp[h],by simp[h]⟩
  ·rcases Ao ar r (i+1) with ⟨h1,h2⟩|⟨m,n',h1,h2,h3⟩
   ·exact .inl ⟨by simp[h]; simpa[find] using h1,by simp[h,h2]⟩
   ·exact .inr ⟨m+1,n',by simpa using h1,by simp[h]; simpa[find] using h2,by simp[h,h3]; omega⟩
def c74(t:Tree)(ar:Int)(ht:t.ae.length<=100000):aq bZ 74 [br t,aF ar] []=some (.tuple [bL ((find t.ae ar).getD Node.zero),.bool (find t.ae ar).isSome],[]):=by
 refine aB ?_;simp only[al1,E74,br,aM,asw,ht,EN,seval];rcases Ao ar t.ae 0 with ⟨h1,h2⟩|⟨m,n,h1,h2,h3⟩
 ·rw[h2];simp only[E74,h1,EN,seval];rfl
 ·rw[h3];simp only[E74,h1,h2,ba,aL,EN,seval];rfl
def Bj(ae:List Node)(next ak ar:Int)(h:ae.length<=100000)(M:aC):aU (aq bZ) 74 [.agg [ba ae,aF next,aF ak],aF ar] M=some (.tuple [bL ((find ae ar).getD Node.zero),.bool (find ae ar).isSome],M) :=
 cO (c74 ⟨ae,next,ak⟩ ar h) M
def ap8(t:Tree)(ar:Int)(ht:t.ae.length<=100000):aq bZ 123 [br t,aF ar] []=some (.tuple [bL (gX t.ae ar).1,aF (gX t.ae ar).2],[]):=by
 refine aB ?_;simp only[acj,X2,br,aM,Bj,ht,bL,aL,EN,seval];unfold gX;cases hf:find t.ae ar with
 |none=>simp only[X2,Option.isSome,EN,seval]; first|done|rfl
 |some n =>
  simp only[X2,Option.isSome,bz,EN,seval]
  repeat' ((first|apply bA|apply bV|apply dP)<;>intro hb<;>simp only[hb,EN,X2,seval])
  all_goals simp_all [Node.zero]
def Zh(ae:List Node)(next ak ar:Int)(h:ae.length<=100000)(M:aC):aU (aq bZ) 123 [.agg [ba ae,aF next,aF ak],aF ar] M=some (.tuple [bL (gX ae ar).1,aF (gX ae ar).2],M) :=
 cO (ap8 ⟨ae,next,ak⟩ ar h) M
def tz(s:Bytes):List gP->Nat->Int
 | [],_ => -1
 |n::r,i=>if n.name=s then i else tz s r (i+1)
def tC(s:Bytes):∀(l:List gP)(i:Nat),(gx l s=none/\tz s l i = -1)\/∃m n,l[m]?=some n/\gx l s=some n/\tz s l i=((i+m:Nat):Int)
 | [],_ => .inl ⟨rfl,rfl⟩
 |n::r,i=>by
  unfold gx tz
  by_cases h:n.name=s
  ·exact .inr ⟨0,n,rfl,by simp[h],by simp[h]⟩
  ·rcases tC s r (i+1) with ⟨h1,h2⟩|⟨m,n',h1,h2,h3⟩
   ·exact .inl ⟨by simp[h]; simpa[gx] using h1,by simp[h,h2]⟩
   ·exact .inr ⟨m+1,n',by simpa using h1,by simp[h]; simpa[gx] using h2,by simp[h,h3]; omega⟩
def aak{t:Node}{s:Bytes}(ht:t.bc.length<=100000){k:List K}{R:Int->Option (ag×aC)}
  (hx:∀e,kr (aq bZ) [.tmp 4] 0 k ⟨.exit 0,e,[cC (aL t)]⟩=R (-1)) (hr:∀(i:Nat),kr (aq bZ) [.tmp 4] 0 k ⟨.ret,[(4,aF i)],[cC (aL t)]⟩=R i) :
  ∀(l pre:List gP),t.bc=pre++l->eX (aq bZ) [.tmp 4] 0 k (.loop [1,2,5] ZG) [(1,.str s),(2,cA 0),(5,aF pre.length)] [cC (aL t)]=R (tz s l pre.length):=by
 intro l;induction l with
 |nil =>
  intro pre h;rw[bG];simp only[Kq,aL,jc,jL h,EN,seval];exact hx _
 |cons n r ih =>
  intro pre h;rw[bG];have dQ:pre.length+1<=100000:=by rw[h] at ht; simp at ht; omega
  have hw:=zy pre n;simp only[Kq,aL,jc,iQ h,gU h,gk,EN,seval];refine bA (fun hb=>?_) (fun hb=>?_)
  ·have hb:n.name=s:=by simpa using hb
   simp only[Kq,EN,seval];rw[tz,aZ hb];exact hr _
  ·have hb:¬n.name=s:=by simpa using hb
   simp only[Kq,hw,EN,seval];rw[tz,aR hb];have:=ih (pre++[n]) (by rw[h]; simp)
   simp only[aA,aw,az] at this ⊢;exact this
def aqa(t:Node)(s:Bytes)(ht:t.bc.length<=100000):aq bZ 125 [bL t,.str s] []=some (aF (tz s t.bc 0),[]):=by
 refine aB ?_;simp only[acm,Kq,bL,EN,seval];exact aak (R:=fun z=>some (aF z,[])) ht (fun e=>by simp only[Kq,EN,seval]) (fun i=>by simp only[Kq,EN,seval]) t.bc [] rfl
def afF(a b c:Int)(d:Bytes)(e:List gP)(u:Int)(s:Bytes)(h:e.length<=100000)(M:aC):aU (aq bZ) 125 [.agg [aF a,aF b,aF c,cX d,jc e,aF u],.str s] M=some (aF (tz s e 0),M) :=
 cO (aqa ⟨a,b,c,d,e,u⟩ s h) M
def aaj{s:Bytes}(hs:s.length<=100000){k:List K}{R:Bool->Option (ag×aC)}
  (hx:∀e,kr (aq bZ) [.tmp 2] 0 k ⟨.exit 0,e,[]⟩=R true) (hr:kr (aq bZ) [.tmp 2] 0 k ⟨.ret,[(2,.bool false)],[]⟩=R false) :
  ∀(l pre:Bytes),s=pre++l->eX (aq bZ) [.tmp 2] 0 k (.loop [0,3] ZF) [(0,.str s),(3,aF pre.length)] []=R (l.all tc):=by
 intro l;induction l with
 |nil =>
  intro pre h;rw[bG];simp only[HT,jL h,EN,seval];exact hx _
 |cons n r ih =>
  intro pre h;rw[bG];have dQ:pre.length+1<=100000:=by rw[h] at hs; simp at hs; omega
  have hw:=zy pre n;have hi:=ih (pre++[n]) (by rw[h]; simp)
  simp only[aA,aw,az] at hi;simp only[HT,iQ h,gU h,EN,seval]
  repeat' ((first|apply bA|apply bV|apply dP)<;>intro hb<;>simp only[hb,EN,HT,gU h,hw,seval])
  all_goals try simp only[HT,EN,seval]
  all_goals first
   |(refine hr.trans ?_; congr 1; symm; simp_all [tc]; done)
   |(refine hi.trans ?_; congr 1; symm; simp_all [tc]; done)
def ap9(s:Bytes)(hs:s.length<=100000):aq bZ 124 [.str s] []=some (.bool (fW s),[]):=by
 refine aB ?_;simp only[ack,HT,EN,seval];have hl:=fun k hx hr=>aaj (k:=k) (R:=fun b=>some (ag.bool b,[])) hs hx hr s [] rfl
 repeat' ((first|apply bA|apply bV|apply dP)<;>intro hb<;>simp only[hb,EN,HT,seval])
 all_goals first
  |(simp_all [fW]; done)
  |(refine(hl _ (fun e=>by simp only[HT,EN,seval]) (by simp only[HT,EN,seval])).trans ?_; simp_all [fW]; done)
def S0 s hs:=cP (ap9 s hs)
def c72(t:Tree)(ar:Int)(s:Bytes)(ht:Small t)(hs:s.length<=100000):aq bZ 72 [br t,aF ar,.str s] []=some (.tuple [aF (fh t.ae ar s).1,aF (fh t.ae ar s).2],[]):=by
 refine aB ?_;have hd:=tI ht ar;simp only[alZ,E72,br,aM,Zh,ht.ae,bL,aL,EN,seval];unfold fh;refine bA (fun hb=>?_) (fun hb=>?_)
 ·simp only[E72,EN,seval];simp_all
 ·simp only[E72,S0,hs,EN,seval];refine bA (fun hb'=>?_) (fun hb'=>?_)
  ·simp only[E72,EN,seval];simp_all
  ·simp only[E72,afF,hd,EN,seval];rcases tC s (gX t.ae ar).1.bc 0 with ⟨h1,h2⟩|⟨m,n,h1,h2,h3⟩
   ·rw[h2];simp only[E72,EN,seval];simp_all
   ·rw[h3];simp only[E72,h1,jc,gk,EN,seval];simp_all
def k72(ae:List Node)(next ak ar:Int)(s:Bytes)(ht:Small ⟨ae,next,ak⟩)(hs:s.length<=100000)(M:aC):aU (aq bZ) 72 [.agg [ba ae,aF next,aF ak],aF ar,.str s] M =
  some (.tuple [aF (fh ae ar s).1,aF (fh ae ar s).2],M):=cO (c72 ⟨ae,next,ak⟩ ar s ht hs) M
def aah{t:Tree}{n:Node}(ht:t.ae.length<=100000){k:List K}{R:List Node->Bool->Option (ag×aC)}
  (hx:∀out done v e,out.length<=300000->kr (aq bZ) [.dK 4 3] 0 k ⟨.exit 0,[(2,cA 0),(3,cA 1),(4,cA 2),(5,.slice (.own 3) (out.map bL)),(6,.bool done),(7,v),(12,e)],[cC (aM t),cC (aL n),.cells zT,.tick 6 out.length]⟩=R out done) :
  ∀(l pre out:List Node)(done:Bool),t.ae=pre++l->out.length+2*l.length<=300000->eX (aq bZ) [.dK 4 3] 0 k (.loop [2,3,4,5,6,7] ZA) [(2,cA 0),(3,cA 1),(4,cA 2),(5,.slice (.own 3) (out.map bL)),(6,.bool done),(7,aF pre.length)] [cC (aM t),cC (aL n),.cells zT,.tick 6 out.length]=R (oz n l out done).1 (oz n l out done).2:=by
 intro l;induction l with
 |nil =>
  intro pre out done h ho;rw[bG];simp only[Km,aM,ba,jL h,EN,seval];exact hx _ _ _ _ (by simp at ho; omega)
 |cons m r ih =>
  intro pre out done h ho;rw[bG];have dQ:pre.length+1<=100000:=by rw[h] at ht; simp at ht; omega
  have hw:=zy pre m;have hi:=fun out done ho=>ih (pre++[m]) out done (by rw[h]; simp) ho
  simp only[aw] at ho;have r1:ct (out.length+1) 80=True:=qM;have r2:ct (out.length+1+1) 80=True:=qM;rw[oz];simp only[Km,aM,ba,iQ h,gU h,aL,EN,seval]
  repeat' ((first|apply bA|apply bV|apply dP)<;>intro hb<;>simp only[hb,EN,Km,gU h,hw,r1,r2,aL,seval])
  all_goals try simp only[Km,gU h,hw,r1,r2,aL,EN,seval]
  all_goals first
   |(refine ir ?_ ((hi (out++[n]++[m]) true gm).trans ?_)
     ·simp only[aW,aH,aQ,aA,aw,az]; rfl
     ·clear hi ih hx hw h; simp_all; done)
   |(refine ir ?_ ((hi (out++[n]) true gm).trans ?_)
     ·simp only[aW,aH,aQ,aA,aw,az]; rfl
     ·clear hi ih hx hw h; simp_all; done)
   |(refine ir ?_ ((hi (out++[m]) done gm).trans ?_)
     ·simp only[aW,aH,aQ,aA,aw,az]; rfl
     ·clear hi ih hx hw h; simp_all; done)
   |(refine ir ?_ ((hi out done aJ).trans ?_)
     ·simp only[aW,aH,aQ,aA,aw,az]; rfl
     ·clear hi ih hx hw h; simp_all; done)
def c119(t:Tree)(n:Node)(ht:t.ae.length<=100000):aq bZ 119 [br t,bL n] []=some (br ⟨eV t.ae n,t.next,t.ak⟩,[]):=by
 refine aB ?_;simp only[R7,Km,br,bL,EN,seval];refine aah (R:=fun out done=>some (br ⟨out++(if done then [] else [n]),t.next,t.ak⟩,[])) ht (fun out done v e ho=>?_) t.ae [] [] false rfl gm
 have r1:ct (out.length+1) 80=True:=qM;cases done
 ·simp only[Km,r1,br,aM,zT,aL,EN,seval];simp[ba,bL,aL]
 ·simp only[Km,r1,br,aM,zT,aL,EN,seval]
  try simp[ba]
def Hk(ae:List Node)(next ak a b c:Int)(d:Bytes)(e:List gP)(u:Int)(h:ae.length<=100000)(M:aC):aU (aq bZ) 119 [.agg [ba ae,aF next,aF ak],.agg [aF a,aF b,aF c,cX d,jc e,aF u]] M =
  some (.agg [ba (eV ae ⟨a,b,c,d,e,u⟩),aF next,aF ak],M):=cO (c119 ⟨ae,next,ak⟩ ⟨a,b,c,d,e,u⟩ h) M
def aas{t:Tree}{ar:Int}(ht:t.ae.length<=100000){k:List K}{R:List Node->Option (ag×aC)}
  (hx:∀out v e,out.length<=300000->kr (aq bZ) [.dK 4 3] 0 k ⟨.exit 0,[(1,aF ar),(2,cA 0),(4,cA 1),(5,.slice (.own 2) (out.map bL)),(6,v),(11,e)],[cC (aM t),.cells zT,.tick 6 out.length]⟩=R out) :
  ∀(l pre out:List Node),t.ae=pre++l->out.length+l.length<=150000->eX (aq bZ) [.dK 4 3] 0 k (.loop [1,2,4,5,6] ZY) [(1,aF ar),(2,cA 0),(4,cA 1),(5,.slice (.own 2) (out.map bL)),(6,aF pre.length)] [cC (aM t),.cells zT,.tick 6 out.length]=R (out++fQ l ar):=by
 intro l;induction l with
 |nil =>
  intro pre out h ho;rw[bG];simp only[QT,aM,ba,jL h,EN,seval];refine(hx _ _ _ (by simp at ho; omega)).trans (by simp[fQ])
 |cons m r ih =>
  intro pre out h ho;rw[bG];have dQ:pre.length+1<=100000:=by rw[h] at ht; simp at ht; omega
  have hw:=zy pre m;have hi:=fun out ho=>ih (pre++[m]) out (by rw[h]; simp) ho
  simp only[aw] at ho;have r1:ct (out.length+1) 80=True:=qM;simp only[QT,aM,ba,iQ h,gU h,aL,EN,seval]
  repeat' ((first|apply bA|apply bV|apply dP)<;>intro hb<;>simp only[hb,EN,QT,gU h,hw,r1,aL,seval])
  all_goals first
   |(refine ir ?_ ((hi (out++[m]) gm).trans ?_)
     ·simp only[aW,aH,aQ,aA,aw,az]; rfl
     ·clear hi ih hx hw h; simp_all[fQ]; done)
   |(refine ir ?_ ((hi out aJ).trans ?_)
     ·simp only[aW,aH,aQ,aA,aw,az]; rfl
     ·clear hi ih hx hw h; simp_all[fQ]; done)
def aqP(t:Tree)(ar:Int)(ht:t.ae.length<=100000):aq bZ 175 [br t,aF ar] []=some (br ⟨fQ t.ae ar,t.next,t.ak⟩,[]):=by
 refine aB ?_;simp only[Sg,QT,br,EN,seval];refine(aas (R:=fun out=>some (br ⟨out,t.next,t.ak⟩,[])) ht (fun out v e ho=>?_) t.ae [] [] rfl gm).trans (by simp[br])
 simp only[QT,br,aM,zT,EN,seval]
 try simp[ba]
def amz(ae:List Node)(next ak ar:Int)(h:ae.length<=100000)(M:aC):aU (aq bZ) 175 [.agg [ba ae,aF next,aF ak],aF ar] M =
  some (.agg [ba (fQ ae ar),aF next,aF ak],M):=cO (aqP ⟨ae,next,ak⟩ ar h) M
def aai{T:List ag}{n:Node}{s:Bytes}(hn:n.bc.length<=100000){k:List K}{R:List gP->Option (ag×aC)}
  (hx:∀out v e,out.length<=300000->kr (aq bZ) [.dK 6 3] 0 k ⟨.exit 0,[(2,.str s),(3,cA 0),(6,cA 1),(7,cA 2),(9,.slice (.own 3) (out.map iJ)),(10,v),(21,e)],[.cells T,.cells zT,cC (aL n),.tick 3 out.length]⟩=R out)
  (hT:∀B M,T.map (ag.jG B M)=T) :
  ∀(l pre out:List gP),n.bc=pre++l->out.length+l.length<=150000->eX (aq bZ) [.dK 6 3] 0 k (.loop [2,3,6,7,9,10] ZE) [(2,.str s),(3,cA 0),(6,cA 1),(7,cA 2),(9,.slice (.own 3) (out.map iJ)),(10,aF pre.length)] [.cells T,.cells zT,cC (aL n),.tick 3 out.length]=R (out++j8 l s):=by
 intro l;induction l with
 |nil =>
  intro pre out h ho;rw[bG];simp only[Kn,aL,jc,jL h,EN,seval];refine(hx _ _ _ (by simp at ho; omega)).trans (by simp[j8])
 |cons m r ih =>
  intro pre out h ho;rw[bG];have dQ:pre.length+1<=100000:=by rw[h] at hn; simp at hn; omega
  have hw:=zy pre m;have hi:=fun out ho=>ih (pre++[m]) out (by rw[h]; simp) ho
  simp only[aw] at ho;have r1:ct (out.length+1) 32=True:=qM;simp only[Kn,aL,jc,iQ h,gU h,gk,hT,zT,EN,seval]
  repeat' ((first|apply bA|apply bV|apply dP)<;>intro hb<;>simp only[hb,EN,Kn,gU h,hw,r1,gk,hT,zT,seval])
  all_goals first
   |(refine ir ?_ ((hi (out++[m]) gm).trans ?_)
     ·simp only[aW,aH,aQ,aA,aw,az]; rfl
     ·clear hi ih hx hw h hT; simp_all[j8]; done)
   |(refine ir ?_ ((hi out aJ).trans ?_)
     ·simp only[aW,aH,aQ,aA,aw,az]; rfl
     ·clear hi ih hx hw h hT; simp_all[j8]; done)
def FH{t:Tree}(hs:Small t)(ar:Int):((find t.ae ar).getD Node.zero).bc.length<=100000:=by
 cases h:find t.ae ar with
 |none=>simp[Node.zero]
 |some n=>exact hs.bc n (cH h).1
def ap7(t:Tree)(ar:Int)(s:Bytes)(ht:Small t):aq bZ 122 [br t,aF ar,.str s] []=some (br ⟨dD t.ae ar s,t.next,t.ak⟩,[]):=by
 refine aB ?_;have hd:=FH ht ar;unfold dD;simp only[R8,Kn,br,aM,Bj,ht.ae,bL,EN,seval];generalize (find t.ae ar).getD Node.zero=n at hd ⊢;simp only[Kn,aL,EN,seval];refine(aai (R:=fun out=>some (br ⟨eV t.ae { n with bc:=out },t.next,t.ak⟩,[])) hd (fun out v e ho=>?_) (fun B M=>by simp only[Kn,EN,seval]) n.bc [] [] rfl gm).trans (by simp[br,aM])
 simp only[Kn,zT,aL,Hk,ht.ae,EN,seval];simp[br,aM]
end
end Go.Proofs.YteoamaffclmdbaaGreatDoor
