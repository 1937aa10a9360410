import Derived.Test.YteoamaffclmdbaaGreatDoorProg
import Derived.WalkKit
import Derived.LaidEql
import Derived.Stop.Asserts
import Derived.RowKitTokens
import Derived.KernelRfl
import Derived.Defers
import Derived.Recover
import Derived.Test.YteoamaffclmdbaaGreatDoorHoaD
set_option linter.unusedSimpArgs false
set_option linter.unusedVariables false
set_option linter.unusedSectionVars false
set_option linter.defProp false
open Go.Proofs.Tryz
namespace Go.Proofs.YteoamaffclmdbaaGreatDoor
section
open Go Go.Abs
section
section
variable {α:Type} (enc:α->ag) {f sz bytes:Nat}
def CI(hp:cd.oO f=some (mN sz bytes))(hw:∀a,(enc a).cells.length=sz)(hb:bytes<=1000){l:List α}(h0:l≠[])(hn:l.length<=100000)(M:aC) :
  aq cd f [gA (l.map enc)] M=some (.cB M.length 0 sz 0 l.length,M++[.arr sz 0 (l.map enc)]):=by
 refine fg (g:=mN sz bytes) hp ?_;obtain⟨a,r,rfl⟩:=fm h0;have hw:wid ((a::r).map enc) sz:=by have:=pk enc sz hw (a::r); simpa using this
 have hr:cr ((a::r).map enc).length bytes:=by have:=sn (a:=(a::r).length) (b:=bytes) aH aH; simpa using this
 unfold mN;simp only[aK] at hw hr ⊢;rw[fi ⟨hw,hr⟩];simp
def Dz(hp:cd.oO f=some (mN sz bytes)){l:List α}(h0:l=[])(M:aC):aq cd f [gA (l.map enc)] M=some (.slice .c0 [],M):=by
 subst h0; exact fg (g:=mN sz bytes) hp rfl
def IX(hp:cd.oO f=some (kV sz bytes))(hb:bytes<=1000){l:List α}{b id v:Nat}(h:b<=l.length)(hn:l.length<=100000)(x:ag)(hx:x.cells.length=sz)(M:aC)(hM:nth M id=some (.arr sz v (l.map enc))) :
  aq cd f [.cB id v sz 0 l.length,aF b,gA [x]] M=some (.cB id (v+1) sz 0 (l.length+1),iT M id (.arr sz (v+1) ((l.map enc).take b++x::(l.map enc).drop b))):=by
 refine fg (g:=kV sz bytes) hp ?_;have hr:cr ((l.map enc).length+1) bytes:=by have:=sn (a:=l.length+1) (b:=bytes) aH aH; simpa using this
 unfold kV;simp only[hM];rw[fi ⟨trivial,trivial,trivial,dw,aH,by simpa using h,hx,hr⟩]
 simp
def FD(hp:cd.oO f=some (kV sz bytes)){b:Nat}(h0:b=0)(x:ag)(hx:x.cells.length=sz)(M:aC) :
  aq cd f [.slice .c0 [],aF (b:Int),gA [x]] M=some (.cB M.length 0 sz 0 1,M++[.arr sz 0 [x]]):=by
 subst h0;refine fg (g:=kV sz bytes) hp ?_;unfold kV;simp only[];rw[fi ⟨rfl,hx⟩]
def alM(hp:cd.oO f=some (lF sz)){l:List α}{b id v:Nat}(h:b<l.length)(hn:l.length<=100000)(M:aC)(hM:nth M id=some (.arr sz v (l.map enc))) :
  aq cd f [.cB id v sz 0 l.length,aF b,aF ((b+1:Nat):Int)] M=some (.cB id (v+1) sz 0 (l.length-1),iT M id (.arr sz (v+1) ((l.map enc).take b++(l.map enc).drop (b+1)))):=by
 refine fg (g:=lF sz) hp ?_;unfold lF;simp only[hM];rw[fi ⟨trivial,trivial,trivial,dw,aH,by simpa using h,aH,gh⟩]
 simp
def P4{M:aC}(i:Nat)(a b:cL):iT (iT M i a) i b=iT M i b:=by
 induction M generalizing i with
 |nil=>rfl
 |cons x r ih =>
  cases i with
  |zero=>rfl
  |succ i=>simp only[iT,ih]
def Yp{l:List α}{b:Nat}(h:b<l.length):List.take (l.length-1) ((l.map enc).take b++(l.map enc).drop (b+1))=(l.eraseIdx b).map enc:=by
 rw[bB gh,List.eraseIdx_eq_take_drop_succ];simp
def FC(hp:cd.oO f=some (sI sz)){l:List α}{b id v:Nat}(h:b<l.length)(hn:l.length<=100000)(M:aC)(hM:nth M id=some (.arr sz v (l.map enc))) :
  aq cd f [.cB id v sz 0 l.length,aF b,aF ((b+1:Nat):Int)] M=some (gA ((l.eraseIdx b).map enc),iT M id (.tick sz (l.length-1))):=by
 refine fg (g:=sI sz) hp ?_;unfold sI lF;simp only[hM];rw[fi ⟨trivial,trivial,trivial,dw,aH,by simpa using h,aH,gh⟩]
 simp only[bO,ag.rM,ag.pa,Ht hM,ag.ids,ag.nC,ag.iI,qG,P4,aE,pd,dJ,eK];rw[Yp enc h];have:(List.take b (l.map enc)++List.drop (b+1) (l.map enc)).length=l.length-1:=gh;rw[this]
def M8{l:List α}{b:Nat}(h:b<=l.length)(x:α):List.take (l.length+1) ((l.map enc).take b++enc x::(l.map enc).drop b)=(l.take b++x::l.drop b).map enc:=by
 rw[bB gh];simp
end
attribute [local irreducible] eX fJ lj gK dY kr aq aR cp bI
def E2(t:Tree)(ar:Int)(ht:Small t)(hr:rP t)(M:aC):aR (aq cd) 191 [.agg [ba t.ae,aF t.next,aF t.ak],aF ar] M=some (.tuple [.agg (aL (bl t.ae ar)),.bool (find t.ae ar).isSome],M) :=
 cO (aqE t ar ht hr) M
def amd(t:Tree)(ar:Int)(ht:Small t)(hr:rP t)(M:aC):aR (aq cd) 187 [.agg [ba t.ae,aF t.next,aF t.ak],aF ar] M=some (.tuple [.agg (aM (kC t ar).1),aF (kC t ar).2],M) :=
 cO (aqB t ar ht hr) M
end
section
attribute [local irreducible] eX fJ lj gK dY kr aq aR cp bI
def Ls(l:List fE)(c h:Int):Int×Int:=match l.find? (sQ c h) with
 |some x=>(x.ar,0)
 |none=>(0,80)
def aqY(l:List fE)(c h:Int)(hn:l.length<=100000):aq cd 224 [fI l,aF c,aF h] []=some (.tuple [aF (Ls l c h).1,aF (Ls l c h).2],[]):=by
 refine aB ?_;have hk:=adt l c h hn;simp only[acU,ad4,hk,EW,seval];unfold Ls;rcases xW (sQ c h) l 0 with ⟨h1,h2⟩|⟨m,x,h1,h2,h3,_⟩
 ·simp only[ad4,h1,h2,EW,seval]
 ·have cJ:(((0+m:Nat):Int)<0)=False:=dw;simp only[ad4,h1,h2,h3,cJ,jc,EW,seval]
def asD l c h hn:=cP (aqY l c h hn)
def pN(l:List fE)(ar:Int):Bool:=l.any fun x=>x.ar==ar
def aqU(l:List fE)(ar:Int)(hn:l.length<=100000):aq cd 219 [fI l,aF ar] []=some (.bool (pN l ar),[]):=by
 refine aB ?_;have hk:aR (aq cd) 185 [fI l,.func 262 [cv 0]] [cA [aF ar]]=some (.bool (pN l ar),[cA [aF ar]]):=kZ (ids:=[0]) rfl rfl (Wu ar) rfl rfl (akv l ar hn) rfl rfl rfl rfl rfl;simp only[acQ,aoC,hk,EW,seval]
def mM(t:Tree):List Int:=(t.ae.filter gV).map Node.ar
def vD(t:Tree)(l:List fE)(c h ar:Int):List fE×Int :=
 if !zO c h then (l,1)
 else if !(find t.ae ar).isSome||gV (bl t.ae ar) then (l,70)
 else if (bl t.ae ar).kind==2 then (l,72)
 else if pg (fun x=>il x c h==0) l (mi (fun x=>decide (il x c h<0)) l)=true then (l,71)
 else if decide (64<=(l.length:Int)) then (l,76)
 else (l.take (mi (fun x=>decide (il x c h<0)) l)++⟨c,h,ar⟩::l.drop (mi (fun x=>decide (il x c h<0)) l),0)
def xa(a b:fE):Prop:=a.bC<b.bC\/(a.bC=b.bC/\a.handle<b.handle)
abbrev uz(l:List fE):Prop:=l.Pairwise xa
def r8(x:fE)(c h:Int):(il x c h<0)↔(x.bC<c\/(x.bC=c/\x.handle<h)):=by
 unfold il orI qM
 by_cases h1:x.bC<c
 ·simp[h1]
 ·by_cases h2:c<x.bC
  ·simp[h1,h2]; omega
  ·have:x.bC=c:=aH
   by_cases h3:x.handle<h
   ·simp[h3,this]
   ·by_cases h4:h<x.handle
    ·simp[h3,h4,this]
    ·simp[h3,h4,this]
def DJ(x:fE)(c h:Int):(il x c h=0)↔(x.bC=c/\x.handle=h):=by
 unfold il orI qM
 by_cases h1:x.bC<c
 ·simp[h1]; omega
 ·by_cases h2:c<x.bC
  ·simp[h1,h2]; omega
  ·have:x.bC=c:=aH
   by_cases h3:x.handle<h
   ·simp[h3,this]; omega
   ·by_cases h4:h<x.handle
    ·simp[h3,h4,this]; omega
    ·simp[h3,h4,this]; omega
def DZ{l:List fE}(h:uz l)(c g:Int):Xz (fun x=>decide (il x c g<0)) l (mi (fun x=>decide (il x c g<0)) l):=by
 refine Hg (h.imp ?_);intro a b hab hb;simp only[bh,r8] at hb ⊢;unfold xa at hab;omega
def asA(l:List fE)(c g:Int)(hl:uz l)(hn:l.length<=100000)(M:aC):aR (aq cd) 211 [fI l,.agg [aF c,aF g],.qV 212 [.agg [aF c,aF g]]] M =
  some (.tuple [aF (mi (fun x=>decide (il x c g<0)) l),.bool (pg (fun x=>il x c g==0) l (mi (fun x=>decide (il x c g<0)) l))],M) :=
 cO (aqQ l c g _ (DZ hl c g) hn) M
def aqa(t:Tree)(l:List fE)(c h ar:Int)(ht:Small t)(hr:rP t)(hl:uz l)(hn:l.length<=64):aq cd 156 [br t,fI l,aF c,aF h,aF ar] []=some (.tuple [fI (vD t l c h ar).1,aF (vD t l c h ar).2],[]):=by
 refine aB ?_;have q1:=E2 t ar ht hr;have q2:=asA l c h hl aH;have hb:=(DZ hl c h).le;unfold vD;generalize mi (fun x=>decide (il x c h<0)) l=b at q2 hb ⊢
 generalize pg (fun x=>il x c h==0) l b=e at q2 ⊢
 simp only[RY,N3,br,aM,asz,q1,q2,EW,seval];refine bA (fun h1=>?_) (fun h1=>?_)
 ·simp only[N3,h1,EW,seval]
 ·have q3:=fun M=>afs (bl t.ae ar) M
  simp only[aL] at q3
  by_cases h0:l=[]
  ·have hb0:b=0:=by subst h0; simpa using hb
   have p1:=fun M=>Dz ig (f:=215) (sz:=3) (bytes:=24) rfl h0 M
   have p2:=fun M=>FD (f:=214) (sz:=3) (bytes:=24) rfl hb0 (.agg [aF c,aF h,aF ar]) rfl M
   simp only[N3,h1,q1,q2,q3,aL,EW,seval]
   repeat' ((first|apply bA|apply bW|apply dK)<;>intro hb<;>simp only[hb,EW,N3,q3,p1,p2,aL,seval])
   all_goals clear q1 q2 q3 p1 p2
   all_goals first|(simp_all only[qx,↓reduceIte,reduceCtorEq,aw]; done)|(simp_all only[qx,↓reduceIte,reduceCtorEq,aw]; rfl)
  ·have hb0:=hb;have p1:=fun M=>CI ig (f:=215) (sz:=3) (bytes:=24) rfl (fun _=>rfl) aH h0 aH M
   have p2:=fun M=>IX ig (f:=214) (sz:=3) (bytes:=24) (v:=0) (id:=3) rfl aH hb aH (.agg [aF c,aF h,aF ar]) rfl M
   simp only[N3,h1,q1,q2,q3,aL,EW,seval]
   repeat' ((first|apply bA|apply bW|apply dK)<;>intro hb<;>simp only[hb,EW,N3,q3,p1,p2,aL,seval])
   all_goals clear q1 q2 q3 p1 p2
   all_goals first|(simp_all only[qx,↓reduceIte,reduceCtorEq,aw]; done)|(simp_all only[qx,↓reduceIte,reduceCtorEq,aw]; exact congrArg (fun z=>some (ag.tuple [ag.slice .sh z,aF 0],([]:aC))) (M8 ig hb0 ⟨c,h,ar⟩))
def ase(t:Tree)(l:List fE)(c h ar:Int)(ht:Small t)(hr:rP t)(hl:uz l)(hn:l.length<=64)(M:aC):aR (aq cd) 156 [.agg [ba t.ae,aF t.next,aF t.ak],fI l,aF c,aF h,aF ar] M=some (.tuple [fI (vD t l c h ar).1,aF (vD t l c h ar).2],M) :=
 cO (aqa t l c h ar ht hr hl hn) M
def asC l ar hn:=cP (aqU l ar hn)
def nw(t:Tree)(l:List fE)(c h:Int):Tree×List fE×Int:=match l.find? (sQ c h) with
 |none=>(t,l,80)
 |some x=>(if (find t.ae x.ar).isSome&&gV (bl t.ae x.ar) && !pN (l.eraseP (sQ c h)) x.ar then (kC t x.ar).1 else t,l.eraseP (sQ c h),0)
def aqb(t:Tree)(l:List fE)(c h:Int)(ht:Small t)(hr:rP t)(hn:l.length<=64):aq cd 157 [br t,fI l,aF c,aF h] []=some (.tuple [br (nw t l c h).1,fI (nw t l c h).2.1,aF (nw t l c h).2.2],[]):=by
 refine aB ?_;have hk:=adt l c h aH;unfold nw;rcases xW (sQ c h) l 0 with ⟨h1,h2⟩|⟨m,x,h1,h2,h3,h4⟩
 ·simp only[MP,adV,hk,h1,h2,br,aM,EW,seval]
 ·have cJ:(((0+m:Nat):Int)<0)=False:=dw;have hm:m<l.length:=(aj.1 h2).1;have hne:l≠[]:=by rintro rfl; simp at hm
  have p1:=fun M=>CI ig (f:=215) (sz:=3) (bytes:=24) rfl (fun _=>rfl) aH hne aH M
  have p2:=fun M=>FC ig (f:=218) (sz:=3) (v:=0) (id:=2) rfl hm aH M
  have hw:IntKind.i64.wrap ((m:Int)+1)=((m+1:Nat):Int):=by rw[gW aH aH]; rfl
  have q1:=E2 t x.ar ht hr;have q2:=amd t x.ar ht hr;have q3:=fun M=>afs (bl t.ae x.ar) M
  have q4:=asC (l.eraseP (sQ c h)) x.ar (by have:=List.length_eraseP_le (p:=sQ c h) (l:=l); omega)
  simp only[h3];generalize kC t x.ar=fr at q2 ⊢;rw[h4] at p2;simp only[aL,aM] at q1 q2 q3;simp only[MP,adV,hk,h1,h2,cJ,jc,p1,p2,hw,q1,q3,aL,br,aM,FZ,qG,EW,seval]
  repeat' ((first|apply bA|apply bW|apply dK)<;>intro hb<;>simp only[hb,EW,adV,hk,h1,h2,cJ,p1,p2,hw,q1,q2,q3,q4,aL,FZ,qG,seval])
  all_goals clear q1 q2 q3 q4 p1 p2 hk
  all_goals first|rfl|(simp_all only[qx,↓reduceIte,reduceCtorEq,aw]; done)|(simp_all only[qx,↓reduceIte,reduceCtorEq,aw]; rfl)|skip
def al5(t:Tree)(l:List fE)(c h:Int)(ht:Small t)(hr:rP t)(hn:l.length<=64)(M:aC):aR (aq cd) 157 [.agg [ba t.ae,aF t.next,aF t.ak],fI l,aF c,aF h] M=some (.tuple [.agg (aM (nw t l c h).1),fI (nw t l c h).2.1,aF (nw t l c h).2.2],M) :=
 cO (aqb t l c h ht hr hn) M
def dX.sz{t:Tree}{dE:Int->Nat}{x:Int}(h:dX t dE x):Sz 200 t where
 ae:=h.ae
 bc:=fun n hn=>by have:=(h.yf _ _ ((ij h.lI.mj).2 ⟨hn,rfl⟩)).2; omega
 data:=fun n hn=>by
  have hi:=(ij h.lI.mj).2 ⟨hn,rfl⟩;rcases h.kind _ _ hi with h1|h1
  ·have:=(h.file _ _ hi h1).2.2; omega
  ·rw[h.dir _ _ hi h1]; simp
def Sz.Hu{b:Nat}{t:Tree}(h:Sz b t)(hb:b<=100000:=by omega):Small t:=h.small hb
def Rt(t:Tree):Prop:=∃dE,dX t dE 0
def Rt.lI{t:Tree}(h:Rt t):rP t:=let ⟨_,g⟩:=h; g.lI
def Rt.sz{t:Tree}(h:Rt t):Sz 200 t:=let ⟨_,g⟩:=h; g.sz
def Rt.small{t:Tree}(h:Rt t):Small t:=h.sz.small aH
def Rt.free{t:Tree}(h:Rt t)(ar:Int):Rt (kC t ar).1:=let ⟨_,g⟩:=h; ⟨_,Fz g ar⟩
def Rt.close{t:Tree}(h:Rt t)(l:List fE)(c g:Int):Rt (nw t l c g).1:=by
 unfold nw;split
 ·exact h
 ·split
  ·exact h.free _
  ·exact h
def yP(t:Tree)(l:List fE)(c g:Int):(nw t l c g).2.1.length<=l.length:=by
 unfold nw;split
 ·exact au _
 ·exact List.length_eraseP_le
def b0T(n:Tree)(B:Nat)(M:aC):List.map (ag.jE B M) (aM n)=aM n:=rfl
def Z9{t:Tree}(ht:t.ae.length<=100000){k:List K}{R:List Int->Option (ag×aC)}
  (hx:∀(out:List Int) e,kr (aq cd) [.tmp 2] 0 k ⟨.exit 0,(3,.slice (.own 1) (out.map mS))::e,[cA (aM t),.tick 1 out.length]⟩=R out) :
  ∀(l pre:List Node)(out:List Int),t.ae=pre++l->out.length<=pre.length->eX (aq cd) [.tmp 2] 0 k (.loop [3,7,8,9] ZH) [(3,.slice (.own 1) (out.map mS)),(7,ba t.ae),(8,aF t.ae.length),(9,aF pre.length)] [cA (aM t),.tick 1 out.length]=R (out++(l.filter gV).map Node.ar):=by
 intro l;induction l with
 |nil =>
  intro pre out h ho;rw[bF];simp only[N6,jJ h,kH,EW,seval];exact hx _ _
 |cons n rest ih =>
  intro pre out h ho;rw[bF];have dR:pre.length+1<=100000:=by rw[h] at ht; simp at ht; omega
  have hw:=zl pre n;have hi1:=ih (pre++[n]) out (by rw[h]; simp) gh
  have hi2:=ih (pre++[n]) (out++[n.ar]) (by rw[h]; simp) gh
  simp only[aA,av,az,aZ,aK,aU] at hi1 hi2;have r1:cr (out.length+1) 8=True:=qI;have q3:=fun M=>afs n M
  simp only[aL] at q3;simp only[N6,iP h,gU h,aL,aM,q3,EW,seval] at hi1 hi2 ⊢;refine bA (fun hb=>?_) (fun hb=>?_)
  ·simp only[N6,hb,r1,uw,hw,EW,seval];simpa[hb] using hi2
  ·simp only[N6,hb,hw,EW,seval];simpa[hb] using hi1
def aqz(t:Tree)(ht:t.ae.length<=100000):aq cd 184 [br t] []=some (tV (mM t),[]):=by
 refine aB ?_;have hl:=Z9 ht (k:=[.block 0,.seq ahs]) (R:=fun out=>some (tV out,[])) (fun out e=>by simp only[N6,EW,seval]) t.ae [] [] rfl (au _)
 simp only[aM,aU,az] at hl;simp only[R4,N6,br,aM,EW,seval];exact hl
def asr(t:Tree)(ht:t.ae.length<=100000)(M:aC):aR (aq cd) 184 [.agg [ba t.ae,aF t.next,aF t.ak]] M=some (tV (mM t),M):=cO (aqz t ht) M
def sP(c:Int):List fE->Tree->List fE->Tree×List fE
 | [],t,l=>(t,l)
 |x::r,t,l=>if x.bC==c then sP c r (nw t l c x.handle).1 (nw t l c x.handle).2.1 else sP c r t l
def DE(t:Tree)(l:List fE)(c:Int):Tree×List fE:=sP c l t l
def Z6{h0:List fE}(c:Int)(h64:h0.length<=64){k:List K}{R:Tree->List fE->Option (ag×aC)}
  (hx:∀(t:Tree) (l:List fE) e,kr (aq cd) [.dG 6 3,.tmp 7] 0 k ⟨.exit 0,(1,fI l)::(2,aF c)::(3,cv 0)::(6,cv 1)::e,[cA (aM t),cA [.slice .c0 [],aF 0,aF 0]]⟩=R t l) :
  ∀(r pre:List fE)(t:Tree)(l:List fE),h0=pre++r->Rt t->l.length<=64->eX (aq cd) [.dG 6 3,.tmp 7] 0 k (.loop [1,2,3,6,10,11,12] Zy) [(1,fI l),(2,aF c),(3,cv 0),(6,cv 1),(10,fI h0),(11,aF h0.length),(12,aF pre.length)] [cA (aM t),cA [.slice .c0 [],aF 0,aF 0]]=R (sP c r t l).1 (sP c r t l).2:=by
 intro r;induction r with
 |nil =>
  intro pre t l h ht hl;rw[bF];simp only[N5,jJ h,sP,EW,seval];exact hx _ _ _
 |cons x rest ih =>
  intro pre t l h ht hl;rw[bF];have dR:pre.length+1<=100000:=by rw[h] at h64; simp at h64; omega
  have hw:=zl pre x;have q1:=al5 t l c x.handle ht.small ht.lI hl;have hi1:=ih (pre++[x]) t l (by rw[h]; simp) ht hl
  have hi2:=ih (pre++[x]) _ _ (by rw[h]; simp) (ht.close l c x.handle) (aY (yP t l c x.handle) hl)
  rw[sP];generalize nw t l c x.handle=cl at q1 hi2 ⊢;simp only[aA,av,az] at hi1 hi2;simp only[N5,iP h,gU h,jc,aM,EW,seval] at q1 hi1 hi2 ⊢;refine bA (fun hb=>?_) (fun hb=>?_)
  ·simp only[N5,hb,q1,hw,EW,seval];exact hi2
  ·simp only[N5,hb,hw,af,EW,seval];exact hi1
def aqk(t:Tree)(l:List fE)(c:Int)(ht:Rt t)(hl:l.length<=64):aq cd 169 [br t,fI l,aF c] []=some (.tuple [br (DE t l c).1,fI (DE t l c).2],[]):=by
 refine aB ?_;have hq:=Z6 (h0:=l) c hl (k:=[.block 0,.seq ahq]) (R:=fun t l=>some (.tuple [br t,fI l],[])) (fun t l e=>by simp only[N5,br,aM,EW,seval]) l [] t l rfl ht hl
 simp only[aM,az] at hq;simp only[acm,N5,br,aM,EW,seval];exact hq
def asl(t:Tree)(l:List fE)(c:Int)(ht:Rt t)(hl:l.length<=64)(M:aC):aR (aq cd) 169 [.agg [ba t.ae,aF t.next,aF t.ak],fI l,aF c] M=some (.tuple [.agg (aM (DE t l c).1),fI (DE t l c).2],M) :=
 cO (aqk t l c ht hl) M
end
abbrev AM(α:Type):=List (Int×α)
section
variable {α:Type}
def BP(l:AM α):List ag:=l.map fun p => .int .i64 p.1
def o9(enc:α->ag)(l:AM α):List ag:=l.map fun p=>enc p.2
def eZ:AM α->Int->Option α
 | [],_=>none
 |(k',v)::l,k=>if k=k' then some v else eZ l k
def kD:AM α->Int->α->AM α
 | [],k,v=>[(k,v)]
 |(k',v')::l,k,v=>if k=k' then (k,v)::l else (k',v')::kD l k v
def jx:∀(l:AM α)(k:Int)(v:α)(j:Int),eZ (kD l k v) j=if j=k then some v else eZ l j
 | [],k,v,j=>by simp only[kD,eZ]
 |(k',v')::l,k,v,j=>by
  simp only[kD];split
  ·rename_i h;subst h;simp only[eZ];split<;>rfl
  ·rename_i h;simp only[eZ];split
   ·rename_i h2;rw[aP (fun hh=>h (hh.symm.trans h2))]
   ·exact jx l k v j
def xl:∀(l:AM α)(k:Int)(v:α),eZ l k=some v->(k,v)∈l
 |(k',v')::l,k,v,h=>by
  simp only[eZ] at h;split at h
  ·rename_i hk;injection h with h
   subst h; subst hk;exact bD
  ·exact bw _ (xl l k v h)
def D8:∀(l:AM α)(k:Int)(v:α),(kD l k v).length<=l.length+1
 | [],_,_=>by simp[kD]
 |(k',v')::l,k,v=>by
  simp only[kD];split
  ·simp
  ·have:=D8 l k v;simp; omega
def oZ(enc:α->ag):∀(l:AM α)(k:Int),xh .i (.int .i64 k) (BP l) (o9 enc l)=some ((eZ l k).map enc)
 | [],k=>rfl
 |(k',v)::l,k=>by
  show bI (km .i (.int .i64 k) (.int .i64 k')) (fun b=>Be b (some (some (enc v))) (xh .i (.int .i64 k) (BP l) (o9 enc l)))=_
  rw[oZ enc l k];simp only[km,↓reduceIte,bO,eZ]
  by_cases h:k=k'
  ·rw[aW h,show(k==k')=true by simpa using h,vC]; rfl
  ·rw[aP h,show(k==k')=false by simpa using h,p9]
end
section
variable {α:Type}
def sE(enc:α->ag):∀(l:AM α)(k:Int)(v:α),xj .i (.int .i64 k) (enc v) (BP l) (o9 enc l)=some (BP (kD l k v),o9 enc (kD l k v))
 | [],k,v=>by
  show bI (km .i (.int .i64 k) (.int .i64 k)) (fun _=>some ([ag.int .i64 k],[enc v]))=_
  simp only[km,↓reduceIte,bO];rfl
 |(k',v')::l,k,v=>by
  show bI (km .i (.int .i64 k) (.int .i64 k')) (fun b=>Be b (some (ag.int .i64 k::BP l,enc v::o9 enc l)) (bI (xj .i (.int .i64 k) (enc v) (BP l) (o9 enc l)) fun x=>some (ag.int .i64 k'::x.1,enc v'::x.2)))=_
  rw[sE enc l k v];simp only[km,↓reduceIte,bO,kD]
  by_cases h:k=k'
  ·rw[aW h,show(k==k')=true by simpa using h,vC]; rfl
  ·rw[aP h,show(k==k')=false by simpa using h,p9]; rfl
def Yk(enc:α->ag)(B:Nat)(M:aC)(h:∀a,(enc a).jU B M=enc a)(l:AM α):List.map (ag.jU B M) (o9 enc l)=o9 enc l:=by
 unfold o9;rw[gG];exact cY (fun p _=>h p.2)
def Ss(enc:α->ag)(h:∀a,(enc a).ids=[])(l:AM α):(o9 enc l).flatMap ag.ids=[]:=by
 unfold o9;rw[List.flatMap_map];exact mB.2 fun p _=>h p.2
def Lh(enc:α->ag)(h:∀a,(enc a).flat=true)(l:AM α):(o9 enc l).all ag.flat=true:=bM.2 fun x hx=>by
 obtain⟨p,_,rfl⟩:=eJ.1 hx;exact h p.2
def WH(enc:α->ag)(ρ:Nat->Nat)(h:∀a,(enc a).pj ρ=enc a)(l:AM α):(o9 enc l).map (ag.pj ρ)=o9 enc l:=by
 unfold o9;rw[gG];exact cY (fun p _=>h p.2)
def Ni(o:Option Bool):ph (.bool false) false (o.map ag.bool) = .bool (o.getD false):=by cases o<;>rfl
end
def mJ(ae:List Node):Nat->Int->Int×AM Bool->Int×AM Bool
 |0,_,s=>s
 |f+1,ar,s=>(bl ae ar).bc.foldl (fun s e=>if !((eZ s.2 e.ar).getD false) then mJ ae f e.ar (s.1,kD s.2 e.ar true) else s) (nq (s.1+(bl ae ar).data.length),s.2)
def vK:ag := .func 247 [.ptr 0 0,.ptr 1 0,.ptr 2 0,.ptr 3 0]
def jG(t:Tree)(s:Int×AM Bool):aC:=[.cells (aM t),.cells [.int .i64 s.1],.cells [.iz 4],.cells [vK],.map (BP s.2) (o9 ag.bool s.2)]
def flB(l:AM Bool):(o9 ag.bool l).all ag.flat=true:=Lh _ (fun _=>rfl) l
def rnB(ρ:Nat->Nat)(l:AM Bool):(o9 ag.bool l).map (ag.pj ρ)=o9 ag.bool l:=WH _ _ (fun _=>rfl) l
def idB(l:AM Bool):(o9 ag.bool l).flatMap ag.ids=[]:=Ss _ (fun _=>rfl) l
def bkB(B:Nat)(M:aC)(l:AM Bool):List.map (ag.jU B M) (o9 ag.bool l)=o9 ag.bool l:=Yk _ _ _ (fun _=>rfl) l
def JK(t:Tree)(s:Int×AM Bool):(jG t s).map (cL.pj (iy [0,1,2,3,4]))=jG t s/\(jG t s).map (cL.pj (wu [0,1,2,3,4]))=jG t s:=by
 constructor
 ·simp only[jG,aK,aU,cL.pj,rnB]; rfl
 ·simp only[jG,aK,aU,cL.pj,rnB]; rfl
def ano(t:Tree)(s:Int×AM Bool)(L:aC):jX (jG t s++L) (iy [0,1,2,3,4]) [0,1,2,3,4]=some (jG t s):=by
 have h:=(JK t s).1;simp only[jG,aK,aU] at h;injection h with h0 h; injection h with h1 h; injection h with h2 h; injection h with h3 h; injection h with h4 h
 simp only[jG,aG,aO,jX,nth,h0,h1,h2,h3,h4];simp only[cL.flat,flB,aE];rfl
def arV(t:Tree)(s:Int×AM Bool)(L:aC):qt (jG t s++L) [0,1,2,3]=[4,0,1,2,3]/\qt (jG t s++L) [0,1,2,3,4]=[4,0,1,2,3]:=by
 refine⟨rfl,?_⟩
 show[4,0,1,2,3]++((o9 ag.bool s.2).flatMap ag.ids++[])=_
 rw[idB]; rfl
def WD(t:Tree)(s:Int×AM Bool)(L:aC):reach (jG t s++L) [0,1,2,3]=[0,1,2,3,4]/\ko (jG t s++L) [0,1,2,3,4]=[0,1,2,3,4]:=by
 obtain⟨h1,h2⟩:=arV t s L;have e0:j8 [] [0,1,2,3]=[0,1,2,3]:=rfl;have e1:j8 [0,1,2,3] [4,0,1,2,3]=[0,1,2,3,4]:=rfl;have e2:j8 [0,1,2,3,4] [4,0,1,2,3]=[0,1,2,3,4]:=rfl;simp only[reach,ko,e0,h1,e1,h2,e2,jS]
def ahQ(t:Tree)(s s':Int×AM Bool)(L:aC):ma [0,1,2,3,4] (jG t s++L) [0,1,2,3,4] (jG t s')=jG t s'++L:=by
 have h:=(JK t s').2;simp only[jG,aK,aU] at h;injection h with h0 h; injection h with h1 h; injection h with h2 h; injection h with h3 h; injection h with h4 h
 simp only[jG,aG,aO,ma,h0,h1,h2,h3,h4,iT]
def abM(t:Tree)(s:Int×AM Bool):(jG t s).all cL.flat=true:=by
 simp only[jG,kG,cL.flat,flB]; rfl
def akK{t:Tree}{ar:Int}{s s':Int×AM Bool}{L:aC}(h:aq cd 247 [aF ar,cv 0,cv 1,cv 2,cv 3] (jG t s)=some (.tuple [],jG t s')) :
  aR (aq cd) 247 [aF ar,cv 0,cv 1,cv 2,cv 3] (jG t s++L)=some (.tuple [],jG t s'++L) :=
 kZ (ids:=[0,1,2,3,4]) rfl (WD t s L).1 (ano t s L) (WD t s L).2 rfl h rfl rfl (abM t s') rfl (ahQ t s s' L)
def yB(t:Tree)(s:Int×AM Bool)(n:Node):aC:=[.cells [ba t.ae,.int .i64 t.next,.int .i64 t.ak],.map (BP s.2) (o9 ag.bool s.2),.cells [.iz 1],.cells [.int .i64 s.1],.cells [.func 247 [.ptr 0 0,.ptr 3 0,.ptr 2 0,.ptr 4 0]],.cells (aL n)]
def aeD{t:Tree}{ar:Int}{s':Int×AM Bool}(n:Node)(h:aq cd 247 [aF ar,cv 0,cv 1,cv 2,cv 3] (jG t (0,[]))=some (.tuple [],jG t s')) :
  aR (aq cd) 247 [aF ar,cv 0,cv 3,cv 2,cv 4] (yB t (0,[]) n)=some (.tuple [],yB t s' n):=by
 have i1:qt (yB t (0,[]) n) [0,3,2,4]=[1,0,3,2,4]:=rfl;have i2:qt (yB t (0,[]) n) [0,3,2,4,1]=[1,0,3,2,4]:=rfl;have e0:j8 [] [0,3,2,4]=[0,3,2,4]:=rfl;have e1:j8 [0,3,2,4] [1,0,3,2,4]=[0,3,2,4,1]:=rfl;have e2:j8 [0,3,2,4,1] [1,0,3,2,4]=[0,3,2,4,1]:=rfl
 have hr:reach (yB t (0,[]) n) [0,3,2,4]=[0,3,2,4,1]/\ko (yB t (0,[]) n) [0,3,2,4,1]=[0,3,2,4,1]:=by
  simp only[reach,ko,e0,i1,e1,i2,e2,jS]
 have hp:jX (yB t (0,[]) n) (iy [0,3,2,4,1]) [0,3,2,4,1]=some (jG t (0,[])):=by
  simp only[yB,jX,nth,cL.flat,flB,bO,aE,cL.pj,rnB];rfl
 refine kZ (ids:=[0,3,2,4,1]) rfl hr.1 hp hr.2 rfl h rfl rfl (abM t s') rfl ?_;simp only[jG,yB,ma,cL.pj,rnB,iT];rfl
section
attribute [local irreducible] eX fJ lj gK dY kr aq aR cp bI
def aaf{t:Tree}{n:Node}{f:Nat}{k:List K}{R:Int×AM Bool->Option (ag×aC)}(hn:n.bc.length<=100000)
  (ih:∀e,e∈n.bc->∀s,aq cd 247 [aF e.ar,cv 0,cv 1,cv 2,cv 3] (jG t s)=some (.tuple [],jG t (mJ t.ae f e.ar s)))
  (hx:∀s e,kr (aq cd) [] 5 k ⟨.exit 0,e,jG t s++[cA (aL n)]⟩=R s) :
  ∀(l pre:List gM)(s:Int×AM Bool),n.bc=pre++l->eX (aq cd) [] 5 k (.loop [3,4,22,23,24] ZP) [(3,cv 2),(4,cv 3),(22,jb n.bc),(23,aF n.bc.length),(24,aF pre.length)] (jG t s++[cA (aL n)]) =
   R (l.foldl (fun s e=>if !((eZ s.2 e.ar).getD false) then mJ t.ae f e.ar (s.1,kD s.2 e.ar true) else s) s):=by
 intro l;induction l with
 |nil =>
  intro pre s h;rw[bF];simp only[jG,N7,jJ h,mX,EW,seval] at hx ⊢;exact hx _ _
 |cons x rest ihl =>
  intro pre s h;rw[bF];have dR:pre.length+1<=100000:=by rw[h] at hn; simp at hn; omega
  have hw:=zl pre x;rw[ei];have hi1:=fun s=>ihl (pre++[x]) s (by rw[h]; simp)
  have q:=akK (L:=[cA (aL n),cA (fU x)]) (ih x (by rw[h]; simp) (s.1,kD s.2 x.ar true))
  generalize mJ t.ae f x.ar (s.1,kD s.2 x.ar true)=s' at q ⊢;simp only[jG,vK,aL,fU,aA,av,az,aJ,aG,aO] at hi1 q;simp only[jG,vK,N7,iP h,gU h,aL,fU,oZ,Ni,mapOf.eq_1,EW,seval];refine bA (fun hb=>?_) (fun hb=>?_)
  ·simp only[N7,hb,hw,sE,q,b0T,bkB,↓reduceIte,EW,seval];exact hi1 _
  ·simp only[N7,hb,hw,b0T,bkB,af,EW,seval];exact hi1 _
def ard{t:Tree}{dE:Int->Nat}(h:dX t dE 0):∀(f:Nat)(ar:Int)(s:Int×AM Bool),(∀n,find t.ae ar=some n->n.kind=2->13<f+dE ar)->0<f ->
  aq cd 247 [aF ar,cv 0,cv 1,cv 2,cv 3] (jG t s)=some (.tuple [],jG t (mJ t.ae f ar s)):=by
 intro f;induction f with
 |zero=>intro ar s _ h0; omega
 |succ f ih =>
  intro ar s hd _;have q1:=E2 t ar h.sz.Hu h.lI
  have hl:=aaf (t:=t) (n:=bl t.ae ar) (f:=f) (k:=[.block 0]) (R:=fun s=>some (.tuple [],jG t s)) (by
    cases hi:find t.ae ar with
    |none=>simp[bl,hi,Node.zero]
    |some n=>have:=(h.yf _ _ hi).2; simp only[bl,hi,bj]; omega) ?_ (fun s e=>by simp only[jG,vK,N7,aL,b0T,bkB,EW,seval]) (bl t.ae ar).bc [] (nq (s.1+(bl t.ae ar).data.length),s.2) rfl
  ·refine aB ?_;rw[mJ];simp only[jG,vK,aL,aG,aO,az] at hl q1;simp only[ac4,N7,jG,vK,aM,aL,q1,EW,seval];exact hl
  ·intro e he s;cases hi:find t.ae ar with
   |none=>simp[bl,hi,Node.zero] at he
   |some n =>
    simp only[bl,hi,bj] at he
    have hk:n.kind=2:=by
     rcases h.kind _ _ hi with h1|h1
     ·rw[(h.file _ _ hi h1).1] at he; cases he
     ·exact h1
    have h1:=hd n hi hk;have h2:=(h.deep _ _ hi hk).1;obtain⟨_,_,e1,_,m,hm,hu⟩:=h.Cu _ _ _ hi he;refine ih e.ar s (fun n' hn' hk'=>?_) aH
    rw[hm] at hn'; cases hn';have:=(h.qE _ _ hm hk' e1).1;rw[hu hk'] at this;omega
def lk(ae:List Node)(ar:Int):Int×Int :=
 if (find ae ar).isSome&&(bl ae ar).kind==2 then (((mJ ae 14 ar (0,[])).2.length:Int),(mJ ae 14 ar (0,[])).1) else (0,0)
def c193{t:Tree}(h:Rt t)(ar:Int):aq cd 193 [br t,aF ar] []=some (.tuple [aF (lk t.ae ar).1,aF (lk t.ae ar).2],[]):=by
 obtain⟨dE,h⟩:=h;refine aB ?_;have q1:=E2 t ar h.sz.Hu h.lI;have q2:=ard h 14 ar (0,[]) (fun n hn hk=>aH) aH
 unfold lk;generalize mJ t.ae 14 ar (0,[])=s' at q2 ⊢;simp only[aL] at q1;simp only[acA,QI,br,aM,q1,aL,EW,seval];refine bW (fun hb=>?_) (fun hb=>?_)
 ·simp only[hb,QI,EW,seval];refine bA (fun hc=>?_) (fun hc=>?_)
  ·have q3:=aeD (bl t.ae ar) q2;simp only[yB,aL,BP,o9,aU] at q3;simp only[hb,hc,q3,QI,mapOf.eq_1,EW,seval]
  ·simp only[hb,hc,QI,mapOf.eq_1,dM,af,EW,seval]
 ·simp only[hb,QI,mapOf.eq_1,cI,af,EW,seval]
def afo{t:Tree}(h:Rt t)(ar:Int)(M:aC):aR (aq cd) 193 [.agg [ba t.ae,aF t.next,aF t.ak],aF ar] M=some (.tuple [aF (lk t.ae ar).1,aF (lk t.ae ar).2],M) :=
 cO (c193 h ar) M
end
section
def ahl(l:List dU)(o:Int)(b:cL):jX [cA [cQ l],cA [aF o],b] (iy [0,1]) [0,1]=some [cA [cQ l],cA [aF o]]:=rfl
def ahm(l:List dU)(o:Int)(b:cL):jX [b,cA [cQ l],cA [aF o]] (iy [1,2]) [1,2]=some [cA [cQ l],cA [aF o]]:=rfl
attribute [local irreducible] eX fJ lj gK dY kr aq aR cp bI
abbrev pt(l:List dU):Prop:=l.Pairwise fun a b=>a.ar<b.ar
def wI(l:List dU)(ar:Int):Nat:=mi (fun x=>decide (qM x.ar ar<0)) l
def FT(l:List dU)(ar:Int):Bool:=pg (fun x=>qM x.ar ar==0) l (wI l ar)
def x4{l:List dU}(h:pt l)(ar:Int):Xz (fun x=>decide (qM x.ar ar<0)) l (wI l ar):=by
 refine Hg (h.imp ?_);intro a b hab hb;simp only[bh,xQ] at hb ⊢;omega
def aq0(l:List dU)(ar:Int)(h:pt l)(hn:l.length<=100000):aq cd 226 [cQ l,aF ar] []=some (.tuple [aF (wI l ar),.bool (FT l ar)],[]):=by
 refine aB ?_;have q:=fun M=>cO (arw l ar _ (x4 h ar) hn) M
 simp only[acW,aoF,q,FT,EW,seval]
def amo l ar h hn:=cP (aq0 l ar h hn)
def arC(l:List dU)(dir o:Int)(h:pt l)(hn:l.length<=100000):aq cd 285 [aF dir,cv 0,cv 1] [cA [cQ l],cA [aF o]] =
  some (.bool ((if FT l dir then dir else o)==0),[cA [cQ l],cA [aF (if FT l dir then dir else o)]]):=by
 refine aB ?_;have q:=amo l dir h hn;simp only[adl,ad8,q,EW,seval];refine bA (fun hb=>?_) (fun hb=>?_)
 ·simp only[ad8,hb,aE,EW,seval]
 ·simp only[ad8,hb,af,aD,EW,seval]
def sA(ae:List Node)(l:List dU):Nat->Int->Int
 |0,_=>0
 |f+1,dir=>if FT l dir then dir else if dir != 1 then sA ae l f (bl ae dir).up else 0
def aai{t:Tree}{dE:Int->Nat}(ht:dX t dE 0){l:List dU}(hq:pt l)(hn:l.length<=100000){k:List K}{R:Int->Option (ag×aC)}
  (hx:∀o e,kr (aq cd) [] 2 k ⟨.exit 0,e,[cA [cQ l],cA [aF o],cA (aM t)]⟩=R o) :
  ∀(f:Nat)(dir:Int)(n:Node),find t.ae dir=some n->n.kind=2->dE dir<f->eX (aq cd) [] 2 k (.loop [1,2,3] ZT) [(1,aF dir),(2,.func 285 [cv 0,cv 1]),(3,cv 2)] [cA [cQ l],cA [aF 0],cA (aM t)] =
   R (sA t.ae l f dir):=by
 intro f;induction f with
 |zero=>intro dir n _ _ h; omega
 |succ f ih =>
  intro dir n hi hk hd;rw[bF,sA]
  have q0:aR (aq cd) 285 [aF dir,cv 0,cv 1] [cA [cQ l],cA [aF 0],cA (aM t)] =
    some (.bool ((if FT l dir then dir else 0)==0),[cA [cQ l],cA [aF (if FT l dir then dir else 0)],cA (aM t)]) :=
   kZ (ids:=[0,1]) rfl rfl (ahl l 0 _) rfl rfl (arC l dir 0 hq hn) rfl rfl rfl rfl rfl
  have q1:=E2 t dir ht.sz.Hu ht.lI;have hd1:=(ht.num _ _ hi).1;simp only[aL,aM] at q0 q1 hx;simp only[N9,q0,aM,EW,seval];cases hb:FT l dir
  ·simp only[hb,af,aD]
   by_cases h1:dir=1
   ·subst h1;simp only[N9,aw,af,aD,EW,seval];exact hx _ _
   ·have h1':(dir != 1)=true:=by simpa using h1
    obtain⟨g1,p,g2,g3⟩:=ht.qE _ _ hi hk h1;have hi':=ih n.up p g2 g3 aH;simp only[aM] at hi';simp only[bl,hi,bj] at q1 ⊢;simp only[N9,h1',q1,aL,EW,seval];exact hi'
  ·simp only[hb,aE];have h0:(dir==0)=false:=gh;simp only[h0,N9,EW,seval];exact hx _ _
def arB{t:Tree}{dE:Int->Nat}(ht:dX t dE 0){l:List dU}(hq:pt l)(hn:l.length<=100000){dir:Int}{n:Node}(hi:find t.ae dir=some n)(hk:n.kind=2) :
  aq cd 284 [br t,aF dir,.func 285 [cv 0,cv 1]] [cA [cQ l],cA [aF 0]]=some (.tuple [],[cA [cQ l],cA [aF (sA t.ae l 13 dir)]]):=by
 refine aB ?_;have hl:=aai ht hq hn (k:=[.block 0]) (R:=fun o=>some (.tuple [],[cA [cQ l],cA [aF o]])) (fun o e=>by simp only[N9,aM,EW,seval]) 13 dir n hi hk (by have:=(ht.deep _ _ hi hk).1; omega)
 simp only[aM] at hl;simp only[adk,N9,br,aM,EW,seval];exact hl
def mf(ae:List Node)(l:List dU)(dir:Int):Int:=sA ae l 13 dir
def arc{t:Tree}{dE:Int->Nat}(ht:dX t dE 0){l:List dU}(hq:pt l)(hn:l.length<=100000){dir:Int}{n:Node}(hi:find t.ae dir=some n)(hk:n.kind=2) :
  aq cd 246 [br t,cQ l,aF dir] []=some (aF (mf t.ae l dir),[]):=by
 refine aB ?_
 have q:aR (aq cd) 284 [.agg (aM t),aF dir,.func 285 [cv 1,cv 2]] [cA (aM t),cA [cQ l],cA [aF 0]] =
   some (.tuple [],[cA (aM t),cA [cQ l],cA [aF (sA t.ae l 13 dir)]]) :=
  kZ (ids:=[1,2]) rfl rfl (ahm l 0 _) rfl rfl (arB ht hq hn hi hk) rfl rfl rfl rfl rfl
 simp only[aM] at q;simp only[ac3,aoK,br,aM,q,mf,EW,seval]
def asG{t:Tree}{dE:Int->Nat}(ht:dX t dE 0){l:List dU}(hq:pt l)(hn:l.length<=100000){dir:Int}{n:Node}(hi:find t.ae dir=some n)(hk:n.kind=2)(M:aC) :
  aR (aq cd) 246 [.agg [ba t.ae,aF t.next,aF t.ak],cQ l,aF dir] M=some (aF (mf t.ae l dir),M):=cO (arc ht hq hn hi hk) M
def u7(t:Tree)(l:List dU)(ar ae bytes:Int):List dU×Int :=
 if !(find t.ae ar).isSome then (l,70)
 else if (bl t.ae ar).kind != 2 then (l,73)
 else if decide (ae<0) then (if FT l ar then l.eraseIdx (wI l ar) else l,0)
 else if decide ((lk t.ae ar).1>ae)||decide ((lk t.ae ar).2>bytes) then (l,90)
 else if FT l ar then (l.set (wI l ar) ⟨ar,ae,bytes⟩,0)
 else if decide ((l.length:Int)>=16) then (l,76)
 else (l.take (wI l ar)++⟨ar,ae,bytes⟩::l.drop (wI l ar),0)
def aqf(t:Tree)(l:List dU)(ar ae bytes:Int)(ht:Rt t)(hq:pt l)(hn:l.length<=16):aq cd 162 [br t,cQ l,aF ar,aF ae,aF bytes] []=some (.tuple [cQ (u7 t l ar ae bytes).1,aF (u7 t l ar ae bytes).2],[]):=by
 refine aB ?_;have q1:=E2 t ar ht.small ht.lI;have q2:=amo l ar hq aH;have q3:=afo ht ar;have hb:=(x4 hq ar).le
 have cJ:FT l ar=true->wI l ar<l.length:=by
  intro h;unfold FT pg at h;split at h
  ·rename_i x hx; exact(aj.1 hx).1
  ·cases h
 unfold u7;generalize lk t.ae ar=u at q3 ⊢;generalize wI l ar=b at q2 hb cJ ⊢;generalize FT l ar=e at q2 cJ ⊢;simp only[aL] at q1
 by_cases h0:l=[]
 ·have hb0:b=0:=by subst h0; simpa using hb
  have he:e=false:=by
   cases e
   ·rfl
   ·have:=cJ rfl; subst h0; simp at this
  subst he;have p1:=fun M=>Dz gz (f:=189) (sz:=3) (bytes:=24) rfl h0 M
  have p2:=fun M=>FD (f:=228) (sz:=3) (bytes:=24) rfl hb0 (.agg [aF ar,aF ae,aF bytes]) rfl M
  simp only[IL,N4,br,aM,q1,q2,q3,aL,EW,seval]
  repeat' ((first|apply bA|apply bW|apply dK)<;>intro hb<;>simp only[hb,EW,N4,q1,q2,q3,p1,p2,aL,seval])
  all_goals clear q1 q2 q3 p1 p2
  all_goals first|rfl|(simp_all only[qx,↓reduceIte,reduceCtorEq,aw]; done)|(simp_all only[qx,↓reduceIte,reduceCtorEq,aw]; rfl)
 ·have hb0:=hb;have p1:=fun M=>CI gz (f:=189) (sz:=3) (bytes:=24) rfl (fun _=>rfl) aH h0 aH M
  have p2:=fun M=>IX gz (f:=228) (sz:=3) (bytes:=24) (v:=0) (id:=3) rfl aH hb aH (.agg [aF ar,aF ae,aF bytes]) rfl M
  cases he:e
  ·subst he;simp only[IL,N4,br,aM,q1,q2,q3,aL,EW,seval]
   repeat' ((first|apply bA|apply bW|apply dK)<;>intro hb<;>simp only[hb,EW,N4,q1,q2,q3,p1,p2,aL,seval])
   all_goals clear q1 q2 q3 p1 p2
   all_goals first|rfl|(simp_all only[qx,↓reduceIte,reduceCtorEq,aw]; done)|(simp_all only[qx,↓reduceIte,reduceCtorEq,aw]; rfl)|(simp_all only[qx,↓reduceIte,reduceCtorEq,aw]; exact congrArg (fun z=>some (ag.tuple [ag.slice .sh z,aF 0],([]:aC))) (M8 gz hb0 ⟨ar,ae,bytes⟩))
  ·subst he;have p3:=fun M=>FC gz (f:=227) (sz:=3) (v:=0) (id:=2) rfl (cJ rfl) aH M
   have hbl:=cJ rfl;have hx:=ai hbl;generalize l[b]=x at hx;have h1:((b:Int)<((l.length-0:Nat):Int))=True:=gh
   have hs:iT (l.map gz) b (putCells (gz x) 0 [aF ar,aF ae,aF bytes])=(l.set b ⟨ar,ae,bytes⟩).map gz:=by
    rw[fj,gH]; rfl
   have ht2:List.take l.length ((l.set b ⟨ar,ae,bytes⟩).map gz)=(l.set b ⟨ar,ae,bytes⟩).map gz:=bB dw;have hw:IntKind.i64.wrap ((b:Int)+1)=((b+1:Nat):Int):=by have:=cJ rfl; rw[gW aH aH]; rfl
   simp only[IL,N4,br,aM,q1,q2,q3,hw,aL,EW,seval]
   repeat' ((first|apply bA|apply bW|apply dK)<;>intro hb<;>simp only[hb,EW,N4,q1,q2,q3,p1,p2,p3,hw,h1,hx,hs,ht2,aL,seval])
   all_goals clear q1 q2 q3 p1 p2 p3
   all_goals first|rfl|(simp_all only[qx,↓reduceIte,reduceCtorEq,aw]; done)|(simp_all only[qx,↓reduceIte,reduceCtorEq,aw]; rfl)
end
section
attribute [local irreducible] eX fJ lj gK dY kr aq aR cp bI
def wH{α:Type}(key:α->Int)(l:List α)(k:Int):Nat:=mi (fun x=>decide (qM (key x) k<0)) l
def XE{α:Type}(key:α->Int)(l:List α)(k:Int):Bool:=pg (fun x=>qM (key x) k==0) l (wH key l k)
def Nn{α:Type}{key:α->Int}{l:List α}(h:l.Pairwise fun a b=>key a<key b)(k:Int):Xz (fun x=>decide (qM (key x) k<0)) l (wH key l k):=by
 refine Hg (h.imp ?_);intro a b hab hb;simp[xQ] at hb ⊢;omega
theorem QW{α:Type}{key:α->Int}{l:List α}(h:l.Pairwise fun a b=>key a<key b)(k:Int) :
  (XE key l k=true/\∃n,l[wH key l k]?=some n/\key n=k/\l.find? (fun x=>key x==k)=some n)\/(XE key l k=false/\l.find? (fun x=>key x==k)=none):=by
 obtain⟨l1,l2⟩:=Nn h k;simp only[bh,xQ] at l2;cases hf:l.find? (fun x=>key x==k) with
 |some n =>
  left;have hm:=iB hf;have he:key n=k:=j6;obtain⟨i,hi⟩:=bZ hm;have hib:¬i<wH key l k:=fun hc=>by have:=(l2 i n hi).2 hc; omega
  have hb:wH key l k<l.length:=by have:=(aj.1 hi).1; omega
  have hx:=ai hb
  have hie:i=wH key l k:=by
   grind [Nat.lt_or_ge,wH,List.pairwise_iff_getElem,absurd]
  subst hie;exact⟨by simp_all [XE,pg,GS],n,hi,he,rfl⟩
 |none =>
  right;refine⟨?_,rfl⟩
  grind [XE,pg,List.find?_eq_none,List.mem_of_getElem?,qM,GS]
theorem aqW(x y:Node)(hx:x.bc.length<=100000):aq cd 222 [.agg (aL x),.agg (aL y)] []=some (.bool (decide (x=y)),[]):=by
 have hd:decide (x=y)=(x.ar==y.ar&&(x.kind==y.kind&&(x.ep==y.ep&&(x.up==y.up&&(x.data==y.data&&decide (x.bc=y.bc)))))):=by
  obtain⟨a,b,c,d,e,f⟩:=x;obtain⟨a',b',c',d',e',f'⟩:=y
  grind
 refine aB ?_;have q:=fun M=>cO (akq x.bc y.bc hx) M
 rw[hd];simp only[acS,aoD,bK,aL,EW,seval]
 repeat' ((first|apply bA|apply bW|apply dK)<;>intro hb<;>simp only[hb,EW,q,vm,seval])
 all_goals (rfl)
def amm x y hx:=cP (aqW x y hx)
def X7(ae:List Node)(ar:Int):Int:=if XE Node.ar ae ar then (wH Node.ar ae ar:Int) else -1
def aqV(ae:List Node)(ar:Int)(h:oS ae)(hn:ae.length<=100000):aq cd 221 [ba ae,aF ar] []=some (aF (X7 ae ar),[]):=by
 refine aB ?_;have q  := fun M=>cO (akF ae ar _ (Nn h ar) hn) M
 simp only[acR,ad3,q,X7,EW,seval];refine bA (fun hb=>?_) (fun hb=>?_)
 ·simp_all [XE,ad3,EW]
 simp_all [XE,ad3,EW]
def aml(ae:List Node)(ar:Int)(h:oS ae)(hn:ae.length<=100000)(M:aC):aR (aq cd) 221 [ba ae,aF ar] M=some (aF (X7 ae ar),M):=cO (aqV _ _ h hn) M
def xz(l:List mR)(a b:Int):Bool:=l.any (zg a b)
def aqX(l:List mR)(a b:Int)(hn:l.length<=100000):aq cd 223 [ke l,aF a,aF b] []=some (.bool (xz l a b),[]):=by
 refine aB ?_
 have q:aR (aq cd) 265 [ke l,.func 266 [cv 0,cv 1]] _=some (.bool (xz l a b),[cA [aF a],cA [aF b]]) :=
  kZ (ids:=[0,1]) rfl rfl (L0 a b) rfl rfl (akG l a b hn) rfl rfl rfl rfl rfl
 simp only[acT,aoE,q,EW,seval]
def amn l a b hn:=cP (aqX l a b hn)
def k56(a b:Tree)(ha:Small a)(M:aC):aR (aq cd) 56 [.agg [ba a.ae,aF a.next,aF a.ak],.agg [ba b.ae,aF b.next,aF b.ak]] M=some (.bool (decide (a=b)),M):=cO (c56 a b ha) M
def lN(t:Tree)(dV:List mR)(tick:Int):List Node->List Int->List po
 |n::r,x::y=>(if (decide (X7 t.ae n.ar<0) || !decide (n=bl t.ae n.ar))&&xz dV x tick then [⟨x,tick,n⟩] else [])++lN t dV tick r y
 |_,_=>[]
def rI(s:iQ)(tick:Int)(n:Node):Int :=
 if decide (0<=X7 s.now.ae n.ar)&&decide (n=bl s.now.ae n.ar) then s.since.getD (wH Node.ar s.now.ae n.ar) 0 else tick
def qv(s:iQ)(t:Tree):iQ:=if decide (s.now=t) then s else
 ⟨t,nq (s.tick+1),t.ae.map (rI s (nq (s.tick+1))),s.eN++lN t s.dV (nq (s.tick+1)) s.now.ae s.since,s.dV,s.next⟩
def CF{ae:List Node}(h:oS ae)(ar:Int) :
  (XE Node.ar ae ar=true/\X7 ae ar=(wH Node.ar ae ar:Int)/\ae[wH Node.ar ae ar]?=some (bl ae ar)/\find ae ar=some (bl ae ar))\/(XE Node.ar ae ar=false/\X7 ae ar = -1/\find ae ar=none):=by
 rcases QW h ar with ⟨h1,n,h2,_,h4⟩|⟨h1,h2⟩<;>simp_all [find,bl,X7]
def yh(s:iQ)(t:Tree)(P:List po)(S:List Int):aC :=
 [.cells (bL s),.cells (aM t),.cells [.slice .c0 [],.int .i64 0,.int .i64 0,.int .i64 0,.slice .c0 [],.slice .c0 [],.slice .c0 [],.int .i64 0],.tick 8 P.length,
  .cells [ba t.ae,.int .i64 t.next,.int .i64 t.ak,.int .i64 (nq (s.tick+1)),.slice (.own 5) (S.map mS),.slice (.own 3) (P.map lV),ke s.dV,.int .i64 s.next],.tick 1 S.length]
theorem Vy{s:iQ}{t:Tree}(hs:rP s.now)(hz:Sz 200 s.now)(ht:rP t)(hzt:Sz 200 t)(hk:s.dV.length<=100000)(hl:s.since.length=s.now.ae.length){k:List K}{R:List po->Option (ag×aC)}
  (hx:∀P e,kr (aq cd) [.dG 4 8] 0 k ⟨.exit 0,(2,cv 0)::(3,cv 1)::(4,cv 2)::(5,cv 4)::e,yh s t P []⟩=R P) :
  ∀(l pre:List Node)(y ypre:List Int)(P:List po),s.now.ae=pre++l->s.since=ypre++y->ypre.length=pre.length->P.length<=100000+pre.length ->
   eX (aq cd) [.dG 4 8] 0 k (.loop [2,3,4,5,32,33,34] Zv) [(2,cv 0),(3,cv 1),(4,cv 2),(5,cv 4),(32,ba s.now.ae),(33,aF s.now.ae.length),(34,aF pre.length)] (yh s t P []) =
   R (P++lN t s.dV (nq (s.tick+1)) l y):=by
 intro l;induction l with
 |nil =>
  intro pre y ypre P h hy hyl hP;rw[bF];have hy0:y=[]:=by have:=congrArg List.length h; have h2:=congrArg List.length hy; simp_all
  subst hy0;simp only[yh,GI,jJ h,lN,EW,seval] at hx ⊢;exact hx _ _
 |cons n rest ih =>
  intro pre y ypre P h hy hyl hP;rw[bF];have hn200:=hz.ae;have dR:pre.length+1<=200:=by rw[h] at hn200; grind
  have hw:=zl pre n;cases y with
  |nil=>have h1:=congrArg List.length h; have h2:=congrArg List.length hy; simp at h1 h2; omega
  |cons x y =>
   have hxa:s.since[pre.length]?=some x:=by rw[hy,<-hyl]; simp
   have hi1:=ih (pre++[n]) y (ypre++[x]) P (by rw[h]; simp) (by rw[hy]; simp) (by simp[hyl]) gh
   have hi2:=ih (pre++[n]) y (ypre++[x]) (P++[⟨x,nq (s.tick+1),n⟩]) (by rw[h]; simp) (by rw[hy]; simp) (by simp[hyl]) gh
   have q1:=aml t.ae n.ar ht.mj (by have:=hzt.ae; omega)
   have q2:=amm n (bl t.ae n.ar) (by have:=hz.bc n (by rw[h]; simp); omega)
   have q3:=amn s.dV x (nq (s.tick+1)) hk;have r1:cr (P.length+1) 96=True:=qI;rw[lN];simp only[yh,aL,aM,bL,aA,av,az,aJ,aZ,aK,aU] at hi1 hi2 q1 q2 q3;rcases CF ht.mj n.ar with ⟨_,a2,a3,a4⟩|⟨_,a2,a4⟩
   ·have ha0:((wH Node.ar t.ae n.ar:Int)<0)=False:=dw;generalize decide (n=bl t.ae n.ar)=e1 at q2 ⊢;generalize xz s.dV x (nq (s.tick+1))=e2 at q3 ⊢;cases e1<;>cases e2<;>simp only[yh,GI,iP h,gU h,aL,aM,bL,q1,q2,q3,a2,a3,ha0,hxa,hw,r1,EW,seval]
    ·simpa using hi1
    ·simpa[lV,mH,aL] using hi2
    ·simpa using hi1
    ·simpa using hi1
   ·have ha0:((-1:Int)<0)=True:=dw;generalize decide (n=bl t.ae n.ar)=e1 at q2 ⊢;generalize xz s.dV x (nq (s.tick+1))=e2 at q3 ⊢;cases e2<;>simp only[yh,GI,iP h,gU h,aL,aM,bL,q1,q3,a2,ha0,hxa,hw,r1,EW,seval]
    ·simpa using hi1
    ·simpa[lV,mH,aL] using hi2
def Vz{s:iQ}{t:Tree}(hs:rP s.now)(hz:Sz 200 s.now)(hzt:Sz 200 t)(hl:s.since.length=s.now.ae.length)(P:List po){k:List K}{R:List Int->Option (ag×aC)}
  (hx:∀S e,kr (aq cd) [.dG 4 8] 0 k ⟨.exit 2,(2,cv 0)::(4,cv 2)::(5,cv 4)::e,yh s t P S⟩=R S) :
  ∀(l pre:List Node)(S:List Int),t.ae=pre++l->S.length<=100000+pre.length ->
   eX (aq cd) [.dG 4 8] 0 k (.loop [2,4,5,84,85,86] Zw) [(2,cv 0),(4,cv 2),(5,cv 4),(84,ba t.ae),(85,aF t.ae.length),(86,aF pre.length)] (yh s t P S) =
   R (S++l.map (rI s (nq (s.tick+1)))):=by
 intro l;induction l with
 |nil =>
  intro pre S h hS;rw[bF];simp only[yh,GI,jJ h,EW,seval] at hx ⊢;exact hx _ _
 |cons n rest ih =>
  intro pre S h hS;rw[bF];have hn200:=hzt.ae;have dR:pre.length+1<=200:=by rw[h] at hn200; simp at hn200; omega
  have hw:=zl pre n;have hi1:=ih (pre++[n]) (S++[rI s (nq (s.tick+1)) n]) (by rw[h]; simp) gh
  have q1:=aml s.now.ae n.ar hs.mj (by have:=hz.ae; omega)
  have q2:=amm n (bl s.now.ae n.ar) (by have:=hzt.bc n (by rw[h]; simp); omega)
  have r1:cr (S.length+1) 8=True:=qI;rw[aK];unfold rI at hi1 ⊢;simp only[yh,aL,aM,bL,aA,av,az,aJ,aZ,aK,aU] at hi1 q1 q2;rcases CF hs.mj n.ar with ⟨_,a2,a3,a4⟩|⟨_,a2,a4⟩
  ·have ha0:(0<=(wH Node.ar s.now.ae n.ar:Int))=True:=dw;have cJ:wH Node.ar s.now.ae n.ar<s.since.length:=by rw[hl]; exact(aj.1 a3).1
   have hxa:=ai cJ;have hxd:s.since.getD (wH Node.ar s.now.ae n.ar) 0=s.since[wH Node.ar s.now.ae n.ar]:=by simp[List.getD,hxa]
   rw[hxd] at hi1 ⊢;generalize s.since[wH Node.ar s.now.ae n.ar]=x at hxa hi1 ⊢;generalize decide (n=bl s.now.ae n.ar)=e1 at q2 hi1 ⊢;rw[a2] at hi1 ⊢;cases e1<;>simp only[yh,GI,iP h,gU h,aL,aM,bL,q1,q2,a2,a3,ha0,hxa,hw,r1,uw,EW,seval]
   ·simpa using hi1
   ·simpa using hi1
  ·have ha0:(0<=(-1:Int))=False:=dw;rw[a2] at hi1 ⊢;simp only[yh,GI,iP h,gU h,aL,aM,bL,q1,q2,a2,ha0,hw,r1,uw,EW,seval];simpa using hi1
def Sl{α:Type}(enc:α->ag){f sz bytes:Nat}(hp:cd.oO f=some (sk sz bytes))(hw:∀a,(enc a).cells.length=sz)(hb:bytes<=1000){l:List α}(hn:l.length<=100000)(M:aC) :
  aq cd f [gA (l.map enc)] M=some (.slice (.own M.length) (l.map enc),M++[.tick sz l.length]):=by
 refine fg (g:=sk sz bytes) hp ?_;have hw':wid (l.map enc) sz:=by have:=pk enc sz hw l; simpa using this
 have hr:cr (l.map enc).length bytes:=by have:=sn (a:=l.length) (b:=bytes) aH aH; simpa using this
 unfold sk;simp only[];rw[fi ⟨hw',hr⟩];rw[eK]
def En{α:Type}(enc:α->ag){f sz bytes:Nat}(hp:cd.oO f=some (sk sz bytes))(hw:∀a,(enc a).cells.length=sz)(hb:bytes<=1000){l:List α}(hn:l.length<=100000)(M:aC) :
  Bl (aq cd) f [gA (l.map enc)] M=some (.slice (.own M.length) (l.map enc),M++[.tick sz l.length]):=by
 unfold Bl;rw[aW ⟨rfl,rfl⟩,Sl enc hp hw hb hn,bO];rfl
def aqc(s:iQ)(t:Tree)(hs:rP s.now)(hz:Sz 200 s.now)(ht:rP t)(hzt:Sz 200 t)(hk:s.dV.length<=100000)(hl:s.since.length=s.now.ae.length)(hp:s.eN.length<=100000) :
  aq cd 158 [qN s,br t] []=some (qN (qv s t),[]):=by
 refine aB ?_;have q1:=k56 s.now t (hz.small aH);have p1:=fun M=>En lV (f:=220) (sz:=8) (bytes:=96) rfl (fun _=>rfl) aH hp M
 have l2:=fun P=>Vz hs hz hzt hl P (k:=[.block 2,.seq aaX]) (R:=fun S=>some (.agg [ba t.ae,aF t.next,aF t.ak,aF (nq (s.tick+1)),tV S,rY P,ke s.dV,aF s.next],[]))
  (fun S e=>by simp only[yh,bL,aM,GI,EW,seval]) t.ae [] [] rfl dw
 have l1:=Vy hs hz ht hzt hk hl (k:=[.block 0,.seq aaY]) (R:=fun P=>some (.agg [ba t.ae,aF t.next,aF t.ak,aF (nq (s.tick+1)),tV (t.ae.map (rI s (nq (s.tick+1)))),rY P,ke s.dV,aF s.next],[]))
  (fun P e=>by
   have:=l2 P;simp only[yh,bL,aM,az,aO] at this;simp only[yh,bL,aM,GI,EW,seval];exact this) s.now.ae [] s.since [] s.eN rfl rfl rfl (by simpa using hp)
 unfold qv;generalize decide (s.now=t)=e1 at q1 ⊢;simp only[yh,bL,aM,az] at l1;cases e1<;>simp only[RZ,GI,qN,bL,br,aM,q1,p1,or_false,EW,seval]
 exact l1
end
section
def zu{C:eR}{f g p:Nat}{xs:List ag}{r:ag}{M:aC}{c:ag}(hM:nth M p=some (cA [c]))(h:C f [gA xs,.func g [cv 0]] [cA [c]]=some (r,[cA [c]]))(h3:r.wz=true)(h5:r.Ah (wu [p])=r)
  (h6:c.vu&&c.nC.isEmpty=true) (h8:∀ρ,c.sd ρ=c:=by intro ρ; rfl):aR C f [gA xs,.func g [cv p]] M=some (r,M):=by
 simp only[bu,List.isEmpty_iff,bh] at h6;obtain⟨h6,h7⟩:=h6;have hids:[ag.slice .sh xs,.func g [cv p]].flatMap ag.ids=[p]:=rfl;have hi:qt M [p]=[]:=by simp[qt,hM,cL.ids,h7]
 have e0:ko M [p]=[p]:=by simp[ko,hi,j8]
 have e1:reach M [p]=[p]:=by
  have ea:j8 [] [p]=[p]:=rfl;simp only[reach,ea,e0]
 have hfl:[ag.slice .sh xs,.func g [cv p]].all ag.flat=true:=rfl;unfold aR;rw[aW hfl,hids,e1];have hpk:jX M (iy [p]) [p]=some [cA [c]]:=by simp[jX,hM,cL.flat,h6,cL.pj,h8]
 rw[hpk];simp only[bO];rw[aW e0]
 have hrn:[ag.slice .sh xs,.func g [cv p]].map (ag.pj (iy [p]))=[gA xs,.func g [cv 0]]:=by
  simp[ag.pj,ag.sd,ag.uk,iy]
 rw[hrn,h];simp only[bO];rw[aW ⟨by trivial,h3,by simp[cL.flat,h6]⟩,h5]
 simp only[ma,cL.pj,aK,aU,h8];rw[uQ hM]
attribute [local irreducible] eX fJ lj gK dY kr aq aR cp bI
def rD(id:Int)(x:mR):Bool:=x.id != id
def vG(tk:List mR)(p:po):Bool:=xz tk p.ki p.BA
def SG(n:mR):(iC n).all ag.jf=true:=rfl
def Ww(n:mR):(iC n).all ag.plainCell=true:=rfl
def Wv(n:po):(mH n).all ag.plainCell=true:=rfl
def SF(n:po):(mH n).all ag.jf=true:=rfl
def takeN(s:iQ)(ar:Int):iQ×Int×Int :=
 if !(find s.now.ae ar).isSome then (s,0,70)
 else if (bl s.now.ae ar).kind != 2 then (s,0,73)
 else if decide ((s.dV.length:Int)>=16)||decide (s.next>=1099511627776) then (s,0,76)
 else (⟨s.now,s.tick,s.since,s.eN,s.dV++[⟨s.next,ar,s.tick⟩],nq (s.next+1)⟩,s.next,0)
def aqg(s:iQ)(ar:Int)(hz:Small s.now)(hs:rP s.now)(hk:s.dV.length<=16):aq cd 163 [qN s,aF ar] []=some (.tuple [qN (takeN s ar).1,aF (takeN s ar).2.1,aF (takeN s ar).2.2],[]):=by
 refine aB ?_;have q1:=E2 s.now ar hz hs;have p1:=fun M=>En kO (f:=229) (sz:=3) (bytes:=24) rfl (fun _=>rfl) aH (l:=s.dV) aH M
 have r1:cr (s.dV.length+1) 24=True:=qI;unfold takeN;simp only[aL] at q1;simp only[R0,ah8,qN,bL,q1,aL,EW,seval]
 repeat' ((first|apply bA|apply bW|apply dK)<;>intro hb<;>simp only[hb,EW,ah8,q1,p1,r1,or_false,aL,seval])
 all_goals clear q1 p1
 all_goals first|rfl|(simp_all only[qx,↓reduceIte,reduceCtorEq,aw]; done)|(simp_all only[qx,↓reduceIte,reduceCtorEq,aw,bL]; rfl)|(simp_all only[qx,↓reduceIte,reduceCtorEq,aw,bL,ke,aZ,aK,aU]; rfl)
def ash(s:iQ)(ar:Int)(hz:Small s.now)(hs:rP s.now)(hk:s.dV.length<=16)(M:aC):aR (aq cd) 163 [.agg (bL s),aF ar] M=some (.tuple [.agg (bL (takeN s ar).1),aF (takeN s ar).2.1,aF (takeN s ar).2.2],M) :=
 cO (aqg s ar hz hs hk) M
def aq3(x:mR)(id:Int):aq cd 233 [kO x,cv 0] [cA [aF id]]=some (.bool (rD id x),[cA [aF id]]):=by
 refine aB ?_;simp only[rD,acX,aoG,kO,iC,EW,seval]
def aq5(p:po)(tk:List mR)(hk:tk.length<=100000):aq cd 235 [lV p,cv 0] [cA [ke tk]]=some (.bool (vG tk p),[cA [ke tk]]):=by
 refine aB ?_;unfold vG;have q:=amn tk p.ki p.BA hk;simp only[acY,aoH,lV,mH,aL,q,EW,seval]
def aad{xs:List mR}{id:Int}  (hn:xs.length<=100000){k:List K}{R:List mR->Option (ag×aC)}
  (hx:∀(out:List mR) e,kr (aq cd) [.tmp 4] 1 k ⟨.exit 0,(1,.func 233 [cv 0])::(5,.slice (.own 1) (out.map kO))::e,[cA [aF id],.tick 3 out.length]⟩=R out) :
  ∀(l pre out:List mR),xs=pre++l->out.length<=pre.length->eX (aq cd) [.tmp 4] 1 k (.loop [1,5,8,9,10] ZN) [(1,.func 233 [cv 0]),(5,.slice (.own 1) (out.map kO)),(8,gA (xs.map kO)),(9,aF xs.length),(10,aF pre.length)] [cA [aF id],.tick 3 out.length] =
   R (out++l.filter (rD id)):=by
 intro l;induction l with
 |nil =>
  intro pre out h ho;rw[bF];simp only[XV,jJ h,kH,EW,seval];exact hx _ _
 |cons n rest ih =>
  intro pre out h ho;rw[bF];have dR:pre.length+1<=100000:=by rw[h] at hn; simp at hn; omega
  have hw:=zl pre n;have hi1:=ih (pre++[n]) out (by rw[h]; simp) gh
  have hi2:=ih (pre++[n]) (out++[n]) (by rw[h]; simp) gh
  simp only[aA,av,az,aJ,aZ,aK,aU] at hi1 hi2;have r1:cr (out.length+1) 24=True:=qI
  have q1:∀M,nth M 0=some (cA [aF id])->aR (aq cd) 233 [.agg (iC n),cv 0] M=some (.bool ((rD id) n),M) :=
   fun M hM=>uF (f:=233) (p:=0) (vs:=[.agg (iC n)]) hM (aq3 n id) rfl rfl rfl rfl rfl rfl rfl rfl rfl
  rw[ft];generalize (rD id) n=e at q1 ⊢;cases e<;>simp only[XV,iP h,gU h,q1,hw,r1,SG,SF,Ww,Wv,aE,af,aD,EW,seval]
  ·exact hi1
  ·simpa[kO] using hi2
def aq2(xs:List mR)(id:Int)  (hn:xs.length<=100000):aq cd 232 [gA (xs.map kO),.func 233 [cv 0]] [cA [aF id]]=some (gA ((xs.filter (rD id)).map kO),[cA [aF id]]):=by
 refine aB ?_;simp only[Sa,XV,EW,seval];exact aad  hn (R:=fun out=>some (gA (out.map kO),[cA [aF id]])) (fun out e=>by simp only[XV,EW,seval]) xs [] [] rfl (au _)
def aae{xs:List po}{tk:List mR}(hk:tk.length<=100000)(hn:xs.length<=100000){k:List K}{R:List po->Option (ag×aC)}
  (hx:∀(out:List po) e,kr (aq cd) [.tmp 4] 1 k ⟨.exit 0,(1,.func 235 [cv 0])::(5,.slice (.own 1) (out.map lV))::e,[cA [ke tk],.tick 8 out.length]⟩=R out) :
  ∀(l pre out:List po),xs=pre++l->out.length<=pre.length->eX (aq cd) [.tmp 4] 1 k (.loop [1,5,8,9,10] ZO) [(1,.func 235 [cv 0]),(5,.slice (.own 1) (out.map lV)),(8,gA (xs.map lV)),(9,aF xs.length),(10,aF pre.length)] [cA [ke tk],.tick 8 out.length] =
   R (out++l.filter (vG tk)):=by
 intro l;induction l with
 |nil =>
  intro pre out h ho;rw[bF];simp only[XW,jJ h,kH,EW,seval];exact hx _ _
 |cons n rest ih =>
  intro pre out h ho;rw[bF];have dR:pre.length+1<=100000:=by rw[h] at hn; simp at hn; omega
  have hw:=zl pre n;have hi1:=ih (pre++[n]) out (by rw[h]; simp) gh
  have hi2:=ih (pre++[n]) (out++[n]) (by rw[h]; simp) gh
  simp only[aA,av,az,aJ,aZ,aK,aU] at hi1 hi2;have r1:cr (out.length+1) 96=True:=qI
  have q1:∀M,nth M 0=some (cA [ke tk])->aR (aq cd) 235 [.agg (mH n),cv 0] M=some (.bool ((vG tk) n),M) :=
   fun M hM=>uF (f:=235) (p:=0) (vs:=[.agg (mH n)]) hM (aq5 n tk hk) rfl rfl rfl rfl rfl rfl rfl rfl rfl
  rw[ft];generalize (vG tk) n=e at q1 ⊢;cases e<;>simp only[XW,iP h,gU h,q1,hw,r1,SG,SF,Ww,Wv,aE,af,aD,EW,seval]
  ·exact hi1
  ·simpa[lV] using hi2
def aq4(xs:List po)(tk:List mR)(hk:tk.length<=100000)(hn:xs.length<=100000):aq cd 234 [gA (xs.map lV),.func 235 [cv 0]] [cA [ke tk]]=some (gA ((xs.filter (vG tk)).map lV),[cA [ke tk]]):=by
 refine aB ?_;simp only[Sb,XW,EW,seval];exact aae hk hn (R:=fun out=>some (gA (out.map lV),[cA [ke tk]])) (fun out e=>by simp only[XW,EW,seval]) xs [] [] rfl (au _)
def rn(s:iQ)(id:Int):iQ×Int :=
 if ((s.dV.filter (rD id)).length:Int)==(s.dV.length:Int) then (s,100)
 else (⟨s.now,s.tick,s.since,s.eN.filter (vG (s.dV.filter (rD id))),s.dV.filter (rD id),s.next⟩,0)
def aqj(s:iQ)(id:Int)(hk:s.dV.length<=100000)(hp:s.eN.length<=100000):aq cd 168 [qN s,aF id] []=some (.tuple [qN (rn s id).1,aF (rn s id).2],[]):=by
 refine aB ?_;have hf:(s.dV.filter (rD id)).length<=100000:=aY (bU _ _) hk
 have q1:∀M,nth M 1=some (cA [aF id])->aR (aq cd) 232 [ke s.dV,.func 233 [cv 1]] M=some (ke (s.dV.filter (rD id)),M):=by
  intro M hM;exact zu hM (aq2 s.dV id hk) rfl rfl rfl
 unfold rn;generalize (s.dV.filter (rD id))=tk at q1 hf ⊢
 have q2:∀M,nth M 3=some (cA [ke tk])->aR (aq cd) 234 [rY s.eN,.func 235 [cv 3]] M=some (rY (s.eN.filter (vG tk)),M):=by
  intro M hM;exact zu hM (aq4 s.eN tk hf hp) rfl rfl rfl
 simp only[ack,aia,qN,bL,q1,EW,seval]
 repeat' ((first|apply bA|apply bW|apply dK)<;>intro hb<;>simp only[hb,EW,aia,q1,q2,seval])
 all_goals clear q1 q2
 all_goals first|rfl|(simp_all only[qx,↓reduceIte,reduceCtorEq,aw]; done)|(simp_all only[qx,↓reduceIte,reduceCtorEq,aw,bL]; rfl)
def asj(s:iQ)(id:Int)(hk:s.dV.length<=100000)(hp:s.eN.length<=100000)(M:aC):aR (aq cd) 168 [.agg (bL s),aF id] M=some (.tuple [.agg (bL (rn s id).1),aF (rn s id).2],M) :=
 cO (aqj s id hk hp) M
def c38(t:Tree)(ht:t.ae.length<=100000):aq cd 38 [br t] []=some (qN ⟨t,0,List.replicate t.ae.length 0,[],[],1⟩,[]):=by
 refine aB ?_;have r1:cr t.ae.length 8=True:=qI;simp only[alk,E38,br,aM,qN,bL,r1,ag.norm,tV,gZ,EW,seval];rfl
end
abbrev eU:Unit->ag:=fun _ => .agg []
def flN(l:AM Node):(o9 bK l).all ag.flat=true:=Lh _ (fun _=>rfl) l
def rnN(ρ:Nat->Nat)(l:AM Node):(o9 bK l).map (ag.pj ρ)=o9 bK l:=WH _ _ (fun _=>rfl) l
def alU(l:AM Node):(o9 bK l).flatMap ag.ids=[]:=Ss _ (fun _=>rfl) l
def Yj(B:Nat)(M:aC)(l:AM Node):List.map (ag.jU B M) (o9 bK l)=o9 bK l:=Yk _ _ _ (fun _=>rfl) l
def flU(l:AM Unit):(o9 eU l).all ag.flat=true:=Lh _ (fun _=>rfl) l
def rnU(ρ:Nat->Nat)(l:AM Unit):(o9 eU l).map (ag.pj ρ)=o9 eU l:=WH _ _ (fun _=>rfl) l
def arU(l:AM Unit):(o9 eU l).flatMap ag.ids=[]:=Ss _ (fun _=>rfl) l
def bkU(B:Nat)(M:aC)(l:AM Unit):List.map (ag.jU B M) (o9 eU l)=o9 eU l:=Yk _ _ _ (fun _=>rfl) l
abbrev VS:=AM Unit×List Node
def jZ(all:AM Node):Nat->Int->VS->Bool×VS
 |0,_,st=>(false,st)
 |f+1,ar,st =>
  if (eZ st.1 ar).isSome=true then (true,st) else
  if !(eZ all ar).isSome then (false,(kD st.1 ar (),st.2)) else
  ((eZ all ar).getD Node.zero).bc.foldl (fun w e=>((jZ all f e.ar w.2).1&&w.1,(jZ all f e.ar w.2).2)) (true,(kD st.1 ar (),st.2++[(eZ all ar).getD Node.zero]))
def missing(all:AM Node)(met:AM Unit):Nat:=(all.filter fun p=>(eZ met p.1).isNone).length
def sF(all:AM Node)(met:AM Unit)(ar:Int):missing all (kD met ar ())<=missing all met:=by
 unfold missing;simp only[jx];induction all with
 |nil=>simp
 |cons p r ih =>
  simp only[ft]
  by_cases h:p.1=ar
  ·simp only[h,aE,Option.isNone_some,af,aD];split
   ·simp only[av]; omega
   ·exact ih
  ·simp only[h,aD];split
   ·simp only[av]; omega
   ·exact ih
def D6{all:AM Node}{met:AM Unit}{ar:Int}{n:Node}(h:eZ all ar=some n)(h0:eZ met ar=none):missing all (kD met ar ())<missing all met:=by
 have hm:=xl _ _ _ h;clear h;unfold missing;induction all with
 |nil=>cases hm
 |cons p r ih =>
  simp only[ft,jx]
  by_cases hp:p.1=ar
  ·have h1:=sF r met ar;unfold missing at h1;simp only[jx] at h1;simp only[hp,aE,Option.isNone_some,af,aD,h0,Option.isNone_none];simp only[av];omega
  ·rcases bJ.1 hm with h2|h2
   ·exact absurd (by rw[<-h2]) hp
   ·have:=ih h2;simp only[jx] at this;simp only[hp,aD];split
    ·simp only[av]; omega
    ·exact this
structure vh(all:AM Node)(st st':VS):Prop where
 len:st'.2.length+missing all st'.1<=st.2.length+missing all st.1
 ag0:missing all st'.1<=missing all st.1
 met:∀j,(eZ st.1 j).isSome=true->(eZ st'.1 j).isSome=true
 nodup:(st.2.map Node.ar).Nodup->(∀n,n∈st.2->(eZ st.1 n.ar).isSome=true)->(st'.2.map Node.ar).Nodup/\∀n,n∈st'.2->(eZ st'.1 n.ar).isSome=true
def vh.refl(all:AM Node)(st:VS):vh all st st:=⟨au _,au _,fun _ h=>h,fun h1 h2=>⟨h1,h2⟩⟩
theorem vh.trans{all:AM Node}{a b c:VS}(h:vh all a b)(k:vh all b c):vh all a c :=
 ⟨aY k.len h.len,aY k.ag0 h.ag0,fun j hj=>k.met j (h.met j hj),fun h1 h2=>let ⟨g1,g2⟩:=h.nodup h1 h2; k.nodup g1 g2⟩
def Own(all:AM Node):Prop:=∀k n,eZ all k=some n->n.ar=k
def xG{all:AM Node}(ho:Own all):∀(f:Nat)(ar:Int)(st:VS),vh all st (jZ all f ar st).2:=by
 intro f;induction f with
 |zero=>intro ar st; exact vh.refl _ _
 |succ f ih =>
  intro ar st;rw[jZ];split
  ·exact vh.refl _ _
  ·rename_i h0;have h0:eZ st.1 ar=none:=by simpa using h0
   have hput:vh all st (kD st.1 ar (),st.2):=by
    refine⟨?_,sF _ _ _,fun j hj=>?_,fun h1 h2=>⟨h1,fun n hn=>?_⟩⟩
    ·have:=sF all st.1 ar;simp only;omega
    ·simp only[jx]; split
     ·rfl
     ·exact hj
    ·simp only[jx]; split
     ·rfl
     ·exact h2 n hn
   split
   ·exact hput
   ·rename_i h1;cases hn:eZ all ar with
    |none=>simp[hn] at h1
    |some n =>
     simp only[bj]
     have hstep:vh all st (kD st.1 ar (),st.2++[n]):=by
      have cJ:=D6 hn h0;refine⟨gh,sF _ _ _,hput.met,fun g1 g2=>?_⟩
      have hni:=ho _ _ hn;refine⟨?_,fun m hm=>?_⟩
      ·rw[aZ,kX];refine⟨g1,dw,?_⟩;intro a ha b hb;simp only[aK,aU,bQ] at hb;subst hb;intro hab;obtain⟨m,hm,rfl⟩:=eJ.1 ha;have:=g2 m hm;rw[hab,hni,h0] at this;cases this
      ·rcases bo.1 hm with h|h
       ·exact(hput.nodup g1 g2).2 m h
       ·simp only[bQ] at h;subst h;simp only[jx,hni,aE,bX]
     have hfold:∀(l:List gM)(w:Bool×VS),vh all w.2 (l.foldl (fun w e=>((jZ all f e.ar w.2).1&&w.1,(jZ all f e.ar w.2).2)) w).2:=by
      intro l;induction l with
      |nil=>intro w; exact vh.refl _ _
      |cons e r ihr =>
       intro w;rw[ei];exact(ih e.ar w.2).trans (ihr ((jZ all f e.ar w.2).1&&w.1,(jZ all f e.ar w.2).2))
     exact hstep.trans (hfold n.bc (true,(kD st.1 ar (),st.2++[n])))
def uS:ag := .func 271 [.ptr 0 0,.ptr 1 0,.ptr 2 0,.ptr 3 0]
def nn(all:AM Node)(st:VS):aC:=[.cells [.iz 4],.cells [.iz 5],.cells [.cB 6 st.2.length 6 0 st.2.length],.cells [uS],.map (BP st.1) (o9 eU st.1),.map (BP all) (o9 bK all),.arr 6 st.2.length (st.2.map bK)]
def NI(all:AM Node)(st:VS):(nn all st).map (cL.pj (iy [0,1,2,3,4,5,6]))=nn all st/\(nn all st).map (cL.pj (wu [0,1,2,3,4,5,6]))=nn all st:=by
 constructor
 ·simp only[nn,aK,aU,cL.pj,rnN,rnU]; rfl
 ·simp only[nn,aK,aU,cL.pj,rnN,rnU]; rfl
def anp(all:AM Node)(st:VS)(L:aC):jX (nn all st++L) (iy [0,1,2,3,4,5,6]) [0,1,2,3,4,5,6]=some (nn all st):=by
 have h:=(NI all st).1;simp only[nn,aK,aU] at h;injection h with h0 h; injection h with h1 h; injection h with h2 h; injection h with h3 h; injection h with h4 h; injection h with h5 h; injection h with h6 h
 simp only[nn,aG,aO,jX,nth,h0,h1,h2,h3,h4,h5,h6];simp only[cL.flat,flN,flU,aE];rfl
def arW(all:AM Node)(st:VS)(L:aC):qt (nn all st++L) [0,1,2,3]=[4,5,6,0,1,2,3]/\qt (nn all st++L) [0,1,2,3,4,5,6]=[4,5,6,0,1,2,3]:=by
 refine⟨rfl,?_⟩
 show[4,5,6,0,1,2,3]++((o9 eU st.1).flatMap ag.ids++((o9 bK all).flatMap ag.ids++([]++[])))=_
 rw[arU,alU]; rfl
def WE(all:AM Node)(st:VS)(L:aC):reach (nn all st++L) [0,1,2,3]=[0,1,2,3,4,5,6]/\ko (nn all st++L) [0,1,2,3,4,5,6]=[0,1,2,3,4,5,6]:=by
 obtain⟨h1,h2⟩:=arW all st L;have e0:j8 [] [0,1,2,3]=[0,1,2,3]:=rfl;have e1:j8 [0,1,2,3] [4,5,6,0,1,2,3]=[0,1,2,3,4,5,6]:=rfl;have e2:j8 [0,1,2,3,4,5,6] [4,5,6,0,1,2,3]=[0,1,2,3,4,5,6]:=rfl;simp only[reach,ko,e0,h1,e1,h2,e2,jS]
def ahR(all:AM Node)(st st':VS)(L:aC):ma [0,1,2,3,4,5,6] (nn all st++L) [0,1,2,3,4,5,6] (nn all st')=nn all st'++L:=by
 have h:=(NI all st').2;simp only[nn,aK,aU] at h;injection h with h0 h; injection h with h1 h; injection h with h2 h; injection h with h3 h; injection h with h4 h; injection h with h5 h; injection h with h6 h
 simp only[nn,aG,aO,ma,h0,h1,h2,h3,h4,h5,h6,iT]
def abN(all:AM Node)(st:VS):(nn all st).all cL.flat=true:=by
 simp only[nn,kG,cL.flat,flN,flU]; rfl
def aeE{all:AM Node}{ar:Int}{st st':VS}{b:Bool}{L:aC}(h:aq cd 271 [aF ar,cv 0,cv 1,cv 2,cv 3] (nn all st)=some (.bool b,nn all st')) :
  aR (aq cd) 271 [aF ar,cv 0,cv 1,cv 2,cv 3] (nn all st++L)=some (.bool b,nn all st'++L) :=
 kZ (ids:=[0,1,2,3,4,5,6]) rfl (WE all st L).1 (anp all st L) (WE all st L).2 rfl h rfl rfl (abN all st') rfl (ahR all st st' L)
section
attribute [local irreducible] eX fJ lj gK dY kr aq aR cp bI
def aah{all:AM Node}{n:Node}{f:Nat}(ho:Own all){k:List K}{R:Bool×VS->Option (ag×aC)}(hn:n.bc.length<=100000)
  (ih:∀e,e∈n.bc->∀st,missing all st.1<f->st.2.length+missing all st.1<=200000->aq cd 271 [aF e.ar,cv 0,cv 1,cv 2,cv 3] (nn all st)=some (.bool (jZ all f e.ar st).1,nn all (jZ all f e.ar st).2))
  (hx:∀w e,kr (aq cd) [.tmp 6] 7 k ⟨.exit 0,(4,cv 3)::(11,.bool w.1)::e,nn all w.2++[cA [],cA (aL n)]⟩=R w) :
  ∀(l pre:List gM)(w:Bool×VS),n.bc=pre++l->missing all w.2.1<f->w.2.2.length+missing all w.2.1<=200000->eX (aq cd) [.tmp 6] 7 k (.loop [4,11,37,38,39] ZR) [(4,cv 3),(11,.bool w.1),(37,jb n.bc),(38,aF n.bc.length),(39,aF pre.length)] (nn all w.2++[cA [],cA (aL n)]) =
   R (l.foldl (fun w e=>((jZ all f e.ar w.2).1&&w.1,(jZ all f e.ar w.2).2)) w):=by
 intro l;induction l with
 |nil =>
  intro pre w h _ _;rw[bF];simp only[nn,N8,jJ h,mX,EW,seval] at hx ⊢;exact hx _ _
 |cons x rest ihl =>
  intro pre w h hm hl;rw[bF];have dR:pre.length+1<=100000:=by rw[h] at hn; simp at hn; omega
  have hw:=zl pre x;rw[ei];have hg:=xG ho f x.ar w.2;have q:=aeE (L:=[cA [],cA (aL n),cA (fU x)]) (ih x (by rw[h]; simp) w.2 hm hl)
  have hi1:=ihl (pre++[x]) ((jZ all f x.ar w.2).1&&w.1,(jZ all f x.ar w.2).2) (by rw[h]; simp) (by have:=hg.ag0; simp only; omega) (by have:=hg.len; simp only; omega)
  generalize jZ all f x.ar w.2=v at q hi1 ⊢;clear hg ih;simp only[nn,uS,aL,fU,aA,av,az,aJ,aG,aO] at hi1 q;obtain⟨b,st'⟩:=v;cases b<;>simp only[nn,uS,N8,iP h,gU h,aL,fU,q,hw,Yj,bkU,cH,cI,EW,seval] at hi1 ⊢
  ·exact hi1
  ·exact hi1
def Nj(z x:ag):ph z true (some x) = .tuple [x,.bool true]:=rfl
def Vo(z:ag):ph z true none = .tuple [z,.bool false]:=rfl
def ary{all:AM Node}(ho:Own all)(hb:∀k n,eZ all k=some n->n.bc.length<=100000):∀(f:Nat)(ar:Int)(st:VS),missing all st.1<f->st.2.length+missing all st.1<=200000 ->
  aq cd 271 [aF ar,cv 0,cv 1,cv 2,cv 3] (nn all st)=some (.bool (jZ all f ar st).1,nn all (jZ all f ar st).2):=by
 intro f;induction f with
 |zero=>intro ar st h; omega
 |succ f ih =>
  intro ar st hm hl;refine aB ?_;rw[jZ];have p1:=sE eU st.1 ar ();cases h0:eZ st.1 ar with
  |some u =>
   simp only[bX,aE];simp only[nn,uS,MW,N8,oZ,Nj,eU,mapOf.eq_1,h0,Yj,bkU,EW,seval]
  |none =>
   simp only[dr,af,aD];have hp:=sF all st.1 ar;cases hn:eZ all ar with
   |none =>
    simp only[nn,uS,MW,N8,oZ,Nj,Vo,mapOf.eq_1,h0,hn,p1,oH,dr,aE,Yj,bkU,EW,seval]
   |some n =>
    have cJ:=D6 hn h0;have r1:cr (st.2.length+1) 80=True:=qI;have hl1:=aah ho (hb ar n hn) (f:=f) (k:=[.block 0,.seq aht]) (R:=fun w=>some (.bool w.1,nn all w.2)) (fun e he st h1 h2=>ih e.ar st h1 h2) (fun w e=>by simp only[nn,uS,N8,aL,Yj,bkU,EW,seval]) n.bc [] (true,(kD st.1 ar (),st.2++[n])) rfl (by simp only; omega) gh
    clear ih;simp only[nn,uS,aL,az,aG,aO,aA,av,aJ,aZ,aK,aU,bK] at hl1;simp only[nn,uS,MW,N8,oZ,Nj,Vo,mapOf.eq_1,h0,hn,p1,r1,aL,bK,oH,bX,bj,af,aD,se,EW,seval];exact hl1
end
section
def G7(x:Node):List Node->List Node
 | []=>[x]
 |y::r=>if x.ar<y.ar then x::y::r else y::G7 x r
def Cf:List Node->List Node
 | []=>[]
 |x::r=>G7 x (Cf r)
def as3(n:Node):ud 0 (bK n)=n.ar:=rfl
def FQ(x:Node):∀l:List Node,DL 0 (bK x) (l.map bK)=(G7 x l).map bK
 | []=>rfl
 |y::r=>by
  simp only[aK,DL,G7,as3]
  by_cases h:x.ar<y.ar
  ·simp only[h,aE,aK]
  ·simp only[h,aD,aK,FQ x r]
def Ez:∀l:List Node,rQ 0 (l.map bK)=(Cf l).map bK
 | []=>rfl
 |x::r=>by simp only[aK,rQ,Cf,Ez r,FQ]
def mO(a:Int)(m:AM Node)(p:po):AM Node:=if decide (p.ki<=a)&&decide (a<p.BA) then kD m p.node.ar p.node else m
def sa(a:Int):List Node->List Int->AM Node->AM Node
 |n::r,y::ys,m=>sa a r ys (if decide (y<=a) then kD m n.ar n else m)
 |_,_,m=>m
def yJ(s:iQ)(a:Int):AM Node:=sa a s.now.ae s.since (s.eN.foldl (mO a) [])
structure yl(m:AM Node):Prop where
 own:Own m
 bc:∀k n,eZ m k=some n->n.bc.length<=100000
def yl.put{m:AM Node}(h:yl m)(n:Node)(hn:n.bc.length<=100000):yl (kD m n.ar n) where
 own:=fun k x hx=>by
  rw[jx] at hx;split at hx
  ·rename_i e; injection hx with hx; rw[<-hx,e]
  ·exact h.own k x hx
 bc:=fun k x hx=>by
  rw[jx] at hx;split at hx
  ·injection hx with hx; rw[<-hx]; exact hn
  ·exact h.bc k x hx
def xv(a:Int):∀(l:List po)(m:AM Node),yl m->(∀p,p∈l->p.node.bc.length<=100000)->yl (l.foldl (mO a) m)/\(l.foldl (mO a) m).length<=m.length+l.length
 | [],m,h,_=>⟨h,au _⟩
 |p::r,m,h,hp=>by
  rw[ei]
  have h1:yl (mO a m p)/\(mO a m p).length<=m.length+1:=by
   unfold mO;split
   ·exact⟨h.put _ (hp p dw),D8 _ _ _⟩
   ·exact⟨h,aH⟩
  obtain⟨g1,g2⟩:=xv a r _ h1.1 (fun q hq=>hp q (by simp[hq]))
  exact⟨g1,by simp only[av]; omega⟩
def Bc(a:Int):∀(l:List Node)(y:List Int)(m:AM Node),yl m->(∀p,p∈l->p.bc.length<=100000)->yl (sa a l y m)/\(sa a l y m).length<=m.length+l.length
 | [],_,m,h,_=>by unfold sa; exact⟨h,au _⟩
 |n::r,[],m,h,_=>by unfold sa; exact⟨h,aH⟩
 |n::r,y::ys,m,h,hp=>by
  rw[sa]
  have h1:yl (if decide (y<=a) then kD m n.ar n else m)/\(if decide (y<=a) then kD m n.ar n else m).length<=m.length+1:=by
   split
   ·exact⟨h.put _ (hp n dw),D8 _ _ _⟩
   ·exact⟨h,aH⟩
  obtain⟨g1,g2⟩:=Bc a r ys _ h1.1 (fun q hq=>hp q (by simp[hq]))
  exact⟨g1,by simp only[av]; omega⟩
def vZ(m:AM Node)(met:AM Unit):missing m met<=m.length:=bU _ _
def xF(s:iQ)(x:mR):Bool×VS:=jZ (yJ s x.at') 200001 x.ar ([],[])
def DH(s:iQ)(x:mR):List Node:=Cf (xF s x).2.2
attribute [local irreducible] eX fJ lj gK dY kr aq aR cp bI
def zK(s:iQ)(x:mR)(m:AM Node):aC:=[.cells (bL s),.cells (iC x),.map (BP m) (o9 bK m),.cells [.iz 2]]
def VI{s:iQ}{x:mR}(hn:s.eN.length<=100000){k:List K}{fin:AM Node}{r:Option (ag×aC)}
  (hx:∀e,kr (aq cd) [.tmp 4,.tmp 5] 0 k ⟨.exit 0,(2,cv 0)::(3,cv 1)::(6,cv 3)::e,zK s x fin⟩=r) :
  ∀(l pre:List po)(m:AM Node),s.eN=pre++l->l.foldl (mO x.at') m=fin->eX (aq cd) [.tmp 4,.tmp 5] 0 k (.loop [2,3,6,17,18,19] ZL) [(2,cv 0),(3,cv 1),(6,cv 3),(17,rY s.eN),(18,aF s.eN.length),(19,aF pre.length)] (zK s x m)=r:=by
 intro l;induction l with
 |nil =>
  intro pre m h hfin;rw[bF];rw[mX] at hfin;subst hfin;simp only[zK,GJ,jJ h,EW,seval] at hx ⊢;exact hx _
 |cons p rest ih =>
  intro pre m h hfin;rw[bF];have dR:pre.length+1<=100000:=by rw[h] at hn; simp at hn; omega
  have hw:=zl pre p;rw[ei] at hfin;have hi1:=ih (pre++[p]) (mO x.at' m p) (by rw[h]; simp) hfin
  clear hfin;have hput:=sE bK m p.node.ar p.node;unfold mO at hi1;simp only[zK,bL,iC,bK,aL,aA,av,az,aJ] at hi1 hput;simp only[zK,GJ,iP h,gU h,bL,iC,mH,aL,EW,seval];cases h1:decide (p.ki<=x.at')<;>cases h2:decide (x.at'<p.BA)<;>simp only[h1,h2,GJ,hw,hput,mapOf.eq_1,dM,af,aE,aD,Yj,EW,seval] at hi1 ⊢
  all_goals exact hi1
def VJ{s:iQ}{x:mR}(hn:s.now.ae.length<=100000)(hl:s.since.length=s.now.ae.length){k:List K}{fin:AM Node}{r:Option (ag×aC)}
  (hx:∀e,kr (aq cd) [.tmp 4,.tmp 5] 0 k ⟨.exit 2,(2,cv 0)::(3,cv 1)::(6,cv 3)::e,zK s x fin⟩=r) :
  ∀(l pre:List Node)(y ypre:List Int)(m:AM Node),s.now.ae=pre++l->s.since=ypre++y->ypre.length=pre.length->sa x.at' l y m=fin->eX (aq cd) [.tmp 4,.tmp 5] 0 k (.loop [2,3,6,44,45,46] ZM) [(2,cv 0),(3,cv 1),(6,cv 3),(44,ba s.now.ae),(45,aF s.now.ae.length),(46,aF pre.length)] (zK s x m)=r:=by
 intro l;induction l with
 |nil =>
  intro pre y ypre m h hy hyl hfin;rw[bF];have hg:sa x.at' [] y m=m:=by unfold sa; rfl
  rw[hg] at hfin;subst hfin;simp only[zK,GJ,jJ h,EW,seval] at hx ⊢;exact hx _
 |cons n rest ih =>
  intro pre y ypre m h hy hyl hfin;rw[bF];have dR:pre.length+1<=100000:=by rw[h] at hn; simp at hn; omega
  have hw:=zl pre n;cases y with
  |nil=>have h1:=congrArg List.length h; have h2:=congrArg List.length hy; simp at h1 h2; omega
  |cons c y =>
   have hxa:s.since[pre.length]?=some c:=by rw[hy,<-hyl]; simp
   have hi1:=ih (pre++[n]) y (ypre++[c]) (if decide (c<=x.at') then kD m n.ar n else m) (by rw[h]; simp) (by rw[hy]; simp) (by simp[hyl]) (by rw[<-hfin,sa])
   clear hfin;have hput:=sE bK m n.ar n;simp only[zK,bL,iC,bK,aL,aA,av,az,aJ] at hi1 hput;simp only[zK,GJ,iP h,gU h,bL,iC,aL,hxa,EW,seval];cases h1:decide (c<=x.at')<;>simp only[h1,GJ,hw,hput,mapOf.eq_1,af,aE,aD,Yj,EW,seval] at hi1 ⊢
   all_goals exact hi1
def E1(s:iQ)(x:mR)(all:AM Node)(st:VS):aC:=[.cells (bL s),.cells (iC x),.map (BP all) (o9 bK all),.cells [.iz 2],.map (BP st.1) (o9 eU st.1),.cells [.iz 4],.arr 6 st.2.length (st.2.map bK),.cells [.cB 6 st.2.length 6 0 st.2.length],.cells [.func 271 [.ptr 5 0,.ptr 3 0,.ptr 7 0,.ptr 8 0]]]
end
section
def GX{α:Type}:BP ([]:AM α)=[]:=rfl
def GY{α:Type}(enc:α->ag):o9 enc ([]:AM α)=[]:=rfl
def akJ{s:iQ}{x:mR}{all:AM Node}{ar:Int}{st':VS}{b:Bool}(h:aq cd 271 [aF ar,cv 0,cv 1,cv 2,cv 3] (nn all ([],[]))=some (.bool b,nn all st')) :
  aR (aq cd) 271 [aF ar,cv 5,cv 3,cv 7,cv 8] (E1 s x all ([],[]))=some (.bool b,E1 s x all st'):=by
 have i1:qt (E1 s x all ([],[])) [5,3,7,8]=[4,2,6,5,3,7,8]:=rfl
 have i2:qt (E1 s x all ([],[])) [5,3,7,8,4,2,6]=[4,2,6,5,3,7,8]:=by
  show[4,2,6,5,3,7,8]++([]++((o9 bK all).flatMap ag.ids++([]++[])))=_
  rw[alU]; rfl
 have e0:j8 [] [5,3,7,8]=[5,3,7,8]:=rfl;have e1:j8 [5,3,7,8] [4,2,6,5,3,7,8]=[5,3,7,8,4,2,6]:=rfl;have e2:j8 [5,3,7,8,4,2,6] [4,2,6,5,3,7,8]=[5,3,7,8,4,2,6]:=rfl
 have hr:reach (E1 s x all ([],[])) [5,3,7,8]=[5,3,7,8,4,2,6]/\ko (E1 s x all ([],[])) [5,3,7,8,4,2,6]=[5,3,7,8,4,2,6]:=by
  simp only[reach,ko,e0,i1,e1,i2,e2,jS]
 have hp:jX (E1 s x all ([],[])) (iy [5,3,7,8,4,2,6]) [5,3,7,8,4,2,6]=some (nn all ([],[])):=by
  simp only[E1,jX,nth,cL.flat,flN,flU,bO,aE,cL.pj,rnN,rnU];rfl
 refine kZ (ids:=[5,3,7,8,4,2,6]) rfl hr.1 hp hr.2 rfl h rfl rfl (abN all st') rfl ?_;simp only[nn,E1,ma,cL.pj,rnN,rnU,iT];rfl
def ann(n:Nat)(xs:List ag)(b0 b1 b2 b3 b4 b5 b7 b8:cL):jX [b0,b1,b2,b3,b4,b5,.arr 6 n xs,b7,b8] (iy [6]) [6]=some [.arr 6 n xs]:=rfl
def P0{l:List Node}(hl:l.length<=1000000)(hn:(l.map Node.ar).Nodup):aq cd 272 [.cB 0 l.length 6 0 l.length,.func 273 []] [.arr 6 l.length (l.map bK)]=some (.tuple [],[.arr 6 l.length ((Cf l).map bK)]):=by
 refine fg (g:=wE 6 0 273) rfl ?_;unfold wE;simp only[nth];have ht:(l.map bK).take l.length=l.map bK:=bB dw;have hd:(l.map bK).drop l.length=[]:=jl dw;rw[ht,hd,Ez,db];rw[fi]
 ·rfl
 ·refine⟨trivial,trivial,trivial,dw,trivial,aH,?_,?_⟩
  ·intro x hx;obtain⟨n,_,rfl⟩:=eJ.1 hx;rfl
  ·rw[gG];exact hn
attribute [local irreducible] eX fJ lj gK dY kr aq aR cp bI
def I5(x:Node):∀l,(G7 x l).length=l.length+1
 | []=>rfl
 |y::r=>by simp only[G7]; split<;>simp[I5 x r]
def Br:∀l,(Cf l).length=l.length
 | []=>rfl
 |x::r=>by simp[Cf,I5,Br r]
def aq1(s:iQ)(x:mR)(hp:s.eN.length<=100000)(hpe:∀p,p∈s.eN->p.node.bc.length<=100000)(hz:Sz 200 s.now)(hl:s.since.length=s.now.ae.length) :
  aq cd 230 [qN s,kO x] []=some (.tuple [ba (DH s x),.bool (xF s x).1],[]):=by
 refine aB ?_;obtain⟨g1,g2⟩:=xv x.at' s.eN [] ⟨fun k n h=>(by cases h),fun k n h=>(by cases h)⟩ hpe
 obtain⟨g3,g4⟩:=Bc x.at' s.now.ae s.since (s.eN.foldl (mO x.at') []) g1 (fun n hn=>by have:=hz.bc n hn; omega)
 have hall:(yJ s x.at').length<=100200:=by have:=hz.ae; simp at g2; unfold yJ; omega
 have hv:=ary (all:=yJ s x.at') g3.own g3.bc 200001 x.ar ([],[]) (by have:=vZ (yJ s x.at') []; simp only; omega) (by have:=vZ (yJ s x.at') []; simp only[az]; omega)
 have hg:=xG (all:=yJ s x.at') g3.own 200001 x.ar ([],[]);have hnd:=(hg.nodup dw dw).1;have dR:(xF s x).2.2.length<=100200:=by have:=hg.len; have h2:=vZ (yJ s x.at') []; simp only[az] at this; unfold xF; omega
 have q:=akJ (s:=s) (x:=x) hv;have hs:=P0 (l:=(xF s x).2.2) aH hnd
 have q2:∀b0 b1 b2 b3 b4 b5 b7 b8,aR (aq cd) 272 [.cB 6 (xF s x).2.2.length 6 0 (xF s x).2.2.length,.func 273 []] [b0,b1,b2,b3,b4,b5,.arr 6 (xF s x).2.2.length ((xF s x).2.2.map bK),b7,b8] =
   some (.tuple [],[b0,b1,b2,b3,b4,b5,.arr 6 (xF s x).2.2.length ((DH s x).map bK),b7,b8]):=fun b0 b1 b2 b3 b4 b5 b7 b8 =>
  kZ (ids:=[6]) rfl rfl (ann _ _ ..) rfl rfl hs rfl rfl rfl rfl rfl
 have ht:List.take (xF s x).2.2.length ((DH s x).map bK)=(DH s x).map bK:=bB (by simp[DH,Br])
 have l2:=VJ (s:=s) (x:=x) (by have:=hz.ae; omega) hl (fin:=yJ s x.at') (r:=some (.tuple [ba (DH s x),.bool (xF s x).1],[])) (k:=[.block 2,.seq aa0]) (fun e=>by
  clear g1 g2 g3 g4 hv hg hnd hs;have hvv:jZ (yJ s x.at') 200001 x.ar ([],[])=xF s x:=rfl;rw[hvv] at q;generalize xF s x=v at q q2 ht dR ⊢;obtain⟨b,met,out⟩:=v;simp only[E1,bL,iC,az,aU,GX,GY] at q q2 ht;simp only[zK,bL,iC,GJ,q,q2,ht,EW,seval]) s.now.ae [] s.since [] (s.eN.foldl (mO x.at') []) rfl rfl rfl rfl
 have l1:=VI (s:=s) (x:=x) hp (fin:=s.eN.foldl (mO x.at') []) (r:=some (.tuple [ba (DH s x),.bool (xF s x).1],[])) (k:=[.block 0,.seq aa1]) (fun e=>by
  simp only[zK,bL,iC,az] at l2;simp only[zK,bL,iC,GJ,EW,seval];exact l2) s.eN [] [] rfl rfl
 simp only[zK,bL,iC,az,GX,GY] at l1;simp only[R9,GJ,qN,kO,bL,iC,EW,seval];exact l1
def asE(s:iQ)(x:mR)(hp:s.eN.length<=100000)(hpe:∀p,p∈s.eN->p.node.bc.length<=100000)(hz:Sz 200 s.now)(hl:s.since.length=s.now.ae.length)(M:aC) :
  aR (aq cd) 230 [.agg (bL s),.agg (iC x)] M=some (.tuple [ba (DH s x),.bool (xF s x).1],M):=cO (aq1 s x hp hpe hz hl) M
def vj(s:iQ)(id:Int):Int×List Node×Int:=match s.dV.find? (fun x=>x.id==id) with
 |some x=>(x.ar,DH s x,0)
 |none=>(0,[],100)
def Z5{s:iQ}{id:Int}(hk:s.dV.length<=100000)(hp:s.eN.length<=100000)(hpe:∀p,p∈s.eN->p.node.bc.length<=100000)(hz:Sz 200 s.now)(hl:s.since.length=s.now.ae.length) :
  ∀(l pre:List mR),s.dV=pre++l->eX (aq cd) [.tmp 4,.tmp 5,.tmp 6] 0 [.block 0,.seq ahp] (.loop [1,2,12,13,14] Zx) [(1,aF id),(2,cv 0),(12,ke s.dV),(13,aF s.dV.length),(14,aF pre.length)] [cA (bL s)] =
   some (match l.find? (fun x=>x.id==id) with|some x => .tuple [aF x.ar,ba (DH s x),aF 0]|none => .tuple [aF 0,ba [],aF 100],[]):=by
 intro l;induction l with
 |nil =>
  intro pre h;rw[bF];simp only[XN,jJ h,List.find?_nil,bL,EW,seval];rfl
 |cons x rest ih =>
  intro pre h;rw[bF];have dR:pre.length+1<=100000:=by rw[h] at hk; simp at hk; omega
  have hw:=zl pre x;have hi1:=ih (pre++[x]) (by rw[h]; simp)
  have q:=asE s x hp hpe hz hl;simp only[aA,av,az,aJ,bL,iC] at hi1 q;rw[List.find?_cons];simp only[XN,iP h,gU h,bL,iC,EW,seval];cases he:x.id==id<;>simp only[XN,he,q,hw,EW,seval]
  exact hi1
def aqh(s:iQ)(id:Int)(hk:s.dV.length<=100000)(hp:s.eN.length<=100000)(hpe:∀p,p∈s.eN->p.node.bc.length<=100000)(hz:Sz 200 s.now)(hl:s.since.length=s.now.ae.length) :
  aq cd 164 [qN s,aF id] []=some (.tuple [aF (vj s id).1,ba (vj s id).2.1,aF (vj s id).2.2],[]):=by
 refine aB ?_;have hq:=Z5 (id:=id) hk hp hpe hz hl s.dV [] rfl;simp only[bL,az] at hq;simp only[ach,XN,qN,bL,EW,seval];refine im hq ?_;unfold vj;split<;>rfl
def asi(s:iQ)(id:Int)(hk:s.dV.length<=100000)(hp:s.eN.length<=100000)(hpe:∀p,p∈s.eN->p.node.bc.length<=100000)(hz:Sz 200 s.now)(hl:s.since.length=s.now.ae.length)(M:aC) :
  aR (aq cd) 164 [.agg (bL s),aF id] M=some (.tuple [aF (vj s id).1,ba (vj s id).2.1,aF (vj s id).2.2],M):=cO (aqh s id hk hp hpe hz hl) M
end
noncomputable def xD:zo:=⟨fun f=>if f=188 then some R6 else code f,oO⟩
def abb:vi Tryz.prog xD:=by
 refine⟨fun f fn h=>?_,NA⟩
 simp only[xD] at h;split at h
 ·rename_i hf;cases h; subst hf;exact⟨_,_,func188,am4⟩
 ·exact Mx f fn h
def ahG:nI Tryz.prog (aq xD):=qP fA abb
def J4:∀n,wO (j7 cd n) (j7 xD n)
 |0,f,a,M,x,h=>by rw[j7] at h ⊢; exact h
 |n+1,f,a,M,x,h=>by
  rw[j7] at h ⊢;have hp:xD.oO f=cd.oO f:=rfl;rw[hp];split at h
  ·rename_i g hg; exact h
  ·rename_i hg;split at h
   ·cases h
   ·rename_i fn hfn
    have hc:xD.code f=some fn:=by
     simp only[xD];split
     ·rename_i hf; subst hf; cases hfn
     ·exact hfn
    rw[hc];split at h
    ·rename_i hl;simp only[aW hl];obtain⟨o,ho,h⟩:=bp h;rw[jH (J4 n) _ ho,bO];exact h
    ·cases h
def abd{f:Nat}{a:List ag}{M:aC}{x:ag×aC}(h:aq cd f a M=some x):aq xD f a M=some x:=by
 obtain⟨n,hn⟩:=uf h;exact pP (fun n x h=>tw xD n f a M x h) (J4 n f a M x hn)
def lW{f:Nat}{vs:List ag}{M:aC}{x:ag×aC}(h:aR (aq cd) f vs M=some x):aR (aq xD) f vs M=some x:=by
 obtain⟨a,B,y,h1,h2⟩:=pL h;exact h2 _ (abd h1)
def IZ(t:Tree)(q:dU):Bool := !(find t.ae q.ar).isSome
def CP(n:dU):(iW n).all ag.jf=true:=rfl
section
def ahn(z:Tree):jX [cA (aM z)] (iy [0]) [0]=some [cA (aM z)]:=rfl
section
attribute [local irreducible] eX fJ lj gK dY kr aq aR cp bI
def aqD(q:dU)(t:Tree)(ht:Rt t):aq xD 190 [gz q,cv 0] [cA (aM t)]=some (.bool (IZ t q),[cA (aM t)]):=by
 refine aB ?_;have q1:=fun M=>lW (E2 t q.ar ht.small ht.lI M)
 unfold IZ;simp only[aL] at q1;simp only[acx,aot,gz,iW,aM,q1,aL,b0T,CP,EW,seval]
def ast(q:dU)(t:Tree)(ht:Rt t)(p:Nat)(M:aC)(hM:nth M p=some (cA (aM t))):aR (aq xD) 190 [.agg (iW q),cv p] M=some (.bool (IZ t q),M) :=
 uF (f:=190) (p:=p) (vs:=[.agg (iW q)]) hM (aqD q t ht) rfl rfl rfl rfl rfl rfl rfl rfl rfl
def nP(z:Tree)(l:List dU):List dU:=l.filter fun e => !IZ z e
def Qn:dU:=⟨0,0,0⟩
abbrev anu(m:Nat):ag:=Dj 3 m
def aqC(xs:List dU)(z:Tree)(hz:Rt z)(hn:xs.length<=100000)(h0:xs≠[]):aq xD 188 [.cB 0 0 3 0 xs.length,.func 190 [cv 1]] [.arr 3 0 (xs.map gz),cA (aM z)] =
  some (anu (nP z xs).length,[.arr 3 0 ((nP z xs++List.replicate (xs.length-(nP z xs).length) Qn).map gz),cA (aM z)]) :=
 adn (sz:=3) (z:=[aF 0,aF 0,aF 0]) (zc:=[aF 0,aF 0,aF 0]) (gi:=245) (e:=iW) (zx:=Qn) (p:=IZ z) fA rfl fA rfl rfl hn (fun _=>rfl) rfl mu (fun _=>rfl) (fun _=>rfl) (fun _=>rfl) ⟨fun _ _=>rfl,rfl,fun _=>rfl,rfl⟩ (fun e _ _=>ast e z hz 1 _ rfl) h0
end
def akE(z:Tree):aq xD 245 [gA [],.func 190 [cv 0]] [cA (aM z)]=some (aF (-1),[cA (aM z)]):=by
 refine aB ?_;simp only[ac2,aik,aM,b0T,CP,EW,seval];rw[bF];have h0:((0:Int)<((0:Nat):Int))=False:=dw;simp only[aik,aM,h0,b0T,CP,EW,seval]
def akx(z:Tree):aq xD 188 [gA [],.func 190 [cv 0]] [cA (aM z)]=some (gA [],[cA (aM z)]):=by
 have h11:((-1:Int) == -1)=true:=rfl;have q:aR (aq xD) 245 [gA [],.func 190 [cv 0]] [cA (aM z)]=some (aF (-1),[cA (aM z)]):=kZ (ids:=[0]) rfl rfl (ahn z) rfl rfl (akE z) rfl rfl rfl rfl rfl;refine aB ?_;simp only[aM] at q;simp only[R6,aos,aM,q,h11,b0T,CP,EW,seval]
end
noncomputable def B8(args:List ag)(M:aC):Option (ag×aC):=bI (aq xD 188 args M) fun x=>cp (x.1.jm=false) (some (x.1.rM x.2,qG x.2 x.1.ids))
def KW{args:List ag}{M:aC}{x:ag×aC}(h:B8 args M=some x):dp Tryz.prog 188 args M x:=by
 obtain⟨y,h1,h2⟩:=bp h;obtain⟨hp,h2⟩:=dh h2;cases h2;exact FA (ahG _ _ _ _ h1).2 hp
def PX(z:Tree):B8 [gA [],.func 190 [cv 0]] [cA (aM z)]=some (gA [],[cA (aM z)]):=by
 unfold B8;rw[akx,bO];exact fi rfl
def Still(b:cL):Prop:=(∀B M,b.back B M=b)/\b.flat=true/\(∀ρ,b.pj ρ=b)
def Wr(xs:List dU)(z:Tree)(hz:Rt z)(hn:xs.length<=100000)(h0:xs≠[]):∃b,Still b/\B8 [.cB 0 0 3 0 xs.length,.func 190 [cv 1]] [.arr 3 0 (xs.map gz),cA (aM z)]=some (cQ (nP z xs),[b,cA (aM z)]):=by
 have h:=aqC xs z hz hn h0;unfold B8;rw[h,bO];unfold anu Dj
 by_cases hl:(nP z xs).length=0
 ·have h1:nP z xs=[]:=dQ.1 hl;refine⟨.arr 3 0 ((nP z xs++List.replicate (xs.length-(nP z xs).length) Qn).map gz),⟨fun _ _=>rfl,rfl,fun _=>rfl⟩,?_⟩
  rw[aW hl];refine(fi rfl).trans ?_;rw[h1];rfl
 ·refine⟨.tick 3 ((nP z xs++List.replicate (xs.length-(nP z xs).length) Qn).map gz).length,⟨fun _ _=>rfl,rfl,fun _=>rfl⟩,?_⟩
  rw[aP hl];refine(fi rfl).trans ?_
  have ht:List.drop 0 (List.take (nP z xs).length ((nP z xs++List.replicate (xs.length-(nP z xs).length) Qn).map gz))=(nP z xs).map gz:=by
   simp[fP]
  show some (ag.slice .sh (List.drop 0 (List.take (nP z xs).length ((nP z xs++List.replicate (xs.length-(nP z xs).length) Qn).map gz))),_)=_
  rw[ht];rfl
noncomputable def mb(T:zo)(f0:Nat)(g:List ag->aC->Option (ag×aC)):zo:=⟨T.code,fun f=>if f=f0 then some g else T.oO f⟩
def pW{P:Program}{T:zo}(hT:vi P T){f0:Nat}{g:List ag->aC->Option (ag×aC)}(he:lB P f0=true)(hg:∀ {args:List ag} {M:aC} {x:ag×aC},g args M=some x->dp P f0 args M x):vi P (mb T f0 g):=by
 refine⟨hT.code,fun f g' h args M x hx=>?_⟩
 simp only[mb] at h;split at h
 ·rename_i hf;cases h; subst hf;exact⟨he,hg hx⟩
 ·exact hT.oO f g' h args M x hx
def Ao{T:zo}{f0:Nat}{g:List ag->aC->Option (ag×aC)}(h1:T.code f0=none)(h2:T.oO f0=none):∀n,wO (j7 T n) (j7 (mb T f0 g) n)
 |0,f,a,M,x,h=>by
  by_cases hf:f=f0
  ·subst hf;rw[j7,h2] at h;cases h
  ·have hp:(mb T f0 g).oO f=T.oO f:=by simp[mb,hf]
   rw[j7] at h ⊢;rw[hp];exact h
 |n+1,f,a,M,x,h=>by
  by_cases hf:f=f0
  ·subst hf;rw[j7,h2,h1] at h;cases h
  ·have hp:(mb T f0 g).oO f=T.oO f:=by simp[mb,hf]
   rw[j7] at h ⊢;rw[hp];split at h
   ·rename_i g hg; exact h
   ·rename_i hg;have hc:(mb T f0 g).code f=T.code f:=rfl;rw[hc];split at h
    ·cases h
    ·rename_i fn hfn;split at h
     ·rename_i hl;simp only[aW hl];obtain⟨o,ho,h⟩:=bp h;rw[jH (Ao h1 h2 n) _ ho,bO];exact h
     ·cases h
def qX{T:zo}{f0:Nat}{g:List ag->aC->Option (ag×aC)}(h1:T.code f0=none)(h2:T.oO f0=none){f:Nat}{a:List ag}{M:aC}{x:ag×aC}(h:aq T f a M=some x):aq (mb T f0 g) f a M=some x:=by
 obtain⟨n,hn⟩:=uf h;exact pP (fun n x h=>tw _ n f a M x h) (Ao h1 h2 n f a M x hn)
noncomputable def anJ:zo:=mb cd 188 B8
def abc:vi Tryz.prog anJ:=pW ahJ fA (fun h=>KW h)
noncomputable def gJ:zo:=mb anJ 165 Ef
def NT:vi Tryz.prog gJ:=pW abc fA (fun h=>P8 h)
def Ma:nI Tryz.prog (aq gJ):=qP fA NT
def NU{f:Nat}{a:List ag}{M:aC}{x:ag×aC}(h:aq cd f a M=some x):aq gJ f a M=some x:=qX rfl rfl (qX rfl rfl h)
def lS'{f:Nat}{a:List ag}{M:aC}{x:ag×aC}(h:aq cd f a M=some x):aq gJ f a M=some x:=NU h
def lS{f:Nat}{vs:List ag}{M:aC}{x:ag×aC}(h:aR (aq cd) f vs M=some x):aR (aq gJ) f vs M=some x:=by
 obtain⟨a,B,y,h1,h2⟩:=pL h;exact h2 _ (NU h1)
def afn(s:Bytes)(hs:s.length<=100000)(M:aC):aR (aq gJ) 165 [.str s] M=some (.tuple [dj (gD s).1,aF (gD s).2],M):=by
 have h:aq gJ 165 [.str s] []=some (.tuple [dj (gD s).1,aF (gD s).2],[]):=by
  refine fg (g:=Ef) rfl ?_;unfold Ef;simp only[];rw[aW ⟨trivial,hs⟩]
 exact cO h M
section
def qO{s:Bytes}(h:fY s=true):s.length<=32:=by
 unfold fY at h;simp only[bu,gN,jN,dA] at h;omega
def JZ:∀(x:List (Bytes×Bool)) (n:Nat) (l:List Bytes),qH x n=some l->n<=12->(∀s,s∈l->fY s=true)/\l.length+n<=12
 | [],n,l,h,hn=>by
  simp only[qH,gS] at h;subst h;exact⟨fun s hs=>by simp at hs,gh⟩
 |x::r,n,l,h,hn=>by
  rw[qH] at h;split at h
  ·cases h
  ·rename_i hb;cases hr:qH r (n+1) with
   |none=>rw[hr] at h; cases h
   |some k =>
    rw[hr] at h;simp only[eL,gS] at h;subst h;have hb':ES x n=false:=by simpa using hb
    unfold ES at hb';simp only[jN,Bool.not_eq_false',kb] at hb';obtain⟨g1,g2⟩:=JZ r (n+1) k hr aH;refine⟨fun s hs=>?_,gh⟩
    rcases bJ.1 hs with h1|h1
    ·subst h1; exact hb'.1.2
    ·exact g1 s h1
def yb(s:Bytes):(∀x,x∈(gD s).1->fY x=true)/\(gD s).1.length<=12:=by
 unfold gD;split
 ·exact⟨fun s hs=>by simp at hs,dw⟩
 ·split
  ·exact⟨fun s hs=>by simp at hs,dw⟩
  ·exact⟨fun s hs=>by simp at hs,dw⟩
  ·rename_i l hl;obtain⟨g1,g2⟩:=JZ _ 0 _ hl aH;exact⟨g1,aH⟩
def EB:∀l:List Bytes,Bv (l.map ag.str)=some l
 | []=>rfl
 |s::r=>by
  show bI (Bv (r.map ag.str)) (fun l=>some (s::l))=_
  rw[EB r]; rfl
def DQ(l:List Bytes)(h:∀x,x∈l->fY x=true):(Lib.join l [47]).length<=33*l.length:=by
 induction l with
 |nil=>simp[Lib.join]
 |cons a r ih =>
  have h1:=qO (h a dw);have h2:=ih (fun x hx=>h x (by simp[hx]))
  cases r with
  |nil=>simp[Lib.join]; omega
  |cons b r=>simp[Lib.join] at h2 ⊢; omega
def I9(l:List Bytes):Bytes:=if (l.length:Int)==0 then [47] else [47]++Lib.join l [47]
def Ph(l:List Bytes)(h:∀x,x∈l->fY x=true)(hl:l.length<=12):(I9 l).length<=1000:=by
 unfold I9;have:=DQ l h;split<;>simp<;>omega
def asS(l:List Bytes)(h:∀x,x∈l->fY x=true)(hl:l.length<=12)(M:aC):aR (aq cd) 277 [dj l,.str [47]] M=some (.str (Lib.join l [47]),M):=by
 have hq:aq cd 277 [dj l,.str [47]] []=some (.str (Lib.join l [47]),[]):=by
  refine fg (g:=JB) rfl ?_;unfold JB;simp only[];rw[EB,bO,aW];have:=DQ l h;omega
 exact cO hq M
attribute [local irreducible] eX fJ lj gK dY kr aq aR cp bI
def aq8(l:List Bytes)(h:∀x,x∈l->fY x=true)(hl:l.length<=12):aq cd 238 [dj l] []=some (.str (I9 l),[]):=by
 refine aB ?_;have q:=asS l h hl;have hm:(IntKind.i64.max<((1+(Lib.join l [47]).length:Nat):Int))=False:=max_lt _ (by have:=DQ l h; omega)
 unfold I9;simp only[acZ,aij,q,EW,seval];cases h0:(l.length:Int)==0<;>simp only[aij,h0,af,aE,aD,q,hm,EW,seval]
def asF l h hl:=cP (aq8 l h hl)
def ue(s:Bytes):Bytes×Bytes×Int :=
 if (gD s).2 != 0||(((gD s).1.length:Int)==0) then ([],[],60)
 else ((gD s).1.getD ((gD s).1.length-1) [],I9 ((gD s).1.take ((gD s).1.length-1)),0)
def aqv(s:Bytes)(hs:s.length<=100000):aq gJ 180 [.str s] []=some (.tuple [.str (ue s).1,.str (ue s).2.1,aF (ue s).2.2],[]):=by
 refine aB ?_;have q:=afn s hs;obtain⟨h1,h2⟩:=yb s;unfold ue;generalize gD s=l at q h1 h2 ⊢;obtain⟨l,e⟩:=l;simp only at h1 h2;have q2:=fun M=>lS (asF (l.take (l.length-1)) (fun x hx=>h1 x (dN hx)) gh M)
 simp only[dj,eP] at q2;simp only[acs,XQ,q,EW,seval];cases he:e != 0
 ·cases h0:(l.length:Int)==0
  ·have hne:0<l.length:=by
    have:¬((l.length:Int)=0):=by simpa using h0
    omega
   have hw:IntKind.i64.wrap ((l.length:Int)-1)=((l.length-1:Nat):Int):=by rw[gW aH aH]; omega
   have hx:=ai (show l.length-1<l.length by omega)
   have hg:l.getD (l.length-1) []=l[l.length-1]:=by simp[List.getD,hx]
   have hle:((l.length-1:Nat):Int)<=(l.length:Int):=aH;have hz:((0:Int)<=((l.length-1:Nat):Int))=True:=dw;simp only[XQ,he,h0,hw,hx,q2,hg,hle,hz,fH,af,aD,EW,seval]
  ·simp only[XQ,he,h0,eu,aE,EW,seval]
 ·simp only[XQ,he,dI,aE,EW,seval]
def asq s hs:=cP (aqv s hs)
def FX(s:Bytes)(_hs:s.length<=100000):(ue s).1.length<=1000/\(ue s).2.1.length<=1000:=by
 obtain⟨h1,h2⟩:=yb s;unfold ue;split
 ·exact⟨dw,dw⟩
 ·refine⟨?_,Ph _ (fun x hx=>h1 x (dN hx)) gh⟩
  simp only[List.getD];cases hx:(gD s).1[(gD s).1.length-1]? with
  |none=>simp
  |some x=>have:=qO (h1 x (aI hx)); simp; omega
def BD(ae:List Node):List Bytes->Int->Int×Int
 | [],ar=>(ar,0)
 |s::r,ar=>if (fh ae ar s).2 != 0 then (0,(fh ae ar s).2) else BD ae r (fh ae ar s).1
def kl(t:Tree)(dH:Bytes):Int×Int:=if (gD dH).2 != 0 then (0,(gD dH).2) else BD t.ae (gD dH).1 1
def Z8{t:Tree}(ht:Small t)(hr:rP t){xs:List Bytes}(hxs:∀x,x∈xs->x.length<=100000)(hn:xs.length<=100000) :
  ∀(l pre:List Bytes)(ar:Int),xs=pre++l->eX (aq gJ) [.tmp 4,.tmp 5] 0 [.block 0,.seq ahr] (.loop [2,8,19,20,21] ZG) [(2,cv 0),(8,aF ar),(19,dj xs),(20,aF xs.length),(21,aF pre.length)] [cA (aM t)] =
   some (.tuple [aF (BD t.ae l ar).1,aF (BD t.ae l ar).2],[]):=by
 intro l;induction l with
 |nil =>
  intro pre ar h;rw[bF];simp only[Ki,jJ h,aM,BD,EW,seval]
 |cons s rest ih =>
  intro pre ar h;rw[bF];have dR:pre.length+1<=100000:=by rw[h] at hn; simp at hn; omega
  have hw:=zl pre s;have hi1:=ih (pre++[s]) (fh t.ae ar s).1 (by rw[h]; simp)
  have q:=fun M=>lS (YX t.ae t.next t.ak ar s ht hr (hxs s (by rw[h]; simp)) trivial M)
  rw[BD];generalize fh t.ae ar s=v at q hi1 ⊢;simp only[aA,av,az,aJ,aM] at hi1;simp only[Ki,iP h,gU h,aM,q,EW,seval];cases he:v.2 != 0
  ·simp only[Ki,he,hw,af,aD,EW,seval];exact hi1
  ·simp only[Ki,he,aE,EW,seval]
def aqt(t:Tree)(dH:Bytes)(ht:Small t)(hr:rP t)(hp:dH.length<=100000):aq gJ 178 [br t,.str dH] []=some (.tuple [aF (kl t dH).1,aF (kl t dH).2],[]):=by
 refine aB ?_;have q:=afn dH hp;obtain⟨h1,h2⟩:=yb dH;have hl:=Z8 ht hr (xs:=(gD dH).1) (fun x hx=>by have:=qO (h1 x hx); omega) aH (gD dH).1 [] 1 rfl
 unfold kl;generalize gD dH=v at q hl ⊢;simp only[aM,az] at hl;simp only[acq,Ki,br,aM,q,EW,seval];cases he:v.2 != 0
 ·simp only[Ki,he,af,aD,EW,seval];exact hl
 ·simp only[Ki,he,aE,EW,seval]
def ama(t:Tree)(dH:Bytes)(ht:Small t)(hr:rP t)(hp:dH.length<=100000)(M:aC):aR (aq gJ) 178 [.agg [ba t.ae,aF t.next,aF t.ak],.str dH] M=some (.tuple [aF (kl t dH).1,aF (kl t dH).2],M) :=
 cO (aqt t dH ht hr hp) M
def gd(e:Int):ag := .nD (.iface 43 (.int .i64 e))
def apz(e:Int):aq gJ 110 [aF e] []=some (if e != 0 then gd e else .tuple [],[]):=by
 refine aB ?_;simp only[abP,adM,EW,seval];cases he:e != 0
 ·simp only[adM,af,aD,EW,seval]
 ·simp only[adM,aE,valOf,gd,EW,seval]
def oX(e:Int)(M:aC):aR (aq gJ) 110 [aF e] M=some (if e != 0 then gd e else .tuple [],M) :=
 CG (apz e) rfl rfl (by split<;>rfl) rfl (by split<;>rfl) M
def c53(b:Bool)(e:Int)(he:(e != 0)=true):aq gJ 53 [.bool b,aF e] []=some (if b then .tuple [] else gd e,[]):=by
 refine aB ?_;have q:=oX e;rw[aW he] at q;cases b<;>simp only[alr,E53,q,gd,af,aE,aD,EW,seval]
def Qw(b:Bool)(e:Int)(he:(e != 0)=true)(M:aC):aR (aq gJ) 53 [.bool b,aF e] M=some (if b then .tuple [] else gd e,M) :=
 CG (c53 b e he) rfl rfl (by split<;>rfl) rfl (by split<;>rfl) M
end
section
attribute [local irreducible] eX fJ lj gK dY kr aq aR cp bI
def cg(f:aa)(o:jC):List ag:=[ba f.s.now.ae,.int .i64 f.s.now.next,.int .i64 f.s.now.ak,.int .i64 f.s.tick,tV f.s.since,rY f.s.eN,ke f.s.dV,.int .i64 f.s.next,fI f.holds,cQ f.dW,
 .int .i64 o.kind,.int .i64 o.bC,.str o.dH,.str o.u9,.int .i64 o.n,.int .i64 o.m,.int .i64 o.handle,c8 o.data,
 .int .i64 0,.int .i64 0,.int .i64 0,.int .i64 0,.int .i64 0,.slice .c0 [],.slice .c0 []]
abbrev dg(f:aa)(o:jC):cL := .cells (cg f o)
def dB(f:aa)(o:jC)(a:vN)(x y:ag):cL := .cells [ba f.s.now.ae,.int .i64 f.s.now.next,.int .i64 f.s.now.ak,.int .i64 f.s.tick,tV f.s.since,rY f.s.eN,ke f.s.dV,.int .i64 f.s.next,fI f.holds,cQ f.dW,
 .int .i64 o.kind,.int .i64 o.bC,.str o.dH,.str o.u9,.int .i64 o.n,.int .i64 o.m,.int .i64 o.handle,c8 o.data,
 .int .i64 a.err,.int .i64 a.ar,.int .i64 a.kind,.int .i64 a.n,.int .i64 a.m,x,y]
def Row(x:ag)(xs:List ag):Prop:=x = .slice .sh xs\/(x = .slice .c0 []/\xs=[])
def pn(K:Nat)(f:aa)(o:jC)(r:aa×vN×Int):Prop :=
 ∃x y,Row x (r.2.1.names.map ag.str)/\Row y (r.2.1.data.map qW)/\aq gJ K [.ptr 0 0] [.cells (cg f o)]=some (if r.2.2 != 0 then gd r.2.2 else .tuple [],[dB r.1 o r.2.1 x y])
def gw:vN:=⟨0,0,0,0,0,[],[]⟩
def Ja{C:eR}{g p:Nat}{vs:List ag}{r:ag}{M:aC}{f f':aa}{o o':jC}(hM:nth M p=some (dg f o))(h:C g (.ptr 0 0::vs) [dg f o]=some (r,[dg f' o']))
  (h1:vs.all ag.flat=true) (h2:vs.flatMap ag.ids=[]) (h3:r.wz=true) (h4:∀p,vs.map (ag.pj (iy [p]))=vs) (h5:∀p,r.Ah (wu [p])=r) :
  aR C g (.ptr p 0::vs) M=some (r,iT M p (dg f' o')) :=
 ti hM h h1 h2 h3 (h4 p) (h5 p) rfl rfl rfl rfl rfl
def aqu(f:aa)(o:jC)(ar:Int)(ht:Small f.s.now)(hr:rP f.s.now):aq gJ 179 [cv 0,aF ar] [dg f o]=some (.agg (aL (bl f.s.now.ae ar)),[dg f o]):=by
 refine aB ?_;have q:=fun M=>lS (E2 f.s.now ar ht hr M)
 simp only[aL] at q;simp only[acr,aoq,dg,cg,q,aL,EW,seval]
def amb(f:aa)(o:jC)(ar:Int)(ht:Small f.s.now)(hr:rP f.s.now){p:Nat}{M:aC}(hM:nth M p=some (dg f o)):aR (aq gJ) 179 [cv p,aF ar] M=some (.agg (aL (bl f.s.now.ae ar)),M):=by
 have:=Ja hM (aqu f o ar ht hr) rfl rfl rfl (fun _=>rfl) (fun _=>rfl)
 rwa[uQ hM] at this
def apZ(f:aa)(o:jC)(dH:Bytes)(ht:Small f.s.now)(hr:rP f.s.now)(hp:dH.length<=100000):aq gJ 145 [cv 0,.str dH] [dg f o] =
  some (if (kl f.s.now dH).2 != 0 then gd (kl f.s.now dH).2 else .agg (aL (bl f.s.now.ae (kl f.s.now dH).1)),[dg f o]):=by
 refine aB ?_;have q1:=ama f.s.now dH ht hr hp;generalize kl f.s.now dH=v at q1 ⊢;have q2:=oX v.2;have q3:∀b,aR (aq gJ) 179 [cv 0,aF v.1] [dg f o,b]=some (.agg (aL (bl f.s.now.ae v.1)),[dg f o,b]):=fun b=>amb f o v.1 ht hr (p:=0) rfl
 simp only[dg,cg,aL] at q3;simp only[ab8,adS,dg,cg,q1,EW,seval];cases he:v.2 != 0<;>simp only[he,af,aE,aD,gd] at q2 ⊢
 ·simp only[adS,q2,q3,aL,EW,seval]
 ·simp only[adS,q2,EW,seval]
def Lu(f:aa)(o:jC)(dH:Bytes)(ht:Small f.s.now)(hr:rP f.s.now)(hp:dH.length<=100000){p:Nat}{M:aC}(hM:nth M p=some (dg f o)):aR (aq gJ) 145 [cv p,.str dH] M =
  some (if (kl f.s.now dH).2 != 0 then gd (kl f.s.now dH).2 else .agg (aL (bl f.s.now.ae (kl f.s.now dH).1)),M):=by
 have:=Ja hM (apZ f o dH ht hr hp) rfl rfl (by split<;>rfl) (fun _=>rfl) (fun _=>by split<;>rfl)
 rwa[uQ hM] at this
def mP(t:Tree)(dH:Bytes):Int×Bytes×Int :=
 if (ue dH).2.2 != 0 then (0,[],(ue dH).2.2)
 else if (kl t (ue dH).2.1).2 != 0 then (0,[],(kl t (ue dH).2.1).2)
 else ((kl t (ue dH).2.1).1,(ue dH).1,0)
def ap0(f:aa)(o:jC)(dH:Bytes)(ht:Small f.s.now)(hr:rP f.s.now)(hp:dH.length<=100000):aq gJ 146 [cv 0,.str dH] [dg f o] =
  some (if (mP f.s.now dH).2.2 != 0 then gd (mP f.s.now dH).2.2 else .tuple [aF (mP f.s.now dH).1,.str (mP f.s.now dH).2.1],[dg f o]):=by
 refine aB ?_;have q1:=asq dH hp;have hl:=FX dH hp;have q4:=ama f.s.now (ue dH).2.1 ht hr aH;unfold mP;generalize ue dH=l at q1 q4 ⊢;have q2:=oX l.2.2;generalize kl f.s.now l.2.1=v at q4 ⊢;have q3:=oX v.2;simp only[ab9,XL,dg,cg,q1,EW,seval];cases he:l.2.2 != 0<;>simp only[he,af,aE,aD,gd] at q2 ⊢
 ·cases hv:v.2 != 0<;>simp only[hv,af,aE,aD,gd] at q3 ⊢
  ·simp only[XL,q2,q4,q3,aw,af,aD,EW,seval]
  ·simp only[XL,q2,q4,q3,hv,aE,EW,seval]
 ·simp only[XL,q2,he,aE,EW,seval]
def SI(f:aa)(o:jC)(dH:Bytes)(ht:Small f.s.now)(hr:rP f.s.now)(hp:dH.length<=100000){p:Nat}{M:aC}(hM:nth M p=some (dg f o)):aR (aq gJ) 146 [cv p,.str dH] M =
  some (if (mP f.s.now dH).2.2 != 0 then gd (mP f.s.now dH).2.2 else .tuple [aF (mP f.s.now dH).1,.str (mP f.s.now dH).2.1],M):=by
 have:=Ja hM (ap0 f o dH ht hr hp) rfl rfl (by split<;>rfl) (fun _=>rfl) (fun _=>by split<;>rfl)
 rwa[uQ hM] at this
def Ce(n:Node):Int:=if (n.data.length:Int)<(n.bc.length:Int) then (n.bc.length:Int) else (n.data.length:Int)
def ap9(n:Node):aq gJ 155 [.agg (aL n)] []=some (aF (Ce n),[]):=by
 refine aB ?_;simp only[acg,aom,bK,aL,Ce,EW,seval]
def Z4{xs:List gM}(hn:xs.length<=100000){k:List K}{R:List Bytes->Option (ag×aC)}
  (hx:∀(out:List Bytes) e,kr (aq gJ) [.tmp 2] 0 k ⟨.exit 0,(3,.slice (.own 0) (out.map ag.str))::e,[.tick 1 out.length]⟩=R out) :
  ∀(l pre:List gM)(out:List Bytes),xs=pre++l->out.length<=pre.length->eX (aq gJ) [.tmp 2] 0 k (.loop [3,6,7,8] Zu) [(3,.slice (.own 0) (out.map ag.str)),(6,jb xs),(7,aF xs.length),(8,aF pre.length)] [.tick 1 out.length]=R (out++l.map gM.name):=by
 intro l;induction l with
 |nil =>
  intro pre out h ho;rw[bF];simp only[XM,jJ h,EW,seval];exact hx _ _
 |cons n rest ih =>
  intro pre out h ho;rw[bF];have dR:pre.length+1<=100000:=by rw[h] at hn; simp at hn; omega
  have hw:=zl pre n;have hi:=ih (pre++[n]) (out++[n.name]) (by rw[h]; simp) gh
  simp only[aA,av,az,aZ,aK,aU,aJ,bV,aG,aO] at hi;have r1:cr (out.length+1) 16=True:=qI;simp only[XM,iP h,gU h,fU,r1,hw,EW,seval];exact hi
def ap8(l:List gM)(hn:l.length<=100000):aq gJ 154 [jb l] []=some (dj (l.map gM.name),[]):=by
 refine aB ?_;have hl:=Z4 hn (k:=[.block 0,.seq aho]) (R:=fun out=>some (dj out,[])) (fun out e=>by simp only[XM,EW,seval]) l [] [] rfl (au _)
 simp only[aU,az] at hl;simp only[RX,XM,EW,seval];exact hl
def afk l hn:=cP (ap8 l hn)
def afl n:=cP (ap9 n)
end
section
abbrev eI:Int->ag:=fun n => .int .i64 n
def bkI(B:Nat)(M:aC)(l:AM Int):List.map (ag.jU B M) (o9 eI l)=o9 eI l:=Yk _ _ _ (fun _=>rfl) l
attribute [local irreducible] eX fJ lj gK dY kr aq aR cp bI
def zB(ae:List Node)(dom:Int):List gM->AM Int->Option (AM Int)
 | [],m=>some m
 |e::r,m=>if (bl ae e.ar).kind==1&&(eZ m e.ar).isSome&&((eZ m e.ar).getD 0 != dom) then none else zB ae dom r (kD m e.ar dom)
def tU(ae:List Node)(l:List dU):List Node->AM Int->Bool
 | [],_=>true
 |d::r,m=>if (d.bc.length:Int)==0 then tU ae l r m else match zB ae (mf ae l d.ar) d.bc m with
  |none=>false
  |some m'=>tU ae l r m'
def sb(t:Tree)(l:List dU):Bool:=tU t.ae l t.ae []
def VF{t:Tree}(ht:Small t)(hr:rP t){ql:List dU}{d:Node}{dom i n0:Int}{k:List K}{R:Option (AM Int)->Option (ag×aC)}(hn:d.bc.length<=100000)
  (hx:∀m e,kr (aq cd) [.tmp 4] 0 k ⟨.exit 2,(1,cQ ql)::(2,cv 0)::(5,.iz 1)::(8,aF dom)::(17,ba t.ae)::(18,aF n0)::(19,aF i)::e,[cA (aM t),.map (BP m) (o9 eI m),cA (aL d)]⟩=R (some m))
  (hret:∀m b1 b2,kr (aq cd) [.tmp 4] 0 k ⟨.ret,[(4,.bool false)],[cA (aM t),.map (BP m) (o9 eI m),cA (aL d),b1,b2]⟩=R none) :
  ∀(l pre:List gM)(m:AM Int),d.bc=pre++l->eX (aq cd) [.tmp 4] 0 k (.loop [1,2,5,8,17,18,19,33,34,35] ZI) [(1,cQ ql),(2,cv 0),(5,.iz 1),(8,aF dom),(17,ba t.ae),(18,aF n0),(19,aF i),(33,jb d.bc),(34,aF d.bc.length),(35,aF pre.length)] [cA (aM t),.map (BP m) (o9 eI m),cA (aL d)] =
   R (zB t.ae dom l m):=by
 simp only[aM,aL] at hx hret ⊢;intro l;induction l with
 |nil =>
  intro pre m h;rw[bF];simp only[CX,jJ h,zB,bkI,EW,seval];exact hx _ _
 |cons e rest ih =>
  intro pre m h;rw[bF];have dR:pre.length+1<=100000:=by rw[h] at hn; simp at hn; omega
  have hw:=zl pre e;have q1:=E2 t e.ar ht hr;have hput:=sE eI m e.ar dom;have hi:=ih (pre++[e]) (kD m e.ar dom) (by rw[h]; simp)
  rw[zB];simp only[aL,aA,av,az,aJ] at q1 hi;simp only[CX,iP h,gU h,fU,q1,oZ,mapOf.eq_1,EW,seval];cases hm:eZ m e.ar with
  |none =>
   cases hk:(bl t.ae e.ar).kind==1<;>simp only[CX,hm,hk,Vo,hput,hw,mapOf.eq_1,bkI,oH,dr,dM,cI,af,aD,EW,seval]
   ·exact hi
   ·exact hi
  |some v =>
   cases hk:(bl t.ae e.ar).kind==1<;>cases hd:v != dom<;>simp only[CX,hm,hk,hd,Nj,hput,hw,mapOf.eq_1,bkI,bX,bj,dM,cI,cH,af,aE,aD,EW,seval]
   ·exact hi
   ·exact hi
   ·exact hi
   ·exact hret _ _ _
def VG{t:Tree}{dE:Int->Nat}(ht:dX t dE 0){ql:List dU}(hq:pt ql)(hql:ql.length<=100000) :
  ∀(l pre:List Node)(m:AM Int),t.ae=pre++l->eX (aq cd) [.tmp 4] 0 [.block 0,.seq NF] (.loop [1,2,5,17,18,19] Nd) [(1,cQ ql),(2,cv 0),(5,.iz 1),(17,ba t.ae),(18,aF t.ae.length),(19,aF pre.length)] [cA (aM t),.map (BP m) (o9 eI m)] =
   some (.bool (tU t.ae ql l m),[]):=by
 intro l;induction l with
 |nil =>
  intro pre m h;rw[bF];simp only[CX,jJ h,tU,aM,EW,seval]
 |cons d rest ih =>
  intro pre m h;rw[bF];have hn:=ht.ae;have dR:pre.length+1<=200:=by rw[h] at hn; simp at hn; omega
  have hw:=zl pre d;have hi:=fun m=>ih (pre++[d]) m (by rw[h]; simp)
  have hfd:find t.ae d.ar=some d:=(ij ht.lI.mj).2 ⟨by rw[h]; simp,rfl⟩
  rw[tU];simp only[aM,aA,av,az,aJ] at hi;simp only[CX,iP h,gU h,aM,aL,EW,seval];cases he:(d.bc.length:Int)==0
  ·have hk:d.kind=2:=by
    rcases ht.kind _ _ hfd with h1|h1
    ·rw[(ht.file _ _ hfd h1).1] at he; simp at he
    ·exact h1
   have q1:=asG ht hq hql hfd hk
   have hin:=VF ht.sz.Hu ht.lI (ql:=ql) (d:=d) (dom:=mf t.ae ql d.ar) (i:=pre.length) (n0:=t.ae.length) (k:=[.block 2,.block 1,.seq aaZ,.loop [1,2,5,17,18,19] 2 Nd,.block 0,.seq NF])
    (R:=fun o=>some (.bool (match o with|none=>false|some m'=>tU t.ae ql rest m'),[])) (by have:=(ht.yf _ _ hfd).2; omega)
    (fun m e=>by
     have:=hi m;simp only[aM,aL,CX,hw,bkI,EW,seval];exact this)
    (fun m b1 b2=>by simp only[aM,aL,CX,EW,seval]) d.bc [] m rfl
   simp only[aM,aL,az] at hin;simp only[CX,he,q1,af,aD,EW,seval];refine hin.trans ?_;rfl
  ·simp only[CX,he,hw,aE,bkI,EW,seval];exact hi m
def aqF(t:Tree)(l:List dU)(ht:Rt t)(hq:pt l)(hl:l.length<=100000):aq cd 192 [br t,cQ l] []=some (.bool (sb t l),[]):=by
 obtain⟨dE,ht⟩:=ht;refine aB ?_;have h:=VG ht hq hl t.ae [] [] rfl;simp only[aM,az] at h;simp only[acz,CX,br,aM,EW,seval];exact h
def asu(t:Tree)(l:List dU)(ht:Rt t)(hq:pt l)(hl:l.length<=100000)(M:aC):aR (aq cd) 192 [.agg [ba t.ae,aF t.next,aF t.ak],cQ l] M=some (.bool (sb t l),M):=cO (aqF t l ht hq hl) M
end
section
def Gf{args:List ag}{M:aC}{x:ag×aC}(h:B8 args M=some x):aq gJ 188 args M=some x:=fg (T:=gJ) (g:=B8) rfl h
def anl(xs:List ag)(z:Tree)(W:cL):jX [W,cA (aM z),.arr 3 0 xs] (iy [2,1]) [2,1]=some [.arr 3 0 xs,cA (aM z)]:=rfl
def ahj(z:Tree)(W:cL):jX [W,cA (aM z)] (iy [1]) [1]=some [cA (aM z)]:=rfl
attribute [local irreducible] eX fJ lj gK dY kr aq aR cp bI
def ame(z:Tree)(W:cL):aR (aq gJ) 188 [gA [],.func 190 [cv 1]] [W,cA (aM z)]=some (gA [],[W,cA (aM z)]) :=
 kZ (ids:=[1]) rfl rfl (ahj z W) rfl rfl (Gf (PX z)) rfl rfl rfl rfl rfl
def ass(xs:List dU)(z:Tree)(hz:Rt z)(hn:xs.length<=100000)(h0:xs≠[])(W:cL):∃b,Still b/\aR (aq gJ) 188 [.cB 2 0 3 0 xs.length,.func 190 [cv 1]] [W,cA (aM z),.arr 3 0 (xs.map gz)] =
  some (cQ (nP z xs),[W,cA (aM z),b]):=by
 obtain⟨b,hb,h⟩:=Wr xs z hz hn h0;refine⟨b,hb,kZ (ids:=[2,1]) rfl rfl (anl _ z W) rfl rfl (Gf h) rfl rfl ?_ rfl ?_⟩
 ·simp only[kG,hb.2.1]; rfl
 ·simp only[ma,hb.2.2]; rfl
def rq(l:List fE):List Int->Tree->Tree
 | [],t=>t
 |i::r,t=>rq l r (if !pN l i then (kC t i).1 else t)
def AQ(l:List fE):∀(r:List Int)(t:Tree),Rt t->Rt (rq l r t)
 | [],t,h=>h
 |i::r,t,h=>by
  rw[rq];refine AQ l r _ ?_;split
  ·exact h.free i
  ·exact h
def Vx{f:aa}{o:jC}{q:List dU}(hh:f.holds.length<=100000){xs:List Int}(hn:xs.length<=100000){fin:Tree}{k:List K}{r:Option (ag×aC)}
  (hx:∀e,kr (aq gJ) [] 1 k ⟨.exit 0,(0,cv 0)::(2,cQ q)::(4,cv 1)::e,[dg f o,cA (aM fin)]⟩=r) :
  ∀(l pre:List Int)(t:Tree),xs=pre++l->Rt t->rq f.holds l t=fin->eX (aq gJ) [] 1 k (.loop [0,2,4,13,14,15] Zt) [(0,cv 0),(2,cQ q),(4,cv 1),(13,tV xs),(14,aF xs.length),(15,aF pre.length)] [dg f o,cA (aM t)]=r:=by
 simp only[dg,cg,aM] at hx ⊢;intro l;induction l with
 |nil =>
  intro pre t h ht hfin;rw[bF];rw[rq] at hfin;subst hfin;simp only[te,jJ h,EW,seval];exact hx _
 |cons i rest ih =>
  intro pre t h ht hfin;rw[bF];have dR:pre.length+1<=100000:=by rw[h] at hn; simp at hn; omega
  have hw:=zl pre i;rw[rq] at hfin;have hi1:=ih (pre++[i]) t (by rw[h]; simp) ht
  have hi2:=ih (pre++[i]) (kC t i).1 (by rw[h]; simp) (ht.free i)
  have q1:∀M,nth M 2=some (cA [aF i])->aR (aq gJ) 185 [fI f.holds,.func 186 [cv 2]] M=some (.bool (pN f.holds i),M):=fun M hM=>lS (zu hM (akw f.holds i hh) rfl rfl rfl)
  have q2:=fun M=>lS (amd t i ht.small ht.lI M)
  simp only[aM,aA,av,az,aJ] at hi1 hi2 q2;simp only[te,iP h,gU h,q1,EW,seval];cases he:pN f.holds i<;>rw[he] at hfin
  ·simp only[dC,aE] at hfin;have:=hi2 hfin;simp only[te,he,q2,hw,EW,seval];exact this
  ·simp only[ct,af,aD] at hfin;have:=hi1 hfin;simp only[te,he,hw,EW,seval];exact this
def nj(t:Tree)(q:dU):Bool := !(decide ((lk t.ae q.ar).1<=q.ae)&&decide ((lk t.ae q.ar).2<=q.bytes))
def Px{f:aa}{o:jC}{t:Tree}(ht:Rt t){xs:List dU}(hn:xs.length<=100000){k:List K}{r:Option (ag×aC)}
  (hx:∀e,xs.any (nj t)=false->kr (aq gJ) [] 1 k ⟨.exit 2,(0,.ptr 0 0)::(2,cQ xs)::(4,.ptr 1 0)::e,[dg f o,.cells (aM t)]⟩=r)
  (hp:∀c,xs.any (nj t)=true->kr (aq gJ) [] 1 k ⟨.nD (.iface 43 (.int .i64 90)),[],[dg f o,.cells (aM t),c]⟩=r) :
  ∀(l pre:List dU),xs=pre++l->pre.any (nj t)=false->eX (aq gJ) [] 1 k (.loop [0,2,4,42,43,44] Nc) [(0,.ptr 0 0),(2,cQ xs),(4,.ptr 1 0),(42,cQ xs),(43,.int .i64 xs.length),(44,.int .i64 pre.length)] [dg f o,.cells (aM t)]=r:=by
 simp only[dg,cg,aM] at hx hp ⊢;intro l;induction l with
 |nil =>
  intro pre h hpre;rw[bF];have hany:xs.any (nj t)=false:=by rw[h,db]; exact hpre
  simp only[te,jJ h,EW,seval];exact hx _ hany
 |cons q rest ih =>
  intro pre h hpre;rw[bF];have dR:pre.length+1<=100000:=by rw[h] at hn; simp at hn; omega
  have hw:=zl pre q;have q1:=fun M=>lS (afo ht q.ar M)
  have q2:=fun bb=>Qw bb 90 rfl
  have hov:∀z,nj t q=z->(decide ((lk t.ae q.ar).1<=q.ae)&&decide ((lk t.ae q.ar).2<=q.bytes)) = !z:=fun z hz=>by rw[<-hz]; unfold nj; simp
  simp only[te,iP h,gU h,iW,q1,EW,seval];cases ho:nj t q
  ·have hi:=ih (pre++[q]) (by rw[h]; simp) (by simp[hpre,ho])
   have hv:=hov _ ho;simp only[aA,av,az,aJ] at hi;simp only[dC,bu] at hv;simp only[te,hv.1,hv.2,q2,hw,aE,EW,seval];exact hi
  ·have hany:xs.any (nj t)=true:=by rw[h]; simp[ho]
   have hv:=hov _ ho;cases h1:decide ((lk t.ae q.ar).1<=q.ae)<;>cases h2:decide ((lk t.ae q.ar).2<=q.bytes)<;>simp only[h1,h2,jM,ct] at hv
   ·simp only[te,h1,h2,q2,gd,af,aD,EW,seval];exact hp _ hany
   ·simp only[te,h1,h2,q2,gd,af,aD,EW,seval];exact hp _ hany
   ·simp only[te,h1,h2,q2,gd,af,aD,EW,seval];exact hp _ hany
   ·cases hv
def Pw{f:aa}{o:jC}{t:Tree}(ht:Rt t){xs:List dU}(hn:xs.length<=100000){b:cL}(hbb:Still b){k:List K}{r:Option (ag×aC)}
  (hx:∀e,xs.any (nj t)=false->kr (aq gJ) [] 1 k ⟨.exit 2,(0,.ptr 0 0)::(2,cQ xs)::(4,.ptr 1 0)::e,[dg f o,.cells (aM t),b]⟩=r)
  (hp:∀c,xs.any (nj t)=true->kr (aq gJ) [] 1 k ⟨.nD (.iface 43 (.int .i64 90)),[],[dg f o,.cells (aM t),b,c]⟩=r) :
  ∀(l pre:List dU),xs=pre++l->pre.any (nj t)=false->eX (aq gJ) [] 1 k (.loop [0,2,4,42,43,44] Nc) [(0,.ptr 0 0),(2,cQ xs),(4,.ptr 1 0),(42,cQ xs),(43,.int .i64 xs.length),(44,.int .i64 pre.length)] [dg f o,.cells (aM t),b]=r:=by
 simp only[dg,cg,aM] at hx hp ⊢;intro l;induction l with
 |nil =>
  intro pre h hpre;rw[bF];have hany:xs.any (nj t)=false:=by rw[h,db]; exact hpre
  simp only[te,jJ h,EW,seval];exact hx _ hany
 |cons q rest ih =>
  intro pre h hpre;rw[bF];have dR:pre.length+1<=100000:=by rw[h] at hn; simp at hn; omega
  have hw:=zl pre q;have q1:=fun M=>lS (afo ht q.ar M)
  have q2:=fun bb=>Qw bb 90 rfl
  have hov:∀z,nj t q=z->(decide ((lk t.ae q.ar).1<=q.ae)&&decide ((lk t.ae q.ar).2<=q.bytes)) = !z:=fun z hz=>by rw[<-hz]; unfold nj; simp
  simp only[te,iP h,gU h,iW,q1,EW,seval];cases ho:nj t q
  ·have hi:=ih (pre++[q]) (by rw[h]; simp) (by simp[hpre,ho])
   have hv:=hov _ ho;simp only[aA,av,az,aJ] at hi;simp only[dC,bu] at hv;simp only[te,hv.1,hv.2,q2,hw,aE,hbb.1,EW,seval];exact hi
  ·have hany:xs.any (nj t)=true:=by rw[h]; simp[ho]
   have hv:=hov _ ho;cases h1:decide ((lk t.ae q.ar).1<=q.ae)<;>cases h2:decide ((lk t.ae q.ar).2<=q.bytes)<;>simp only[h1,h2,jM,ct] at hv
   ·simp only[te,h1,h2,q2,gd,af,aD,EW,seval];exact hp _ hany
   ·simp only[te,h1,h2,q2,gd,af,aD,EW,seval];exact hp _ hany
   ·simp only[te,h1,h2,q2,gd,af,aD,EW,seval];exact hp _ hany
   ·cases hv
def jY(f:aa)(t:Tree)(q:List dU):aa×Int :=
 if !sb (rq f.holds (mM t) t) (nP (rq f.holds (mM t) t) q) then (f,91)
 else if (nP (rq f.holds (mM t) t) q).any (nj (rq f.holds (mM t) t)) then (f,90)
 else (⟨qv f.s (rq f.holds (mM t) t),f.holds,nP (rq f.holds (mM t) t) q⟩,0)
structure vf(f:aa):Prop where
 rt:Rt f.s.now
 len:f.s.since.length=f.s.now.ae.length
 eN:f.s.eN.length<=90000
 Ej:∀p,p∈f.s.eN->p.node.bc.length<=64/\p.node.data.length<=4096
 dV:f.s.dV.length<=16
 holds:uz f.holds
 dR:f.holds.length<=64
 dW:pt f.dW
 sJ:f.dW.length<=16
def al6(s:iQ)(t:Tree)(hs:rP s.now)(hz:Sz 200 s.now)(ht:rP t)(hzt:Sz 200 t)(hk:s.dV.length<=100000)(hl:s.since.length=s.now.ae.length)(hp:s.eN.length<=100000)(M:aC) :
  aR (aq cd) 158 [.agg (bL s),.agg [ba t.ae,aF t.next,aF t.ak]] M=some (.agg (bL (qv s t)),M):=cO (aqc s t hs hz ht hzt hk hl hp) M
def FV{t:Tree}{q:List dU}(h:pt q):pt (nP t q):=jO _ h
def A6(t:Tree)(q:List dU):(nP t q).length<=q.length:=bU _ _
def ap2(f:aa)(o:jC)(t:Tree)(q:List dU)(hf:vf f)(ht:Rt t)(hq:pt q)(hql:q.length<=16):aq gJ 148 [cv 0,br t,cQ q] [dg f o] =
  some (if (jY f t q).2 != 0 then gd (jY f t q).2 else .tuple [],[dg (jY f t q).1 o]):=by
 refine aB ?_;have q0:=fun M=>lS (asr t (by have:=ht.sz.ae; omega) M)
 have hor:(mM t).length<=100000:=by have:=ht.sz.ae; have h2:=bU gV t.ae; unfold mM; simp; omega
 have hl:=Vx (f:=f) (o:=o) (q:=q) (by have:=hf.dR; omega) (xs:=mM t) hor (fin:=rq f.holds (mM t) t) (k:=[.block 0,.seq aaW])
  (r:=some (if (jY f t q).2 != 0 then gd (jY f t q).2 else .tuple [],[dg (jY f t q).1 o])) ?_ (mM t) [] t rfl ht rfl
 ·simp only[dg,cg,aM,az] at hl;simp only[RV,te,dg,cg,br,aM,q0,EW,seval];exact hl
 ·intro e;have ht1:=AQ f.holds (mM t) t ht;unfold jY;generalize rq f.holds (mM t) t=t1 at ht1 ⊢;have q1:=fun M=>lS (asu t1 (nP t1 q) ht1 (FV hq) (by have:=A6 t1 q; omega) M)
  have q2:=fun bb=>Qw bb 91 rfl
  have q3:=fun M=>lS (al6 f.s t1 hf.rt.lI hf.rt.sz ht1.lI ht1.sz (by have:=hf.dV; omega) hf.len (by have:=hf.eN; omega) M)
  generalize qv f.s t1=ps at q3 ⊢;simp only[bL] at q3
  by_cases h0:q=[]
  ·have p1:=fun M=>lS' (Dz gz (f:=189) (sz:=3) (bytes:=24) rfl h0 M)
   have hk0:nP t1 q=[]:=by subst h0; rfl
   rw[hk0] at q1 ⊢;have q1:∀M,aR (aq gJ) 192 [.agg [ba t1.ae,aF t1.next,aF t1.ak],gA []] M=some (.bool (sb t1 []),M):=q1
   have p2:=ame t1 (dg f o);cases hd:sb t1 []
   ·rw[hd] at q1;simp only[dg,cg,aM,gd] at p2 ⊢;simp only[te,p1,p2,q1,q2,gd,hd,af,aE,aD,EW,seval]
   ·rw[hd] at q1
    have hlp:=Px (f:=f) (o:=o) (t:=t1) ht1 (xs:=[]) dw (k:=[.block 2,.seq NC]) (r:=some (.tuple [],[dg ⟨ps,f.holds,[]⟩ o]))
     (fun e _=>by simp only[dg,cg,aM,te,q3,bL,EW,seval]; rfl) (fun c h=>by cases h) [] [] rfl rfl
    simp only[dg,cg,aM,gd,az] at p2 hlp ⊢;simp only[te,p1,p2,q1,q2,hd,gd,af,aE,aD,oU,aw,EW,seval];exact hlp
  ·obtain⟨b,hb,p2⟩:=ass q t1 ht1 aH h0 (dg f o);have p1:=fun M=>lS' (CI gz (f:=189) (sz:=3) (bytes:=24) rfl (fun _=>rfl) aH h0 aH M)
   have hkl:(nP t1 q).length<=100000:=by have:=A6 t1 q; omega
   generalize nP t1 q=kq at q1 p2 hkl ⊢;cases hd:sb t1 kq
   ·rw[hd] at q1;simp only[dg,cg,aM,gd] at p2 ⊢;simp only[te,p1,p2,q1,q2,gd,hd,hb.1,af,aE,aD,EW,seval]
   ·rw[hd] at q1
    have hlp:=Pw (f:=f) (o:=o) (t:=t1) ht1 (xs:=kq) hkl hb (k:=[.block 2,.seq NC]) (r:=some (if kq.any (nj t1) then gd 90 else .tuple [],[dg (if kq.any (nj t1) then f else ⟨ps,f.holds,kq⟩) o]))
     (fun e h=>by simp only[h,af,aD,dg,cg,aM,te,q3,bL,EW,seval]) (fun c h=>by simp only[h,aE,dg,cg,aM,te,gd,EW,seval]) kq [] rfl rfl
    simp only[dg,cg,aM,gd,az] at p2 hlp ⊢;simp only[te,p1,p2,q1,q2,hd,gd,af,aE,aD,EW,seval];refine hlp.trans ?_;cases kq.any (nj t1)<;>rfl
end
section
attribute [local irreducible] eX fJ lj gK dY kr aq aR cp bI
structure sg(o:jC):Prop where
 dH:o.dH.length<=90000
 u9:o.u9.length<=90000
 data:o.data.length<=90000
def dX.XC{t:Tree}{dE:Int->Nat}(h:dX t dE 0)(to:Int)(nm:Bytes):∀e,gv (gY t.ae to).1.bc nm=some e->(bl t.ae e.ar).ar≠to:=by
 intro e he;unfold gY at he;split at he
 ·cases he
 ·rename_i n hn;split at he
  ·have hem:=(jW he).1;obtain⟨_,_,_,_,m,hm,_⟩:=h.Cu _ _ e hn hem;simp only[bl,hm,bj,(cG hm).2];exact h.w9 hn hem
  ·cases he
def Pk(f:aa)(o:jC)(t:Tree)(q:List dU)(hf:vf f)(ht:Rt t)(hq:pt q)(hql:q.length<=16){p:Nat}{M:aC}(hM:nth M p=some (dg f o)):aR (aq gJ) 148 [cv p,.agg [ba t.ae,aF t.next,aF t.ak],cQ q] M =
  some (if (jY f t q).2 != 0 then gd (jY f t q).2 else .tuple [],iT M p (dg (jY f t q).1 o)) :=
 Ja hM (ap2 f o t q hf ht hq hql) rfl rfl (by split<;>rfl) (fun _=>rfl) (fun _=>by split<;>rfl)
def ar8(t:Tree)(ht:Rt t)(dir:Int)(s:Bytes)(kind:Int)(hs:s.length<=100000)(M:aC):aR (aq gJ) 147 [.agg [ba t.ae,aF t.next,aF t.ak],aF dir,.str s,aF kind] M =
  some (.tuple [.agg [ba (rR t dir s kind).1.ae,aF (rR t dir s kind).1.next,aF (rR t dir s kind).1.ak],aF (rR t dir s kind).2.1,aF (rR t dir s kind).2.2],M):=by
 obtain⟨dE,h⟩:=ht;have:=ap1 t dir s kind (h.sz.up aH) h.lI hs trivial h.ju;rw[X3 h] at this;exact lS (cO this M)
def ar9(t:Tree)(ht:Rt t)(ar dir:Int)(s:Bytes)(hs:s.length<=100000)(M:aC):aR (aq gJ) 149 [.agg [ba t.ae,aF t.next,aF t.ak],aF ar,aF dir,.str s] M =
  some (.tuple [.agg [ba (CA t ar dir s).1.ae,aF (CA t ar dir s).1.next,aF (CA t ar dir s).1.ak],aF (CA t ar dir s).2],M):=by
 obtain⟨dE,h⟩:=ht;have:=ap3 t ar dir s (h.sz.up aH) h.lI hs trivial;rw[agV h] at this;exact lS (cO this M)
def asa(t:Tree)(ht:Rt t)(dir:Int)(s:Bytes)(hs:s.length<=100000)(M:aC):aR (aq gJ) 150 [.agg [ba t.ae,aF t.next,aF t.ak],aF dir,.str s] M =
  some (.tuple [.agg [ba (BC t dir s).1.ae,aF (BC t dir s).1.next,aF (BC t dir s).1.ak],aF (BC t dir s).2.1,aF (BC t dir s).2.2],M):=by
 obtain⟨dE,h⟩:=ht;have:=ap4 t dir s (h.sz.up aH) h.lI hs trivial;rw[ahP h] at this;exact lS (cO this M)
def asb(t:Tree)(ht:Rt t)(dir:Int)(s:Bytes)(to:Int)(nm:Bytes)(hs:s.length<=100000)(hn:nm.length<=100000)(M:aC):aR (aq gJ) 152 [.agg [ba t.ae,aF t.next,aF t.ak],aF dir,.str s,aF to,.str nm] M =
  some (.tuple [.agg [ba (wM t dir s to nm).1.ae,aF (wM t dir s to nm).1.next,aF (wM t dir s to nm).1.ak],aF (wM t dir s to nm).2.1,aF (wM t dir s to nm).2.2],M):=by
 obtain⟨dE,h⟩:=ht;have:=ap6 t dir s to nm (h.sz.up aH) h.lI hs trivial hn trivial (fun e he=>h.XC to nm e he)
 rw[ag2 h] at this;exact lS (cO this M)
def as4(t:Tree)(ht:Rt t)(ar:Int)(s:Bytes)(hs:s.length<=100000)(M:aC):aR (aq gJ) 151 [.agg [ba t.ae,aF t.next,aF t.ak],aF ar,.str s] M =
  some (.tuple [aF (fh t.ae ar s).1,aF (fh t.ae ar s).2],M):=lS (YX t.ae t.next t.ak ar s ht.small ht.lI hs trivial M)
def amt(t:Tree)(ht:Rt t)(ar:Int)(d:Bytes)(hd:d.length<=100000)(M:aC):aR (aq gJ) 225 [.agg [ba t.ae,aF t.next,aF t.ak],aF ar,c8 d] M =
  some (.tuple [.agg [ba (rO t ar d).1.ae,aF (rO t ar d).1.next,aF (rO t ar d).1.ak],aF (rO t ar d).2],M):=lS (cO (aqZ t ar d ht.small ht.lI hd) M)
def Rt.add{t:Tree}(h:Rt t)(dir:Int)(s:Bytes)(kind:Int):Rt (rR t dir s kind).1:=let ⟨_,g⟩:=h; QS g dir s kind (fun h=>h)
def Rt.ln{t:Tree}(h:Rt t)(ar dir:Int)(s:Bytes):Rt (CA t ar dir s).1:=let ⟨_,g⟩:=h; ⟨_,ZU g ar dir s (fun h=>h)⟩
def Rt.un{t:Tree}(h:Rt t)(dir:Int)(s:Bytes):Rt (BC t dir s).1:=let ⟨_,g⟩:=h; ⟨_,abh g dir s⟩
def Rt.mv{t:Tree}(h:Rt t)(dir:Int)(s:Bytes)(to:Int)(nm:Bytes):Rt (wM t dir s to nm).1:=let ⟨_,g⟩:=h; aay g dir s to nm (fun h=>h)
def Rt.put{t:Tree}(h:Rt t)(ar:Int)(d:Bytes):Rt (rO t ar d).1:=let ⟨_,g⟩:=h; ⟨_,Wy g ar d⟩
def vI(t:Tree)(s:Bytes)(hs:s.length<=100000):(mP t s).2.1.length<=1000:=by
 have:=FX s hs;unfold mP;split
 ·simp
 ·split
  ·simp
  ·simp only; omega
abbrev Wk:=aa×vN×Int
def B5(f:aa)(o:jC):Wk :=
 if (kl f.s.now o.dH).2 != 0 then (f,gw,(kl f.s.now o.dH).2)
 else (f,⟨0,(bl f.s.now.ae (kl f.s.now o.dH).1).ar,(bl f.s.now.ae (kl f.s.now o.dH).1).kind,0,0,[],[]⟩,0)
def c93(f:aa)(o:jC)(hf:vf f)(ho:sg o):pn 93 f o (B5 f o):=by
 unfold pn;refine⟨.slice .c0 [],.slice .c0 [],.inr ⟨rfl,?_⟩,.inr ⟨rfl,?_⟩,aB ?_⟩
 ·unfold B5; split<;>rfl
 ·unfold B5; split<;>rfl
 have q1:=fun {M}=>Lu f o o.dH hf.rt.small hf.rt.lI (by have:=ho.dH; omega) (p:=0) (M:=M)
 unfold B5;generalize kl f.s.now o.dH=v at q1 ⊢;simp only[dg,cg,aL] at q1;cases he:v.2 != 0
 ·simp only[he,af,aD] at q1 ⊢;simp only[ae7,E93,dg,cg,dB,q1,aw,af,aD,EW,seval]
 ·simp only[he,aE,gd] at q1 ⊢;simp only[ae7,E93,dg,cg,dB,gw,q1,he,aE,gd,EW,seval]
def B6(f:aa)(o:jC):Wk :=
 let v:=mP f.s.now o.dH
 let w:=rR f.s.now v.1 v.2.1 o.n
 let r:=jY f w.1 f.dW
 if v.2.2 != 0 then (f,gw,v.2.2)
 else if w.2.2 != 0 then (f,gw,w.2.2)
 else if r.2 != 0 then (r.1,gw,r.2)
 else (r.1,⟨0,w.2.1,o.n,0,0,[],[]⟩,0)
def c94(f:aa)(o:jC)(hf:vf f)(ho:sg o):pn 94 f o (B6 f o):=by
 unfold pn;refine⟨.slice .c0 [],.slice .c0 [],.inr ⟨rfl,?_⟩,.inr ⟨rfl,?_⟩,aB ?_⟩
 ·unfold B6; simp only[]; split<;>(try split)<;>(try split)<;>rfl
 ·unfold B6; simp only[]; split<;>(try split)<;>(try split)<;>rfl
 have hp:o.dH.length<=100000:=by have:=ho.dH; omega
 have q1:=fun {M}=>SI f o o.dH hf.rt.small hf.rt.lI hp (p:=0) (M:=M)
 have hl:=vI f.s.now o.dH hp;unfold B6;simp only[];generalize mP f.s.now o.dH=v at q1 hl ⊢;have q2:=ar8 f.s.now hf.rt v.1 v.2.1 o.n aH;have hr:=hf.rt.add v.1 v.2.1 o.n;generalize rR f.s.now v.1 v.2.1 o.n=w at q2 hr ⊢;have q3:=oX w.2.2;have q4:=fun {M}=>Pk f o w.1 f.dW hf hr hf.dW hf.sJ (p:=0) (M:=M)
 generalize jY f w.1 f.dW=r at q4 ⊢;simp only[dg,cg] at q1 q4;cases he:v.2.2 != 0
 ·simp only[he,af,aD] at q1 ⊢;cases hw:w.2.2 != 0
  ·simp only[hw,af,aD] at q3 ⊢;cases hs:r.2 != 0
   ·simp only[hs,af,aD] at q4 ⊢;simp only[Sg,E94,dg,cg,dB,q1,q2,q3,q4,aw,af,aD,EW,seval]
   ·simp only[hs,aE,gd] at q4 ⊢;simp only[Sg,E94,dg,cg,dB,gw,q1,q2,q3,q4,hs,aE,EW,seval]
  ·simp only[hw,aE,gd] at q3 ⊢;simp only[Sg,E94,dg,cg,dB,gw,q1,q2,q3,hw,aE,EW,seval]
 ·simp only[he,aE,gd] at q1 ⊢;simp only[Sg,E94,dg,cg,dB,gw,q1,he,aE,EW,seval]
def as5(t:Tree)(ht:Rt t)(l:List fE)(c h ar:Int)(hl:uz l)(hn:l.length<=64)(M:aC):aR (aq gJ) 156 [.agg [ba t.ae,aF t.next,aF t.ak],fI l,aF c,aF h,aF ar] M=some (.tuple [fI (vD t l c h ar).1,aF (vD t l c h ar).2],M):=lS (ase t l c h _ ht.small ht.lI hl hn M)
def as6(t:Tree)(ht:Rt t)(l:List fE)(c h:Int)(hn:l.length<=64)(M:aC):aR (aq gJ) 157 [.agg [ba t.ae,aF t.next,aF t.ak],fI l,aF c,aF h] M=some (.tuple [.agg (aM (nw t l c h).1),fI (nw t l c h).2.1,aF (nw t l c h).2.2],M):=lS (al5 t l c h ht.small ht.lI hn M)
def asg(t:Tree)(l:List dU)(ar ae bytes:Int)(ht:Rt t)(hq:pt l)(hn:l.length<=16)(M:aC):aR (aq gJ) 162 [.agg [ba t.ae,aF t.next,aF t.ak],cQ l,aF ar,aF ae,aF bytes] M=some (.tuple [cQ (u7 t l ar ae bytes).1,aF (u7 t l ar ae bytes).2],M) :=
 lS (cO (aqf t l _ _ _ ht hq hn) M)
def amu(f:aa)(hf:vf f)(t:Tree)(ht:Rt t)(M:aC):aR (aq gJ) 158 [.agg (bL f.s),.agg [ba t.ae,aF t.next,aF t.ak]] M=some (.agg (bL (qv f.s t)),M) :=
 lS (al6 _ t hf.rt.lI hf.rt.sz ht.lI ht.sz (by have:=hf.dV; omega) hf.len (by have:=hf.eN; omega) M)
theorem Rt.gone{t:Tree}(h:Rt t)(c:Int):∀(l k:List fE),Rt (sP c l t k).1:=by
 intro l;induction l generalizing t with
 |nil=>intro k; exact h
 |cons x r ih =>
  intro k;rw[sP];split
  ·exact ih (h.close _ _ _) _
  grind
theorem M7{α:Type}{lt:α->Bool}{R:α->α->Prop}{l:List α}{b:Nat}(h:l.Pairwise R)(hl:Xz lt l b){x:α}(h1:∀y,y∈l->lt y=true->R y x)(h2:∀y,y∈l->lt y=false->R x y)(ht:∀a b c,R a b->R b c->R a c):(l.take b++x::l.drop b).Pairwise R:=by
 have hT:∀y,y∈l.take b->R y x:=by
  intro y hy;obtain⟨i,hi⟩:=bZ hy;rw[fz] at hi;split at hi
  ·rename_i hib;exact h1 y (aI hi) ((hl.lt i y hi).2 hib)
  grind
 have hD:∀y,y∈l.drop b->R x y:=by
  intro y hy;obtain⟨i,hi⟩:=bZ hy;rw[cC] at hi;refine h2 y (aI hi) ?_;cases he:lt y
  ·rfl
  ·have:=(hl.lt _ y hi).1 he; omega
 grind [List.pairwise_cons]
theorem Gl{t:Tree}{l:List dU}(hq:pt l)(hn:l.length<=16)(ar ae bytes:Int):pt (u7 t l ar ae bytes).1/\(u7 t l ar ae bytes).1.length<=16:=by
 have hlow:=x4 hq ar;have hat:=QW (key:=dU.ar) hq ar;have e1:XE dU.ar l ar=FT l ar:=rfl;have e2:wH dU.ar l ar=wI l ar:=rfl;rw[e1,e2] at hat;unfold u7;split
 ·exact⟨hq,hn⟩
 split
 ·exact⟨hq,hn⟩
 split
 ·grind
 split
 ·exact⟨hq,hn⟩
 split
 ·rename_i hi;rcases hat with ⟨_,n,h2,h3,_⟩|⟨h1,_⟩
  ·refine⟨?_,by simpa using hn⟩
   have hm:((l.set (wI l ar) ⟨ar,ae,bytes⟩).map dU.ar)=l.map dU.ar:=by
    rw[gH];have cJ:=(aj.1 h2).1;refine cE fun i=>?_
    rw[fL]
    grind
   have:((l.set (wI l ar) ⟨ar,ae,bytes⟩).map dU.ar).Pairwise (· < ·):=by rw[hm]; exact jR.2 hq
   exact jR.1 this
  ·rw[hi] at h1; cases h1
 split
 ·exact⟨hq,hn⟩
 ·rename_i hi dR
  have hne:∀y,y∈l->y.ar≠ar:=by
   grind
  simp only[pZ,bh] at dR;refine⟨M7 hq hlow (fun y hy h=>?_) (fun y hy h=>?_) (fun a b c h1 h2=>Int.lt_trans h1 h2),by simp; have:=hlow.le; omega⟩
  ·simp only[bh,xQ] at h; exact h
  ·simp only[dA,xQ] at h; have:=hne y hy; simp only; omega
def B4(f:aa)(o:jC):Wk :=
 let v:=kl f.s.now o.dH
 let n:=bl f.s.now.ae v.1
 let s:=mP f.s.now o.u9
 let w:=CA f.s.now n.ar s.1 s.2.1
 let r:=jY f w.1 f.dW
 if v.2 != 0 then (f,gw,v.2) else
 if s.2.2 != 0 then (f,gw,s.2.2) else
 if w.2 != 0 then (f,gw,w.2) else
 if r.2 != 0 then (r.1,gw,r.2) else
 (r.1,⟨0,n.ar,0,0,0,[],[]⟩,0)
def c95(f:aa)(o:jC)(hf:vf f)(ho:sg o):pn 95 f o (B4 f o):=by
 unfold pn;have hp:o.dH.length<=100000:=by have:=ho.dH; omega
 have hto:o.u9.length<=100000:=by have:=ho.u9; omega
 refine⟨.slice .c0 [],.slice .c0 [],.inr ⟨rfl,?_⟩,.inr ⟨rfl,?_⟩,aB ?_⟩
 ·unfold B4; simp only[]; split<;>(try split)<;>(try split)<;>(try split)<;>rfl
 ·unfold B4; simp only[]; split<;>(try split)<;>(try split)<;>(try split)<;>rfl
 unfold B4;simp only[];have q1:=fun {M}=>Lu f o o.dH hf.rt.small hf.rt.lI hp (p:=0) (M:=M)
 generalize kl f.s.now o.dH=v at q1 ⊢;have q1:=@q1;generalize bl f.s.now.ae v.1=n at q1 ⊢;have hl:=vI f.s.now o.u9 hto;have q2:=fun {M}=>SI f o o.u9 hf.rt.small hf.rt.lI hto (p:=0) (M:=M)
 have hl:=hl;generalize mP f.s.now o.u9=s at q2 hl ⊢;have q3:=ar9 f.s.now hf.rt n.ar s.1 s.2.1 aH;have hr:=hf.rt.ln n.ar s.1 s.2.1;generalize CA f.s.now n.ar s.1 s.2.1=w at q3 hr ⊢;have q5:=fun {M}=>Pk f o w.1 f.dW hf hr hf.dW hf.sJ (p:=0) (M:=M)
 generalize jY f w.1 f.dW=r at q5 ⊢;simp only[dg,cg,aL] at q1 q2 q3 q5;cases h0:v.2 != 0
 ·cases h1:s.2.2 != 0
  ·cases h2:w.2 != 0
   ·cases h3:r.2 != 0
    ·simp only[O6,E95,cg,dB,q1,q2,q3,q5,h0,h1,h2,h3,oX,aw,af,EW,seval]
    ·simp only[O6,E95,cg,dB,gw,q1,q2,q3,q5,h0,h1,h2,h3,gd,oX,af,EW,seval]
   ·simp only[O6,E95,cg,dB,gw,q1,q2,q3,h0,h1,h2,gd,oX,af,EW,seval]
  ·simp only[O6,E95,cg,dB,gw,q1,q2,h0,h1,gd,af,EW,seval]
 simp_all [O6,E95,dg,cg,dB,gw,gd,EW]
def uR(f:aa)(o:jC):Wk :=
 let s:=mP f.s.now o.dH
 let w:=BC f.s.now s.1 s.2.1
 let r:=jY f w.1 f.dW
 if s.2.2 != 0 then (f,gw,s.2.2) else
 if w.2.2 != 0 then (f,gw,w.2.2) else
 if r.2 != 0 then (r.1,gw,r.2) else
 (r.1,⟨0,w.2.1,0,0,0,[],[]⟩,0)
def c96(f:aa)(o:jC)(hf:vf f)(ho:sg o):pn 96 f o (uR f o):=by
 unfold pn;have hp:o.dH.length<=100000:=by have:=ho.dH; omega
 have hto:o.u9.length<=100000:=by have:=ho.u9; omega
 refine⟨.slice .c0 [],.slice .c0 [],.inr ⟨rfl,?_⟩,.inr ⟨rfl,?_⟩,aB ?_⟩
 ·unfold uR; simp only[]; split<;>(try split)<;>(try split)<;>rfl
 ·unfold uR; simp only[]; split<;>(try split)<;>(try split)<;>rfl
 unfold uR;simp only[];have hl:=vI f.s.now o.dH hp;have q2:=fun {M}=>SI f o o.dH hf.rt.small hf.rt.lI hp (p:=0) (M:=M)
 have hl:=hl;generalize mP f.s.now o.dH=s at q2 hl ⊢;have q3:=asa f.s.now hf.rt s.1 s.2.1 aH;have hr:=hf.rt.un s.1 s.2.1;generalize BC f.s.now s.1 s.2.1=w at q3 hr ⊢;have q5:=fun {M}=>Pk f o w.1 f.dW hf hr hf.dW hf.sJ (p:=0) (M:=M)
 generalize jY f w.1 f.dW=r at q5 ⊢;simp only[dg,cg] at q2 q3 q5;cases h0:s.2.2 != 0
 ·cases h1:w.2.2 != 0
  ·cases h2:r.2 != 0
   ·simp only[Sh,E96,cg,dB,q2,q3,q5,h0,h1,h2,oX,aw,af,EW,seval]
   ·simp only[Sh,E96,cg,dB,gw,q2,q3,q5,h0,h1,h2,gd,oX,af,EW,seval]
  ·simp only[Sh,E96,cg,dB,gw,q2,q3,h0,h1,gd,oX,af,EW,seval]
 simp_all [Sh,E96,cg,dB,gw,gd,EW]
def uO(f:aa)(o:jC):Wk :=
 let s:=mP f.s.now o.dH
 let u:=mP f.s.now o.u9
 let l:=fh f.s.now.ae s.1 s.2.1
 let w:=wM f.s.now s.1 s.2.1 u.1 u.2.1
 let r:=jY f w.1 f.dW
 if s.2.2 != 0 then (f,gw,s.2.2) else
 if u.2.2 != 0 then (f,gw,u.2.2) else
 if l.2 != 0 then (f,gw,l.2) else
 if w.2.2 != 0 then (f,gw,w.2.2) else
 if r.2 != 0 then (r.1,gw,r.2) else
 (r.1,⟨0,l.1,0,0,0,[],[]⟩,0)
def c97(f:aa)(o:jC)(hf:vf f)(ho:sg o):pn 97 f o (uO f o):=by
 unfold pn;have hp:o.dH.length<=100000:=by have:=ho.dH; omega
 have hto:o.u9.length<=100000:=by have:=ho.u9; omega
 refine⟨.slice .c0 [],.slice .c0 [],.inr ⟨rfl,?_⟩,.inr ⟨rfl,?_⟩,aB ?_⟩
 ·unfold uO; simp only[]; split<;>(try split)<;>(try split)<;>(try split)<;>(try split)<;>rfl
 ·unfold uO; simp only[]; split<;>(try split)<;>(try split)<;>(try split)<;>(try split)<;>rfl
 unfold uO;simp only[];have hl:=vI f.s.now o.dH hp;have q1:=fun {M}=>SI f o o.dH hf.rt.small hf.rt.lI hp (p:=0) (M:=M)
 have hl:=hl;generalize mP f.s.now o.dH=s at q1 hl ⊢;have hl2:=vI f.s.now o.u9 hto;have q2:=fun {M}=>SI f o o.u9 hf.rt.small hf.rt.lI hto (p:=0) (M:=M)
 have hl2:=hl2;generalize mP f.s.now o.u9=u at q2 hl2 ⊢;have q3:=as4 f.s.now hf.rt s.1 s.2.1 aH;generalize fh f.s.now.ae s.1 s.2.1=l at q3 ⊢;have q4:=asb f.s.now hf.rt s.1 s.2.1 u.1 u.2.1 aH aH;have hr:=hf.rt.mv s.1 s.2.1 u.1 u.2.1;generalize wM f.s.now s.1 s.2.1 u.1 u.2.1=w at q4 hr ⊢;have q5:=fun {M}=>Pk f o w.1 f.dW hf hr hf.dW hf.sJ (p:=0) (M:=M)
 generalize jY f w.1 f.dW=r at q5 ⊢;simp only[dg,cg] at q1 q2 q3 q4 q5;cases h0:s.2.2 != 0
 ·cases h1:u.2.2 != 0
  ·cases h2:l.2 != 0
   ·cases h3:w.2.2 != 0
    ·cases h4:r.2 != 0
     ·simp only[Lm,E97,cg,dB,q1,q2,q3,q4,q5,h0,h1,h2,h3,h4,oX,aw,af,EW,seval]
     ·simp only[Lm,E97,cg,dB,gw,q1,q2,q3,q4,q5,h0,h1,h2,h3,h4,gd,oX,af,EW,seval]
    ·simp only[Lm,E97,cg,dB,gw,q1,q2,q3,q4,h0,h1,h2,h3,gd,oX,af,EW,seval]
   ·simp only[Lm,E97,cg,dB,gw,q1,q2,q3,h0,h1,h2,gd,oX,af,EW,seval]
  ·simp only[Lm,E97,cg,dB,gw,q1,q2,h0,h1,gd,af,EW,seval]
 simp_all [Lm,E97,cg,dB,gw,gd,EW]
def Ch(f:aa)(o:jC):Wk :=
 let v:=kl f.s.now o.dH
 let n:=bl f.s.now.ae v.1
 if v.2 != 0 then (f,gw,v.2) else
 (f,⟨0,n.ar,n.kind,n.ep,Ce n,[],[]⟩,0)
def c99(f:aa)(o:jC)(hf:vf f)(ho:sg o):pn 99 f o (Ch f o):=by
 unfold pn;have hp:o.dH.length<=100000:=by have:=ho.dH; omega
 refine⟨.slice .c0 [],.slice .c0 [],.inr ⟨rfl,?_⟩,.inr ⟨rfl,?_⟩,aB ?_⟩
 ·unfold Ch; simp only[]; split<;>rfl
 ·unfold Ch; simp only[]; split<;>rfl
 unfold Ch;simp only[];have q1:=fun {M}=>Lu f o o.dH hf.rt.small hf.rt.lI hp (p:=0) (M:=M)
 generalize kl f.s.now o.dH=v at q1 ⊢;have q1:=@q1;generalize bl f.s.now.ae v.1=n at q1 ⊢;have q2:=fun M=>afl n M
 simp only[dg,cg,aL] at q1 q2;cases h0:v.2 != 0
 ·simp only[ae8,E99,cg,dB,q1,q2,h0,aw,af,EW,seval]
 simp_all [ae8,E99,dg,cg,dB,gw,gd,EW]
def B7(f:aa)(o:jC):Wk :=
 let v:=kl f.s.now o.dH
 let n:=bl f.s.now.ae v.1
 let w:=vD f.s.now f.holds o.bC o.handle n.ar
 if v.2 != 0 then (f,gw,v.2) else
 if w.2 != 0 then (f,gw,w.2) else
 (⟨f.s,w.1,f.dW⟩,⟨0,n.ar,0,0,0,[],[]⟩,0)
def apn(f:aa)(o:jC)(hf:vf f)(ho:sg o):pn 100 f o (B7 f o):=by
 unfold pn;have hp:o.dH.length<=100000:=by have:=ho.dH; omega
 have hto:o.u9.length<=100000:=by have:=ho.u9; omega
 refine⟨.slice .c0 [],.slice .c0 [],.inr ⟨rfl,?_⟩,.inr ⟨rfl,?_⟩,aB ?_⟩
 ·unfold B7; simp only[]; split<;>(try split)<;>rfl
 ·unfold B7; simp only[]; split<;>(try split)<;>rfl
 unfold B7;simp only[];have q1:=fun {M}=>Lu f o o.dH hf.rt.small hf.rt.lI hp (p:=0) (M:=M)
 generalize kl f.s.now o.dH=v at q1 ⊢;have q1:=@q1;generalize bl f.s.now.ae v.1=n at q1 ⊢;have q2:=as5 f.s.now hf.rt f.holds o.bC o.handle n.ar hf.holds hf.dR;generalize vD f.s.now f.holds o.bC o.handle n.ar=w at q2 ⊢;simp only[dg,cg,aL] at q1 q2;cases h0:v.2 != 0
 ·cases h1:w.2 != 0
  ·simp only[MG,adJ,cg,dB,q1,q2,h0,h1,oX,aw,af,EW,seval]
  ·simp only[MG,adJ,cg,dB,gw,q1,q2,h0,h1,gd,oX,af,EW,seval]
 simp_all [MG,adJ,dg,cg,dB,gw,gd,EW]
def w6(f:aa)(o:jC):Wk :=
 let w:=nw f.s.now f.holds o.bC o.handle
 let p:=qv f.s w.1
 if w.2.2 != 0 then (f,gw,w.2.2) else
 (⟨p,w.2.1,f.dW⟩,gw,0)
def apo(f:aa)(o:jC)(hf:vf f)(ho:sg o):pn 101 f o (w6 f o):=by
 unfold pn;have hp:o.dH.length<=100000:=by have:=ho.dH; omega
 have hto:o.u9.length<=100000:=by have:=ho.u9; omega
 refine⟨.slice .c0 [],.slice .c0 [],.inr ⟨rfl,?_⟩,.inr ⟨rfl,?_⟩,aB ?_⟩
 ·unfold w6; simp only[]; split<;>rfl
 ·unfold w6; simp only[]; split<;>rfl
 unfold w6;simp only[];have q2:=as6 f.s.now hf.rt f.holds o.bC o.handle hf.dR;have hr:=hf.rt.close f.holds o.bC o.handle;generalize nw f.s.now f.holds o.bC o.handle=w at q2 hr ⊢;have q3:=amu f hf w.1 hr;generalize qv f.s w.1=p at q3 ⊢;simp only[bL,aM] at q2 q3;cases h0:w.2.2 != 0
 ·simp only[RN,ah2,cg,dB,gw,q2,q3,h0,oX,aw,af,EW,seval]
 ·simp only[RN,ah2,cg,dB,gw,q2,h0,gd,oX,EW,seval]
def xe(f:aa)(o:jC):Wk :=
 let v:=kl f.s.now o.dH
 let n:=bl f.s.now.ae v.1
 let w:=u7 f.s.now f.dW n.ar o.n o.m
 let r:=jY f f.s.now w.1
 if v.2 != 0 then (f,gw,v.2) else
 if w.2 != 0 then (f,gw,w.2) else
 if r.2 != 0 then (r.1,gw,r.2) else
 (r.1,⟨0,n.ar,0,0,0,[],[]⟩,0)
def apt(f:aa)(o:jC)(hf:vf f)(ho:sg o):pn 105 f o (xe f o):=by
 unfold pn;have hp:o.dH.length<=100000:=by have:=ho.dH; omega
 have hto:o.u9.length<=100000:=by have:=ho.u9; omega
 refine⟨.slice .c0 [],.slice .c0 [],.inr ⟨rfl,?_⟩,.inr ⟨rfl,?_⟩,aB ?_⟩
 ·unfold xe; simp only[]; split<;>(try split)<;>(try split)<;>rfl
 ·unfold xe; simp only[]; split<;>(try split)<;>(try split)<;>rfl
 unfold xe;simp only[];have q1:=fun {M}=>Lu f o o.dH hf.rt.small hf.rt.lI hp (p:=0) (M:=M)
 generalize kl f.s.now o.dH=v at q1 ⊢;have q1:=@q1;generalize bl f.s.now.ae v.1=n at q1 ⊢;have q2:=asg f.s.now f.dW n.ar o.n o.m hf.rt hf.dW hf.sJ;have hr:=Gl (t:=f.s.now) hf.dW hf.sJ n.ar o.n o.m;generalize u7 f.s.now f.dW n.ar o.n o.m=w at q2 hr ⊢;have q5:=fun {M}=>Pk f o f.s.now w.1 hf hf.rt hr.1 hr.2 (p:=0) (M:=M)
 generalize jY f f.s.now w.1=r at q5 ⊢;simp only[dg,cg,aL] at q1 q2 q5;cases h0:v.2 != 0
 ·cases h1:w.2 != 0
  ·cases h2:r.2 != 0
   ·simp only[II,XI,cg,dB,q1,q2,q5,h0,h1,h2,oX,aw,af,EW,seval]
   ·simp only[II,XI,cg,dB,gw,q1,q2,q5,h0,h1,h2,gd,oX,af,EW,seval]
  ·simp only[II,XI,cg,dB,gw,q1,q2,h0,h1,gd,oX,af,EW,seval]
 simp_all [II,XI,dg,cg,dB,gw,gd,EW]
def Cj(f:aa)(o:jC):Wk :=
 let v:=kl f.s.now o.dH
 let n:=bl f.s.now.ae v.1
 let w:=takeN f.s n.ar
 if v.2 != 0 then (f,gw,v.2) else
 if w.2.2 != 0 then (f,gw,w.2.2) else
 (⟨w.1,f.holds,f.dW⟩,⟨0,0,0,w.2.1,0,[],[]⟩,0)
def apu(f:aa)(o:jC)(hf:vf f)(ho:sg o):pn 106 f o (Cj f o):=by
 unfold pn;have hp:o.dH.length<=100000:=by have:=ho.dH; omega
 have hto:o.u9.length<=100000:=by have:=ho.u9; omega
 refine⟨.slice .c0 [],.slice .c0 [],.inr ⟨rfl,?_⟩,.inr ⟨rfl,?_⟩,aB ?_⟩
 ·unfold Cj; simp only[]; split<;>(try split)<;>rfl
 ·unfold Cj; simp only[]; split<;>(try split)<;>rfl
 unfold Cj;simp only[];have q1:=fun {M}=>Lu f o o.dH hf.rt.small hf.rt.lI hp (p:=0) (M:=M)
 generalize kl f.s.now o.dH=v at q1 ⊢;have q1:=@q1;generalize bl f.s.now.ae v.1=n at q1 ⊢;have q2:=fun M=>lS (ash f.s n.ar hf.rt.small hf.rt.lI hf.dV M)
 generalize takeN f.s n.ar=w at q2 ⊢;simp only[dg,cg,aL,bL,aM] at q1 q2;cases h0:v.2 != 0
 ·cases h1:w.2.2 != 0
  ·simp only[MI,adL,dg,cg,dB,gw,q1,q2,h0,h1,oX,aw,af,aE,aD,EW,seval]
  ·simp only[MI,adL,dg,cg,dB,gw,q1,q2,h0,h1,gd,oX,aw,af,aE,aD,EW,seval]
 ·simp only[MI,adL,dg,cg,dB,gw,q1,q2,h0,gd,oX,aw,af,aE,aD,EW,seval]
def BN(f:aa)(o:jC):Wk :=
 let w:=rn f.s o.n
 if w.2 != 0 then (f,gw,w.2) else
 (⟨w.1,f.holds,f.dW⟩,gw,0)
def apw(f:aa)(o:jC)(hf:vf f)(ho:sg o):pn 108 f o (BN f o):=by
 unfold pn;have hp:o.dH.length<=100000:=by have:=ho.dH; omega
 have hto:o.u9.length<=100000:=by have:=ho.u9; omega
 refine⟨.slice .c0 [],.slice .c0 [],.inr ⟨rfl,?_⟩,.inr ⟨rfl,?_⟩,aB ?_⟩
 ·unfold BN; simp only[]; split<;>rfl
 ·unfold BN; simp only[]; split<;>rfl
 unfold BN;simp only[];have q2:=fun M=>lS (asj f.s o.n (by have:=hf.dV; omega) (by have:=hf.eN; omega) M)
 generalize rn f.s o.n=w at q2 ⊢;simp only[dg,cg,aL,bL,aM] at q2;cases h0:w.2 != 0
 ·simp only[RO,ah3,dg,cg,dB,gw,q2,h0,oX,aw,af,aE,aD,EW,seval]
 ·simp only[RO,ah3,dg,cg,dB,gw,q2,h0,gd,oX,aw,af,aE,aD,EW,seval]
def AE(f:aa)(o:jC):Wk :=
 let w:=DE f.s.now f.holds o.bC
 let p:=qv f.s w.1
 (⟨p,w.2,f.dW⟩,gw,0)
def apx(f:aa)(o:jC)(hf:vf f)(ho:sg o):pn 109 f o (AE f o):=by
 unfold pn;have hp:o.dH.length<=100000:=by have:=ho.dH; omega
 have hto:o.u9.length<=100000:=by have:=ho.u9; omega
 refine⟨.slice .c0 [],.slice .c0 [],.inr ⟨rfl,?_⟩,.inr ⟨rfl,?_⟩,aB ?_⟩
 ·unfold AE; simp only[]; skip<;>rfl
 ·unfold AE; simp only[]; skip<;>rfl
 unfold AE;simp only[];have q2:=fun M=>lS (asl f.s.now f.holds o.bC hf.rt hf.dR M)
 have hr:=(show Rt (DE f.s.now f.holds o.bC).1 from hf.rt.gone o.bC _ _)
 generalize DE f.s.now f.holds o.bC=w at q2 hr ⊢;have q3:=amu f hf w.1 hr;generalize qv f.s w.1=p at q3 ⊢;simp only[dg,cg,aL,bL,aM] at q2 q3;simp only[abO,aoh,dg,cg,dB,gw,q2,q3,aw,af,aE,aD,EW,seval]
def je(f:aa)(o:jC):Node×Int :=
 if (Ls f.holds o.bC o.handle).2 != 0 then (Node.zero,(Ls f.holds o.bC o.handle).2)
 else if decide (0<=o.n) then (bl f.s.now.ae (Ls f.holds o.bC o.handle).1,0) else (Node.zero,1)
def aqd(f:aa)(o:jC)(hf:vf f):aq gJ 159 [cv 0] [dg f o]=some (if (je f o).2 != 0 then gd (je f o).2 else .agg (aL (je f o).1),[dg f o]):=by
 refine aB ?_;have q1:=fun M=>lS (asD f.holds o.bC o.handle (by have:=hf.dR; omega) M)
 have q2:=fun bb=>Qw bb 1 rfl
 unfold je;generalize Ls f.holds o.bC o.handle=v at q1 ⊢;have q3:=fun {M}=>amb f o v.1 hf.rt.small hf.rt.lI (p:=0) (M:=M)
 simp only[dg,cg,aL] at q3;cases h0:v.2 != 0
 ·cases h1:decide (0<=o.n)
  ·simp only[MQ,adW,dg,cg,aL,q1,q2,q3,oX,h0,h1,gd,aw,af,aE,aD,EW,seval]
  ·simp only[MQ,adW,dg,cg,aL,q1,q2,q3,oX,h0,h1,gd,aw,af,aE,aD,EW,seval]
 ·simp only[MQ,adW,dg,cg,aL,q1,q2,q3,oX,h0,gd,aw,af,aE,aD,EW,seval]
def afm(f:aa)(o:jC)(hf:vf f){p:Nat}{M:aC}(hM:nth M p=some (dg f o)):aR (aq gJ) 159 [cv p] M=some (if (je f o).2 != 0 then gd (je f o).2 else .agg (aL (je f o).1),M):=by
 have:=Ja (vs:=[]) hM (aqd f o hf) rfl rfl (by split<;>rfl) (fun _=>rfl) (fun _=>by split<;>rfl)
 rwa[uQ hM] at this
def ry(f:aa)(o:jC)(ar:Int)(d:Bytes):Wk :=
 let w:=rO f.s.now ar d
 let r:=jY f w.1 f.dW
 if w.2 != 0 then (f,gw,w.2) else
 if r.2 != 0 then (r.1,gw,r.2) else
 (r.1,⟨0,ar,0,0,d.length,[],[]⟩,0)
def aqe(f:aa)(o:jC)(hf:vf f)(ar:Int)(d:Bytes)(hd:d.length<=100000):aq gJ 161 [cv 0,aF ar,c8 d] [dg f o] =
  some (if (ry f o ar d).2.2 != 0 then gd (ry f o ar d).2.2 else .tuple [],[dB (ry f o ar d).1 o (ry f o ar d).2.1 (.slice .c0 []) (.slice .c0 [])]):=by
 refine aB ?_;unfold ry;simp only[];have q1:=amt f.s.now hf.rt ar d hd;have hr:=hf.rt.put ar d;generalize rO f.s.now ar d=w at q1 hr ⊢;have q5:=fun {M}=>Pk f o w.1 f.dW hf hr hf.dW hf.sJ (p:=0) (M:=M)
 generalize jY f w.1 f.dW=r at q5 ⊢;simp only[dg,cg] at q5;cases h0:w.2 != 0
 ·cases h1:r.2 != 0
  ·simp only[MR,adX,dg,cg,dB,gw,q1,q5,oX,h0,h1,aw,af,aE,aD,EW,seval]
  ·simp only[MR,adX,dg,cg,dB,gw,q1,q5,oX,h0,h1,gd,aw,af,aE,aD,EW,seval]
 ·simp only[MR,adX,dg,cg,dB,gw,q1,q5,oX,h0,gd,aw,af,aE,aD,EW,seval]
def al7(f:aa)(o:jC)(hf:vf f)(ar:Int)(d:Bytes)(hd:d.length<=100000){p:Nat}{M:aC}(hM:nth M p=some (dg f o)):aR (aq gJ) 161 [cv p,aF ar,c8 d] M =
  some (if (ry f o ar d).2.2 != 0 then gd (ry f o ar d).2.2 else .tuple [],iT M p (dB (ry f o ar d).1 o (ry f o ar d).2.1 (.slice .c0 []) (.slice .c0 []))) :=
 ti hM (aqe f o hf ar d hd) rfl rfl (by split<;>rfl) rfl (by split<;>rfl) rfl rfl rfl rfl rfl
end
section
theorem as7(d:Bytes)(hd:d.length<=100000)(M:aC):aR (aq gJ) 160 [c8 d] M=some (c8 d,M):=by
 have h:aq cd 160 [c8 d] []=some (c8 d,[]):=by
  refine fg rfl ?_
  show Jy 1 1 [c8 d] _=_
  grind [Jy,sf,cr,fi]
 exact lS (cO h M)
def Bx(X w:Bytes)(N:Nat)(h:N+w.length<=X.length):List.take X.length (List.take N (X.map qW)++(List.take w.length (w.map qW)++List.drop (N+w.length) (X.map qW)))=(X.take N++(w++X.drop (N+w.length))).map qW:=by
 rw[bB j6,bB (l:=w.map _) dw];simp
def Ka(k:Nat):List.replicate k (ag.agg [.int .u8 0]).norm=(List.replicate k (0:UInt8)).map qW:=by
 rw[gZ]; rfl
def YN(M:aC)(id ver sz lo hi:Nat):ag.rM M (.cB id ver sz lo hi)=match nth M id with
  |some (.arr _ v xs)=>if v=ver then gA ((xs.take hi).drop lo) else .any
  |_ => .any:=rfl
theorem p93{d:Bytes}(h0:d≠[])(hd:d.length<=100000)(b:cL)(M:aC):aq gJ 160 [gA (d.map qW)] (b::M)=some (.cB (M.length+1) 0 1 0 d.length,(b::M)++[.arr 1 0 (d.map qW)]):=by
 refine lS' (fg rfl ?_)
 show mN 1 1 [gA _] _=_
 obtain⟨a,r,rfl⟩:=fm h0
 grind [wid,sf,cr,mN,fi]
def anh{d:Bytes}(h0:d=[])(b:cL)(M:aC):aq gJ 160 [gA (d.map qW)] (b::M)=some (.slice .c0 [],b::M):=by
 subst h0;exact lS' (fg rfl rfl)
def Ba(a:Int)(n:Nat):Nat:=(if (n:Int)<a then (n:Int) else a).toNat
theorem zU{a:Int}(h:0<=a)(n:Nat):(if (n:Int)<a then (n:Int) else a)=(Ba a n:Int)/\Ba a n<=n:=by
 grind [Ba]
theorem CL{f:aa}{o:jC}(h:((je f o).2 != 0)=false):0<=o.n/\∃i,(je f o).1=bl f.s.now.ae i:=by
 grind [je]
def xm{f:aa}(hf:vf f)(i:Int):(bl f.s.now.ae i).data.length<=4096/\(bl f.s.now.ae i).bc.length<=64:=by
 obtain⟨dE,h⟩:=hf.rt;unfold bl;cases hi:find _ i with
 |none=>simp[Node.zero]
 |some n =>
  simp;refine⟨?_,(h.yf _ _ hi).2⟩;rcases h.kind _ _ hi with h1|h1
  ·exact(h.file _ _ hi h1).2.2
  ·rw[h.dir _ _ hi h1]; simp
attribute [local irreducible] eX fJ lj gK dY kr aq aR cp bI
def Ij(f:aa)(o:jC):Wk :=
 if (je f o).2 != 0 then (f,gw,(je f o).2)
 else ry f o (je f o).1.ar ((je f o).1.data.take (Ba o.n (je f o).1.data.length))
theorem tF(f:aa)(o:jC)(ar:Int)(d:Bytes):(ry f o ar d).2.1.names=[]/\(ry f o ar d).2.1.data=[]:=by
 unfold ry; simp only; split
 ·exact⟨rfl,rfl⟩
 ·split<;>exact⟨rfl,rfl⟩
def aps(f:aa)(o:jC)(hf:vf f)(ho:sg o):pn 104 f o (Ij f o):=by
 unfold pn;refine⟨.slice .c0 [],.slice .c0 [],.inr ⟨rfl,?_⟩,.inr ⟨rfl,?_⟩,aB ?_⟩
 ·unfold Ij; split
  ·rfl
  simp[tF]
 ·unfold Ij; split
  ·rfl
  simp[tF]
 have q1:=fun {M}=>afm f o hf (p:=0) (M:=M)
 have hn:=CL (f:=f) (o:=o);unfold Ij;cases h0:(je f o).2 != 0
 ·obtain⟨hn0,i,hi⟩:=hn h0;have hsz:=(xm hf i).1;rw[<-hi] at hsz;generalize (je f o).1=n at q1 hsz ⊢;generalize (je f o).2=e at q1 h0 ⊢;obtain⟨m1,m2⟩:=zU hn0 n.data.length;generalize Ba o.n n.data.length=mn at m1 m2 ⊢;have q2:=fun {M}=>al7 f o hf n.ar (n.data.take mn) gh (p:=0) (M:=M)
  generalize ry f o n.ar (n.data.take mn)=r at q2 ⊢;have hle:((mn:Int)<=(n.data.length:Int))=True:=gh;have hz:((0:Int)<=(mn:Int))=True:=dw;simp only[dg,cg,dB,aL,c8,eP] at q1 q2;cases h1:r.2.2 != 0
  ·simp only[MH,adK,cg,dB,q1,q2,h0,h1,m1,hle,hz,gy,af,EW,seval]
  ·simp only[MH,adK,cg,dB,q1,q2,h0,h1,m1,hle,hz,gy,gd,af,EW,seval]
 simp_all [dg,cg,MH,adK,dB,gw,gd,EW]
def Gm(f:aa)(o:jC):Wk :=
 if (je f o).2 != 0 then (f,gw,(je f o).2) else
 if !(decide (0<=o.m)&&decide (o.m<=4096)) then (f,gw,1) else
 (f,⟨0,(je f o).1.ar,0,0,0,[],((je f o).1.data.drop (Ba o.n (je f o).1.data.length)).take (Ba o.m ((je f o).1.data.length-Ba o.n (je f o).1.data.length))⟩,0)
theorem apq(f:aa)(o:jC)(hf:vf f)(ho:sg o):pn 102 f o (Gm f o):=by
 unfold pn;have q1:=fun {M}=>afm f o hf (p:=0) (M:=M)
 have hn:=CL (f:=f) (o:=o);have q2:=fun bb=>Qw bb 1 rfl
 unfold Gm;cases h0:(je f o).2 != 0
 ·obtain⟨hn0,i,hi⟩:=hn h0;have hsz:=(xm hf i).1;rw[<-hi] at hsz;generalize (je f o).1=n at q1 hsz ⊢;generalize (je f o).2=e at q1 h0 ⊢;obtain⟨m1,m2⟩:=zU hn0 n.data.length;generalize Ba o.n n.data.length=mn at m1 m2 ⊢;have hle:((mn:Int)<=(n.data.length:Int))=True:=j6;have hz:∀k:Nat,((0:Int)<=(k:Int))=True:=fun k=>dw
  have ht:List.take n.data.length (n.data.map qW)=n.data.map qW:=bB dw;have dR:(List.drop mn (n.data.map qW)).length=n.data.length-mn:=dw;cases h1:(!(decide (0<=o.m)&&decide (o.m<=4096)))
  ·have h1':decide (0<=o.m)=true/\decide (o.m<=4096)=true:=by simpa using h1
   have hm0:0<=o.m:=j6;obtain⟨p1,p2⟩:=zU hm0 (n.data.length-mn);generalize Ba o.m (n.data.length-mn)=mm at p1 p2 ⊢;have hle2:((mm:Int)<=((n.data.length-mn:Nat):Int))=True:=j6;have hw1:wid (List.drop mn (n.data.map qW)) 1=True:=by have:=sf (n.data.drop mn); rwa[jQ] at this
   have q3:=fun M=>as7 ((n.data.drop mn).take mm) j6 M
   refine⟨.slice .c0 [],c8 ((n.data.drop mn).take mm),.inr ⟨rfl,rfl⟩,.inl rfl,aB ?_⟩;simp only[dg,cg,aL,c8,eP,jQ] at q1 q3;simp only[IG,XH,cg,dB,q1,q2,q3,h0,h1'.1,h1'.2,m1,p1,hle,hle2,hz,ht,dR,hw1,gy,c8,jQ,dP,aw,af,EW,seval]
  ·refine⟨.slice .c0 [],.slice .c0 [],.inr ⟨rfl,rfl⟩,.inr ⟨rfl,rfl⟩,aB ?_⟩
   have h1':(decide (0<=o.m)&&decide (o.m<=4096))=false:=by
    grind
   simp only[dg,cg,aL,c8] at q1;cases ha:decide (0<=o.m)<;>cases hb:decide (o.m<=4096)<;>simp only[ha,hb,jM,dM,gb] at h1'
   ·grind
   ·simp only[IG,XH,cg,dB,gw,q1,q2,h0,ha,gd,af,EW,seval]
   ·simp only[IG,XH,cg,dB,gw,q1,q2,h0,ha,hb,gd,af,EW,seval]
   ·cases h1'
 ·refine⟨.slice .c0 [],.slice .c0 [],.inr ⟨rfl,rfl⟩,.inr ⟨rfl,rfl⟩,aB ?_⟩;simp_all [dg,cg,IG,XH,dB,gw,gd,af,EW]
def nU(d:Bytes)(n:Nat)(w:Bytes):Bytes :=
 if w=[] then d else (d++List.replicate (n+w.length-d.length) 0).take n++(w++(d++List.replicate (n+w.length-d.length) 0).drop (n+w.length))
def xH(f:aa)(o:jC):Wk :=
 if (je f o).2 != 0 then (f,gw,(je f o).2) else
 if !decide (o.n<=4096) then (f,gw,1) else
 if !decide (((o.n.toNat+o.data.length:Nat):Int)<=4096) then (f,gw,2) else
 ry f o (je f o).1.ar (nU (je f o).1.data o.n.toNat o.data)
theorem apr(f:aa)(o:jC)(hf:vf f)(ho:sg o):pn 103 f o (xH f o):=by
 unfold pn;refine⟨.slice .c0 [],.slice .c0 [],.inr ⟨rfl,?_⟩,.inr ⟨rfl,?_⟩,aB ?_⟩
 ·unfold xH; split
  ·rfl
  ·split
   ·rfl
   ·split
    ·rfl
    grind [tF]
 ·unfold xH; split
  ·rfl
  ·split
   ·rfl
   ·split
    ·rfl
    ·rw[(tF ..).2]; rfl
 have q1:=fun {M}=>afm f o hf (p:=0) (M:=M)
 have hn:=CL (f:=f) (o:=o);have q2:=fun bb=>Qw bb 1 rfl
 have q3:=fun bb=>Qw bb 2 rfl
 unfold xH;cases h0:(je f o).2 != 0
 ·obtain⟨hn0,i,hi⟩:=hn h0;have hsz:=(xm hf i).1;rw[<-hi] at hsz;generalize (je f o).1=n at q1 hsz ⊢;generalize (je f o).2=e at q1 h0 ⊢;simp only[dg,cg,aL] at q1;cases h1:decide (o.n<=4096)
  ·simp only[yv,HF,cg,dB,gw,q1,q2,h0,h1,gd,af,EW,seval]
  ·have hn1:o.n<=4096:=by simpa using h1
   obtain⟨N,hN⟩:∃N:Nat,o.n=(N:Int):=⟨o.n.toNat,aH⟩;have hdl:=ho.data;have hw:IntKind.i64.wrap ((N:Int)+(o.data.length:Int))=((N+o.data.length:Nat):Int):=by rw[gW aH aH]; omega
   have hT:o.n.toNat=N:=aH;rw[hT];rw[hN] at q1 h1;cases h2:decide (((N+o.data.length:Nat):Int)<=4096)
   ·simp only[yv,HF,cg,dB,gw,q1,q2,q3,h0,h1,h2,hw,hN,gd,af,EW,seval]
   ·have hE:N+o.data.length<=4096:=by
     have:((N+o.data.length:Nat):Int)<=4096:=by simpa using h2
     omega
    have hwl:(nU n.data N o.data).length<=100000:=by
     unfold nU; split
     ·omega
     ·simp; omega
    have q4:=fun {M}=>al7 f o hf n.ar (nU n.data N o.data) hwl (p:=0) (M:=M)
    generalize ry f o n.ar (nU n.data N o.data)=r at q4 ⊢;simp only[dg,cg,dB,c8,hN] at q4
    by_cases hD:o.data=[]
    ·have hg:((0:Int)<(o.data.length:Int))=False:=by simp[hD]
     have hwr:nU n.data N o.data=n.data:=by unfold nU; rw[aW hD]
     rw[hwr] at q4
     by_cases hd0:n.data=[]
     ·have p1:=anh (d:=n.data) hd0;rw[hd0] at q4;simp only[aU] at q4;cases h3:r.2.2 != 0<;>simp only[yv,HF,cg,dB,q1,q2,q3,q4,p1,h0,h1,h2,h3,hN,hw,hg,gd,c8,qG,af,EW,seval]
     ·have p1:=p93 (d:=n.data) hd0 aH;have ht:List.take n.data.length (n.data.map qW)=n.data.map qW:=bB dw;cases h3:r.2.2 != 0<;>simp only[yv,HF,cg,dB,q1,q2,q3,q4,p1,h0,h1,h2,h3,hN,hw,hg,ht,gd,c8,YN,qG,af,EW,seval]
    ·have hdl0:0<o.data.length:=gQ.2 hD;have hg:((0:Int)<(o.data.length:Int))=True:=gh;have hwb:=sf o.data
     by_cases hd0:n.data=[]
     ·have p1:=anh (d:=n.data) hd0;have hk:IntKind.i64.wrap (((N+o.data.length:Nat):Int)-0)=((N+o.data.length:Nat):Int):=by rw[gW aH aH]; simp
      have hm:(((N+o.data.length:Nat):Int)<0)=False:=gh;have hmi:min o.data.length (N+o.data.length-N)=o.data.length:=aH;have rk:cr (N+o.data.length) 1=True:=qI;have b0:(((N+o.data.length:Nat):Int)==0)=false:=gh;have b1:((N:Int)==((N+o.data.length:Nat):Int))=false:=gh;have b2:((N:Int)<=((N+o.data.length:Nat):Int))=True:=gh;have b3:(((N+o.data.length:Nat):Int)<=((N+o.data.length:Nat):Int))=True:=dw;have hz:=Ka (N+o.data.length);have htl:=Bx (List.replicate (N+o.data.length) 0) o.data N dw
      have hwr:nU n.data N o.data=(List.replicate (N+o.data.length) 0).take N++(o.data++(List.replicate (N+o.data.length) 0).drop (N+o.data.length)):=by
       unfold nU; rw[aP hD,hd0]; simp
      rw[hwr,<-htl] at q4;rw[kP] at q4;have l1:(0<((List.replicate (N+o.data.length) (0:UInt8)).map qW).length)=True:=gh;generalize (List.replicate (N+o.data.length) (0:UInt8)).map qW=X at hz q4 l1;cases h3:r.2.2 != 0<;>simp only[yv,HF,cg,dB,q1,q2,q3,q4,p1,h0,h1,h2,h3,hN,hw,hg,hk,hm,hmi,hwb,rk,b0,b1,b2,b3,hz,l1,gy,gd,c8,YN,qG,bT,af,EW,seval]
     ·have p1:=p93 (d:=n.data) hd0 aH;have hL0:0<n.data.length:=gQ.2 hd0;have l0:(0<n.data.length)=True:=gh;have hwn:=sf n.data
      by_cases hE2:N+o.data.length<=n.data.length
      ·have hk:IntKind.i64.wrap (((N+o.data.length:Nat):Int)-(n.data.length:Int))=((N+o.data.length:Nat):Int)-(n.data.length:Int):=gW aH aH;have hmx:(if ((N+o.data.length:Nat):Int)-(n.data.length:Int)<0 then (0:Int) else ((N+o.data.length:Nat):Int)-(n.data.length:Int))=0:=by split<;>omega
       have hmi:min o.data.length (n.data.length-N)=o.data.length:=aH;have rk:cr (n.data.length+0) 1=True:=qI;have rk0:cr n.data.length 1=True:=qI;have b1:((N:Int)==(n.data.length:Int))=false:=gh;have b2:((N:Int)<=(n.data.length:Int))=True:=gh;have htl:=Bx n.data o.data N hE2
       have hwr:nU n.data N o.data=n.data.take N++(o.data++n.data.drop (N+o.data.length)):=by
        unfold nU; rw[aP hD,show N+o.data.length-n.data.length=0 by omega]; simp
       rw[hwr,<-htl] at q4;cases h3:r.2.2 != 0<;>simp only[yv,HF,cg,dB,q1,q2,q3,q4,p1,h0,h1,h2,h3,hN,hw,hg,hk,hmx,hmi,hwb,rk0,l0,b1,b2,gy,gd,c8,dP,YN,qG,bT,af,EW,seval]
      ·have hk:IntKind.i64.wrap (((N+o.data.length:Nat):Int)-(n.data.length:Int))=((N+o.data.length:Nat):Int)-(n.data.length:Int):=gW aH aH;have hmx:(if ((N+o.data.length:Nat):Int)-(n.data.length:Int)<0 then (0:Int) else ((N+o.data.length:Nat):Int)-(n.data.length:Int))=((N+o.data.length-n.data.length:Nat):Int):=by split<;>omega
       have hsum:n.data.length+(N+o.data.length-n.data.length)=N+o.data.length:=aH;have hmi:min o.data.length (N+o.data.length-N)=o.data.length:=aH;have rk:cr (N+o.data.length) 1=True:=qI;have b0:(((N+o.data.length-n.data.length:Nat):Int)==0)=false:=gh;have b1:((N:Int)==((N+o.data.length:Nat):Int))=false:=gh;have b2:((N:Int)<=((N+o.data.length:Nat):Int))=True:=gh;have hz:=Ka (N+o.data.length-n.data.length);have htl:=Bx (n.data++List.replicate (N+o.data.length-n.data.length) 0) o.data N gh
       have hwr:nU n.data N o.data=(n.data++List.replicate (N+o.data.length-n.data.length) 0).take N++(o.data++(n.data++List.replicate (N+o.data.length-n.data.length) 0).drop (N+o.data.length)):=by
        unfold nU; rw[aP hD]
       rw[hwr,<-htl] at q4;have hlX:(n.data++List.replicate (N+o.data.length-n.data.length) (0:UInt8)).length=N+o.data.length:=gh;rw[hlX,aZ] at q4;have l1:(0<N+o.data.length)=True:=gh;have lz:((List.replicate (N+o.data.length-n.data.length) (0:UInt8)).map qW).length=N+o.data.length-n.data.length:=dw;generalize (List.replicate (N+o.data.length-n.data.length) (0:UInt8)).map qW=Z at hz q4 lz;cases h3:r.2.2 != 0<;>simp only[yv,HF,cg,dB,q1,q2,q3,q4,p1,h0,h1,h2,h3,hN,hw,hg,hk,hmx,hsum,hmi,hwb,rk,l0,l1,lz,b0,b1,b2,hz,gy,gd,c8,dP,YN,qG,bT,af,EW,seval]
 ·simp only[dg,cg,aL] at q1;simp only[yv,HF,cg,dB,gw,q1,h0,gd,EW,seval]
end
section
attribute [local irreducible] eX fJ lj gK dY kr aq aR cp bI
def akt(z:Int):aq cd 166 [gA [],.func 206 [cv 0]] [cA [aF z]]=some (aF (-1),[cA [aF z]]):=by
 have h00:decide ((0:Int)<0)=false:=rfl;have hz:((0:Nat):Int)=0:=rfl;refine aB ?_;simp only[aci,ah9,hz,EN,seval];rw[bF];simp only[ah9,h00,EN,seval]
end
def al8(z:Int):aR (aq cd) 166 [gA [],.func 206 [cv 0]] [cA [aF z]]=some (aF (-1),[cA [aF z]]) :=
 kZ (ids:=[0]) rfl rfl (show jX [cA [aF z]] (iy [0]) [0]=some [cA [aF z]] from rfl) rfl rfl (akt z) rfl rfl rfl rfl rfl
section
attribute [local irreducible] eX fJ lj gK dY kr aq aR cp bI
def akA(z:Int):aq cd 204 [gA [],.func 206 [cv 0]] [cA [aF z]]=some (gA [],[cA [aF z]]):=by
 have h11:((-1:Int) == -1)=true:=rfl;refine aB ?_;simp only[acI,aoy,al8,h11,EN,seval]
end
def ami(z:Int)(b0 b2 b3:cL):aR (aq cd) 204 [gA [],.func 206 [cv 1]] [b0,cA [aF z],b2,b3]=some (gA [],[b0,cA [aF z],b2,b3]) :=
 kZ (ids:=[1]) rfl rfl (show jX [b0,cA [aF z],b2,b3] (iy [1]) [1]=some [cA [aF z]] from rfl) rfl rfl (akA z) rfl rfl rfl rfl rfl
def adC(b0 b2 b3:cL)(xs:List ag)(z:Int):jX [b0,cA [aF z],b2,b3,.arr 3 0 xs] (iy [4,1]) [4,1]=some [.arr 3 0 xs,cA [aF z]]:=rfl
def asw(xs:List gM)(z:Int)(hn:xs.length<=100000)(h0:xs≠[])(hk:qU z xs≠[])(b0 b2 b3:cL):aR (aq cd) 204 [.cB 4 0 3 0 xs.length,.func 206 [cv 1]] [b0,cA [aF z],b2,b3,.arr 3 0 (xs.map iH)] =
  some (.cB 4 0 3 0 (qU z xs).length,[b0,cA [aF z],b2,b3,.arr 3 0 ((qU z xs++List.replicate (xs.length-(qU z xs).length) Mh).map iH)]):=by
 have h:=akz xs z hn h0;have hl:(qU z xs).length≠0:=fun hh=>hk (dQ.1 hh)
 have hr:WK (qU z xs).length = .cB 0 0 3 0 (qU z xs).length:=by simp[WK,Dj,hl]
 rw[hr] at h;exact kZ (ids:=[4,1]) rfl rfl (adC ..) rfl rfl h rfl rfl rfl rfl rfl
def amj(xs:List gM)(z:Int)(hn:xs.length<=100000)(h0:xs≠[])(hk:qU z xs=[])(b0 b2 b3:cL):aR (aq cd) 204 [.cB 4 0 3 0 xs.length,.func 206 [cv 1]] [b0,cA [aF z],b2,b3,.arr 3 0 (xs.map iH)] =
  some (gA [],[b0,cA [aF z],b2,b3,.arr 3 0 ((List.replicate xs.length Mh).map iH)]):=by
 have h:=akz xs z hn h0;have hr:WK (qU z xs).length = gA []:=by simp[WK,Dj,hk]
 rw[hr,hk] at h;simp only[aO,az,bT] at h;exact kZ (ids:=[4,1]) rfl rfl (adC ..) rfl rfl h rfl rfl rfl rfl rfl
section
attribute [local irreducible] eX fJ lj gK dY kr aq aR cp bI
end
section
def FO(x:gM):List gM->List gM
 | []=>[x]
 |y::r=>if x.ak<y.ak then x::y::r else y::FO x r
def uq:List gM->List gM
 | []=>[]
 |x::r=>FO x (uq r)
def as2(n:gM):ud 2 (iH n)=n.ak:=rfl
def I2(x:gM):∀l:List gM,DL 2 (iH x) (l.map iH)=(FO x l).map iH
 | []=>rfl
 |y::r=>by
  simp only[aK,DL,FO,as2]
  by_cases h:x.ak<y.ak
  ·simp only[h,aE,aK]
  ·simp only[h,aD,aK,I2 x r]
def Gs:∀l:List gM,rQ 2 (l.map iH)=(uq l).map iH
 | []=>rfl
 |x::r=>by simp only[aK,rQ,uq,Gs r,I2]
def FP(x:gM):∀l,(FO x l).length=l.length+1
 | []=>rfl
 |y::r=>by simp only[FO]; split<;>simp[FP x r]
def wi:∀l,(uq l).length=l.length
 | []=>rfl
 |x::r=>by simp[uq,FP,wi r]
def L2{l Z:List gM}{v:Nat}(hl:l.length<=1000000)(hn:(l.map gM.ak).Nodup):aq cd 207 [.cB 0 v 3 0 l.length,.func 208 []] [.arr 3 v ((l++Z).map iH)]=some (.tuple [],[.arr 3 v ((uq l++Z).map iH)]):=by
 refine fg (g:=wE 3 2 208) rfl ?_;unfold wE;simp only[nth];have ht:((l++Z).map iH).take l.length=l.map iH:=by simp[fP]
 have hd:((l++Z).map iH).drop l.length=Z.map iH:=dw;rw[ht,hd,Gs,<-aZ];rw[fi]
 ·rfl
 ·refine⟨trivial,trivial,trivial,dw,trivial,aH,?_,?_⟩
  ·intro x hx;obtain⟨n,_,rfl⟩:=eJ.1 hx;rfl
  ·rw[gG];exact hn
def anm(xs:List ag)(v:Nat)(b0 b1 b2 b3:cL):jX [b0,b1,b2,b3,.arr 3 v xs] (iy [4]) [4]=some [.arr 3 v xs]:=rfl
attribute [local irreducible] eX fJ lj gK dY kr aq aR cp bI
def asy{l Z:List gM}{v:Nat}(hl:l.length<=1000000)(hn:(l.map gM.ak).Nodup)(b0 b1 b2 b3:cL):aR (aq cd) 207 [.cB 4 v 3 0 l.length,.func 208 []] [b0,b1,b2,b3,.arr 3 v ((l++Z).map iH)]=some (.tuple [],[b0,b1,b2,b3,.arr 3 v ((uq l++Z).map iH)]) :=
 kZ (ids:=[4]) rfl rfl (anm _ _ ..) rfl rfl (L2 hl hn) rfl rfl rfl rfl rfl
def ads(M:aC):aR (aq cd) 207 [gA [],.func 208 []] M=some (.tuple [],M):=by
 have h:aq cd 207 [gA [],.func 208 []] []=some (.tuple [],[]):=by
  refine fg (g:=wE 3 2 208) rfl ?_;unfold wE;simp only[aE]
 exact cO h M
def zG(ae:List Node)(ar z:Int):List gM:=uq (qU z (gY ae ar).1.bc)
def wC(t:Tree)(ar z m:Int):List gM×Int×Int :=
 if decide (z<0)||(decide (m<1)||decide (64<m)) then ([],0,1)
 else if (gY t.ae ar).2 != 0 then ([],0,(gY t.ae ar).2)
 else if decide (((zG t.ae ar z).length:Int)<=m) then (zG t.ae ar z,0,0)
 else ((zG t.ae ar z).take m.toNat,nq (((zG t.ae ar z).getD (m.toNat-1) Mh).ak+1),0)
def xT{t:Tree}{dE:Int->Nat}(h:dX t dE 0)(ar:Int):((gY t.ae ar).1.bc.map gM.ak).Nodup/\(gY t.ae ar).1.bc.length<=64:=by
 unfold gY;cases hi:find t.ae ar with
 |none=>exact⟨lq,by simp[Node.zero]⟩
 |some n =>
  simp only;split
  ·exact⟨by rw[List.nodup_iff_pairwise_ne,jR]; exact(h.yf _ _ hi).1,(h.yf _ _ hi).2⟩
  ·exact⟨lq,by simp[Node.zero]⟩
def ap7(t:Tree)(ht:Rt t)(ar z m:Int):aq cd 153 [br t,aF ar,aF z,aF m] []=some (.tuple [jb (wC t ar z m).1,aF (wC t ar z m).2.1,aF (wC t ar z m).2.2],[]):=by
 obtain⟨dE,h⟩:=ht;refine aB ?_;have q1:=fun b c M=>YZ t.ae t.next t.ak ar h.lI.mj (by have:=h.ae; omega) 2 (b::c :: cA [ba t.ae,aF t.next,aF t.ak]::M) rfl
 obtain⟨hnd,h64⟩:=xT h ar;have hknd:((qU z (gY t.ae ar).1.bc).map gM.ak).Nodup:=(List.filter_sublist.map _).nodup hnd;have hkl:(qU z (gY t.ae ar).1.bc).length<=64:=aY (bU _ _) h64;unfold wC zG;generalize gY t.ae ar=d at q1 hnd h64 hknd hkl ⊢;simp only[bK,aL] at q1;cases g1:decide (z<0)
 ·cases g2:decide (m<1)
  ·cases g3:decide (64<m)
   ·cases g4:d.2 != 0
    ·obtain⟨M,hM⟩:∃M:Nat,m=(M:Int):=⟨m.toNat,by simp at g2; omega⟩
     subst hM;have hM1:1<=M:=by simp at g2; omega
     have hM64:M<=64:=by simp at g3; omega
     generalize hE:d.1.bc=E at q1 hknd hkl h64 ⊢;have c0:∀b0 b2 b3,aR (aq cd) 204 [gA [],.func 206 [cv 1]] [b0,cA [aF z],b2,b3]=some (gA [],[b0,cA [aF z],b2,b3]):=fun b0 b2 b3=>ami z b0 b2 b3
     have z0:((0:Int)<=(M:Int))=True:=dw
     by_cases hE0:E=[]
     ·have p1:∀M,aq cd 205 [jb E] M=some (.slice .c0 [],M):=fun M=>by subst hE0; exact ang M
      have hk:uq (qU z E)=[]:=by subst hE0; rfl
      rw[hk];simp only[yw,HH,br,aM,q1,g1,g2,g3,g4,p1,c0,ads,z0,az,aL,fH,af,aE,aD,EW,seval];rfl
     ·have p1:=fun M=>p58 (l:=E) hE0 aH M
      by_cases hK0:qU z E=[]
      ·have p2:=fun b0 b2 b3=>amj E z aH hE0 hK0 b0 b2 b3
       have hk:uq (qU z E)=[]:=by rw[hK0]; rfl
       rw[hk];simp only[yw,HH,br,aM,q1,g1,g2,g3,g4,p1,p2,ads,z0,az,aL,fH,af,aE,aD,EW,seval];rfl
      ·have p2:=fun b0 b2 b3=>asw E z aH hE0 hK0 b0 b2 b3
       have hsl:=wi (qU z E);generalize qU z E=kk at p2 hknd hkl hK0 hsl ⊢;generalize List.replicate (E.length-kk.length) Mh=Z at p2;have p3:=fun b0 b1 b2 b3=>asy (l:=kk) (Z:=Z) (v:=0) aH hknd b0 b1 b2 b3
       generalize uq kk=ss at p3 hsl ⊢;have tk:List.take kk.length ((ss++Z).map iH)=ss.map iH:=by rw[<-hsl]; simp[fP]
       cases g5:decide ((kk.length:Int)<=(M:Int))
       ·have cJ:M<kk.length:=by simp at g5; omega
        have g6:decide ((ss.length:Int)<=(M:Int))=false:=by rw[hsl]; exact g5
        have hw1:IntKind.i64.wrap ((M:Int)-1)=((M-1:Nat):Int):=by rw[gW aH aH]; omega
        have hx:=ai (show M-1<ss.length by omega)
        have hg:ss.getD (M-1) Mh=ss[M-1]:=by simp[List.getD,hx]
        have hat:(ss++Z)[M-1]?=some ss[M-1]:=by rw[aQ aH]; exact hx
        have tm:List.take M ((ss++Z).map iH)=(ss.take M).map iH:=by
         rw[<-eP,fP aH]
        have b1:((M:Int)<=(kk.length:Int))=True:=gh;have b2:((M:Int)==0)=false:=gh;have b3:((0:Int)==(M:Int))=false:=gh;have b4:(((M-1:Nat):Int)<(kk.length:Int))=True:=gh;simp only[yw,HH,br,aM,q1,g1,g2,g3,g4,g5,g6,p1,p2,p3,z0,hw1,hg,hat,tm,b1,b2,b3,b4,gy,dP,bT,fU,aL,fH,af,aE,aD,EW,seval];rw[<-eP]
       ·have g6:decide ((ss.length:Int)<=(M:Int))=true:=by rw[hsl]; exact g5
        simp only[yw,HH,br,aM,q1,g1,g2,g3,g4,g5,g6,p1,p2,p3,tk,bT,aL,fH,af,aE,aD,EW,seval]
    ·simp only[yw,HH,br,aM,q1,g1,g2,g3,g4,aL,fH,af,aE,aD,EW,seval];rfl
   ·simp only[yw,HH,br,aM,g1,g2,g3,aL,eu,fH,af,aE,aD,EW,seval];rfl
  ·simp only[yw,HH,br,aM,g1,g2,aL,dI,eu,fH,af,aE,aD,EW,seval];rfl
 ·simp only[yw,HH,br,aM,g1,aL,dI,fH,af,aE,aD,EW,seval];rfl
def asd(t:Tree)(ht:Rt t)(ar z m:Int)(M:aC):aR (aq gJ) 153 [.agg [ba t.ae,aF t.next,aF t.ak],aF ar,aF z,aF m] M=some (.tuple [jb (wC t ar z m).1,aF (wC t ar z m).2.1,aF (wC t ar z m).2.2],M) :=
 lS (cO (ap7 t ht ar z m) M)
def Pv{t:Tree}(ht:Rt t)(ar z m:Int):(wC t ar z m).1.length<=100000:=by
 obtain⟨dE,h⟩:=ht;have h64:=(xT h ar).2;have hf:(zG t.ae ar z).length<=64:=by unfold zG; rw[wi]; exact aY (bU _ _) h64
 unfold wC;split
 ·simp
 ·split
  ·simp
  ·split
   ·simp only; omega
   ·simp; omega
def F2(f:aa)(o:jC):Wk :=
 let v:=kl f.s.now o.dH
 let l:=wC f.s.now (bl f.s.now.ae v.1).ar o.n o.m
 if v.2 != 0 then (f,gw,v.2) else
 if l.2.2 != 0 then (f,gw,l.2.2) else
 (f,⟨0,0,0,l.2.1,0,l.1.map gM.name,[]⟩,0)
def c98(f:aa)(o:jC)(hf:vf f)(ho:sg o):pn 98 f o (F2 f o):=by
 unfold pn;have q1:=fun {M}=>Lu f o o.dH hf.rt.small hf.rt.lI (by have:=ho.dH; omega) (p:=0) (M:=M)
 unfold F2;simp only[];generalize kl f.s.now o.dH=v at q1 ⊢;generalize bl f.s.now.ae v.1=n at q1 ⊢;have q2:=asd f.s.now hf.rt n.ar o.n o.m;have hl:=Pv hf.rt n.ar o.n o.m;generalize wC f.s.now n.ar o.n o.m=l at q2 hl ⊢;have q3:=afk l.1 hl;simp only[dg,cg,aL] at q1;cases h0:v.2 != 0
 ·cases h1:l.2.2 != 0
  ·refine⟨dj (l.1.map gM.name),.slice .c0 [],.inl rfl,.inr ⟨rfl,rfl⟩,aB ?_⟩;simp only[YK,E98,dg,cg,dB,aL,q1,q2,q3,oX,h0,h1,aw,af,aE,aD,EW,seval]
  ·refine⟨.slice .c0 [],.slice .c0 [],.inr ⟨rfl,rfl⟩,.inr ⟨rfl,rfl⟩,aB ?_⟩;simp only[YK,E98,dg,cg,dB,gw,aL,q1,q2,q3,oX,h0,h1,gd,aw,af,aE,aD,EW,seval]
 ·refine⟨.slice .c0 [],.slice .c0 [],.inr ⟨rfl,rfl⟩,.inr ⟨rfl,rfl⟩,aB ?_⟩;simp only[YK,E98,dg,cg,dB,gw,aL,q1,h0,gd,aw,af,aE,aD,EW,seval]
end
section
attribute [local irreducible] eX fJ lj gK dY kr aq aR cp bI
def aqi(e:gM)(s:Bytes):aq cd 167 [iH e,cv 0] [cA [.str s]]=some (.bool (e.name==s),[cA [.str s]]):=by
 refine aB ?_;simp only[acj,aon,iH,fU,EW,seval]
def aku(xs:List gM)(s:Bytes)(hn:xs.length<=100000):aq cd 166 [gA (xs.map iH),.func 167 [cv 0]] [cA [.str s]]=some (aF (qz (fun e:gM=>e.name==s) xs 0),[cA [.str s]]) :=
 DB (sz:=3) (e:=fU) fA rfl hn (fun _=>rfl) (fun _=>rfl) rfl rfl fun x _ => .inl ⟨_,_,rfl,uF (p:=0) (vs:=[.agg (fU x)]) rfl (aqi x s) rfl rfl rfl rfl rfl rfl rfl rfl rfl⟩
def N0:List ag:=[.int .i64 0,.int .i64 0,.int .i64 0,.slice .c0 [],.slice .c0 [],.int .i64 0]
def wG(o:Option Node):List ag:=match o with
 |some n=>aL n
 |none=>N0
def adu(o:Option Node):ph (.agg [aF 0,aF 0,aF 0,.slice .c0 [],.slice .c0 [],aF 0]) false (o.map bK) = .agg (wG o):=by cases o<;>rfl
def jk(all:AM Node):List Bytes->Option Node->Option Node×Int
 | [],o=>(o,0)
 |s::r,o=>if !((o.getD Node.zero).kind==2) then (o,73) else match (o.getD Node.zero).bc.find? (fun e=>e.name==s) with
  |none=>(o,70)
  |some e=>jk all r (eZ all e.ar)
def fT(l:List Node)(m:AM Node):AM Node:=l.foldl (fun m n=>kD m n.ar n) m
def Vp{W:aa×jC}{at':Int}{p:List Bytes}{xs:List Node}(hn:xs.length<=200000){fin:AM Node}{k:List K}{r:Option (ag×aC)}
  (hx:∀e,kr (aq gJ) [] 1 k ⟨.exit 0,(0,cv 0)::(2,aF at')::(5,dj p)::(6,.iz 1)::e,[dg W.1 W.2,.map (BP fin) (o9 bK fin)]⟩=r) :
  ∀(l pre:List Node)(m:AM Node),xs=pre++l->fT l m=fin->eX (aq gJ) [] 1 k (.loop [0,2,5,6,42,43,44] Za) [(0,cv 0),(2,aF at'),(5,dj p),(6,.iz 1),(42,ba xs),(43,aF xs.length),(44,aF pre.length)] [dg W.1 W.2,.map (BP m) (o9 bK m)]=r:=by
 obtain⟨f,o⟩:=W;simp only[dg,cg] at hx ⊢;intro l;induction l with
 |nil =>
  intro pre m h hfin;rw[bF];simp only[fT,mX] at hfin;subst hfin;simp only[zn,jJ h,EW,seval];exact hx _
 |cons n rest ih =>
  intro pre m h hfin;rw[bF];have dR:pre.length+1<=200000:=by rw[h] at hn; simp at hn; omega
  have hw:=zl pre n;have hi1:=ih (pre++[n]) (kD m n.ar n) (by rw[h]; simp) hfin
  have hput:=sE bK m n.ar n;simp only[bK,aL,aA,av,az,aJ] at hi1 hput;simp only[zn,iP h,gU h,aL,hw,hput,mapOf.eq_1,Yj,EW,seval];exact hi1
def Vq{W:aa×jC}{all:AM Node}(hall:∀k n,eZ all k=some n->n.bc.length<=100000){xs:List Bytes}(hn:xs.length<=100000){fin:Option Node×Int}{k:List K}{r:Option (ag×aC)}
  (hx:fin.2=0->∀e,kr (aq gJ) [] 1 k ⟨.exit 2,(0,.ptr 0 0)::(6,.iz 1)::(9,.ptr 2 0)::e,[dg W.1 W.2,.map (BP all) (o9 bK all),.cells (wG fin.1)]⟩=r)
  (hp:(fin.2 != 0)=true->∀c d,kr (aq gJ) [] 1 k ⟨.nD (.iface 43 (.int .i64 fin.2)),[],[dg W.1 W.2,.map (BP all) (o9 bK all),.cells c,d]⟩=r) :
  ∀(l pre:List Bytes)(o:Option Node),xs=pre++l->(∀n,o=some n->n.bc.length<=100000)->jk all l o=fin->eX (aq gJ) [] 1 k (.loop [0,6,9,56,57,58] Zb) [(0,.ptr 0 0),(6,.iz 1),(9,.ptr 2 0),(56,dj xs),(57,.int .i64 xs.length),(58,.int .i64 pre.length)] [dg W.1 W.2,.map (BP all) (o9 bK all),.cells (wG o)]=r:=by
 obtain⟨f,op⟩:=W;simp only[dg,cg] at hx hp ⊢;intro l;induction l with
 |nil =>
  intro pre o h ho hfin;rw[bF];rw[jk] at hfin;subst hfin;cases o<;>simp only[wG,N0,aL,zn,jJ h,Yj,EW,seval] at hx ⊢ <;> exact hx trivial _
 |cons s rest ih =>
  intro pre o h ho hfin;rw[bF];have dR:pre.length+1<=100000:=by rw[h] at hn; simp at hn; omega
  have hw:=zl pre s;have q2:=fun bb=>Qw bb 73 rfl
  have q3:=fun bb=>Qw bb 70 rfl
  cases o with
  |none =>
   have hf:jk all (s::rest) none=(none,73):=rfl;rw[hf] at hfin;subst hfin;have h02:((0:Int)==2)=false:=rfl;simp only[wG,N0,zn,iP h,gU h,h02,q2,gd,af,aD,EW,seval];exact hp rfl _ _
  |some n =>
   rw[jk] at hfin;simp only[bj] at hfin;cases hk:n.kind==2
   ·rw[hk] at hfin;simp only[dC,aE] at hfin;subst hfin;simp only[wG,aL,zn,iP h,gU h,hk,q2,gd,af,aD,EW,seval];exact hp rfl _ _
   ·rw[hk] at hfin;simp only[ct,af,aD] at hfin;have hne:=ho n rfl;have q4:∀M,nth M 3=some (.cells [.str s])->aR (aq gJ) 166 [jb n.bc,.func 167 [.ptr 3 0]] M=some (.int .i64 (qz (fun e:gM=>e.name==s) n.bc 0),M):=fun M hM=>lS (zu hM (aku n.bc s hne) rfl rfl rfl)
    rcases xW (fun e:gM=>e.name==s) n.bc 0 with ⟨i1,i2⟩|⟨j,e,i1,i2,i3,_⟩
    ·rw[i2] at hfin;simp only at hfin;subst hfin;rw[i1] at q4;have hneg:(0<=(-1:Int))=False:=dw;simp only[wG,aL,zn,iP h,gU h,hk,q2,q3,q4,hneg,gd,af,aE,aD,EW,seval];exact hp rfl _ _
    ·rw[i3] at hfin;simp only at hfin;rw[i1,aJ] at q4;have hi:=ih (pre++[s]) (eZ all e.ar) (by rw[h]; simp) (fun m hm=>hall _ _ hm) hfin
     have hlg:=adu (eZ all e.ar);simp only[aA,av,az,aJ] at hi;have hisC:(wG (eZ all e.ar)).all ag.jf=true:=by cases eZ all e.ar<;>rfl
     have hlC:(wG (eZ all e.ar)).length=6:=by cases eZ all e.ar<;>rfl
     have hbC:∀B M,List.map (ag.jE B M) (wG (eZ all e.ar))=wG (eZ all e.ar):=fun B M=>by cases eZ all e.ar<;>rfl
     generalize wG (eZ all e.ar)=gc at hi hlg hisC hlC hbC;simp only[wG,aL,fU,zn,iP h,gU h,hk,q2,q3,q4,i2,oZ,hlg,hisC,hlC,hbC,hw,mapOf.eq_1,Yj,af,aE,aD,EW,seval];exact hi
def Gw{all:AM Node}{P:Node->Prop}(hall:∀k n,eZ all k=some n->P n):∀(f:Nat)(ar:Int)(st:VS),(∀n,n∈st.2->P n)->∀n,n∈(jZ all f ar st).2.2->P n:=by
 intro f;induction f with
 |zero=>intro ar st h; exact h
 |succ f ih =>
  intro ar st h;rw[jZ];split
  ·exact h
  ·split
   ·exact h
   ·rename_i h1;cases hn:eZ all ar with
    |none=>simp[hn] at h1
    |some n =>
     simp only[bj]
     have hfold:∀(l:List gM)(w:Bool×VS),(∀n,n∈w.2.2->P n)->∀n,n∈(l.foldl (fun w e=>((jZ all f e.ar w.2).1&&w.1,(jZ all f e.ar w.2).2)) w).2.2->P n:=by
      intro l;induction l with
      |nil=>intro w hw; exact hw
      |cons e r ihr =>
       intro w hw;rw[ei];exact ihr _ (ih e.ar w.2 hw)
     refine hfold _ _ ?_;intro m hm;simp only[bo,bQ] at hm;rcases hm with hm|rfl
     ·exact h m hm
     ·exact hall _ _ hn
def Jp(x y:Node):∀l:List Node,y∈G7 x l->y=x\/y∈l
 | [],h=>by simp[G7] at h; exact .inl h
 |z::r,h=>by
  simp only[G7] at h;split at h
  ·simpa using h
  ·rcases bJ.1 h with h|h
   ·exact .inr (by simp[h])
   ·rcases Jp x y r h with h|h
    ·exact .inl h
    ·exact .inr (by simp[h])
def A8(y:Node):∀l:List Node,y∈Cf l->y∈l
 | [],h=>h
 |x::r,h=>by
  rcases Jp x y _ h with h|h
  ·simp[h]
  ·exact bw _ (A8 y r h)
def zb:∀(l:List Node)(m:AM Node)(k:Int)(n:Node),eZ (fT l m) k=some n->n∈l\/eZ m k=some n
 | [],m,k,n,h => .inr h
 |x::r,m,k,n,h=>by
  have h':eZ (fT r (kD m x.ar x)) k=some n:=h;rcases zb r _ k n h' with h|h
  ·exact .inl (by simp[h])
  ·rw[jx] at h;split at h
   ·injection h with h; exact .inl (by simp[h])
   ·exact .inr h
def vf.all{f:aa}(hf:vf f)(a:Int):yl (yJ f.s a)/\(yJ f.s a).length<=100200:=by
 obtain⟨g1,g2⟩:=xv a f.s.eN [] ⟨fun k n h=>(by cases h),fun k n h=>(by cases h)⟩ (fun p hp=>by have:=(hf.Ej p hp).1; omega)
 obtain⟨g3,g4⟩:=Bc a f.s.now.ae f.s.since (f.s.eN.foldl (mO a) []) g1 (fun n hn=>by have:=hf.rt.sz.bc n hn; omega)
 refine⟨g3,?_⟩;have:=hf.rt.sz.ae; have h3:=hf.eN;simp at g2; unfold yJ; omega
def aee{f:aa}(hf:vf f)(id:Int):(vj f.s id).2.1.length<=200000/\∀n,n∈(vj f.s id).2.1->n.bc.length<=100000:=by
 unfold vj;split
 ·rename_i x _;obtain⟨h1,h2⟩:=hf.all x.at';have hg:=xG (all:=yJ f.s x.at') h1.own 200001 x.ar ([],[]);refine⟨?_,fun n hn=>?_⟩
  ·have:=hg.len; have h3:=vZ (yJ f.s x.at') [];simp only[az] at this;simp only[DH,Br,xF]; omega
  ·have:=A8 n _ hn;exact Gw (P:=fun n=>n.bc.length<=100000) h1.bc 200001 x.ar ([],[]) (fun n h=>by cases h) n this
 ·exact⟨dw,fun n h=>by cases h⟩
def Gd(f:aa)(o:jC):Wk :=
 let a:=vj f.s o.n
 let p:=gD o.dH
 let r:=jk (fT a.2.1 []) p.1 (eZ (fT a.2.1 []) a.1)
 if a.2.2 != 0 then (f,gw,a.2.2) else
 if p.2 != 0 then (f,gw,p.2) else
 if r.2 != 0 then (f,gw,r.2) else
 (f,⟨0,(r.1.getD Node.zero).ar,(r.1.getD Node.zero).kind,(r.1.getD Node.zero).ep,Ce (r.1.getD Node.zero),(r.1.getD Node.zero).bc.map gM.name,(r.1.getD Node.zero).data⟩,0)
def Ca{all:AM Node}(hall:∀k n,eZ all k=some n->n.bc.length<=100000):∀(p:List Bytes)(o:Option Node),(∀n,o=some n->n.bc.length<=100000)->∀n,(jk all p o).1=some n->n.bc.length<=100000
 | [],o,ho,n,h=>ho n h
 |s::r,o,ho,n,h=>by
  rw[jk] at h;split at h
  ·exact ho n h
  ·split at h
   ·exact ho n h
   ·exact Ca hall r _ (fun m hm=>hall _ _ hm) n h
def apv(f:aa)(o:jC)(hf:vf f)(ho:sg o):pn 107 f o (Gd f o):=by
 unfold pn;have q1:=fun M=>lS (asi f.s o.n (by have:=hf.dV; omega) (by have:=hf.eN; omega) (fun p hp=>by have:=(hf.Ej p hp).1; omega) hf.rt.sz hf.len M)
 have ha:=aee hf o.n;have q2:=afn o.dH (by have:=ho.dH; omega)
 have hp:=(yb o.dH).2;unfold Gd;simp only[];generalize vj f.s o.n=a at q1 ha ⊢;generalize gD o.dH=p at q2 hp ⊢
 have hall:∀k n,eZ (fT a.2.1 []) k=some n->n.bc.length<=100000:=fun k n h=>by
  rcases zb _ _ _ _ h with h|h
  ·exact ha.2 n h
  ·cases h
 have hpe:=Ca hall p.1 (eZ (fT a.2.1 []) a.1) (fun n h=>hall _ _ h)
 simp only[bL] at q1;have k155z:∀M,aR (aq gJ) 155 [.agg [aF 0,aF 0,aF 0,gA [],gA [],aF 0]] M=some (aF (Ce Node.zero),M):=fun M=>afl Node.zero M
 have k154z:∀M,aR (aq gJ) 154 [gA []] M=some (gA [],M):=fun M=>afk [] dw M
 cases h0:a.2.2 != 0
 ·cases h1:p.2 != 0
  ·have hlg:=adu (eZ (fT a.2.1 []) a.1);have hisC:(wG (eZ (fT a.2.1 []) a.1)).all ag.jf=true:=by cases eZ (fT a.2.1 []) a.1<;>rfl
   have hlC:(wG (eZ (fT a.2.1 []) a.1)).length=6:=by cases eZ (fT a.2.1 []) a.1<;>rfl
   have main:∀x y,(Row x (((jk (fT a.2.1 []) p.1 (eZ (fT a.2.1 []) a.1)).1.getD Node.zero).bc.map gM.name |>.map ag.str)/\x=dj (((jk (fT a.2.1 []) p.1 (eZ (fT a.2.1 []) a.1)).1.getD Node.zero).bc.map gM.name)) ->
     (y=match (jk (fT a.2.1 []) p.1 (eZ (fT a.2.1 []) a.1)).1 with|some n=>c8 n.data|none => .slice .c0 []) ->
     aq gJ 107 [cv 0] [cA (cg f o)]=some (if (jk (fT a.2.1 []) p.1 (eZ (fT a.2.1 []) a.1)).2 != 0 then gd (jk (fT a.2.1 []) p.1 (eZ (fT a.2.1 []) a.1)).2 else .tuple [],
      [if (jk (fT a.2.1 []) p.1 (eZ (fT a.2.1 []) a.1)).2 != 0 then dB f o gw (.slice .c0 []) (.slice .c0 []) else
       dB f o ⟨0,((jk (fT a.2.1 []) p.1 (eZ (fT a.2.1 []) a.1)).1.getD Node.zero).ar,((jk (fT a.2.1 []) p.1 (eZ (fT a.2.1 []) a.1)).1.getD Node.zero).kind,((jk (fT a.2.1 []) p.1 (eZ (fT a.2.1 []) a.1)).1.getD Node.zero).ep,Ce ((jk (fT a.2.1 []) p.1 (eZ (fT a.2.1 []) a.1)).1.getD Node.zero),[],[]⟩ x y]):=by
    rintro x y ⟨_,hx⟩ hy;subst hx hy;refine aB ?_
    have hb:=Vq (W:=(f,o)) hall (xs:=p.1) aH (fin:=jk (fT a.2.1 []) p.1 (eZ (fT a.2.1 []) a.1)) (k:=[.block 2,.seq aaU]) (r:=some (if (jk (fT a.2.1 []) p.1 (eZ (fT a.2.1 []) a.1)).2 != 0 then gd (jk (fT a.2.1 []) p.1 (eZ (fT a.2.1 []) a.1)).2 else .tuple [],
      [if (jk (fT a.2.1 []) p.1 (eZ (fT a.2.1 []) a.1)).2 != 0 then dB f o gw (.slice .c0 []) (.slice .c0 []) else
       dB f o ⟨0,((jk (fT a.2.1 []) p.1 (eZ (fT a.2.1 []) a.1)).1.getD Node.zero).ar,((jk (fT a.2.1 []) p.1 (eZ (fT a.2.1 []) a.1)).1.getD Node.zero).kind,((jk (fT a.2.1 []) p.1 (eZ (fT a.2.1 []) a.1)).1.getD Node.zero).ep,Ce ((jk (fT a.2.1 []) p.1 (eZ (fT a.2.1 []) a.1)).1.getD Node.zero),[],[]⟩ (dj (((jk (fT a.2.1 []) p.1 (eZ (fT a.2.1 []) a.1)).1.getD Node.zero).bc.map gM.name)) (match (jk (fT a.2.1 []) p.1 (eZ (fT a.2.1 []) a.1)).1 with|some n=>c8 n.data|none => .slice .c0 [])]))
     (fun hz e=>by
      generalize jk (fT a.2.1 []) p.1 (eZ (fT a.2.1 []) a.1)=r at hz hpe ⊢;obtain⟨o',e'⟩:=r;simp only at hz;subst hz;cases o' with
      |none =>
       simp only[dg,cg,dB,wG,N0,k154z,k155z,zn,iK,aw,af,aD,EW,seval];rfl
      |some n =>
       have q5:=afk n.bc (hpe n rfl);have q6:=afl n;simp only[aL] at q6;simp only[dg,cg,dB,wG,aL,q5,q6,zn,bj,aw,af,aD,EW,seval])
     (fun hz c d=>by
      rw[aW hz,aW hz];simp only[dg,cg,dB,gw,zn,gd,EW,seval]) p.1 [] (eZ (fT a.2.1 []) a.1) rfl (fun n h=>hall _ _ h) rfl
    generalize jk (fT a.2.1 []) p.1 (eZ (fT a.2.1 []) a.1)=r at hb ⊢
    have hl:=Vp (W:=(f,o)) (at':=a.1) (p:=p.1) (xs:=a.2.1) ha.1 (fin:=fT a.2.1 []) (k:=[.block 0,.seq aaV]) (r:=some (if r.2 != 0 then gd r.2 else .tuple [],[if r.2 != 0 then dB f o gw (.slice .c0 []) (.slice .c0 []) else
       dB f o ⟨0,(r.1.getD Node.zero).ar,(r.1.getD Node.zero).kind,(r.1.getD Node.zero).ep,Ce (r.1.getD Node.zero),[],[]⟩ (dj ((r.1.getD Node.zero).bc.map gM.name)) (match r.1 with|some n=>c8 n.data|none => .slice .c0 [])]))
     (fun e=>by
      generalize fT a.2.1 []=al at hlg hisC hlC hb ⊢;generalize wG (eZ al a.1)=gc at hlg hisC hlC hb;simp only[dg,cg,az] at hb;simp only[dg,cg,zn,oZ,mapOf.eq_1,hlg,hisC,hlC,EW,seval];exact hb) a.2.1 [] [] rfl rfl
    simp only[dg,cg,az,GX,GY] at hl;simp only[MJ,zn,dg,cg,q1,q2,oX,h0,h1,af,aD,EW,seval];exact hl
   generalize jk (fT a.2.1 []) p.1 (eZ (fT a.2.1 []) a.1)=r at main ⊢;cases h2:r.2 != 0
   ·refine⟨dj ((r.1.getD Node.zero).bc.map gM.name),(match r.1 with|some n=>c8 n.data|none => .slice .c0 []),.inl rfl,?_,?_⟩
    ·obtain⟨o',e'⟩:=r;cases o'
     ·exact .inr ⟨rfl,rfl⟩
     ·exact .inl rfl
    ·have:=main _ _ ⟨.inl rfl,rfl⟩ rfl;rw[h2] at this;simpa only[af,aD,aw,dB] using this
   ·refine⟨.slice .c0 [],.slice .c0 [],.inr ⟨rfl,rfl⟩,.inr ⟨rfl,rfl⟩,?_⟩;have:=main _ _ ⟨.inl rfl,rfl⟩ rfl;rw[h2] at this;simpa only[af,aE,aD,h2] using this
  ·refine⟨.slice .c0 [],.slice .c0 [],.inr ⟨rfl,rfl⟩,.inr ⟨rfl,rfl⟩,aB ?_⟩;simp only[MJ,zn,dg,cg,dB,gw,q1,q2,oX,h0,h1,gd,af,aE,aD,EW,seval]
 ·refine⟨.slice .c0 [],.slice .c0 [],.inr ⟨rfl,rfl⟩,.inr ⟨rfl,rfl⟩,aB ?_⟩;simp only[MJ,zn,dg,cg,dB,gw,q1,oX,h0,gd,af,aE,aD,EW,seval]
end
end
section
open Go Go.RowKit Go.Extern.Stop Go.Stop Go.Extern
def LN (h:Value) (w:World):(Go.method 507 215 (.agg #[h]) "Kind").run Tryz.prog w = .ok (352,h) w:=fA
def LM (h:Value) (w:World):(Go.method 507 215 (.agg #[h]) "Elem").run Tryz.prog w = .ok (362,.agg #[h]) w:=fA
def A9 (h:Value) (w:World):(Go.method 507 215 (.agg #[h]) "Implements").run Tryz.prog w = .ok (363,.agg #[h]) w:=fA
def za (h:Value) (w:World):(Go.method 507 215 (.agg #[h]) "AssignableTo").run Tryz.prog w = .ok (360,.agg #[h]) w:=fA
def rlm(z:Sem Value)(f:TypeId->Addr->Nat->Nat->Sem Value)(v:Value) :
  ReflectliteValue.method z f #[v]=(do match <-ReflectliteValue.parts v with|none=>z|some (t,a,fl)=>f t a fl (fl % 32)):=rfl
theorem rls:∃s1 s2 s3 s4 s5:String,∀v x:Value,ReflectliteValue.set #[v,x]=(do
  let (some (dst,a,fl),some (src,b,_)):=(<-ReflectliteValue.parts v,<-ReflectliteValue.parts x)
   |unsupported (.noEntry s1)
  if fl / ReflectliteValue.flagAddr % 2==0 then unsupported (.noEntry s2)
  let val <-loadVar src b
  if <-Rtype.directlyAssignable dst src then storeVar dst a val
  else if <-Rtype.implements dst src then
   if (<-Rtype.kind src)==20 then
    match val with
    | .nilIface=>unsupported (.noEntry s3)
    |_=>storeVar dst a val
   else storeVar dst a (.iface src val)
  else panicString (s4 ++ (<-Rtype.spelt src) ++ s5 ++ (<-Rtype.spelt dst))
  pure (.tuple #[])):=⟨_,_,_,_,_,fun v x=>rfl⟩
def Lc(t:Addr)(w:World):(ReflectliteValue.unpack (.iface 102 (.pointer (some t)))).run Tryz.prog w
  = .ok (.agg #[.pointer (some ⟨2,102,none⟩),.pointer (some ⟨w.heap.size,0,none⟩),.int .u64 150]) (w.alloc (.cells #[.pointer (some t)] 102)):=fA
def YC (a:Addr) (w:World):(ReflectliteValue.methodAny (ReflectliteValue.valueError "reflectlite.Value.Type" 0) (fun t _ _ _=>ReflectliteType.toType t) #[.agg #[.pointer (some ⟨2,102,none⟩),.pointer (some a),.int .u64 150]]).run Tryz.prog w
  = .ok (.iface 215 (.agg #[.pointer (some ⟨2,102,none⟩)])) w:=fA
def YA(w:World):((ReflectliteType.abiMethod fun t=>Functor.map (fun a:Nat=>Value.int IntKind.u8 (a:Int)) (Rtype.kind t)) #[.pointer (some ⟨2,102,none⟩)]).run Tryz.prog w = .ok (.int .u8 22) w:=fA
def YB(w:World):((ReflectliteType.abiMethod fun t=>Functor.map (fun a:Nat=>Value.int IntKind.u8 (a:Int)) (Rtype.kind t)) #[.pointer (some ⟨2,43,none⟩)]).run Tryz.prog w = .ok (.int .u8 2) w:=fA
def Iv(a:Addr)(w:World):(ReflectliteValue.parts (.agg #[.pointer (some ⟨2,102,none⟩),.pointer (some a),.int .u64 150])).run Tryz.prog w = .ok (some (102,a,150)) w:=fA
def Rx(a p:Addr)(W:World)(ha:W.cell? a=some (.pointer (some p))) :
  (ReflectliteValue.method (ReflectliteValue.valueError "reflectlite.Value.IsNil" 0) ReflectliteValue.isNil #[.agg #[.pointer (some ⟨2,102,none⟩),.pointer (some a),.int .u64 150]]).run Tryz.prog W = .ok (.bool false) W:=by
 rw[rlm];simp only[Sem.run_bind,Iv,Result.andThen];simp[ReflectliteValue.isNil,loadVar,isAgg,underlying,underlying102,ha,Result.andThen]
def Yz(w:World):(ReflectliteType.method ReflectliteType.elem #[.agg #[.pointer (some ⟨2,102,none⟩)]]).run Tryz.prog w = .ok (.iface 215 (.agg #[.pointer (some ⟨2,43,none⟩)])) w:=fA
def EY (w:World):(ReflectliteType.relation "Implements" ReflectliteType.implements_ #[.agg #[.pointer (some ⟨2,43,none⟩)],.iface 215 (.agg #[.pointer (some ⟨2,99,none⟩)])]).run Tryz.prog w = .ok (.bool true) w:=fA
def OZ(v:Value)(w:World):(ReflectliteType.typeOf #[.iface 43 v]).run Tryz.prog w = .ok (.iface 215 (.agg #[.pointer (some ⟨2,43,none⟩)])) w:=fA
def EX (w:World):(ReflectliteType.relation "AssignableTo" ReflectliteType.assignableTo #[.agg #[.pointer (some ⟨2,43,none⟩)],.iface 215 (.agg #[.pointer (some ⟨2,43,none⟩)])]).run Tryz.prog w = .ok (.bool true) w:=fA
def Ld(e:Int)(w:World):(ReflectliteValue.unpack (.iface 43 (.int .i64 e))).run Tryz.prog w
  = .ok (.agg #[.pointer (some ⟨2,43,none⟩),.pointer (some ⟨w.heap.size,0,none⟩),.int .u64 130]) (w.alloc (.cells #[.int .i64 e] 43)):=fA
def OX(w:World):(Rtype.elem? 102).run Tryz.prog w = .ok (some 43) w:=fA
def akS(p:Addr)(w:World):(ReflectliteValue.mk 43 p ReflectliteValue.flagAddr).run Tryz.prog w = .ok (.agg #[.pointer (some ⟨2,43,none⟩),.pointer (some p),.int .u64 386]) w:=fA
def Rv(a p:Addr)(W:World)(ha:W.cell? a=some (.pointer (some p))) :
  (ReflectliteValue.method (ReflectliteValue.valueError "reflectlite.Value.Elem" 0) ReflectliteValue.elem #[.agg #[.pointer (some ⟨2,102,none⟩),.pointer (some a),.int .u64 150]]).run Tryz.prog W
   = .ok (.agg #[.pointer (some ⟨2,43,none⟩),.pointer (some p),.int .u64 386]) W:=by
 rw[rlm];simp only[Sem.run_bind,Iv,Result.andThen];simp[ReflectliteValue.elem,loadVar,isAgg,underlying,underlying102,ha,Result.andThen,OX,akS]
def OY(a:Addr)(w:World):(ReflectliteValue.parts (.agg #[.pointer (some ⟨2,43,none⟩),.pointer (some a),.int .u64 386])).run Tryz.prog w = .ok (some (43,a,386)) w:=fA
def Ry(a:Addr)(w:World):(ReflectliteValue.parts (.agg #[.pointer (some ⟨2,43,none⟩),.pointer (some a),.int .u64 130])).run Tryz.prog w = .ok (some (43,a,130)) w:=fA
def OW(w:World):(Rtype.directlyAssignable 43 43).run Tryz.prog w = .ok true w:=fA
def aeW(ta b:Addr)(e:Int)(uh:Value)(W:World)(hb:W.cell? b=some (.int .i64 e))(ht:W.cell? ta=some uh)(hf:W.frozen? ta=false) :
  (ReflectliteValue.set #[.agg #[.pointer (some ⟨2,43,none⟩),.pointer (some ta),.int .u64 386],.agg #[.pointer (some ⟨2,43,none⟩),.pointer (some b),.int .u64 130]]).run Tryz.prog W
   = .ok (.tuple #[]) (W.setCell ta (.int .i64 e)):=by
 have hz:=sizeOf43;have hadd:∀a:Addr,a.add 0=a:=fun a=>by simp[Addr.add]
 obtain⟨s1,s2,s3,s4,s5,rls⟩:=rls;rw[rls];simp only[Sem.run_bind,OY,Ry,Result.andThen];simp[ReflectliteValue.flagAddr,loadVar,isAgg,underlying,underlying43,hb,Result.andThen,OW,storeVar,Value.cells,storeCells,loadCells,loadCellsFrom,hz,hadd];rw[run_store Tryz.prog W ta _ _ (by rfl)]
 simp[ht,hf]
set_option maxHeartbeats 4000000 in
set_option maxRecDepth 40000 in
def akR(e:Int)(t:Addr)(uh:Value)(w:World)(hg:w.cell? ⟨0,0,none⟩=some (.iface 215 (.agg #[.pointer (some ⟨2,99,none⟩)])))(ht0:w.cell? t=some uh)(hf0:w.frozen? t=false) :
  Calls Tryz.prog 51 #[.iface 43 (.int .i64 e),.iface 102 (.pointer (some t))] w fun ev w'=>ev = .returned (.bool true)/\w'=((((w.alloc (.cells #[.pointer (some t)] 102)).alloc (.cells #[.pointer (some ⟨2,102,none⟩),.pointer (some ⟨w.heap.size,0,none⟩),.int .u64 150] 173)).alloc (.cells #[.pointer (some ⟨2,102,none⟩),.pointer (some ⟨w.heap.size,0,none⟩),.int .u64 150] 173)).alloc (.cells #[.int .i64 e] 43)).setCell t (.int .i64 e):=by
 have h6:=@run_callFunc_extern Tryz.prog 89 _ (fun args=>ReflectliteValue.unpack (args.getD 0 (.tuple #[]))) func89 fA fA fA fA
 have h7:=@run_callFunc_extern Tryz.prog 90 _ (ReflectliteValue.methodAny (ReflectliteValue.valueError "reflectlite.Value.Type" 0) (fun t _ _ _=>ReflectliteType.toType t)) func90 fA fA fA fA
 have h8:=@run_callFunc_extern Tryz.prog 91 _ (ReflectliteValue.method (ReflectliteValue.valueError "reflectlite.Value.IsNil" 0) ReflectliteValue.isNil) func91 fA fA fA fA;have h27:=@run_callFunc_extern Tryz.prog 352 _ (ReflectliteType.abiMethod fun t=>do pure (.int .u8 (<-Rtype.kind t))) func352 fA fA fA fA
 have h37:=@run_callFunc_extern Tryz.prog 362 _ (ReflectliteType.method ReflectliteType.elem) func362 fA fA fA fA;have h38:=@run_callFunc_extern Tryz.prog 363 _ (ReflectliteType.relation "Implements" ReflectliteType.implements_) func363 fA fA fA fA;have h10:=@run_callFunc_extern Tryz.prog 142 _ ReflectliteType.typeOf func142 fA fA fA fA;have h35:=@run_callFunc_extern Tryz.prog 360 _ (ReflectliteType.relation "AssignableTo" ReflectliteType.assignableTo) func360 fA fA fA fA;have h11:=@run_callFunc_extern Tryz.prog 143 _ (ReflectliteValue.method (ReflectliteValue.valueError "reflectlite.Value.Elem" 0) ReflectliteValue.elem) func143 fA fA fA fA;have h12:=@run_callFunc_extern Tryz.prog 144 _ ReflectliteValue.set func144 fA fA fA fA;have tO:=OZ;have mA:=za;have a25:=EX;have v25:=Ld;have f6:=Lc;have f7:=YC;have mK:=LN;have mE:=LM;have mI:=A9;have k27:=YA;have k25:=YB;have e27:=Yz;have i25:=EY;have n8:=Rx ⟨w.heap.size,0,none⟩ t ((w.alloc (.cells #[.pointer (some t)] 102)).alloc (.cells #[.pointer (some ⟨2,102,none⟩),.pointer (some ⟨w.heap.size,0,none⟩),.int .u64 150] 173)) dw
 have cJ:0<w.heap.size:=by
  rcases hU w.heap.size with h0|h
  ·simp[World.cell?,h0] at hg
  ·exact h
 have hg2:((w.alloc (.cells #[.pointer (some t)] 102)).alloc (.cells #[.pointer (some ⟨2,102,none⟩),.pointer (some ⟨w.heap.size,0,none⟩),.int .u64 150] 173)).cell? ⟨0,0,none⟩=some (.iface 215 (.agg #[.pointer (some ⟨2,99,none⟩)])):=by
  rw[World.cell?_alloc_lt _ _ ⟨0,0,none⟩ dw,World.cell?_alloc_lt _ _ ⟨0,0,none⟩ cJ]; exact hg
 have htl:t.block<w.heap.size:=by
  rcases bE t.block w.heap.size with h|h
  ·exact h
  ·simp[World.cell?,ir h] at ht0
 have el:=Rv ⟨w.heap.size,0,none⟩ t (((w.alloc (.cells #[.pointer (some t)] 102)).alloc (.cells #[.pointer (some ⟨2,102,none⟩),.pointer (some ⟨w.heap.size,0,none⟩),.int .u64 150] 173)).alloc (.cells #[.pointer (some ⟨2,102,none⟩),.pointer (some ⟨w.heap.size,0,none⟩),.int .u64 150] 173)) (by rw[World.cell?_alloc_lt _ _ ⟨w.heap.size,0,none⟩ gh]; simp)
 have st:=aeW t ⟨w.heap.size+1+1+1,0,none⟩ e uh ((((w.alloc (.cells #[.pointer (some t)] 102)).alloc (.cells #[.pointer (some ⟨2,102,none⟩),.pointer (some ⟨w.heap.size,0,none⟩),.int .u64 150] 173)).alloc (.cells #[.pointer (some ⟨2,102,none⟩),.pointer (some ⟨w.heap.size,0,none⟩),.int .u64 150] 173)).alloc (.cells #[.int .i64 e] 43))
  (by rw[World.cell?_alloc_at _ _ _ _ dw]; rfl)
  (by rw[World.cell?_alloc_lt _ _ t gh,World.cell?_alloc_lt _ _ t gh,World.cell?_alloc_lt _ _ t gh,World.cell?_alloc_lt _ _ t htl]; exact ht0)
  (by rw[World.frozen?_alloc_old _ _ t gh,World.frozen?_alloc_old _ _ t gh,World.frozen?_alloc_old _ _ t gh,World.frozen?_alloc_old _ _ t (gI htl)]; exact hf0)
 go_enter func51,ntmps51
 go_wp2
 refine wp_loop_rounds 1 ?_;rw[rounds_succ]
 go_wp2
 go_ret
 exact⟨rfl,rfl⟩
end
end Go.Proofs.YteoamaffclmdbaaGreatDoor
set_option linter.defProp false
namespace Go.Proofs.YteoamaffclmdbaaGreatDoor
open Go Go.Abs
def Gh:cD :=
 (.seq (.region [
 ob 36 (.mv (.tmp 8)),
 ob 37 (.chk (.tmp 36)),
 ob 38 (.yu 0 (.tmp 37)),
 ob 39 (.mL 10 (.tmp 38)),
 ob 40 (.mv (.tmp 8)),
 ob 41 (.chk (.tmp 40)),
 ob 42 (.yu 18 (.tmp 41)),
 ob 43 (.mL 7 (.tmp 42)),
 ⟨none,.store 10 (.tmp 4) (.tmp 39),none,true,false,[42],true⟩,
 ox (.store 7 (.tmp 5) (.tmp 43))] true [4,5]) (.ret))
def Gi:cD :=
 (.seq (.region [
 ob 33 (.mv (.tmp 6)),
 ob 34 (.mv (.tmp 8)),
 ob 35 (.sv (.tmp 33) [(.tmp 34)])] false [4,5,8]) Gh)
def Gj:cD :=
 (.seq (.region [
 ob 29 (.mL 10 (.tmp 2)),
 ob 30 (.mL 8 (.tmp 3)),
 ob 31 (.build [(.slice .c0 []),(.int .i64 0),(.int .i64 0),(.int .i64 0),(.slice .c0 []),(.slice .c0 []),(.slice .c0 []),(.int .i64 0),(.slice .c0 []),(.slice .c0 []),(.int .i64 0),(.int .i64 0),(.str []),(.str []),(.int .i64 0),(.int .i64 0),(.int .i64 0),(.slice .c0 []),(.int .i64 0),(.int .i64 0),(.int .i64 0),(.int .i64 0),(.int .i64 0),(.slice .c0 []),(.slice .c0 [])] [(0,10,(.tmp 29)),(10,8,(.tmp 30))]),
 ob 32 (.box (.tmp 31)),
 ob 8 (.mv (.tmp 32))] false [4,5,6,8]) Gi)
def Gk:cD :=
 (.seq (.region [
 ob 17 (.mv (.tmp 7)),
 ob 18 (.mv (.tmp 17)),
 og 19 18 true (.yu 1 (.tmp 3)),
 og 20 18 true (.rz (.tmp 19)),
 og 21 18 true (.bin .geq (.tmp 20) (.sY (.int .i64 0))),
 ob 22 (.pick (.tmp 18) (.tmp 21) (.sY (.bool false))),
 ob 23 (.mv (.tmp 22)),
 og 24 23 true (.yu 1 (.tmp 3)),
 og 25 23 true (.rz (.tmp 24)),
 og 26 23 true (.bin .lss (.tmp 25) (.sY (.int .i64 16))),
 ob 27 (.pick (.tmp 23) (.tmp 26) (.sY (.bool false))),
 ob 28 (.call 53 [(.tmp 27),(.sY (.int .i64 1))])] false [2,3,4,5,6]) Gj)
noncomputable def abE:Code:=match Tryz.f29.body with|some (.seq _ (.seq _ r))=>r|_ => .skip
def QT:Co:={ n:=44,own:=[],lv:=[(2,[2,3,4,5,6,7]),(3,[2,3,4,5,6]),(4,[4,5,6,8]),(5,[4,5,8]),(6,[4,5])],lp:=[] }
def wy:cD :=
 (.seq (.region [
 ⟨(some 11),.call 52 [],none,true,false,[],false⟩,
 ob 12 (.yu 0 (.tmp 3)),
 ob 13 (.rz (.tmp 12)),
 ob 14 (.look .i (.raw .nilFunc) true (.tmp 11) (.tmp 13)),
 ob 10 (.mv (.tmp 14)),
 ob 15 (.extract (.tmp 10) 0),
 ob 16 (.extract (.tmp 10) 1),
 ob 6 (.mv (.tmp 15)),
 ob 7 (.mv (.tmp 16))] true [2,3,4,5,6,7]) Gk)
def anc:comp Tryz.prog QT abE=some wy:=fA
noncomputable def abF:Code:=match Tryz.f50.body with|some (.seq _ (.seq _ (.cond _ (.seq _ (.seq _ r)) _)))=>r|_ => .skip
def aeb:Co:={ n:=20,own:=[],lv:=[(5,[])],lp:=[] }
def yt:cD :=
 (.region [
 ob 17 (.mL 10 (.tmp 0)),
 ob 18 (.rz (.tmp 5)),
 ob 19 (.build [(.int .i64 0),(.int .i64 0),(.int .i64 0),(.int .i64 0),(.int .i64 0),(.slice .c0 []),(.slice .c0 [])] [(0,1,(.tmp 18))]),
 ox (.store 10 (.tmp 1) (.tmp 17)),
 ox (.store 7 (.tmp 2) (.tmp 19))] false [])
def ane:comp Tryz.prog aeb abF=some yt:=fA
noncomputable def abD:Code:=match Tryz.f29.body with|some (.seq r _)=>r|_ => .skip
def aea:Co:={ n:=44,own:=[],lv:=[(0,[2,3,4,5])],lp:=[] }
def Mt:cD :=
 (.region [
 ob 2 (.box (.tmp 0)),
 ob 3 (.box (.tmp 1)),
 ob 4 (.yL [(.slice .c0 []),(.int .i64 0),(.int .i64 0),(.int .i64 0),(.slice .c0 []),(.slice .c0 []),(.slice .c0 []),(.int .i64 0),(.slice .c0 []),(.slice .c0 [])]),
 ob 5 (.yL [(.int .i64 0),(.int .i64 0),(.int .i64 0),(.int .i64 0),(.int .i64 0),(.slice .c0 []),(.slice .c0 [])])] false [2,3,4,5])
def anb:comp Tryz.prog aea abD=some Mt:=fA
end Go.Proofs.YteoamaffclmdbaaGreatDoor
namespace Go.Proofs.YteoamaffclmdbaaGreatDoor
open Go Go.Abs
def Kx(w:World):(Instr.typeAssert .nilIface 20 99 true).run Tryz.prog w = .ok (.tuple #[.nilIface,.bool false]) w:=fA
def Kw(v:Value)(w:World):(Instr.typeAssert (.iface 43 v) 20 99 true).run Tryz.prog w = .ok (.tuple #[.iface 43 v,.bool true]) w:=fA
set_option maxRecDepth 40000 in
def KH(p q r:Value)(w:World) :
  CallsD Tryz.prog 50 #[p,q,r] .returning w fun e u' w'=>e = .returned (.tuple #[])/\u' = .returning/\w'=w:=by
 refine callsD_of_wpS func50 rfl fun c₀ cs hu=>?_
 simp only[ntmps50,cZ,av,az,Nat.reduceAdd,Nat.reduceSub,jK,jL,kY,j9,aG,aO];apply wpS_seq;apply wpS_region;simp[wpOpsS,go_sem,recoverD,hu,Exit.thenS,Kx];apply wpS_seq;apply wpS_region;simp[wpOpsS,go_sem,Exit.thenS];refine wpS_cond (t:=false) (by simp[Act.eval]) ?_
 simp only[af,aD];refine wpS_of_wp (wp_skip ?_);cases c₀;simp_all [bodyPostS,results,Tryz.results50]
def GM(w:World)(o:Obj):(w.alloc o).heap=w.heap.push o:=rfl
def Wx{e:Int}{j:J}{M:aC}{w W:World}(hr:Rel j M w)(hsz:w.heap.size<W.heap.size)(hos:W.os=w.os)(ht:W.tape=w.tape)(hou:W.output=w.output)(ju:W.heap[w.heap.size]?=some (.cells #[.int .i64 e] 43 (0,0)))(hb:∀b,b<w.heap.size->W.heap[b]?=w.heap[b]?) :
  Rel (gF j M.length (some w.heap.size)) (M++[.cells [.int .i64 e]]) W/\Ext j M w (gF j M.length (some w.heap.size)) (M++[.cells [.int .i64 e]]) W:=by
 have hob:∀b,some w.heap.size=some b->w.heap.size<=b/\b<W.heap.size:=fun b h=>by injection h with h; omega
 have q:Quiet w W:=⟨aH,hos,ht,hou⟩;refine⟨hr.push hob q hb (fun _=>⟨_,rfl,fun j' M' _=>⟨_,_,ju,rfl,fun i c v hc hv=>?_⟩⟩) (fun sz n b h=>by cases h),Ext.push (fun b h=>(hob b h).1) q hb⟩
 match i with
 |0 =>
  simp at hc hv;subst hc; subst hv;exact .plain (.int _ _)
 |i+1=>simp at hc
def OB{e:Int}{j:J}{M:aC}{w:World}(hr:Rel j M w)(hG:sO j M w){p q r:Value}{xp xq xr:ag}(hp:gu j M w xp p)(hq:gu j M w xq q)(hr':gu j M w xr r){o:Out}
  (ho:eO (aq gJ) yt [(0,xp),(1,xq),(2,xr),(5,.ptr M.length 0)] (M++[.cells [.int .i64 e]])=some o) (hn:o.e = .normal) :
  CallsD Tryz.prog 50 #[p,q,r] (.panicking [{ v := .iface 43 (.int .i64 e),recovered:=false }]) w fun ed u' w' =>
   ed = .returned (.tuple #[])/\u' = .panicking [{ v := .iface 43 (.int .i64 e),recovered:=true }]/\∃j',Rel j' o.mem w'/\Ext j M w j' o.mem w':=by
 have hg:=(hG.g 0 [Iw] 0 Iw rfl rfl).2;have cJ:0<w.heap.size:=(hG.g 0 [Iw] 0 Iw rfl rfl).1.lt;refine callsD_of_wpS func50 rfl fun c₀ cs hu=>?_
 simp only[ntmps50,cZ,av,az,Nat.reduceAdd,Nat.reduceSub,jK,jL,kY,j9,aG,aO];apply wpS_seq;apply wpS_region;simp[wpOpsS,go_sem,recoverD,hu,Exit.thenS,Kw];apply wpS_seq;apply wpS_region;simp[wpOpsS,go_sem,Exit.thenS];refine wpS_cond (t:=true) (by simp[Act.eval]) ?_
 simp only[aE];refine wpS_of_wp ?_;refine wp_seq (wp_region ?_);simp[wpOps,go_sem,Exit.then]
 refine .inl (wp_seq (wp_seq (wp_region ?_)));simp[wpOps,go_sem,Exit.then]
 repeat' refine Or.inl ?_
 refine(akR e ⟨w.heap.size,0,none⟩ (.int .i64 0) _ ?_ ?_ ?_).mono ?_
 ·rw[World.cell?_alloc_lt _ _ ⟨0,0,none⟩ cJ]; exact hg
 ·simp
 ·simp
 rintro ev w' ⟨rfl,rfl⟩;simp[go_sem];refine .inl (wp_cond (t:=false) ?_ ?_)
 ·simp[Act.eval]
 simp only[af,aD];refine wp_skip ?_;simp only[Exit.then]
 have hR:=Wx (e:=e) hr (W:=((((w.alloc (.cells #[.int .i64 e] 43)).alloc (.cells #[.pointer (some ⟨w.heap.size,0,none⟩)] 102)).alloc (.cells #[.pointer (some ⟨2,102,none⟩),.pointer (some ⟨w.heap.size+1,0,none⟩),.int .u64 150] 173)).alloc (.cells #[.pointer (some ⟨2,102,none⟩),.pointer (some ⟨w.heap.size+1,0,none⟩),.int .u64 150] 173)).alloc (.cells #[.int .i64 e] 43))
  (by simp only[GM,Array.size_push]; omega) rfl rfl rfl (by
   have h2:w.heap.size≠w.heap.size+1+1:=aH;have h3:w.heap.size≠w.heap.size+1+1+1:=aH;have h4:w.heap.size≠w.heap.size+1+1+1+1:=aH;simp only[GM]; simp[fW,h2,h3,h4]) (fun b hb=>by
   have h1:b≠w.heap.size:=aH;have h2:b≠w.heap.size+1:=aH;have h3:b≠w.heap.size+1+1:=aH;have h4:b≠w.heap.size+1+1+1:=aH;have h5:b≠w.heap.size+1+1+1+1:=aH;simp only[GM]; simp[fW,h1,h2,h3,h4,h5])
 have hG':=hG.mono hR.2;have key:=wpIn_wide.1 (mG (rd:=none) (nd:=0) fA Ma abF ane ho hR.1 hG' (a:={ tmps := #[p,q,r,.iface 43 (.int .i64 e),.bool true,.pointer (some ⟨w.heap.size,0,none⟩),.tuple #[.iface 43 (.int .i64 e),.bool true],.iface 43 (.int .i64 e),.tuple #[.iface 43 (.int .i64 e),.bool true],.iface 43 (.int .i64 e),.bool true,.bool true,.iface 43 (.int .i64 e),.iface 102 (.pointer (some ⟨w.heap.size,0,none⟩)),.bool true,.bool false,undef,undef,undef,undef],defers:=[] }) ?_ rfl)
 ·refine wp_mono key ?_;rintro ex a' w' ⟨h1,h2,h3,j',h4,h5,h6⟩;rw[hn] at h1;simp only[rN] at h1;subst h1;simp[bodyPostS,results,Tryz.results50,h3];exact⟨j',h4,hR.2.trans h6⟩
 ·refine⟨fun t=>?_,hG'⟩
  match t with
  |0=>exact hp.mono hR.2
  |1=>exact hq.mono hR.2
  |2=>exact hr'.mono hR.2
  |5=>exact .ptr dw ⟨_,kc⟩ (by simp[gF])
  |3=>exact .any _
  |4=>exact .any _
  |t+6=>exact .any _
end Go.Proofs.YteoamaffclmdbaaGreatDoor
namespace Go.Abs
open Go
variable [kx]
def Wz{a:Act}{d:Option Nat}{v:Value}{t:Nat}(h:d≠some t):(a.put d v).tmps.getD t undef=a.tmps.getD t undef:=by
 cases d with
 |none=>rfl
 |some s =>
  have hne:s≠t:=fun e=>h (by rw[e])
  simp[Act.put,dx,fF hne]
def SL{F:Fence}{n:Nat}{P:Program}{ops:Array Oper}{Q:Exit->Act->World->Prop}{ks:List Nat}{v0:Nat->Value}:∀(l:List Nat)(a:Act)(w:World),
  (∀i o,i∈l->ops[i]?=some o->∀t,t∈ks->o.dst≠some t)->(∀t,t∈ks->a.tmps.getD t undef=v0 t)->wpOpsIn F n P ops Q l a w->wpOpsIn F n P ops (fun e a' w'=>Q e a' w'/\(e = .outgrown\/∀t,t∈ks->a'.tmps.getD t undef=v0 t)) l a w:=by
 intro l;induction l with
 |nil=>exact fun a w _ hv h=>⟨h,.inr hv⟩
 |cons i rest ih =>
  intro a w hd hv h;have hd':∀i o,i∈rest->ops[i]?=some o->∀t,t∈ks->o.dst≠some t:=fun i o hi=>hd i o (bw _ hi)
  simp only[wpOpsIn] at h ⊢;cases ho:ops[i]? with
  |none=>rw[ho] at h; exact ih a w hd' hv h
  |some o =>
   rw[ho] at h;have hdo:=hd i o bD ho;have hp:∀(a:Act) v,(∀t,t∈ks->a.tmps.getD t undef=v0 t)->∀t,t∈ks->(a.put o.dst v).tmps.getD t undef=v0 t:=fun a v h t ht=>(Wz (hdo t ht)).trans (h t ht)
   simp only at h ⊢;split at h
   ·rename_i hw;rw[aW hw];refine⟨h.1,?_⟩;have h:=h.2;unfold Oper.uponIn at h ⊢;split at h
    ·exact ih _ _ hd' (hp _ _ hv) h
    ·exact ih _ _ hd' (hp _ _ hv) h
    ·exact ih _ _ hd' (hp _ _ hv) h
    ·refine⟨h.1,h.2.mono fun e w' h=>?_⟩
     cases e with
     |returned v=>exact ih _ _ hd' (hp _ _ hv) h
     |panicked c=>exact⟨h,.inr hv⟩
     |outgrown=>obtain⟨a1,w1,h⟩:=h; exact⟨a1,w1,h,.inl rfl⟩
    ·exact⟨h.1,h.2.mono fun v w' h=>ih _ _ hd' (hp _ _ hv) h⟩
    ·refine⟨h.1,h.2.mono fun e w' h=>?_⟩
     cases e with
     |returned v=>exact ih _ _ hd' (hp _ _ hv) h
     |panicked c=>exact⟨h,.inr hv⟩
     |outgrown=>obtain⟨a1,w1,h⟩:=h; exact⟨a1,w1,h,.inl rfl⟩
    ·exact⟨h,.inr hv⟩
    ·exact h.elim
   ·rename_i hw;rw[aP hw];exact⟨h.1,ih _ _ hd' (hp _ _ hv) h.2⟩
def CC(ks:List Nat)(bq:Env)(o:Out):Out:=match o.e with
 | .nD v=>⟨.nD v,jn bq ks,o.mem⟩
 |_=>o
noncomputable def rH(C:eR)(ks:List Nat):cD->Env->aC->Option Out
 | .seq x y,bq,M=>bI (rH C ks x bq M) fun o=>tY o (rH C ks y)
 | .region ops d live,bq,M=>bI (eO C (.region ops d live) bq M) fun o=>some (if d then o else CC ks bq o)
 | .rM t c,bq,M=>rH C ks c (Ln M t bq) (qG M (ia bq t).ids)
 |c,bq,M=>eO C c bq M
def IW(ks:List Nat):Code->Bool
 | .seq x y=>IW ks x&&IW ks y
 | .region _ ops _=>ops.toList.all fun o=>match o.dst with|some d => !ks.contains d|none=>true
 |_=>true
def JT{P:Program}{C:eR}{A:Co}(hmix:P.follows .mixedOrders=true)(hC:nI P C){rd:Option Nat}{nd:Nat}{ks:List Nat}:∀(c:Code){ac:cD},comp P A c=some ac->IW ks c=true->∀ {bq:Env} {M:aC} {o:Out},rH C ks ac bq M=some o ->
  ∀ {j:J} {w:World} {a:Act},Rel j M w->sO j M w->cn j M w bq a->a.tmps.size=A.n->c.wpIn (Wd rd) nd P (X2 A j M w a o) a w:=by
 intro c;induction c with
 |seq x y ihx ihy =>
  intro ac hc hf bq M o h j w a hr hG he hs;simp only[comp] at hc;obtain⟨ax,hx,hc⟩:=bf hc;obtain⟨ay,hy,hc⟩:=bf hc;cases hc;simp only[IW,bu] at hf;simp only[rH] at h;obtain⟨o1,h1,h⟩:=bp h;refine wpIn_seq (wpIn_mono (ihx hx hf.1 h1 hr hG he hs) ?_);rintro e a1 w1 ⟨he1,hs1,hd1,j1,r1,e1,x1⟩;rcases tZ h with ⟨hn,h2⟩|⟨hn,h2⟩
  ·rw[hn] at he1;subst he1;obtain⟨env',M',h3,r3,e3,x3⟩:=MZ (F:=rH C ks) (fun _ _ _ _=>rfl) h2 r1 e1
   refine wpIn_mono (ihy hy hf.2 h3 r3 (hG.mono (x1.trans x3)) e3 hs1) ?_;rintro e a2 w2 ⟨he2,hs2,hd2,j2,r2,e2,x2⟩;exact⟨he2,hs2,hd2.trans hd1,j2,r2,e2,(x1.trans x3).trans x2⟩
  ·subst h2;have:rN o.e ≠ .normal:=by cases ho:o.e<;>simp_all [rN]
   subst he1
   cases hx:rN o.e<;>first
    |exact absurd hx this
    |exact⟨hx.symm,hs1,hd1,j1,r1,e1,x1⟩
 |region id ops draw =>
  intro ac hc hf bq M o h j w a hr hG he hs;cases draw with
  |true =>
   have hc0:=hc;simp only[comp,aE] at hc;obtain⟨l0,hl0,hc⟩:=bf hc;obtain⟨l,hl,hc⟩:=bf hc;cases hc;simp only[rH,aE] at h;obtain⟨o1,h1,h⟩:=bp h;cases h;exact mG hmix hC _ hc0 h1 hr hG he hs
  |false =>
   have hc0:=hc;simp only[comp,af,aD] at hc;obtain⟨l,hl,hc⟩:=bf hc;cases hc;simp only[rH,af,aD] at h;obtain⟨o1,h1,h⟩:=bp h;cases h;simp only[eO] at h1;obtain⟨x,hx,h1⟩:=bp h1;cases h1
   have hdst:∀i o,i∈List.range ops.size->ops[i]?=some o->∀t,t∈ks->o.dst≠some t:=by
    intro i o _ hio t ht hd;simp only[IW,bM] at hf;have:=hf o (Array.mem_toList_iff.2 (Array.mem_of_getElem? hio));rw[hd] at this;simp[ht] at this
   refine wpIn_mono (wpIn_region (SL (v0:=fun t=>a.tmps.getD t undef) _ a w hdst (fun _ _=>rfl) (by
    rw[lu];exact x6 hC (grow:=[]) ops.toList 0 dw hl hx hr hG he hs fun a' w' j' h1 h2 h3 h4 h5=>Bj (live:=find A.lv id) h1 h2 h3 h4 h5))) ?_
   rintro e a1 w1 ⟨⟨he1,hs1,hd1,j1,r1,e1,x1⟩,hk⟩;clear hx;generalize x.pO (find A.lv id)=y at he1 r1 e1 x1 ⊢;cases hye:y.e with
   |nD v =>
    have hp:CC ks bq y=⟨.nD v,jn bq ks,y.mem⟩:=by unfold CC; rw[hye]
    rw[hp];have hk':=hk.resolve_left (by rw[he1,hye]; simp[rN])
    refine⟨by rw[he1,hye],hs1,hd1,j1,r1,⟨fun t=>?_,hG.mono x1⟩,x1⟩
    rw[yV];split
    ·rename_i ht;rw[hk' t ht];exact(he.at' t).mono x1
    ·exact .any _
   |normal =>
    have hp:CC ks bq y=y:=by unfold CC; rw[hye]
    rw[hp]; exact⟨he1,hs1,hd1,j1,r1,e1,x1⟩
   |ret =>
    have hp:CC ks bq y=y:=by unfold CC; rw[hye]
    rw[hp]; exact⟨he1,hs1,hd1,j1,r1,e1,x1⟩
   |exit i =>
    have hp:CC ks bq y=y:=by unfold CC; rw[hye]
    rw[hp]; exact⟨he1,hs1,hd1,j1,r1,e1,x1⟩
 |_ =>
  intro ac hc hf bq M o h j w a hr hG he hs;refine mG hmix hC _ hc (o:=o) ?_ hr hG he hs;simp only[comp] at hc
  first
   |(cases hc; exact h)
   |(obtain⟨_,_,hc⟩:=bf hc; injection hc with hc; unfold Nl at hc; split at hc<;>subst hc<;>exact h)
   |(obtain⟨_,_,hc⟩:=bf hc; cases hc; exact h)
   |(obtain⟨_,_,hc⟩:=bf hc; obtain⟨_,_,hc⟩:=bf hc; obtain⟨_,_,hc⟩:=bf hc; cases hc; exact h)
   |cases hc
end Go.Abs
namespace Go.Proofs.YteoamaffclmdbaaGreatDoor
open Go Go.Abs
def aa4:List sN:=[.dG 4 10,.dG 5 7]
noncomputable def MA(o1 o2:Out):Option (ag×aC) :=
 match o2.e with
 | .ret=>bI (sV o2.bq o2.mem aa4) fun l=>some ((Abs.one l).lA 0 o2.mem,iU 0 o2.mem)
 | .nD (.iface 43 (.int .i64 e)) =>
  bI (eO (aq gJ) yt [(0,ia o1.bq 2),(1,ia o1.bq 4),(2,ia o1.bq 5),(5,.ptr o2.mem.length 0)] (o2.mem++[.cells [.int .i64 e]])) fun o3 =>
  match o3.e with
  | .normal=>bI (sV o2.bq o3.mem aa4) fun l=>some ((Abs.one l).lA 0 o3.mem,iU 0 o3.mem)
  |_=>none
 |_=>none
noncomputable def pDo:List ag->aC->Option (ag×aC):=fun args M =>
 match M with
 |_::_=>none
 | []=>if args.length=2 then
   bI (eO (aq gJ) Mt (eF 0 args) []) fun o1 =>
   match o1.e with
   | .normal=>bI (rH (aq gJ) [4,5] wy (jn o1.bq [2,3,4,5]) o1.mem) fun o2=>MA o1 o2
   |_=>none
  else none
def Rm{args:List ag}{M:aC}{x:ag×aC}(h:pDo args M=some x):dp Tryz.prog 29 args M x:=by
 unfold pDo at h;split at h
 ·cases h
 split at h
 rotate_left
 ·cases h
 rename_i dR;obtain⟨o1,ho1,h⟩:=bp h;split at h
 rotate_left
 ·cases h
 rename_i hn1;obtain⟨o2,ho2,h⟩:=bp h;intro j w vs hr hG hvl hv;refine calls_of_wp_defers func29 rfl ?_;refine wp_seq ?_;have hsz:(vs++Array.replicate (Tryz.f29.ntmps-vs.size) undef).size=44:=by rw[ntmps29]; simp; omega
 have he:cn j [] w (eF 0 args) { tmps:=vs++Array.replicate (Tryz.f29.ntmps-vs.size) undef,defers:=[] }:=by
  refine⟨fun t=>?_,hG⟩
  rw[AU,aW (cR _),bT];rcases bE t args.length with ht|ht
  ·have h1:=ai ht;have cJ:t<vs.size:=aH;have h2:=bg cJ;rw[h1];have h3:=hv t _ _ h1 h2
   have:(vs++Array.replicate (Tryz.f29.ntmps-vs.size) undef).getD t undef=vs[t]:=by
    simp[dx,cj cJ,h2]
   rw[this];exact h3
  ·rw[eS ht]; exact .any _
 refine wp_mono (wpIn_wide.1 (mG (rd:=none) (nd:=0) fA Ma abD anb ho1 hr hG he hsz)) ?_;rintro ex a1 w1 ⟨h1,h2,h3,j1,r1,e1,x1⟩;rw[hn1] at h1;simp only[rN] at h1;subst h1;simp only[Exit.then]
 refine wp_seq (wp_region ?_);obtain⟨t1,d1⟩:=a1;simp only at h2 h3;subst h3;have hmf:∀(fn:Fn)(first cap:Array Value)(w:World),(Instr.makeFunc fn first cap).run Tryz.prog w = .ok (.func fn first cap) w:=fun _ _ _ _=>rfl
 have h2':t1.size=44:=h2;have h9:9<t1.size:=aH;simp[wpOps,go_sem,Exit.then,hmf,h9,Array.getElem?_setIfInBounds,hV]
 repeat' refine Or.inl ?_
 have key:∀d:List Deferred,cn j1 o1.mem w1 (jn o1.bq [2,3,4,5]) { tmps:=t1.setIfInBounds 9 (.func (.func 50) #[] #[t1[2]?.getD undef,t1[4]?.getD undef,t1[5]?.getD undef]),defers:=d }:=fun d=>by
  refine⟨fun t=>?_,e1.gl⟩
  rw[yV];split
  ·rename_i hm;have hne:9≠t:=by rintro rfl; simp at hm
   have:=e1.at' t;simp only[dx] at this ⊢;rw[fF hne];exact this
  ·exact .any _
 refine wp_mono (wpIn_wide.1 (JT (rd:=none) (nd:=0) fA Ma abE anc fA ho2 r1 e1.gl (key _) (by simpa[QT] using h2'))) ?_
 rintro ex a2 w2 ⟨g1,g2,g3,j2,r2,e2,x2⟩;have hp:=(e1.at' 2).mono x2;have hq:=(e1.at' 4).mono x2;have hs:=(e1.at' 5).mono x2;simp only[dx] at hp hq hs;have hb0:0<=o2.mem.length:=cR _
 have fin:∀(j3:J)(M3:aC)(w3:World)(y:ag×aC),Rel j3 M3 w3->cn j3 M3 w3 o2.bq a2->Ext j [] w j3 M3 w3->(bI (sV o2.bq M3 aa4) fun l=>some ((Abs.one l).lA 0 M3,iU 0 M3))=some y ->
   ∃v,(results f29 a2.tmps).run Tryz.prog w3 = .ok v w3/\vP j [] w y (.returned v) w3:=by
  intro j3 M3 w3 y r3 e3 x3 hy;obtain⟨l,hl,hy⟩:=bp hy;cases hy;obtain⟨us,u1,u2,u3⟩:=CT (P:=Tryz.prog) (rs:=Tryz.f29.results.toList) r3 e3 (by kernel_rfl:H6 Tryz.prog Tryz.f29.results.toList=some aa4) hl
  have hres:(results f29 a2.tmps).run Tryz.prog w3 = .ok (if h:us.toArray.size=1 then us.toArray[0] else .tuple us.toArray) w3:=by
   unfold results;rw[lL,Sem.run_bind,Sem.run_map];refine im (congrArg (fun r:Result (List Value)=>Result.andThen (r.andThen fun a w' => .ok a.toArray w') _) (im ?_ u1)) rfl
   rfl
  exact⟨_,hres,.inl ⟨_,rfl,j3,zt (cR _) r3,wW (cR _) dw x3,Fk (cR _) r3 (Nv u2 u3)⟩⟩
 unfold MA at h;split at h
 ·rename_i hret;rw[hret] at g1;simp only[rN] at g1;subst g1;simp only[bodyPostD,g3];refine leaves_cons (f:=50) (args := #[t1[2]?.getD undef,t1[4]?.getD undef,t1[5]?.getD undef]) dw (by simp[go_sem]) ?_
  refine(KH _ _ _ _).mono ?_;rintro ed u' w'' ⟨rfl,rfl,rfl⟩;simp only[Leaves,settle];exact fin _ _ _ _ r2 e2 (x1.trans x2) h
 ·rename_i e hpan;obtain⟨o3,ho3,h⟩:=bp h;split at h
  rotate_left
  ·cases h
  rename_i hn3;rw[hpan] at g1;simp only[rN] at g1;subst g1;simp only[bodyPostD,g3];refine leaves_cons (f:=50) (args := #[t1[2]?.getD undef,t1[4]?.getD undef,t1[5]?.getD undef]) dw (by simp[go_sem]) ?_
  refine(OB r2 e2.gl hp hq hs ho3 hn3).mono ?_;rintro ed u' w'' ⟨rfl,rfl,j3,r3,x3⟩;simp only[Leaves,settle];exact fin _ _ _ _ r3 (e2.mono x3) ((x1.trans x2).trans x3) h
 ·cases h
noncomputable def Fa:zo:=mb gJ 29 pDo
def NS:vi Tryz.prog Fa:=pW NT fA (fun h=>Rm h)
def Xj{f:Nat}{a:List ag}{M:aC}{x:ag×aC}(h:aq gJ f a M=some x):aq Fa f a M=some x:=qX rfl rfl h
def lD{f:Nat}{vs:List ag}{M:aC}{x:ag×aC}(h:aR (aq gJ) f vs M=some x):aR (aq Fa) f vs M=some x:=by
 obtain⟨a,B,y,h1,h2⟩:=pL h;exact h2 _ (Xj h1)
section
attribute [local irreducible] eX fJ lj gK dY kr aq aR cp bI
def sX:AM Nat:=[(1,93),(2,94),(3,95),(4,96),(5,97),(6,98),(7,99),(8,100),(9,101),(10,102),(11,103),(12,104),(13,105),(14,106),(15,107),(16,108),(17,109)]
def fnV(K:Nat):ag := .raw (.func (.func K) ⟨[]⟩ ⟨[]⟩)
def c52:aq gJ 52 [] []=some (.kf (BP sX) (o9 fnV sX),[]):=by
 refine aB ?_;simp only[alq,E52,xj,km,Int.reduceBEq,Int.reduceEq,↓reduceIte,aw,EW,seval];rfl
end
def td(K:Nat)(f:aa)(o:jC):aa×vN×Int :=
 if K=93 then B5 f o else if K=94 then B6 f o else if K=95 then B4 f o else if K=96 then uR f o else if K=97 then uO f o else if K=98 then F2 f o else if K=99 then Ch f o else if K=100 then B7 f o else if K=101 then w6 f o else if K=102 then Gm f o else if K=103 then xH f o else if K=104 then Ij f o else if K=105 then xe f o else if K=106 then Cj f o else if K=107 then Gd f o else if K=108 then BN f o else if K=109 then AE f o else (f,gw,0)
def Ro{k:Int}{K:Nat}(hk:eZ sX k=some K){f:aa}{o:jC}(hf:vf f)(ho:sg o):pn K f o (td K f o):=by
 have hm:=xl _ _ _ hk;simp only[sX,bJ,pY,List.not_mem_nil,or_false] at hm;rcases hm with ⟨_,rfl⟩|⟨_,rfl⟩|⟨_,rfl⟩|⟨_,rfl⟩|⟨_,rfl⟩|⟨_,rfl⟩|⟨_,rfl⟩|⟨_,rfl⟩|⟨_,rfl⟩|⟨_,rfl⟩|⟨_,rfl⟩|⟨_,rfl⟩|⟨_,rfl⟩|⟨_,rfl⟩|⟨_,rfl⟩|⟨_,rfl⟩|⟨_,rfl⟩
 ·exact c93 f o hf ho
 ·exact c94 f o hf ho
 ·exact c95 f o hf ho
 ·exact c96 f o hf ho
 ·exact c97 f o hf ho
 ·exact c98 f o hf ho
 ·exact c99 f o hf ho
 ·exact apn f o hf ho
 ·exact apo f o hf ho
 ·exact apq f o hf ho
 ·exact apr f o hf ho
 ·exact aps f o hf ho
 ·exact apt f o hf ho
 ·exact apu f o hf ho
 ·exact apv f o hf ho
 ·exact apw f o hf ho
 ·exact apx f o hf ho
def xw(c:Bool)(b:Bool)(M:aC)(k:Option Out):EJ c ((.bool b),M) k=k:=rfl
def Aa(c:Bool)(i:IntKind)(n:Int)(M:aC)(k:Option Out):EJ c ((.int i n),M) k=k:=rfl
def Ae(c:Bool)(b:Bytes)(M:aC)(k:Option Out):EJ c ((.str b),M) k=k:=rfl
def vE(c:Bool)(t:Tk)(l:List ag)(M:aC)(k:Option Out):EJ c ((.slice t l),M) k=k:=rfl
def z7(c:Bool)(l:List ag)(M:aC)(k:Option Out):EJ c ((.agg l),M) k=k:=rfl
def vF(c:Bool)(l:List ag)(M:aC)(k:Option Out):EJ c ((.tuple l),M) k=k:=rfl
def Ac(c:Bool)(i n:Nat)(M:aC)(k:Option Out):EJ c ((.ptr i n),M) k=k:=rfl
def xx(c:Bool)(a b:List ag)(M:aC)(k:Option Out):EJ c ((.kf a b),M) k=k:=rfl
def Ad(c:Bool)(v:Value)(M:aC)(k:Option Out):EJ c ((.raw v),M) k=k:=rfl
def z8(c:Bool)  (M:aC)(k:Option Out):EJ c (.any,M) k=k:=rfl
def Ab(v:Value)(M:aC)(k:Option Out):EJ true (.nD v,M) k=some ⟨.nD v,[],M⟩:=rfl
def DC(e:Env)(M:aC)(k:Env->aC->Option Out):tY ⟨.normal,e,M⟩ k=k e M:=rfl
def DD(v:Value)(e:Env)(M:aC)(k:Env->aC->Option Out):tY ⟨.nD v,e,M⟩ k=some ⟨.nD v,e,M⟩:=rfl
def Sm(e:Env)(M:aC)(k:Env->aC->Option Out):tY ⟨.ret,e,M⟩ k=some ⟨.ret,e,M⟩:=rfl
def SN(live:List Nat)(e:Env)(M:aC):Out.pO live ⟨.ret,e,M⟩=⟨.ret,e,M⟩:=rfl
def Wt(ks:List Nat)(bq e:Env)(M:aC):CC ks bq ⟨.ret,e,M⟩=⟨.ret,e,M⟩:=rfl
def DS(live:List Nat)(e:Env)(M:aC):Out.pO live ⟨.normal,e,M⟩=⟨.normal,jn e live,M⟩:=rfl
def DT(live:List Nat)(v:Value)(e:Env)(M:aC):Out.pO live ⟨.nD v,e,M⟩=⟨.nD v,e,M⟩:=rfl
def Eg(ks:List Nat)(bq e:Env)(M:aC):CC ks bq ⟨.normal,e,M⟩=⟨.normal,e,M⟩:=rfl
def Eh(ks:List Nat)(bq:Env)(v:Value)(e:Env)(M:aC):CC ks bq ⟨.nD v,e,M⟩=⟨.nD v,jn bq ks,M⟩:=rfl
def H3:(false==true)=false:=rfl
def H4:(true==false)=false:=rfl
def H2:(false==false)=true:=rfl
def H5:(true==true)=true:=rfl
def hZ(e:Int):vN:=⟨e,0,0,0,0,[],[]⟩
def pf(f:aa)(o:jC):aa×vN :=
 match eZ sX o.kind with
 |none=>(f,hZ 1)
 |some K=>if 0<=o.bC/\o.bC<16 then (if (td K f o).2.2=0 then ((td K f o).1,(td K f o).2.1) else (f,hZ (td K f o).2.2)) else (f,hZ 1)
def rh:List ag:=[.slice .c0 [],.int .i64 0,.int .i64 0,.int .i64 0,.slice .c0 [],.slice .c0 [],.slice .c0 [],.int .i64 0,.slice .c0 [],.slice .c0 []]
def qZ:List ag:=[.int .i64 0,.int .i64 0,.int .i64 0,.int .i64 0,.int .i64 0,.slice .c0 [],.slice .c0 []]
def yo(f:aa)(o:jC):aC:=[.cells (cf f),.cells (eT o),.cells rh,.cells qZ]
def uJ:Env:=[(2,.ptr 0 0),(3,.ptr 1 0),(4,.ptr 2 0),(5,.ptr 3 0)]
def BO(a:vN)(x y:ag):List ag:=[.int .i64 a.err,.int .i64 a.ar,.int .i64 a.kind,.int .i64 a.n,.int .i64 a.m,x,y]
section
attribute [local irreducible] aq aR cp bI
def ahy(f:aa)(o:jC):eO (aq gJ) Mt (eF 0 [.agg (cf f),.agg (eT o)]) []=some ⟨.normal,uJ,yo f o⟩:=by
 simp only[Mt,cf,eT,yo,uJ,rh,qZ,eO,gr,tY,xu,EJ,EV,seval];rfl
def k52:=cP c52
def WT(f:aa)(o:jC)(e:Int):eO (aq gJ) yt [(0,cv 0),(1,cv 2),(2,cv 3),(5,cv 4)] (yo f o++[cA [aF e]]) =
  some ⟨.normal,[],cA (cf f) :: cA (eT o) :: cA (cf f) :: cA (BO (hZ e) (.slice .c0 []) (.slice .c0 []))::[cA [aF e]]⟩:=by
 simp only[yt,cf,eT,yo,rh,qZ,BO,hZ,eO,gr,tY,xu,EJ,EV,seval];rfl
def ahC(f:aa)(o:jC)(b:cL)(e:Int):eO (aq gJ) yt [(0,cv 0),(1,cv 2),(2,cv 3),(5,cv 5)] (yo f o++[b]++[cA [aF e]]) =
  some ⟨.normal,[],cA (cf f) :: cA (eT o) :: cA (cf f) :: cA (BO (hZ e) (.slice .c0 []) (.slice .c0 []))::[b,cA [aF e]]⟩:=by
 simp only[yt,cf,eT,yo,rh,qZ,BO,hZ,eO,gr,tY,xu,EJ,EV,seval];rfl
def ahA(f:aa)(o:jC)(h:eZ sX o.kind=none):rH (aq gJ) [4,5] wy (jn uJ [2,3,4,5]) (yo f o)=some ⟨.nD (.iface 43 (.int .i64 1)),[(4,.ptr 2 0),(5,.ptr 3 0)],yo f o⟩:=by
 have g:=oZ fnV sX o.kind;rw[h] at g;have q:=fun M=>Qw false 1 rfl M
 simp only[af,aD,gd] at q;have q0:=k52;simp only[wy,Gh,Gi,Gj,Gk,cf,eT,yo,uJ,rH,eO,gr,xw,Aa,Ae,vE,z7,vF,Ac,xx,Ad,z8,Ab,DC,DD,DS,DT,Eg,Eh,H3,H4,H2,H5,af,aE,aD,mapOf.eq_2,ph,q0,g,q,oH,iK,dr,EV,seval]
def ahz(f:aa)(o:jC)(K:Nat)(h:eZ sX o.kind=some K)(hc:¬(0<=o.bC/\o.bC<16)):rH (aq gJ) [4,5] wy (jn uJ [2,3,4,5]) (yo f o)=some ⟨.nD (.iface 43 (.int .i64 1)),[(4,.ptr 2 0),(5,.ptr 3 0)],yo f o⟩:=by
 have g:=oZ fnV sX o.kind;rw[h] at g;have q:=fun M=>Qw false 1 rfl M
 simp only[af,aD,gd] at q;have q0:=k52
 by_cases h1:0<=o.bC
 ·have h2:(o.bC<16)=False:=oyf;have h1:(0<=o.bC)=True:=by simp only[fx,ja]; exact h1
  simp only[wy,Gh,Gi,Gj,Gk,cf,eT,yo,uJ,rH,eO,gr,xw,Aa,Ae,vE,z7,vF,Ac,xx,Ad,z8,Ab,DC,DD,DS,DT,Eg,Eh,H3,H4,H2,H5,af,aE,aD,mapOf.eq_2,ph,q0,g,q,bj,bX,fnV,h1,h2,EV,seval]
 ·have h1:(0<=o.bC)=False:=by simp only[fx,p6]; exact h1
  simp only[wy,Gh,Gi,Gj,Gk,cf,eT,yo,uJ,rH,eO,gr,xw,Aa,Ae,vE,z7,vF,Ac,xx,Ad,z8,Ab,DC,DD,DS,DT,Eg,Eh,H3,H4,H2,H5,af,aE,aD,mapOf.eq_2,ph,q0,g,q,bj,bX,fnV,h1,EV,seval]
def ahB(f:aa)(o:jC)(K:Nat)(r:aa×vN×Int)(h:eZ sX o.kind=some K)(hc0:0<=o.bC)(hc1:o.bC<16)(hd:pn K f o r) :
  ∃x y,Row x (r.2.1.names.map ag.str)/\Row y (r.2.1.data.map qW)/\rH (aq gJ) [4,5] wy (jn uJ [2,3,4,5]) (yo f o) =
   some (if r.2.2 != 0 then ⟨.nD (.iface 43 (.int .i64 r.2.2)),[(4,.ptr 2 0),(5,.ptr 3 0)],yo f o++[dB r.1 o r.2.1 x y]⟩
    else ⟨.ret,[(4,.ptr 2 0),(5,.ptr 3 0)],[.cells (cf f),.cells (eT o),.cells (cf r.1),.cells (BO r.2.1 x y),dB r.1 o r.2.1 x y]⟩):=by
 obtain⟨x,y,hx,hy,ha⟩:=hd;refine⟨x,y,hx,hy,?_⟩;have cx:x.jf=true:=by rcases hx with h|⟨h,_⟩<;>rw[h]<;>rfl
 have cy:y.jf=true:=by rcases hy with h|⟨h,_⟩<;>rw[h]<;>rfl
 have g:=oZ fnV sX o.kind;rw[h] at g;have q:=fun M=>Qw true 1 rfl M
 simp only[aE] at q;have q0:=k52;have h1:(0<=o.bC)=True:=by simp only[fx,ja]; exact hc0
 have h2:(o.bC<16)=True:=by simp only[fx,ja]; exact hc1
 have q5:aR (aq gJ) K [.ptr 4 0] (yo f o++[.cells (cg f o)])=some (if r.2.2 != 0 then gd r.2.2 else .tuple [],yo f o++[dB r.1 o r.2.1 x y]):=by
  obtain⟨f',a,e⟩:=r;simp only at hx hy ha ⊢;unfold dB at ha ⊢;rcases hx with rfl|⟨rfl,_⟩<;>rcases hy with rfl|⟨rfl,_⟩<;>exact ti (vs:=[]) (p:=4) rfl ha rfl rfl (by split<;>rfl) rfl (by split<;>rfl) rfl rfl rfl rfl rfl
 obtain⟨f',a,e⟩:=r;simp only at q5 ⊢;simp only[yo,cf,eT,cg,dB,rh,qZ,aG,aO,gd] at q5 ⊢;cases he:e != 0<;>simp only[he,af,aE,aD] at q5 ⊢
 ·simp only[rh,qZ,Sm,SN,Wt,wy,Gh,Gi,Gj,Gk,cf,eT,yo,uJ,rH,eO,gr,xw,Aa,Ae,vE,z7,vF,Ac,xx,Ad,z8,Ab,DC,DD,DS,DT,Eg,Eh,H3,H4,H2,H5,af,aE,aD,mapOf.eq_2,ph,q0,g,q,bj,bX,fnV,h1,h2,q5,BO,cx,cy,cH,EV,seval]
 ·simp only[rh,qZ,Sm,SN,Wt,wy,Gh,Gi,Gj,Gk,cf,eT,yo,uJ,rH,eO,gr,xw,Aa,Ae,vE,z7,vF,Ac,xx,Ad,z8,Ab,DC,DD,DS,DT,Eg,Eh,H3,H4,H2,H5,af,aE,aD,mapOf.eq_2,ph,q0,g,q,bj,bX,fnV,h1,h2,q5,EV,seval]
end
def OV(f:aa)(o:jC)(e:Int){R:aC}{M3:aC}(h:eO (aq gJ) yt [(0,.ptr 0 0),(1,.ptr 2 0),(2,.ptr 3 0),(5,.ptr (yo f o++R).length 0)] (yo f o++R++[.cells [.int .i64 e]])=some ⟨.normal,[],.cells (cf f) :: .cells (eT o) :: .cells (cf f) :: .cells (BO (hZ e) (.slice .c0 []) (.slice .c0 []))::M3⟩) :
  MA ⟨.normal,uJ,yo f o⟩ ⟨.nD (.iface 43 (.int .i64 e)),[(4,.ptr 2 0),(5,.ptr 3 0)],yo f o++R⟩=some (.tuple [.agg (cf f),.agg (cT (hZ e))],[]):=by
 show bI (eO (aq gJ) yt [(0,.ptr 0 0),(1,.ptr 2 0),(2,.ptr 3 0),(5,.ptr (yo f o++R).length 0)] (yo f o++R++[.cells [.int .i64 e]])) _=_
 rw[h,bO];rfl
def Ws(f:aa)(o:jC):pDo [.agg (cf f),.agg (eT o)] []=bI (rH (aq gJ) [4,5] wy (jn uJ [2,3,4,5]) (yo f o)) fun o2=>MA ⟨.normal,uJ,yo f o⟩ o2:=by
 unfold pDo;simp only[];have h2:[ag.agg (cf f),ag.agg (eT o)].length=2:=rfl;rw[aW h2,ahy,bO]
def c29(f:aa)(o:jC)(hf:vf f)(ho:sg o):aq Fa 29 [.agg (cf f),.agg (eT o)] []=some (.tuple [.agg (cf (pf f o).1),.agg (cT (pf f o).2)],[]):=by
 have bad:∀e,pf f o=(f,hZ e)->∀R M3,rH (aq gJ) [4,5] wy (jn uJ [2,3,4,5]) (yo f o)=some ⟨.nD (.iface 43 (.int .i64 e)),[(4,.ptr 2 0),(5,.ptr 3 0)],yo f o++R⟩ ->
   eO (aq gJ) yt [(0,.ptr 0 0),(1,.ptr 2 0),(2,.ptr 3 0),(5,.ptr (yo f o++R).length 0)] (yo f o++R++[.cells [.int .i64 e]])=some ⟨.normal,[],.cells (cf f) :: .cells (eT o) :: .cells (cf f) :: .cells (BO (hZ e) (.slice .c0 []) (.slice .c0 []))::M3⟩ ->
   aq Fa 29 [.agg (cf f),.agg (eT o)] []=some (.tuple [.agg (cf (pf f o).1),.agg (cT (pf f o).2)],[]):=by
  intro e he R M3 h1 h2;rw[he];refine fg (g:=pDo) rfl ?_;rw[Ws,h1,bO];exact OV f o e h2
 cases hk:eZ sX o.kind with
 |none =>
  refine bad 1 (by unfold pf; rw[hk]) [] [.cells [.int .i64 1]] ?_ ?_
  ·rw[ahA f o hk,db]
  ·rw[db]; exact WT f o 1
 |some K =>
  by_cases hc:0<=o.bC/\o.bC<16
  ·obtain⟨x,y,hx,hy,hs⟩:=ahB f o K (td K f o) hk hc.1 hc.2 (Ro hk hf ho)
   by_cases he:(td K f o).2.2=0
   ·have hd:pf f o=((td K f o).1,(td K f o).2.1):=by unfold pf; rw[hk]; simp only[aW hc,aW he]
    rw[hd];refine fg (g:=pDo) rfl ?_;rw[Ws,hs,aP (by simp[he]),bO]
    generalize td K f o=r at hx hy ⊢;obtain⟨f',⟨a1,a2,a3,a4,a5,ns,dt⟩,e⟩:=r;simp only at hx hy;rcases hx with rfl|⟨rfl,hn⟩<;>rcases hy with rfl|⟨rfl,hm⟩
    ·rfl
    ·rw[oz] at hm; subst hm; rfl
    ·rw[oz] at hn; subst hn; rfl
    ·rw[oz] at hn hm; subst hn; subst hm; rfl
   ·refine bad (td K f o).2.2 (by unfold pf; rw[hk]; simp only[aW hc,aP he]) [dB (td K f o).1 o (td K f o).2.1 x y] _ ?_ (ahC f o _ _)
    rw[hs,aW (by simpa using he)]
  ·refine bad 1 (by unfold pf; rw[hk]; simp only[aP hc]) [] [.cells [.int .i64 1]] ?_ ?_
   ·rw[ahz f o K hk hc,db]
   ·rw[db]; exact WT f o 1
def Wd(ae:List Node)(i:Int):Nat:=(bl ae i).data.length
def kg(m:AM Bool):List Int:=m.map Prod.fst
def yi(ae:List Node)(l:List Int):Nat:=(l.map (Wd ae)).sum
structure Seen(ae:List Node)(m:AM Bool):Prop where
 nd:(kg m).Nodup
 tr:∀p,p∈m->p.2=true
 inn:∀k,k∈kg m->(find ae k).isSome=true
inductive Rch(ae:List Node):Int->Int->Prop
 |one {i:Int} {e:gM}:e∈(bl ae i).bc->Rch ae i e.ar
 |step {i x:Int} {e:gM}:e∈(bl ae i).bc->Rch ae e.ar x->Rch ae i x
theorem Jq:∀(m:AM Bool)(k:Int),k∈kg m->∃v,eZ m k=some v
 | [],k,h=>by grind [kg]
 |(a,v)::m,k,h=>by
  rw[eZ];split
  ·simp
  ·refine Jq m k ?_
   grind [kg]
theorem Seen.get{ae:List Node}{m:AM Bool}(h:Seen ae m)(k:Int):(eZ m k).getD false=true↔k∈kg m:=by
 constructor
 ·intro hg;cases hm:eZ m k with
  |none=>grind
  |some v=>exact eJ.2 ⟨_,xl _ _ _ hm,rfl⟩
 ·intro hk;obtain⟨v,hv⟩:=Jq m k hk;have:=h.tr _ (xl _ _ _ hv)
  grind
def Jr:∀(m:AM Bool)(k:Int)(v:Bool),k∉kg m->kD m k v=m++[(k,v)]
 | [],k,v,_=>rfl
 |(a,w)::m,k,v,h=>by
  simp only[kg,aK,bJ,o4] at h;rw[kD,aP h.1,Jr m k v h.2]; rfl
theorem Seen.put{ae:List Node}{m:AM Bool}(h:Seen ae m){k:Int}(hk:k∉kg m)(hf:(find ae k).isSome=true):Seen ae (kD m k true)/\kg (kD m k true)=kg m++[k]:=by
 rw[Jr m k _ hk];have e:kg (m++[(k,true)])=kg m++[k]:=by simp[kg]
 refine⟨⟨?_,fun p hp=>?_,fun x hx=>?_⟩,e⟩
 ·rw[e];refine kX.2 ⟨h.nd,dw,fun a ha b hb=>?_⟩
  grind
 ·rcases bo.1 hp with hp|hp
  ·exact h.tr p hp
  grind
 ·rw[e] at hx;rcases bo.1 hx with hx|hx
  ·exact h.inn x hx
  grind
def abv{t:Tree}{dE:Int->Nat}(h:dX t dE 0)(i:Int):Wd t.ae i<=4096:=by
 unfold Wd bl;cases hi:find _ i with
 |none=>simp[Node.zero]
 |some n =>
  rcases h.kind _ _ hi with h1|h1
  ·exact(h.file _ _ hi h1).2.2
  ·simp[h.dir _ _ hi h1]
theorem NR{t:Tree}{dE:Int->Nat}(h:dX t dE 0):∀l:List Int,yi t.ae l<=4096*l.length
 | []=>by simp[yi]
 |i::l=>by
  have h1:=abv h i;have h2:=NR h l
  grind [yi]
theorem Seen.len{t:Tree}{dE:Int->Nat}(h:dX t dE 0){m:AM Bool}(hs:Seen t.ae m):(kg m).length<=200:=by
 have:=Jt _ _ hs.nd (fun x hx=>by
  obtain⟨n,hn⟩:=fD.1 (hs.inn x hx);exact eJ.2 ⟨n,(cG hn).1,(cG hn).2⟩)
 have h2:=h.ae
 grind
structure Fol(ae:List Node)(r i:Int)(l:List gM)(s s':Int×AM Bool):Prop where
 seen:Seen ae s'.2
 sum:s'.1=(Wd ae r:Int)+yi ae (kg s'.2)
 sub:∀x,x∈kg s.2->x∈kg s'.2
 all:∀e,e∈l->e.ar∈kg s'.2
 new:∀x,x∈kg s'.2->x∈kg s.2\/((∀e,e∈(bl ae x).bc->e.ar∈kg s'.2)/\Rch ae i x)
def IV{t:Tree}{dE:Int->Nat}(h:dX t dE 0)(r:Int):∀(f:Nat)(ar:Int)(s:Int×AM Bool),(∀n,find t.ae ar=some n->n.kind=2->13<f+dE ar)->0<f ->
  Seen t.ae s.2->s.1+Wd t.ae ar=(Wd t.ae r:Int)+yi t.ae (kg s.2)->Fol t.ae r ar (bl t.ae ar).bc s (mJ t.ae f ar s):=by
 intro f;induction f with
 |zero=>simp
 |succ f ih =>
  intro ar s hd _ hs hq
  have key:∀(l:List gM)(u:Int×AM Bool),(∀e,e∈l->e∈(bl t.ae ar).bc)->Seen t.ae u.2->u.1=(Wd t.ae r:Int)+yi t.ae (kg u.2) ->
    Fol t.ae r ar l u (l.foldl (fun s e=>if !((eZ s.2 e.ar).getD false) then mJ t.ae f e.ar (s.1,kD s.2 e.ar true) else s) u):=by
   intro l;induction l with
   |nil=>intro u _ h1 h2; exact⟨h1,h2,fun x hx=>hx,fun e he=>(by cases he),fun x hx => .inl hx⟩
   |cons e l ihl =>
    intro u hl h1 h2;rw[ei];have he:=hl e bD
    by_cases hk:e.ar∈kg u.2
    ·rw[aP (by rw[(h1.get _).2 hk]; simp)]
     have g:=ihl u (fun x hx=>hl x (bw _ hx)) h1 h2
     refine⟨g.seen,g.sum,g.sub,fun x hx=>?_,g.new⟩
     rcases bJ.1 hx with rfl|hx
     ·exact g.sub _ hk
     ·exact g.all x hx
    ·have hb:(eZ u.2 e.ar).getD false=false:=by
      cases hc:(eZ u.2 e.ar).getD false with
      |false=>rfl
      |true=>exact absurd ((h1.get _).1 hc) hk
     rw[hb,aW (show(!false)=true from rfl)]
     obtain⟨n,hi⟩:∃n,find t.ae ar=some n:=by
      cases hi:find t.ae ar with
      |none=>simp[bl,hi,Node.zero] at he
      |some n=>simp
     have he':e∈n.bc:=by simpa[bl,hi] using he
     have hk2:n.kind=2:=by
      rcases h.kind _ _ hi with h3|h3
      ·rw[(h.file _ _ hi h3).1] at he'; cases he'
      ·exact h3
     obtain⟨_,_,e1,_,m,hm,hu⟩:=h.Cu _ _ _ hi he';obtain⟨p1,p2⟩:=h1.put hk (by rw[hm]; rfl)
     have hsum:yi t.ae (kg (kD u.2 e.ar true))=yi t.ae (kg u.2)+Wd t.ae e.ar:=by rw[p2]; simp[yi]
     have g1:=ih e.ar (u.1,kD u.2 e.ar true) (fun n' hn' hk'=>by
      rw[hm] at hn'; cases hn';have h3:=(h.qE _ _ hm hk' e1).1;have h4:=hd n hi hk2;rw[hu hk'] at h3;omega) (by
      have h4:=hd n hi hk2;have h5:=(h.deep _ _ hi hk2).1;omega) p1 (by simp only; rw[hsum,h2]; omega)
     have g2:=ihl _ (fun x hx=>hl x (bw _ hx)) g1.seen g1.sum
     have hin:e.ar∈kg (kD u.2 e.ar true):=by rw[p2]; simp
     refine⟨g2.seen,g2.sum,fun x hx=>g2.sub _ (g1.sub _ (by simp only; rw[p2]; simp[hx])),fun x hx=>?_,fun x hx=>?_⟩
     ·rcases bJ.1 hx with rfl|hx
      ·exact g2.sub _ (g1.sub _ hin)
      ·exact g2.all x hx
     ·rcases g2.new x hx with hx|hx
      ·rcases g1.new x hx with hx|⟨hx,hr⟩
       ·simp only at hx;rw[p2] at hx;rcases bo.1 hx with hx|hx
        ·exact .inl hx
        ·rw[bQ.1 hx];exact .inr ⟨fun e' he'=>g2.sub _ (g1.all e' he'),.one he⟩
       ·exact .inr ⟨fun e' he'=>g2.sub _ (hx e' he'),.step he hr⟩
      ·exact .inr hx
  have hw:nq (s.1+(bl t.ae ar).data.length)=s.1+Wd t.ae ar:=by
   have h1:=abv h r;have h2:=NR h (kg s.2);have h3:=hs.len h;have hW:((bl t.ae ar).data.length:Int)=(Wd t.ae ar:Int):=rfl;rw[hW];exact gW aH aH
  have g:=key (bl t.ae ar).bc (s.1+Wd t.ae ar,s.2) (fun _ h=>h) hs hq
  rw[mJ,hw];exact⟨g.seen,g.sum,g.sub,g.all,g.new⟩
def InB(ae:List Node)(ar x:Int):Prop:=∃d e,d∈ae/\d.kind=2/\iM ae d.ar ar=true/\e∈d.bc/\e.ar=x
theorem ahu{t:Tree}{dE:Int->Nat}(h:dX t dE 0){ar:Int}:∀ {i x:Int},Rch t.ae i x->(∃d,find t.ae i=some d/\(d.kind=2->iM t.ae i ar=true))->InB t.ae ar x:=by
 intro i x hr;induction hr with
 |one he =>
  rintro⟨d,hd,hb⟩;rename_i i e;have he':e∈d.bc:=j6
  have hk:d.kind=2:=by
   rcases h.kind _ _ hd with h3|h3
   ·rw[(h.file _ _ hd h3).1] at he'; grind
   omega
  exact⟨d,e,(cG hd).1,hk,by rw[(cG hd).2]; grind,he',rfl⟩
 |step he _ ih =>
  rintro⟨d,hd,hb⟩;rename_i i x e _;have he':e∈d.bc:=j6
  have hk:d.kind=2:=by
   rcases h.kind _ _ hd with h3|h3
   ·rw[(h.file _ _ hd h3).1] at he'; grind
   omega
  obtain⟨_,_,e1,_,m,hm,hu⟩:=h.Cu _ _ _ hd he';refine ih ⟨m,hm,fun hk'=>?_⟩
  by_cases ho:e.ar=ar
  ·rw[ho]; simp[dX.oL]
  ·rw[h.sr hm hk' e1 ho]
   grind
theorem HC{t:Tree}{dE:Int->Nat}(h:dX t dE 0){ar:Int}{d:Node}(hd:find t.ae ar=some d)(hk:d.kind=2) :
  ∃K:List Int,K.Nodup/\(∀x,x∈K↔InB t.ae ar x)/\(∀x,x∈K->(find t.ae x).isSome=true)/\lk t.ae ar=((K.length:Int),(yi t.ae K:Int)):=by
 have g:=IV h ar 14 ar (0,[]) (fun n hn hk=>aH) aH ⟨by simp[kg],fun p hp=>(by cases hp),fun k hk=>(by simp[kg] at hk)⟩ (by simp[kg,yi])
 have hu:lk t.ae ar=(((mJ t.ae 14 ar (0,[])).2.length:Int),(mJ t.ae 14 ar (0,[])).1):=by
  simp_all [lk,bl]
 generalize mJ t.ae 14 ar (0,[])=s' at g hu;have w0:Wd t.ae ar=0:=by simp[Wd,bl,hd,h.dir _ _ hd hk]
 have cl:∀x,x∈kg s'.2->∀e,e∈(bl t.ae x).bc->e.ar∈kg s'.2:=fun x hx=>by
  rcases g.new x hx with h1|h1
  ·simp[kg] at h1
  ·exact h1.1
 refine⟨kg s'.2,g.seen.nd,fun x=>⟨fun hx=>?_,fun hx=>?_⟩,g.seen.inn,?_⟩
 ·rcases g.new x hx with h1|h1
  ·simp[kg] at h1
  grind [ahu,dX.oL]
 ·obtain⟨p,e,hp,hpk,hb,he,rfl⟩:=hx
  have key:∀(m:Nat)(i:Int)(n:Node),find t.ae i=some n->n.kind=2->dE i=m->iM t.ae i ar=true->∀e,e∈n.bc->e.ar∈kg s'.2:=by
   intro m;induction m with
   |zero =>
    intro i n hi hnk hm hb e he
    by_cases ho:i=ar
    ·subst ho;exact g.all e (by simpa[bl,hi] using he)
    ·by_cases h1:i=1
     ·grind [dX.qK]
     ·have:=(h.qE _ _ hi hnk h1).1; omega
   |succ m ihm =>
    intro i n hi hnk hm hb e he
    by_cases ho:i=ar
    ·subst ho;exact g.all e (by simpa[bl,hi] using he)
    ·have h1:i≠1:=fun hh=>by subst hh; have:=h.Ct; omega
     rw[h.sr hi hnk h1 ho] at hb;obtain⟨a,q,hq,hqk⟩:=h.qE _ _ hi hnk h1;obtain⟨p,e',p1,p2,p3,p4⟩:=h.named hi hnk h1 (by have:=(h.num _ _ hi).1; omega)
     have:=ihm n.up p p1 p2 aH hb e' p3;rw[p4] at this
     grind
  have hpf:find t.ae p.ar=some p:=(ij h.lI.mj).2 ⟨hp,rfl⟩
  grind
 ·rw[hu,g.sum,w0];simp[kg]
def Nq(e:Int)(ae:List Node)(met:List Bool):List Bool:=List.zipWith (fun n b=>b||n.ar==e) ae met
def VN(ae:List Node)(ar:Int)(met:List Bool)(d:Node):List Bool:=if d.kind==2&&iM ae d.ar ar then d.bc.foldl (fun m e=>Nq e.ar ae m) met else met
def sy(ae:List Node)(ar:Int):List Bool:=ae.foldl (VN ae ar) (ae.map fun _=>false)
def OJ(met:List Bool):Nat:=met.countP id
def HE(ae:List Node)(met:List Bool):Nat:=((ae.zip met).map fun p=>if p.2 then p.1.data.length else 0).sum
def F6(e:Int)(p:Node->Bool):∀l:List Node,Nq e l (l.map p)=l.map fun n=>p n||n.ar==e
 | []=>rfl
 |n::l=>by
  have:=F6 e p l;simp only[Nq,aK,List.zipWith_cons_cons] at this ⊢;rw[this]
def D2(ae:List Node):∀(l:List gM)(p:Node->Bool),l.foldl (fun m e=>Nq e.ar ae m) (ae.map p)=ae.map fun n=>p n||l.any fun e=>n.ar==e.ar
 | [],p=>dw
 |e::l,p=>by
  rw[ei,F6,D2 ae l];simp only[jP,Bool.or_assoc]
def yQ(ae:List Node)(ar:Int):∀(l:List Node)(p:Node->Bool),∃q:Node->Bool,l.foldl (VN ae ar) (ae.map p)=ae.map q /\
  ∀n,q n=true↔p n=true\/∃d e,d∈l/\d.kind=2/\iM ae d.ar ar=true/\e∈d.bc/\e.ar=n.ar
 | [],p=>⟨p,rfl,fun n=>dw⟩
 |d::l,p=>by
  rw[ei,VN]
  by_cases hd:(d.kind==2&&iM ae d.ar ar)=true
  ·rw[aW hd,D2];obtain⟨q,h1,h2⟩:=yQ ae ar l fun n=>p n||d.bc.any fun e=>n.ar==e.ar
   refine⟨q,h1,fun n=>?_⟩
   rw[h2];rw[bu,dZ] at hd;simp only[cU,iJ,dZ,bJ];constructor
   ·rintro((h|⟨e,h3,h4⟩)|⟨d',e,h3,h4⟩)
    ·exact .inl h
    ·exact .inr ⟨d,e,.inl rfl,hd.1,hd.2,h3,h4.symm⟩
    ·exact .inr ⟨d',e,.inr h3,h4⟩
   ·rintro(h|⟨d',e,rfl|h3,h4,h5,h6,h7⟩)
    ·exact .inl (.inl h)
    ·exact .inl (.inr ⟨e,h6,h7.symm⟩)
    ·exact .inr ⟨d',e,h3,h4,h5,h6,h7⟩
  ·rw[aP hd];obtain⟨q,h1,h2⟩:=yQ ae ar l p;refine⟨q,h1,fun n=>?_⟩
   rw[h2];rw[bu,dZ] at hd;simp only[bJ];constructor
   ·rintro(h|⟨d',e,h3,h4⟩)
    ·exact .inl h
    ·exact .inr ⟨d',e,.inr h3,h4⟩
   ·rintro(h|⟨d',e,rfl|h3,h4,h5,h6⟩)
    ·exact .inl h
    ·exact absurd ⟨h4,h5⟩ hd
    ·exact .inr ⟨d',e,h3,h4,h5,h6⟩
def w7(ae:List Node)(ar:Int):∃q:Node->Bool,sy ae ar=ae.map q/\∀n,q n=true↔InB ae ar n.ar:=by
 obtain⟨q,h1,h2⟩:=yQ ae ar ae fun _=>false
 exact⟨q,h1,fun n=>by rw[h2]; simp[InB]⟩
def Dh(q:Node->Bool):∀l:List Node,OJ (l.map q)=(l.filter q).length
 | []=>rfl
 |n::l=>by
  have:=Dh q l;simp only[OJ,aK,lQ,ft,id] at this ⊢;split<;>simp[this]
def Hx(q:Node->Bool):∀l:List Node,HE l (l.map q)=((l.filter q).map fun n=>n.data.length).sum
 | []=>rfl
 |n::l=>by
  have:=Hx q l;simp only[HE,aK,List.zip_cons_cons,List.sum_cons,ft] at this ⊢;rw[this];split<;>simp
def GV{t:Tree}{dE:Int->Nat}(h:dX t dE 0){ar:Int}{d:Node}(hd:find t.ae ar=some d)(hk:d.kind=2) :
  lk t.ae ar=((OJ (sy t.ae ar):Int),(HE t.ae (sy t.ae ar):Int)):=by
 obtain⟨K,k1,k2,k3,k4⟩:=HC h hd hk;obtain⟨q,q1,q2⟩:=w7 t.ae ar;have hasc:=h.lI.mj
 have hp:K.Perm ((t.ae.filter q).map Node.ar):=by
  refine(List.perm_ext_iff_of_nodup k1 ?_).2 fun x=>?_
  ·have:((t.ae.filter q).map Node.ar).Pairwise (· < ·):=jR.2 (jO _ hasc)
   exact this.imp fun h=>aH
  ·rw[k2];constructor
   ·intro hx;obtain⟨n,hn⟩:=fD.1 (k3 x ((k2 x).2 hx));refine eJ.2 ⟨n,eo.2 ⟨(cG hn).1,(q2 n).2 ?_⟩,(cG hn).2⟩;rw[(cG hn).2]; exact hx
   ·intro hx;obtain⟨n,hn,rfl⟩:=eJ.1 hx;exact(q2 n).1 (eo.1 hn).2
 rw[k4,q1,Dh,Hx];have h1:K.length=(t.ae.filter q).length:=by rw[hp.length_eq,eK]
 have h2:yi t.ae K=((t.ae.filter q).map fun n=>n.data.length).sum:=by
  unfold yi;rw[(hp.map (Wd t.ae)).sum_nat,gG];congr 1;refine cY fun n hn=>?_
  have:find t.ae n.ar=some n:=(ij hasc).2 ⟨(eo.1 hn).1,rfl⟩;simp[Wd,bl,this]
 rw[h1,h2]
abbrev Fe(n:Node):Prop:=n.bc.length<=64/\n.data.length<=4096
structure FB(k:Nat)(f:aa):Prop where
 ok:vf f
 past:f.s.eN.length<=k
structure CW(a:vN):Prop where
 names:a.names.length<=90000
 data:a.data.length<=90000
def FB.mono{k m:Nat}{f:aa}(h:FB k f)(hm:k<=m):FB m f:=⟨h.ok,aY h.past hm⟩
def Rt.XF{t:Tree}(h:Rt t){n:Node}(hn:n∈t.ae):Fe n:=by
 obtain⟨dE,h⟩:=h;have hi:find t.ae n.ar=some n:=(ij h.lI.mj).2 ⟨hn,rfl⟩;refine⟨(h.yf _ _ hi).2,?_⟩;rcases h.kind _ _ hi with h1|h1
 ·exact(h.file _ _ hi h1).2.2
 ·rw[h.dir _ _ hi h1]; simp
def Bi(t:Tree)(tk:List mR)(c:Int):∀(l:List Node)(y:List Int),(lN t tk c l y).length<=l.length/\∀p,p∈lN t tk c l y->p.node∈l
 | [],y=>⟨by simp[lN],fun p h=>by simp[lN] at h⟩
 |n::r,[]=>⟨by simp[lN],fun p h=>by simp[lN] at h⟩
 |n::r,x::y=>by
  obtain⟨h1,h2⟩:=Bi t tk c r y;rw[lN];refine⟨?_,fun p hp=>?_⟩
  ·rw[aA,av];split<;>simp<;>omega
  ·rcases bo.1 hp with hp|hp
   ·split at hp
    ·rw[bQ.1 hp]; exact bD
    ·cases hp
   ·exact bw _ (h2 p hp)
def FB.put{k:Nat}{f:aa}(h:FB k f)(hk:k<=89000){t:Tree}(ht:Rt t){H:List fE}(hH:uz H)(hl:H.length<=64){Q:List dU}(hQ:pt Q)(hq:Q.length<=16):FB (k+200) ⟨qv f.s t,H,Q⟩:=by
 have hf:=h.ok;have hp:=h.past;unfold qv;split
 ·exact⟨⟨hf.rt,hf.len,hf.eN,hf.Ej,hf.dV,hH,hl,hQ,hq⟩,by simp only; omega⟩
 ·obtain⟨h1,h2⟩:=Bi t f.s.dV (nq (f.s.tick+1)) f.s.now.ae f.s.since;have h3:=hf.rt.sz.ae;have h4:(f.s.eN++lN t f.s.dV (nq (f.s.tick+1)) f.s.now.ae f.s.since).length<=k+200:=by rw[aA]; omega
  refine⟨⟨ht,dw,by simp only; omega,fun p hp=>?_,hf.dV,hH,hl,hQ,hq⟩,h4⟩
  rcases bo.1 hp with hp|hp
  ·exact hf.Ej p hp
  ·exact hf.rt.XF (h2 p hp)
def FB.settle{k:Nat}{f:aa}(h:FB k f)(hk:k<=89000){t:Tree}(ht:Rt t){Q:List dU}(hQ:pt Q)(hq:Q.length<=16):FB (k+200) (jY f t Q).1:=by
 unfold jY;split
 ·exact h.mono aH
 split
 ·exact h.mono aH
 ·exact h.put hk (AQ _ _ _ ht) h.ok.holds h.ok.dR (FV hQ) (aY (A6 _ _) hq)
def Jv{t:Tree}{l:List fE}(hl:uz l)(hn:l.length<=64)(c g ar:Int):uz (vD t l c g ar).1/\(vD t l c g ar).1.length<=64:=by
 have hlow:=DZ hl c g;unfold vD;split
 ·exact⟨hl,hn⟩
 split
 ·exact⟨hl,hn⟩
 split
 ·exact⟨hl,hn⟩
 split
 ·exact⟨hl,hn⟩
 split
 ·exact⟨hl,hn⟩
 ·rename_i hi dR;simp only[bh] at dR
  have hat:∀(i:Nat)(y:fE),l[i]?=some y->decide (il y c g<0)=false->xa ⟨c,g,ar⟩ y:=by
   intro i y hy hge;have h1:=hlow.le
   by_cases he:i=mi (fun x=>decide (il x c g<0)) l
   ·subst he;have hne:¬(y.bC=c/\y.handle=g):=fun hh=>hi (by unfold pg; rw[hy]; simpa using(DJ y c g).2 hh)
    have cJ:=r8 y c g;simp only[dA,cJ] at hge;unfold xa; simp only;omega
   ·have cJ:=r8 y c g;simp only[dA,cJ] at hge
    have hgt:mi (fun x=>decide (il x c g<0)) l<i:=by
     rcases bE (mi (fun x=>decide (il x c g<0)) l) i with h|h
     ·exact h
     ·exact absurd ((hlow.lt i y hy).2 aH) (by simp only[bh,cJ]; exact hge)
    have hi':=(aj.1 hy).1;have hz:l[mi (fun x=>decide (il x c g<0)) l]?=some l[mi (fun x=>decide (il x c g<0)) l]:=ai aH
    have hp:xa l[mi (fun x=>decide (il x c g<0)) l] y:=by
     have:=(cm.1 hl) _ i aH hi' hgt;rw[<-(aj.1 hy).2]; exact this
    generalize l[mi (fun x=>decide (il x c g<0)) l]=z at hz hp
    have hzl:¬il z c g<0:=fun h=>by
     have:=(hlow.lt _ z hz).1 (by simpa using h)
     omega
    rw[r8] at hzl;unfold xa at hp ⊢; simp only;omega
  refine⟨M7 hl hlow (fun y hy h=>?_) (fun y hy h=>?_) (fun a b d h1 h2=>?_),by simp; have:=hlow.le; omega⟩
  ·simp only[bh,r8] at h; unfold xa; simp only; omega
  ·obtain⟨i,hy'⟩:=bZ hy;exact hat i y hy' h
  ·unfold xa at *; omega
def Dg{t:Tree}{l:List fE}(hl:uz l)(c g:Int):uz (nw t l c g).2.1:=by
 unfold nw;split
 ·exact hl
 ·exact hl.sublist List.eraseP_sublist
def AV(c:Int):∀(r l:List fE)(t:Tree),uz l->l.length<=64->uz (sP c r t l).2/\(sP c r t l).2.length<=64
 | [],l,t,h1,h2=>⟨h1,h2⟩
 |x::r,l,t,h1,h2=>by
  rw[sP];split
  ·exact AV c r _ _ (Dg h1 _ _) (aY (yP _ _ _ _) h2)
  ·exact AV c r l t h1 h2
def FB.set{k:Nat}{f:aa}(h:FB k f){H:List fE}(hH:uz H)(hl:H.length<=64):FB (k+200) ⟨f.s,H,f.dW⟩ :=
 ⟨⟨h.ok.rt,h.ok.len,h.ok.eN,h.ok.Ej,h.ok.dV,hH,hl,h.ok.dW,h.ok.sJ⟩,by have:=h.past; simp only; omega⟩
def FB.adq{k:Nat}{f:aa}(h:FB k f)(hk:k<=89000)(o:jC)(ar:Int)(d:Bytes):FB (k+200) (ry f o ar d).1:=by
 have hr:=h.settle hk (h.ok.rt.put ar d) h.ok.dW h.ok.sJ;unfold ry;simp only[];split
 ·exact h.mono aH
 split<;>exact hr
def sD{α:Type}{P:α->Prop}{c:Prop}[Decidable c]{a b:α}(ha:P a)(hb:P b):P (if c then a else b):=by
 split
 ·exact ha
 ·exact hb
def NY{P:Wk->Prop}{f:aa}{o:jC}(h55:P (B5 f o))(h56:P (B6 f o))(h57:P (B4 f o))(h58:P (uR f o))(h59:P (uO f o))(h60:P (F2 f o))(h61:P (Ch f o))(h62:P (B7 f o))(h63:P (w6 f o))(h64:P (Gm f o))(h65:P (xH f o))(h66:P (Ij f o))(h67:P (xe f o))(h68:P (Cj f o))(h69:P (Gd f o))(h70:P (BN f o))(h71:P (AE f o))(h0:P (f,gw,0))(K:Nat):P (td K f o) :=
 sD h55 (sD h56 (sD h57 (sD h58 (sD h59 (sD h60 (sD h61 (sD h62 (sD h63 (sD h64 (sD h65 (sD h66 (sD h67 (sD h68 (sD h69 (sD h70 (sD h71 (h0)))))))))))))))))
def Xy{k:Nat}{f:aa}(h:FB k f)(hk:k<=89000)(K:Nat)(o:jC):FB (k+200) (td K f o).1:=by
 have h0:FB (k+200) f:=h.mono aH;have hp {t:Tree} (ht:Rt t):=h.settle hk ht h.ok.dW h.ok.sJ;refine NY (P:=fun r=>FB (k+200) r.1) ?_ ?_ ?_ ?_ ?_ ?_ ?_ ?_ ?_ ?_ ?_ ?_ ?_ ?_ ?_ ?_ ?_ ?_ K
 ·unfold B5; split<;>exact h0
 ·have hr:=hp (h.ok.rt.add (mP f.s.now o.dH).1 (mP f.s.now o.dH).2.1 o.n);unfold B6; simp only[];split
  ·exact h0
  split
  ·exact h0
  split<;>exact hr
 ·have hr:=hp (h.ok.rt.ln (bl f.s.now.ae (kl f.s.now o.dH).1).ar (mP f.s.now o.u9).1 (mP f.s.now o.u9).2.1);unfold B4; simp only[];split
  ·exact h0
  split
  ·exact h0
  split
  ·exact h0
  split<;>exact hr
 ·have hr:=hp (h.ok.rt.un (mP f.s.now o.dH).1 (mP f.s.now o.dH).2.1);unfold uR; simp only[];split
  ·exact h0
  split
  ·exact h0
  split<;>exact hr
 ·have hr:=hp (h.ok.rt.mv (mP f.s.now o.dH).1 (mP f.s.now o.dH).2.1 (mP f.s.now o.u9).1 (mP f.s.now o.u9).2.1);unfold uO; simp only[];split
  ·exact h0
  split
  ·exact h0
  split
  ·exact h0
  split
  ·exact h0
  split<;>exact hr
 ·unfold F2; simp only[];split
  ·exact h0
  split<;>exact h0
 ·unfold Ch; simp only[]; split<;>exact h0
 ·obtain⟨g1,g2⟩:=Jv (t:=f.s.now) h.ok.holds h.ok.dR o.bC o.handle (bl f.s.now.ae (kl f.s.now o.dH).1).ar;unfold B7; simp only[];split
  ·exact h0
  split
  ·exact h0
  ·exact h.set g1 g2
 ·have hr:=h.put hk (h.ok.rt.close f.holds o.bC o.handle) (Dg (t:=f.s.now) h.ok.holds o.bC o.handle) (aY (yP _ _ _ _) h.ok.dR) h.ok.dW h.ok.sJ;unfold w6; simp only[];split
  ·exact h0
  ·exact hr
 ·unfold Gm;split
  ·exact h0
  split<;>exact h0
 ·unfold xH;split
  ·exact h0
  split
  ·exact h0
  split
  ·exact h0
  ·exact h.adq hk o _ _
 ·unfold Ij;split
  ·exact h0
  ·exact h.adq hk o _ _
 ·obtain⟨g1,g2⟩:=Gl (t:=f.s.now) h.ok.dW h.ok.sJ (bl f.s.now.ae (kl f.s.now o.dH).1).ar o.n o.m;have hr:=h.settle hk h.ok.rt g1 g2;unfold xe; simp only[];split
  ·exact h0
  split
  ·exact h0
  split<;>exact hr
 ·unfold Cj; simp only[];split
  ·exact h0
  split
  ·exact h0
  ·rename_i hh;unfold takeN at hh ⊢;split
   ·exact h0
   split
   ·exact h0
   split
   ·exact h0
   ·rename_i dR;refine⟨⟨h.ok.rt,h.ok.len,h.ok.eN,h.ok.Ej,?_,h.ok.holds,h.ok.dR,h.ok.dW,h.ok.sJ⟩,by have:=h.past; simp only; omega⟩
    simp only[cU,bh,o4] at dR;simp; omega
 ·unfold Gd; simp only[];split
  ·exact h0
  split
  ·exact h0
  split<;>exact h0
 ·unfold BN; simp only[];split
  ·exact h0
  ·unfold rn;split
   ·exact h0
   ·refine⟨⟨h.ok.rt,h.ok.len,aY (bU _ _) h.ok.eN,fun p hp=>h.ok.Ej p (eo.1 hp).1,aY (bU _ _) h.ok.dV,h.ok.holds,h.ok.dR,h.ok.dW,h.ok.sJ⟩,?_⟩
    have:=h.past;have h2:=bU (vG (f.s.dV.filter (rD o.n))) f.s.eN;simp only; omega
 ·obtain⟨g1,g2⟩:=AV o.bC f.holds f.holds f.s.now h.ok.holds h.ok.dR;exact h.put hk (h.ok.rt.gone o.bC f.holds f.holds) g1 g2 h.ok.dW h.ok.sJ
 ·exact h0
def K0{k:Nat}{f:aa}(h:FB k f)(hk:k<=89000)(o:jC):FB (k+200) (pf f o).1:=by
 unfold pf;split
 ·exact h.mono aH
 ·split
  ·split
   ·exact Xy h hk _ o
   ·exact h.mono aH
  ·exact h.mono aH
def VU{P:Node->Prop}{m:AM Node}(h:∀k n,eZ m k=some n->P n)(n:Node)(hn:P n):∀k x,eZ (kD m n.ar n) k=some x->P x:=by
 intro k x hx;rw[jx] at hx;split at hx
 ·injection hx with hx; rw[<-hx]; exact hn
 ·exact h k x hx
def Ei{P:Node->Prop}(a:Int):∀(l:List po)(m:AM Node),(∀k n,eZ m k=some n->P n)->(∀p,p∈l->P p.node)->∀k n,eZ (l.foldl (mO a) m) k=some n->P n
 | [],m,h,hl=>h
 |p::r,m,h,hl=>by
  rw[ei];refine Ei a r _ ?_ (fun p hp=>hl p (bw _ hp))
  unfold mO;split
  ·exact VU h _ (hl p bD)
  ·exact h
def Js{P:Node->Prop}(a:Int):∀(l:List Node)(y:List Int)(m:AM Node),(∀k n,eZ m k=some n->P n)->(∀p,p∈l->P p)->∀k n,eZ (sa a l y m) k=some n->P n
 | [],y,m,h,hl=>h
 |n::r,[],m,h,hl=>h
 |n::r,x::y,m,h,hl=>by
  rw[sa];refine Js a r y _ ?_ (fun p hp=>hl p (bw _ hp))
  split
  ·exact VU h _ (hl n bD)
  ·exact h
def X8{f:aa}(hf:vf f)(id:Int):∀n,n∈(vj f.s id).2.1->Fe n:=by
 unfold vj;split
 ·rename_i x _;intro n hn;have:=A8 n _ hn;refine Gw (P:=Fe) ?_ 200001 x.ar ([],[]) (fun n h=>by cases h) n this
  exact Js x.at' _ _ _ (Ei x.at' _ _ (fun k n h=>by cases h) hf.Ej) (fun n hn=>hf.rt.XF hn)
 ·exact fun n h=>by cases h
def JE{P:Node->Prop}{all:AM Node}(hall:∀k n,eZ all k=some n->P n):∀(p:List Bytes)(o:Option Node),(∀n,o=some n->P n)->∀n,(jk all p o).1=some n->P n
 | [],o,ho,n,h=>ho n h
 |s::r,o,ho,n,h=>by
  rw[jk] at h;split at h
  ·exact ho n h
  ·split at h
   ·exact ho n h
   ·exact JE hall r _ (fun m hm=>hall _ _ hm) n h
def na{a:vN}(h1:a.names=[])(h2:a.data=[]):CW a:=⟨by rw[h1]; simp,by rw[h2]; simp⟩
def G2(e:Int):CW (hZ e):=na rfl rfl
def Qm{f:aa}(h:vf f)(K:Nat)(o:jC):CW (td K f o).2.1:=by
 have h0:CW gw:=na rfl rfl;have hv (i:Int) (d:Bytes):CW (ry f o i d).2.1:=na (tF f o i d).1 (tF f o i d).2;refine NY (P:=fun r=>CW r.2.1) ?_ ?_ ?_ ?_ ?_ ?_ ?_ ?_ ?_ ?_ ?_ ?_ ?_ ?_ ?_ ?_ ?_ ?_ K
 ·unfold B5; split<;>exact na rfl rfl
 ·unfold B6; simp only[]; repeat' split
  all_goals exact na rfl rfl
 ·unfold B4; simp only[]; repeat' split
  all_goals exact na rfl rfl
 ·unfold uR; simp only[]; repeat' split
  all_goals exact na rfl rfl
 ·unfold uO; simp only[]; repeat' split
  all_goals exact na rfl rfl
 ·unfold F2; simp only[];split
  ·exact h0
  split
  ·exact h0
  ·refine⟨?_,dw⟩;simp only[eK];obtain⟨dE,g⟩:=h.rt;have h64:=(xT g (bl f.s.now.ae (kl f.s.now o.dH).1).ar).2
   have hfr:(zG f.s.now.ae (bl f.s.now.ae (kl f.s.now o.dH).1).ar o.n).length<=64:=by
    unfold zG;rw[wi];exact aY (bU _ _) h64
   unfold wC;split
   ·simp
   split
   ·simp
   split
   ·simp only; omega
   ·simp only[cq]; omega
 ·unfold Ch; simp only[]; split<;>exact na rfl rfl
 ·unfold B7; simp only[]; repeat' split
  all_goals exact na rfl rfl
 ·unfold w6; simp only[]; split<;>exact na rfl rfl
 ·unfold Gm;split
  ·exact h0
  split
  ·exact h0
  ·rename_i hh _;obtain⟨_,i,hi⟩:=CL (f:=f) (o:=o) (by simpa using hh)
   have:=(xm h i).1;rw[hi];exact⟨dw,by simp only[cq,fS]; omega⟩
 ·unfold xH;split
  ·exact h0
  split
  ·exact h0
  split
  ·exact h0
  ·exact hv _ _
 ·unfold Ij;split
  ·exact h0
  ·exact hv _ _
 ·unfold xe; simp only[]; repeat' split
  all_goals exact na rfl rfl
 ·unfold Cj; simp only[]; repeat' split
  all_goals exact na rfl rfl
 ·have ha:=X8 h o.n;unfold Gd; simp only[]
  have hall:∀k n,eZ (fT (vj f.s o.n).2.1 []) k=some n->Fe n:=fun k n h=>by
   rcases zb _ _ _ _ h with h|h
   ·exact ha n h
   ·cases h
  have hpe:=JE hall (gD o.dH).1 (eZ (fT (vj f.s o.n).2.1 []) (vj f.s o.n).1) (fun n h=>hall _ _ h)
  split
  ·exact h0
  split
  ·exact h0
  split
  ·exact h0
  ·generalize (jk (fT (vj f.s o.n).2.1 []) (gD o.dH).1 (eZ (fT (vj f.s o.n).2.1 []) (vj f.s o.n).1)).1=z at hpe ⊢;cases z with
   |none=>exact na rfl rfl
   |some n =>
    obtain⟨g1,g2⟩:=hpe n rfl;exact⟨by simp only[bj,eK]; omega,by simp only[bj]; omega⟩
 ·unfold BN; simp only[]; split<;>exact na rfl rfl
 ·exact na rfl rfl
 ·exact na rfl rfl
def CH{f:aa}(h:vf f)(o:jC):CW (pf f o).2:=by
 unfold pf;split
 ·exact G2 _
 ·split
  ·split
   ·exact Qm h _ o
   ·exact G2 _
  ·exact G2 _
def Ov{t:Tree}{dE:Int->Nat}(h:dX t dE 0){q:Int}:∀(m:Nat)(i:Int)(n:Node),find t.ae i=some n->n.kind=2->dE i=m->iM t.ae i q=true->∃d,find t.ae q=some d/\d.kind=2:=by
 intro m;induction m with
 |zero =>
  intro i n hi hk hm hb
  by_cases ho:i=q
  ·subst ho; exact⟨n,hi,hk⟩
  by_cases h1:i=1
  ·subst h1; rw[dX.qK (fun hh=>ho hh.symm)] at hb; cases hb
  ·have:=(h.qE _ _ hi hk h1).1; omega
 |succ m ih =>
  intro i n hi hk hm hb
  by_cases ho:i=q
  ·subst ho; exact⟨n,hi,hk⟩
  have h1:i≠1:=fun hh=>by subst hh; have:=h.Ct; omega
  rw[h.sr hi hk h1 ho] at hb;obtain⟨a,p,hp,hpk⟩:=h.qE _ _ hi hk h1;exact ih _ p hp hpk aH hb
def vV{t:Tree}{dE:Int->Nat}(h:dX t dE 0){q:Int}(hq:∀d,find t.ae q=some d->d.kind≠2):lk t.ae q=(0,0)/\OJ (sy t.ae q)=0/\HE t.ae (sy t.ae q)=0:=by
 have hin:∀x,¬InB t.ae q x:=by
  rintro x ⟨d,e,hd,hk,hb,_,_⟩;obtain⟨p,p1,p2⟩:=Ov h _ _ d ((ij h.lI.mj).2 ⟨hd,rfl⟩) hk rfl hb;exact hq p p1 p2
 obtain⟨p,p1,p2⟩:=w7 t.ae q;have hf:t.ae.filter p=[]:=List.filter_eq_nil_iff.2 fun n _ hn=>hin _ ((p2 n).1 hn)
 refine⟨?_,by rw[p1,Dh,hf]; rfl,by rw[p1,Hx,hf]; rfl⟩
 unfold lk;rw[aP];intro hc;rw[bu,dZ] at hc;obtain⟨d,hd⟩:=fD.1 hc.1;exact hq d hd (by simpa[bl,hd] using hc.2)
def HB{t:Tree}(h:Rt t)(q:Int):lk t.ae q=((OJ (sy t.ae q):Int),(HE t.ae (sy t.ae q):Int)):=by
 obtain⟨dE,h⟩:=h
 by_cases hq:∃d,find t.ae q=some d/\d.kind=2
 ·obtain⟨d,h1,h2⟩:=hq;exact GV h h1 h2
 ·obtain⟨h1,h2,h3⟩:=vV h (q:=q) fun d hd hk=>hq ⟨d,hd,hk⟩
  rw[h1,h2,h3]; rfl
def Qf{t:Tree}(h:Rt t)(i q:Int):lk (kC t i).1.ae q=lk t.ae q:=by
 obtain⟨dE,h⟩:=h;have h':=Fz h i
 have hcase:(kC t i).1=t\/(∃m,find t.ae i=some m/\m.kind=1/\uH t.ae i=0/\(kC t i).1=⟨fQ t.ae i,t.next,t.ak⟩):=by
  unfold kC;split
  ·exact .inl rfl
  split
  ·exact .inl rfl
  split
  ·exact .inl rfl
  ·rename_i h1 h2 h3;right;cases hi:find t.ae i with
   |none=>simp[hi] at h1
   |some m =>
    simp only[bl,hi,bj,dZ,bh] at h2 h3;have hl:=h.ep _ _ hi;have hm:=(h.num _ _ hi).1;rw[aP aH] at hl;exact⟨m,rfl,(h.kind _ _ hi).resolve_right h2,aH,rfl⟩
 rcases hcase with e|⟨m,hm,hmk,hc,e⟩
 ·rw[e]
 rw[e] at h' ⊢;have hff:=mh h.lI.mj i
 have hne:∀j n,find t.ae j=some n->n.kind=2->j≠i:=by
  rintro j n hj hk rfl;rw[hm] at hj; cases hj;omega
 have fd:∀j n,find t.ae j=some n->n.kind=2->find (fQ t.ae i) j=some n:=fun j n hj hk=>by rw[hff,aP (hne j n hj hk),hj]
 have bel:∀(m:Nat)(j:Int)(n:Node),find t.ae j=some n->n.kind=2->dE j=m->iM (fQ t.ae i) j q=iM t.ae j q:=by
  intro m;induction m with
  |zero =>
   intro j n hj hk hd
   by_cases ho:j=q
   ·subst ho;exact(dX.oL (t:=⟨fQ t.ae i,t.next,t.ak⟩) j).trans (dX.oL j).symm
   by_cases h1:j=1
   ·subst h1;exact(dX.qK (t:=⟨fQ t.ae i,t.next,t.ak⟩) fun hh=>ho hh.symm).trans (dX.qK fun hh=>ho hh.symm).symm
   ·have:=(h.qE _ _ hj hk h1).1; omega
  |succ m ih =>
   intro j n hj hk hd
   by_cases ho:j=q
   ·subst ho;exact(dX.oL (t:=⟨fQ t.ae i,t.next,t.ak⟩) j).trans (dX.oL j).symm
   have h1:j≠1:=fun hh=>by subst hh; have:=h.Ct; omega
   obtain⟨a,p,hp,hpk⟩:=h.qE _ _ hj hk h1;have b1:=h'.sr (fd j n hj hk) hk h1 ho;rw[h.sr hj hk h1 ho];exact b1.trans (ih _ p hp hpk aH)
 by_cases hq:∃d,find t.ae q=some d/\d.kind=2
 ·obtain⟨d,d1,d2⟩:=hq;obtain⟨K,k1,k2,k3,k4⟩:=HC h d1 d2;obtain⟨L,l1,l2,l3,l4⟩:=HC h' (fd q d d1 d2) d2
  have hin:∀x,InB (fQ t.ae i) q x↔InB t.ae q x:=fun x=>by
   constructor
   ·rintro⟨d,e,hd,hk,hb,he,hx⟩;have hd':find (fQ t.ae i) d.ar=some d:=(ij h'.lI.mj).2 ⟨hd,rfl⟩;rw[hff] at hd';split at hd'
    ·cases hd'
    ·exact⟨d,e,(cG hd').1,hk,by rw[<-bel _ _ d hd' hk rfl]; exact hb,he,hx⟩
   ·rintro⟨d,e,hd,hk,hb,he,hx⟩;have hd':find t.ae d.ar=some d:=(ij h.lI.mj).2 ⟨hd,rfl⟩;exact⟨d,e,(cG (fd _ _ hd' hk)).1,hk,by rw[bel _ _ d hd' hk rfl]; exact hb,he,hx⟩
  have hp:L.Perm K:=(List.perm_ext_iff_of_nodup l1 k1).2 fun x=>by rw[l2,k2]; exact hin x
  have hs:yi (fQ t.ae i) L=yi t.ae K:=by
   unfold yi;rw[<-(hp.map (Wd t.ae)).sum_nat];congr 1;refine cY fun x hx=>?_
   obtain⟨d,e,hd,_,_,he,hxe⟩:=(k2 x).1 (hp.mem_iff.1 hx)
   have hxi:x≠i:=fun hh=>by
    have:=vU.2 ⟨d,e,hd,he,hxe.trans hh⟩;omega
   simp only[Wd,bl,hff,aP hxi]
  rw[k4,l4,hp.length_eq,hs]
 ·rw[(vV h fun d hd hk=>hq ⟨d,hd,hk⟩).1]
  refine(vV h' fun d hd hk=>?_).1
  have hd:find (fQ t.ae i) q=some d:=hd;rw[hff] at hd;split at hd
  ·cases hd
  ·exact hq ⟨d,hd,hk⟩
def t0:Tree:=⟨[⟨1,2,0,[],[],1⟩],2,1⟩
def f0:aa:=⟨⟨t0,0,[0],[],[],1⟩,[],[]⟩
section
attribute [local irreducible] eX fJ lj gK dY kr aq aR cp bI
def c39:aq cd 39 [] []=some (.agg (aM t0),[]):=by
 refine aB ?_;simp only[alm,E39,EW,seval];rfl
def k39:=cP c39
def k38(M:aC):aR (aq cd) 38 [.agg [ba t0.ae,aF t0.next,aF t0.ak]] M=some (.agg (bL f0.s),M):=cO (c38 t0 mu) M
def c24:aq cd 24 [] []=some (.agg (cf f0),[]):=by
 refine aB ?_;have q:=k39;simp only[aM] at q;simp only[ak5,E24,q,k38,bL,EW,seval];rfl
def k24:=cP c24
end
def rt0:Rt t0:=⟨_,VW⟩
def fb0:FB 0 f0:=by
 refine⟨⟨rt0,rfl,?_,?_,?_,List.Pairwise.nil,?_,List.Pairwise.nil,?_⟩,?_⟩<;>simp[f0]
abbrev Iq(l:List jC):ag := .slice .sh (l.map XB)
def Fp(n:jC):(XB n).cells=eT n:=rfl
def Ji(n:jC):(eT n).length=8:=rfl
def NX(l:List jC):wid (l.map XB) 8=True:=pk XB _ (fun _=>rfl) l
def tkO(n:jC):List.take 8 (eT n)=eT n:=rfl
def shO(n:jC):List.map ag.shut (eT n)=eT n:=rfl
set_option linter.defProp false in
def EVO:=bR @Fp (bR @Ji (bR @NX (bR @tkO (@shO))))
def xf(o:jC):Bool:=decide (5000<(o.data.length:Int))||(decide (1000<(o.dH.length:Int))||decide (1000<(o.u9.length:Int)))
def DF(l:List jC):Bool:=if decide (50<(l.length:Int)) then true else l.any xf
def Nh{o:jC}(h:xf o=false):sg o:=by
 simp only[xf,jN,dA] at h;exact⟨aH,aH,aH⟩
section
attribute [local irreducible] eX fJ lj gK dY kr aq aR cp bI
def c26(o:jC):aq cd 26 [XB o] []=some (.bool (xf o),[]):=by
 refine aB ?_;unfold xf
 cases h1:decide (5000<(o.data.length:Int))<;>cases h2:decide (1000<(o.dH.length:Int))<;>cases h3:decide (1000<(o.u9.length:Int)) <;>
  simp only[ak8,E26,XB,eT,h1,h2,h3,eu,dI,fG,cV,EW,seval]
def k26(o:jC)(M:aC):aR (aq cd) 26 [.agg (eT o)] M=some (.bool (xf o),M):=cO (c26 o) M
def c25(xs:List jC):aq cd 25 [Iq xs] []=some (.bool (DF xs),[]):=by
 refine aB ?_;unfold DF;cases h0:decide (50<(xs.length:Int))<;>simp only[ak7,E25,h0,aE,af,aD,EVO,EW,seval]
 have hn:xs.length<=50:=by simp at h0; omega
 refine AL (xs:=xs) aH (fun l (_:Unit)=>l.any xf) (fun _ i=>[(0,Iq xs),(3,aF i)]) (fun _=>[]) (fun b=>some (ag.bool b,([]:aC))) (fun _=>?_) (fun pre x post _ h hx cJ hw h0 hm hi=>?_) ()
 ·simp only[E25,bm,oU,EVO,EW,seval]
 ·have q:=fun M=>k26 x M
  have i1:=hi ();cases hl:xf x<;>rw[hl] at q<;>simp only[E25,cJ,hx,hw,q,hl,jP,dI,cV,EVO,EW,seval]
  exact i1
def k25 xs:=cP (c25 xs)
def lE{f:Nat}{vs:List ag}{M:aC}{x:ag×aC}(h:aR (aq cd) f vs M=some x):aR (aq Fa) f vs M=some x:=lD (lS h)
def k29 f o hf ho:=cP (c29 f o hf ho)
end
section
open Go.ChangeShapes Go.WideShapes Go.ChangeAt Go.RowKit Go.Deep
def laidOut:laidOutB Tryz.prog=true:=fA
section
variable {H:Type} {enc:TypeId×Value->H}
def yz{W W':World}(hb:Below W.heap.size W W'):∀ {ts:List TypeId} {vs:List Value} {ds:List (DataW H)} {p:List MemPlace},DataW.TrodAll enc Tryz.prog W 0 (fun _=>true) true ts vs ds p ->
  (∀t,t∈ts->Tryz.prog.readableRec t=true/\t<Tryz.prog.types.size)->(∀x∈p,x.block<W.heap.size)->DataW.TrodAll enc Tryz.prog W' 0 (fun b=>decide (b<W.heap.size)) true ts vs ds p
 | [],vs,ds,p,h,_,_=>by
  obtain⟨rfl,rfl,rfl⟩:=trodAll_nil h;exact trodAll_mk0
 |t::ts,vs,ds,p,h,ht,hp=>by
  obtain⟨v,vs',d,ds',p1,q,rfl,rfl,rfl,h1,h2⟩:=trodAll_cons h
  exact trodAll_cons_mk (Below.trod laidOut (ht t bD).1 (ht t bD).2 h1 hb (fun x hx=>hp x (eH _ hx)))
   (yz hb h2 (fun t ht'=>ht t (bw _ ht')) (fun x hx=>hp x (iG _ hx)))
abbrev ER(w:World):Nat->Nat->Prop:=om jX0 [] w
def WW{w:World}{b off:Nat}(h:b<w.heap.size):ER w b off:=⟨h,fun id hid=>absurd hid (jI _),fun hx=>hx⟩
def lP(b off i:Nat):(⟨b,off,none⟩:Addr).add i=⟨b,off+i,none⟩:=by
 unfold Addr.add;split
 ·rename_i h; rw[h]; rfl
 ·rfl
def zM{w:World}{fuel t:Nat}{v:Value}{x:DataW H×List MemPlace}(ht:Tryz.prog.underlying t=some (.int .i64))(h:DataW.trod enc Tryz.prog w 0 (fun _=>true) true fuel t [v]=some x):∃n:Int,fR w (ER w) (.int .i64 n) v:=by
 obtain⟨n,q,_,_⟩:=DataW.trod_int ht h;cases q;exact⟨n,.int _ _⟩
def Xn{w:World}{fuel t:Nat}{v:Value}{x:DataW H×List MemPlace}(ht:Tryz.prog.underlying t=some (.int .u8))(h:DataW.trod enc Tryz.prog w 0 (fun _=>true) true fuel t [v]=some x):∃b:UInt8,fR w (ER w) (qW b) v:=by
 obtain⟨n,q,_,wf⟩:=DataW.trod_int ht h;cases q;have h3:IntKind.u8.min<=n/\n<=IntKind.u8.max:=by simpa[Lit.wf] using wf
 have e1:IntKind.u8.min=0:=mu;have e2:IntKind.u8.max=255:=mu;have e:n=((UInt8.ofNat n.toNat).toNat:Int):=by rw[UInt8.toNat_ofNat']; omega
 refine⟨UInt8.ofNat n.toNat,?_⟩;unfold qW;rw[<-e];exact .int _ _
def NQ{w:World}{fuel t:Nat}{v:Value}{x:DataW H×List MemPlace}(ht:Tryz.prog.underlying t=some .string)(h:DataW.trod enc Tryz.prog w 0 (fun _=>true) true fuel t [v]=some x):∃s:Bytes,fR w (ER w) (.str s) v:=by
 obtain⟨s,q,_,_⟩:=DataW.trod_string ht h;cases q;refine⟨s.data.toList,?_⟩;have:Go.Abs.bs s.data.toList=s:=by apply ByteArray.ext; simp[Go.Abs.bs]
 have h:=fR.str (w:=w) (iA:=ER w) s.data.toList;rw[this] at h;exact h
def BM{α:Type}(P:Nat->α->Prop):∀(n:Nat),(∀i,i<n->∃a,P i a)->∃l:List α,l.length=n/\∀i a,l[i]?=some a->P i a
 |0,_=>⟨[],rfl,fun i a h=>by cases i<;>cases h⟩
 |n+1,h=>by
  obtain⟨l,hl,hp⟩:=BM P n (fun i hi=>h i aH)
  obtain⟨a,ha⟩:=h n aH;refine⟨l++[a],by simp[hl],fun i b hb=>?_⟩
  rcases bE i n with hi|hi
  ·rw[aQ aH] at hb;exact hp i b hb
  ·rw[bt aH] at hb
   have:i=n:=by
    have:=(aj.1 hb).1;simp at this; omega
   subst this;simp[hl] at hb;subst hb; exact ha
def oT(w:World)(l:List ag)(cs:List Value):Prop:=l.length=cs.length/\∀(k:Nat)(c:ag)(v:Value),l[k]?=some c->cs[k]?=some v->fR w (ER w) c v
def oT.one{w:World}{c:ag}{v:Value}(h:fR w (ER w) c v):oT w [c] [v]:=⟨rfl,fun k c' v' h1 h2=>by
 match k with
 |0=>cases h1; cases h2; exact h
 |k+1=>cases h1⟩
def oT.app{w:World}{a b:List ag}{cs ds:List Value}(h:oT w a cs)(g:oT w b ds):oT w (a++b) (cs++ds):=⟨by simp[h.1,g.1],fun k c v h1 h2=>by
 rcases bE k a.length with hk|hk
 ·rw[aQ hk] at h1;rw[aQ (by rw[<-h.1]; exact hk)] at h2
  exact h.2 k c v h1 h2
 ·rw[bt hk] at h1;rw[bt (by rw[<-h.1]; exact hk),<-h.1] at h2
  exact g.2 _ c v h1 h2⟩
def oT.nil{w:World}:oT w [] []:=⟨rfl,fun k c v h1 _=>by cases h1⟩
def amF:DataW H->Nat
 | .slice es _=>es.length
 |_=>0
def Et{α:Type}{w:World}{fuel t e m:Nat}{v:Value}{x:DataW H×List MemPlace}{eC:α->List ag}{mk:α->ag}(ht:Tryz.prog.underlying t=some (.slice e))(hm:Tryz.prog.cellsOf e=m)(hm0:0<m)
  (hmk:∀a,(mk a).cells=eC a) (dR:∀a,(eC a).length=m)
  (he:∀(n:Nat)(cs:List Value)(y:DataW H×List MemPlace),cs.length=m->DataW.trod enc Tryz.prog w 0 (fun _=>true) true n e cs=some y->∃a,oT w (eC a) cs)
  (h:DataW.trod enc Tryz.prog w 0 (fun _=>true) true fuel t [v]=some x) :
  ∃l:List α,fR w (ER w) (.slice .sh (l.map mk)) v/\l.length=amF x.1:=by
 rcases open_slice ht h with ⟨hcs,hxx⟩|⟨a,len,cap,mm,n,D,Pl,hcs,_,hl,_,hmm,hxx,hi⟩
 ·cases hcs;exact⟨[],fR.nil _ _ _,by rw[hxx]; rfl⟩
 ·cases hcs;simp only[aE] at hmm;obtain⟨b,off,spot⟩:=a;rw[hm] at hi
  have each:∀i,i<len->∃s:α,∃cs',w.cells? 0 ((⟨b,off,spot⟩:Addr).add (i*m)) m=some cs'/\cs'.length=m/\oT w (eC s) cs':=by
   intro i hi';obtain⟨cs',hcl,ht⟩:=hi i aH;have hln:cs'.length=m:=(World.cells?_some hcl).2.1;obtain⟨s,hr⟩:=he _ _ _ hln ht;exact⟨s,cs',hcl,hln,hr⟩
  obtain⟨l,hll,hlp⟩:=BM _ len each;refine⟨l,?_,by rw[hxx]; simp[amF,hll]⟩
  have hsp:len≠0->spot=none:=fun h0=>by
   obtain⟨s,cs',hcl,h6,_⟩:=each 0 aH;obtain⟨_,_,hat⟩:=World.cells?_some hcl;have:=hat 0 hm0;have h3:cs'[0]?=some (cs'[0]'(by omega)):=ai aH;rw[h3] at this;simpa[Addr.add] using World.cell?_spot this
  have cell:∀(i:Nat)(s:α)(k:Nat)(c:ag),l[i]?=some s->(eC s)[k]?=some c->∃u,w.cell? ⟨b,off+(i*m+k),none⟩=some u/\fR w (ER w) c u:=fun i s k c hs hk=>by
   obtain⟨cs',hcl,h6,hr⟩:=hlp i s hs;have hil:i<len:=by have:=(aj.1 hs).1; omega
   obtain rfl:=hsp aH;obtain⟨_,_,hat⟩:=World.cells?_some hcl;have hk6:k<m:=by have:=(aj.1 hk).1; rw[dR] at this; exact this
   have h1:=hat k hk6;have h3:cs'[k]?=some (cs'[k]'(by omega)):=ai aH;rw[lP,lP,h3] at h1;exact⟨_,by rw[<-Nat.add_assoc]; exact h1,hr.2 k c _ hk h3⟩
  refine .slice _ _ _ _ b off m (fun q=>(w.cell? ⟨b,off+q,none⟩).getD undef) (by simp[hll]) hl (fun hne=>?_) ?_ ?_ ?_
  ·obtain rfl:=hsp (fun h0=>hne (by rw[h0] at hll; rw[dQ.1 hll]; rfl))
   rfl
  ·intro x hx;obtain⟨s,_,rfl⟩:=eJ.1 hx;rw[hmk,dR]
  ·intro i x k c hx hk;rw[aX] at hx;obtain⟨s,hs,rfl⟩:=aV.1 hx;rw[hmk] at hk;obtain⟨u,h1,_⟩:=cell i s k c hs hk;refine⟨by rw[h1]; rfl,WW (Mu h1)⟩
  ·intro i x k c hx hk;rw[aX] at hx;obtain⟨s,hs,rfl⟩:=aV.1 hx;rw[hmk] at hk;obtain⟨u,h1,h2⟩:=cell i s k c hs hk
   show fR w _ c ((w.cell? _).getD undef)
   rw[h1];exact h2
def Ox{w:World}{fuel t e:Nat}{v:Value}{x:DataW H×List MemPlace}(ht:Tryz.prog.underlying t=some (.slice e))(he:Tryz.prog.underlying e=some (.int .u8))(hc:Tryz.prog.cellsOf e=1)(h:DataW.trod enc Tryz.prog w 0 (fun _=>true) true fuel t [v]=some x) :
  ∃d:Bytes,fR w (ER w) (.slice .sh (d.map qW)) v:=by
 obtain⟨l,h,_⟩:=Et (eC:=fun b=>[qW b]) (mk:=qW) ht hc aH (fun _=>rfl) (fun _=>rfl) (fun n cs y hl hy=>by
  match cs,hl with
  | [c],_ =>
   obtain⟨b,hb⟩:=Xn he hy;exact⟨b,.one hb⟩) h
 exact⟨l,h⟩
def Md{T:zo}(hT:nI Tryz.prog (aq T)){f:Nat}{args:List ag}(h:aq T f args []=some (.bool true,[]))(w:World)(hG:sO jX0 [] w)(vs:Array Value)(hl:args.length=vs.size)(hv:∀(i:Nat)(c:ag)(v:Value),args[i]?=some c->vs[i]?=some v->gu jX0 [] w c v) :
  Calls Tryz.prog f vs w fun e w'=>e = .returned (.bool true)/\Below w.heap.size w w':=by
 refine((hT f args [] _ h).2 jX0 w vs (atM w) hG hl hv).mono ?_;intro e w' hce;obtain⟨v,rfl,j',_,hx,hr⟩:=hce.ret rfl;obtain rfl:=hr.jA;exact⟨rfl,hx.os,hx.tape,hx.output,hx.size,fun k hk=>(hx.uh k hk fun i hi=>absurd hi (jI _)).1⟩
def X6{w:World}{n t k:Nat}{cs:List Value}{v:Value}{y:DataW H×List MemPlace}(hc:Tryz.prog.cellsOf t=1)(hk:cs[k]?=some v)(h:DataW.trod enc Tryz.prog w 0 (fun _=>true) true n t ((cs.drop k).take (Tryz.prog.cellsOf t))=some y):DataW.trod enc Tryz.prog w 0 (fun _=>true) true n t [v]=some y:=by
 rw[hc] at h
 have:(cs.drop k).take 1=[v]:=by
  have:=(aj.1 hk);obtain⟨h1,h2⟩:=this;rw[cW h1,h2]; rfl
 rw[this] at h;exact h
def J6:Tryz.prog.underlying 3=some (.int .i64):=fA
def adG:Tryz.prog.underlying 9=some .string:=fA
def anM:Tryz.prog.underlying 5=some (.int .u8):=fA
def abg:Tryz.prog.underlying 45=some (.slice 5):=fA
def H7:Tryz.prog.cellsOf 3=1:=fA
def abz:Tryz.prog.cellsOf 9=1:=fA
def akI:Tryz.prog.cellsOf 5=1:=fA
def Ym:Tryz.prog.cellsOf 45=1:=fA
def amI:Tryz.prog.cellsOf 49=8:=fA
def adF:Tryz.prog.underlying 22=some (.slice 49):=fA
set_option maxRecDepth 100000 in
def Wm{w:World}{fuel:Nat}{cs:List Value}{x:DataW H×List MemPlace}(h:DataW.trod enc Tryz.prog w 0 (fun _=>true) true fuel 49 cs=some x):∃o:jC,oT w (eT o) cs:=by
 obtain⟨xs,n,_,_,hl,hxl,hf⟩:=DataW.trod_struct underlying49 h;have h0:cs.length=8:=by rw[hl]; kernel_rfl
 match cs,h0 with
 | [v0,v1,v2,v3,v4,v5,v6,v7],_ =>
  match xs,hxl with
  | [y0,y1,y2,y3,y4,y5,y6,y7],_ =>
   obtain⟨a0,r0⟩:=zM J6 (X6 (k:=0) H7 rfl (hf 0 _ rfl));obtain⟨a1,r1⟩:=zM J6 (X6 (k:=1) H7 rfl (hf 1 _ rfl));obtain⟨a2,r2⟩:=NQ adG (X6 (k:=2) abz rfl (hf 2 _ rfl));obtain⟨a3,r3⟩:=NQ adG (X6 (k:=3) abz rfl (hf 3 _ rfl));obtain⟨a4,r4⟩:=zM J6 (X6 (k:=4) H7 rfl (hf 4 _ rfl));obtain⟨a5,r5⟩:=zM J6 (X6 (k:=5) H7 rfl (hf 5 _ rfl));obtain⟨a6,r6⟩:=zM J6 (X6 (k:=6) H7 rfl (hf 6 _ rfl));obtain⟨a7,r7⟩:=Ox abg anM akI (X6 (k:=7) Ym rfl (hf 7 _ rfl));exact⟨⟨a0,a1,a2,a3,a4,a5,a6,a7⟩,.app (.one r0) (.app (.one r1) (.app (.one r2) (.app (.one r3) (.app (.one r4) (.app (.one r5) (.app (.one r6) (.one r7)))))))⟩
set_option maxRecDepth 100000 in
def aaN{w:World}{r:Reach}{b:Nat}{v:Value}{d:DataW H}{ps:List MemPlace}(h:DataW.Trod enc Tryz.prog w 0 (fun _=>true) true 22 v d ps)(hv:Value.okWide Tryz.prog w r b 22 v):∃l:List jC,gu jX0 [] w (Iq l) v:=by
 obtain⟨a,len,cap,rfl⟩:=okWide_slice adF hv;obtain⟨fuel,hf⟩:=h;obtain⟨l,h2,_⟩:=Et (eC:=eT) (mk:=XB) adF amI aH (fun _=>rfl) (fun _=>rfl) (fun n cs y _ hy=>Wm hy) hf
 exact⟨l,.plain h2⟩
end
def ahO{α:Type}{a:Array α}{l:List α}(h:a.toList=l):a=l.toArray:=by rw[<-h]
end
section
attribute [local irreducible] eX fJ lj gK dY kr aq aR cp bI
def aav(l:List gM)(s:Bytes)(a b:Int):l.map iH++[.agg [.str s,aF a,aF b]]=(l++[gM.mk s a b]).map iH:=by simp[iH,fU]
def tu(ar:Int):List Node->Nat->Int
 | [],_ => -1
 |n::r,i=>if n.ar=ar then i else tu ar r (i+1)
def Z3{t:Tree}{ar:Int}(ht:t.ae.length<=100000){k:List K}{R:Int->Option (ag×aC)}
  (hx:∀e,kr (aq cd) [.tmp 4] 0 k ⟨.exit 0,e,[cA (aM t)]⟩=R (-1)) (hr:∀(i:Nat),kr (aq cd) [.tmp 4] 0 k ⟨.ret,[(4,aF i)],[cA (aM t)]⟩=R i) :
  ∀(l pre:List Node),t.ae=pre++l->eX (aq cd) [.tmp 4] 0 k (.loop [1,2,5] Zn) [(1,aF ar),(2,cv 0),(5,aF pre.length)] [cA (aM t)]=R (tu ar l pre.length):=by
 intro l;induction l with
 |nil =>
  intro pre h;rw[bF];simp only[Kg,aM,ba,jJ h,EN,seval];exact hx _
 |cons n r ih =>
  intro pre h;rw[bF];have dR:pre.length+1<=100000:=by rw[h] at ht; simp at ht; omega
  have hw:=zl pre n;simp only[Kg,aM,ba,iP h,gU h,aL,EN,seval];refine bA (fun hb=>?_) (fun hb=>?_)
  ·have hb:n.ar=ar:=by simpa using hb
   simp only[Kg,EN,seval];rw[tu,aW hb];exact hr _
  ·have hb:¬n.ar=ar:=by simpa using hb
   simp only[Kg,hw,EN,seval];rw[tu,aP hb];have:=ih (pre++[n]) (by rw[h]; simp)
   simp only[aA,av,az] at this ⊢;exact this
def apQ(t:Tree)(ar:Int)(ht:t.ae.length<=100000):aq cd 130 [br t,aF ar] []=some (aF (tu ar t.ae 0),[]):=by
 refine aB ?_;simp only[ab2,Kg,br,EN,seval];exact Z3 (R:=fun z=>some (aF z,[])) ht (fun e=>by simp only[Kg,EN,seval]) (fun i=>by simp only[Kg,EN,seval]) t.ae [] rfl
def ar4(ae:List Node)(next ak ar:Int)(h:ae.length<=100000)(M:aC):aR (aq cd) 130 [.agg [ba ae,aF next,aF ak],aF ar] M=some (aF (tu ar ae 0),M) :=
 cO (apQ ⟨ae,next,ak⟩ ar h) M
def Af(ar:Int):∀(l:List Node)(i:Nat),(find l ar=none/\tu ar l i = -1)\/∃m n,l[m]?=some n/\find l ar=some n/\tu ar l i=((i+m:Nat):Int)
 | [],_ => .inl ⟨rfl,rfl⟩
 |n::r,i=>by
  unfold find tu
  by_cases h:n.ar=ar
  ·exact .inr ⟨0,n,rfl,by simp[h],by simp[h]⟩
  ·rcases Af ar r (i+1) with ⟨h1,h2⟩|⟨m,n',h1,h2,h3⟩
   ·exact .inl ⟨by simp[h]; simpa[find] using h1,by simp[h,h2]⟩
   ·exact .inr ⟨m+1,n',by simpa using h1,by simp[h]; simpa[find] using h2,by simp[h,h3]; omega⟩
def c74(t:Tree)(ar:Int)(ht:t.ae.length<=100000):aq cd 74 [br t,aF ar] []=some (.tuple [bK ((find t.ae ar).getD Node.zero),.bool (find t.ae ar).isSome],[]):=by
 refine aB ?_;simp only[alB,E74,br,aM,ar4,ht,EN,seval];rcases Af ar t.ae 0 with ⟨h1,h2⟩|⟨m,n,h1,h2,h3⟩
 ·rw[h2];simp only[E74,h1,EN,seval];rfl
 ·rw[h3];simp only[E74,h1,h2,ba,aL,EN,seval];rfl
def A5(ae:List Node)(next ak ar:Int)(h:ae.length<=100000)(M:aC):aR (aq cd) 74 [.agg [ba ae,aF next,aF ak],aF ar] M=some (.tuple [bK ((find ae ar).getD Node.zero),.bool (find ae ar).isSome],M) :=
 cO (c74 ⟨ae,next,ak⟩ ar h) M
def apJ(t:Tree)(ar:Int)(ht:t.ae.length<=100000):aq cd 123 [br t,aF ar] []=some (.tuple [bK (gY t.ae ar).1,aF (gY t.ae ar).2],[]):=by
 refine aB ?_;simp only[abV,XJ,br,aM,A5,ht,bK,aL,EN,seval];unfold gY;cases hf:find t.ae ar with
 |none=>simp only[XJ,Option.isSome,EN,seval]; first|done|rfl
 |some n =>
  simp only[XJ,Option.isSome,bj,EN,seval]
  repeat' ((first|apply bA|apply bW|apply dK)<;>intro hb<;>simp only[hb,EN,XJ,seval])
  all_goals simp_all [Node.zero]
def YW(ae:List Node)(next ak ar:Int)(h:ae.length<=100000)(M:aC):aR (aq cd) 123 [.agg [ba ae,aF next,aF ak],aF ar] M=some (.tuple [bK (gY ae ar).1,aF (gY ae ar).2],M) :=
 cO (apJ ⟨ae,next,ak⟩ ar h) M
def tp(s:Bytes):List gM->Nat->Int
 | [],_ => -1
 |n::r,i=>if n.name=s then i else tp s r (i+1)
def tq(s:Bytes):∀(l:List gM)(i:Nat),(gv l s=none/\tp s l i = -1)\/∃m n,l[m]?=some n/\gv l s=some n/\tp s l i=((i+m:Nat):Int)
 | [],_ => .inl ⟨rfl,rfl⟩
 |n::r,i=>by
  unfold gv tp
  by_cases h:n.name=s
  ·exact .inr ⟨0,n,rfl,by simp[h],by simp[h]⟩
  ·rcases tq s r (i+1) with ⟨h1,h2⟩|⟨m,n',h1,h2,h3⟩
   ·exact .inl ⟨by simp[h]; simpa[gv] using h1,by simp[h,h2]⟩
   ·exact .inr ⟨m+1,n',by simpa using h1,by simp[h]; simpa[gv] using h2,by simp[h,h3]; omega⟩
def ZZ{t:Node}{s:Bytes}(ht:t.bc.length<=100000){k:List K}{R:Int->Option (ag×aC)}
  (hx:∀e,kr (aq cd) [.tmp 4] 0 k ⟨.exit 0,e,[cA (aL t)]⟩=R (-1)) (hr:∀(i:Nat),kr (aq cd) [.tmp 4] 0 k ⟨.ret,[(4,aF i)],[cA (aL t)]⟩=R i) :
  ∀(l pre:List gM),t.bc=pre++l->eX (aq cd) [.tmp 4] 0 k (.loop [1,2,5] Zj) [(1,.str s),(2,cv 0),(5,aF pre.length)] [cA (aL t)]=R (tp s l pre.length):=by
 intro l;induction l with
 |nil =>
  intro pre h;rw[bF];simp only[Ke,aL,jb,jJ h,EN,seval];exact hx _
 |cons n r ih =>
  intro pre h;rw[bF];have dR:pre.length+1<=100000:=by rw[h] at ht; simp at ht; omega
  have hw:=zl pre n;simp only[Ke,aL,jb,iP h,gU h,fU,EN,seval];refine bA (fun hb=>?_) (fun hb=>?_)
  ·have hb:n.name=s:=by simpa using hb
   simp only[Ke,EN,seval];rw[tp,aW hb];exact hr _
  ·have hb:¬n.name=s:=by simpa using hb
   simp only[Ke,hw,EN,seval];rw[tp,aP hb];have:=ih (pre++[n]) (by rw[h]; simp)
   simp only[aA,av,az] at this ⊢;exact this
def apL(t:Node)(s:Bytes)(ht:t.bc.length<=100000):aq cd 125 [bK t,.str s] []=some (aF (tp s t.bc 0),[]):=by
 refine aB ?_;simp only[abX,Ke,bK,EN,seval];exact ZZ (R:=fun z=>some (aF z,[])) ht (fun e=>by simp only[Ke,EN,seval]) (fun i=>by simp only[Ke,EN,seval]) t.bc [] rfl
def afh(a b c:Int)(d:Bytes)(e:List gM)(u:Int)(s:Bytes)(h:e.length<=100000)(M:aC):aR (aq cd) 125 [.agg [aF a,aF b,aF c,c8 d,jb e,aF u],.str s] M=some (aF (tp s e 0),M) :=
 cO (apL ⟨a,b,c,d,e,u⟩ s h) M
def ZY{s:Bytes}(hs:s.length<=100000){k:List K}{R:Bool->Option (ag×aC)}
  (hx:∀e,kr (aq cd) [.tmp 2] 0 k ⟨.exit 0,e,[]⟩=R true) (hr:kr (aq cd) [.tmp 2] 0 k ⟨.ret,[(2,.bool false)],[]⟩=R false) :
  ∀(l pre:Bytes),s=pre++l->eX (aq cd) [.tmp 2] 0 k (.loop [0,3] Zi) [(0,.str s),(3,aF pre.length)] []=R (l.all sS):=by
 intro l;induction l with
 |nil =>
  intro pre h;rw[bF];simp only[HG,jJ h,EN,seval];exact hx _
 |cons n r ih =>
  intro pre h;rw[bF];have dR:pre.length+1<=100000:=by rw[h] at hs; simp at hs; omega
  have hw:=zl pre n;have hi:=ih (pre++[n]) (by rw[h]; simp)
  simp only[aA,av,az] at hi;simp only[HG,iP h,gU h,EN,seval]
  repeat' ((first|apply bA|apply bW|apply dK)<;>intro hb<;>simp only[hb,EN,HG,gU h,hw,seval])
  all_goals try simp only[HG,EN,seval]
  all_goals first
   |(refine hr.trans ?_; congr 1; symm; simp_all [sS]; done)
   |(refine hi.trans ?_; congr 1; symm; simp_all [sS]; done)
def apK(s:Bytes)(hs:s.length<=100000):aq cd 124 [.str s] []=some (.bool (fY s),[]):=by
 refine aB ?_;simp only[abW,HG,EN,seval];have hl:=fun k hx hr=>ZY (k:=k) (R:=fun b=>some (ag.bool b,[])) hs hx hr s [] rfl
 repeat' ((first|apply bA|apply bW|apply dK)<;>intro hb<;>simp only[hb,EN,HG,seval])
 all_goals first
  |(simp_all [fY]; done)
  |(refine(hl _ (fun e=>by simp only[HG,EN,seval]) (by simp only[HG,EN,seval])).trans ?_; simp_all [fY]; done)
def SH s hs:=cP (apK s hs)
def c72(t:Tree)(ar:Int)(s:Bytes)(ht:Small t)(hs:s.length<=100000):aq cd 72 [br t,aF ar,.str s] []=some (.tuple [aF (fh t.ae ar s).1,aF (fh t.ae ar s).2],[]):=by
 refine aB ?_;have hd:=tC ht ar;simp only[alz,E72,br,aM,YW,ht.ae,bK,aL,EN,seval];unfold fh;refine bA (fun hb=>?_) (fun hb=>?_)
 ·simp only[E72,EN,seval];simp_all
 ·simp only[E72,SH,hs,EN,seval];refine bA (fun hb'=>?_) (fun hb'=>?_)
  ·simp only[E72,EN,seval];simp_all
  ·simp only[E72,afh,hd,EN,seval];rcases tq s (gY t.ae ar).1.bc 0 with ⟨h1,h2⟩|⟨m,n,h1,h2,h3⟩
   ·rw[h2];simp only[E72,EN,seval];simp_all
   ·rw[h3];simp only[E72,h1,jb,fU,EN,seval];simp_all
def k72(ae:List Node)(next ak ar:Int)(s:Bytes)(ht:Small ⟨ae,next,ak⟩)(hs:s.length<=100000)(M:aC):aR (aq cd) 72 [.agg [ba ae,aF next,aF ak],aF ar,.str s] M =
  some (.tuple [aF (fh ae ar s).1,aF (fh ae ar s).2],M):=cO (c72 ⟨ae,next,ak⟩ ar s ht hs) M
def ZW{t:Tree}{n:Node}(ht:t.ae.length<=100000){k:List K}{R:List Node->Bool->Option (ag×aC)}
  (hx:∀out done v e,out.length<=300000->kr (aq cd) [.dG 4 3] 0 k ⟨.exit 0,[(2,cv 0),(3,cv 1),(4,cv 2),(5,.slice (.own 3) (out.map bK)),(6,.bool done),(7,v),(12,e)],[cA (aM t),cA (aL n),.cells zT,.tick 6 out.length]⟩=R out done) :
  ∀(l pre out:List Node)(done:Bool),t.ae=pre++l->out.length+2*l.length<=300000->eX (aq cd) [.dG 4 3] 0 k (.loop [2,3,4,5,6,7] Zd) [(2,cv 0),(3,cv 1),(4,cv 2),(5,.slice (.own 3) (out.map bK)),(6,.bool done),(7,aF pre.length)] [cA (aM t),cA (aL n),.cells zT,.tick 6 out.length]=R (oq n l out done).1 (oq n l out done).2:=by
 intro l;induction l with
 |nil =>
  intro pre out done h ho;rw[bF];simp only[Kc,aM,ba,jJ h,EN,seval];exact hx _ _ _ _ (by simp at ho; omega)
 |cons m r ih =>
  intro pre out done h ho;rw[bF];have dR:pre.length+1<=100000:=by rw[h] at ht; simp at ht; omega
  have hw:=zl pre m;have hi:=fun out done ho=>ih (pre++[m]) out done (by rw[h]; simp) ho
  simp only[av] at ho;have r1:cr (out.length+1) 80=True:=qI;have r2:cr (out.length+1+1) 80=True:=qI;rw[oq];simp only[Kc,aM,ba,iP h,gU h,aL,EN,seval]
  repeat' ((first|apply bA|apply bW|apply dK)<;>intro hb<;>simp only[hb,EN,Kc,gU h,hw,r1,r2,aL,seval])
  all_goals try simp only[Kc,gU h,hw,r1,r2,aL,EN,seval]
  all_goals first
   |(refine im ?_ ((hi (out++[n]++[m]) true gh).trans ?_)
     ·simp only[aZ,aK,aU,aA,av,az]; rfl
     ·clear hi ih hx hw h; simp_all; done)
   |(refine im ?_ ((hi (out++[n]) true gh).trans ?_)
     ·simp only[aZ,aK,aU,aA,av,az]; rfl
     ·clear hi ih hx hw h; simp_all; done)
   |(refine im ?_ ((hi (out++[m]) done gh).trans ?_)
     ·simp only[aZ,aK,aU,aA,av,az]; rfl
     ·clear hi ih hx hw h; simp_all; done)
   |(refine im ?_ ((hi out done aH).trans ?_)
     ·simp only[aZ,aK,aU,aA,av,az]; rfl
     ·clear hi ih hx hw h; simp_all; done)
def c119(t:Tree)(n:Node)(ht:t.ae.length<=100000):aq cd 119 [br t,bK n] []=some (br ⟨eV t.ae n,t.next,t.ak⟩,[]):=by
 refine aB ?_;simp only[RQ,Kc,br,bK,EN,seval];refine ZW (R:=fun out done=>some (br ⟨out++(if done then [] else [n]),t.next,t.ak⟩,[])) ht (fun out done v e ho=>?_) t.ae [] [] false rfl gh
 have r1:cr (out.length+1) 80=True:=qI;cases done
 ·simp only[Kc,r1,br,aM,zT,aL,EN,seval];simp[ba,bK,aL]
 ·simp only[Kc,r1,br,aM,zT,aL,EN,seval]
  try simp[ba]
def G9(ae:List Node)(next ak a b c:Int)(d:Bytes)(e:List gM)(u:Int)(h:ae.length<=100000)(M:aC):aR (aq cd) 119 [.agg [ba ae,aF next,aF ak],.agg [aF a,aF b,aF c,c8 d,jb e,aF u]] M =
  some (.agg [ba (eV ae ⟨a,b,c,d,e,u⟩),aF next,aF ak],M):=cO (c119 ⟨ae,next,ak⟩ ⟨a,b,c,d,e,u⟩ h) M
def Z7{t:Tree}{ar:Int}(ht:t.ae.length<=100000){k:List K}{R:List Node->Option (ag×aC)}
  (hx:∀out v e,out.length<=300000->kr (aq cd) [.dG 4 3] 0 k ⟨.exit 0,[(1,aF ar),(2,cv 0),(4,cv 1),(5,.slice (.own 2) (out.map bK)),(6,v),(11,e)],[cA (aM t),.cells zT,.tick 6 out.length]⟩=R out) :
  ∀(l pre out:List Node),t.ae=pre++l->out.length+l.length<=150000->eX (aq cd) [.dG 4 3] 0 k (.loop [1,2,4,5,6] ZC) [(1,aF ar),(2,cv 0),(4,cv 1),(5,.slice (.own 2) (out.map bK)),(6,aF pre.length)] [cA (aM t),.cells zT,.tick 6 out.length]=R (out++fQ l ar):=by
 intro l;induction l with
 |nil =>
  intro pre out h ho;rw[bF];simp only[QF,aM,ba,jJ h,EN,seval];refine(hx _ _ _ (by simp at ho; omega)).trans (by simp[fQ])
 |cons m r ih =>
  intro pre out h ho;rw[bF];have dR:pre.length+1<=100000:=by rw[h] at ht; simp at ht; omega
  have hw:=zl pre m;have hi:=fun out ho=>ih (pre++[m]) out (by rw[h]; simp) ho
  simp only[av] at ho;have r1:cr (out.length+1) 80=True:=qI;simp only[QF,aM,ba,iP h,gU h,aL,EN,seval]
  repeat' ((first|apply bA|apply bW|apply dK)<;>intro hb<;>simp only[hb,EN,QF,gU h,hw,r1,aL,seval])
  all_goals first
   |(refine im ?_ ((hi (out++[m]) gh).trans ?_)
     ·simp only[aZ,aK,aU,aA,av,az]; rfl
     ·clear hi ih hx hw h; simp_all[fQ]; done)
   |(refine im ?_ ((hi out aH).trans ?_)
     ·simp only[aZ,aK,aU,aA,av,az]; rfl
     ·clear hi ih hx hw h; simp_all[fQ]; done)
def aqq(t:Tree)(ar:Int)(ht:t.ae.length<=100000):aq cd 175 [br t,aF ar] []=some (br ⟨fQ t.ae ar,t.next,t.ak⟩,[]):=by
 refine aB ?_;simp only[R1,QF,br,EN,seval];refine(Z7 (R:=fun out=>some (br ⟨out,t.next,t.ak⟩,[])) ht (fun out v e ho=>?_) t.ae [] [] rfl gh).trans (by simp[br])
 simp only[QF,br,aM,zT,EN,seval]
 try simp[ba]
def al9(ae:List Node)(next ak ar:Int)(h:ae.length<=100000)(M:aC):aR (aq cd) 175 [.agg [ba ae,aF next,aF ak],aF ar] M =
  some (.agg [ba (fQ ae ar),aF next,aF ak],M):=cO (aqq ⟨ae,next,ak⟩ ar h) M
def ZX{T:List ag}{n:Node}{s:Bytes}(hn:n.bc.length<=100000){k:List K}{R:List gM->Option (ag×aC)}
  (hx:∀out v e,out.length<=300000->kr (aq cd) [.dG 6 3] 0 k ⟨.exit 0,[(2,.str s),(3,cv 0),(6,cv 1),(7,cv 2),(9,.slice (.own 3) (out.map iH)),(10,v),(21,e)],[.cells T,.cells zT,cA (aL n),.tick 3 out.length]⟩=R out)
  (hT:∀B M,T.map (ag.jE B M)=T) :
  ∀(l pre out:List gM),n.bc=pre++l->out.length+l.length<=150000->eX (aq cd) [.dG 6 3] 0 k (.loop [2,3,6,7,9,10] Zh) [(2,.str s),(3,cv 0),(6,cv 1),(7,cv 2),(9,.slice (.own 3) (out.map iH)),(10,aF pre.length)] [.cells T,.cells zT,cA (aL n),.tick 3 out.length]=R (out++jF l s):=by
 intro l;induction l with
 |nil =>
  intro pre out h ho;rw[bF];simp only[Kd,aL,jb,jJ h,EN,seval];refine(hx _ _ _ (by simp at ho; omega)).trans (by simp[jF])
 |cons m r ih =>
  intro pre out h ho;rw[bF];have dR:pre.length+1<=100000:=by rw[h] at hn; simp at hn; omega
  have hw:=zl pre m;have hi:=fun out ho=>ih (pre++[m]) out (by rw[h]; simp) ho
  simp only[av] at ho;have r1:cr (out.length+1) 32=True:=qI;simp only[Kd,aL,jb,iP h,gU h,fU,hT,zT,EN,seval]
  repeat' ((first|apply bA|apply bW|apply dK)<;>intro hb<;>simp only[hb,EN,Kd,gU h,hw,r1,fU,hT,zT,seval])
  all_goals first
   |(refine im ?_ ((hi (out++[m]) gh).trans ?_)
     ·simp only[aZ,aK,aU,aA,av,az]; rfl
     ·clear hi ih hx hw h hT; simp_all[jF]; done)
   |(refine im ?_ ((hi out aH).trans ?_)
     ·simp only[aZ,aK,aU,aA,av,az]; rfl
     ·clear hi ih hx hw h hT; simp_all[jF]; done)
def Fw{t:Tree}(hs:Small t)(ar:Int):((find t.ae ar).getD Node.zero).bc.length<=100000:=by
 cases h:find t.ae ar with
 |none=>simp[Node.zero]
 |some n=>exact hs.bc n (cG h).1
def apI(t:Tree)(ar:Int)(s:Bytes)(ht:Small t):aq cd 122 [br t,aF ar,.str s] []=some (br ⟨dv t.ae ar s,t.next,t.ak⟩,[]):=by
 refine aB ?_;have hd:=Fw ht ar;unfold dv;simp only[RR,Kd,br,aM,A5,ht.ae,bK,EN,seval];generalize (find t.ae ar).getD Node.zero=n at hd ⊢;simp only[Kd,aL,EN,seval];refine(ZX (R:=fun out=>some (br ⟨eV t.ae { n with bc:=out },t.next,t.ak⟩,[])) hd (fun out v e ho=>?_) (fun B M=>by simp only[Kd,EN,seval]) n.bc [] [] rfl gh).trans (by simp[br,aM])
 simp only[Kd,zT,aL,G9,ht.ae,EN,seval];simp[br,aM]
end
end Go.Proofs.YteoamaffclmdbaaGreatDoor
