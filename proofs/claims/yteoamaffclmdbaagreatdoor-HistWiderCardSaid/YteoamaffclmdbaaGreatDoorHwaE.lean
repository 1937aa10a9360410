import Derived.Test.YteoamaffclmdbaaGreatDoorProg
import Derived.WalkKit
import Derived.LaidEql
import Derived.Stop.Asserts
import Derived.RowKitTokens
import Derived.KernelRfl
import Derived.Defers
import Derived.Recover
import Derived.Test.YteoamaffclmdbaaGreatDoorHwaD
set_option linter.unusedSimpArgs false
set_option linter.unusedVariables false
set_option linter.unusedSectionVars false
set_option linter.defProp false
open Go.Proofs.Tryz
namespace Go.Proofs.YteoamaffclmdbaaGreatDoor
section
open Go Go.Abs
section
section
variable {α:Type} (enc:α->ag) {f sz bytes:Nat}
def CT(hp:bW.oY f=some (mU sz bytes))(hw:∀a,(enc a).cells.length=sz)(hb:bytes<=1000){l:List α}(h0:l≠[])(hn:l.length<=100000)(M:aC) :
  aq bW f [gU (l.map enc)] M=some (.cz M.length 0 sz 0 l.length,M++[.arr sz 0 (l.map enc)]):=by
 refine fg (g:=mU sz bytes) hp ?_;obtain⟨a,r,rfl⟩:=fj h0;have hw:wid ((a::r).map enc) sz:=by have:=pr enc sz hw (a::r); simpa using this
 have hr:cq ((a::r).map enc).length bytes:=by have:=sq (a:=(a::r).length) (b:=bytes) aI aI; simpa using this
 unfold mU;simp only[aF] at hw hr ⊢;rw[fi ⟨hw,hr⟩];simp
def DJ(hp:bW.oY f=some (mU sz bytes)){l:List α}(h0:l=[])(M:aC):aq bW f [gU (l.map enc)] M=some (.slice .c0 [],M):=by
 subst h0; exact fg (g:=mU sz bytes) hp rfl
def I5(hp:bW.oY f=some (lj sz bytes))(hb:bytes<=1000){l:List α}{b id v:Nat}(h:b<=l.length)(hn:l.length<=100000)(x:ag)(hx:x.cells.length=sz)(M:aC)(hM:nth M id=some (.arr sz v (l.map enc))) :
  aq bW f [.cz id v sz 0 l.length,aH b,gU [x]] M=some (.cz id (v+1) sz 0 (l.length+1),iP M id (.arr sz (v+1) ((l.map enc).take b++x::(l.map enc).drop b))):=by
 refine fg (g:=lj sz bytes) hp ?_;have hr:cq ((l.map enc).length+1) bytes:=by have:=sq (a:=l.length+1) (b:=bytes) aI aI; simpa using this
 unfold lj;simp only[hM];rw[fi ⟨trivial,trivial,trivial,dv,aI,by simpa using h,hx,hr⟩]
 simp
def FL(hp:bW.oY f=some (lj sz bytes)){b:Nat}(h0:b=0)(x:ag)(hx:x.cells.length=sz)(M:aC) :
  aq bW f [.slice .c0 [],aH (b:Int),gU [x]] M=some (.cz M.length 0 sz 0 1,M++[.arr sz 0 [x]]):=by
 subst h0;refine fg (g:=lj sz bytes) hp ?_;unfold lj;simp only[];rw[fi ⟨rfl,hx⟩]
def alX(hp:bW.oY f=some (lN sz)){l:List α}{b id v:Nat}(h:b<l.length)(hn:l.length<=100000)(M:aC)(hM:nth M id=some (.arr sz v (l.map enc))) :
  aq bW f [.cz id v sz 0 l.length,aH b,aH ((b+1:Nat):Int)] M=some (.cz id (v+1) sz 0 (l.length-1),iP M id (.arr sz (v+1) ((l.map enc).take b++(l.map enc).drop (b+1)))):=by
 refine fg (g:=lN sz) hp ?_;unfold lN;simp only[hM];rw[fi ⟨trivial,trivial,trivial,dv,aI,by simpa using h,aI,gm⟩]
 simp
def Qf{M:aC}(i:Nat)(a b:cJ):iP (iP M i a) i b=iP M i b:=by
 induction M generalizing i with
 |nil=>rfl
 |cons x r ih =>
  cases i with
  |zero=>rfl
  |succ i=>simp only[iP,ih]
def YB{l:List α}{b:Nat}(h:b<l.length):List.take (l.length-1) ((l.map enc).take b++(l.map enc).drop (b+1))=(l.eraseIdx b).map enc:=by
 rw[bB gm,List.eraseIdx_eq_take_drop_succ];simp
def FJ(hp:bW.oY f=some (sJ sz)){l:List α}{b id v:Nat}(h:b<l.length)(hn:l.length<=100000)(M:aC)(hM:nth M id=some (.arr sz v (l.map enc))) :
  aq bW f [.cz id v sz 0 l.length,aH b,aH ((b+1:Nat):Int)] M=some (gU ((l.eraseIdx b).map enc),iP M id (.tick sz (l.length-1))):=by
 refine fg (g:=sJ sz) hp ?_;unfold sJ lN;simp only[hM];rw[fi ⟨trivial,trivial,trivial,dv,aI,by simpa using h,aI,gm⟩]
 simp only[bO,ag.qX,ag.nY,HD hM,ag.ids,ag.nJ,ag.iH,pw,Qf,aE,jx,eL,ef];rw[YB enc h];have:(List.take b (l.map enc)++List.drop (b+1) (l.map enc)).length=l.length-1:=gm;rw[this]
def Ng{l:List α}{b:Nat}(h:b<=l.length)(x:α):List.take (l.length+1) ((l.map enc).take b++enc x::(l.map enc).drop b)=(l.take b++x::l.drop b).map enc:=by
 rw[bB gm];simp
end
attribute [local irreducible] eX fM lC gK dX kr aq aU cr bJ
def Fb(t:Tree)(ar:Int)(ht:Small t)(hr:rS t)(M:aC):aU (aq bW) 191 [.agg [ba t.ae,aH t.next,aH t.ak],aH ar] M=some (.tuple [.agg (aM (bl t.ae ar)),.bool (find t.ae ar).isSome],M) :=
 cO (aqO t ar ht hr) M
def amp(t:Tree)(ar:Int)(ht:Small t)(hr:rS t)(M:aC):aU (aq bW) 187 [.agg [ba t.ae,aH t.next,aH t.ak],aH ar] M=some (.tuple [.agg (aN (kK t ar).1),aH (kK t ar).2],M) :=
 cO (aqL t ar ht hr) M
end
section
attribute [local irreducible] eX fM lC gK dX kr aq aU cr bJ
def LB(l:List fA)(c h:Int):Int×Int:=match l.find? (sS c h) with
 |some x=>(x.ar,0)
 |none=>(0,80)
def aq8(l:List fA)(c h:Int)(hn:l.length<=100000):aq bW 224 [fH l,aH c,aH h] []=some (.tuple [aH (LB l c h).1,aH (LB l c h).2],[]):=by
 refine aB ?_;have hk:=adF l c h hn;simp only[ac6,aeg,hk,EW,seval];unfold LB;rcases x9 (sS c h) l 0 with ⟨h1,h2⟩|⟨m,x,h1,h2,h3,_⟩
 ·simp only[aeg,h1,h2,EW,seval]
 ·have cL:(((0+m:Nat):Int)<0)=False:=dv;simp only[aeg,h1,h2,h3,cL,jc,EW,seval]
def asP l c h hn:=cP (aq8 l c h hn)
def pT(l:List fA)(ar:Int):Bool:=l.any fun x=>x.ar==ar
def aq4(l:List fA)(ar:Int)(hn:l.length<=100000):aq bW 219 [fH l,aH ar] []=some (.bool (pT l ar),[]):=by
 refine aB ?_;have hk:aU (aq bW) 185 [fH l,.func 262 [cu 0]] [cv [aH ar]]=some (.bool (pT l ar),[cv [aH ar]]):=ly (ids:=[0]) rfl rfl (WE ar) rfl rfl (akI l ar hn) rfl rfl rfl rfl rfl;simp only[ac2,aoM,hk,EW,seval]
def mT(t:Tree):List Int:=(t.ae.filter gS).map Node.ar
def vJ(t:Tree)(l:List fA)(c h ar:Int):List fA×Int :=
 if !z6 c h then (l,1)
 else if !(find t.ae ar).isSome||gS (bl t.ae ar) then (l,70)
 else if (bl t.ae ar).kind==2 then (l,72)
 else if pn (fun x=>ik x c h==0) l (mw (fun x=>decide (ik x c h<0)) l)=true then (l,71)
 else if decide (64<=(l.length:Int)) then (l,76)
 else (l.take (mw (fun x=>decide (ik x c h<0)) l)++⟨c,h,ar⟩::l.drop (mw (fun x=>decide (ik x c h<0)) l),0)
def xi(a b:fA):Prop:=a.bA<b.bA\/(a.bA=b.bA/\a.handle<b.handle)
abbrev uD(l:List fA):Prop:=l.Pairwise xi
def sa(x:fA)(c h:Int):(ik x c h<0)↔(x.bA<c\/(x.bA=c/\x.handle<h)):=by
 unfold ik orI qR
 by_cases h1:x.bA<c
 ·simp[h1]
 ·by_cases h2:c<x.bA
  ·simp[h1,h2]; omega
  ·have:x.bA=c:=aI
   by_cases h3:x.handle<h
   ·simp[h3,this]
   ·by_cases h4:h<x.handle
    ·simp[h3,h4,this]
    ·simp[h3,h4,this]
def DU(x:fA)(c h:Int):(ik x c h=0)↔(x.bA=c/\x.handle=h):=by
 unfold ik orI qR
 by_cases h1:x.bA<c
 ·simp[h1]; omega
 ·by_cases h2:c<x.bA
  ·simp[h1,h2]; omega
  ·have:x.bA=c:=aI
   by_cases h3:x.handle<h
   ·simp[h3,this]; omega
   ·by_cases h4:h<x.handle
    ·simp[h3,h4,this]; omega
    ·simp[h3,h4,this]; omega
def D8{l:List fA}(h:uD l)(c g:Int):XI (fun x=>decide (ik x c g<0)) l (mw (fun x=>decide (ik x c g<0)) l):=by
 refine Hp (h.imp ?_);intro a b hab hb;simp only[bj,sa] at hb ⊢;unfold xi at hab;omega
def asM(l:List fA)(c g:Int)(hl:uD l)(hn:l.length<=100000)(M:aC):aU (aq bW) 211 [fH l,.agg [aH c,aH g],.ra 212 [.agg [aH c,aH g]]] M =
  some (.tuple [aH (mw (fun x=>decide (ik x c g<0)) l),.bool (pn (fun x=>ik x c g==0) l (mw (fun x=>decide (ik x c g<0)) l))],M) :=
 cO (aq0 l c g _ (D8 hl c g) hn) M
def aqk(t:Tree)(l:List fA)(c h ar:Int)(ht:Small t)(hr:rS t)(hl:uD l)(hn:l.length<=64):aq bW 156 [br t,fH l,aH c,aH h,aH ar] []=some (.tuple [fH (vJ t l c h ar).1,aH (vJ t l c h ar).2],[]):=by
 refine aB ?_;have q1:=Fb t ar ht hr;have q2:=asM l c h hl aI;have hb:=(D8 hl c h).le;unfold vJ;generalize mw (fun x=>decide (ik x c h<0)) l=b at q2 hb ⊢
 generalize pn (fun x=>ik x c h==0) l b=e at q2 ⊢
 simp only[R7,Ob,br,aN,asL,q1,q2,EW,seval];refine bC (fun h1=>?_) (fun h1=>?_)
 ·simp only[Ob,h1,EW,seval]
 ·have q3:=fun M=>afE (bl t.ae ar) M
  simp only[aM] at q3
  by_cases h0:l=[]
  ·have hb0:b=0:=by subst h0; simpa using hb
   have p1:=fun M=>DJ ic (f:=215) (sz:=3) (bytes:=24) rfl h0 M
   have p2:=fun M=>FL (f:=214) (sz:=3) (bytes:=24) rfl hb0 (.agg [aH c,aH h,aH ar]) rfl M
   simp only[Ob,h1,q1,q2,q3,aM,EW,seval]
   repeat' ((first|apply bC|apply bU|apply dK)<;>intro hb<;>simp only[hb,EW,Ob,q3,p1,p2,aM,seval])
   all_goals clear q1 q2 q3 p1 p2
   all_goals first|(simp_all only[qB,↓reduceIte,reduceCtorEq,az]; done)|(simp_all only[qB,↓reduceIte,reduceCtorEq,az]; rfl)
  ·have hb0:=hb;have p1:=fun M=>CT ic (f:=215) (sz:=3) (bytes:=24) rfl (fun _=>rfl) aI h0 aI M
   have p2:=fun M=>I5 ic (f:=214) (sz:=3) (bytes:=24) (v:=0) (id:=3) rfl aI hb aI (.agg [aH c,aH h,aH ar]) rfl M
   simp only[Ob,h1,q1,q2,q3,aM,EW,seval]
   repeat' ((first|apply bC|apply bU|apply dK)<;>intro hb<;>simp only[hb,EW,Ob,q3,p1,p2,aM,seval])
   all_goals clear q1 q2 q3 p1 p2
   all_goals first|(simp_all only[qB,↓reduceIte,reduceCtorEq,az]; done)|(simp_all only[qB,↓reduceIte,reduceCtorEq,az]; exact congrArg (fun z=>some (ag.tuple [ag.slice .sh z,aH 0],([]:aC))) (Ng ic hb0 ⟨c,h,ar⟩))
def ass(t:Tree)(l:List fA)(c h ar:Int)(ht:Small t)(hr:rS t)(hl:uD l)(hn:l.length<=64)(M:aC):aU (aq bW) 156 [.agg [ba t.ae,aH t.next,aH t.ak],fH l,aH c,aH h,aH ar] M=some (.tuple [fH (vJ t l c h ar).1,aH (vJ t l c h ar).2],M) :=
 cO (aqk t l c h ar ht hr hl hn) M
def asO l ar hn:=cP (aq4 l ar hn)
def nD(t:Tree)(l:List fA)(c h:Int):Tree×List fA×Int:=match l.find? (sS c h) with
 |none=>(t,l,80)
 |some x=>(if (find t.ae x.ar).isSome&&gS (bl t.ae x.ar) && !pT (l.eraseP (sS c h)) x.ar then (kK t x.ar).1 else t,l.eraseP (sS c h),0)
def aql(t:Tree)(l:List fA)(c h:Int)(ht:Small t)(hr:rS t)(hn:l.length<=64):aq bW 157 [br t,fH l,aH c,aH h] []=some (.tuple [br (nD t l c h).1,fH (nD t l c h).2.1,aH (nD t l c h).2.2],[]):=by
 refine aB ?_;have hk:=adF l c h aI;unfold nD;rcases x9 (sS c h) l 0 with ⟨h1,h2⟩|⟨m,x,h1,h2,h3,h4⟩
 ·simp only[MW,ad7,hk,h1,h2,br,aN,EW,seval]
 ·have cL:(((0+m:Nat):Int)<0)=False:=dv;have hm:m<l.length:=(aj.1 h2).1;have hne:l≠[]:=by rintro rfl; simp at hm
  have p1:=fun M=>CT ic (f:=215) (sz:=3) (bytes:=24) rfl (fun _=>rfl) aI hne aI M
  have p2:=fun M=>FJ ic (f:=218) (sz:=3) (v:=0) (id:=2) rfl hm aI M
  have hw:IntKind.i64.wrap ((m:Int)+1)=((m+1:Nat):Int):=by rw[gw aI aI]; rfl
  have q1:=Fb t x.ar ht hr;have q2:=amp t x.ar ht hr;have q3:=fun M=>afE (bl t.ae x.ar) M
  have q4:=asO (l.eraseP (sS c h)) x.ar (by have:=List.length_eraseP_le (p:=sS c h) (l:=l); omega)
  simp only[h3];generalize kK t x.ar=fr at q2 ⊢;rw[h4] at p2;simp only[aM,aN] at q1 q2 q3;simp only[MW,ad7,hk,h1,h2,cL,jc,p1,p2,hw,q1,q3,aM,br,aN,FZ,pw,EW,seval]
  repeat' ((first|apply bC|apply bU|apply dK)<;>intro hb<;>simp only[hb,EW,ad7,hk,h1,h2,cL,p1,p2,hw,q1,q2,q3,q4,aM,FZ,pw,seval])
  all_goals clear q1 q2 q3 q4 p1 p2 hk
  all_goals first|rfl|(simp_all only[qB,↓reduceIte,reduceCtorEq,az]; done)|(simp_all only[qB,↓reduceIte,reduceCtorEq,az]; rfl)|skip
def amh(t:Tree)(l:List fA)(c h:Int)(ht:Small t)(hr:rS t)(hn:l.length<=64)(M:aC):aU (aq bW) 157 [.agg [ba t.ae,aH t.next,aH t.ak],fH l,aH c,aH h] M=some (.tuple [.agg (aN (nD t l c h).1),fH (nD t l c h).2.1,aH (nD t l c h).2.2],M) :=
 cO (aql t l c h ht hr hn) M
def dU.sz{t:Tree}{dG:Int->Nat}{x:Int}(h:dU t dG x):Sz 200 t where
 ae:=h.ae
 bc:=fun n hn=>by have:=(h.yo _ _ ((ig h.lP.mB).2 ⟨hn,rfl⟩)).2; omega
 data:=fun n hn=>by
  have hi:=(ig h.lP.mB).2 ⟨hn,rfl⟩;rcases h.kind _ _ hi with h1|h1
  ·have:=(h.file _ _ hi h1).2.2; omega
  ·rw[h.dir _ _ hi h1]; simp
def Sz.HE{b:Nat}{t:Tree}(h:Sz b t)(hb:b<=100000:=by omega):Small t:=h.small hb
def Rt(t:Tree):Prop:=∃dG,dU t dG 0
def Rt.lP{t:Tree}(h:Rt t):rS t:=let ⟨_,g⟩:=h; g.lP
def Rt.sz{t:Tree}(h:Rt t):Sz 200 t:=let ⟨_,g⟩:=h; g.sz
def Rt.small{t:Tree}(h:Rt t):Small t:=h.sz.small aI
def Rt.free{t:Tree}(h:Rt t)(ar:Int):Rt (kK t ar).1:=let ⟨_,g⟩:=h; ⟨_,FH g ar⟩
def Rt.close{t:Tree}(h:Rt t)(l:List fA)(c g:Int):Rt (nD t l c g).1:=by
 unfold nD;split
 ·exact h
 ·split
  ·exact h.free _
  ·exact h
def yW(t:Tree)(l:List fA)(c g:Int):(nD t l c g).2.1.length<=l.length:=by
 unfold nD;split
 ·exact av _
 ·exact List.length_eraseP_le
def b0T(n:Tree)(B:Nat)(M:aC):List.map (ag.jX B M) (aN n)=aN n:=rfl
def aal{t:Tree}(ht:t.ae.length<=100000){k:List K}{R:List Int->Option (ag×aC)}
  (hx:∀(out:List Int) e,kr (aq bW) [.tmp 2] 0 k ⟨.exit 0,(3,.slice (.own 1) (out.map mZ))::e,[cv (aN t),.tick 1 out.length]⟩=R out) :
  ∀(l pre:List Node)(out:List Int),t.ae=pre++l->out.length<=pre.length->eX (aq bW) [.tmp 2] 0 k (.loop [3,7,8,9] ZU) [(3,.slice (.own 1) (out.map mZ)),(7,ba t.ae),(8,aH t.ae.length),(9,aH pre.length)] [cv (aN t),.tick 1 out.length]=R (out++(l.filter gS).map Node.ar):=by
 intro l;induction l with
 |nil =>
  intro pre out h ho;rw[bG];simp only[Oe,jM h,kP,EW,seval];exact hx _ _
 |cons n rest ih =>
  intro pre out h ho;rw[bG];have dD:pre.length+1<=100000:=by rw[h] at ht; simp at ht; omega
  have hw:=zy pre n;have hi1:=ih (pre++[n]) out (by rw[h]; simp) gm
  have hi2:=ih (pre++[n]) (out++[n.ar]) (by rw[h]; simp) gm
  simp only[aA,au,aw,aW,aF,aR] at hi1 hi2;have r1:cq (out.length+1) 8=True:=qM;have q3:=fun M=>afE n M
  simp only[aM] at q3;simp only[Oe,iM h,gQ h,aM,aN,q3,EW,seval] at hi1 hi2 ⊢;refine bC (fun hb=>?_) (fun hb=>?_)
  ·simp only[Oe,hb,r1,uC,hw,EW,seval];simpa[hb] using hi2
  ·simp only[Oe,hb,hw,EW,seval];simpa[hb] using hi1
def aqJ(t:Tree)(ht:t.ae.length<=100000):aq bW 184 [br t] []=some (ua (mT t),[]):=by
 refine aB ?_;have hl:=aal ht (k:=[.block 0,.seq ahC]) (R:=fun out=>some (ua out,[])) (fun out e=>by simp only[Oe,EW,seval]) t.ae [] [] rfl (av _)
 simp only[aN,aR,aw] at hl;simp only[Sd,Oe,br,aN,EW,seval];exact hl
def asD(t:Tree)(ht:t.ae.length<=100000)(M:aC):aU (aq bW) 184 [.agg [ba t.ae,aH t.next,aH t.ak]] M=some (ua (mT t),M):=cO (aqJ t ht) M
def sR(c:Int):List fA->Tree->List fA->Tree×List fA
 | [],t,l=>(t,l)
 |x::r,t,l=>if x.bA==c then sR c r (nD t l c x.handle).1 (nD t l c x.handle).2.1 else sR c r t l
def DP(t:Tree)(l:List fA)(c:Int):Tree×List fA:=sR c l t l
def aai{h0:List fA}(c:Int)(h64:h0.length<=64){k:List K}{R:Tree->List fA->Option (ag×aC)}
  (hx:∀(t:Tree) (l:List fA) e,kr (aq bW) [.dH 6 3,.tmp 7] 0 k ⟨.exit 0,(1,fH l)::(2,aH c)::(3,cu 0)::(6,cu 1)::e,[cv (aN t),cv [.slice .c0 [],aH 0,aH 0]]⟩=R t l) :
  ∀(r pre:List fA)(t:Tree)(l:List fA),h0=pre++r->Rt t->l.length<=64->eX (aq bW) [.dH 6 3,.tmp 7] 0 k (.loop [1,2,3,6,10,11,12] ZK) [(1,fH l),(2,aH c),(3,cu 0),(6,cu 1),(10,fH h0),(11,aH h0.length),(12,aH pre.length)] [cv (aN t),cv [.slice .c0 [],aH 0,aH 0]]=R (sR c r t l).1 (sR c r t l).2:=by
 intro r;induction r with
 |nil =>
  intro pre t l h ht hl;rw[bG];simp only[Od,jM h,sR,EW,seval];exact hx _ _ _
 |cons x rest ih =>
  intro pre t l h ht hl;rw[bG];have dD:pre.length+1<=100000:=by rw[h] at h64; simp at h64; omega
  have hw:=zy pre x;have q1:=amh t l c x.handle ht.small ht.lP hl;have hi1:=ih (pre++[x]) t l (by rw[h]; simp) ht hl
  have hi2:=ih (pre++[x]) _ _ (by rw[h]; simp) (ht.close l c x.handle) (aZ (yW t l c x.handle) hl)
  rw[sR];generalize nD t l c x.handle=cl at q1 hi2 ⊢;simp only[aA,au,aw] at hi1 hi2;simp only[Od,iM h,gQ h,jc,aN,EW,seval] at q1 hi1 hi2 ⊢;refine bC (fun hb=>?_) (fun hb=>?_)
  ·simp only[Od,hb,q1,hw,EW,seval];exact hi2
  ·simp only[Od,hb,hw,af,EW,seval];exact hi1
def aqu(t:Tree)(l:List fA)(c:Int)(ht:Rt t)(hl:l.length<=64):aq bW 169 [br t,fH l,aH c] []=some (.tuple [br (DP t l c).1,fH (DP t l c).2],[]):=by
 refine aB ?_;have hq:=aai (h0:=l) c hl (k:=[.block 0,.seq ahA]) (R:=fun t l=>some (.tuple [br t,fH l],[])) (fun t l e=>by simp only[Od,br,aN,EW,seval]) l [] t l rfl ht hl
 simp only[aN,aw] at hq;simp only[acz,Od,br,aN,EW,seval];exact hq
def asy(t:Tree)(l:List fA)(c:Int)(ht:Rt t)(hl:l.length<=64)(M:aC):aU (aq bW) 169 [.agg [ba t.ae,aH t.next,aH t.ak],fH l,aH c] M=some (.tuple [.agg (aN (DP t l c).1),fH (DP t l c).2],M) :=
 cO (aqu t l c ht hl) M
end
abbrev AM(α:Type):=List (Int×α)
section
variable {α:Type}
def B1(l:AM α):List ag:=l.map fun p => .int .i64 p.1
def ph(enc:α->ag)(l:AM α):List ag:=l.map fun p=>enc p.2
def eY:AM α->Int->Option α
 | [],_=>none
 |(k',v)::l,k=>if k=k' then some v else eY l k
def kL:AM α->Int->α->AM α
 | [],k,v=>[(k,v)]
 |(k',v')::l,k,v=>if k=k' then (k,v)::l else (k',v')::kL l k v
def jA:∀(l:AM α)(k:Int)(v:α)(j:Int),eY (kL l k v) j=if j=k then some v else eY l j
 | [],k,v,j=>by simp only[kL,eY]
 |(k',v')::l,k,v,j=>by
  simp only[kL];split
  ·rename_i h;subst h;simp only[eY];split<;>rfl
  ·rename_i h;simp only[eY];split
   ·rename_i h2;rw[aL (fun hh=>h (hh.symm.trans h2))]
   ·exact jA l k v j
def xy:∀(l:AM α)(k:Int)(v:α),eY l k=some v->(k,v)∈l
 |(k',v')::l,k,v,h=>by
  simp only[eY] at h;split at h
  ·rename_i hk;injection h with h
   subst h; subst hk;exact bE
  ·exact bw _ (xy l k v h)
def Ef:∀(l:AM α)(k:Int)(v:α),(kL l k v).length<=l.length+1
 | [],_,_=>by simp[kL]
 |(k',v')::l,k,v=>by
  simp only[kL];split
  ·simp
  ·have:=Ef l k v;simp; omega
def pa(enc:α->ag):∀(l:AM α)(k:Int),xu .i (.int .i64 k) (B1 l) (ph enc l)=some ((eY l k).map enc)
 | [],k=>rfl
 |(k',v)::l,k=>by
  show bJ (kC .i (.int .i64 k) (.int .i64 k')) (fun b=>Br b (some (some (enc v))) (xu .i (.int .i64 k) (B1 l) (ph enc l)))=_
  rw[pa enc l k];simp only[kC,↓reduceIte,bO,eY]
  by_cases h:k=k'
  ·rw[aX h,show(k==k')=true by simpa using h,vI]; rfl
  ·rw[aL h,show(k==k')=false by simpa using h,qq]
end
section
variable {α:Type}
def sF(enc:α->ag):∀(l:AM α)(k:Int)(v:α),xw .i (.int .i64 k) (enc v) (B1 l) (ph enc l)=some (B1 (kL l k v),ph enc (kL l k v))
 | [],k,v=>by
  show bJ (kC .i (.int .i64 k) (.int .i64 k)) (fun _=>some ([ag.int .i64 k],[enc v]))=_
  simp only[kC,↓reduceIte,bO];rfl
 |(k',v')::l,k,v=>by
  show bJ (kC .i (.int .i64 k) (.int .i64 k')) (fun b=>Br b (some (ag.int .i64 k::B1 l,enc v::ph enc l)) (bJ (xw .i (.int .i64 k) (enc v) (B1 l) (ph enc l)) fun x=>some (ag.int .i64 k'::x.1,enc v'::x.2)))=_
  rw[sF enc l k v];simp only[kC,↓reduceIte,bO,kL]
  by_cases h:k=k'
  ·rw[aX h,show(k==k')=true by simpa using h,vI]; rfl
  ·rw[aL h,show(k==k')=false by simpa using h,qq]; rfl
def Yw(enc:α->ag)(B:Nat)(M:aC)(h:∀a,(enc a).jY B M=enc a)(l:AM α):List.map (ag.jY B M) (ph enc l)=ph enc l:=by
 unfold ph;rw[gH];exact cX (fun p _=>h p.2)
def SD(enc:α->ag)(h:∀a,(enc a).ids=[])(l:AM α):(ph enc l).flatMap ag.ids=[]:=by
 unfold ph;rw[List.flatMap_map];exact mJ.2 fun p _=>h p.2
def Lq(enc:α->ag)(h:∀a,(enc a).flat=true)(l:AM α):(ph enc l).all ag.flat=true:=bN.2 fun x hx=>by
 obtain⟨p,_,rfl⟩:=eK.1 hx;exact h p.2
def WS(enc:α->ag)(ρ:Nat->Nat)(h:∀a,(enc a).pq ρ=enc a)(l:AM α):(ph enc l).map (ag.pq ρ)=ph enc l:=by
 unfold ph;rw[gH];exact cX (fun p _=>h p.2)
def Nr(o:Option Bool):po (.bool false) false (o.map ag.bool) = .bool (o.getD false):=by cases o<;>rfl
end
def mQ(ae:List Node):Nat->Int->Int×AM Bool->Int×AM Bool
 |0,_,s=>s
 |f+1,ar,s=>(bl ae ar).bc.foldl (fun s e=>if !((eY s.2 e.ar).getD false) then mQ ae f e.ar (s.1,kL s.2 e.ar true) else s) (nz (s.1+(bl ae ar).data.length),s.2)
def vQ:ag := .func 247 [.ptr 0 0,.ptr 1 0,.ptr 2 0,.ptr 3 0]
def jJ(t:Tree)(s:Int×AM Bool):aC:=[.cells (aN t),.cells [.int .i64 s.1],.cells [.iy 4],.cells [vQ],.map (B1 s.2) (ph ag.bool s.2)]
def flB(l:AM Bool):(ph ag.bool l).all ag.flat=true:=Lq _ (fun _=>rfl) l
def rnB(ρ:Nat->Nat)(l:AM Bool):(ph ag.bool l).map (ag.pq ρ)=ph ag.bool l:=WS _ _ (fun _=>rfl) l
def idB(l:AM Bool):(ph ag.bool l).flatMap ag.ids=[]:=SD _ (fun _=>rfl) l
def bkB(B:Nat)(M:aC)(l:AM Bool):List.map (ag.jY B M) (ph ag.bool l)=ph ag.bool l:=Yw _ _ _ (fun _=>rfl) l
def JS(t:Tree)(s:Int×AM Bool):(jJ t s).map (cJ.pq (iw [0,1,2,3,4]))=jJ t s/\(jJ t s).map (cJ.pq (wD [0,1,2,3,4]))=jJ t s:=by
 constructor
 ·simp only[jJ,aF,aR,cJ.pq,rnB]; rfl
 ·simp only[jJ,aF,aR,cJ.pq,rnB]; rfl
def anE(t:Tree)(s:Int×AM Bool)(L:aC):j5 (jJ t s++L) (iw [0,1,2,3,4]) [0,1,2,3,4]=some (jJ t s):=by
 have h:=(JS t s).1;simp only[jJ,aF,aR] at h;injection h with h0 h; injection h with h1 h; injection h with h2 h; injection h with h3 h; injection h with h4 h
 simp only[jJ,aG,aQ,j5,nth,h0,h1,h2,h3,h4];simp only[cJ.flat,flB,aE];rfl
def ar7(t:Tree)(s:Int×AM Bool)(L:aC):qz (jJ t s++L) [0,1,2,3]=[4,0,1,2,3]/\qz (jJ t s++L) [0,1,2,3,4]=[4,0,1,2,3]:=by
 refine⟨rfl,?_⟩
 show[4,0,1,2,3]++((ph ag.bool s.2).flatMap ag.ids++[])=_
 rw[idB]; rfl
def WO(t:Tree)(s:Int×AM Bool)(L:aC):reach (jJ t s++L) [0,1,2,3]=[0,1,2,3,4]/\kD (jJ t s++L) [0,1,2,3,4]=[0,1,2,3,4]:=by
 obtain⟨h1,h2⟩:=ar7 t s L;have e0:kc [] [0,1,2,3]=[0,1,2,3]:=rfl;have e1:kc [0,1,2,3] [4,0,1,2,3]=[0,1,2,3,4]:=rfl;have e2:kc [0,1,2,3,4] [4,0,1,2,3]=[0,1,2,3,4]:=rfl;simp only[reach,kD,e0,h1,e1,h2,e2,jV]
def ah1(t:Tree)(s s':Int×AM Bool)(L:aC):mh [0,1,2,3,4] (jJ t s++L) [0,1,2,3,4] (jJ t s')=jJ t s'++L:=by
 have h:=(JS t s').2;simp only[jJ,aF,aR] at h;injection h with h0 h; injection h with h1 h; injection h with h2 h; injection h with h3 h; injection h with h4 h
 simp only[jJ,aG,aQ,mh,h0,h1,h2,h3,h4,iP]
def abZ(t:Tree)(s:Int×AM Bool):(jJ t s).all cJ.flat=true:=by
 simp only[jJ,kN,cJ.flat,flB]; rfl
def akW{t:Tree}{ar:Int}{s s':Int×AM Bool}{L:aC}(h:aq bW 247 [aH ar,cu 0,cu 1,cu 2,cu 3] (jJ t s)=some (.tuple [],jJ t s')) :
  aU (aq bW) 247 [aH ar,cu 0,cu 1,cu 2,cu 3] (jJ t s++L)=some (.tuple [],jJ t s'++L) :=
 ly (ids:=[0,1,2,3,4]) rfl (WO t s L).1 (anE t s L) (WO t s L).2 rfl h rfl rfl (abZ t s') rfl (ah1 t s s' L)
def yG(t:Tree)(s:Int×AM Bool)(n:Node):aC:=[.cells [ba t.ae,.int .i64 t.next,.int .i64 t.ak],.map (B1 s.2) (ph ag.bool s.2),.cells [.iy 1],.cells [.int .i64 s.1],.cells [.func 247 [.ptr 0 0,.ptr 3 0,.ptr 2 0,.ptr 4 0]],.cells (aM n)]
def aeQ{t:Tree}{ar:Int}{s':Int×AM Bool}(n:Node)(h:aq bW 247 [aH ar,cu 0,cu 1,cu 2,cu 3] (jJ t (0,[]))=some (.tuple [],jJ t s')) :
  aU (aq bW) 247 [aH ar,cu 0,cu 3,cu 2,cu 4] (yG t (0,[]) n)=some (.tuple [],yG t s' n):=by
 have i1:qz (yG t (0,[]) n) [0,3,2,4]=[1,0,3,2,4]:=rfl;have i2:qz (yG t (0,[]) n) [0,3,2,4,1]=[1,0,3,2,4]:=rfl;have e0:kc [] [0,3,2,4]=[0,3,2,4]:=rfl;have e1:kc [0,3,2,4] [1,0,3,2,4]=[0,3,2,4,1]:=rfl;have e2:kc [0,3,2,4,1] [1,0,3,2,4]=[0,3,2,4,1]:=rfl
 have hr:reach (yG t (0,[]) n) [0,3,2,4]=[0,3,2,4,1]/\kD (yG t (0,[]) n) [0,3,2,4,1]=[0,3,2,4,1]:=by
  simp only[reach,kD,e0,i1,e1,i2,e2,jV]
 have hp:j5 (yG t (0,[]) n) (iw [0,3,2,4,1]) [0,3,2,4,1]=some (jJ t (0,[])):=by
  simp only[yG,j5,nth,cJ.flat,flB,bO,aE,cJ.pq,rnB];rfl
 refine ly (ids:=[0,3,2,4,1]) rfl hr.1 hp hr.2 rfl h rfl rfl (abZ t s') rfl ?_;simp only[jJ,yG,mh,cJ.pq,rnB,iP];rfl
section
attribute [local irreducible] eX fM lC gK dX kr aq aU cr bJ
def aar{t:Tree}{n:Node}{f:Nat}{k:List K}{R:Int×AM Bool->Option (ag×aC)}(hn:n.bc.length<=100000)
  (ih:∀e,e∈n.bc->∀s,aq bW 247 [aH e.ar,cu 0,cu 1,cu 2,cu 3] (jJ t s)=some (.tuple [],jJ t (mQ t.ae f e.ar s)))
  (hx:∀s e,kr (aq bW) [] 5 k ⟨.exit 0,e,jJ t s++[cv (aM n)]⟩=R s) :
  ∀(l pre:List gM)(s:Int×AM Bool),n.bc=pre++l->eX (aq bW) [] 5 k (.loop [3,4,22,23,24] Z2) [(3,cu 2),(4,cu 3),(22,jb n.bc),(23,aH n.bc.length),(24,aH pre.length)] (jJ t s++[cv (aM n)]) =
   R (l.foldl (fun s e=>if !((eY s.2 e.ar).getD false) then mQ t.ae f e.ar (s.1,kL s.2 e.ar true) else s) s):=by
 intro l;induction l with
 |nil =>
  intro pre s h;rw[bG];simp only[jJ,Og,jM h,nh,EW,seval] at hx ⊢;exact hx _ _
 |cons x rest ihl =>
  intro pre s h;rw[bG];have dD:pre.length+1<=100000:=by rw[h] at hn; simp at hn; omega
  have hw:=zy pre x;rw[cF];have hi1:=fun s=>ihl (pre++[x]) s (by rw[h]; simp)
  have q:=akW (L:=[cv (aM n),cv (fU x)]) (ih x (by rw[h]; simp) (s.1,kL s.2 x.ar true))
  generalize mQ t.ae f x.ar (s.1,kL s.2 x.ar true)=s' at q ⊢;simp only[jJ,vQ,aM,fU,aA,au,aw,aJ,aG,aQ] at hi1 q;simp only[jJ,vQ,Og,iM h,gQ h,aM,fU,pa,Nr,mapOf.eq_1,EW,seval];refine bC (fun hb=>?_) (fun hb=>?_)
  ·simp only[Og,hb,hw,sF,q,b0T,bkB,↓reduceIte,EW,seval];exact hi1 _
  ·simp only[Og,hb,hw,b0T,bkB,af,EW,seval];exact hi1 _
def arq{t:Tree}{dG:Int->Nat}(h:dU t dG 0):∀(f:Nat)(ar:Int)(s:Int×AM Bool),(∀n,find t.ae ar=some n->n.kind=2->13<f+dG ar)->0<f ->
  aq bW 247 [aH ar,cu 0,cu 1,cu 2,cu 3] (jJ t s)=some (.tuple [],jJ t (mQ t.ae f ar s)):=by
 intro f;induction f with
 |zero=>intro ar s _ h0; omega
 |succ f ih =>
  intro ar s hd _;have q1:=Fb t ar h.sz.HE h.lP
  have hl:=aar (t:=t) (n:=bl t.ae ar) (f:=f) (k:=[.block 0]) (R:=fun s=>some (.tuple [],jJ t s)) (by
    cases hi:find t.ae ar with
    |none=>simp[bl,hi,Node.zero]
    |some n=>have:=(h.yo _ _ hi).2; simp only[bl,hi,bm]; omega) ?_ (fun s e=>by simp only[jJ,vQ,Og,aM,b0T,bkB,EW,seval]) (bl t.ae ar).bc [] (nz (s.1+(bl t.ae ar).data.length),s.2) rfl
  ·refine aB ?_;rw[mQ];simp only[jJ,vQ,aM,aG,aQ,aw] at hl q1;simp only[adi,Og,jJ,vQ,aN,aM,q1,EW,seval];exact hl
  ·intro e he s;cases hi:find t.ae ar with
   |none=>simp[bl,hi,Node.zero] at he
   |some n =>
    simp only[bl,hi,bm] at he
    have hk:n.kind=2:=by
     rcases h.kind _ _ hi with h1|h1
     ·rw[(h.file _ _ hi h1).1] at he; cases he
     ·exact h1
    have h1:=hd n hi hk;have h2:=(h.deep _ _ hi hk).1;obtain⟨_,_,e1,_,m,hm,hu⟩:=h.CG _ _ _ hi he;refine ih e.ar s (fun n' hn' hk'=>?_) aI
    rw[hm] at hn'; cases hn';have:=(h.qI _ _ hm hk' e1).1;rw[hu hk'] at this;omega
def lB(ae:List Node)(ar:Int):Int×Int :=
 if (find ae ar).isSome&&(bl ae ar).kind==2 then (((mQ ae 14 ar (0,[])).2.length:Int),(mQ ae 14 ar (0,[])).1) else (0,0)
def c193{t:Tree}(h:Rt t)(ar:Int):aq bW 193 [br t,aH ar] []=some (.tuple [aH (lB t.ae ar).1,aH (lB t.ae ar).2],[]):=by
 obtain⟨dG,h⟩:=h;refine aB ?_;have q1:=Fb t ar h.sz.HE h.lP;have q2:=arq h 14 ar (0,[]) (fun n hn hk=>aI) aI
 unfold lB;generalize mQ t.ae 14 ar (0,[])=s' at q2 ⊢;simp only[aM] at q1;simp only[acM,QQ,br,aN,q1,aM,EW,seval];refine bU (fun hb=>?_) (fun hb=>?_)
 ·simp only[hb,QQ,EW,seval];refine bC (fun hc=>?_) (fun hc=>?_)
  ·have q3:=aeQ (bl t.ae ar) q2;simp only[yG,aM,B1,ph,aR] at q3;simp only[hb,hc,q3,QQ,mapOf.eq_1,EW,seval]
  ·simp only[hb,hc,QQ,mapOf.eq_1,dV,af,EW,seval]
 ·simp only[hb,QQ,mapOf.eq_1,dW,af,EW,seval]
def afA{t:Tree}(h:Rt t)(ar:Int)(M:aC):aU (aq bW) 193 [.agg [ba t.ae,aH t.next,aH t.ak],aH ar] M=some (.tuple [aH (lB t.ae ar).1,aH (lB t.ae ar).2],M) :=
 cO (c193 h ar) M
end
section
def ahv(l:List dQ)(o:Int)(b:cJ):j5 [cv [cN l],cv [aH o],b] (iw [0,1]) [0,1]=some [cv [cN l],cv [aH o]]:=rfl
def ahw(l:List dQ)(o:Int)(b:cJ):j5 [b,cv [cN l],cv [aH o]] (iw [1,2]) [1,2]=some [cv [cN l],cv [aH o]]:=rfl
attribute [local irreducible] eX fM lC gK dX kr aq aU cr bJ
abbrev pz(l:List dQ):Prop:=l.Pairwise fun a b=>a.ar<b.ar
def wQ(l:List dQ)(ar:Int):Nat:=mw (fun x=>decide (qR x.ar ar<0)) l
def F2(l:List dQ)(ar:Int):Bool:=pn (fun x=>qR x.ar ar==0) l (wQ l ar)
def yd{l:List dQ}(h:pz l)(ar:Int):XI (fun x=>decide (qR x.ar ar<0)) l (wQ l ar):=by
 refine Hp (h.imp ?_);intro a b hab hb;simp only[bj,x4] at hb ⊢;omega
def ara(l:List dQ)(ar:Int)(h:pz l)(hn:l.length<=100000):aq bW 226 [cN l,aH ar] []=some (.tuple [aH (wQ l ar),.bool (F2 l ar)],[]):=by
 refine aB ?_;have q:=fun M=>cO (arG l ar _ (yd h ar) hn) M
 simp only[ac8,aoP,q,F2,EW,seval]
def amA l ar h hn:=cP (ara l ar h hn)
def arM(l:List dQ)(dir o:Int)(h:pz l)(hn:l.length<=100000):aq bW 285 [aH dir,cu 0,cu 1] [cv [cN l],cv [aH o]] =
  some (.bool ((if F2 l dir then dir else o)==0),[cv [cN l],cv [aH (if F2 l dir then dir else o)]]):=by
 refine aB ?_;have q:=amA l dir h hn;simp only[adx,aek,q,EW,seval];refine bC (fun hb=>?_) (fun hb=>?_)
 ·simp only[aek,hb,aE,EW,seval]
 ·simp only[aek,hb,af,aD,EW,seval]
def sA(ae:List Node)(l:List dQ):Nat->Int->Int
 |0,_=>0
 |f+1,dir=>if F2 l dir then dir else if dir != 1 then sA ae l f (bl ae dir).up else 0
def aau{t:Tree}{dG:Int->Nat}(ht:dU t dG 0){l:List dQ}(hq:pz l)(hn:l.length<=100000){k:List K}{R:Int->Option (ag×aC)}
  (hx:∀o e,kr (aq bW) [] 2 k ⟨.exit 0,e,[cv [cN l],cv [aH o],cv (aN t)]⟩=R o) :
  ∀(f:Nat)(dir:Int)(n:Node),find t.ae dir=some n->n.kind=2->dG dir<f->eX (aq bW) [] 2 k (.loop [1,2,3] Z5) [(1,aH dir),(2,.func 285 [cu 0,cu 1]),(3,cu 2)] [cv [cN l],cv [aH 0],cv (aN t)] =
   R (sA t.ae l f dir):=by
 intro f;induction f with
 |zero=>intro dir n _ _ h; omega
 |succ f ih =>
  intro dir n hi hk hd;rw[bG,sA]
  have q0:aU (aq bW) 285 [aH dir,cu 0,cu 1] [cv [cN l],cv [aH 0],cv (aN t)] =
    some (.bool ((if F2 l dir then dir else 0)==0),[cv [cN l],cv [aH (if F2 l dir then dir else 0)],cv (aN t)]) :=
   ly (ids:=[0,1]) rfl rfl (ahv l 0 _) rfl rfl (arM l dir 0 hq hn) rfl rfl rfl rfl rfl
  have q1:=Fb t dir ht.sz.HE ht.lP;have hd1:=(ht.num _ _ hi).1;simp only[aM,aN] at q0 q1 hx;simp only[Oi,q0,aN,EW,seval];cases hb:F2 l dir
  ·simp only[hb,af,aD]
   by_cases h1:dir=1
   ·subst h1;simp only[Oi,az,af,aD,EW,seval];exact hx _ _
   ·have h1':(dir != 1)=true:=by simpa using h1
    obtain⟨g1,p,g2,g3⟩:=ht.qI _ _ hi hk h1;have hi':=ih n.up p g2 g3 aI;simp only[aN] at hi';simp only[bl,hi,bm] at q1 ⊢;simp only[Oi,h1',q1,aM,EW,seval];exact hi'
  ·simp only[hb,aE];have h0:(dir==0)=false:=gm;simp only[h0,Oi,EW,seval];exact hx _ _
def arL{t:Tree}{dG:Int->Nat}(ht:dU t dG 0){l:List dQ}(hq:pz l)(hn:l.length<=100000){dir:Int}{n:Node}(hi:find t.ae dir=some n)(hk:n.kind=2) :
  aq bW 284 [br t,aH dir,.func 285 [cu 0,cu 1]] [cv [cN l],cv [aH 0]]=some (.tuple [],[cv [cN l],cv [aH (sA t.ae l 13 dir)]]):=by
 refine aB ?_;have hl:=aau ht hq hn (k:=[.block 0]) (R:=fun o=>some (.tuple [],[cv [cN l],cv [aH o]])) (fun o e=>by simp only[Oi,aN,EW,seval]) 13 dir n hi hk (by have:=(ht.deep _ _ hi hk).1; omega)
 simp only[aN] at hl;simp only[adw,Oi,br,aN,EW,seval];exact hl
def mo(ae:List Node)(l:List dQ)(dir:Int):Int:=sA ae l 13 dir
def arp{t:Tree}{dG:Int->Nat}(ht:dU t dG 0){l:List dQ}(hq:pz l)(hn:l.length<=100000){dir:Int}{n:Node}(hi:find t.ae dir=some n)(hk:n.kind=2) :
  aq bW 246 [br t,cN l,aH dir] []=some (aH (mo t.ae l dir),[]):=by
 refine aB ?_
 have q:aU (aq bW) 284 [.agg (aN t),aH dir,.func 285 [cu 1,cu 2]] [cv (aN t),cv [cN l],cv [aH 0]] =
   some (.tuple [],[cv (aN t),cv [cN l],cv [aH (sA t.ae l 13 dir)]]) :=
  ly (ids:=[1,2]) rfl rfl (ahw l 0 _) rfl rfl (arL ht hq hn hi hk) rfl rfl rfl rfl rfl
 simp only[aN] at q;simp only[adh,aoU,br,aN,q,mo,EW,seval]
def asS{t:Tree}{dG:Int->Nat}(ht:dU t dG 0){l:List dQ}(hq:pz l)(hn:l.length<=100000){dir:Int}{n:Node}(hi:find t.ae dir=some n)(hk:n.kind=2)(M:aC) :
  aU (aq bW) 246 [.agg [ba t.ae,aH t.next,aH t.ak],cN l,aH dir] M=some (aH (mo t.ae l dir),M):=cO (arp ht hq hn hi hk) M
def vf(t:Tree)(l:List dQ)(ar ae bytes:Int):List dQ×Int :=
 if !(find t.ae ar).isSome then (l,70)
 else if (bl t.ae ar).kind != 2 then (l,73)
 else if decide (ae<0) then (if F2 l ar then l.eraseIdx (wQ l ar) else l,0)
 else if decide ((lB t.ae ar).1>ae)||decide ((lB t.ae ar).2>bytes) then (l,90)
 else if F2 l ar then (l.set (wQ l ar) ⟨ar,ae,bytes⟩,0)
 else if decide ((l.length:Int)>=16) then (l,76)
 else (l.take (wQ l ar)++⟨ar,ae,bytes⟩::l.drop (wQ l ar),0)
def aqp(t:Tree)(l:List dQ)(ar ae bytes:Int)(ht:Rt t)(hq:pz l)(hn:l.length<=16):aq bW 162 [br t,cN l,aH ar,aH ae,aH bytes] []=some (.tuple [cN (vf t l ar ae bytes).1,aH (vf t l ar ae bytes).2],[]):=by
 refine aB ?_;have q1:=Fb t ar ht.small ht.lP;have q2:=amA l ar hq aI;have q3:=afA ht ar;have hb:=(yd hq ar).le
 have cL:F2 l ar=true->wQ l ar<l.length:=by
  intro h;unfold F2 pn at h;split at h
  ·rename_i x hx; exact(aj.1 hx).1
  ·cases h
 unfold vf;generalize lB t.ae ar=u at q3 ⊢;generalize wQ l ar=b at q2 hb cL ⊢;generalize F2 l ar=e at q2 cL ⊢;simp only[aM] at q1
 by_cases h0:l=[]
 ·have hb0:b=0:=by subst h0; simpa using hb
  have he:e=false:=by
   cases e
   ·rfl
   ·have:=cL rfl; subst h0; simp at this
  subst he;have p1:=fun M=>DJ gA (f:=189) (sz:=3) (bytes:=24) rfl h0 M
  have p2:=fun M=>FL (f:=228) (sz:=3) (bytes:=24) rfl hb0 (.agg [aH ar,aH ae,aH bytes]) rfl M
  simp only[IX,Oc,br,aN,q1,q2,q3,aM,EW,seval]
  repeat' ((first|apply bC|apply bU|apply dK)<;>intro hb<;>simp only[hb,EW,Oc,q1,q2,q3,p1,p2,aM,seval])
  all_goals clear q1 q2 q3 p1 p2
  all_goals first|rfl|(simp_all only[qB,↓reduceIte,reduceCtorEq,az]; done)|(simp_all only[qB,↓reduceIte,reduceCtorEq,az]; rfl)
 ·have hb0:=hb;have p1:=fun M=>CT gA (f:=189) (sz:=3) (bytes:=24) rfl (fun _=>rfl) aI h0 aI M
  have p2:=fun M=>I5 gA (f:=228) (sz:=3) (bytes:=24) (v:=0) (id:=3) rfl aI hb aI (.agg [aH ar,aH ae,aH bytes]) rfl M
  cases he:e
  ·subst he;simp only[IX,Oc,br,aN,q1,q2,q3,aM,EW,seval]
   repeat' ((first|apply bC|apply bU|apply dK)<;>intro hb<;>simp only[hb,EW,Oc,q1,q2,q3,p1,p2,aM,seval])
   all_goals clear q1 q2 q3 p1 p2
   all_goals first|rfl|(simp_all only[qB,↓reduceIte,reduceCtorEq,az]; done)|(simp_all only[qB,↓reduceIte,reduceCtorEq,az]; rfl)|(simp_all only[qB,↓reduceIte,reduceCtorEq,az]; exact congrArg (fun z=>some (ag.tuple [ag.slice .sh z,aH 0],([]:aC))) (Ng gA hb0 ⟨ar,ae,bytes⟩))
  ·subst he;have p3:=fun M=>FJ gA (f:=227) (sz:=3) (v:=0) (id:=2) rfl (cL rfl) aI M
   have hbl:=cL rfl;have hx:=ai hbl;generalize l[b]=x at hx;have h1:((b:Int)<((l.length-0:Nat):Int))=True:=gm
   have hs:iP (l.map gA) b (putCells (gA x) 0 [aH ar,aH ae,aH bytes])=(l.set b ⟨ar,ae,bytes⟩).map gA:=by
    rw[fe,gj]; rfl
   have ht2:List.take l.length ((l.set b ⟨ar,ae,bytes⟩).map gA)=(l.set b ⟨ar,ae,bytes⟩).map gA:=bB dv;have hw:IntKind.i64.wrap ((b:Int)+1)=((b+1:Nat):Int):=by have:=cL rfl; rw[gw aI aI]; rfl
   simp only[IX,Oc,br,aN,q1,q2,q3,hw,aM,EW,seval]
   repeat' ((first|apply bC|apply bU|apply dK)<;>intro hb<;>simp only[hb,EW,Oc,q1,q2,q3,p1,p2,p3,hw,h1,hx,hs,ht2,aM,seval])
   all_goals clear q1 q2 q3 p1 p2 p3
   all_goals first|rfl|(simp_all only[qB,↓reduceIte,reduceCtorEq,az]; done)|(simp_all only[qB,↓reduceIte,reduceCtorEq,az]; rfl)
end
section
attribute [local irreducible] eX fM lC gK dX kr aq aU cr bJ
def wP{α:Type}(key:α->Int)(l:List α)(k:Int):Nat:=mw (fun x=>decide (qR (key x) k<0)) l
def XN{α:Type}(key:α->Int)(l:List α)(k:Int):Bool:=pn (fun x=>qR (key x) k==0) l (wP key l k)
def Nv{α:Type}{key:α->Int}{l:List α}(h:l.Pairwise fun a b=>key a<key b)(k:Int):XI (fun x=>decide (qR (key x) k<0)) l (wP key l k):=by
 refine Hp (h.imp ?_);intro a b hab hb;simp[x4] at hb ⊢;omega
theorem Q6{α:Type}{key:α->Int}{l:List α}(h:l.Pairwise fun a b=>key a<key b)(k:Int) :
  (XN key l k=true/\∃n,l[wP key l k]?=some n/\key n=k/\l.find? (fun x=>key x==k)=some n)\/(XN key l k=false/\l.find? (fun x=>key x==k)=none):=by
 obtain⟨l1,l2⟩:=Nv h k;simp only[bj,x4] at l2;cases hf:l.find? (fun x=>key x==k) with
 |some n =>
  left;have hm:=iA hf;have he:key n=k:=ka;obtain⟨i,hi⟩:=bV hm;have hib:¬i<wP key l k:=fun hc=>by have:=(l2 i n hi).2 hc; omega
  have hb:wP key l k<l.length:=by have:=(aj.1 hi).1; omega
  have hx:=ai hb
  have hie:i=wP key l k:=by
   grind [Nat.lt_or_ge,wP,List.pairwise_iff_getElem,absurd]
  subst hie;exact⟨by simp_all [XN,pn,GZ],n,hi,he,rfl⟩
 |none =>
  right;refine⟨?_,rfl⟩
  grind [XN,pn,List.find?_eq_none,List.mem_of_getElem?,qR,GZ]
theorem aq6(x y:Node)(hx:x.bc.length<=100000):aq bW 222 [.agg (aM x),.agg (aM y)] []=some (.bool (decide (x=y)),[]):=by
 have hd:decide (x=y)=(x.ar==y.ar&&(x.kind==y.kind&&(x.eo==y.eo&&(x.up==y.up&&(x.data==y.data&&decide (x.bc=y.bc)))))):=by
  obtain⟨a,b,c,d,e,f⟩:=x;obtain⟨a',b',c',d',e',f'⟩:=y
  grind
 refine aB ?_;have q:=fun M=>cO (akD x.bc y.bc hx) M
 rw[hd];simp only[ac4,aoN,bL,aM,EW,seval]
 repeat' ((first|apply bC|apply bU|apply dK)<;>intro hb<;>simp only[hb,EW,q,zF,seval])
 all_goals (rfl)
def amy x y hx:=cP (aq6 x y hx)
def Yi(ae:List Node)(ar:Int):Int:=if XN Node.ar ae ar then (wP Node.ar ae ar:Int) else -1
def aq5(ae:List Node)(ar:Int)(h:o4 ae)(hn:ae.length<=100000):aq bW 221 [ba ae,aH ar] []=some (aH (Yi ae ar),[]):=by
 refine aB ?_;have q  := fun M=>cO (akS ae ar _ (Nv h ar) hn) M
 simp only[ac3,aef,q,Yi,EW,seval];refine bC (fun hb=>?_) (fun hb=>?_)
 ·simp_all [XN,aef,EW]
 simp_all [XN,aef,EW]
def amx(ae:List Node)(ar:Int)(h:o4 ae)(hn:ae.length<=100000)(M:aC):aU (aq bW) 221 [ba ae,aH ar] M=some (aH (Yi ae ar),M):=cO (aq5 _ _ h hn) M
def xH(l:List mY)(a b:Int):Bool:=l.any (zp a b)
def aq7(l:List mY)(a b:Int)(hn:l.length<=100000):aq bW 223 [kj l,aH a,aH b] []=some (.bool (xH l a b),[]):=by
 refine aB ?_
 have q:aU (aq bW) 265 [kj l,.func 266 [cu 0,cu 1]] _=some (.bool (xH l a b),[cv [aH a],cv [aH b]]) :=
  ly (ids:=[0,1]) rfl rfl (L9 a b) rfl rfl (akT l a b hn) rfl rfl rfl rfl rfl
 simp only[ac5,aoO,q,EW,seval]
def amz l a b hn:=cP (aq7 l a b hn)
def k56(a b:Tree)(ha:Small a)(M:aC):aU (aq bW) 56 [.agg [ba a.ae,aH a.next,aH a.ak],.agg [ba b.ae,aH b.next,aH b.ak]] M=some (.bool (decide (a=b)),M):=cO (c56 a b ha) M
def lV(t:Tree)(dR:List mY)(tick:Int):List Node->List Int->List pv
 |n::r,x::y=>(if (decide (Yi t.ae n.ar<0) || !decide (n=bl t.ae n.ar))&&xH dR x tick then [⟨x,tick,n⟩] else [])++lV t dR tick r y
 |_,_=>[]
def rK(s:iQ)(tick:Int)(n:Node):Int :=
 if decide (0<=Yi s.now.ae n.ar)&&decide (n=bl s.now.ae n.ar) then s.since.getD (wP Node.ar s.now.ae n.ar) 0 else tick
def qA(s:iQ)(t:Tree):iQ:=if decide (s.now=t) then s else
 ⟨t,nz (s.tick+1),t.ae.map (rK s (nz (s.tick+1))),s.eN++lV t s.dR (nz (s.tick+1)) s.now.ae s.since,s.dR,s.next⟩
def CQ{ae:List Node}(h:o4 ae)(ar:Int) :
  (XN Node.ar ae ar=true/\Yi ae ar=(wP Node.ar ae ar:Int)/\ae[wP Node.ar ae ar]?=some (bl ae ar)/\find ae ar=some (bl ae ar))\/(XN Node.ar ae ar=false/\Yi ae ar = -1/\find ae ar=none):=by
 rcases Q6 h ar with ⟨h1,n,h2,_,h4⟩|⟨h1,h2⟩<;>simp_all [find,bl,Yi]
def yp(s:iQ)(t:Tree)(P:List pv)(S:List Int):aC :=
 [.cells (bM s),.cells (aN t),.cells [.slice .c0 [],.int .i64 0,.int .i64 0,.int .i64 0,.slice .c0 [],.slice .c0 [],.slice .c0 [],.int .i64 0],.tick 8 P.length,
  .cells [ba t.ae,.int .i64 t.next,.int .i64 t.ak,.int .i64 (nz (s.tick+1)),.slice (.own 5) (S.map mZ),.slice (.own 3) (P.map mc),kj s.dR,.int .i64 s.next],.tick 1 S.length]
theorem VJ{s:iQ}{t:Tree}(hs:rS s.now)(hz:Sz 200 s.now)(ht:rS t)(hzt:Sz 200 t)(hk:s.dR.length<=100000)(hl:s.since.length=s.now.ae.length){k:List K}{R:List pv->Option (ag×aC)}
  (hx:∀P e,kr (aq bW) [.dH 4 8] 0 k ⟨.exit 0,(2,cu 0)::(3,cu 1)::(4,cu 2)::(5,cu 4)::e,yp s t P []⟩=R P) :
  ∀(l pre:List Node)(y ypre:List Int)(P:List pv),s.now.ae=pre++l->s.since=ypre++y->ypre.length=pre.length->P.length<=100000+pre.length ->
   eX (aq bW) [.dH 4 8] 0 k (.loop [2,3,4,5,32,33,34] ZH) [(2,cu 0),(3,cu 1),(4,cu 2),(5,cu 4),(32,ba s.now.ae),(33,aH s.now.ae.length),(34,aH pre.length)] (yp s t P []) =
   R (P++lV t s.dR (nz (s.tick+1)) l y):=by
 intro l;induction l with
 |nil =>
  intro pre y ypre P h hy hyl hP;rw[bG];have hy0:y=[]:=by have:=congrArg List.length h; have h2:=congrArg List.length hy; simp_all
  subst hy0;simp only[yp,GP,jM h,lV,EW,seval] at hx ⊢;exact hx _ _
 |cons n rest ih =>
  intro pre y ypre P h hy hyl hP;rw[bG];have hn200:=hz.ae;have dD:pre.length+1<=200:=by rw[h] at hn200; grind
  have hw:=zy pre n;cases y with
  |nil=>have h1:=congrArg List.length h; have h2:=congrArg List.length hy; simp at h1 h2; omega
  |cons x y =>
   have hxa:s.since[pre.length]?=some x:=by rw[hy,<-hyl]; simp
   have hi1:=ih (pre++[n]) y (ypre++[x]) P (by rw[h]; simp) (by rw[hy]; simp) (by simp[hyl]) gm
   have hi2:=ih (pre++[n]) y (ypre++[x]) (P++[⟨x,nz (s.tick+1),n⟩]) (by rw[h]; simp) (by rw[hy]; simp) (by simp[hyl]) gm
   have q1:=amx t.ae n.ar ht.mB (by have:=hzt.ae; omega)
   have q2:=amy n (bl t.ae n.ar) (by have:=hz.bc n (by rw[h]; simp); omega)
   have q3:=amz s.dR x (nz (s.tick+1)) hk;have r1:cq (P.length+1) 96=True:=qM;rw[lV];simp only[yp,aM,aN,bM,aA,au,aw,aJ,aW,aF,aR] at hi1 hi2 q1 q2 q3;rcases CQ ht.mB n.ar with ⟨_,a2,a3,a4⟩|⟨_,a2,a4⟩
   ·have ha0:((wP Node.ar t.ae n.ar:Int)<0)=False:=dv;generalize decide (n=bl t.ae n.ar)=e1 at q2 ⊢;generalize xH s.dR x (nz (s.tick+1))=e2 at q3 ⊢;cases e1<;>cases e2<;>simp only[yp,GP,iM h,gQ h,aM,aN,bM,q1,q2,q3,a2,a3,ha0,hxa,hw,r1,EW,seval]
    ·simpa using hi1
    ·simpa[mc,mP,aM] using hi2
    ·simpa using hi1
    ·simpa using hi1
   ·have ha0:((-1:Int)<0)=True:=dv;generalize decide (n=bl t.ae n.ar)=e1 at q2 ⊢;generalize xH s.dR x (nz (s.tick+1))=e2 at q3 ⊢;cases e2<;>simp only[yp,GP,iM h,gQ h,aM,aN,bM,q1,q3,a2,ha0,hxa,hw,r1,EW,seval]
    ·simpa using hi1
    ·simpa[mc,mP,aM] using hi2
def VK{s:iQ}{t:Tree}(hs:rS s.now)(hz:Sz 200 s.now)(hzt:Sz 200 t)(hl:s.since.length=s.now.ae.length)(P:List pv){k:List K}{R:List Int->Option (ag×aC)}
  (hx:∀S e,kr (aq bW) [.dH 4 8] 0 k ⟨.exit 2,(2,cu 0)::(4,cu 2)::(5,cu 4)::e,yp s t P S⟩=R S) :
  ∀(l pre:List Node)(S:List Int),t.ae=pre++l->S.length<=100000+pre.length ->
   eX (aq bW) [.dH 4 8] 0 k (.loop [2,4,5,84,85,86] ZI) [(2,cu 0),(4,cu 2),(5,cu 4),(84,ba t.ae),(85,aH t.ae.length),(86,aH pre.length)] (yp s t P S) =
   R (S++l.map (rK s (nz (s.tick+1)))):=by
 intro l;induction l with
 |nil =>
  intro pre S h hS;rw[bG];simp only[yp,GP,jM h,EW,seval] at hx ⊢;exact hx _ _
 |cons n rest ih =>
  intro pre S h hS;rw[bG];have hn200:=hzt.ae;have dD:pre.length+1<=200:=by rw[h] at hn200; simp at hn200; omega
  have hw:=zy pre n;have hi1:=ih (pre++[n]) (S++[rK s (nz (s.tick+1)) n]) (by rw[h]; simp) gm
  have q1:=amx s.now.ae n.ar hs.mB (by have:=hz.ae; omega)
  have q2:=amy n (bl s.now.ae n.ar) (by have:=hzt.bc n (by rw[h]; simp); omega)
  have r1:cq (S.length+1) 8=True:=qM;rw[aF];unfold rK at hi1 ⊢;simp only[yp,aM,aN,bM,aA,au,aw,aJ,aW,aF,aR] at hi1 q1 q2;rcases CQ hs.mB n.ar with ⟨_,a2,a3,a4⟩|⟨_,a2,a4⟩
  ·have ha0:(0<=(wP Node.ar s.now.ae n.ar:Int))=True:=dv;have cL:wP Node.ar s.now.ae n.ar<s.since.length:=by rw[hl]; exact(aj.1 a3).1
   have hxa:=ai cL;have hxd:s.since.getD (wP Node.ar s.now.ae n.ar) 0=s.since[wP Node.ar s.now.ae n.ar]:=by simp[List.getD,hxa]
   rw[hxd] at hi1 ⊢;generalize s.since[wP Node.ar s.now.ae n.ar]=x at hxa hi1 ⊢;generalize decide (n=bl s.now.ae n.ar)=e1 at q2 hi1 ⊢;rw[a2] at hi1 ⊢;cases e1<;>simp only[yp,GP,iM h,gQ h,aM,aN,bM,q1,q2,a2,a3,ha0,hxa,hw,r1,uC,EW,seval]
   ·simpa using hi1
   ·simpa using hi1
  ·have ha0:(0<=(-1:Int))=False:=dv;rw[a2] at hi1 ⊢;simp only[yp,GP,iM h,gQ h,aM,aN,bM,q1,q2,a2,ha0,hw,r1,uC,EW,seval];simpa using hi1
def Sw{α:Type}(enc:α->ag){f sz bytes:Nat}(hp:bW.oY f=some (sm sz bytes))(hw:∀a,(enc a).cells.length=sz)(hb:bytes<=1000){l:List α}(hn:l.length<=100000)(M:aC) :
  aq bW f [gU (l.map enc)] M=some (.slice (.own M.length) (l.map enc),M++[.tick sz l.length]):=by
 refine fg (g:=sm sz bytes) hp ?_;have hw':wid (l.map enc) sz:=by have:=pr enc sz hw l; simpa using this
 have hr:cq (l.map enc).length bytes:=by have:=sq (a:=l.length) (b:=bytes) aI aI; simpa using this
 unfold sm;simp only[];rw[fi ⟨hw',hr⟩];rw[ef]
def Ew{α:Type}(enc:α->ag){f sz bytes:Nat}(hp:bW.oY f=some (sm sz bytes))(hw:∀a,(enc a).cells.length=sz)(hb:bytes<=1000){l:List α}(hn:l.length<=100000)(M:aC) :
  Bx (aq bW) f [gU (l.map enc)] M=some (.slice (.own M.length) (l.map enc),M++[.tick sz l.length]):=by
 unfold Bx;rw[aX ⟨rfl,rfl⟩,Sw enc hp hw hb hn,bO];rfl
def aqm(s:iQ)(t:Tree)(hs:rS s.now)(hz:Sz 200 s.now)(ht:rS t)(hzt:Sz 200 t)(hk:s.dR.length<=100000)(hl:s.since.length=s.now.ae.length)(hp:s.eN.length<=100000) :
  aq bW 158 [qS s,br t] []=some (qS (qA s t),[]):=by
 refine aB ?_;have q1:=k56 s.now t (hz.small aI);have p1:=fun M=>Ew mc (f:=220) (sz:=8) (bytes:=96) rfl (fun _=>rfl) aI hp M
 have l2:=fun P=>VK hs hz hzt hl P (k:=[.block 2,.seq aa9]) (R:=fun S=>some (.agg [ba t.ae,aH t.next,aH t.ak,aH (nz (s.tick+1)),ua S,r8 P,kj s.dR,aH s.next],[]))
  (fun S e=>by simp only[yp,bM,aN,GP,EW,seval]) t.ae [] [] rfl dv
 have l1:=VJ hs hz ht hzt hk hl (k:=[.block 0,.seq aba]) (R:=fun P=>some (.agg [ba t.ae,aH t.next,aH t.ak,aH (nz (s.tick+1)),ua (t.ae.map (rK s (nz (s.tick+1)))),r8 P,kj s.dR,aH s.next],[]))
  (fun P e=>by
   have:=l2 P;simp only[yp,bM,aN,aw,aQ] at this;simp only[yp,bM,aN,GP,EW,seval];exact this) s.now.ae [] s.since [] s.eN rfl rfl rfl (by simpa using hp)
 unfold qA;generalize decide (s.now=t)=e1 at q1 ⊢;simp only[yp,bM,aN,aw] at l1;cases e1<;>simp only[R8,GP,qS,bM,br,aN,q1,p1,or_false,EW,seval]
 exact l1
end
section
def zG{C:eR}{f g p:Nat}{xs:List ag}{r:ag}{M:aC}{c:ag}(hM:nth M p=some (cv [c]))(h:C f [gU xs,.func g [cu 0]] [cv [c]]=some (r,[cv [c]]))(h3:r.wH=true)(h5:r.Ar (wD [p])=r)
  (h6:c.vA&&c.nJ.isEmpty=true) (h8:∀ρ,c.sf ρ=c:=by intro ρ; rfl):aU C f [gU xs,.func g [cu p]] M=some (r,M):=by
 simp only[bt,List.isEmpty_iff,bj] at h6;obtain⟨h6,h7⟩:=h6;have hids:[ag.slice .sh xs,.func g [cu p]].flatMap ag.ids=[p]:=rfl;have hi:qz M [p]=[]:=by simp[qz,hM,cJ.ids,h7]
 have e0:kD M [p]=[p]:=by simp[kD,hi,kc]
 have e1:reach M [p]=[p]:=by
  have ea:kc [] [p]=[p]:=rfl;simp only[reach,ea,e0]
 have hfl:[ag.slice .sh xs,.func g [cu p]].all ag.flat=true:=rfl;unfold aU;rw[aX hfl,hids,e1];have hpk:j5 M (iw [p]) [p]=some [cv [c]]:=by simp[j5,hM,cJ.flat,h6,cJ.pq,h8]
 rw[hpk];simp only[bO];rw[aX e0]
 have hrn:[ag.slice .sh xs,.func g [cu p]].map (ag.pq (iw [p]))=[gU xs,.func g [cu 0]]:=by
  simp[ag.pq,ag.sf,ag.ur,iw]
 rw[hrn,h];simp only[bO];rw[aX ⟨by trivial,h3,by simp[cJ.flat,h6]⟩,h5]
 simp only[mh,cJ.pq,aF,aR,h8];rw[uV hM]
attribute [local irreducible] eX fM lC gK dX kr aq aU cr bJ
def rF(id:Int)(x:mY):Bool:=x.id != id
def vM(tk:List mY)(p:pv):Bool:=xH tk p.kx p.BK
def SQ(n:mY):(iB n).all ag.jf=true:=rfl
def WH(n:mY):(iB n).all ag.plainCell=true:=rfl
def WG(n:pv):(mP n).all ag.plainCell=true:=rfl
def SP(n:pv):(mP n).all ag.jf=true:=rfl
def takeN(s:iQ)(ar:Int):iQ×Int×Int :=
 if !(find s.now.ae ar).isSome then (s,0,70)
 else if (bl s.now.ae ar).kind != 2 then (s,0,73)
 else if decide ((s.dR.length:Int)>=16)||decide (s.next>=1099511627776) then (s,0,76)
 else (⟨s.now,s.tick,s.since,s.eN,s.dR++[⟨s.next,ar,s.tick⟩],nz (s.next+1)⟩,s.next,0)
def aqq(s:iQ)(ar:Int)(hz:Small s.now)(hs:rS s.now)(hk:s.dR.length<=16):aq bW 163 [qS s,aH ar] []=some (.tuple [qS (takeN s ar).1,aH (takeN s ar).2.1,aH (takeN s ar).2.2],[]):=by
 refine aB ?_;have q1:=Fb s.now ar hz hs;have p1:=fun M=>Ew kW (f:=229) (sz:=3) (bytes:=24) rfl (fun _=>rfl) aI (l:=s.dR) aI M
 have r1:cq (s.dR.length+1) 24=True:=qM;unfold takeN;simp only[aM] at q1;simp only[R9,ail,qS,bM,q1,aM,EW,seval]
 repeat' ((first|apply bC|apply bU|apply dK)<;>intro hb<;>simp only[hb,EW,ail,q1,p1,r1,or_false,aM,seval])
 all_goals clear q1 p1
 all_goals first|rfl|(simp_all only[qB,↓reduceIte,reduceCtorEq,az]; done)|(simp_all only[qB,↓reduceIte,reduceCtorEq,az,bM]; rfl)|(simp_all only[qB,↓reduceIte,reduceCtorEq,az,bM,kj,aW,aF,aR]; rfl)
def asv(s:iQ)(ar:Int)(hz:Small s.now)(hs:rS s.now)(hk:s.dR.length<=16)(M:aC):aU (aq bW) 163 [.agg (bM s),aH ar] M=some (.tuple [.agg (bM (takeN s ar).1),aH (takeN s ar).2.1,aH (takeN s ar).2.2],M) :=
 cO (aqq s ar hz hs hk) M
def ard(x:mY)(id:Int):aq bW 233 [kW x,cu 0] [cv [aH id]]=some (.bool (rF id x),[cv [aH id]]):=by
 refine aB ?_;simp only[rF,ac9,aoQ,kW,iB,EW,seval]
def arh(p:pv)(tk:List mY)(hk:tk.length<=100000):aq bW 235 [mc p,cu 0] [cv [kj tk]]=some (.bool (vM tk p),[cv [kj tk]]):=by
 refine aB ?_;unfold vM;have q:=amz tk p.kx p.BK hk;simp only[ada,aoR,mc,mP,aM,q,EW,seval]
def aap{xs:List mY}{id:Int}  (hn:xs.length<=100000){k:List K}{R:List mY->Option (ag×aC)}
  (hx:∀(out:List mY) e,kr (aq bW) [.tmp 4] 1 k ⟨.exit 0,(1,.func 233 [cu 0])::(5,.slice (.own 1) (out.map kW))::e,[cv [aH id],.tick 3 out.length]⟩=R out) :
  ∀(l pre out:List mY),xs=pre++l->out.length<=pre.length->eX (aq bW) [.tmp 4] 1 k (.loop [1,5,8,9,10] Z0) [(1,.func 233 [cu 0]),(5,.slice (.own 1) (out.map kW)),(8,gU (xs.map kW)),(9,aH xs.length),(10,aH pre.length)] [cv [aH id],.tick 3 out.length] =
   R (out++l.filter (rF id)):=by
 intro l;induction l with
 |nil =>
  intro pre out h ho;rw[bG];simp only[X5,jM h,kP,EW,seval];exact hx _ _
 |cons n rest ih =>
  intro pre out h ho;rw[bG];have dD:pre.length+1<=100000:=by rw[h] at hn; simp at hn; omega
  have hw:=zy pre n;have hi1:=ih (pre++[n]) out (by rw[h]; simp) gm
  have hi2:=ih (pre++[n]) (out++[n]) (by rw[h]; simp) gm
  simp only[aA,au,aw,aJ,aW,aF,aR] at hi1 hi2;have r1:cq (out.length+1) 24=True:=qM
  have q1:∀M,nth M 0=some (cv [aH id])->aU (aq bW) 233 [.agg (iB n),cu 0] M=some (.bool ((rF id) n),M) :=
   fun M hM=>uK (f:=233) (p:=0) (vs:=[.agg (iB n)]) hM (ard n id) rfl rfl rfl rfl rfl rfl rfl rfl rfl
  rw[eZ];generalize (rF id) n=e at q1 ⊢;cases e<;>simp only[X5,iM h,gQ h,q1,hw,r1,SQ,SP,WH,WG,aE,af,aD,EW,seval]
  ·exact hi1
  ·simpa[kW] using hi2
def arc(xs:List mY)(id:Int)  (hn:xs.length<=100000):aq bW 232 [gU (xs.map kW),.func 233 [cu 0]] [cv [aH id]]=some (gU ((xs.filter (rF id)).map kW),[cv [aH id]]):=by
 refine aB ?_;simp only[Sj,X5,EW,seval];exact aap  hn (R:=fun out=>some (gU (out.map kW),[cv [aH id]])) (fun out e=>by simp only[X5,EW,seval]) xs [] [] rfl (av _)
def aaq{xs:List pv}{tk:List mY}(hk:tk.length<=100000)(hn:xs.length<=100000){k:List K}{R:List pv->Option (ag×aC)}
  (hx:∀(out:List pv) e,kr (aq bW) [.tmp 4] 1 k ⟨.exit 0,(1,.func 235 [cu 0])::(5,.slice (.own 1) (out.map mc))::e,[cv [kj tk],.tick 8 out.length]⟩=R out) :
  ∀(l pre out:List pv),xs=pre++l->out.length<=pre.length->eX (aq bW) [.tmp 4] 1 k (.loop [1,5,8,9,10] Z1) [(1,.func 235 [cu 0]),(5,.slice (.own 1) (out.map mc)),(8,gU (xs.map mc)),(9,aH xs.length),(10,aH pre.length)] [cv [kj tk],.tick 8 out.length] =
   R (out++l.filter (vM tk)):=by
 intro l;induction l with
 |nil =>
  intro pre out h ho;rw[bG];simp only[X6,jM h,kP,EW,seval];exact hx _ _
 |cons n rest ih =>
  intro pre out h ho;rw[bG];have dD:pre.length+1<=100000:=by rw[h] at hn; simp at hn; omega
  have hw:=zy pre n;have hi1:=ih (pre++[n]) out (by rw[h]; simp) gm
  have hi2:=ih (pre++[n]) (out++[n]) (by rw[h]; simp) gm
  simp only[aA,au,aw,aJ,aW,aF,aR] at hi1 hi2;have r1:cq (out.length+1) 96=True:=qM
  have q1:∀M,nth M 0=some (cv [kj tk])->aU (aq bW) 235 [.agg (mP n),cu 0] M=some (.bool ((vM tk) n),M) :=
   fun M hM=>uK (f:=235) (p:=0) (vs:=[.agg (mP n)]) hM (arh n tk hk) rfl rfl rfl rfl rfl rfl rfl rfl rfl
  rw[eZ];generalize (vM tk) n=e at q1 ⊢;cases e<;>simp only[X6,iM h,gQ h,q1,hw,r1,SQ,SP,WH,WG,aE,af,aD,EW,seval]
  ·exact hi1
  ·simpa[mc] using hi2
def arf(xs:List pv)(tk:List mY)(hk:tk.length<=100000)(hn:xs.length<=100000):aq bW 234 [gU (xs.map mc),.func 235 [cu 0]] [cv [kj tk]]=some (gU ((xs.filter (vM tk)).map mc),[cv [kj tk]]):=by
 refine aB ?_;simp only[Sk,X6,EW,seval];exact aaq hk hn (R:=fun out=>some (gU (out.map mc),[cv [kj tk]])) (fun out e=>by simp only[X6,EW,seval]) xs [] [] rfl (av _)
def ru(s:iQ)(id:Int):iQ×Int :=
 if ((s.dR.filter (rF id)).length:Int)==(s.dR.length:Int) then (s,100)
 else (⟨s.now,s.tick,s.since,s.eN.filter (vM (s.dR.filter (rF id))),s.dR.filter (rF id),s.next⟩,0)
def aqt(s:iQ)(id:Int)(hk:s.dR.length<=100000)(hp:s.eN.length<=100000):aq bW 168 [qS s,aH id] []=some (.tuple [qS (ru s id).1,aH (ru s id).2],[]):=by
 refine aB ?_;have hf:(s.dR.filter (rF id)).length<=100000:=aZ (bT _ _) hk
 have q1:∀M,nth M 1=some (cv [aH id])->aU (aq bW) 232 [kj s.dR,.func 233 [cu 1]] M=some (kj (s.dR.filter (rF id)),M):=by
  intro M hM;exact zG hM (arc s.dR id hk) rfl rfl rfl
 unfold ru;generalize (s.dR.filter (rF id))=tk at q1 hf ⊢
 have q2:∀M,nth M 3=some (cv [kj tk])->aU (aq bW) 234 [r8 s.eN,.func 235 [cu 3]] M=some (r8 (s.eN.filter (vM tk)),M):=by
  intro M hM;exact zG hM (arf s.eN tk hf hp) rfl rfl rfl
 simp only[acy,ain,qS,bM,q1,EW,seval]
 repeat' ((first|apply bC|apply bU|apply dK)<;>intro hb<;>simp only[hb,EW,ain,q1,q2,seval])
 all_goals clear q1 q2
 all_goals first|rfl|(simp_all only[qB,↓reduceIte,reduceCtorEq,az]; done)|(simp_all only[qB,↓reduceIte,reduceCtorEq,az,bM]; rfl)
def asx(s:iQ)(id:Int)(hk:s.dR.length<=100000)(hp:s.eN.length<=100000)(M:aC):aU (aq bW) 168 [.agg (bM s),aH id] M=some (.tuple [.agg (bM (ru s id).1),aH (ru s id).2],M) :=
 cO (aqt s id hk hp) M
def c38(t:Tree)(ht:t.ae.length<=100000):aq bW 38 [br t] []=some (qS ⟨t,0,List.replicate t.ae.length 0,[],[],1⟩,[]):=by
 refine aB ?_;have r1:cq t.ae.length 8=True:=qM;simp only[alx,E38,br,aN,qS,bM,r1,ag.norm,ua,gX,EW,seval];rfl
end
abbrev eU:Unit->ag:=fun _ => .agg []
def flN(l:AM Node):(ph bL l).all ag.flat=true:=Lq _ (fun _=>rfl) l
def rnN(ρ:Nat->Nat)(l:AM Node):(ph bL l).map (ag.pq ρ)=ph bL l:=WS _ _ (fun _=>rfl) l
def al6(l:AM Node):(ph bL l).flatMap ag.ids=[]:=SD _ (fun _=>rfl) l
def Yv(B:Nat)(M:aC)(l:AM Node):List.map (ag.jY B M) (ph bL l)=ph bL l:=Yw _ _ _ (fun _=>rfl) l
def flU(l:AM Unit):(ph eU l).all ag.flat=true:=Lq _ (fun _=>rfl) l
def rnU(ρ:Nat->Nat)(l:AM Unit):(ph eU l).map (ag.pq ρ)=ph eU l:=WS _ _ (fun _=>rfl) l
def ar6(l:AM Unit):(ph eU l).flatMap ag.ids=[]:=SD _ (fun _=>rfl) l
def bkU(B:Nat)(M:aC)(l:AM Unit):List.map (ag.jY B M) (ph eU l)=ph eU l:=Yw _ _ _ (fun _=>rfl) l
abbrev VS:=AM Unit×List Node
def j7(all:AM Node):Nat->Int->VS->Bool×VS
 |0,_,st=>(false,st)
 |f+1,ar,st =>
  if (eY st.1 ar).isSome=true then (true,st) else
  if !(eY all ar).isSome then (false,(kL st.1 ar (),st.2)) else
  ((eY all ar).getD Node.zero).bc.foldl (fun w e=>((j7 all f e.ar w.2).1&&w.1,(j7 all f e.ar w.2).2)) (true,(kL st.1 ar (),st.2++[(eY all ar).getD Node.zero]))
def missing(all:AM Node)(met:AM Unit):Nat:=(all.filter fun p=>(eY met p.1).isNone).length
def sG(all:AM Node)(met:AM Unit)(ar:Int):missing all (kL met ar ())<=missing all met:=by
 unfold missing;simp only[jA];induction all with
 |nil=>simp
 |cons p r ih =>
  simp only[eZ]
  by_cases h:p.1=ar
  ·simp only[h,aE,Option.isNone_some,af,aD];split
   ·simp only[au]; omega
   ·exact ih
  ·simp only[h,aD];split
   ·simp only[au]; omega
   ·exact ih
def Ed{all:AM Node}{met:AM Unit}{ar:Int}{n:Node}(h:eY all ar=some n)(h0:eY met ar=none):missing all (kL met ar ())<missing all met:=by
 have hm:=xy _ _ _ h;clear h;unfold missing;induction all with
 |nil=>cases hm
 |cons p r ih =>
  simp only[eZ,jA]
  by_cases hp:p.1=ar
  ·have h1:=sG r met ar;unfold missing at h1;simp only[jA] at h1;simp only[hp,aE,Option.isNone_some,af,aD,h0,Option.isNone_none];simp only[au];omega
  ·rcases bI.1 hm with h2|h2
   ·exact absurd (by rw[<-h2]) hp
   ·have:=ih h2;simp only[jA] at this;simp only[hp,aD];split
    ·simp only[au]; omega
    ·exact this
structure vm(all:AM Node)(st st':VS):Prop where
 len:st'.2.length+missing all st'.1<=st.2.length+missing all st.1
 aha:missing all st'.1<=missing all st.1
 met:∀j,(eY st.1 j).isSome=true->(eY st'.1 j).isSome=true
 nodup:(st.2.map Node.ar).Nodup->(∀n,n∈st.2->(eY st.1 n.ar).isSome=true)->(st'.2.map Node.ar).Nodup/\∀n,n∈st'.2->(eY st'.1 n.ar).isSome=true
def vm.refl(all:AM Node)(st:VS):vm all st st:=⟨av _,av _,fun _ h=>h,fun h1 h2=>⟨h1,h2⟩⟩
theorem vm.trans{all:AM Node}{a b c:VS}(h:vm all a b)(k:vm all b c):vm all a c :=
 ⟨aZ k.len h.len,aZ k.aha h.aha,fun j hj=>k.met j (h.met j hj),fun h1 h2=>let ⟨g1,g2⟩:=h.nodup h1 h2; k.nodup g1 g2⟩
def Own(all:AM Node):Prop:=∀k n,eY all k=some n->n.ar=k
def xO{all:AM Node}(ho:Own all):∀(f:Nat)(ar:Int)(st:VS),vm all st (j7 all f ar st).2:=by
 intro f;induction f with
 |zero=>intro ar st; exact vm.refl _ _
 |succ f ih =>
  intro ar st;rw[j7];split
  ·exact vm.refl _ _
  ·rename_i h0;have h0:eY st.1 ar=none:=by simpa using h0
   have hput:vm all st (kL st.1 ar (),st.2):=by
    refine⟨?_,sG _ _ _,fun j hj=>?_,fun h1 h2=>⟨h1,fun n hn=>?_⟩⟩
    ·have:=sG all st.1 ar;simp only;omega
    ·simp only[jA]; split
     ·rfl
     ·exact hj
    ·simp only[jA]; split
     ·rfl
     ·exact h2 n hn
   split
   ·exact hput
   ·rename_i h1;cases hn:eY all ar with
    |none=>simp[hn] at h1
    |some n =>
     simp only[bm]
     have hstep:vm all st (kL st.1 ar (),st.2++[n]):=by
      have cL:=Ed hn h0;refine⟨gm,sG _ _ _,hput.met,fun g1 g2=>?_⟩
      have hni:=ho _ _ hn;refine⟨?_,fun m hm=>?_⟩
      ·rw[aW,lu];refine⟨g1,dv,?_⟩;intro a ha b hb;simp only[aF,aR,bQ] at hb;subst hb;intro hab;obtain⟨m,hm,rfl⟩:=eK.1 ha;have:=g2 m hm;rw[hab,hni,h0] at this;cases this
      ·rcases bo.1 hm with h|h
       ·exact(hput.nodup g1 g2).2 m h
       ·simp only[bQ] at h;subst h;simp only[jA,hni,aE,bX]
     have hfold:∀(l:List gM)(w:Bool×VS),vm all w.2 (l.foldl (fun w e=>((j7 all f e.ar w.2).1&&w.1,(j7 all f e.ar w.2).2)) w).2:=by
      intro l;induction l with
      |nil=>intro w; exact vm.refl _ _
      |cons e r ihr =>
       intro w;rw[cF];exact(ih e.ar w.2).trans (ihr ((j7 all f e.ar w.2).1&&w.1,(j7 all f e.ar w.2).2))
     exact hstep.trans (hfold n.bc (true,(kL st.1 ar (),st.2++[n])))
def uX:ag := .func 271 [.ptr 0 0,.ptr 1 0,.ptr 2 0,.ptr 3 0]
def ny(all:AM Node)(st:VS):aC:=[.cells [.iy 4],.cells [.iy 5],.cells [.cz 6 st.2.length 6 0 st.2.length],.cells [uX],.map (B1 st.1) (ph eU st.1),.map (B1 all) (ph bL all),.arr 6 st.2.length (st.2.map bL)]
def NQ(all:AM Node)(st:VS):(ny all st).map (cJ.pq (iw [0,1,2,3,4,5,6]))=ny all st/\(ny all st).map (cJ.pq (wD [0,1,2,3,4,5,6]))=ny all st:=by
 constructor
 ·simp only[ny,aF,aR,cJ.pq,rnN,rnU]; rfl
 ·simp only[ny,aF,aR,cJ.pq,rnN,rnU]; rfl
def anF(all:AM Node)(st:VS)(L:aC):j5 (ny all st++L) (iw [0,1,2,3,4,5,6]) [0,1,2,3,4,5,6]=some (ny all st):=by
 have h:=(NQ all st).1;simp only[ny,aF,aR] at h;injection h with h0 h; injection h with h1 h; injection h with h2 h; injection h with h3 h; injection h with h4 h; injection h with h5 h; injection h with h6 h
 simp only[ny,aG,aQ,j5,nth,h0,h1,h2,h3,h4,h5,h6];simp only[cJ.flat,flN,flU,aE];rfl
def ar8(all:AM Node)(st:VS)(L:aC):qz (ny all st++L) [0,1,2,3]=[4,5,6,0,1,2,3]/\qz (ny all st++L) [0,1,2,3,4,5,6]=[4,5,6,0,1,2,3]:=by
 refine⟨rfl,?_⟩
 show[4,5,6,0,1,2,3]++((ph eU st.1).flatMap ag.ids++((ph bL all).flatMap ag.ids++([]++[])))=_
 rw[ar6,al6]; rfl
def WQ(all:AM Node)(st:VS)(L:aC):reach (ny all st++L) [0,1,2,3]=[0,1,2,3,4,5,6]/\kD (ny all st++L) [0,1,2,3,4,5,6]=[0,1,2,3,4,5,6]:=by
 obtain⟨h1,h2⟩:=ar8 all st L;have e0:kc [] [0,1,2,3]=[0,1,2,3]:=rfl;have e1:kc [0,1,2,3] [4,5,6,0,1,2,3]=[0,1,2,3,4,5,6]:=rfl;have e2:kc [0,1,2,3,4,5,6] [4,5,6,0,1,2,3]=[0,1,2,3,4,5,6]:=rfl;simp only[reach,kD,e0,h1,e1,h2,e2,jV]
def ah2(all:AM Node)(st st':VS)(L:aC):mh [0,1,2,3,4,5,6] (ny all st++L) [0,1,2,3,4,5,6] (ny all st')=ny all st'++L:=by
 have h:=(NQ all st').2;simp only[ny,aF,aR] at h;injection h with h0 h; injection h with h1 h; injection h with h2 h; injection h with h3 h; injection h with h4 h; injection h with h5 h; injection h with h6 h
 simp only[ny,aG,aQ,mh,h0,h1,h2,h3,h4,h5,h6,iP]
def ab0(all:AM Node)(st:VS):(ny all st).all cJ.flat=true:=by
 simp only[ny,kN,cJ.flat,flN,flU]; rfl
def aeR{all:AM Node}{ar:Int}{st st':VS}{b:Bool}{L:aC}(h:aq bW 271 [aH ar,cu 0,cu 1,cu 2,cu 3] (ny all st)=some (.bool b,ny all st')) :
  aU (aq bW) 271 [aH ar,cu 0,cu 1,cu 2,cu 3] (ny all st++L)=some (.bool b,ny all st'++L) :=
 ly (ids:=[0,1,2,3,4,5,6]) rfl (WQ all st L).1 (anF all st L) (WQ all st L).2 rfl h rfl rfl (ab0 all st') rfl (ah2 all st st' L)
section
attribute [local irreducible] eX fM lC gK dX kr aq aU cr bJ
def aat{all:AM Node}{n:Node}{f:Nat}(ho:Own all){k:List K}{R:Bool×VS->Option (ag×aC)}(hn:n.bc.length<=100000)
  (ih:∀e,e∈n.bc->∀st,missing all st.1<f->st.2.length+missing all st.1<=200000->aq bW 271 [aH e.ar,cu 0,cu 1,cu 2,cu 3] (ny all st)=some (.bool (j7 all f e.ar st).1,ny all (j7 all f e.ar st).2))
  (hx:∀w e,kr (aq bW) [.tmp 6] 7 k ⟨.exit 0,(4,cu 3)::(11,.bool w.1)::e,ny all w.2++[cv [],cv (aM n)]⟩=R w) :
  ∀(l pre:List gM)(w:Bool×VS),n.bc=pre++l->missing all w.2.1<f->w.2.2.length+missing all w.2.1<=200000->eX (aq bW) [.tmp 6] 7 k (.loop [4,11,37,38,39] Z4) [(4,cu 3),(11,.bool w.1),(37,jb n.bc),(38,aH n.bc.length),(39,aH pre.length)] (ny all w.2++[cv [],cv (aM n)]) =
   R (l.foldl (fun w e=>((j7 all f e.ar w.2).1&&w.1,(j7 all f e.ar w.2).2)) w):=by
 intro l;induction l with
 |nil =>
  intro pre w h _ _;rw[bG];simp only[ny,Oh,jM h,nh,EW,seval] at hx ⊢;exact hx _ _
 |cons x rest ihl =>
  intro pre w h hm hl;rw[bG];have dD:pre.length+1<=100000:=by rw[h] at hn; simp at hn; omega
  have hw:=zy pre x;rw[cF];have hg:=xO ho f x.ar w.2;have q:=aeR (L:=[cv [],cv (aM n),cv (fU x)]) (ih x (by rw[h]; simp) w.2 hm hl)
  have hi1:=ihl (pre++[x]) ((j7 all f x.ar w.2).1&&w.1,(j7 all f x.ar w.2).2) (by rw[h]; simp) (by have:=hg.aha; simp only; omega) (by have:=hg.len; simp only; omega)
  generalize j7 all f x.ar w.2=v at q hi1 ⊢;clear hg ih;simp only[ny,uX,aM,fU,aA,au,aw,aJ,aG,aQ] at hi1 q;obtain⟨b,st'⟩:=v;cases b<;>simp only[ny,uX,Oh,iM h,gQ h,aM,fU,q,hw,Yv,bkU,dZ,dW,EW,seval] at hi1 ⊢
  ·exact hi1
  ·exact hi1
def Ns(z x:ag):po z true (some x) = .tuple [x,.bool true]:=rfl
def Vz(z:ag):po z true none = .tuple [z,.bool false]:=rfl
def arI{all:AM Node}(ho:Own all)(hb:∀k n,eY all k=some n->n.bc.length<=100000):∀(f:Nat)(ar:Int)(st:VS),missing all st.1<f->st.2.length+missing all st.1<=200000 ->
  aq bW 271 [aH ar,cu 0,cu 1,cu 2,cu 3] (ny all st)=some (.bool (j7 all f ar st).1,ny all (j7 all f ar st).2):=by
 intro f;induction f with
 |zero=>intro ar st h; omega
 |succ f ih =>
  intro ar st hm hl;refine aB ?_;rw[j7];have p1:=sF eU st.1 ar ();cases h0:eY st.1 ar with
  |some u =>
   simp only[bX,aE];simp only[ny,uX,M6,Oh,pa,Ns,eU,mapOf.eq_1,h0,Yv,bkU,EW,seval]
  |none =>
   simp only[dp,af,aD];have hp:=sG all st.1 ar;cases hn:eY all ar with
   |none =>
    simp only[ny,uX,M6,Oh,pa,Ns,Vz,mapOf.eq_1,h0,hn,p1,oS,dp,aE,Yv,bkU,EW,seval]
   |some n =>
    have cL:=Ed hn h0;have r1:cq (st.2.length+1) 80=True:=qM;have hl1:=aat ho (hb ar n hn) (f:=f) (k:=[.block 0,.seq ahD]) (R:=fun w=>some (.bool w.1,ny all w.2)) (fun e he st h1 h2=>ih e.ar st h1 h2) (fun w e=>by simp only[ny,uX,Oh,aM,Yv,bkU,EW,seval]) n.bc [] (true,(kL st.1 ar (),st.2++[n])) rfl (by simp only; omega) gm
    clear ih;simp only[ny,uX,aM,aw,aG,aQ,aA,au,aJ,aW,aF,aR,bL] at hl1;simp only[ny,uX,M6,Oh,pa,Ns,Vz,mapOf.eq_1,h0,hn,p1,r1,aM,bL,oS,bX,bm,af,aD,oe,EW,seval];exact hl1
end
section
def Hg(x:Node):List Node->List Node
 | []=>[x]
 |y::r=>if x.ar<y.ar then x::y::r else y::Hg x r
def Cq:List Node->List Node
 | []=>[]
 |x::r=>Hg x (Cq r)
def atg(n:Node):uh 0 (bL n)=n.ar:=rfl
def FY(x:Node):∀l:List Node,DW 0 (bL x) (l.map bL)=(Hg x l).map bL
 | []=>rfl
 |y::r=>by
  simp only[aF,DW,Hg,atg]
  by_cases h:x.ar<y.ar
  ·simp only[h,aE,aF]
  ·simp only[h,aD,aF,FY x r]
def EH:∀l:List Node,rT 0 (l.map bL)=(Cq l).map bL
 | []=>rfl
 |x::r=>by simp only[aF,rT,Cq,EH r,FY]
def mV(a:Int)(m:AM Node)(p:pv):AM Node:=if decide (p.kx<=a)&&decide (a<p.BK) then kL m p.node.ar p.node else m
def sd(a:Int):List Node->List Int->AM Node->AM Node
 |n::r,y::ys,m=>sd a r ys (if decide (y<=a) then kL m n.ar n else m)
 |_,_,m=>m
def yP(s:iQ)(a:Int):AM Node:=sd a s.now.ae s.since (s.eN.foldl (mV a) [])
structure yu(m:AM Node):Prop where
 own:Own m
 bc:∀k n,eY m k=some n->n.bc.length<=100000
def yu.put{m:AM Node}(h:yu m)(n:Node)(hn:n.bc.length<=100000):yu (kL m n.ar n) where
 own:=fun k x hx=>by
  rw[jA] at hx;split at hx
  ·rename_i e; injection hx with hx; rw[<-hx,e]
  ·exact h.own k x hx
 bc:=fun k x hx=>by
  rw[jA] at hx;split at hx
  ·injection hx with hx; rw[<-hx]; exact hn
  ·exact h.bc k x hx
def xD(a:Int):∀(l:List pv)(m:AM Node),yu m->(∀p,p∈l->p.node.bc.length<=100000)->yu (l.foldl (mV a) m)/\(l.foldl (mV a) m).length<=m.length+l.length
 | [],m,h,_=>⟨h,av _⟩
 |p::r,m,h,hp=>by
  rw[cF]
  have h1:yu (mV a m p)/\(mV a m p).length<=m.length+1:=by
   unfold mV;split
   ·exact⟨h.put _ (hp p dv),Ef _ _ _⟩
   ·exact⟨h,aI⟩
  obtain⟨g1,g2⟩:=xD a r _ h1.1 (fun q hq=>hp q (by simp[hq]))
  exact⟨g1,by simp only[au]; omega⟩
def Bq(a:Int):∀(l:List Node)(y:List Int)(m:AM Node),yu m->(∀p,p∈l->p.bc.length<=100000)->yu (sd a l y m)/\(sd a l y m).length<=m.length+l.length
 | [],_,m,h,_=>by unfold sd; exact⟨h,av _⟩
 |n::r,[],m,h,_=>by unfold sd; exact⟨h,aI⟩
 |n::r,y::ys,m,h,hp=>by
  rw[sd]
  have h1:yu (if decide (y<=a) then kL m n.ar n else m)/\(if decide (y<=a) then kL m n.ar n else m).length<=m.length+1:=by
   split
   ·exact⟨h.put _ (hp n dv),Ef _ _ _⟩
   ·exact⟨h,aI⟩
  obtain⟨g1,g2⟩:=Bq a r ys _ h1.1 (fun q hq=>hp q (by simp[hq]))
  exact⟨g1,by simp only[au]; omega⟩
def wj(m:AM Node)(met:AM Unit):missing m met<=m.length:=bT _ _
def xN(s:iQ)(x:mY):Bool×VS:=j7 (yP s x.at') 200001 x.ar ([],[])
def DS(s:iQ)(x:mY):List Node:=Cq (xN s x).2.2
attribute [local irreducible] eX fM lC gK dX kr aq aU cr bJ
def zW(s:iQ)(x:mY)(m:AM Node):aC:=[.cells (bM s),.cells (iB x),.map (B1 m) (ph bL m),.cells [.iy 2]]
def VU{s:iQ}{x:mY}(hn:s.eN.length<=100000){k:List K}{fin:AM Node}{r:Option (ag×aC)}
  (hx:∀e,kr (aq bW) [.tmp 4,.tmp 5] 0 k ⟨.exit 0,(2,cu 0)::(3,cu 1)::(6,cu 3)::e,zW s x fin⟩=r) :
  ∀(l pre:List pv)(m:AM Node),s.eN=pre++l->l.foldl (mV x.at') m=fin->eX (aq bW) [.tmp 4,.tmp 5] 0 k (.loop [2,3,6,17,18,19] ZY) [(2,cu 0),(3,cu 1),(6,cu 3),(17,r8 s.eN),(18,aH s.eN.length),(19,aH pre.length)] (zW s x m)=r:=by
 intro l;induction l with
 |nil =>
  intro pre m h hfin;rw[bG];rw[nh] at hfin;subst hfin;simp only[zW,GQ,jM h,EW,seval] at hx ⊢;exact hx _
 |cons p rest ih =>
  intro pre m h hfin;rw[bG];have dD:pre.length+1<=100000:=by rw[h] at hn; simp at hn; omega
  have hw:=zy pre p;rw[cF] at hfin;have hi1:=ih (pre++[p]) (mV x.at' m p) (by rw[h]; simp) hfin
  clear hfin;have hput:=sF bL m p.node.ar p.node;unfold mV at hi1;simp only[zW,bM,iB,bL,aM,aA,au,aw,aJ] at hi1 hput;simp only[zW,GQ,iM h,gQ h,bM,iB,mP,aM,EW,seval];cases h1:decide (p.kx<=x.at')<;>cases h2:decide (x.at'<p.BK)<;>simp only[h1,h2,GQ,hw,hput,mapOf.eq_1,dV,af,aE,aD,Yv,EW,seval] at hi1 ⊢
  all_goals exact hi1
def VV{s:iQ}{x:mY}(hn:s.now.ae.length<=100000)(hl:s.since.length=s.now.ae.length){k:List K}{fin:AM Node}{r:Option (ag×aC)}
  (hx:∀e,kr (aq bW) [.tmp 4,.tmp 5] 0 k ⟨.exit 2,(2,cu 0)::(3,cu 1)::(6,cu 3)::e,zW s x fin⟩=r) :
  ∀(l pre:List Node)(y ypre:List Int)(m:AM Node),s.now.ae=pre++l->s.since=ypre++y->ypre.length=pre.length->sd x.at' l y m=fin->eX (aq bW) [.tmp 4,.tmp 5] 0 k (.loop [2,3,6,44,45,46] ZZ) [(2,cu 0),(3,cu 1),(6,cu 3),(44,ba s.now.ae),(45,aH s.now.ae.length),(46,aH pre.length)] (zW s x m)=r:=by
 intro l;induction l with
 |nil =>
  intro pre y ypre m h hy hyl hfin;rw[bG];have hg:sd x.at' [] y m=m:=by unfold sd; rfl
  rw[hg] at hfin;subst hfin;simp only[zW,GQ,jM h,EW,seval] at hx ⊢;exact hx _
 |cons n rest ih =>
  intro pre y ypre m h hy hyl hfin;rw[bG];have dD:pre.length+1<=100000:=by rw[h] at hn; simp at hn; omega
  have hw:=zy pre n;cases y with
  |nil=>have h1:=congrArg List.length h; have h2:=congrArg List.length hy; simp at h1 h2; omega
  |cons c y =>
   have hxa:s.since[pre.length]?=some c:=by rw[hy,<-hyl]; simp
   have hi1:=ih (pre++[n]) y (ypre++[c]) (if decide (c<=x.at') then kL m n.ar n else m) (by rw[h]; simp) (by rw[hy]; simp) (by simp[hyl]) (by rw[<-hfin,sd])
   clear hfin;have hput:=sF bL m n.ar n;simp only[zW,bM,iB,bL,aM,aA,au,aw,aJ] at hi1 hput;simp only[zW,GQ,iM h,gQ h,bM,iB,aM,hxa,EW,seval];cases h1:decide (c<=x.at')<;>simp only[h1,GQ,hw,hput,mapOf.eq_1,af,aE,aD,Yv,EW,seval] at hi1 ⊢
   all_goals exact hi1
def Fa(s:iQ)(x:mY)(all:AM Node)(st:VS):aC:=[.cells (bM s),.cells (iB x),.map (B1 all) (ph bL all),.cells [.iy 2],.map (B1 st.1) (ph eU st.1),.cells [.iy 4],.arr 6 st.2.length (st.2.map bL),.cells [.cz 6 st.2.length 6 0 st.2.length],.cells [.func 271 [.ptr 5 0,.ptr 3 0,.ptr 7 0,.ptr 8 0]]]
end
section
def G6{α:Type}:B1 ([]:AM α)=[]:=rfl
def G8{α:Type}(enc:α->ag):ph enc ([]:AM α)=[]:=rfl
def akV{s:iQ}{x:mY}{all:AM Node}{ar:Int}{st':VS}{b:Bool}(h:aq bW 271 [aH ar,cu 0,cu 1,cu 2,cu 3] (ny all ([],[]))=some (.bool b,ny all st')) :
  aU (aq bW) 271 [aH ar,cu 5,cu 3,cu 7,cu 8] (Fa s x all ([],[]))=some (.bool b,Fa s x all st'):=by
 have i1:qz (Fa s x all ([],[])) [5,3,7,8]=[4,2,6,5,3,7,8]:=rfl
 have i2:qz (Fa s x all ([],[])) [5,3,7,8,4,2,6]=[4,2,6,5,3,7,8]:=by
  show[4,2,6,5,3,7,8]++([]++((ph bL all).flatMap ag.ids++([]++[])))=_
  rw[al6]; rfl
 have e0:kc [] [5,3,7,8]=[5,3,7,8]:=rfl;have e1:kc [5,3,7,8] [4,2,6,5,3,7,8]=[5,3,7,8,4,2,6]:=rfl;have e2:kc [5,3,7,8,4,2,6] [4,2,6,5,3,7,8]=[5,3,7,8,4,2,6]:=rfl
 have hr:reach (Fa s x all ([],[])) [5,3,7,8]=[5,3,7,8,4,2,6]/\kD (Fa s x all ([],[])) [5,3,7,8,4,2,6]=[5,3,7,8,4,2,6]:=by
  simp only[reach,kD,e0,i1,e1,i2,e2,jV]
 have hp:j5 (Fa s x all ([],[])) (iw [5,3,7,8,4,2,6]) [5,3,7,8,4,2,6]=some (ny all ([],[])):=by
  simp only[Fa,j5,nth,cJ.flat,flN,flU,bO,aE,cJ.pq,rnN,rnU];rfl
 refine ly (ids:=[5,3,7,8,4,2,6]) rfl hr.1 hp hr.2 rfl h rfl rfl (ab0 all st') rfl ?_;simp only[ny,Fa,mh,cJ.pq,rnN,rnU,iP];rfl
def anC(n:Nat)(xs:List ag)(b0 b1 b2 b3 b4 b5 b7 b8:cJ):j5 [b0,b1,b2,b3,b4,b5,.arr 6 n xs,b7,b8] (iw [6]) [6]=some [.arr 6 n xs]:=rfl
def Qb{l:List Node}(hl:l.length<=1000000)(hn:(l.map Node.ar).Nodup):aq bW 272 [.cz 0 l.length 6 0 l.length,.func 273 []] [.arr 6 l.length (l.map bL)]=some (.tuple [],[.arr 6 l.length ((Cq l).map bL)]):=by
 refine fg (g:=wL 6 0 273) rfl ?_;unfold wL;simp only[nth];have ht:(l.map bL).take l.length=l.map bL:=bB dv;have hd:(l.map bL).drop l.length=[]:=jn dv;rw[ht,hd,EH,c8];rw[fi]
 ·rfl
 ·refine⟨trivial,trivial,trivial,dv,trivial,aI,?_,?_⟩
  ·intro x hx;obtain⟨n,_,rfl⟩:=eK.1 hx;rfl
  ·rw[gH];exact hn
attribute [local irreducible] eX fM lC gK dX kr aq aU cr bJ
def Je(x:Node):∀l,(Hg x l).length=l.length+1
 | []=>rfl
 |y::r=>by simp only[Hg]; split<;>simp[Je x r]
def BD:∀l,(Cq l).length=l.length
 | []=>rfl
 |x::r=>by simp[Cq,Je,BD r]
def arb(s:iQ)(x:mY)(hp:s.eN.length<=100000)(hpe:∀p,p∈s.eN->p.node.bc.length<=100000)(hz:Sz 200 s.now)(hl:s.since.length=s.now.ae.length) :
  aq bW 230 [qS s,kW x] []=some (.tuple [ba (DS s x),.bool (xN s x).1],[]):=by
 refine aB ?_;obtain⟨g1,g2⟩:=xD x.at' s.eN [] ⟨fun k n h=>(by cases h),fun k n h=>(by cases h)⟩ hpe
 obtain⟨g3,g4⟩:=Bq x.at' s.now.ae s.since (s.eN.foldl (mV x.at') []) g1 (fun n hn=>by have:=hz.bc n hn; omega)
 have hall:(yP s x.at').length<=100200:=by have:=hz.ae; simp at g2; unfold yP; omega
 have hv:=arI (all:=yP s x.at') g3.own g3.bc 200001 x.ar ([],[]) (by have:=wj (yP s x.at') []; simp only; omega) (by have:=wj (yP s x.at') []; simp only[aw]; omega)
 have hg:=xO (all:=yP s x.at') g3.own 200001 x.ar ([],[]);have hnd:=(hg.nodup dv dv).1;have dD:(xN s x).2.2.length<=100200:=by have:=hg.len; have h2:=wj (yP s x.at') []; simp only[aw] at this; unfold xN; omega
 have q:=akV (s:=s) (x:=x) hv;have hs:=Qb (l:=(xN s x).2.2) aI hnd
 have q2:∀b0 b1 b2 b3 b4 b5 b7 b8,aU (aq bW) 272 [.cz 6 (xN s x).2.2.length 6 0 (xN s x).2.2.length,.func 273 []] [b0,b1,b2,b3,b4,b5,.arr 6 (xN s x).2.2.length ((xN s x).2.2.map bL),b7,b8] =
   some (.tuple [],[b0,b1,b2,b3,b4,b5,.arr 6 (xN s x).2.2.length ((DS s x).map bL),b7,b8]):=fun b0 b1 b2 b3 b4 b5 b7 b8 =>
  ly (ids:=[6]) rfl rfl (anC _ _ ..) rfl rfl hs rfl rfl rfl rfl rfl
 have ht:List.take (xN s x).2.2.length ((DS s x).map bL)=(DS s x).map bL:=bB (by simp[DS,BD])
 have l2:=VV (s:=s) (x:=x) (by have:=hz.ae; omega) hl (fin:=yP s x.at') (r:=some (.tuple [ba (DS s x),.bool (xN s x).1],[])) (k:=[.block 2,.seq abc]) (fun e=>by
  clear g1 g2 g3 g4 hv hg hnd hs;have hvv:j7 (yP s x.at') 200001 x.ar ([],[])=xN s x:=rfl;rw[hvv] at q;generalize xN s x=v at q q2 ht dD ⊢;obtain⟨b,met,out⟩:=v;simp only[Fa,bM,iB,aw,aR,G6,G8] at q q2 ht;simp only[zW,bM,iB,GQ,q,q2,ht,EW,seval]) s.now.ae [] s.since [] (s.eN.foldl (mV x.at') []) rfl rfl rfl rfl
 have l1:=VU (s:=s) (x:=x) hp (fin:=s.eN.foldl (mV x.at') []) (r:=some (.tuple [ba (DS s x),.bool (xN s x).1],[])) (k:=[.block 0,.seq abd]) (fun e=>by
  simp only[zW,bM,iB,aw] at l2;simp only[zW,bM,iB,GQ,EW,seval];exact l2) s.eN [] [] rfl rfl
 simp only[zW,bM,iB,aw,G6,G8] at l1;simp only[Si,GQ,qS,kW,bM,iB,EW,seval];exact l1
def asQ(s:iQ)(x:mY)(hp:s.eN.length<=100000)(hpe:∀p,p∈s.eN->p.node.bc.length<=100000)(hz:Sz 200 s.now)(hl:s.since.length=s.now.ae.length)(M:aC) :
  aU (aq bW) 230 [.agg (bM s),.agg (iB x)] M=some (.tuple [ba (DS s x),.bool (xN s x).1],M):=cO (arb s x hp hpe hz hl) M
def vo(s:iQ)(id:Int):Int×List Node×Int:=match s.dR.find? (fun x=>x.id==id) with
 |some x=>(x.ar,DS s x,0)
 |none=>(0,[],100)
def aah{s:iQ}{id:Int}(hk:s.dR.length<=100000)(hp:s.eN.length<=100000)(hpe:∀p,p∈s.eN->p.node.bc.length<=100000)(hz:Sz 200 s.now)(hl:s.since.length=s.now.ae.length) :
  ∀(l pre:List mY),s.dR=pre++l->eX (aq bW) [.tmp 4,.tmp 5,.tmp 6] 0 [.block 0,.seq ahz] (.loop [1,2,12,13,14] ZJ) [(1,aH id),(2,cu 0),(12,kj s.dR),(13,aH s.dR.length),(14,aH pre.length)] [cv (bM s)] =
   some (match l.find? (fun x=>x.id==id) with|some x => .tuple [aH x.ar,ba (DS s x),aH 0]|none => .tuple [aH 0,ba [],aH 100],[]):=by
 intro l;induction l with
 |nil =>
  intro pre h;rw[bG];simp only[XY,jM h,List.find?_nil,bM,EW,seval];rfl
 |cons x rest ih =>
  intro pre h;rw[bG];have dD:pre.length+1<=100000:=by rw[h] at hk; simp at hk; omega
  have hw:=zy pre x;have hi1:=ih (pre++[x]) (by rw[h]; simp)
  have q:=asQ s x hp hpe hz hl;simp only[aA,au,aw,aJ,bM,iB] at hi1 q;rw[List.find?_cons];simp only[XY,iM h,gQ h,bM,iB,EW,seval];cases he:x.id==id<;>simp only[XY,he,q,hw,EW,seval]
  exact hi1
def aqr(s:iQ)(id:Int)(hk:s.dR.length<=100000)(hp:s.eN.length<=100000)(hpe:∀p,p∈s.eN->p.node.bc.length<=100000)(hz:Sz 200 s.now)(hl:s.since.length=s.now.ae.length) :
  aq bW 164 [qS s,aH id] []=some (.tuple [aH (vo s id).1,ba (vo s id).2.1,aH (vo s id).2.2],[]):=by
 refine aB ?_;have hq:=aah (id:=id) hk hp hpe hz hl s.dR [] rfl;simp only[bM,aw] at hq;simp only[acv,XY,qS,bM,EW,seval];refine il hq ?_;unfold vo;split<;>rfl
def asw(s:iQ)(id:Int)(hk:s.dR.length<=100000)(hp:s.eN.length<=100000)(hpe:∀p,p∈s.eN->p.node.bc.length<=100000)(hz:Sz 200 s.now)(hl:s.since.length=s.now.ae.length)(M:aC) :
  aU (aq bW) 164 [.agg (bM s),aH id] M=some (.tuple [aH (vo s id).1,ba (vo s id).2.1,aH (vo s id).2.2],M):=cO (aqr s id hk hp hpe hz hl) M
end
noncomputable def xL:zB:=⟨fun f=>if f=188 then some Sf else code f,oY⟩
def abn:vn Tryz.prog xL:=by
 refine⟨fun f fn h=>?_,NH⟩
 simp only[xL] at h;split at h
 ·rename_i hf;cases h; subst hf;exact⟨_,_,func188,ani⟩
 ·exact MH f fn h
def ahQ:nP Tryz.prog (aq xL):=qU fy abn
def Kd:∀n,wW (kb bW n) (kb xL n)
 |0,f,a,M,x,h=>by rw[kb] at h ⊢; exact h
 |n+1,f,a,M,x,h=>by
  rw[kb] at h ⊢;have hp:xL.oY f=bW.oY f:=rfl;rw[hp];split at h
  ·rename_i g hg; exact h
  ·rename_i hg;split at h
   ·cases h
   ·rename_i fn hfn
    have hc:xL.code f=some fn:=by
     simp only[xL];split
     ·rename_i hf; subst hf; cases hfn
     ·exact hfn
    rw[hc];split at h
    ·rename_i hl;simp only[aX hl];obtain⟨o,ho,h⟩:=bp h;rw[jK (Kd n) _ ho,bO];exact h
    ·cases h
def abp{f:Nat}{a:List ag}{M:aC}{x:ag×aC}(h:aq bW f a M=some x):aq xL f a M=some x:=by
 obtain⟨n,hn⟩:=uj h;exact pV (fun n x h=>tC xL n f a M x h) (Kd n f a M x hn)
def lW{f:Nat}{vs:List ag}{M:aC}{x:ag×aC}(h:aU (aq bW) f vs M=some x):aU (aq xL) f vs M=some x:=by
 obtain⟨a,B,y,h1,h2⟩:=pR h;exact h2 _ (abp h1)
def I7(t:Tree)(q:dQ):Bool := !(find t.ae q.ar).isSome
def C0(n:dQ):(iV n).all ag.jf=true:=rfl
section
def ahx(z:Tree):j5 [cv (aN z)] (iw [0]) [0]=some [cv (aN z)]:=rfl
section
attribute [local irreducible] eX fM lC gK dX kr aq aU cr bJ
def aqN(q:dQ)(t:Tree)(ht:Rt t):aq xL 190 [gA q,cu 0] [cv (aN t)]=some (.bool (I7 t q),[cv (aN t)]):=by
 refine aB ?_;have q1:=fun M=>lW (Fb t q.ar ht.small ht.lP M)
 unfold I7;simp only[aM] at q1;simp only[acJ,aoD,gA,iV,aN,q1,aM,b0T,C0,EW,seval]
def asF(q:dQ)(t:Tree)(ht:Rt t)(p:Nat)(M:aC)(hM:nth M p=some (cv (aN t))):aU (aq xL) 190 [.agg (iV q),cu p] M=some (.bool (I7 t q),M) :=
 uK (f:=190) (p:=p) (vs:=[.agg (iV q)]) hM (aqN q t ht) rfl rfl rfl rfl rfl rfl rfl rfl rfl
def nZ(z:Tree)(l:List dQ):List dQ:=l.filter fun e => !I7 z e
def Qy:dQ:=⟨0,0,0⟩
abbrev anJ(m:Nat):ag:=Du 3 m
def aqM(xs:List dQ)(z:Tree)(hz:Rt z)(hn:xs.length<=100000)(h0:xs≠[]):aq xL 188 [.cz 0 0 3 0 xs.length,.func 190 [cu 1]] [.arr 3 0 (xs.map gA),cv (aN z)] =
  some (anJ (nZ z xs).length,[.arr 3 0 ((nZ z xs++List.replicate (xs.length-(nZ z xs).length) Qy).map gA),cv (aN z)]) :=
 adz (sz:=3) (z:=[aH 0,aH 0,aH 0]) (zc:=[aH 0,aH 0,aH 0]) (gi:=245) (e:=iV) (zx:=Qy) (p:=I7 z) fy rfl fy rfl rfl hn (fun _=>rfl) rfl mr (fun _=>rfl) (fun _=>rfl) (fun _=>rfl) ⟨fun _ _=>rfl,rfl,fun _=>rfl,rfl⟩ (fun e _ _=>asF e z hz 1 _ rfl) h0
end
def akR(z:Tree):aq xL 245 [gU [],.func 190 [cu 0]] [cv (aN z)]=some (aH (-1),[cv (aN z)]):=by
 refine aB ?_;simp only[adg,aiw,aN,b0T,C0,EW,seval];rw[bG];have h0:((0:Int)<((0:Nat):Int))=False:=dv;simp only[aiw,aN,h0,b0T,C0,EW,seval]
def akK(z:Tree):aq xL 188 [gU [],.func 190 [cu 0]] [cv (aN z)]=some (gU [],[cv (aN z)]):=by
 have h11:((-1:Int) == -1)=true:=rfl;have q:aU (aq xL) 245 [gU [],.func 190 [cu 0]] [cv (aN z)]=some (aH (-1),[cv (aN z)]):=ly (ids:=[0]) rfl rfl (ahx z) rfl rfl (akR z) rfl rfl rfl rfl rfl;refine aB ?_;simp only[aN] at q;simp only[Sf,aoC,aN,q,h11,b0T,C0,EW,seval]
end
noncomputable def Ci(args:List ag)(M:aC):Option (ag×aC):=bJ (aq xL 188 args M) fun x=>cr (x.1.jo=false) (some (x.1.qX x.2,pw x.2 x.1.ids))
def K5{args:List ag}{M:aC}{x:ag×aC}(h:Ci args M=some x):dh Tryz.prog 188 args M x:=by
 obtain⟨y,h1,h2⟩:=bp h;obtain⟨hp,h2⟩:=dg h2;cases h2;exact FI (ahQ _ _ _ _ h1).2 hp
def P7(z:Tree):Ci [gU [],.func 190 [cu 0]] [cv (aN z)]=some (gU [],[cv (aN z)]):=by
 unfold Ci;rw[akK,bO];exact fi rfl
def Still(b:cJ):Prop:=(∀B M,b.back B M=b)/\b.flat=true/\(∀ρ,b.pq ρ=b)
def WB(xs:List dQ)(z:Tree)(hz:Rt z)(hn:xs.length<=100000)(h0:xs≠[]):∃b,Still b/\Ci [.cz 0 0 3 0 xs.length,.func 190 [cu 1]] [.arr 3 0 (xs.map gA),cv (aN z)]=some (cN (nZ z xs),[b,cv (aN z)]):=by
 have h:=aqM xs z hz hn h0;unfold Ci;rw[h,bO];unfold anJ Du
 by_cases hl:(nZ z xs).length=0
 ·have h1:nZ z xs=[]:=dP.1 hl;refine⟨.arr 3 0 ((nZ z xs++List.replicate (xs.length-(nZ z xs).length) Qy).map gA),⟨fun _ _=>rfl,rfl,fun _=>rfl⟩,?_⟩
  rw[aX hl];refine(fi rfl).trans ?_;rw[h1];rfl
 ·refine⟨.tick 3 ((nZ z xs++List.replicate (xs.length-(nZ z xs).length) Qy).map gA).length,⟨fun _ _=>rfl,rfl,fun _=>rfl⟩,?_⟩
  rw[aL hl];refine(fi rfl).trans ?_
  have ht:List.drop 0 (List.take (nZ z xs).length ((nZ z xs++List.replicate (xs.length-(nZ z xs).length) Qy).map gA))=(nZ z xs).map gA:=by
   simp[fQ]
  show some (ag.slice .sh (List.drop 0 (List.take (nZ z xs).length ((nZ z xs++List.replicate (xs.length-(nZ z xs).length) Qy).map gA))),_)=_
  rw[ht];rfl
noncomputable def mi(T:zB)(f0:Nat)(g:List ag->aC->Option (ag×aC)):zB:=⟨T.code,fun f=>if f=f0 then some g else T.oY f⟩
def p7{P:Program}{T:zB}(hT:vn P T){f0:Nat}{g:List ag->aC->Option (ag×aC)}(he:lL P f0=true)(hg:∀ {args:List ag} {M:aC} {x:ag×aC},g args M=some x->dh P f0 args M x):vn P (mi T f0 g):=by
 refine⟨hT.code,fun f g' h args M x hx=>?_⟩
 simp only[mi] at h;split at h
 ·rename_i hf;cases h; subst hf;exact⟨he,hg hx⟩
 ·exact hT.oY f g' h args M x hx
def AA{T:zB}{f0:Nat}{g:List ag->aC->Option (ag×aC)}(h1:T.code f0=none)(h2:T.oY f0=none):∀n,wW (kb T n) (kb (mi T f0 g) n)
 |0,f,a,M,x,h=>by
  by_cases hf:f=f0
  ·subst hf;rw[kb,h2] at h;cases h
  ·have hp:(mi T f0 g).oY f=T.oY f:=by simp[mi,hf]
   rw[kb] at h ⊢;rw[hp];exact h
 |n+1,f,a,M,x,h=>by
  by_cases hf:f=f0
  ·subst hf;rw[kb,h2,h1] at h;cases h
  ·have hp:(mi T f0 g).oY f=T.oY f:=by simp[mi,hf]
   rw[kb] at h ⊢;rw[hp];split at h
   ·rename_i g hg; exact h
   ·rename_i hg;have hc:(mi T f0 g).code f=T.code f:=rfl;rw[hc];split at h
    ·cases h
    ·rename_i fn hfn;split at h
     ·rename_i hl;simp only[aX hl];obtain⟨o,ho,h⟩:=bp h;rw[jK (AA h1 h2 n) _ ho,bO];exact h
     ·cases h
def rb{T:zB}{f0:Nat}{g:List ag->aC->Option (ag×aC)}(h1:T.code f0=none)(h2:T.oY f0=none){f:Nat}{a:List ag}{M:aC}{x:ag×aC}(h:aq T f a M=some x):aq (mi T f0 g) f a M=some x:=by
 obtain⟨n,hn⟩:=uj h;exact pV (fun n x h=>tC _ n f a M x h) (AA h1 h2 n f a M x hn)
noncomputable def anW:zB:=mi bW 188 Ci
def abo:vn Tryz.prog anW:=p7 ahT fy (fun h=>K5 h)
noncomputable def gJ:zB:=mi anW 165 En
def N1:vn Tryz.prog gJ:=p7 abo fy (fun h=>Qj h)
def Ml:nP Tryz.prog (aq gJ):=qU fy N1
def N2{f:Nat}{a:List ag}{M:aC}{x:ag×aC}(h:aq bW f a M=some x):aq gJ f a M=some x:=rb rfl rfl (rb rfl rfl h)
def lS'{f:Nat}{a:List ag}{M:aC}{x:ag×aC}(h:aq bW f a M=some x):aq gJ f a M=some x:=N2 h
def lS{f:Nat}{vs:List ag}{M:aC}{x:ag×aC}(h:aU (aq bW) f vs M=some x):aU (aq gJ) f vs M=some x:=by
 obtain⟨a,B,y,h1,h2⟩:=pR h;exact h2 _ (N2 h1)
def afz(s:Bytes)(hs:s.length<=100000)(M:aC):aU (aq gJ) 165 [.str s] M=some (.tuple [da (gD s).1,aH (gD s).2],M):=by
 have h:aq gJ 165 [.str s] []=some (.tuple [da (gD s).1,aH (gD s).2],[]):=by
  refine fg (g:=En) rfl ?_;unfold En;simp only[];rw[aX ⟨trivial,hs⟩]
 exact cO h M
section
def qT{s:Bytes}(h:fY s=true):s.length<=32:=by
 unfold fY at h;simp only[bt,gN,jQ,dz] at h;omega
def J8:∀(x:List (Bytes×Bool)) (n:Nat) (l:List Bytes),qK x n=some l->n<=12->(∀s,s∈l->fY s=true)/\l.length+n<=12
 | [],n,l,h,hn=>by
  simp only[qK,gd] at h;subst h;exact⟨fun s hs=>by simp at hs,gm⟩
 |x::r,n,l,h,hn=>by
  rw[qK] at h;split at h
  ·cases h
  ·rename_i hb;cases hr:qK r (n+1) with
   |none=>rw[hr] at h; cases h
   |some k =>
    rw[hr] at h;simp only[dL,gd] at h;subst h;have hb':E2 x n=false:=by simpa using hb
    unfold E2 at hb';simp only[jQ,Bool.not_eq_false',jl] at hb';obtain⟨g1,g2⟩:=J8 r (n+1) k hr aI;refine⟨fun s hs=>?_,gm⟩
    rcases bI.1 hs with h1|h1
    ·subst h1; exact hb'.1.2
    ·exact g1 s h1
def yk(s:Bytes):(∀x,x∈(gD s).1->fY x=true)/\(gD s).1.length<=12:=by
 unfold gD;split
 ·exact⟨fun s hs=>by simp at hs,dv⟩
 ·split
  ·exact⟨fun s hs=>by simp at hs,dv⟩
  ·exact⟨fun s hs=>by simp at hs,dv⟩
  ·rename_i l hl;obtain⟨g1,g2⟩:=J8 _ 0 _ hl aI;exact⟨g1,aI⟩
def EJ:∀l:List Bytes,BG (l.map ag.str)=some l
 | []=>rfl
 |s::r=>by
  show bJ (BG (r.map ag.str)) (fun l=>some (s::l))=_
  rw[EJ r]; rfl
def D0(l:List Bytes)(h:∀x,x∈l->fY x=true):(Lib.join l [47]).length<=33*l.length:=by
 induction l with
 |nil=>simp[Lib.join]
 |cons a r ih =>
  have h1:=qT (h a dv);have h2:=ih (fun x hx=>h x (by simp[hx]))
  cases r with
  |nil=>simp[Lib.join]; omega
  |cons b r=>simp[Lib.join] at h2 ⊢; omega
def Ji(l:List Bytes):Bytes:=if (l.length:Int)==0 then [47] else [47]++Lib.join l [47]
def Ps(l:List Bytes)(h:∀x,x∈l->fY x=true)(hl:l.length<=12):(Ji l).length<=1000:=by
 unfold Ji;have:=D0 l h;split<;>simp<;>omega
def as4(l:List Bytes)(h:∀x,x∈l->fY x=true)(hl:l.length<=12)(M:aC):aU (aq bW) 277 [da l,.str [47]] M=some (.str (Lib.join l [47]),M):=by
 have hq:aq bW 277 [da l,.str [47]] []=some (.str (Lib.join l [47]),[]):=by
  refine fg (g:=JK) rfl ?_;unfold JK;simp only[];rw[EJ,bO,aX];have:=D0 l h;omega
 exact cO hq M
attribute [local irreducible] eX fM lC gK dX kr aq aU cr bJ
def ark(l:List Bytes)(h:∀x,x∈l->fY x=true)(hl:l.length<=12):aq bW 238 [da l] []=some (.str (Ji l),[]):=by
 refine aB ?_;have q:=as4 l h hl;have hm:(IntKind.i64.max<((1+(Lib.join l [47]).length:Nat):Int))=False:=max_lt _ (by have:=D0 l h; omega)
 unfold Ji;simp only[adb,aiv,q,EW,seval];cases h0:(l.length:Int)==0<;>simp only[aiv,h0,af,aE,aD,q,hm,EW,seval]
def asR l h hl:=cP (ark l h hl)
def ui(s:Bytes):Bytes×Bytes×Int :=
 if (gD s).2 != 0||(((gD s).1.length:Int)==0) then ([],[],60)
 else ((gD s).1.getD ((gD s).1.length-1) [],Ji ((gD s).1.take ((gD s).1.length-1)),0)
def aqF(s:Bytes)(hs:s.length<=100000):aq gJ 180 [.str s] []=some (.tuple [.str (ui s).1,.str (ui s).2.1,aH (ui s).2.2],[]):=by
 refine aB ?_;have q:=afz s hs;obtain⟨h1,h2⟩:=yk s;unfold ui;generalize gD s=l at q h1 h2 ⊢;obtain⟨l,e⟩:=l;simp only at h1 h2;have q2:=fun M=>lS (asR (l.take (l.length-1)) (fun x hx=>h1 x (dM hx)) gm M)
 simp only[da,eP] at q2;simp only[acF,X1,q,EW,seval];cases he:e != 0
 ·cases h0:(l.length:Int)==0
  ·have hne:0<l.length:=by
    have:¬((l.length:Int)=0):=by simpa using h0
    omega
   have hw:IntKind.i64.wrap ((l.length:Int)-1)=((l.length-1:Nat):Int):=by rw[gw aI aI]; omega
   have hx:=ai (show l.length-1<l.length by omega)
   have hg:l.getD (l.length-1) []=l[l.length-1]:=by simp[List.getD,hx]
   have hle:((l.length-1:Nat):Int)<=(l.length:Int):=aI;have hz:((0:Int)<=((l.length-1:Nat):Int))=True:=dv;simp only[X1,he,h0,hw,hx,q2,hg,hle,hz,fF,af,aD,EW,seval]
  ·simp only[X1,he,h0,er,aE,EW,seval]
 ·simp only[X1,he,dJ,aE,EW,seval]
def asC s hs:=cP (aqF s hs)
def F6(s:Bytes)(_hs:s.length<=100000):(ui s).1.length<=1000/\(ui s).2.1.length<=1000:=by
 obtain⟨h1,h2⟩:=yk s;unfold ui;split
 ·exact⟨dv,dv⟩
 ·refine⟨?_,Ps _ (fun x hx=>h1 x (dM hx)) gm⟩
  simp only[List.getD];cases hx:(gD s).1[(gD s).1.length-1]? with
  |none=>simp
  |some x=>have:=qT (h1 x (aK hx)); simp; omega
def BO(ae:List Node):List Bytes->Int->Int×Int
 | [],ar=>(ar,0)
 |s::r,ar=>if (fh ae ar s).2 != 0 then (0,(fh ae ar s).2) else BO ae r (fh ae ar s).1
def kB(t:Tree)(dI:Bytes):Int×Int:=if (gD dI).2 != 0 then (0,(gD dI).2) else BO t.ae (gD dI).1 1
def aak{t:Tree}(ht:Small t)(hr:rS t){xs:List Bytes}(hxs:∀x,x∈xs->x.length<=100000)(hn:xs.length<=100000) :
  ∀(l pre:List Bytes)(ar:Int),xs=pre++l->eX (aq gJ) [.tmp 4,.tmp 5] 0 [.block 0,.seq ahB] (.loop [2,8,19,20,21] ZT) [(2,cu 0),(8,aH ar),(19,da xs),(20,aH xs.length),(21,aH pre.length)] [cv (aN t)] =
   some (.tuple [aH (BO t.ae l ar).1,aH (BO t.ae l ar).2],[]):=by
 intro l;induction l with
 |nil =>
  intro pre ar h;rw[bG];simp only[Kt,jM h,aN,BO,EW,seval]
 |cons s rest ih =>
  intro pre ar h;rw[bG];have dD:pre.length+1<=100000:=by rw[h] at hn; simp at hn; omega
  have hw:=zy pre s;have hi1:=ih (pre++[s]) (fh t.ae ar s).1 (by rw[h]; simp)
  have q:=fun M=>lS (Y9 t.ae t.next t.ak ar s ht hr (hxs s (by rw[h]; simp)) trivial M)
  rw[BO];generalize fh t.ae ar s=v at q hi1 ⊢;simp only[aA,au,aw,aJ,aN] at hi1;simp only[Kt,iM h,gQ h,aN,q,EW,seval];cases he:v.2 != 0
  ·simp only[Kt,he,hw,af,aD,EW,seval];exact hi1
  ·simp only[Kt,he,aE,EW,seval]
def aqD(t:Tree)(dI:Bytes)(ht:Small t)(hr:rS t)(hp:dI.length<=100000):aq gJ 178 [br t,.str dI] []=some (.tuple [aH (kB t dI).1,aH (kB t dI).2],[]):=by
 refine aB ?_;have q:=afz dI hp;obtain⟨h1,h2⟩:=yk dI;have hl:=aak ht hr (xs:=(gD dI).1) (fun x hx=>by have:=qT (h1 x hx); omega) aI (gD dI).1 [] 1 rfl
 unfold kB;generalize gD dI=v at q hl ⊢;simp only[aN,aw] at hl;simp only[acD,Kt,br,aN,q,EW,seval];cases he:v.2 != 0
 ·simp only[Kt,he,af,aD,EW,seval];exact hl
 ·simp only[Kt,he,aE,EW,seval]
def amm(t:Tree)(dI:Bytes)(ht:Small t)(hr:rS t)(hp:dI.length<=100000)(M:aC):aU (aq gJ) 178 [.agg [ba t.ae,aH t.next,aH t.ak],.str dI] M=some (.tuple [aH (kB t dI).1,aH (kB t dI).2],M) :=
 cO (aqD t dI ht hr hp) M
def gh(e:Int):ag := .nK (.iface 43 (.int .i64 e))
def apJ(e:Int):aq gJ 110 [aH e] []=some (if e != 0 then gh e else .tuple [],[]):=by
 refine aB ?_;simp only[ab2,adY,EW,seval];cases he:e != 0
 ·simp only[adY,af,aD,EW,seval]
 ·simp only[adY,aE,valOf,gh,EW,seval]
def o8(e:Int)(M:aC):aU (aq gJ) 110 [aH e] M=some (if e != 0 then gh e else .tuple [],M) :=
 CR (apJ e) rfl rfl (by split<;>rfl) rfl (by split<;>rfl) M
def c53(b:Bool)(e:Int)(he:(e != 0)=true):aq gJ 53 [.bool b,aH e] []=some (if b then .tuple [] else gh e,[]):=by
 refine aB ?_;have q:=o8 e;rw[aX he] at q;cases b<;>simp only[alD,E53,q,gh,af,aE,aD,EW,seval]
def QF(b:Bool)(e:Int)(he:(e != 0)=true)(M:aC):aU (aq gJ) 53 [.bool b,aH e] M=some (if b then .tuple [] else gh e,M) :=
 CR (c53 b e he) rfl rfl (by split<;>rfl) rfl (by split<;>rfl) M
end
section
attribute [local irreducible] eX fM lC gK dX kr aq aU cr bJ
def cd(f:aa)(o:jF):List ag:=[ba f.s.now.ae,.int .i64 f.s.now.next,.int .i64 f.s.now.ak,.int .i64 f.s.tick,ua f.s.since,r8 f.s.eN,kj f.s.dR,.int .i64 f.s.next,fH f.holds,cN f.dS,
 .int .i64 o.kind,.int .i64 o.bA,.str o.dI,.str o.vh,.int .i64 o.n,.int .i64 o.m,.int .i64 o.handle,cV o.data,
 .int .i64 0,.int .i64 0,.int .i64 0,.int .i64 0,.int .i64 0,.slice .c0 [],.slice .c0 []]
abbrev df(f:aa)(o:jF):cJ := .cells (cd f o)
def dB(f:aa)(o:jF)(a:vU)(x y:ag):cJ := .cells [ba f.s.now.ae,.int .i64 f.s.now.next,.int .i64 f.s.now.ak,.int .i64 f.s.tick,ua f.s.since,r8 f.s.eN,kj f.s.dR,.int .i64 f.s.next,fH f.holds,cN f.dS,
 .int .i64 o.kind,.int .i64 o.bA,.str o.dI,.str o.vh,.int .i64 o.n,.int .i64 o.m,.int .i64 o.handle,cV o.data,
 .int .i64 a.err,.int .i64 a.ar,.int .i64 a.kind,.int .i64 a.n,.int .i64 a.m,x,y]
def Row(x:ag)(xs:List ag):Prop:=x = .slice .sh xs\/(x = .slice .c0 []/\xs=[])
def pt(K:Nat)(f:aa)(o:jF)(r:aa×vU×Int):Prop :=
 ∃x y,Row x (r.2.1.names.map ag.str)/\Row y (r.2.1.data.map pf)/\aq gJ K [.ptr 0 0] [.cells (cd f o)]=some (if r.2.2 != 0 then gh r.2.2 else .tuple [],[dB r.1 o r.2.1 x y])
def gx:vU:=⟨0,0,0,0,0,[],[]⟩
def Jj{C:eR}{g p:Nat}{vs:List ag}{r:ag}{M:aC}{f f':aa}{o o':jF}(hM:nth M p=some (df f o))(h:C g (.ptr 0 0::vs) [df f o]=some (r,[df f' o']))
  (h1:vs.all ag.flat=true) (h2:vs.flatMap ag.ids=[]) (h3:r.wH=true) (h4:∀p,vs.map (ag.pq (iw [p]))=vs) (h5:∀p,r.Ar (wD [p])=r) :
  aU C g (.ptr p 0::vs) M=some (r,iP M p (df f' o')) :=
 tn hM h h1 h2 h3 (h4 p) (h5 p) rfl rfl rfl rfl rfl
def aqE(f:aa)(o:jF)(ar:Int)(ht:Small f.s.now)(hr:rS f.s.now):aq gJ 179 [cu 0,aH ar] [df f o]=some (.agg (aM (bl f.s.now.ae ar)),[df f o]):=by
 refine aB ?_;have q:=fun M=>lS (Fb f.s.now ar ht hr M)
 simp only[aM] at q;simp only[acE,aoA,df,cd,q,aM,EW,seval]
def amn(f:aa)(o:jF)(ar:Int)(ht:Small f.s.now)(hr:rS f.s.now){p:Nat}{M:aC}(hM:nth M p=some (df f o)):aU (aq gJ) 179 [cu p,aH ar] M=some (.agg (aM (bl f.s.now.ae ar)),M):=by
 have:=Jj hM (aqE f o ar ht hr) rfl rfl rfl (fun _=>rfl) (fun _=>rfl)
 rwa[uV hM] at this
def ap9(f:aa)(o:jF)(dI:Bytes)(ht:Small f.s.now)(hr:rS f.s.now)(hp:dI.length<=100000):aq gJ 145 [cu 0,.str dI] [df f o] =
  some (if (kB f.s.now dI).2 != 0 then gh (kB f.s.now dI).2 else .agg (aM (bl f.s.now.ae (kB f.s.now dI).1)),[df f o]):=by
 refine aB ?_;have q1:=amm f.s.now dI ht hr hp;generalize kB f.s.now dI=v at q1 ⊢;have q2:=o8 v.2;have q3:∀b,aU (aq gJ) 179 [cu 0,aH v.1] [df f o,b]=some (.agg (aM (bl f.s.now.ae v.1)),[df f o,b]):=fun b=>amn f o v.1 ht hr (p:=0) rfl
 simp only[df,cd,aM] at q3;simp only[acm,ad4,df,cd,q1,EW,seval];cases he:v.2 != 0<;>simp only[he,af,aE,aD,gh] at q2 ⊢
 ·simp only[ad4,q2,q3,aM,EW,seval]
 ·simp only[ad4,q2,EW,seval]
def LC(f:aa)(o:jF)(dI:Bytes)(ht:Small f.s.now)(hr:rS f.s.now)(hp:dI.length<=100000){p:Nat}{M:aC}(hM:nth M p=some (df f o)):aU (aq gJ) 145 [cu p,.str dI] M =
  some (if (kB f.s.now dI).2 != 0 then gh (kB f.s.now dI).2 else .agg (aM (bl f.s.now.ae (kB f.s.now dI).1)),M):=by
 have:=Jj hM (ap9 f o dI ht hr hp) rfl rfl (by split<;>rfl) (fun _=>rfl) (fun _=>by split<;>rfl)
 rwa[uV hM] at this
def mW(t:Tree)(dI:Bytes):Int×Bytes×Int :=
 if (ui dI).2.2 != 0 then (0,[],(ui dI).2.2)
 else if (kB t (ui dI).2.1).2 != 0 then (0,[],(kB t (ui dI).2.1).2)
 else ((kB t (ui dI).2.1).1,(ui dI).1,0)
def aqa(f:aa)(o:jF)(dI:Bytes)(ht:Small f.s.now)(hr:rS f.s.now)(hp:dI.length<=100000):aq gJ 146 [cu 0,.str dI] [df f o] =
  some (if (mW f.s.now dI).2.2 != 0 then gh (mW f.s.now dI).2.2 else .tuple [aH (mW f.s.now dI).1,.str (mW f.s.now dI).2.1],[df f o]):=by
 refine aB ?_;have q1:=asC dI hp;have hl:=F6 dI hp;have q4:=amm f.s.now (ui dI).2.1 ht hr aI;unfold mW;generalize ui dI=l at q1 q4 ⊢;have q2:=o8 l.2.2;generalize kB f.s.now l.2.1=v at q4 ⊢;have q3:=o8 v.2;simp only[acn,XW,df,cd,q1,EW,seval];cases he:l.2.2 != 0<;>simp only[he,af,aE,aD,gh] at q2 ⊢
 ·cases hv:v.2 != 0<;>simp only[hv,af,aE,aD,gh] at q3 ⊢
  ·simp only[XW,q2,q4,q3,az,af,aD,EW,seval]
  ·simp only[XW,q2,q4,q3,hv,aE,EW,seval]
 ·simp only[XW,q2,he,aE,EW,seval]
def SU(f:aa)(o:jF)(dI:Bytes)(ht:Small f.s.now)(hr:rS f.s.now)(hp:dI.length<=100000){p:Nat}{M:aC}(hM:nth M p=some (df f o)):aU (aq gJ) 146 [cu p,.str dI] M =
  some (if (mW f.s.now dI).2.2 != 0 then gh (mW f.s.now dI).2.2 else .tuple [aH (mW f.s.now dI).1,.str (mW f.s.now dI).2.1],M):=by
 have:=Jj hM (aqa f o dI ht hr hp) rfl rfl (by split<;>rfl) (fun _=>rfl) (fun _=>by split<;>rfl)
 rwa[uV hM] at this
def Cp(n:Node):Int:=if (n.data.length:Int)<(n.bc.length:Int) then (n.bc.length:Int) else (n.data.length:Int)
def aqj(n:Node):aq gJ 155 [.agg (aM n)] []=some (aH (Cp n),[]):=by
 refine aB ?_;simp only[acu,aox,bL,aM,Cp,EW,seval]
def aag{xs:List gM}(hn:xs.length<=100000){k:List K}{R:List Bytes->Option (ag×aC)}
  (hx:∀(out:List Bytes) e,kr (aq gJ) [.tmp 2] 0 k ⟨.exit 0,(3,.slice (.own 0) (out.map ag.str))::e,[.tick 1 out.length]⟩=R out) :
  ∀(l pre:List gM)(out:List Bytes),xs=pre++l->out.length<=pre.length->eX (aq gJ) [.tmp 2] 0 k (.loop [3,6,7,8] ZG) [(3,.slice (.own 0) (out.map ag.str)),(6,jb xs),(7,aH xs.length),(8,aH pre.length)] [.tick 1 out.length]=R (out++l.map gM.name):=by
 intro l;induction l with
 |nil =>
  intro pre out h ho;rw[bG];simp only[XX,jM h,EW,seval];exact hx _ _
 |cons n rest ih =>
  intro pre out h ho;rw[bG];have dD:pre.length+1<=100000:=by rw[h] at hn; simp at hn; omega
  have hw:=zy pre n;have hi:=ih (pre++[n]) (out++[n.name]) (by rw[h]; simp) gm
  simp only[aA,au,aw,aW,aF,aR,aJ,bZ,aG,aQ] at hi;have r1:cq (out.length+1) 16=True:=qM;simp only[XX,iM h,gQ h,fU,r1,hw,EW,seval];exact hi
def aqi(l:List gM)(hn:l.length<=100000):aq gJ 154 [jb l] []=some (da (l.map gM.name),[]):=by
 refine aB ?_;have hl:=aag hn (k:=[.block 0,.seq ahy]) (R:=fun out=>some (da out,[])) (fun out e=>by simp only[XX,EW,seval]) l [] [] rfl (av _)
 simp only[aR,aw] at hl;simp only[R6,XX,EW,seval];exact hl
def afw l hn:=cP (aqi l hn)
def afx n:=cP (aqj n)
end
section
abbrev eI:Int->ag:=fun n => .int .i64 n
def bkI(B:Nat)(M:aC)(l:AM Int):List.map (ag.jY B M) (ph eI l)=ph eI l:=Yw _ _ _ (fun _=>rfl) l
attribute [local irreducible] eX fM lC gK dX kr aq aU cr bJ
def zM(ae:List Node)(dom:Int):List gM->AM Int->Option (AM Int)
 | [],m=>some m
 |e::r,m=>if (bl ae e.ar).kind==1&&(eY m e.ar).isSome&&((eY m e.ar).getD 0 != dom) then none else zM ae dom r (kL m e.ar dom)
def tZ(ae:List Node)(l:List dQ):List Node->AM Int->Bool
 | [],_=>true
 |d::r,m=>if (d.bc.length:Int)==0 then tZ ae l r m else match zM ae (mo ae l d.ar) d.bc m with
  |none=>false
  |some m'=>tZ ae l r m'
def se(t:Tree)(l:List dQ):Bool:=tZ t.ae l t.ae []
def VQ{t:Tree}(ht:Small t)(hr:rS t){ql:List dQ}{d:Node}{dom i n0:Int}{k:List K}{R:Option (AM Int)->Option (ag×aC)}(hn:d.bc.length<=100000)
  (hx:∀m e,kr (aq bW) [.tmp 4] 0 k ⟨.exit 2,(1,cN ql)::(2,cu 0)::(5,.iy 1)::(8,aH dom)::(17,ba t.ae)::(18,aH n0)::(19,aH i)::e,[cv (aN t),.map (B1 m) (ph eI m),cv (aM d)]⟩=R (some m))
  (hret:∀m b1 b2,kr (aq bW) [.tmp 4] 0 k ⟨.ret,[(4,.bool false)],[cv (aN t),.map (B1 m) (ph eI m),cv (aM d),b1,b2]⟩=R none) :
  ∀(l pre:List gM)(m:AM Int),d.bc=pre++l->eX (aq bW) [.tmp 4] 0 k (.loop [1,2,5,8,17,18,19,33,34,35] ZV) [(1,cN ql),(2,cu 0),(5,.iy 1),(8,aH dom),(17,ba t.ae),(18,aH n0),(19,aH i),(33,jb d.bc),(34,aH d.bc.length),(35,aH pre.length)] [cv (aN t),.map (B1 m) (ph eI m),cv (aM d)] =
   R (zM t.ae dom l m):=by
 simp only[aN,aM] at hx hret ⊢;intro l;induction l with
 |nil =>
  intro pre m h;rw[bG];simp only[C7,jM h,zM,bkI,EW,seval];exact hx _ _
 |cons e rest ih =>
  intro pre m h;rw[bG];have dD:pre.length+1<=100000:=by rw[h] at hn; simp at hn; omega
  have hw:=zy pre e;have q1:=Fb t e.ar ht hr;have hput:=sF eI m e.ar dom;have hi:=ih (pre++[e]) (kL m e.ar dom) (by rw[h]; simp)
  rw[zM];simp only[aM,aA,au,aw,aJ] at q1 hi;simp only[C7,iM h,gQ h,fU,q1,pa,mapOf.eq_1,EW,seval];cases hm:eY m e.ar with
  |none =>
   cases hk:(bl t.ae e.ar).kind==1<;>simp only[C7,hm,hk,Vz,hput,hw,mapOf.eq_1,bkI,oS,dp,dV,dW,af,aD,EW,seval]
   ·exact hi
   ·exact hi
  |some v =>
   cases hk:(bl t.ae e.ar).kind==1<;>cases hd:v != dom<;>simp only[C7,hm,hk,hd,Ns,hput,hw,mapOf.eq_1,bkI,bX,bm,dV,dW,dZ,af,aE,aD,EW,seval]
   ·exact hi
   ·exact hi
   ·exact hi
   ·exact hret _ _ _
def VR{t:Tree}{dG:Int->Nat}(ht:dU t dG 0){ql:List dQ}(hq:pz ql)(hql:ql.length<=100000) :
  ∀(l pre:List Node)(m:AM Int),t.ae=pre++l->eX (aq bW) [.tmp 4] 0 [.block 0,.seq NM] (.loop [1,2,5,17,18,19] Nl) [(1,cN ql),(2,cu 0),(5,.iy 1),(17,ba t.ae),(18,aH t.ae.length),(19,aH pre.length)] [cv (aN t),.map (B1 m) (ph eI m)] =
   some (.bool (tZ t.ae ql l m),[]):=by
 intro l;induction l with
 |nil =>
  intro pre m h;rw[bG];simp only[C7,jM h,tZ,aN,EW,seval]
 |cons d rest ih =>
  intro pre m h;rw[bG];have hn:=ht.ae;have dD:pre.length+1<=200:=by rw[h] at hn; simp at hn; omega
  have hw:=zy pre d;have hi:=fun m=>ih (pre++[d]) m (by rw[h]; simp)
  have hfd:find t.ae d.ar=some d:=(ig ht.lP.mB).2 ⟨by rw[h]; simp,rfl⟩
  rw[tZ];simp only[aN,aA,au,aw,aJ] at hi;simp only[C7,iM h,gQ h,aN,aM,EW,seval];cases he:(d.bc.length:Int)==0
  ·have hk:d.kind=2:=by
    rcases ht.kind _ _ hfd with h1|h1
    ·rw[(ht.file _ _ hfd h1).1] at he; simp at he
    ·exact h1
   have q1:=asS ht hq hql hfd hk
   have hin:=VQ ht.sz.HE ht.lP (ql:=ql) (d:=d) (dom:=mo t.ae ql d.ar) (i:=pre.length) (n0:=t.ae.length) (k:=[.block 2,.block 1,.seq abb,.loop [1,2,5,17,18,19] 2 Nl,.block 0,.seq NM])
    (R:=fun o=>some (.bool (match o with|none=>false|some m'=>tZ t.ae ql rest m'),[])) (by have:=(ht.yo _ _ hfd).2; omega)
    (fun m e=>by
     have:=hi m;simp only[aN,aM,C7,hw,bkI,EW,seval];exact this)
    (fun m b1 b2=>by simp only[aN,aM,C7,EW,seval]) d.bc [] m rfl
   simp only[aN,aM,aw] at hin;simp only[C7,he,q1,af,aD,EW,seval];refine hin.trans ?_;rfl
  ·simp only[C7,he,hw,aE,bkI,EW,seval];exact hi m
def aqP(t:Tree)(l:List dQ)(ht:Rt t)(hq:pz l)(hl:l.length<=100000):aq bW 192 [br t,cN l] []=some (.bool (se t l),[]):=by
 obtain⟨dG,ht⟩:=ht;refine aB ?_;have h:=VR ht hq hl t.ae [] [] rfl;simp only[aN,aw] at h;simp only[acL,C7,br,aN,EW,seval];exact h
def asG(t:Tree)(l:List dQ)(ht:Rt t)(hq:pz l)(hl:l.length<=100000)(M:aC):aU (aq bW) 192 [.agg [ba t.ae,aH t.next,aH t.ak],cN l] M=some (.bool (se t l),M):=cO (aqP t l ht hq hl) M
end
section
def Gl{args:List ag}{M:aC}{x:ag×aC}(h:Ci args M=some x):aq gJ 188 args M=some x:=fg (T:=gJ) (g:=Ci) rfl h
def anA(xs:List ag)(z:Tree)(W:cJ):j5 [W,cv (aN z),.arr 3 0 xs] (iw [2,1]) [2,1]=some [.arr 3 0 xs,cv (aN z)]:=rfl
def aht(z:Tree)(W:cJ):j5 [W,cv (aN z)] (iw [1]) [1]=some [cv (aN z)]:=rfl
attribute [local irreducible] eX fM lC gK dX kr aq aU cr bJ
def amq(z:Tree)(W:cJ):aU (aq gJ) 188 [gU [],.func 190 [cu 1]] [W,cv (aN z)]=some (gU [],[W,cv (aN z)]) :=
 ly (ids:=[1]) rfl rfl (aht z W) rfl rfl (Gl (P7 z)) rfl rfl rfl rfl rfl
def asE(xs:List dQ)(z:Tree)(hz:Rt z)(hn:xs.length<=100000)(h0:xs≠[])(W:cJ):∃b,Still b/\aU (aq gJ) 188 [.cz 2 0 3 0 xs.length,.func 190 [cu 1]] [W,cv (aN z),.arr 3 0 (xs.map gA)] =
  some (cN (nZ z xs),[W,cv (aN z),b]):=by
 obtain⟨b,hb,h⟩:=WB xs z hz hn h0;refine⟨b,hb,ly (ids:=[2,1]) rfl rfl (anA _ z W) rfl rfl (Gl h) rfl rfl ?_ rfl ?_⟩
 ·simp only[kN,hb.2.1]; rfl
 ·simp only[mh,hb.2.2]; rfl
def ry(l:List fA):List Int->Tree->Tree
 | [],t=>t
 |i::r,t=>ry l r (if !pT l i then (kK t i).1 else t)
def A7(l:List fA):∀(r:List Int)(t:Tree),Rt t->Rt (ry l r t)
 | [],t,h=>h
 |i::r,t,h=>by
  rw[ry];refine A7 l r _ ?_;split
  ·exact h.free i
  ·exact h
def VI{f:aa}{o:jF}{q:List dQ}(hh:f.holds.length<=100000){xs:List Int}(hn:xs.length<=100000){fin:Tree}{k:List K}{r:Option (ag×aC)}
  (hx:∀e,kr (aq gJ) [] 1 k ⟨.exit 0,(0,cu 0)::(2,cN q)::(4,cu 1)::e,[df f o,cv (aN fin)]⟩=r) :
  ∀(l pre:List Int)(t:Tree),xs=pre++l->Rt t->ry f.holds l t=fin->eX (aq gJ) [] 1 k (.loop [0,2,4,13,14,15] ZF) [(0,cu 0),(2,cN q),(4,cu 1),(13,ua xs),(14,aH xs.length),(15,aH pre.length)] [df f o,cv (aN t)]=r:=by
 simp only[df,cd,aN] at hx ⊢;intro l;induction l with
 |nil =>
  intro pre t h ht hfin;rw[bG];rw[ry] at hfin;subst hfin;simp only[tg,jM h,EW,seval];exact hx _
 |cons i rest ih =>
  intro pre t h ht hfin;rw[bG];have dD:pre.length+1<=100000:=by rw[h] at hn; simp at hn; omega
  have hw:=zy pre i;rw[ry] at hfin;have hi1:=ih (pre++[i]) t (by rw[h]; simp) ht
  have hi2:=ih (pre++[i]) (kK t i).1 (by rw[h]; simp) (ht.free i)
  have q1:∀M,nth M 2=some (cv [aH i])->aU (aq gJ) 185 [fH f.holds,.func 186 [cu 2]] M=some (.bool (pT f.holds i),M):=fun M hM=>lS (zG hM (akJ f.holds i hh) rfl rfl rfl)
  have q2:=fun M=>lS (amp t i ht.small ht.lP M)
  simp only[aN,aA,au,aw,aJ] at hi1 hi2 q2;simp only[tg,iM h,gQ h,q1,EW,seval];cases he:pT f.holds i<;>rw[he] at hfin
  ·simp only[ew,aE] at hfin;have:=hi2 hfin;simp only[tg,he,q2,hw,EW,seval];exact this
  ·simp only[cU,af,aD] at hfin;have:=hi1 hfin;simp only[tg,he,hw,EW,seval];exact this
def nv(t:Tree)(q:dQ):Bool := !(decide ((lB t.ae q.ar).1<=q.ae)&&decide ((lB t.ae q.ar).2<=q.bytes))
def PH{f:aa}{o:jF}{t:Tree}(ht:Rt t){xs:List dQ}(hn:xs.length<=100000){k:List K}{r:Option (ag×aC)}
  (hx:∀e,xs.any (nv t)=false->kr (aq gJ) [] 1 k ⟨.exit 2,(0,.ptr 0 0)::(2,cN xs)::(4,.ptr 1 0)::e,[df f o,.cells (aN t)]⟩=r)
  (hp:∀c,xs.any (nv t)=true->kr (aq gJ) [] 1 k ⟨.nK (.iface 43 (.int .i64 90)),[],[df f o,.cells (aN t),c]⟩=r) :
  ∀(l pre:List dQ),xs=pre++l->pre.any (nv t)=false->eX (aq gJ) [] 1 k (.loop [0,2,4,42,43,44] Nk) [(0,.ptr 0 0),(2,cN xs),(4,.ptr 1 0),(42,cN xs),(43,.int .i64 xs.length),(44,.int .i64 pre.length)] [df f o,.cells (aN t)]=r:=by
 simp only[df,cd,aN] at hx hp ⊢;intro l;induction l with
 |nil =>
  intro pre h hpre;rw[bG];have hany:xs.any (nv t)=false:=by rw[h,c8]; exact hpre
  simp only[tg,jM h,EW,seval];exact hx _ hany
 |cons q rest ih =>
  intro pre h hpre;rw[bG];have dD:pre.length+1<=100000:=by rw[h] at hn; simp at hn; omega
  have hw:=zy pre q;have q1:=fun M=>lS (afA ht q.ar M)
  have q2:=fun bb=>QF bb 90 rfl
  have hov:∀z,nv t q=z->(decide ((lB t.ae q.ar).1<=q.ae)&&decide ((lB t.ae q.ar).2<=q.bytes)) = !z:=fun z hz=>by rw[<-hz]; unfold nv; simp
  simp only[tg,iM h,gQ h,iV,q1,EW,seval];cases ho:nv t q
  ·have hi:=ih (pre++[q]) (by rw[h]; simp) (by simp[hpre,ho])
   have hv:=hov _ ho;simp only[aA,au,aw,aJ] at hi;simp only[ew,bt] at hv;simp only[tg,hv.1,hv.2,q2,hw,aE,EW,seval];exact hi
  ·have hany:xs.any (nv t)=true:=by rw[h]; simp[ho]
   have hv:=hov _ ho;cases h1:decide ((lB t.ae q.ar).1<=q.ae)<;>cases h2:decide ((lB t.ae q.ar).2<=q.bytes)<;>simp only[h1,h2,jP,cU] at hv
   ·simp only[tg,h1,h2,q2,gh,af,aD,EW,seval];exact hp _ hany
   ·simp only[tg,h1,h2,q2,gh,af,aD,EW,seval];exact hp _ hany
   ·simp only[tg,h1,h2,q2,gh,af,aD,EW,seval];exact hp _ hany
   ·cases hv
def PG{f:aa}{o:jF}{t:Tree}(ht:Rt t){xs:List dQ}(hn:xs.length<=100000){b:cJ}(hbb:Still b){k:List K}{r:Option (ag×aC)}
  (hx:∀e,xs.any (nv t)=false->kr (aq gJ) [] 1 k ⟨.exit 2,(0,.ptr 0 0)::(2,cN xs)::(4,.ptr 1 0)::e,[df f o,.cells (aN t),b]⟩=r)
  (hp:∀c,xs.any (nv t)=true->kr (aq gJ) [] 1 k ⟨.nK (.iface 43 (.int .i64 90)),[],[df f o,.cells (aN t),b,c]⟩=r) :
  ∀(l pre:List dQ),xs=pre++l->pre.any (nv t)=false->eX (aq gJ) [] 1 k (.loop [0,2,4,42,43,44] Nk) [(0,.ptr 0 0),(2,cN xs),(4,.ptr 1 0),(42,cN xs),(43,.int .i64 xs.length),(44,.int .i64 pre.length)] [df f o,.cells (aN t),b]=r:=by
 simp only[df,cd,aN] at hx hp ⊢;intro l;induction l with
 |nil =>
  intro pre h hpre;rw[bG];have hany:xs.any (nv t)=false:=by rw[h,c8]; exact hpre
  simp only[tg,jM h,EW,seval];exact hx _ hany
 |cons q rest ih =>
  intro pre h hpre;rw[bG];have dD:pre.length+1<=100000:=by rw[h] at hn; simp at hn; omega
  have hw:=zy pre q;have q1:=fun M=>lS (afA ht q.ar M)
  have q2:=fun bb=>QF bb 90 rfl
  have hov:∀z,nv t q=z->(decide ((lB t.ae q.ar).1<=q.ae)&&decide ((lB t.ae q.ar).2<=q.bytes)) = !z:=fun z hz=>by rw[<-hz]; unfold nv; simp
  simp only[tg,iM h,gQ h,iV,q1,EW,seval];cases ho:nv t q
  ·have hi:=ih (pre++[q]) (by rw[h]; simp) (by simp[hpre,ho])
   have hv:=hov _ ho;simp only[aA,au,aw,aJ] at hi;simp only[ew,bt] at hv;simp only[tg,hv.1,hv.2,q2,hw,aE,hbb.1,EW,seval];exact hi
  ·have hany:xs.any (nv t)=true:=by rw[h]; simp[ho]
   have hv:=hov _ ho;cases h1:decide ((lB t.ae q.ar).1<=q.ae)<;>cases h2:decide ((lB t.ae q.ar).2<=q.bytes)<;>simp only[h1,h2,jP,cU] at hv
   ·simp only[tg,h1,h2,q2,gh,af,aD,EW,seval];exact hp _ hany
   ·simp only[tg,h1,h2,q2,gh,af,aD,EW,seval];exact hp _ hany
   ·simp only[tg,h1,h2,q2,gh,af,aD,EW,seval];exact hp _ hany
   ·cases hv
def j6(f:aa)(t:Tree)(q:List dQ):aa×Int :=
 if !se (ry f.holds (mT t) t) (nZ (ry f.holds (mT t) t) q) then (f,91)
 else if (nZ (ry f.holds (mT t) t) q).any (nv (ry f.holds (mT t) t)) then (f,90)
 else (⟨qA f.s (ry f.holds (mT t) t),f.holds,nZ (ry f.holds (mT t) t) q⟩,0)
structure vk(f:aa):Prop where
 rt:Rt f.s.now
 len:f.s.since.length=f.s.now.ae.length
 eN:f.s.eN.length<=90000
 Es:∀p,p∈f.s.eN->p.node.bc.length<=64/\p.node.data.length<=4096
 dR:f.s.dR.length<=16
 holds:uD f.holds
 dD:f.holds.length<=64
 dS:pz f.dS
 sK:f.dS.length<=16
def ami(s:iQ)(t:Tree)(hs:rS s.now)(hz:Sz 200 s.now)(ht:rS t)(hzt:Sz 200 t)(hk:s.dR.length<=100000)(hl:s.since.length=s.now.ae.length)(hp:s.eN.length<=100000)(M:aC) :
  aU (aq bW) 158 [.agg (bM s),.agg [ba t.ae,aH t.next,aH t.ak]] M=some (.agg (bM (qA s t)),M):=cO (aqm s t hs hz ht hzt hk hl hp) M
def F4{t:Tree}{q:List dQ}(h:pz q):pz (nZ t q):=jR _ h
def Bj(t:Tree)(q:List dQ):(nZ t q).length<=q.length:=bT _ _
def aqc(f:aa)(o:jF)(t:Tree)(q:List dQ)(hf:vk f)(ht:Rt t)(hq:pz q)(hql:q.length<=16):aq gJ 148 [cu 0,br t,cN q] [df f o] =
  some (if (j6 f t q).2 != 0 then gh (j6 f t q).2 else .tuple [],[df (j6 f t q).1 o]):=by
 refine aB ?_;have q0:=fun M=>lS (asD t (by have:=ht.sz.ae; omega) M)
 have hor:(mT t).length<=100000:=by have:=ht.sz.ae; have h2:=bT gS t.ae; unfold mT; simp; omega
 have hl:=VI (f:=f) (o:=o) (q:=q) (by have:=hf.dD; omega) (xs:=mT t) hor (fin:=ry f.holds (mT t) t) (k:=[.block 0,.seq aa8])
  (r:=some (if (j6 f t q).2 != 0 then gh (j6 f t q).2 else .tuple [],[df (j6 f t q).1 o])) ?_ (mT t) [] t rfl ht rfl
 ·simp only[df,cd,aN,aw] at hl;simp only[R5,tg,df,cd,br,aN,q0,EW,seval];exact hl
 ·intro e;have ht1:=A7 f.holds (mT t) t ht;unfold j6;generalize ry f.holds (mT t) t=t1 at ht1 ⊢;have q1:=fun M=>lS (asG t1 (nZ t1 q) ht1 (F4 hq) (by have:=Bj t1 q; omega) M)
  have q2:=fun bb=>QF bb 91 rfl
  have q3:=fun M=>lS (ami f.s t1 hf.rt.lP hf.rt.sz ht1.lP ht1.sz (by have:=hf.dR; omega) hf.len (by have:=hf.eN; omega) M)
  generalize qA f.s t1=ps at q3 ⊢;simp only[bM] at q3
  by_cases h0:q=[]
  ·have p1:=fun M=>lS' (DJ gA (f:=189) (sz:=3) (bytes:=24) rfl h0 M)
   have hk0:nZ t1 q=[]:=by subst h0; rfl
   rw[hk0] at q1 ⊢;have q1:∀M,aU (aq gJ) 192 [.agg [ba t1.ae,aH t1.next,aH t1.ak],gU []] M=some (.bool (se t1 []),M):=q1
   have p2:=amq t1 (df f o);cases hd:se t1 []
   ·rw[hd] at q1;simp only[df,cd,aN,gh] at p2 ⊢;simp only[tg,p1,p2,q1,q2,gh,hd,af,aE,aD,EW,seval]
   ·rw[hd] at q1
    have hlp:=PH (f:=f) (o:=o) (t:=t1) ht1 (xs:=[]) dv (k:=[.block 2,.seq NK]) (r:=some (.tuple [],[df ⟨ps,f.holds,[]⟩ o]))
     (fun e _=>by simp only[df,cd,aN,tg,q3,bM,EW,seval]; rfl) (fun c h=>by cases h) [] [] rfl rfl
    simp only[df,cd,aN,gh,aw] at p2 hlp ⊢;simp only[tg,p1,p2,q1,q2,hd,gh,af,aE,aD,o5,az,EW,seval];exact hlp
  ·obtain⟨b,hb,p2⟩:=asE q t1 ht1 aI h0 (df f o);have p1:=fun M=>lS' (CT gA (f:=189) (sz:=3) (bytes:=24) rfl (fun _=>rfl) aI h0 aI M)
   have hkl:(nZ t1 q).length<=100000:=by have:=Bj t1 q; omega
   generalize nZ t1 q=kq at q1 p2 hkl ⊢;cases hd:se t1 kq
   ·rw[hd] at q1;simp only[df,cd,aN,gh] at p2 ⊢;simp only[tg,p1,p2,q1,q2,gh,hd,hb.1,af,aE,aD,EW,seval]
   ·rw[hd] at q1
    have hlp:=PG (f:=f) (o:=o) (t:=t1) ht1 (xs:=kq) hkl hb (k:=[.block 2,.seq NK]) (r:=some (if kq.any (nv t1) then gh 90 else .tuple [],[df (if kq.any (nv t1) then f else ⟨ps,f.holds,kq⟩) o]))
     (fun e h=>by simp only[h,af,aD,df,cd,aN,tg,q3,bM,EW,seval]) (fun c h=>by simp only[h,aE,df,cd,aN,tg,gh,EW,seval]) kq [] rfl rfl
    simp only[df,cd,aN,gh,aw] at p2 hlp ⊢;simp only[tg,p1,p2,q1,q2,hd,gh,af,aE,aD,EW,seval];refine hlp.trans ?_;cases kq.any (nv t1)<;>rfl
end
section
attribute [local irreducible] eX fM lC gK dX kr aq aU cr bJ
structure sN(o:jF):Prop where
 dI:o.dI.length<=90000
 vh:o.vh.length<=90000
 data:o.data.length<=90000
def dU.XL{t:Tree}{dG:Int->Nat}(h:dU t dG 0)(to:Int)(nm:Bytes):∀e,gv (gW t.ae to).1.bc nm=some e->(bl t.ae e.ar).ar≠to:=by
 intro e he;unfold gW at he;split at he
 ·cases he
 ·rename_i n hn;split at he
  ·have hem:=(j4 he).1;obtain⟨_,_,_,_,m,hm,_⟩:=h.CG _ _ e hn hem;simp only[bl,hm,bm,(cD hm).2];exact h.xh hn hem
  ·cases he
def Pu(f:aa)(o:jF)(t:Tree)(q:List dQ)(hf:vk f)(ht:Rt t)(hq:pz q)(hql:q.length<=16){p:Nat}{M:aC}(hM:nth M p=some (df f o)):aU (aq gJ) 148 [cu p,.agg [ba t.ae,aH t.next,aH t.ak],cN q] M =
  some (if (j6 f t q).2 != 0 then gh (j6 f t q).2 else .tuple [],iP M p (df (j6 f t q).1 o)) :=
 Jj hM (aqc f o t q hf ht hq hql) rfl rfl (by split<;>rfl) (fun _=>rfl) (fun _=>by split<;>rfl)
def asm(t:Tree)(ht:Rt t)(dir:Int)(s:Bytes)(kind:Int)(hs:s.length<=100000)(M:aC):aU (aq gJ) 147 [.agg [ba t.ae,aH t.next,aH t.ak],aH dir,.str s,aH kind] M =
  some (.tuple [.agg [ba (rU t dir s kind).1.ae,aH (rU t dir s kind).1.next,aH (rU t dir s kind).1.ak],aH (rU t dir s kind).2.1,aH (rU t dir s kind).2.2],M):=by
 obtain⟨dG,h⟩:=ht;have:=aqb t dir s kind (h.sz.up aI) h.lP hs trivial h.jw;rw[Yd h] at this;exact lS (cO this M)
def asn(t:Tree)(ht:Rt t)(ar dir:Int)(s:Bytes)(hs:s.length<=100000)(M:aC):aU (aq gJ) 149 [.agg [ba t.ae,aH t.next,aH t.ak],aH ar,aH dir,.str s] M =
  some (.tuple [.agg [ba (CK t ar dir s).1.ae,aH (CK t ar dir s).1.next,aH (CK t ar dir s).1.ak],aH (CK t ar dir s).2],M):=by
 obtain⟨dG,h⟩:=ht;have:=aqd t ar dir s (h.sz.up aI) h.lP hs trivial;rw[ag5 h] at this;exact lS (cO this M)
def aso(t:Tree)(ht:Rt t)(dir:Int)(s:Bytes)(hs:s.length<=100000)(M:aC):aU (aq gJ) 150 [.agg [ba t.ae,aH t.next,aH t.ak],aH dir,.str s] M =
  some (.tuple [.agg [ba (BN t dir s).1.ae,aH (BN t dir s).1.next,aH (BN t dir s).1.ak],aH (BN t dir s).2.1,aH (BN t dir s).2.2],M):=by
 obtain⟨dG,h⟩:=ht;have:=aqe t dir s (h.sz.up aI) h.lP hs trivial;rw[ah0 h] at this;exact lS (cO this M)
def asq(t:Tree)(ht:Rt t)(dir:Int)(s:Bytes)(to:Int)(nm:Bytes)(hs:s.length<=100000)(hn:nm.length<=100000)(M:aC):aU (aq gJ) 152 [.agg [ba t.ae,aH t.next,aH t.ak],aH dir,.str s,aH to,.str nm] M =
  some (.tuple [.agg [ba (wU t dir s to nm).1.ae,aH (wU t dir s to nm).1.next,aH (wU t dir s to nm).1.ak],aH (wU t dir s to nm).2.1,aH (wU t dir s to nm).2.2],M):=by
 obtain⟨dG,h⟩:=ht;have:=aqg t dir s to nm (h.sz.up aI) h.lP hs trivial hn trivial (fun e he=>h.XL to nm e he)
 rw[ahc h] at this;exact lS (cO this M)
def ath(t:Tree)(ht:Rt t)(ar:Int)(s:Bytes)(hs:s.length<=100000)(M:aC):aU (aq gJ) 151 [.agg [ba t.ae,aH t.next,aH t.ak],aH ar,.str s] M =
  some (.tuple [aH (fh t.ae ar s).1,aH (fh t.ae ar s).2],M):=lS (Y9 t.ae t.next t.ak ar s ht.small ht.lP hs trivial M)
def amF(t:Tree)(ht:Rt t)(ar:Int)(d:Bytes)(hd:d.length<=100000)(M:aC):aU (aq gJ) 225 [.agg [ba t.ae,aH t.next,aH t.ak],aH ar,cV d] M =
  some (.tuple [.agg [ba (rP t ar d).1.ae,aH (rP t ar d).1.next,aH (rP t ar d).1.ak],aH (rP t ar d).2],M):=lS (cO (aq9 t ar d ht.small ht.lP hd) M)
def Rt.add{t:Tree}(h:Rt t)(dir:Int)(s:Bytes)(kind:Int):Rt (rU t dir s kind).1:=let ⟨_,g⟩:=h; Q2 g dir s kind (fun h=>h)
def Rt.ln{t:Tree}(h:Rt t)(ar dir:Int)(s:Bytes):Rt (CK t ar dir s).1:=let ⟨_,g⟩:=h; ⟨_,Z6 g ar dir s (fun h=>h)⟩
def Rt.un{t:Tree}(h:Rt t)(dir:Int)(s:Bytes):Rt (BN t dir s).1:=let ⟨_,g⟩:=h; ⟨_,abv g dir s⟩
def Rt.mv{t:Tree}(h:Rt t)(dir:Int)(s:Bytes)(to:Int)(nm:Bytes):Rt (wU t dir s to nm).1:=let ⟨_,g⟩:=h; aaK g dir s to nm (fun h=>h)
def Rt.put{t:Tree}(h:Rt t)(ar:Int)(d:Bytes):Rt (rP t ar d).1:=let ⟨_,g⟩:=h; ⟨_,WJ g ar d⟩
def vO(t:Tree)(s:Bytes)(hs:s.length<=100000):(mW t s).2.1.length<=1000:=by
 have:=F6 s hs;unfold mW;split
 ·simp
 ·split
  ·simp
  ·simp only; omega
abbrev Wk:=aa×vU×Int
def Cf(f:aa)(o:jF):Wk :=
 if (kB f.s.now o.dI).2 != 0 then (f,gx,(kB f.s.now o.dI).2)
 else (f,⟨0,(bl f.s.now.ae (kB f.s.now o.dI).1).ar,(bl f.s.now.ae (kB f.s.now o.dI).1).kind,0,0,[],[]⟩,0)
def c93(f:aa)(o:jF)(hf:vk f)(ho:sN o):pt 93 f o (Cf f o):=by
 unfold pt;refine⟨.slice .c0 [],.slice .c0 [],.inr ⟨rfl,?_⟩,.inr ⟨rfl,?_⟩,aB ?_⟩
 ·unfold Cf; split<;>rfl
 ·unfold Cf; split<;>rfl
 have q1:=fun {M}=>LC f o o.dI hf.rt.small hf.rt.lP (by have:=ho.dI; omega) (p:=0) (M:=M)
 unfold Cf;generalize kB f.s.now o.dI=v at q1 ⊢;simp only[df,cd,aM] at q1;cases he:v.2 != 0
 ·simp only[he,af,aD] at q1 ⊢;simp only[afj,E93,df,cd,dB,q1,az,af,aD,EW,seval]
 ·simp only[he,aE,gh] at q1 ⊢;simp only[afj,E93,df,cd,dB,gx,q1,he,aE,gh,EW,seval]
def Cg(f:aa)(o:jF):Wk :=
 let v:=mW f.s.now o.dI
 let w:=rU f.s.now v.1 v.2.1 o.n
 let r:=j6 f w.1 f.dS
 if v.2.2 != 0 then (f,gx,v.2.2)
 else if w.2.2 != 0 then (f,gx,w.2.2)
 else if r.2 != 0 then (r.1,gx,r.2)
 else (r.1,⟨0,w.2.1,o.n,0,0,[],[]⟩,0)
def c94(f:aa)(o:jF)(hf:vk f)(ho:sN o):pt 94 f o (Cg f o):=by
 unfold pt;refine⟨.slice .c0 [],.slice .c0 [],.inr ⟨rfl,?_⟩,.inr ⟨rfl,?_⟩,aB ?_⟩
 ·unfold Cg; simp only[]; split<;>(try split)<;>(try split)<;>rfl
 ·unfold Cg; simp only[]; split<;>(try split)<;>(try split)<;>rfl
 have hp:o.dI.length<=100000:=by have:=ho.dI; omega
 have q1:=fun {M}=>SU f o o.dI hf.rt.small hf.rt.lP hp (p:=0) (M:=M)
 have hl:=vO f.s.now o.dI hp;unfold Cg;simp only[];generalize mW f.s.now o.dI=v at q1 hl ⊢;have q2:=asm f.s.now hf.rt v.1 v.2.1 o.n aI;have hr:=hf.rt.add v.1 v.2.1 o.n;generalize rU f.s.now v.1 v.2.1 o.n=w at q2 hr ⊢;have q3:=o8 w.2.2;have q4:=fun {M}=>Pu f o w.1 f.dS hf hr hf.dS hf.sK (p:=0) (M:=M)
 generalize j6 f w.1 f.dS=r at q4 ⊢;simp only[df,cd] at q1 q4;cases he:v.2.2 != 0
 ·simp only[he,af,aD] at q1 ⊢;cases hw:w.2.2 != 0
  ·simp only[hw,af,aD] at q3 ⊢;cases hs:r.2 != 0
   ·simp only[hs,af,aD] at q4 ⊢;simp only[Sr,E94,df,cd,dB,q1,q2,q3,q4,az,af,aD,EW,seval]
   ·simp only[hs,aE,gh] at q4 ⊢;simp only[Sr,E94,df,cd,dB,gx,q1,q2,q3,q4,hs,aE,EW,seval]
  ·simp only[hw,aE,gh] at q3 ⊢;simp only[Sr,E94,df,cd,dB,gx,q1,q2,q3,hw,aE,EW,seval]
 ·simp only[he,aE,gh] at q1 ⊢;simp only[Sr,E94,df,cd,dB,gx,q1,he,aE,EW,seval]
def ati(t:Tree)(ht:Rt t)(l:List fA)(c h ar:Int)(hl:uD l)(hn:l.length<=64)(M:aC):aU (aq gJ) 156 [.agg [ba t.ae,aH t.next,aH t.ak],fH l,aH c,aH h,aH ar] M=some (.tuple [fH (vJ t l c h ar).1,aH (vJ t l c h ar).2],M):=lS (ass t l c h _ ht.small ht.lP hl hn M)
def atj(t:Tree)(ht:Rt t)(l:List fA)(c h:Int)(hn:l.length<=64)(M:aC):aU (aq gJ) 157 [.agg [ba t.ae,aH t.next,aH t.ak],fH l,aH c,aH h] M=some (.tuple [.agg (aN (nD t l c h).1),fH (nD t l c h).2.1,aH (nD t l c h).2.2],M):=lS (amh t l c h ht.small ht.lP hn M)
def asu(t:Tree)(l:List dQ)(ar ae bytes:Int)(ht:Rt t)(hq:pz l)(hn:l.length<=16)(M:aC):aU (aq gJ) 162 [.agg [ba t.ae,aH t.next,aH t.ak],cN l,aH ar,aH ae,aH bytes] M=some (.tuple [cN (vf t l ar ae bytes).1,aH (vf t l ar ae bytes).2],M) :=
 lS (cO (aqp t l _ _ _ ht hq hn) M)
def amG(f:aa)(hf:vk f)(t:Tree)(ht:Rt t)(M:aC):aU (aq gJ) 158 [.agg (bM f.s),.agg [ba t.ae,aH t.next,aH t.ak]] M=some (.agg (bM (qA f.s t)),M) :=
 lS (ami _ t hf.rt.lP hf.rt.sz ht.lP ht.sz (by have:=hf.dR; omega) hf.len (by have:=hf.eN; omega) M)
theorem Rt.gone{t:Tree}(h:Rt t)(c:Int):∀(l k:List fA),Rt (sR c l t k).1:=by
 intro l;induction l generalizing t with
 |nil=>intro k; exact h
 |cons x r ih =>
  intro k;rw[sR];split
  ·exact ih (h.close _ _ _) _
  grind
theorem Nf{α:Type}{lt:α->Bool}{R:α->α->Prop}{l:List α}{b:Nat}(h:l.Pairwise R)(hl:XI lt l b){x:α}(h1:∀y,y∈l->lt y=true->R y x)(h2:∀y,y∈l->lt y=false->R x y)(ht:∀a b c,R a b->R b c->R a c):(l.take b++x::l.drop b).Pairwise R:=by
 have hT:∀y,y∈l.take b->R y x:=by
  intro y hy;obtain⟨i,hi⟩:=bV hy;rw[fx] at hi;split at hi
  ·rename_i hib;exact h1 y (aK hi) ((hl.lt i y hi).2 hib)
  grind
 have hD:∀y,y∈l.drop b->R x y:=by
  intro y hy;obtain⟨i,hi⟩:=bV hy;rw[cI] at hi;refine h2 y (aK hi) ?_;cases he:lt y
  ·rfl
  ·have:=(hl.lt _ y hi).1 he; omega
 grind [List.pairwise_cons]
theorem Gs{t:Tree}{l:List dQ}(hq:pz l)(hn:l.length<=16)(ar ae bytes:Int):pz (vf t l ar ae bytes).1/\(vf t l ar ae bytes).1.length<=16:=by
 have hlow:=yd hq ar;have hat:=Q6 (key:=dQ.ar) hq ar;have e1:XN dQ.ar l ar=F2 l ar:=rfl;have e2:wP dQ.ar l ar=wQ l ar:=rfl;rw[e1,e2] at hat;unfold vf;split
 ·exact⟨hq,hn⟩
 split
 ·exact⟨hq,hn⟩
 split
 ·grind
 split
 ·exact⟨hq,hn⟩
 split
 ·rename_i hi;rcases hat with ⟨_,n,h2,h3,_⟩|⟨h1,_⟩
  ·refine⟨?_,by simpa using hn⟩
   have hm:((l.set (wQ l ar) ⟨ar,ae,bytes⟩).map dQ.ar)=l.map dQ.ar:=by
    rw[gj];have cL:=(aj.1 h2).1;refine ct fun i=>?_
    rw[fJ]
    grind
   have:((l.set (wQ l ar) ⟨ar,ae,bytes⟩).map dQ.ar).Pairwise (· < ·):=by rw[hm]; exact jU.2 hq
   exact jU.1 this
  ·rw[hi] at h1; cases h1
 split
 ·exact⟨hq,hn⟩
 ·rename_i hi dD
  have hne:∀y,y∈l->y.ar≠ar:=by
   grind
  simp only[qe,bj] at dD;refine⟨Nf hq hlow (fun y hy h=>?_) (fun y hy h=>?_) (fun a b c h1 h2=>Int.lt_trans h1 h2),by simp; have:=hlow.le; omega⟩
  ·simp only[bj,x4] at h; exact h
  ·simp only[dz,x4] at h; have:=hne y hy; simp only; omega
def Ce(f:aa)(o:jF):Wk :=
 let v:=kB f.s.now o.dI
 let n:=bl f.s.now.ae v.1
 let s:=mW f.s.now o.vh
 let w:=CK f.s.now n.ar s.1 s.2.1
 let r:=j6 f w.1 f.dS
 if v.2 != 0 then (f,gx,v.2) else
 if s.2.2 != 0 then (f,gx,s.2.2) else
 if w.2 != 0 then (f,gx,w.2) else
 if r.2 != 0 then (r.1,gx,r.2) else
 (r.1,⟨0,n.ar,0,0,0,[],[]⟩,0)
def c95(f:aa)(o:jF)(hf:vk f)(ho:sN o):pt 95 f o (Ce f o):=by
 unfold pt;have hp:o.dI.length<=100000:=by have:=ho.dI; omega
 have hto:o.vh.length<=100000:=by have:=ho.vh; omega
 refine⟨.slice .c0 [],.slice .c0 [],.inr ⟨rfl,?_⟩,.inr ⟨rfl,?_⟩,aB ?_⟩
 ·unfold Ce; simp only[]; split<;>(try split)<;>(try split)<;>(try split)<;>rfl
 ·unfold Ce; simp only[]; split<;>(try split)<;>(try split)<;>(try split)<;>rfl
 unfold Ce;simp only[];have q1:=fun {M}=>LC f o o.dI hf.rt.small hf.rt.lP hp (p:=0) (M:=M)
 generalize kB f.s.now o.dI=v at q1 ⊢;have q1:=@q1;generalize bl f.s.now.ae v.1=n at q1 ⊢;have hl:=vO f.s.now o.vh hto;have q2:=fun {M}=>SU f o o.vh hf.rt.small hf.rt.lP hto (p:=0) (M:=M)
 have hl:=hl;generalize mW f.s.now o.vh=s at q2 hl ⊢;have q3:=asn f.s.now hf.rt n.ar s.1 s.2.1 aI;have hr:=hf.rt.ln n.ar s.1 s.2.1;generalize CK f.s.now n.ar s.1 s.2.1=w at q3 hr ⊢;have q5:=fun {M}=>Pu f o w.1 f.dS hf hr hf.dS hf.sK (p:=0) (M:=M)
 generalize j6 f w.1 f.dS=r at q5 ⊢;simp only[df,cd,aM] at q1 q2 q3 q5;cases h0:v.2 != 0
 ·cases h1:s.2.2 != 0
  ·cases h2:w.2 != 0
   ·cases h3:r.2 != 0
    ·simp only[Pf,E95,cd,dB,q1,q2,q3,q5,h0,h1,h2,h3,o8,az,af,EW,seval]
    ·simp only[Pf,E95,cd,dB,gx,q1,q2,q3,q5,h0,h1,h2,h3,gh,o8,af,EW,seval]
   ·simp only[Pf,E95,cd,dB,gx,q1,q2,q3,h0,h1,h2,gh,o8,af,EW,seval]
  ·simp only[Pf,E95,cd,dB,gx,q1,q2,h0,h1,gh,af,EW,seval]
 simp_all [Pf,E95,df,cd,dB,gx,gh,EW]
def uW(f:aa)(o:jF):Wk :=
 let s:=mW f.s.now o.dI
 let w:=BN f.s.now s.1 s.2.1
 let r:=j6 f w.1 f.dS
 if s.2.2 != 0 then (f,gx,s.2.2) else
 if w.2.2 != 0 then (f,gx,w.2.2) else
 if r.2 != 0 then (r.1,gx,r.2) else
 (r.1,⟨0,w.2.1,0,0,0,[],[]⟩,0)
def c96(f:aa)(o:jF)(hf:vk f)(ho:sN o):pt 96 f o (uW f o):=by
 unfold pt;have hp:o.dI.length<=100000:=by have:=ho.dI; omega
 have hto:o.vh.length<=100000:=by have:=ho.vh; omega
 refine⟨.slice .c0 [],.slice .c0 [],.inr ⟨rfl,?_⟩,.inr ⟨rfl,?_⟩,aB ?_⟩
 ·unfold uW; simp only[]; split<;>(try split)<;>(try split)<;>rfl
 ·unfold uW; simp only[]; split<;>(try split)<;>(try split)<;>rfl
 unfold uW;simp only[];have hl:=vO f.s.now o.dI hp;have q2:=fun {M}=>SU f o o.dI hf.rt.small hf.rt.lP hp (p:=0) (M:=M)
 have hl:=hl;generalize mW f.s.now o.dI=s at q2 hl ⊢;have q3:=aso f.s.now hf.rt s.1 s.2.1 aI;have hr:=hf.rt.un s.1 s.2.1;generalize BN f.s.now s.1 s.2.1=w at q3 hr ⊢;have q5:=fun {M}=>Pu f o w.1 f.dS hf hr hf.dS hf.sK (p:=0) (M:=M)
 generalize j6 f w.1 f.dS=r at q5 ⊢;simp only[df,cd] at q2 q3 q5;cases h0:s.2.2 != 0
 ·cases h1:w.2.2 != 0
  ·cases h2:r.2 != 0
   ·simp only[Ss,E96,cd,dB,q2,q3,q5,h0,h1,h2,o8,az,af,EW,seval]
   ·simp only[Ss,E96,cd,dB,gx,q2,q3,q5,h0,h1,h2,gh,o8,af,EW,seval]
  ·simp only[Ss,E96,cd,dB,gx,q2,q3,h0,h1,gh,o8,af,EW,seval]
 simp_all [Ss,E96,cd,dB,gx,gh,EW]
def uU(f:aa)(o:jF):Wk :=
 let s:=mW f.s.now o.dI
 let u:=mW f.s.now o.vh
 let l:=fh f.s.now.ae s.1 s.2.1
 let w:=wU f.s.now s.1 s.2.1 u.1 u.2.1
 let r:=j6 f w.1 f.dS
 if s.2.2 != 0 then (f,gx,s.2.2) else
 if u.2.2 != 0 then (f,gx,u.2.2) else
 if l.2 != 0 then (f,gx,l.2) else
 if w.2.2 != 0 then (f,gx,w.2.2) else
 if r.2 != 0 then (r.1,gx,r.2) else
 (r.1,⟨0,l.1,0,0,0,[],[]⟩,0)
def c97(f:aa)(o:jF)(hf:vk f)(ho:sN o):pt 97 f o (uU f o):=by
 unfold pt;have hp:o.dI.length<=100000:=by have:=ho.dI; omega
 have hto:o.vh.length<=100000:=by have:=ho.vh; omega
 refine⟨.slice .c0 [],.slice .c0 [],.inr ⟨rfl,?_⟩,.inr ⟨rfl,?_⟩,aB ?_⟩
 ·unfold uU; simp only[]; split<;>(try split)<;>(try split)<;>(try split)<;>(try split)<;>rfl
 ·unfold uU; simp only[]; split<;>(try split)<;>(try split)<;>(try split)<;>(try split)<;>rfl
 unfold uU;simp only[];have hl:=vO f.s.now o.dI hp;have q1:=fun {M}=>SU f o o.dI hf.rt.small hf.rt.lP hp (p:=0) (M:=M)
 have hl:=hl;generalize mW f.s.now o.dI=s at q1 hl ⊢;have hl2:=vO f.s.now o.vh hto;have q2:=fun {M}=>SU f o o.vh hf.rt.small hf.rt.lP hto (p:=0) (M:=M)
 have hl2:=hl2;generalize mW f.s.now o.vh=u at q2 hl2 ⊢;have q3:=ath f.s.now hf.rt s.1 s.2.1 aI;generalize fh f.s.now.ae s.1 s.2.1=l at q3 ⊢;have q4:=asq f.s.now hf.rt s.1 s.2.1 u.1 u.2.1 aI aI;have hr:=hf.rt.mv s.1 s.2.1 u.1 u.2.1;generalize wU f.s.now s.1 s.2.1 u.1 u.2.1=w at q4 hr ⊢;have q5:=fun {M}=>Pu f o w.1 f.dS hf hr hf.dS hf.sK (p:=0) (M:=M)
 generalize j6 f w.1 f.dS=r at q5 ⊢;simp only[df,cd] at q1 q2 q3 q4 q5;cases h0:s.2.2 != 0
 ·cases h1:u.2.2 != 0
  ·cases h2:l.2 != 0
   ·cases h3:w.2.2 != 0
    ·cases h4:r.2 != 0
     ·simp only[Lv,E97,cd,dB,q1,q2,q3,q4,q5,h0,h1,h2,h3,h4,o8,az,af,EW,seval]
     ·simp only[Lv,E97,cd,dB,gx,q1,q2,q3,q4,q5,h0,h1,h2,h3,h4,gh,o8,af,EW,seval]
    ·simp only[Lv,E97,cd,dB,gx,q1,q2,q3,q4,h0,h1,h2,h3,gh,o8,af,EW,seval]
   ·simp only[Lv,E97,cd,dB,gx,q1,q2,q3,h0,h1,h2,gh,o8,af,EW,seval]
  ·simp only[Lv,E97,cd,dB,gx,q1,q2,h0,h1,gh,af,EW,seval]
 simp_all [Lv,E97,cd,dB,gx,gh,EW]
def Cs(f:aa)(o:jF):Wk :=
 let v:=kB f.s.now o.dI
 let n:=bl f.s.now.ae v.1
 if v.2 != 0 then (f,gx,v.2) else
 (f,⟨0,n.ar,n.kind,n.eo,Cp n,[],[]⟩,0)
def c99(f:aa)(o:jF)(hf:vk f)(ho:sN o):pt 99 f o (Cs f o):=by
 unfold pt;have hp:o.dI.length<=100000:=by have:=ho.dI; omega
 refine⟨.slice .c0 [],.slice .c0 [],.inr ⟨rfl,?_⟩,.inr ⟨rfl,?_⟩,aB ?_⟩
 ·unfold Cs; simp only[]; split<;>rfl
 ·unfold Cs; simp only[]; split<;>rfl
 unfold Cs;simp only[];have q1:=fun {M}=>LC f o o.dI hf.rt.small hf.rt.lP hp (p:=0) (M:=M)
 generalize kB f.s.now o.dI=v at q1 ⊢;have q1:=@q1;generalize bl f.s.now.ae v.1=n at q1 ⊢;have q2:=fun M=>afx n M
 simp only[df,cd,aM] at q1 q2;cases h0:v.2 != 0
 ·simp only[afk,E99,cd,dB,q1,q2,h0,az,af,EW,seval]
 simp_all [afk,E99,df,cd,dB,gx,gh,EW]
def Ch(f:aa)(o:jF):Wk :=
 let v:=kB f.s.now o.dI
 let n:=bl f.s.now.ae v.1
 let w:=vJ f.s.now f.holds o.bA o.handle n.ar
 if v.2 != 0 then (f,gx,v.2) else
 if w.2 != 0 then (f,gx,w.2) else
 (⟨f.s,w.1,f.dS⟩,⟨0,n.ar,0,0,0,[],[]⟩,0)
def apy(f:aa)(o:jF)(hf:vk f)(ho:sN o):pt 100 f o (Ch f o):=by
 unfold pt;have hp:o.dI.length<=100000:=by have:=ho.dI; omega
 have hto:o.vh.length<=100000:=by have:=ho.vh; omega
 refine⟨.slice .c0 [],.slice .c0 [],.inr ⟨rfl,?_⟩,.inr ⟨rfl,?_⟩,aB ?_⟩
 ·unfold Ch; simp only[]; split<;>(try split)<;>rfl
 ·unfold Ch; simp only[]; split<;>(try split)<;>rfl
 unfold Ch;simp only[];have q1:=fun {M}=>LC f o o.dI hf.rt.small hf.rt.lP hp (p:=0) (M:=M)
 generalize kB f.s.now o.dI=v at q1 ⊢;have q1:=@q1;generalize bl f.s.now.ae v.1=n at q1 ⊢;have q2:=ati f.s.now hf.rt f.holds o.bA o.handle n.ar hf.holds hf.dD;generalize vJ f.s.now f.holds o.bA o.handle n.ar=w at q2 ⊢;simp only[df,cd,aM] at q1 q2;cases h0:v.2 != 0
 ·cases h1:w.2 != 0
  ·simp only[MO,adV,cd,dB,q1,q2,h0,h1,o8,az,af,EW,seval]
  ·simp only[MO,adV,cd,dB,gx,q1,q2,h0,h1,gh,o8,af,EW,seval]
 simp_all [MO,adV,df,cd,dB,gx,gh,EW]
def xd(f:aa)(o:jF):Wk :=
 let w:=nD f.s.now f.holds o.bA o.handle
 let p:=qA f.s w.1
 if w.2.2 != 0 then (f,gx,w.2.2) else
 (⟨p,w.2.1,f.dS⟩,gx,0)
def apz(f:aa)(o:jF)(hf:vk f)(ho:sN o):pt 101 f o (xd f o):=by
 unfold pt;have hp:o.dI.length<=100000:=by have:=ho.dI; omega
 have hto:o.vh.length<=100000:=by have:=ho.vh; omega
 refine⟨.slice .c0 [],.slice .c0 [],.inr ⟨rfl,?_⟩,.inr ⟨rfl,?_⟩,aB ?_⟩
 ·unfold xd; simp only[]; split<;>rfl
 ·unfold xd; simp only[]; split<;>rfl
 unfold xd;simp only[];have q2:=atj f.s.now hf.rt f.holds o.bA o.handle hf.dD;have hr:=hf.rt.close f.holds o.bA o.handle;generalize nD f.s.now f.holds o.bA o.handle=w at q2 hr ⊢;have q3:=amG f hf w.1 hr;generalize qA f.s w.1=p at q3 ⊢;simp only[bM,aN] at q2 q3;cases h0:w.2.2 != 0
 ·simp only[RY,aie,cd,dB,gx,q2,q3,h0,o8,az,af,EW,seval]
 ·simp only[RY,aie,cd,dB,gx,q2,h0,gh,o8,EW,seval]
def xm(f:aa)(o:jF):Wk :=
 let v:=kB f.s.now o.dI
 let n:=bl f.s.now.ae v.1
 let w:=vf f.s.now f.dS n.ar o.n o.m
 let r:=j6 f f.s.now w.1
 if v.2 != 0 then (f,gx,v.2) else
 if w.2 != 0 then (f,gx,w.2) else
 if r.2 != 0 then (r.1,gx,r.2) else
 (r.1,⟨0,n.ar,0,0,0,[],[]⟩,0)
def apD(f:aa)(o:jF)(hf:vk f)(ho:sN o):pt 105 f o (xm f o):=by
 unfold pt;have hp:o.dI.length<=100000:=by have:=ho.dI; omega
 have hto:o.vh.length<=100000:=by have:=ho.vh; omega
 refine⟨.slice .c0 [],.slice .c0 [],.inr ⟨rfl,?_⟩,.inr ⟨rfl,?_⟩,aB ?_⟩
 ·unfold xm; simp only[]; split<;>(try split)<;>(try split)<;>rfl
 ·unfold xm; simp only[]; split<;>(try split)<;>(try split)<;>rfl
 unfold xm;simp only[];have q1:=fun {M}=>LC f o o.dI hf.rt.small hf.rt.lP hp (p:=0) (M:=M)
 generalize kB f.s.now o.dI=v at q1 ⊢;have q1:=@q1;generalize bl f.s.now.ae v.1=n at q1 ⊢;have q2:=asu f.s.now f.dS n.ar o.n o.m hf.rt hf.dS hf.sK;have hr:=Gs (t:=f.s.now) hf.dS hf.sK n.ar o.n o.m;generalize vf f.s.now f.dS n.ar o.n o.m=w at q2 hr ⊢;have q5:=fun {M}=>Pu f o f.s.now w.1 hf hf.rt hr.1 hr.2 (p:=0) (M:=M)
 generalize j6 f f.s.now w.1=r at q5 ⊢;simp only[df,cd,aM] at q1 q2 q5;cases h0:v.2 != 0
 ·cases h1:w.2 != 0
  ·cases h2:r.2 != 0
   ·simp only[IU,XT,cd,dB,q1,q2,q5,h0,h1,h2,o8,az,af,EW,seval]
   ·simp only[IU,XT,cd,dB,gx,q1,q2,q5,h0,h1,h2,gh,o8,af,EW,seval]
  ·simp only[IU,XT,cd,dB,gx,q1,q2,h0,h1,gh,o8,af,EW,seval]
 simp_all [IU,XT,df,cd,dB,gx,gh,EW]
def Cu(f:aa)(o:jF):Wk :=
 let v:=kB f.s.now o.dI
 let n:=bl f.s.now.ae v.1
 let w:=takeN f.s n.ar
 if v.2 != 0 then (f,gx,v.2) else
 if w.2.2 != 0 then (f,gx,w.2.2) else
 (⟨w.1,f.holds,f.dS⟩,⟨0,0,0,w.2.1,0,[],[]⟩,0)
def apE(f:aa)(o:jF)(hf:vk f)(ho:sN o):pt 106 f o (Cu f o):=by
 unfold pt;have hp:o.dI.length<=100000:=by have:=ho.dI; omega
 have hto:o.vh.length<=100000:=by have:=ho.vh; omega
 refine⟨.slice .c0 [],.slice .c0 [],.inr ⟨rfl,?_⟩,.inr ⟨rfl,?_⟩,aB ?_⟩
 ·unfold Cu; simp only[]; split<;>(try split)<;>rfl
 ·unfold Cu; simp only[]; split<;>(try split)<;>rfl
 unfold Cu;simp only[];have q1:=fun {M}=>LC f o o.dI hf.rt.small hf.rt.lP hp (p:=0) (M:=M)
 generalize kB f.s.now o.dI=v at q1 ⊢;have q1:=@q1;generalize bl f.s.now.ae v.1=n at q1 ⊢;have q2:=fun M=>lS (asv f.s n.ar hf.rt.small hf.rt.lP hf.dR M)
 generalize takeN f.s n.ar=w at q2 ⊢;simp only[df,cd,aM,bM,aN] at q1 q2;cases h0:v.2 != 0
 ·cases h1:w.2.2 != 0
  ·simp only[MQ,adX,df,cd,dB,gx,q1,q2,h0,h1,o8,az,af,aE,aD,EW,seval]
  ·simp only[MQ,adX,df,cd,dB,gx,q1,q2,h0,h1,gh,o8,az,af,aE,aD,EW,seval]
 ·simp only[MQ,adX,df,cd,dB,gx,q1,q2,h0,gh,o8,az,af,aE,aD,EW,seval]
def BX(f:aa)(o:jF):Wk :=
 let w:=ru f.s o.n
 if w.2 != 0 then (f,gx,w.2) else
 (⟨w.1,f.holds,f.dS⟩,gx,0)
def apG(f:aa)(o:jF)(hf:vk f)(ho:sN o):pt 108 f o (BX f o):=by
 unfold pt;have hp:o.dI.length<=100000:=by have:=ho.dI; omega
 have hto:o.vh.length<=100000:=by have:=ho.vh; omega
 refine⟨.slice .c0 [],.slice .c0 [],.inr ⟨rfl,?_⟩,.inr ⟨rfl,?_⟩,aB ?_⟩
 ·unfold BX; simp only[]; split<;>rfl
 ·unfold BX; simp only[]; split<;>rfl
 unfold BX;simp only[];have q2:=fun M=>lS (asx f.s o.n (by have:=hf.dR; omega) (by have:=hf.eN; omega) M)
 generalize ru f.s o.n=w at q2 ⊢;simp only[df,cd,aM,bM,aN] at q2;cases h0:w.2 != 0
 ·simp only[RZ,aif,df,cd,dB,gx,q2,h0,o8,az,af,aE,aD,EW,seval]
 ·simp only[RZ,aif,df,cd,dB,gx,q2,h0,gh,o8,az,af,aE,aD,EW,seval]
def AP(f:aa)(o:jF):Wk :=
 let w:=DP f.s.now f.holds o.bA
 let p:=qA f.s w.1
 (⟨p,w.2,f.dS⟩,gx,0)
def apH(f:aa)(o:jF)(hf:vk f)(ho:sN o):pt 109 f o (AP f o):=by
 unfold pt;have hp:o.dI.length<=100000:=by have:=ho.dI; omega
 have hto:o.vh.length<=100000:=by have:=ho.vh; omega
 refine⟨.slice .c0 [],.slice .c0 [],.inr ⟨rfl,?_⟩,.inr ⟨rfl,?_⟩,aB ?_⟩
 ·unfold AP; simp only[]; skip<;>rfl
 ·unfold AP; simp only[]; skip<;>rfl
 unfold AP;simp only[];have q2:=fun M=>lS (asy f.s.now f.holds o.bA hf.rt hf.dD M)
 have hr:=(show Rt (DP f.s.now f.holds o.bA).1 from hf.rt.gone o.bA _ _)
 generalize DP f.s.now f.holds o.bA=w at q2 hr ⊢;have q3:=amG f hf w.1 hr;generalize qA f.s w.1=p at q3 ⊢;simp only[df,cd,aM,bM,aN] at q2 q3;simp only[ab1,aos,df,cd,dB,gx,q2,q3,az,af,aE,aD,EW,seval]
def je(f:aa)(o:jF):Node×Int :=
 if (LB f.holds o.bA o.handle).2 != 0 then (Node.zero,(LB f.holds o.bA o.handle).2)
 else if decide (0<=o.n) then (bl f.s.now.ae (LB f.holds o.bA o.handle).1,0) else (Node.zero,1)
def aqn(f:aa)(o:jF)(hf:vk f):aq gJ 159 [cu 0] [df f o]=some (if (je f o).2 != 0 then gh (je f o).2 else .agg (aM (je f o).1),[df f o]):=by
 refine aB ?_;have q1:=fun M=>lS (asP f.holds o.bA o.handle (by have:=hf.dD; omega) M)
 have q2:=fun bb=>QF bb 1 rfl
 unfold je;generalize LB f.holds o.bA o.handle=v at q1 ⊢;have q3:=fun {M}=>amn f o v.1 hf.rt.small hf.rt.lP (p:=0) (M:=M)
 simp only[df,cd,aM] at q3;cases h0:v.2 != 0
 ·cases h1:decide (0<=o.n)
  ·simp only[MX,ad8,df,cd,aM,q1,q2,q3,o8,h0,h1,gh,az,af,aE,aD,EW,seval]
  ·simp only[MX,ad8,df,cd,aM,q1,q2,q3,o8,h0,h1,gh,az,af,aE,aD,EW,seval]
 ·simp only[MX,ad8,df,cd,aM,q1,q2,q3,o8,h0,gh,az,af,aE,aD,EW,seval]
def afy(f:aa)(o:jF)(hf:vk f){p:Nat}{M:aC}(hM:nth M p=some (df f o)):aU (aq gJ) 159 [cu p] M=some (if (je f o).2 != 0 then gh (je f o).2 else .agg (aM (je f o).1),M):=by
 have:=Jj (vs:=[]) hM (aqn f o hf) rfl rfl (by split<;>rfl) (fun _=>rfl) (fun _=>by split<;>rfl)
 rwa[uV hM] at this
def rC(f:aa)(o:jF)(ar:Int)(d:Bytes):Wk :=
 let w:=rP f.s.now ar d
 let r:=j6 f w.1 f.dS
 if w.2 != 0 then (f,gx,w.2) else
 if r.2 != 0 then (r.1,gx,r.2) else
 (r.1,⟨0,ar,0,0,d.length,[],[]⟩,0)
def aqo(f:aa)(o:jF)(hf:vk f)(ar:Int)(d:Bytes)(hd:d.length<=100000):aq gJ 161 [cu 0,aH ar,cV d] [df f o] =
  some (if (rC f o ar d).2.2 != 0 then gh (rC f o ar d).2.2 else .tuple [],[dB (rC f o ar d).1 o (rC f o ar d).2.1 (.slice .c0 []) (.slice .c0 [])]):=by
 refine aB ?_;unfold rC;simp only[];have q1:=amF f.s.now hf.rt ar d hd;have hr:=hf.rt.put ar d;generalize rP f.s.now ar d=w at q1 hr ⊢;have q5:=fun {M}=>Pu f o w.1 f.dS hf hr hf.dS hf.sK (p:=0) (M:=M)
 generalize j6 f w.1 f.dS=r at q5 ⊢;simp only[df,cd] at q5;cases h0:w.2 != 0
 ·cases h1:r.2 != 0
  ·simp only[MY,ad9,df,cd,dB,gx,q1,q5,o8,h0,h1,az,af,aE,aD,EW,seval]
  ·simp only[MY,ad9,df,cd,dB,gx,q1,q5,o8,h0,h1,gh,az,af,aE,aD,EW,seval]
 ·simp only[MY,ad9,df,cd,dB,gx,q1,q5,o8,h0,gh,az,af,aE,aD,EW,seval]
def amj(f:aa)(o:jF)(hf:vk f)(ar:Int)(d:Bytes)(hd:d.length<=100000){p:Nat}{M:aC}(hM:nth M p=some (df f o)):aU (aq gJ) 161 [cu p,aH ar,cV d] M =
  some (if (rC f o ar d).2.2 != 0 then gh (rC f o ar d).2.2 else .tuple [],iP M p (dB (rC f o ar d).1 o (rC f o ar d).2.1 (.slice .c0 []) (.slice .c0 []))) :=
 tn hM (aqo f o hf ar d hd) rfl rfl (by split<;>rfl) rfl (by split<;>rfl) rfl rfl rfl rfl rfl
end
section
theorem atk(d:Bytes)(hd:d.length<=100000)(M:aC):aU (aq gJ) 160 [cV d] M=some (cV d,M):=by
 have h:aq bW 160 [cV d] []=some (cV d,[]):=by
  refine fg rfl ?_
  show JH 1 1 [cV d] _=_
  grind [JH,sg,cq,fi]
 exact lS (cO h M)
def BI(X w:Bytes)(N:Nat)(h:N+w.length<=X.length):List.take X.length (List.take N (X.map pf)++(List.take w.length (w.map pf)++List.drop (N+w.length) (X.map pf)))=(X.take N++(w++X.drop (N+w.length))).map pf:=by
 rw[bB ka,bB (l:=w.map _) dv];simp
def Kj(k:Nat):List.replicate k (ag.agg [.int .u8 0]).norm=(List.replicate k (0:UInt8)).map pf:=by
 rw[gX]; rfl
def Y0(M:aC)(id ver sz lo hi:Nat):ag.qX M (.cz id ver sz lo hi)=match nth M id with
  |some (.arr _ v xs)=>if v=ver then gU ((xs.take hi).drop lo) else .any
  |_ => .any:=rfl
theorem p93{d:Bytes}(h0:d≠[])(hd:d.length<=100000)(b:cJ)(M:aC):aq gJ 160 [gU (d.map pf)] (b::M)=some (.cz (M.length+1) 0 1 0 d.length,(b::M)++[.arr 1 0 (d.map pf)]):=by
 refine lS' (fg rfl ?_)
 show mU 1 1 [gU _] _=_
 obtain⟨a,r,rfl⟩:=fj h0
 grind [wid,sg,cq,mU,fi]
def anv{d:Bytes}(h0:d=[])(b:cJ)(M:aC):aq gJ 160 [gU (d.map pf)] (b::M)=some (.slice .c0 [],b::M):=by
 subst h0;exact lS' (fg rfl rfl)
def Bo(a:Int)(n:Nat):Nat:=(if (n:Int)<a then (n:Int) else a).toNat
theorem Ab{a:Int}(h:0<=a)(n:Nat):(if (n:Int)<a then (n:Int) else a)=(Bo a n:Int)/\Bo a n<=n:=by
 grind [Bo]
theorem CW{f:aa}{o:jF}(h:((je f o).2 != 0)=false):0<=o.n/\∃i,(je f o).1=bl f.s.now.ae i:=by
 grind [je]
def xz{f:aa}(hf:vk f)(i:Int):(bl f.s.now.ae i).data.length<=4096/\(bl f.s.now.ae i).bc.length<=64:=by
 obtain⟨dG,h⟩:=hf.rt;unfold bl;cases hi:find _ i with
 |none=>simp[Node.zero]
 |some n =>
  simp;refine⟨?_,(h.yo _ _ hi).2⟩;rcases h.kind _ _ hi with h1|h1
  ·exact(h.file _ _ hi h1).2.2
  ·rw[h.dir _ _ hi h1]; simp
attribute [local irreducible] eX fM lC gK dX kr aq aU cr bJ
def Iv(f:aa)(o:jF):Wk :=
 if (je f o).2 != 0 then (f,gx,(je f o).2)
 else rC f o (je f o).1.ar ((je f o).1.data.take (Bo o.n (je f o).1.data.length))
theorem tI(f:aa)(o:jF)(ar:Int)(d:Bytes):(rC f o ar d).2.1.names=[]/\(rC f o ar d).2.1.data=[]:=by
 unfold rC; simp only; split
 ·exact⟨rfl,rfl⟩
 ·split<;>exact⟨rfl,rfl⟩
def apC(f:aa)(o:jF)(hf:vk f)(ho:sN o):pt 104 f o (Iv f o):=by
 unfold pt;refine⟨.slice .c0 [],.slice .c0 [],.inr ⟨rfl,?_⟩,.inr ⟨rfl,?_⟩,aB ?_⟩
 ·unfold Iv; split
  ·rfl
  simp[tI]
 ·unfold Iv; split
  ·rfl
  simp[tI]
 have q1:=fun {M}=>afy f o hf (p:=0) (M:=M)
 have hn:=CW (f:=f) (o:=o);unfold Iv;cases h0:(je f o).2 != 0
 ·obtain⟨hn0,i,hi⟩:=hn h0;have hsz:=(xz hf i).1;rw[<-hi] at hsz;generalize (je f o).1=n at q1 hsz ⊢;generalize (je f o).2=e at q1 h0 ⊢;obtain⟨m1,m2⟩:=Ab hn0 n.data.length;generalize Bo o.n n.data.length=mn at m1 m2 ⊢;have q2:=fun {M}=>amj f o hf n.ar (n.data.take mn) gm (p:=0) (M:=M)
  generalize rC f o n.ar (n.data.take mn)=r at q2 ⊢;have hle:((mn:Int)<=(n.data.length:Int))=True:=gm;have hz:((0:Int)<=(mn:Int))=True:=dv;simp only[df,cd,dB,aM,cV,eP] at q1 q2;cases h1:r.2.2 != 0
  ·simp only[MP,adW,cd,dB,q1,q2,h0,h1,m1,hle,hz,gz,af,EW,seval]
  ·simp only[MP,adW,cd,dB,q1,q2,h0,h1,m1,hle,hz,gz,gh,af,EW,seval]
 simp_all [df,cd,MP,adW,dB,gx,gh,EW]
def Gu(f:aa)(o:jF):Wk :=
 if (je f o).2 != 0 then (f,gx,(je f o).2) else
 if !(decide (0<=o.m)&&decide (o.m<=4096)) then (f,gx,1) else
 (f,⟨0,(je f o).1.ar,0,0,0,[],((je f o).1.data.drop (Bo o.n (je f o).1.data.length)).take (Bo o.m ((je f o).1.data.length-Bo o.n (je f o).1.data.length))⟩,0)
theorem apA(f:aa)(o:jF)(hf:vk f)(ho:sN o):pt 102 f o (Gu f o):=by
 unfold pt;have q1:=fun {M}=>afy f o hf (p:=0) (M:=M)
 have hn:=CW (f:=f) (o:=o);have q2:=fun bb=>QF bb 1 rfl
 unfold Gu;cases h0:(je f o).2 != 0
 ·obtain⟨hn0,i,hi⟩:=hn h0;have hsz:=(xz hf i).1;rw[<-hi] at hsz;generalize (je f o).1=n at q1 hsz ⊢;generalize (je f o).2=e at q1 h0 ⊢;obtain⟨m1,m2⟩:=Ab hn0 n.data.length;generalize Bo o.n n.data.length=mn at m1 m2 ⊢;have hle:((mn:Int)<=(n.data.length:Int))=True:=ka;have hz:∀k:Nat,((0:Int)<=(k:Int))=True:=fun k=>dv
  have ht:List.take n.data.length (n.data.map pf)=n.data.map pf:=bB dv;have dD:(List.drop mn (n.data.map pf)).length=n.data.length-mn:=dv;cases h1:(!(decide (0<=o.m)&&decide (o.m<=4096)))
  ·have h1':decide (0<=o.m)=true/\decide (o.m<=4096)=true:=by simpa using h1
   have hm0:0<=o.m:=ka;obtain⟨p1,p2⟩:=Ab hm0 (n.data.length-mn);generalize Bo o.m (n.data.length-mn)=mm at p1 p2 ⊢;have hle2:((mm:Int)<=((n.data.length-mn:Nat):Int))=True:=ka;have hw1:wid (List.drop mn (n.data.map pf)) 1=True:=by have:=sg (n.data.drop mn); rwa[jT] at this
   have q3:=fun M=>atk ((n.data.drop mn).take mm) ka M
   refine⟨.slice .c0 [],cV ((n.data.drop mn).take mm),.inr ⟨rfl,rfl⟩,.inl rfl,aB ?_⟩;simp only[df,cd,aM,cV,eP,jT] at q1 q3;simp only[IT,XR,cd,dB,q1,q2,q3,h0,h1'.1,h1'.2,m1,p1,hle,hle2,hz,ht,dD,hw1,gz,cV,jT,dN,az,af,EW,seval]
  ·refine⟨.slice .c0 [],.slice .c0 [],.inr ⟨rfl,rfl⟩,.inr ⟨rfl,rfl⟩,aB ?_⟩
   have h1':(decide (0<=o.m)&&decide (o.m<=4096))=false:=by
    grind
   simp only[df,cd,aM,cV] at q1;cases ha:decide (0<=o.m)<;>cases hb:decide (o.m<=4096)<;>simp only[ha,hb,jP,dV,gG] at h1'
   ·grind
   ·simp only[IT,XR,cd,dB,gx,q1,q2,h0,ha,gh,af,EW,seval]
   ·simp only[IT,XR,cd,dB,gx,q1,q2,h0,ha,hb,gh,af,EW,seval]
   ·cases h1'
 ·refine⟨.slice .c0 [],.slice .c0 [],.inr ⟨rfl,rfl⟩,.inr ⟨rfl,rfl⟩,aB ?_⟩;simp_all [df,cd,IT,XR,dB,gx,gh,af,EW]
def oh(d:Bytes)(n:Nat)(w:Bytes):Bytes :=
 if w=[] then d else (d++List.replicate (n+w.length-d.length) 0).take n++(w++(d++List.replicate (n+w.length-d.length) 0).drop (n+w.length))
def xP(f:aa)(o:jF):Wk :=
 if (je f o).2 != 0 then (f,gx,(je f o).2) else
 if !decide (o.n<=4096) then (f,gx,1) else
 if !decide (((o.n.toNat+o.data.length:Nat):Int)<=4096) then (f,gx,2) else
 rC f o (je f o).1.ar (oh (je f o).1.data o.n.toNat o.data)
theorem apB(f:aa)(o:jF)(hf:vk f)(ho:sN o):pt 103 f o (xP f o):=by
 unfold pt;refine⟨.slice .c0 [],.slice .c0 [],.inr ⟨rfl,?_⟩,.inr ⟨rfl,?_⟩,aB ?_⟩
 ·unfold xP; split
  ·rfl
  ·split
   ·rfl
   ·split
    ·rfl
    grind [tI]
 ·unfold xP; split
  ·rfl
  ·split
   ·rfl
   ·split
    ·rfl
    ·rw[(tI ..).2]; rfl
 have q1:=fun {M}=>afy f o hf (p:=0) (M:=M)
 have hn:=CW (f:=f) (o:=o);have q2:=fun bb=>QF bb 1 rfl
 have q3:=fun bb=>QF bb 2 rfl
 unfold xP;cases h0:(je f o).2 != 0
 ·obtain⟨hn0,i,hi⟩:=hn h0;have hsz:=(xz hf i).1;rw[<-hi] at hsz;generalize (je f o).1=n at q1 hsz ⊢;generalize (je f o).2=e at q1 h0 ⊢;simp only[df,cd,aM] at q1;cases h1:decide (o.n<=4096)
  ·simp only[yB,HP,cd,dB,gx,q1,q2,h0,h1,gh,af,EW,seval]
  ·have hn1:o.n<=4096:=by simpa using h1
   obtain⟨N,hN⟩:∃N:Nat,o.n=(N:Int):=⟨o.n.toNat,aI⟩;have hdl:=ho.data;have hw:IntKind.i64.wrap ((N:Int)+(o.data.length:Int))=((N+o.data.length:Nat):Int):=by rw[gw aI aI]; omega
   have hT:o.n.toNat=N:=aI;rw[hT];rw[hN] at q1 h1;cases h2:decide (((N+o.data.length:Nat):Int)<=4096)
   ·simp only[yB,HP,cd,dB,gx,q1,q2,q3,h0,h1,h2,hw,hN,gh,af,EW,seval]
   ·have hE:N+o.data.length<=4096:=by
     have:((N+o.data.length:Nat):Int)<=4096:=by simpa using h2
     omega
    have hwl:(oh n.data N o.data).length<=100000:=by
     unfold oh; split
     ·omega
     ·simp; omega
    have q4:=fun {M}=>amj f o hf n.ar (oh n.data N o.data) hwl (p:=0) (M:=M)
    generalize rC f o n.ar (oh n.data N o.data)=r at q4 ⊢;simp only[df,cd,dB,cV,hN] at q4
    by_cases hD:o.data=[]
    ·have hg:((0:Int)<(o.data.length:Int))=False:=by simp[hD]
     have hwr:oh n.data N o.data=n.data:=by unfold oh; rw[aX hD]
     rw[hwr] at q4
     by_cases hd0:n.data=[]
     ·have p1:=anv (d:=n.data) hd0;rw[hd0] at q4;simp only[aR] at q4;cases h3:r.2.2 != 0<;>simp only[yB,HP,cd,dB,q1,q2,q3,q4,p1,h0,h1,h2,h3,hN,hw,hg,gh,cV,pw,af,EW,seval]
     ·have p1:=p93 (d:=n.data) hd0 aI;have ht:List.take n.data.length (n.data.map pf)=n.data.map pf:=bB dv;cases h3:r.2.2 != 0<;>simp only[yB,HP,cd,dB,q1,q2,q3,q4,p1,h0,h1,h2,h3,hN,hw,hg,ht,gh,cV,Y0,pw,af,EW,seval]
    ·have hdl0:0<o.data.length:=gP.2 hD;have hg:((0:Int)<(o.data.length:Int))=True:=gm;have hwb:=sg o.data
     by_cases hd0:n.data=[]
     ·have p1:=anv (d:=n.data) hd0;have hk:IntKind.i64.wrap (((N+o.data.length:Nat):Int)-0)=((N+o.data.length:Nat):Int):=by rw[gw aI aI]; simp
      have hm:(((N+o.data.length:Nat):Int)<0)=False:=gm;have hmi:min o.data.length (N+o.data.length-N)=o.data.length:=aI;have rk:cq (N+o.data.length) 1=True:=qM;have b0:(((N+o.data.length:Nat):Int)==0)=false:=gm;have b1:((N:Int)==((N+o.data.length:Nat):Int))=false:=gm;have b2:((N:Int)<=((N+o.data.length:Nat):Int))=True:=gm;have b3:(((N+o.data.length:Nat):Int)<=((N+o.data.length:Nat):Int))=True:=dv;have hz:=Kj (N+o.data.length);have htl:=BI (List.replicate (N+o.data.length) 0) o.data N dv
      have hwr:oh n.data N o.data=(List.replicate (N+o.data.length) 0).take N++(o.data++(List.replicate (N+o.data.length) 0).drop (N+o.data.length)):=by
       unfold oh; rw[aL hD,hd0]; simp
      rw[hwr,<-htl] at q4;rw[kX] at q4;have l1:(0<((List.replicate (N+o.data.length) (0:UInt8)).map pf).length)=True:=gm;generalize (List.replicate (N+o.data.length) (0:UInt8)).map pf=X at hz q4 l1;cases h3:r.2.2 != 0<;>simp only[yB,HP,cd,dB,q1,q2,q3,q4,p1,h0,h1,h2,h3,hN,hw,hg,hk,hm,hmi,hwb,rk,b0,b1,b2,b3,hz,l1,gz,gh,cV,Y0,pw,bK,af,EW,seval]
     ·have p1:=p93 (d:=n.data) hd0 aI;have hL0:0<n.data.length:=gP.2 hd0;have l0:(0<n.data.length)=True:=gm;have hwn:=sg n.data
      by_cases hE2:N+o.data.length<=n.data.length
      ·have hk:IntKind.i64.wrap (((N+o.data.length:Nat):Int)-(n.data.length:Int))=((N+o.data.length:Nat):Int)-(n.data.length:Int):=gw aI aI;have hmx:(if ((N+o.data.length:Nat):Int)-(n.data.length:Int)<0 then (0:Int) else ((N+o.data.length:Nat):Int)-(n.data.length:Int))=0:=by split<;>omega
       have hmi:min o.data.length (n.data.length-N)=o.data.length:=aI;have rk:cq (n.data.length+0) 1=True:=qM;have rk0:cq n.data.length 1=True:=qM;have b1:((N:Int)==(n.data.length:Int))=false:=gm;have b2:((N:Int)<=(n.data.length:Int))=True:=gm;have htl:=BI n.data o.data N hE2
       have hwr:oh n.data N o.data=n.data.take N++(o.data++n.data.drop (N+o.data.length)):=by
        unfold oh; rw[aL hD,show N+o.data.length-n.data.length=0 by omega]; simp
       rw[hwr,<-htl] at q4;cases h3:r.2.2 != 0<;>simp only[yB,HP,cd,dB,q1,q2,q3,q4,p1,h0,h1,h2,h3,hN,hw,hg,hk,hmx,hmi,hwb,rk0,l0,b1,b2,gz,gh,cV,dN,Y0,pw,bK,af,EW,seval]
      ·have hk:IntKind.i64.wrap (((N+o.data.length:Nat):Int)-(n.data.length:Int))=((N+o.data.length:Nat):Int)-(n.data.length:Int):=gw aI aI;have hmx:(if ((N+o.data.length:Nat):Int)-(n.data.length:Int)<0 then (0:Int) else ((N+o.data.length:Nat):Int)-(n.data.length:Int))=((N+o.data.length-n.data.length:Nat):Int):=by split<;>omega
       have hsum:n.data.length+(N+o.data.length-n.data.length)=N+o.data.length:=aI;have hmi:min o.data.length (N+o.data.length-N)=o.data.length:=aI;have rk:cq (N+o.data.length) 1=True:=qM;have b0:(((N+o.data.length-n.data.length:Nat):Int)==0)=false:=gm;have b1:((N:Int)==((N+o.data.length:Nat):Int))=false:=gm;have b2:((N:Int)<=((N+o.data.length:Nat):Int))=True:=gm;have hz:=Kj (N+o.data.length-n.data.length);have htl:=BI (n.data++List.replicate (N+o.data.length-n.data.length) 0) o.data N gm
       have hwr:oh n.data N o.data=(n.data++List.replicate (N+o.data.length-n.data.length) 0).take N++(o.data++(n.data++List.replicate (N+o.data.length-n.data.length) 0).drop (N+o.data.length)):=by
        unfold oh; rw[aL hD]
       rw[hwr,<-htl] at q4;have hlX:(n.data++List.replicate (N+o.data.length-n.data.length) (0:UInt8)).length=N+o.data.length:=gm;rw[hlX,aW] at q4;have l1:(0<N+o.data.length)=True:=gm;have lz:((List.replicate (N+o.data.length-n.data.length) (0:UInt8)).map pf).length=N+o.data.length-n.data.length:=dv;generalize (List.replicate (N+o.data.length-n.data.length) (0:UInt8)).map pf=Z at hz q4 lz;cases h3:r.2.2 != 0<;>simp only[yB,HP,cd,dB,q1,q2,q3,q4,p1,h0,h1,h2,h3,hN,hw,hg,hk,hmx,hsum,hmi,hwb,rk,l0,l1,lz,b0,b1,b2,hz,gz,gh,cV,dN,Y0,pw,bK,af,EW,seval]
 ·simp only[df,cd,aM] at q1;simp only[yB,HP,cd,dB,gx,q1,h0,gh,EW,seval]
end
section
attribute [local irreducible] eX fM lC gK dX kr aq aU cr bJ
def akG(z:Int):aq bW 166 [gU [],.func 206 [cu 0]] [cv [aH z]]=some (aH (-1),[cv [aH z]]):=by
 have h00:decide ((0:Int)<0)=false:=rfl;have hz:((0:Nat):Int)=0:=rfl;refine aB ?_;simp only[acw,aim,hz,EN,seval];rw[bG];simp only[aim,h00,EN,seval]
end
def amk(z:Int):aU (aq bW) 166 [gU [],.func 206 [cu 0]] [cv [aH z]]=some (aH (-1),[cv [aH z]]) :=
 ly (ids:=[0]) rfl rfl (show j5 [cv [aH z]] (iw [0]) [0]=some [cv [aH z]] from rfl) rfl rfl (akG z) rfl rfl rfl rfl rfl
section
attribute [local irreducible] eX fM lC gK dX kr aq aU cr bJ
def akN(z:Int):aq bW 204 [gU [],.func 206 [cu 0]] [cv [aH z]]=some (gU [],[cv [aH z]]):=by
 have h11:((-1:Int) == -1)=true:=rfl;refine aB ?_;simp only[acU,aoI,amk,h11,EN,seval]
end
def amu(z:Int)(b0 b2 b3:cJ):aU (aq bW) 204 [gU [],.func 206 [cu 1]] [b0,cv [aH z],b2,b3]=some (gU [],[b0,cv [aH z],b2,b3]) :=
 ly (ids:=[1]) rfl rfl (show j5 [b0,cv [aH z],b2,b3] (iw [1]) [1]=some [cv [aH z]] from rfl) rfl rfl (akN z) rfl rfl rfl rfl rfl
def adO(b0 b2 b3:cJ)(xs:List ag)(z:Int):j5 [b0,cv [aH z],b2,b3,.arr 3 0 xs] (iw [4,1]) [4,1]=some [.arr 3 0 xs,cv [aH z]]:=rfl
def asI(xs:List gM)(z:Int)(hn:xs.length<=100000)(h0:xs≠[])(hk:qZ z xs≠[])(b0 b2 b3:cJ):aU (aq bW) 204 [.cz 4 0 3 0 xs.length,.func 206 [cu 1]] [b0,cv [aH z],b2,b3,.arr 3 0 (xs.map iG)] =
  some (.cz 4 0 3 0 (qZ z xs).length,[b0,cv [aH z],b2,b3,.arr 3 0 ((qZ z xs++List.replicate (xs.length-(qZ z xs).length) Mr).map iG)]):=by
 have h:=akM xs z hn h0;have hl:(qZ z xs).length≠0:=fun hh=>hk (dP.1 hh)
 have hr:WV (qZ z xs).length = .cz 0 0 3 0 (qZ z xs).length:=by simp[WV,Du,hl]
 rw[hr] at h;exact ly (ids:=[4,1]) rfl rfl (adO ..) rfl rfl h rfl rfl rfl rfl rfl
def amv(xs:List gM)(z:Int)(hn:xs.length<=100000)(h0:xs≠[])(hk:qZ z xs=[])(b0 b2 b3:cJ):aU (aq bW) 204 [.cz 4 0 3 0 xs.length,.func 206 [cu 1]] [b0,cv [aH z],b2,b3,.arr 3 0 (xs.map iG)] =
  some (gU [],[b0,cv [aH z],b2,b3,.arr 3 0 ((List.replicate xs.length Mr).map iG)]):=by
 have h:=akM xs z hn h0;have hr:WV (qZ z xs).length = gU []:=by simp[WV,Du,hk]
 rw[hr,hk] at h;simp only[aQ,aw,bK] at h;exact ly (ids:=[4,1]) rfl rfl (adO ..) rfl rfl h rfl rfl rfl rfl rfl
section
attribute [local irreducible] eX fM lC gK dX kr aq aU cr bJ
end
section
def FW(x:gM):List gM->List gM
 | []=>[x]
 |y::r=>if x.ak<y.ak then x::y::r else y::FW x r
def uw:List gM->List gM
 | []=>[]
 |x::r=>FW x (uw r)
def atf(n:gM):uh 2 (iG n)=n.ak:=rfl
def Jb(x:gM):∀l:List gM,DW 2 (iG x) (l.map iG)=(FW x l).map iG
 | []=>rfl
 |y::r=>by
  simp only[aF,DW,FW,atf]
  by_cases h:x.ak<y.ak
  ·simp only[h,aE,aF]
  ·simp only[h,aD,aF,Jb x r]
def Gz:∀l:List gM,rT 2 (l.map iG)=(uw l).map iG
 | []=>rfl
 |x::r=>by simp only[aF,rT,uw,Gz r,Jb]
def FX(x:gM):∀l,(FW x l).length=l.length+1
 | []=>rfl
 |y::r=>by simp only[FW]; split<;>simp[FX x r]
def wv:∀l,(uw l).length=l.length
 | []=>rfl
 |x::r=>by simp[uw,FX,wv r]
def Mb{l Z:List gM}{v:Nat}(hl:l.length<=1000000)(hn:(l.map gM.ak).Nodup):aq bW 207 [.cz 0 v 3 0 l.length,.func 208 []] [.arr 3 v ((l++Z).map iG)]=some (.tuple [],[.arr 3 v ((uw l++Z).map iG)]):=by
 refine fg (g:=wL 3 2 208) rfl ?_;unfold wL;simp only[nth];have ht:((l++Z).map iG).take l.length=l.map iG:=by simp[fQ]
 have hd:((l++Z).map iG).drop l.length=Z.map iG:=dv;rw[ht,hd,Gz,<-aW];rw[fi]
 ·rfl
 ·refine⟨trivial,trivial,trivial,dv,trivial,aI,?_,?_⟩
  ·intro x hx;obtain⟨n,_,rfl⟩:=eK.1 hx;rfl
  ·rw[gH];exact hn
def anB(xs:List ag)(v:Nat)(b0 b1 b2 b3:cJ):j5 [b0,b1,b2,b3,.arr 3 v xs] (iw [4]) [4]=some [.arr 3 v xs]:=rfl
attribute [local irreducible] eX fM lC gK dX kr aq aU cr bJ
def asK{l Z:List gM}{v:Nat}(hl:l.length<=1000000)(hn:(l.map gM.ak).Nodup)(b0 b1 b2 b3:cJ):aU (aq bW) 207 [.cz 4 v 3 0 l.length,.func 208 []] [b0,b1,b2,b3,.arr 3 v ((l++Z).map iG)]=some (.tuple [],[b0,b1,b2,b3,.arr 3 v ((uw l++Z).map iG)]) :=
 ly (ids:=[4]) rfl rfl (anB _ _ ..) rfl rfl (Mb hl hn) rfl rfl rfl rfl rfl
def adE(M:aC):aU (aq bW) 207 [gU [],.func 208 []] M=some (.tuple [],M):=by
 have h:aq bW 207 [gU [],.func 208 []] []=some (.tuple [],[]):=by
  refine fg (g:=wL 3 2 208) rfl ?_;unfold wL;simp only[aE]
 exact cO h M
def zQ(ae:List Node)(ar z:Int):List gM:=uw (qZ z (gW ae ar).1.bc)
def wK(t:Tree)(ar z m:Int):List gM×Int×Int :=
 if decide (z<0)||(decide (m<1)||decide (64<m)) then ([],0,1)
 else if (gW t.ae ar).2 != 0 then ([],0,(gW t.ae ar).2)
 else if decide (((zQ t.ae ar z).length:Int)<=m) then (zQ t.ae ar z,0,0)
 else ((zQ t.ae ar z).take m.toNat,nz (((zQ t.ae ar z).getD (m.toNat-1) Mr).ak+1),0)
def x6{t:Tree}{dG:Int->Nat}(h:dU t dG 0)(ar:Int):((gW t.ae ar).1.bc.map gM.ak).Nodup/\(gW t.ae ar).1.bc.length<=64:=by
 unfold gW;cases hi:find t.ae ar with
 |none=>exact⟨lF,by simp[Node.zero]⟩
 |some n =>
  simp only;split
  ·exact⟨by rw[List.nodup_iff_pairwise_ne,jU]; exact(h.yo _ _ hi).1,(h.yo _ _ hi).2⟩
  ·exact⟨lF,by simp[Node.zero]⟩
def aqh(t:Tree)(ht:Rt t)(ar z m:Int):aq bW 153 [br t,aH ar,aH z,aH m] []=some (.tuple [jb (wK t ar z m).1,aH (wK t ar z m).2.1,aH (wK t ar z m).2.2],[]):=by
 obtain⟨dG,h⟩:=ht;refine aB ?_;have q1:=fun b c M=>Zb t.ae t.next t.ak ar h.lP.mB (by have:=h.ae; omega) 2 (b::c :: cv [ba t.ae,aH t.next,aH t.ak]::M) rfl
 obtain⟨hnd,h64⟩:=x6 h ar;have hknd:((qZ z (gW t.ae ar).1.bc).map gM.ak).Nodup:=(List.filter_sublist.map _).nodup hnd;have hkl:(qZ z (gW t.ae ar).1.bc).length<=64:=aZ (bT _ _) h64;unfold wK zQ;generalize gW t.ae ar=d at q1 hnd h64 hknd hkl ⊢;simp only[bL,aM] at q1;cases g1:decide (z<0)
 ·cases g2:decide (m<1)
  ·cases g3:decide (64<m)
   ·cases g4:d.2 != 0
    ·obtain⟨M,hM⟩:∃M:Nat,m=(M:Int):=⟨m.toNat,by simp at g2; omega⟩
     subst hM;have hM1:1<=M:=by simp at g2; omega
     have hM64:M<=64:=by simp at g3; omega
     generalize hE:d.1.bc=E at q1 hknd hkl h64 ⊢;have c0:∀b0 b2 b3,aU (aq bW) 204 [gU [],.func 206 [cu 1]] [b0,cv [aH z],b2,b3]=some (gU [],[b0,cv [aH z],b2,b3]):=fun b0 b2 b3=>amu z b0 b2 b3
     have z0:((0:Int)<=(M:Int))=True:=dv
     by_cases hE0:E=[]
     ·have p1:∀M,aq bW 205 [jb E] M=some (.slice .c0 [],M):=fun M=>by subst hE0; exact anu M
      have hk:uw (qZ z E)=[]:=by subst hE0; rfl
      rw[hk];simp only[yC,HR,br,aN,q1,g1,g2,g3,g4,p1,c0,adE,z0,aw,aM,fF,af,aE,aD,EW,seval];rfl
     ·have p1:=fun M=>p58 (l:=E) hE0 aI M
      by_cases hK0:qZ z E=[]
      ·have p2:=fun b0 b2 b3=>amv E z aI hE0 hK0 b0 b2 b3
       have hk:uw (qZ z E)=[]:=by rw[hK0]; rfl
       rw[hk];simp only[yC,HR,br,aN,q1,g1,g2,g3,g4,p1,p2,adE,z0,aw,aM,fF,af,aE,aD,EW,seval];rfl
      ·have p2:=fun b0 b2 b3=>asI E z aI hE0 hK0 b0 b2 b3
       have hsl:=wv (qZ z E);generalize qZ z E=kk at p2 hknd hkl hK0 hsl ⊢;generalize List.replicate (E.length-kk.length) Mr=Z at p2;have p3:=fun b0 b1 b2 b3=>asK (l:=kk) (Z:=Z) (v:=0) aI hknd b0 b1 b2 b3
       generalize uw kk=ss at p3 hsl ⊢;have tk:List.take kk.length ((ss++Z).map iG)=ss.map iG:=by rw[<-hsl]; simp[fQ]
       cases g5:decide ((kk.length:Int)<=(M:Int))
       ·have cL:M<kk.length:=by simp at g5; omega
        have g6:decide ((ss.length:Int)<=(M:Int))=false:=by rw[hsl]; exact g5
        have hw1:IntKind.i64.wrap ((M:Int)-1)=((M-1:Nat):Int):=by rw[gw aI aI]; omega
        have hx:=ai (show M-1<ss.length by omega)
        have hg:ss.getD (M-1) Mr=ss[M-1]:=by simp[List.getD,hx]
        have hat:(ss++Z)[M-1]?=some ss[M-1]:=by rw[aO aI]; exact hx
        have tm:List.take M ((ss++Z).map iG)=(ss.take M).map iG:=by
         rw[<-eP,fQ aI]
        have b1:((M:Int)<=(kk.length:Int))=True:=gm;have b2:((M:Int)==0)=false:=gm;have b3:((0:Int)==(M:Int))=false:=gm;have b4:(((M-1:Nat):Int)<(kk.length:Int))=True:=gm;simp only[yC,HR,br,aN,q1,g1,g2,g3,g4,g5,g6,p1,p2,p3,z0,hw1,hg,hat,tm,b1,b2,b3,b4,gz,dN,bK,fU,aM,fF,af,aE,aD,EW,seval];rw[<-eP]
       ·have g6:decide ((ss.length:Int)<=(M:Int))=true:=by rw[hsl]; exact g5
        simp only[yC,HR,br,aN,q1,g1,g2,g3,g4,g5,g6,p1,p2,p3,tk,bK,aM,fF,af,aE,aD,EW,seval]
    ·simp only[yC,HR,br,aN,q1,g1,g2,g3,g4,aM,fF,af,aE,aD,EW,seval];rfl
   ·simp only[yC,HR,br,aN,g1,g2,g3,aM,er,fF,af,aE,aD,EW,seval];rfl
  ·simp only[yC,HR,br,aN,g1,g2,aM,dJ,er,fF,af,aE,aD,EW,seval];rfl
 ·simp only[yC,HR,br,aN,g1,aM,dJ,fF,af,aE,aD,EW,seval];rfl
def asr(t:Tree)(ht:Rt t)(ar z m:Int)(M:aC):aU (aq gJ) 153 [.agg [ba t.ae,aH t.next,aH t.ak],aH ar,aH z,aH m] M=some (.tuple [jb (wK t ar z m).1,aH (wK t ar z m).2.1,aH (wK t ar z m).2.2],M) :=
 lS (cO (aqh t ht ar z m) M)
def PF{t:Tree}(ht:Rt t)(ar z m:Int):(wK t ar z m).1.length<=100000:=by
 obtain⟨dG,h⟩:=ht;have h64:=(x6 h ar).2;have hf:(zQ t.ae ar z).length<=64:=by unfold zQ; rw[wv]; exact aZ (bT _ _) h64
 unfold wK;split
 ·simp
 ·split
  ·simp
  ·split
   ·simp only; omega
   ·simp; omega
def F8(f:aa)(o:jF):Wk :=
 let v:=kB f.s.now o.dI
 let l:=wK f.s.now (bl f.s.now.ae v.1).ar o.n o.m
 if v.2 != 0 then (f,gx,v.2) else
 if l.2.2 != 0 then (f,gx,l.2.2) else
 (f,⟨0,0,0,l.2.1,0,l.1.map gM.name,[]⟩,0)
def c98(f:aa)(o:jF)(hf:vk f)(ho:sN o):pt 98 f o (F8 f o):=by
 unfold pt;have q1:=fun {M}=>LC f o o.dI hf.rt.small hf.rt.lP (by have:=ho.dI; omega) (p:=0) (M:=M)
 unfold F8;simp only[];generalize kB f.s.now o.dI=v at q1 ⊢;generalize bl f.s.now.ae v.1=n at q1 ⊢;have q2:=asr f.s.now hf.rt n.ar o.n o.m;have hl:=PF hf.rt n.ar o.n o.m;generalize wK f.s.now n.ar o.n o.m=l at q2 hl ⊢;have q3:=afw l.1 hl;simp only[df,cd,aM] at q1;cases h0:v.2 != 0
 ·cases h1:l.2.2 != 0
  ·refine⟨da (l.1.map gM.name),.slice .c0 [],.inl rfl,.inr ⟨rfl,rfl⟩,aB ?_⟩;simp only[YX,E98,df,cd,dB,aM,q1,q2,q3,o8,h0,h1,az,af,aE,aD,EW,seval]
  ·refine⟨.slice .c0 [],.slice .c0 [],.inr ⟨rfl,rfl⟩,.inr ⟨rfl,rfl⟩,aB ?_⟩;simp only[YX,E98,df,cd,dB,gx,aM,q1,q2,q3,o8,h0,h1,gh,az,af,aE,aD,EW,seval]
 ·refine⟨.slice .c0 [],.slice .c0 [],.inr ⟨rfl,rfl⟩,.inr ⟨rfl,rfl⟩,aB ?_⟩;simp only[YX,E98,df,cd,dB,gx,aM,q1,h0,gh,az,af,aE,aD,EW,seval]
end
section
attribute [local irreducible] eX fM lC gK dX kr aq aU cr bJ
def aqs(e:gM)(s:Bytes):aq bW 167 [iG e,cu 0] [cv [.str s]]=some (.bool (e.name==s),[cv [.str s]]):=by
 refine aB ?_;simp only[acx,aoy,iG,fU,EW,seval]
def akH(xs:List gM)(s:Bytes)(hn:xs.length<=100000):aq bW 166 [gU (xs.map iG),.func 167 [cu 0]] [cv [.str s]]=some (aH (qD (fun e:gM=>e.name==s) xs 0),[cv [.str s]]) :=
 DL (sz:=3) (e:=fU) fy rfl hn (fun _=>rfl) (fun _=>rfl) rfl rfl fun x _ => .inl ⟨_,_,rfl,uK (p:=0) (vs:=[.agg (fU x)]) rfl (aqs x s) rfl rfl rfl rfl rfl rfl rfl rfl rfl⟩
def N8:List ag:=[.int .i64 0,.int .i64 0,.int .i64 0,.slice .c0 [],.slice .c0 [],.int .i64 0]
def wN(o:Option Node):List ag:=match o with
 |some n=>aM n
 |none=>N8
def adG(o:Option Node):po (.agg [aH 0,aH 0,aH 0,.slice .c0 [],.slice .c0 [],aH 0]) false (o.map bL) = .agg (wN o):=by cases o<;>rfl
def jm(all:AM Node):List Bytes->Option Node->Option Node×Int
 | [],o=>(o,0)
 |s::r,o=>if !((o.getD Node.zero).kind==2) then (o,73) else match (o.getD Node.zero).bc.find? (fun e=>e.name==s) with
  |none=>(o,70)
  |some e=>jm all r (eY all e.ar)
def fT(l:List Node)(m:AM Node):AM Node:=l.foldl (fun m n=>kL m n.ar n) m
def VA{W:aa×jF}{at':Int}{p:List Bytes}{xs:List Node}(hn:xs.length<=200000){fin:AM Node}{k:List K}{r:Option (ag×aC)}
  (hx:∀e,kr (aq gJ) [] 1 k ⟨.exit 0,(0,cu 0)::(2,aH at')::(5,da p)::(6,.iy 1)::e,[df W.1 W.2,.map (B1 fin) (ph bL fin)]⟩=r) :
  ∀(l pre:List Node)(m:AM Node),xs=pre++l->fT l m=fin->eX (aq gJ) [] 1 k (.loop [0,2,5,6,42,43,44] Zm) [(0,cu 0),(2,aH at'),(5,da p),(6,.iy 1),(42,ba xs),(43,aH xs.length),(44,aH pre.length)] [df W.1 W.2,.map (B1 m) (ph bL m)]=r:=by
 obtain⟨f,o⟩:=W;simp only[df,cd] at hx ⊢;intro l;induction l with
 |nil =>
  intro pre m h hfin;rw[bG];simp only[fT,nh] at hfin;subst hfin;simp only[zA,jM h,EW,seval];exact hx _
 |cons n rest ih =>
  intro pre m h hfin;rw[bG];have dD:pre.length+1<=200000:=by rw[h] at hn; simp at hn; omega
  have hw:=zy pre n;have hi1:=ih (pre++[n]) (kL m n.ar n) (by rw[h]; simp) hfin
  have hput:=sF bL m n.ar n;simp only[bL,aM,aA,au,aw,aJ] at hi1 hput;simp only[zA,iM h,gQ h,aM,hw,hput,mapOf.eq_1,Yv,EW,seval];exact hi1
def VB{W:aa×jF}{all:AM Node}(hall:∀k n,eY all k=some n->n.bc.length<=100000){xs:List Bytes}(hn:xs.length<=100000){fin:Option Node×Int}{k:List K}{r:Option (ag×aC)}
  (hx:fin.2=0->∀e,kr (aq gJ) [] 1 k ⟨.exit 2,(0,.ptr 0 0)::(6,.iy 1)::(9,.ptr 2 0)::e,[df W.1 W.2,.map (B1 all) (ph bL all),.cells (wN fin.1)]⟩=r)
  (hp:(fin.2 != 0)=true->∀c d,kr (aq gJ) [] 1 k ⟨.nK (.iface 43 (.int .i64 fin.2)),[],[df W.1 W.2,.map (B1 all) (ph bL all),.cells c,d]⟩=r) :
  ∀(l pre:List Bytes)(o:Option Node),xs=pre++l->(∀n,o=some n->n.bc.length<=100000)->jm all l o=fin->eX (aq gJ) [] 1 k (.loop [0,6,9,56,57,58] Zn) [(0,.ptr 0 0),(6,.iy 1),(9,.ptr 2 0),(56,da xs),(57,.int .i64 xs.length),(58,.int .i64 pre.length)] [df W.1 W.2,.map (B1 all) (ph bL all),.cells (wN o)]=r:=by
 obtain⟨f,op⟩:=W;simp only[df,cd] at hx hp ⊢;intro l;induction l with
 |nil =>
  intro pre o h ho hfin;rw[bG];rw[jm] at hfin;subst hfin;cases o<;>simp only[wN,N8,aM,zA,jM h,Yv,EW,seval] at hx ⊢ <;> exact hx trivial _
 |cons s rest ih =>
  intro pre o h ho hfin;rw[bG];have dD:pre.length+1<=100000:=by rw[h] at hn; simp at hn; omega
  have hw:=zy pre s;have q2:=fun bb=>QF bb 73 rfl
  have q3:=fun bb=>QF bb 70 rfl
  cases o with
  |none =>
   have hf:jm all (s::rest) none=(none,73):=rfl;rw[hf] at hfin;subst hfin;have h02:((0:Int)==2)=false:=rfl;simp only[wN,N8,zA,iM h,gQ h,h02,q2,gh,af,aD,EW,seval];exact hp rfl _ _
  |some n =>
   rw[jm] at hfin;simp only[bm] at hfin;cases hk:n.kind==2
   ·rw[hk] at hfin;simp only[ew,aE] at hfin;subst hfin;simp only[wN,aM,zA,iM h,gQ h,hk,q2,gh,af,aD,EW,seval];exact hp rfl _ _
   ·rw[hk] at hfin;simp only[cU,af,aD] at hfin;have hne:=ho n rfl;have q4:∀M,nth M 3=some (.cells [.str s])->aU (aq gJ) 166 [jb n.bc,.func 167 [.ptr 3 0]] M=some (.int .i64 (qD (fun e:gM=>e.name==s) n.bc 0),M):=fun M hM=>lS (zG hM (akH n.bc s hne) rfl rfl rfl)
    rcases x9 (fun e:gM=>e.name==s) n.bc 0 with ⟨i1,i2⟩|⟨j,e,i1,i2,i3,_⟩
    ·rw[i2] at hfin;simp only at hfin;subst hfin;rw[i1] at q4;have hneg:(0<=(-1:Int))=False:=dv;simp only[wN,aM,zA,iM h,gQ h,hk,q2,q3,q4,hneg,gh,af,aE,aD,EW,seval];exact hp rfl _ _
    ·rw[i3] at hfin;simp only at hfin;rw[i1,aJ] at q4;have hi:=ih (pre++[s]) (eY all e.ar) (by rw[h]; simp) (fun m hm=>hall _ _ hm) hfin
     have hlg:=adG (eY all e.ar);simp only[aA,au,aw,aJ] at hi;have hisC:(wN (eY all e.ar)).all ag.jf=true:=by cases eY all e.ar<;>rfl
     have hlC:(wN (eY all e.ar)).length=6:=by cases eY all e.ar<;>rfl
     have hbC:∀B M,List.map (ag.jX B M) (wN (eY all e.ar))=wN (eY all e.ar):=fun B M=>by cases eY all e.ar<;>rfl
     generalize wN (eY all e.ar)=gc at hi hlg hisC hlC hbC;simp only[wN,aM,fU,zA,iM h,gQ h,hk,q2,q3,q4,i2,pa,hlg,hisC,hlC,hbC,hw,mapOf.eq_1,Yv,af,aE,aD,EW,seval];exact hi
def GC{all:AM Node}{P:Node->Prop}(hall:∀k n,eY all k=some n->P n):∀(f:Nat)(ar:Int)(st:VS),(∀n,n∈st.2->P n)->∀n,n∈(j7 all f ar st).2.2->P n:=by
 intro f;induction f with
 |zero=>intro ar st h; exact h
 |succ f ih =>
  intro ar st h;rw[j7];split
  ·exact h
  ·split
   ·exact h
   ·rename_i h1;cases hn:eY all ar with
    |none=>simp[hn] at h1
    |some n =>
     simp only[bm]
     have hfold:∀(l:List gM)(w:Bool×VS),(∀n,n∈w.2.2->P n)->∀n,n∈(l.foldl (fun w e=>((j7 all f e.ar w.2).1&&w.1,(j7 all f e.ar w.2).2)) w).2.2->P n:=by
      intro l;induction l with
      |nil=>intro w hw; exact hw
      |cons e r ihr =>
       intro w hw;rw[cF];exact ihr _ (ih e.ar w.2 hw)
     refine hfold _ _ ?_;intro m hm;simp only[bo,bQ] at hm;rcases hm with hm|rfl
     ·exact h m hm
     ·exact hall _ _ hn
def Jz(x y:Node):∀l:List Node,y∈Hg x l->y=x\/y∈l
 | [],h=>by simp[Hg] at h; exact .inl h
 |z::r,h=>by
  simp only[Hg] at h;split at h
  ·simpa using h
  ·rcases bI.1 h with h|h
   ·exact .inr (by simp[h])
   ·rcases Jz x y r h with h|h
    ·exact .inl h
    ·exact .inr (by simp[h])
def Bm(y:Node):∀l:List Node,y∈Cq l->y∈l
 | [],h=>h
 |x::r,h=>by
  rcases Jz x y _ h with h|h
  ·simp[h]
  ·exact bw _ (Bm y r h)
def zj:∀(l:List Node)(m:AM Node)(k:Int)(n:Node),eY (fT l m) k=some n->n∈l\/eY m k=some n
 | [],m,k,n,h => .inr h
 |x::r,m,k,n,h=>by
  have h':eY (fT r (kL m x.ar x)) k=some n:=h;rcases zj r _ k n h' with h|h
  ·exact .inl (by simp[h])
  ·rw[jA] at h;split at h
   ·injection h with h; exact .inl (by simp[h])
   ·exact .inr h
def vk.all{f:aa}(hf:vk f)(a:Int):yu (yP f.s a)/\(yP f.s a).length<=100200:=by
 obtain⟨g1,g2⟩:=xD a f.s.eN [] ⟨fun k n h=>(by cases h),fun k n h=>(by cases h)⟩ (fun p hp=>by have:=(hf.Es p hp).1; omega)
 obtain⟨g3,g4⟩:=Bq a f.s.now.ae f.s.since (f.s.eN.foldl (mV a) []) g1 (fun n hn=>by have:=hf.rt.sz.bc n hn; omega)
 refine⟨g3,?_⟩;have:=hf.rt.sz.ae; have h3:=hf.eN;simp at g2; unfold yP; omega
def aeq{f:aa}(hf:vk f)(id:Int):(vo f.s id).2.1.length<=200000/\∀n,n∈(vo f.s id).2.1->n.bc.length<=100000:=by
 unfold vo;split
 ·rename_i x _;obtain⟨h1,h2⟩:=hf.all x.at';have hg:=xO (all:=yP f.s x.at') h1.own 200001 x.ar ([],[]);refine⟨?_,fun n hn=>?_⟩
  ·have:=hg.len; have h3:=wj (yP f.s x.at') [];simp only[aw] at this;simp only[DS,BD,xN]; omega
  ·have:=Bm n _ hn;exact GC (P:=fun n=>n.bc.length<=100000) h1.bc 200001 x.ar ([],[]) (fun n h=>by cases h) n this
 ·exact⟨dv,fun n h=>by cases h⟩
def Gk(f:aa)(o:jF):Wk :=
 let a:=vo f.s o.n
 let p:=gD o.dI
 let r:=jm (fT a.2.1 []) p.1 (eY (fT a.2.1 []) a.1)
 if a.2.2 != 0 then (f,gx,a.2.2) else
 if p.2 != 0 then (f,gx,p.2) else
 if r.2 != 0 then (f,gx,r.2) else
 (f,⟨0,(r.1.getD Node.zero).ar,(r.1.getD Node.zero).kind,(r.1.getD Node.zero).eo,Cp (r.1.getD Node.zero),(r.1.getD Node.zero).bc.map gM.name,(r.1.getD Node.zero).data⟩,0)
def Ck{all:AM Node}(hall:∀k n,eY all k=some n->n.bc.length<=100000):∀(p:List Bytes)(o:Option Node),(∀n,o=some n->n.bc.length<=100000)->∀n,(jm all p o).1=some n->n.bc.length<=100000
 | [],o,ho,n,h=>ho n h
 |s::r,o,ho,n,h=>by
  rw[jm] at h;split at h
  ·exact ho n h
  ·split at h
   ·exact ho n h
   ·exact Ck hall r _ (fun m hm=>hall _ _ hm) n h
def apF(f:aa)(o:jF)(hf:vk f)(ho:sN o):pt 107 f o (Gk f o):=by
 unfold pt;have q1:=fun M=>lS (asw f.s o.n (by have:=hf.dR; omega) (by have:=hf.eN; omega) (fun p hp=>by have:=(hf.Es p hp).1; omega) hf.rt.sz hf.len M)
 have ha:=aeq hf o.n;have q2:=afz o.dI (by have:=ho.dI; omega)
 have hp:=(yk o.dI).2;unfold Gk;simp only[];generalize vo f.s o.n=a at q1 ha ⊢;generalize gD o.dI=p at q2 hp ⊢
 have hall:∀k n,eY (fT a.2.1 []) k=some n->n.bc.length<=100000:=fun k n h=>by
  rcases zj _ _ _ _ h with h|h
  ·exact ha.2 n h
  ·cases h
 have hpe:=Ck hall p.1 (eY (fT a.2.1 []) a.1) (fun n h=>hall _ _ h)
 simp only[bM] at q1;have k155z:∀M,aU (aq gJ) 155 [.agg [aH 0,aH 0,aH 0,gU [],gU [],aH 0]] M=some (aH (Cp Node.zero),M):=fun M=>afx Node.zero M
 have k154z:∀M,aU (aq gJ) 154 [gU []] M=some (gU [],M):=fun M=>afw [] dv M
 cases h0:a.2.2 != 0
 ·cases h1:p.2 != 0
  ·have hlg:=adG (eY (fT a.2.1 []) a.1);have hisC:(wN (eY (fT a.2.1 []) a.1)).all ag.jf=true:=by cases eY (fT a.2.1 []) a.1<;>rfl
   have hlC:(wN (eY (fT a.2.1 []) a.1)).length=6:=by cases eY (fT a.2.1 []) a.1<;>rfl
   have main:∀x y,(Row x (((jm (fT a.2.1 []) p.1 (eY (fT a.2.1 []) a.1)).1.getD Node.zero).bc.map gM.name |>.map ag.str)/\x=da (((jm (fT a.2.1 []) p.1 (eY (fT a.2.1 []) a.1)).1.getD Node.zero).bc.map gM.name)) ->
     (y=match (jm (fT a.2.1 []) p.1 (eY (fT a.2.1 []) a.1)).1 with|some n=>cV n.data|none => .slice .c0 []) ->
     aq gJ 107 [cu 0] [cv (cd f o)]=some (if (jm (fT a.2.1 []) p.1 (eY (fT a.2.1 []) a.1)).2 != 0 then gh (jm (fT a.2.1 []) p.1 (eY (fT a.2.1 []) a.1)).2 else .tuple [],
      [if (jm (fT a.2.1 []) p.1 (eY (fT a.2.1 []) a.1)).2 != 0 then dB f o gx (.slice .c0 []) (.slice .c0 []) else
       dB f o ⟨0,((jm (fT a.2.1 []) p.1 (eY (fT a.2.1 []) a.1)).1.getD Node.zero).ar,((jm (fT a.2.1 []) p.1 (eY (fT a.2.1 []) a.1)).1.getD Node.zero).kind,((jm (fT a.2.1 []) p.1 (eY (fT a.2.1 []) a.1)).1.getD Node.zero).eo,Cp ((jm (fT a.2.1 []) p.1 (eY (fT a.2.1 []) a.1)).1.getD Node.zero),[],[]⟩ x y]):=by
    rintro x y ⟨_,hx⟩ hy;subst hx hy;refine aB ?_
    have hb:=VB (W:=(f,o)) hall (xs:=p.1) aI (fin:=jm (fT a.2.1 []) p.1 (eY (fT a.2.1 []) a.1)) (k:=[.block 2,.seq aa6]) (r:=some (if (jm (fT a.2.1 []) p.1 (eY (fT a.2.1 []) a.1)).2 != 0 then gh (jm (fT a.2.1 []) p.1 (eY (fT a.2.1 []) a.1)).2 else .tuple [],
      [if (jm (fT a.2.1 []) p.1 (eY (fT a.2.1 []) a.1)).2 != 0 then dB f o gx (.slice .c0 []) (.slice .c0 []) else
       dB f o ⟨0,((jm (fT a.2.1 []) p.1 (eY (fT a.2.1 []) a.1)).1.getD Node.zero).ar,((jm (fT a.2.1 []) p.1 (eY (fT a.2.1 []) a.1)).1.getD Node.zero).kind,((jm (fT a.2.1 []) p.1 (eY (fT a.2.1 []) a.1)).1.getD Node.zero).eo,Cp ((jm (fT a.2.1 []) p.1 (eY (fT a.2.1 []) a.1)).1.getD Node.zero),[],[]⟩ (da (((jm (fT a.2.1 []) p.1 (eY (fT a.2.1 []) a.1)).1.getD Node.zero).bc.map gM.name)) (match (jm (fT a.2.1 []) p.1 (eY (fT a.2.1 []) a.1)).1 with|some n=>cV n.data|none => .slice .c0 [])]))
     (fun hz e=>by
      generalize jm (fT a.2.1 []) p.1 (eY (fT a.2.1 []) a.1)=r at hz hpe ⊢;obtain⟨o',e'⟩:=r;simp only at hz;subst hz;cases o' with
      |none =>
       simp only[df,cd,dB,wN,N8,k154z,k155z,zA,iI,az,af,aD,EW,seval];rfl
      |some n =>
       have q5:=afw n.bc (hpe n rfl);have q6:=afx n;simp only[aM] at q6;simp only[df,cd,dB,wN,aM,q5,q6,zA,bm,az,af,aD,EW,seval])
     (fun hz c d=>by
      rw[aX hz,aX hz];simp only[df,cd,dB,gx,zA,gh,EW,seval]) p.1 [] (eY (fT a.2.1 []) a.1) rfl (fun n h=>hall _ _ h) rfl
    generalize jm (fT a.2.1 []) p.1 (eY (fT a.2.1 []) a.1)=r at hb ⊢
    have hl:=VA (W:=(f,o)) (at':=a.1) (p:=p.1) (xs:=a.2.1) ha.1 (fin:=fT a.2.1 []) (k:=[.block 0,.seq aa7]) (r:=some (if r.2 != 0 then gh r.2 else .tuple [],[if r.2 != 0 then dB f o gx (.slice .c0 []) (.slice .c0 []) else
       dB f o ⟨0,(r.1.getD Node.zero).ar,(r.1.getD Node.zero).kind,(r.1.getD Node.zero).eo,Cp (r.1.getD Node.zero),[],[]⟩ (da ((r.1.getD Node.zero).bc.map gM.name)) (match r.1 with|some n=>cV n.data|none => .slice .c0 [])]))
     (fun e=>by
      generalize fT a.2.1 []=al at hlg hisC hlC hb ⊢;generalize wN (eY al a.1)=gc at hlg hisC hlC hb;simp only[df,cd,aw] at hb;simp only[df,cd,zA,pa,mapOf.eq_1,hlg,hisC,hlC,EW,seval];exact hb) a.2.1 [] [] rfl rfl
    simp only[df,cd,aw,G6,G8] at hl;simp only[MR,zA,df,cd,q1,q2,o8,h0,h1,af,aD,EW,seval];exact hl
   generalize jm (fT a.2.1 []) p.1 (eY (fT a.2.1 []) a.1)=r at main ⊢;cases h2:r.2 != 0
   ·refine⟨da ((r.1.getD Node.zero).bc.map gM.name),(match r.1 with|some n=>cV n.data|none => .slice .c0 []),.inl rfl,?_,?_⟩
    ·obtain⟨o',e'⟩:=r;cases o'
     ·exact .inr ⟨rfl,rfl⟩
     ·exact .inl rfl
    ·have:=main _ _ ⟨.inl rfl,rfl⟩ rfl;rw[h2] at this;simpa only[af,aD,az,dB] using this
   ·refine⟨.slice .c0 [],.slice .c0 [],.inr ⟨rfl,rfl⟩,.inr ⟨rfl,rfl⟩,?_⟩;have:=main _ _ ⟨.inl rfl,rfl⟩ rfl;rw[h2] at this;simpa only[af,aE,aD,h2] using this
  ·refine⟨.slice .c0 [],.slice .c0 [],.inr ⟨rfl,rfl⟩,.inr ⟨rfl,rfl⟩,aB ?_⟩;simp only[MR,zA,df,cd,dB,gx,q1,q2,o8,h0,h1,gh,af,aE,aD,EW,seval]
 ·refine⟨.slice .c0 [],.slice .c0 [],.inr ⟨rfl,rfl⟩,.inr ⟨rfl,rfl⟩,aB ?_⟩;simp only[MR,zA,df,cd,dB,gx,q1,o8,h0,gh,af,aE,aD,EW,seval]
end
end
section
open Go Go.RowKit Go.Extern.Stop Go.Stop Go.Extern
def LX (h:Value) (w:World):(Go.method 507 215 (.agg #[h]) "Kind").run Tryz.prog w = .ok (352,h) w:=fy
def LW (h:Value) (w:World):(Go.method 507 215 (.agg #[h]) "Elem").run Tryz.prog w = .ok (362,.agg #[h]) w:=fy
def Bn (h:Value) (w:World):(Go.method 507 215 (.agg #[h]) "Implements").run Tryz.prog w = .ok (363,.agg #[h]) w:=fy
def zi (h:Value) (w:World):(Go.method 507 215 (.agg #[h]) "AssignableTo").run Tryz.prog w = .ok (360,.agg #[h]) w:=fy
def rlm(z:Sem Value)(f:TypeId->Addr->Nat->Nat->Sem Value)(v:Value) :
  ReflectliteValue.method z f #[v]=(do match <-ReflectliteValue.parts v with|none=>z|some (t,a,fl)=>f t a fl (fl % 32)):=rfl
theorem rls:∃s1 s2 s3 s4 s5:String,∀v x:Value,ReflectliteValue.set #[v,x]=(do
  let (some (dst,a,fl),some (src,b,_)):=(<-ReflectliteValue.parts v,<-ReflectliteValue.parts x)
   |unsupported (.noEntry s1)
  if fl / ReflectliteValue.flagAddr % 2==0 then unsupported (.noEntry s2)
  let val <-loadVar src b
  if <-Rtype.directlyAssignable dst src then storeVar dst a val
  else if <-Rtype.implements dst src then
   if (<-Rtype.kind src)==20 then
    match val with
    | .nilIface=>unsupported (.noEntry s3)
    |_=>storeVar dst a val
   else storeVar dst a (.iface src val)
  else panicString (s4 ++ (<-Rtype.spelt src) ++ s5 ++ (<-Rtype.spelt dst))
  pure (.tuple #[])):=⟨_,_,_,_,_,fun v x=>rfl⟩
def Lm(t:Addr)(w:World):(ReflectliteValue.unpack (.iface 102 (.pointer (some t)))).run Tryz.prog w
  = .ok (.agg #[.pointer (some ⟨2,102,none⟩),.pointer (some ⟨w.heap.size,0,none⟩),.int .u64 150]) (w.alloc (.cells #[.pointer (some t)] 102)):=fy
def YN (a:Addr) (w:World):(ReflectliteValue.methodAny (ReflectliteValue.valueError "reflectlite.Value.Type" 0) (fun t _ _ _=>ReflectliteType.toType t) #[.agg #[.pointer (some ⟨2,102,none⟩),.pointer (some a),.int .u64 150]]).run Tryz.prog w
  = .ok (.iface 215 (.agg #[.pointer (some ⟨2,102,none⟩)])) w:=fy
def YL(w:World):((ReflectliteType.abiMethod fun t=>Functor.map (fun a:Nat=>Value.int IntKind.u8 (a:Int)) (Rtype.kind t)) #[.pointer (some ⟨2,102,none⟩)]).run Tryz.prog w = .ok (.int .u8 22) w:=fy
def YM(w:World):((ReflectliteType.abiMethod fun t=>Functor.map (fun a:Nat=>Value.int IntKind.u8 (a:Int)) (Rtype.kind t)) #[.pointer (some ⟨2,43,none⟩)]).run Tryz.prog w = .ok (.int .u8 2) w:=fy
def IG(a:Addr)(w:World):(ReflectliteValue.parts (.agg #[.pointer (some ⟨2,102,none⟩),.pointer (some a),.int .u64 150])).run Tryz.prog w = .ok (some (102,a,150)) w:=fy
def RM(a p:Addr)(W:World)(ha:W.cell? a=some (.pointer (some p))) :
  (ReflectliteValue.method (ReflectliteValue.valueError "reflectlite.Value.IsNil" 0) ReflectliteValue.isNil #[.agg #[.pointer (some ⟨2,102,none⟩),.pointer (some a),.int .u64 150]]).run Tryz.prog W = .ok (.bool false) W:=by
 rw[rlm];simp only[Sem.run_bind,IG,Result.andThen];simp[ReflectliteValue.isNil,loadVar,isAgg,underlying,underlying102,ha,Result.andThen]
def YK(w:World):(ReflectliteType.method ReflectliteType.elem #[.agg #[.pointer (some ⟨2,102,none⟩)]]).run Tryz.prog w = .ok (.iface 215 (.agg #[.pointer (some ⟨2,43,none⟩)])) w:=fy
def E5 (w:World):(ReflectliteType.relation "Implements" ReflectliteType.implements_ #[.agg #[.pointer (some ⟨2,43,none⟩)],.iface 215 (.agg #[.pointer (some ⟨2,99,none⟩)])]).run Tryz.prog w = .ok (.bool true) w:=fy
def O7(v:Value)(w:World):(ReflectliteType.typeOf #[.iface 43 v]).run Tryz.prog w = .ok (.iface 215 (.agg #[.pointer (some ⟨2,43,none⟩)])) w:=fy
def E4 (w:World):(ReflectliteType.relation "AssignableTo" ReflectliteType.assignableTo #[.agg #[.pointer (some ⟨2,43,none⟩)],.iface 215 (.agg #[.pointer (some ⟨2,43,none⟩)])]).run Tryz.prog w = .ok (.bool true) w:=fy
def Ln(e:Int)(w:World):(ReflectliteValue.unpack (.iface 43 (.int .i64 e))).run Tryz.prog w
  = .ok (.agg #[.pointer (some ⟨2,43,none⟩),.pointer (some ⟨w.heap.size,0,none⟩),.int .u64 130]) (w.alloc (.cells #[.int .i64 e] 43)):=fy
def O5(w:World):(Rtype.elem? 102).run Tryz.prog w = .ok (some 43) w:=fy
def ak4(p:Addr)(w:World):(ReflectliteValue.mk 43 p ReflectliteValue.flagAddr).run Tryz.prog w = .ok (.agg #[.pointer (some ⟨2,43,none⟩),.pointer (some p),.int .u64 386]) w:=fy
def RJ(a p:Addr)(W:World)(ha:W.cell? a=some (.pointer (some p))) :
  (ReflectliteValue.method (ReflectliteValue.valueError "reflectlite.Value.Elem" 0) ReflectliteValue.elem #[.agg #[.pointer (some ⟨2,102,none⟩),.pointer (some a),.int .u64 150]]).run Tryz.prog W
   = .ok (.agg #[.pointer (some ⟨2,43,none⟩),.pointer (some p),.int .u64 386]) W:=by
 rw[rlm];simp only[Sem.run_bind,IG,Result.andThen];simp[ReflectliteValue.elem,loadVar,isAgg,underlying,underlying102,ha,Result.andThen,O5,ak4]
def O6(a:Addr)(w:World):(ReflectliteValue.parts (.agg #[.pointer (some ⟨2,43,none⟩),.pointer (some a),.int .u64 386])).run Tryz.prog w = .ok (some (43,a,386)) w:=fy
def RN(a:Addr)(w:World):(ReflectliteValue.parts (.agg #[.pointer (some ⟨2,43,none⟩),.pointer (some a),.int .u64 130])).run Tryz.prog w = .ok (some (43,a,130)) w:=fy
def O4(w:World):(Rtype.directlyAssignable 43 43).run Tryz.prog w = .ok true w:=fy
def ae9(ta b:Addr)(e:Int)(um:Value)(W:World)(hb:W.cell? b=some (.int .i64 e))(ht:W.cell? ta=some um)(hf:W.frozen? ta=false) :
  (ReflectliteValue.set #[.agg #[.pointer (some ⟨2,43,none⟩),.pointer (some ta),.int .u64 386],.agg #[.pointer (some ⟨2,43,none⟩),.pointer (some b),.int .u64 130]]).run Tryz.prog W
   = .ok (.tuple #[]) (W.setCell ta (.int .i64 e)):=by
 have hz:=sizeOf43;have hadd:∀a:Addr,a.add 0=a:=fun a=>by simp[Addr.add]
 obtain⟨s1,s2,s3,s4,s5,rls⟩:=rls;rw[rls];simp only[Sem.run_bind,O6,RN,Result.andThen];simp[ReflectliteValue.flagAddr,loadVar,isAgg,underlying,underlying43,hb,Result.andThen,O4,storeVar,Value.cells,storeCells,loadCells,loadCellsFrom,hz,hadd];rw[run_store Tryz.prog W ta _ _ (by rfl)]
 simp[ht,hf]
set_option maxHeartbeats 4000000 in
set_option maxRecDepth 40000 in
def ak3(e:Int)(t:Addr)(um:Value)(w:World)(hg:w.cell? ⟨0,0,none⟩=some (.iface 215 (.agg #[.pointer (some ⟨2,99,none⟩)])))(ht0:w.cell? t=some um)(hf0:w.frozen? t=false) :
  Calls Tryz.prog 51 #[.iface 43 (.int .i64 e),.iface 102 (.pointer (some t))] w fun ev w'=>ev = .returned (.bool true)/\w'=((((w.alloc (.cells #[.pointer (some t)] 102)).alloc (.cells #[.pointer (some ⟨2,102,none⟩),.pointer (some ⟨w.heap.size,0,none⟩),.int .u64 150] 173)).alloc (.cells #[.pointer (some ⟨2,102,none⟩),.pointer (some ⟨w.heap.size,0,none⟩),.int .u64 150] 173)).alloc (.cells #[.int .i64 e] 43)).setCell t (.int .i64 e):=by
 have h6:=@run_callFunc_extern Tryz.prog 89 _ (fun args=>ReflectliteValue.unpack (args.getD 0 (.tuple #[]))) func89 fy fy fy fy
 have h7:=@run_callFunc_extern Tryz.prog 90 _ (ReflectliteValue.methodAny (ReflectliteValue.valueError "reflectlite.Value.Type" 0) (fun t _ _ _=>ReflectliteType.toType t)) func90 fy fy fy fy
 have h8:=@run_callFunc_extern Tryz.prog 91 _ (ReflectliteValue.method (ReflectliteValue.valueError "reflectlite.Value.IsNil" 0) ReflectliteValue.isNil) func91 fy fy fy fy;have h27:=@run_callFunc_extern Tryz.prog 352 _ (ReflectliteType.abiMethod fun t=>do pure (.int .u8 (<-Rtype.kind t))) func352 fy fy fy fy
 have h37:=@run_callFunc_extern Tryz.prog 362 _ (ReflectliteType.method ReflectliteType.elem) func362 fy fy fy fy;have h38:=@run_callFunc_extern Tryz.prog 363 _ (ReflectliteType.relation "Implements" ReflectliteType.implements_) func363 fy fy fy fy;have h10:=@run_callFunc_extern Tryz.prog 142 _ ReflectliteType.typeOf func142 fy fy fy fy;have h35:=@run_callFunc_extern Tryz.prog 360 _ (ReflectliteType.relation "AssignableTo" ReflectliteType.assignableTo) func360 fy fy fy fy;have h11:=@run_callFunc_extern Tryz.prog 143 _ (ReflectliteValue.method (ReflectliteValue.valueError "reflectlite.Value.Elem" 0) ReflectliteValue.elem) func143 fy fy fy fy;have h12:=@run_callFunc_extern Tryz.prog 144 _ ReflectliteValue.set func144 fy fy fy fy;have tO:=O7;have mA:=zi;have a25:=E4;have v25:=Ln;have f6:=Lm;have f7:=YN;have mK:=LX;have mE:=LW;have mI:=Bn;have k27:=YL;have k25:=YM;have e27:=YK;have i25:=E5;have n8:=RM ⟨w.heap.size,0,none⟩ t ((w.alloc (.cells #[.pointer (some t)] 102)).alloc (.cells #[.pointer (some ⟨2,102,none⟩),.pointer (some ⟨w.heap.size,0,none⟩),.int .u64 150] 173)) dv
 have cL:0<w.heap.size:=by
  rcases gY w.heap.size with h0|h
  ·simp[World.cell?,h0] at hg
  ·exact h
 have hg2:((w.alloc (.cells #[.pointer (some t)] 102)).alloc (.cells #[.pointer (some ⟨2,102,none⟩),.pointer (some ⟨w.heap.size,0,none⟩),.int .u64 150] 173)).cell? ⟨0,0,none⟩=some (.iface 215 (.agg #[.pointer (some ⟨2,99,none⟩)])):=by
  rw[World.cell?_alloc_lt _ _ ⟨0,0,none⟩ dv,World.cell?_alloc_lt _ _ ⟨0,0,none⟩ cL]; exact hg
 have htl:t.block<w.heap.size:=by
  rcases bD t.block w.heap.size with h|h
  ·exact h
  ·simp[World.cell?,iq h] at ht0
 have el:=RJ ⟨w.heap.size,0,none⟩ t (((w.alloc (.cells #[.pointer (some t)] 102)).alloc (.cells #[.pointer (some ⟨2,102,none⟩),.pointer (some ⟨w.heap.size,0,none⟩),.int .u64 150] 173)).alloc (.cells #[.pointer (some ⟨2,102,none⟩),.pointer (some ⟨w.heap.size,0,none⟩),.int .u64 150] 173)) (by rw[World.cell?_alloc_lt _ _ ⟨w.heap.size,0,none⟩ gm]; simp)
 have st:=ae9 t ⟨w.heap.size+1+1+1,0,none⟩ e um ((((w.alloc (.cells #[.pointer (some t)] 102)).alloc (.cells #[.pointer (some ⟨2,102,none⟩),.pointer (some ⟨w.heap.size,0,none⟩),.int .u64 150] 173)).alloc (.cells #[.pointer (some ⟨2,102,none⟩),.pointer (some ⟨w.heap.size,0,none⟩),.int .u64 150] 173)).alloc (.cells #[.int .i64 e] 43))
  (by rw[World.cell?_alloc_at _ _ _ _ dv]; rfl)
  (by rw[World.cell?_alloc_lt _ _ t gm,World.cell?_alloc_lt _ _ t gm,World.cell?_alloc_lt _ _ t gm,World.cell?_alloc_lt _ _ t htl]; exact ht0)
  (by rw[World.frozen?_alloc_old _ _ t gm,World.frozen?_alloc_old _ _ t gm,World.frozen?_alloc_old _ _ t gm,World.frozen?_alloc_old _ _ t (gI htl)]; exact hf0)
 go_enter func51,ntmps51
 go_wp2
 refine wp_loop_rounds 1 ?_;rw[rounds_succ]
 go_wp2
 go_ret
 exact⟨rfl,rfl⟩
end
end Go.Proofs.YteoamaffclmdbaaGreatDoor
set_option linter.defProp false
namespace Go.Proofs.YteoamaffclmdbaaGreatDoor
open Go Go.Abs
def Gn:cA :=
 (.seq (.region [
 ob 36 (.mv (.tmp 8)),
 ob 37 (.chk (.tmp 36)),
 ob 38 (.yA 0 (.tmp 37)),
 ob 39 (.mR 10 (.tmp 38)),
 ob 40 (.mv (.tmp 8)),
 ob 41 (.chk (.tmp 40)),
 ob 42 (.yA 18 (.tmp 41)),
 ob 43 (.mR 7 (.tmp 42)),
 ⟨none,.store 10 (.tmp 4) (.tmp 39),none,true,false,[42],true⟩,
 ox (.store 7 (.tmp 5) (.tmp 43))] true [4,5]) (.ret))
def Gp:cA :=
 (.seq (.region [
 ob 33 (.mv (.tmp 6)),
 ob 34 (.mv (.tmp 8)),
 ob 35 (.sw (.tmp 33) [(.tmp 34)])] false [4,5,8]) Gn)
def Gq:cA :=
 (.seq (.region [
 ob 29 (.mR 10 (.tmp 2)),
 ob 30 (.mR 8 (.tmp 3)),
 ob 31 (.build [(.slice .c0 []),(.int .i64 0),(.int .i64 0),(.int .i64 0),(.slice .c0 []),(.slice .c0 []),(.slice .c0 []),(.int .i64 0),(.slice .c0 []),(.slice .c0 []),(.int .i64 0),(.int .i64 0),(.str []),(.str []),(.int .i64 0),(.int .i64 0),(.int .i64 0),(.slice .c0 []),(.int .i64 0),(.int .i64 0),(.int .i64 0),(.int .i64 0),(.int .i64 0),(.slice .c0 []),(.slice .c0 [])] [(0,10,(.tmp 29)),(10,8,(.tmp 30))]),
 ob 32 (.box (.tmp 31)),
 ob 8 (.mv (.tmp 32))] false [4,5,6,8]) Gp)
def Gr:cA :=
 (.seq (.region [
 ob 17 (.mv (.tmp 7)),
 ob 18 (.mv (.tmp 17)),
 og 19 18 true (.yA 1 (.tmp 3)),
 og 20 18 true (.rD (.tmp 19)),
 og 21 18 true (.bin .geq (.tmp 20) (.tc (.int .i64 0))),
 ob 22 (.pick (.tmp 18) (.tmp 21) (.tc (.bool false))),
 ob 23 (.mv (.tmp 22)),
 og 24 23 true (.yA 1 (.tmp 3)),
 og 25 23 true (.rD (.tmp 24)),
 og 26 23 true (.bin .lss (.tmp 25) (.tc (.int .i64 16))),
 ob 27 (.pick (.tmp 23) (.tmp 26) (.tc (.bool false))),
 ob 28 (.call 53 [(.tmp 27),(.tc (.int .i64 1))])] false [2,3,4,5,6]) Gq)
noncomputable def abQ:Code:=match Tryz.f29.body with|some (.seq _ (.seq _ r))=>r|_ => .skip
def Q3:Cz:={ n:=44,own:=[],lv:=[(2,[2,3,4,5,6,7]),(3,[2,3,4,5,6]),(4,[4,5,6,8]),(5,[4,5,8]),(6,[4,5])],lp:=[] }
def wG:cA :=
 (.seq (.region [
 ⟨(some 11),.call 52 [],none,true,false,[],false⟩,
 ob 12 (.yA 0 (.tmp 3)),
 ob 13 (.rD (.tmp 12)),
 ob 14 (.look .i (.raw .nilFunc) true (.tmp 11) (.tmp 13)),
 ob 10 (.mv (.tmp 14)),
 ob 15 (.extract (.tmp 10) 0),
 ob 16 (.extract (.tmp 10) 1),
 ob 6 (.mv (.tmp 15)),
 ob 7 (.mv (.tmp 16))] true [2,3,4,5,6,7]) Gr)
def anq:comp Tryz.prog Q3 abQ=some wG:=fy
noncomputable def abR:Code:=match Tryz.f50.body with|some (.seq _ (.seq _ (.cond _ (.seq _ (.seq _ r)) _)))=>r|_ => .skip
def aen:Cz:={ n:=20,own:=[],lv:=[(5,[])],lp:=[] }
def yz:cA :=
 (.region [
 ob 17 (.mR 10 (.tmp 0)),
 ob 18 (.rD (.tmp 5)),
 ob 19 (.build [(.int .i64 0),(.int .i64 0),(.int .i64 0),(.int .i64 0),(.int .i64 0),(.slice .c0 []),(.slice .c0 [])] [(0,1,(.tmp 18))]),
 ox (.store 10 (.tmp 1) (.tmp 17)),
 ox (.store 7 (.tmp 2) (.tmp 19))] false [])
def anr:comp Tryz.prog aen abR=some yz:=fy
noncomputable def abP:Code:=match Tryz.f29.body with|some (.seq r _)=>r|_ => .skip
def aem:Cz:={ n:=44,own:=[],lv:=[(0,[2,3,4,5])],lp:=[] }
def MC:cA :=
 (.region [
 ob 2 (.box (.tmp 0)),
 ob 3 (.box (.tmp 1)),
 ob 4 (.yR [(.slice .c0 []),(.int .i64 0),(.int .i64 0),(.int .i64 0),(.slice .c0 []),(.slice .c0 []),(.slice .c0 []),(.int .i64 0),(.slice .c0 []),(.slice .c0 [])]),
 ob 5 (.yR [(.int .i64 0),(.int .i64 0),(.int .i64 0),(.int .i64 0),(.int .i64 0),(.slice .c0 []),(.slice .c0 [])])] false [2,3,4,5])
def anp:comp Tryz.prog aem abP=some MC:=fy
end Go.Proofs.YteoamaffclmdbaaGreatDoor
namespace Go.Proofs.YteoamaffclmdbaaGreatDoor
open Go Go.Abs
def KH(w:World):(Instr.typeAssert .nilIface 20 99 true).run Tryz.prog w = .ok (.tuple #[.nilIface,.bool false]) w:=fy
def KG(v:Value)(w:World):(Instr.typeAssert (.iface 43 v) 20 99 true).run Tryz.prog w = .ok (.tuple #[.iface 43 v,.bool true]) w:=fy
set_option maxRecDepth 40000 in
def KR(p q r:Value)(w:World) :
  CallsD Tryz.prog 50 #[p,q,r] .returning w fun e u' w'=>e = .returned (.tuple #[])/\u' = .returning/\w'=w:=by
 refine callsD_of_wpS func50 rfl fun c₀ cs hu=>?_
 simp only[ntmps50,cY,au,aw,Nat.reduceAdd,Nat.reduceSub,jN,jO,lx,kd,aG,aQ];apply wpS_seq;apply wpS_region;simp[wpOpsS,go_sem,recoverD,hu,Exit.thenS,KH];apply wpS_seq;apply wpS_region;simp[wpOpsS,go_sem,Exit.thenS];refine wpS_cond (t:=false) (by simp[Act.eval]) ?_
 simp only[af,aD];refine wpS_of_wp (wp_skip ?_);cases c₀;simp_all [bodyPostS,results,Tryz.results50]
def GU(w:World)(o:Obj):(w.alloc o).heap=w.heap.push o:=rfl
def WI{e:Int}{j:J}{M:aC}{w W:World}(hr:Rel j M w)(hsz:w.heap.size<W.heap.size)(hos:W.os=w.os)(ht:W.tape=w.tape)(hou:W.output=w.output)(jw:W.heap[w.heap.size]?=some (.cells #[.int .i64 e] 43 (0,0)))(hb:∀b,b<w.heap.size->W.heap[b]?=w.heap[b]?) :
  Rel (gF j M.length (some w.heap.size)) (M++[.cells [.int .i64 e]]) W/\Ext j M w (gF j M.length (some w.heap.size)) (M++[.cells [.int .i64 e]]) W:=by
 have hob:∀b,some w.heap.size=some b->w.heap.size<=b/\b<W.heap.size:=fun b h=>by injection h with h; omega
 have q:Quiet w W:=⟨aI,hos,ht,hou⟩;refine⟨hr.push hob q hb (fun _=>⟨_,rfl,fun j' M' _=>⟨_,_,jw,rfl,fun i c v hc hv=>?_⟩⟩) (fun sz n b h=>by cases h),Ext.push (fun b h=>(hob b h).1) q hb⟩
 match i with
 |0 =>
  simp at hc hv;subst hc; subst hv;exact .plain (.int _ _)
 |i+1=>simp at hc
def OM{e:Int}{j:J}{M:aC}{w:World}(hr:Rel j M w)(hG:sQ j M w){p q r:Value}{xp xq xr:ag}(hp:gn j M w xp p)(hq:gn j M w xq q)(hr':gn j M w xr r){o:Out}
  (ho:eO (aq gJ) yz [(0,xp),(1,xq),(2,xr),(5,.ptr M.length 0)] (M++[.cells [.int .i64 e]])=some o) (hn:o.e = .normal) :
  CallsD Tryz.prog 50 #[p,q,r] (.panicking [{ v := .iface 43 (.int .i64 e),recovered:=false }]) w fun ed u' w' =>
   ed = .returned (.tuple #[])/\u' = .panicking [{ v := .iface 43 (.int .i64 e),recovered:=true }]/\∃j',Rel j' o.mem w'/\Ext j M w j' o.mem w':=by
 have hg:=(hG.g 0 [II] 0 II rfl rfl).2;have cL:0<w.heap.size:=(hG.g 0 [II] 0 II rfl rfl).1.lt;refine callsD_of_wpS func50 rfl fun c₀ cs hu=>?_
 simp only[ntmps50,cY,au,aw,Nat.reduceAdd,Nat.reduceSub,jN,jO,lx,kd,aG,aQ];apply wpS_seq;apply wpS_region;simp[wpOpsS,go_sem,recoverD,hu,Exit.thenS,KG];apply wpS_seq;apply wpS_region;simp[wpOpsS,go_sem,Exit.thenS];refine wpS_cond (t:=true) (by simp[Act.eval]) ?_
 simp only[aE];refine wpS_of_wp ?_;refine wp_seq (wp_region ?_);simp[wpOps,go_sem,Exit.then]
 refine .inl (wp_seq (wp_seq (wp_region ?_)));simp[wpOps,go_sem,Exit.then]
 repeat' refine Or.inl ?_
 refine(ak3 e ⟨w.heap.size,0,none⟩ (.int .i64 0) _ ?_ ?_ ?_).mono ?_
 ·rw[World.cell?_alloc_lt _ _ ⟨0,0,none⟩ cL]; exact hg
 ·simp
 ·simp
 rintro ev w' ⟨rfl,rfl⟩;simp[go_sem];refine .inl (wp_cond (t:=false) ?_ ?_)
 ·simp[Act.eval]
 simp only[af,aD];refine wp_skip ?_;simp only[Exit.then]
 have hR:=WI (e:=e) hr (W:=((((w.alloc (.cells #[.int .i64 e] 43)).alloc (.cells #[.pointer (some ⟨w.heap.size,0,none⟩)] 102)).alloc (.cells #[.pointer (some ⟨2,102,none⟩),.pointer (some ⟨w.heap.size+1,0,none⟩),.int .u64 150] 173)).alloc (.cells #[.pointer (some ⟨2,102,none⟩),.pointer (some ⟨w.heap.size+1,0,none⟩),.int .u64 150] 173)).alloc (.cells #[.int .i64 e] 43))
  (by simp only[GU,Array.size_push]; omega) rfl rfl rfl (by
   have h2:w.heap.size≠w.heap.size+1+1:=aI;have h3:w.heap.size≠w.heap.size+1+1+1:=aI;have h4:w.heap.size≠w.heap.size+1+1+1+1:=aI;simp only[GU]; simp[fW,h2,h3,h4]) (fun b hb=>by
   have h1:b≠w.heap.size:=aI;have h2:b≠w.heap.size+1:=aI;have h3:b≠w.heap.size+1+1:=aI;have h4:b≠w.heap.size+1+1+1:=aI;have h5:b≠w.heap.size+1+1+1+1:=aI;simp only[GU]; simp[fW,h1,h2,h3,h4,h5])
 have hG':=hG.mono hR.2;have key:=wpIn_wide.1 (mO (rd:=none) (nd:=0) fy Ml abR anr ho hR.1 hG' (a:={ tmps := #[p,q,r,.iface 43 (.int .i64 e),.bool true,.pointer (some ⟨w.heap.size,0,none⟩),.tuple #[.iface 43 (.int .i64 e),.bool true],.iface 43 (.int .i64 e),.tuple #[.iface 43 (.int .i64 e),.bool true],.iface 43 (.int .i64 e),.bool true,.bool true,.iface 43 (.int .i64 e),.iface 102 (.pointer (some ⟨w.heap.size,0,none⟩)),.bool true,.bool false,undef,undef,undef,undef],defers:=[] }) ?_ rfl)
 ·refine wp_mono key ?_;rintro ex a' w' ⟨h1,h2,h3,j',h4,h5,h6⟩;rw[hn] at h1;simp only[rO] at h1;subst h1;simp[bodyPostS,results,Tryz.results50,h3];exact⟨j',h4,hR.2.trans h6⟩
 ·refine⟨fun t=>?_,hG'⟩
  match t with
  |0=>exact hp.mono hR.2
  |1=>exact hq.mono hR.2
  |2=>exact hr'.mono hR.2
  |5=>exact .ptr dv ⟨_,kh⟩ (by simp[gF])
  |3=>exact .any _
  |4=>exact .any _
  |t+6=>exact .any _
end Go.Proofs.YteoamaffclmdbaaGreatDoor
namespace Go.Abs
open Go
variable [kH]
def WK{a:Act}{d:Option Nat}{v:Value}{t:Nat}(h:d≠some t):(a.put d v).tmps.getD t undef=a.tmps.getD t undef:=by
 cases d with
 |none=>rfl
 |some s =>
  have hne:s≠t:=fun e=>h (by rw[e])
  simp[Act.put,dw,fD hne]
def SZ{F:Fence}{n:Nat}{P:Program}{ops:Array Oper}{Q:Exit->Act->World->Prop}{ks:List Nat}{v0:Nat->Value}:∀(l:List Nat)(a:Act)(w:World),
  (∀i o,i∈l->ops[i]?=some o->∀t,t∈ks->o.dst≠some t)->(∀t,t∈ks->a.tmps.getD t undef=v0 t)->wpOpsIn F n P ops Q l a w->wpOpsIn F n P ops (fun e a' w'=>Q e a' w'/\(e = .outgrown\/∀t,t∈ks->a'.tmps.getD t undef=v0 t)) l a w:=by
 intro l;induction l with
 |nil=>exact fun a w _ hv h=>⟨h,.inr hv⟩
 |cons i rest ih =>
  intro a w hd hv h;have hd':∀i o,i∈rest->ops[i]?=some o->∀t,t∈ks->o.dst≠some t:=fun i o hi=>hd i o (bw _ hi)
  simp only[wpOpsIn] at h ⊢;cases ho:ops[i]? with
  |none=>rw[ho] at h; exact ih a w hd' hv h
  |some o =>
   rw[ho] at h;have hdo:=hd i o bE ho;have hp:∀(a:Act) v,(∀t,t∈ks->a.tmps.getD t undef=v0 t)->∀t,t∈ks->(a.put o.dst v).tmps.getD t undef=v0 t:=fun a v h t ht=>(WK (hdo t ht)).trans (h t ht)
   simp only at h ⊢;split at h
   ·rename_i hw;rw[aX hw];refine⟨h.1,?_⟩;have h:=h.2;unfold Oper.uponIn at h ⊢;split at h
    ·exact ih _ _ hd' (hp _ _ hv) h
    ·exact ih _ _ hd' (hp _ _ hv) h
    ·exact ih _ _ hd' (hp _ _ hv) h
    ·refine⟨h.1,h.2.mono fun e w' h=>?_⟩
     cases e with
     |returned v=>exact ih _ _ hd' (hp _ _ hv) h
     |panicked c=>exact⟨h,.inr hv⟩
     |outgrown=>obtain⟨a1,w1,h⟩:=h; exact⟨a1,w1,h,.inl rfl⟩
    ·exact⟨h.1,h.2.mono fun v w' h=>ih _ _ hd' (hp _ _ hv) h⟩
    ·refine⟨h.1,h.2.mono fun e w' h=>?_⟩
     cases e with
     |returned v=>exact ih _ _ hd' (hp _ _ hv) h
     |panicked c=>exact⟨h,.inr hv⟩
     |outgrown=>obtain⟨a1,w1,h⟩:=h; exact⟨a1,w1,h,.inl rfl⟩
    ·exact⟨h,.inr hv⟩
    ·exact h.elim
   ·rename_i hw;rw[aL hw];exact⟨h.1,ih _ _ hd' (hp _ _ hv) h.2⟩
def CM(ks:List Nat)(bq:Env)(o:Out):Out:=match o.e with
 | .nK v=>⟨.nK v,jq bq ks,o.mem⟩
 |_=>o
noncomputable def rJ(C:eR)(ks:List Nat):cA->Env->aC->Option Out
 | .seq x y,bq,M=>bJ (rJ C ks x bq M) fun o=>uc o (rJ C ks y)
 | .region ops d live,bq,M=>bJ (eO C (.region ops d live) bq M) fun o=>some (if d then o else CM ks bq o)
 | .qX t c,bq,M=>rJ C ks c (Lw M t bq) (pw M (hZ bq t).ids)
 |c,bq,M=>eO C c bq M
def I4(ks:List Nat):Code->Bool
 | .seq x y=>I4 ks x&&I4 ks y
 | .region _ ops _=>ops.toList.all fun o=>match o.dst with|some d => !ks.contains d|none=>true
 |_=>true
def J2{P:Program}{C:eR}{A:Cz}(hmix:P.follows .mixedOrders=true)(hC:nP P C){rd:Option Nat}{nd:Nat}{ks:List Nat}:∀(c:Code){ac:cA},comp P A c=some ac->I4 ks c=true->∀ {bq:Env} {M:aC} {o:Out},rJ C ks ac bq M=some o ->
  ∀ {j:J} {w:World} {a:Act},Rel j M w->sQ j M w->cn j M w bq a->a.tmps.size=A.n->c.wpIn (Wd rd) nd P (Yc A j M w a o) a w:=by
 intro c;induction c with
 |seq x y ihx ihy =>
  intro ac hc hf bq M o h j w a hr hG he hs;simp only[comp] at hc;obtain⟨ax,hx,hc⟩:=bf hc;obtain⟨ay,hy,hc⟩:=bf hc;cases hc;simp only[I4,bt] at hf;simp only[rJ] at h;obtain⟨o1,h1,h⟩:=bp h;refine wpIn_seq (wpIn_mono (ihx hx hf.1 h1 hr hG he hs) ?_);rintro e a1 w1 ⟨he1,hs1,hd1,j1,r1,e1,x1⟩;rcases ud h with ⟨hn,h2⟩|⟨hn,h2⟩
  ·rw[hn] at he1;subst he1;obtain⟨env',M',h3,r3,e3,x3⟩:=M9 (F:=rJ C ks) (fun _ _ _ _=>rfl) h2 r1 e1
   refine wpIn_mono (ihy hy hf.2 h3 r3 (hG.mono (x1.trans x3)) e3 hs1) ?_;rintro e a2 w2 ⟨he2,hs2,hd2,j2,r2,e2,x2⟩;exact⟨he2,hs2,hd2.trans hd1,j2,r2,e2,(x1.trans x3).trans x2⟩
  ·subst h2;have:rO o.e ≠ .normal:=by cases ho:o.e<;>simp_all [rO]
   subst he1
   cases hx:rO o.e<;>first
    |exact absurd hx this
    |exact⟨hx.symm,hs1,hd1,j1,r1,e1,x1⟩
 |region id ops draw =>
  intro ac hc hf bq M o h j w a hr hG he hs;cases draw with
  |true =>
   have hc0:=hc;simp only[comp,aE] at hc;obtain⟨l0,hl0,hc⟩:=bf hc;obtain⟨l,hl,hc⟩:=bf hc;cases hc;simp only[rJ,aE] at h;obtain⟨o1,h1,h⟩:=bp h;cases h;exact mO hmix hC _ hc0 h1 hr hG he hs
  |false =>
   have hc0:=hc;simp only[comp,af,aD] at hc;obtain⟨l,hl,hc⟩:=bf hc;cases hc;simp only[rJ,af,aD] at h;obtain⟨o1,h1,h⟩:=bp h;cases h;simp only[eO] at h1;obtain⟨x,hx,h1⟩:=bp h1;cases h1
   have hdst:∀i o,i∈List.range ops.size->ops[i]?=some o->∀t,t∈ks->o.dst≠some t:=by
    intro i o _ hio t ht hd;simp only[I4,bN] at hf;have:=hf o (Array.mem_toList_iff.2 (Array.mem_of_getElem? hio));rw[hd] at this;simp[ht] at this
   refine wpIn_mono (wpIn_region (SZ (v0:=fun t=>a.tmps.getD t undef) _ a w hdst (fun _ _=>rfl) (by
    rw[lG];exact yf hC (grow:=[]) ops.toList 0 dv hl hx hr hG he hs fun a' w' j' h1 h2 h3 h4 h5=>Bw (live:=find A.lv id) h1 h2 h3 h4 h5))) ?_
   rintro e a1 w1 ⟨⟨he1,hs1,hd1,j1,r1,e1,x1⟩,hk⟩;clear hx;generalize x.pU (find A.lv id)=y at he1 r1 e1 x1 ⊢;cases hye:y.e with
   |nK v =>
    have hp:CM ks bq y=⟨.nK v,jq bq ks,y.mem⟩:=by unfold CM; rw[hye]
    rw[hp];have hk':=hk.resolve_left (by rw[he1,hye]; simp[rO])
    refine⟨by rw[he1,hye],hs1,hd1,j1,r1,⟨fun t=>?_,hG.mono x1⟩,x1⟩
    rw[y9];split
    ·rename_i ht;rw[hk' t ht];exact(he.at' t).mono x1
    ·exact .any _
   |normal =>
    have hp:CM ks bq y=y:=by unfold CM; rw[hye]
    rw[hp]; exact⟨he1,hs1,hd1,j1,r1,e1,x1⟩
   |ret =>
    have hp:CM ks bq y=y:=by unfold CM; rw[hye]
    rw[hp]; exact⟨he1,hs1,hd1,j1,r1,e1,x1⟩
   |exit i =>
    have hp:CM ks bq y=y:=by unfold CM; rw[hye]
    rw[hp]; exact⟨he1,hs1,hd1,j1,r1,e1,x1⟩
 |_ =>
  intro ac hc hf bq M o h j w a hr hG he hs;refine mO hmix hC _ hc (o:=o) ?_ hr hG he hs;simp only[comp] at hc
  first
   |(cases hc; exact h)
   |(obtain⟨_,_,hc⟩:=bf hc; injection hc with hc; unfold Nu at hc; split at hc<;>subst hc<;>exact h)
   |(obtain⟨_,_,hc⟩:=bf hc; cases hc; exact h)
   |(obtain⟨_,_,hc⟩:=bf hc; obtain⟨_,_,hc⟩:=bf hc; obtain⟨_,_,hc⟩:=bf hc; cases hc; exact h)
   |cases hc
end Go.Abs
namespace Go.Proofs.YteoamaffclmdbaaGreatDoor
open Go Go.Abs
def abg:List sP:=[.dH 4 10,.dH 5 7]
noncomputable def MJ(o1 o2:Out):Option (ag×aC) :=
 match o2.e with
 | .ret=>bJ (sX o2.bq o2.mem abg) fun l=>some ((Abs.one l).lK 0 o2.mem,iT 0 o2.mem)
 | .nK (.iface 43 (.int .i64 e)) =>
  bJ (eO (aq gJ) yz [(0,hZ o1.bq 2),(1,hZ o1.bq 4),(2,hZ o1.bq 5),(5,.ptr o2.mem.length 0)] (o2.mem++[.cells [.int .i64 e]])) fun o3 =>
  match o3.e with
  | .normal=>bJ (sX o2.bq o3.mem abg) fun l=>some ((Abs.one l).lK 0 o3.mem,iT 0 o3.mem)
  |_=>none
 |_=>none
noncomputable def pDo:List ag->aC->Option (ag×aC):=fun args M =>
 match M with
 |_::_=>none
 | []=>if args.length=2 then
   bJ (eO (aq gJ) MC (eG 0 args) []) fun o1 =>
   match o1.e with
   | .normal=>bJ (rJ (aq gJ) [4,5] wG (jq o1.bq [2,3,4,5]) o1.mem) fun o2=>MJ o1 o2
   |_=>none
  else none
def Rz{args:List ag}{M:aC}{x:ag×aC}(h:pDo args M=some x):dh Tryz.prog 29 args M x:=by
 unfold pDo at h;split at h
 ·cases h
 split at h
 rotate_left
 ·cases h
 rename_i dD;obtain⟨o1,ho1,h⟩:=bp h;split at h
 rotate_left
 ·cases h
 rename_i hn1;obtain⟨o2,ho2,h⟩:=bp h;intro j w vs hr hG hvl hv;refine calls_of_wp_defers func29 rfl ?_;refine wp_seq ?_;have hsz:(vs++Array.replicate (Tryz.f29.ntmps-vs.size) undef).size=44:=by rw[ntmps29]; simp; omega
 have he:cn j [] w (eG 0 args) { tmps:=vs++Array.replicate (Tryz.f29.ntmps-vs.size) undef,defers:=[] }:=by
  refine⟨fun t=>?_,hG⟩
  rw[A9,aX (cQ _),bK];rcases bD t args.length with ht|ht
  ·have h1:=ai ht;have cL:t<vs.size:=aI;have h2:=bh cL;rw[h1];have h3:=hv t _ _ h1 h2
   have:(vs++Array.replicate (Tryz.f29.ntmps-vs.size) undef).getD t undef=vs[t]:=by
    simp[dw,cf cL,h2]
   rw[this];exact h3
  ·rw[gb ht]; exact .any _
 refine wp_mono (wpIn_wide.1 (mO (rd:=none) (nd:=0) fy Ml abP anp ho1 hr hG he hsz)) ?_;rintro ex a1 w1 ⟨h1,h2,h3,j1,r1,e1,x1⟩;rw[hn1] at h1;simp only[rO] at h1;subst h1;simp only[Exit.then]
 refine wp_seq (wp_region ?_);obtain⟨t1,d1⟩:=a1;simp only at h2 h3;subst h3;have hmf:∀(fn:Fn)(first cap:Array Value)(w:World),(Instr.makeFunc fn first cap).run Tryz.prog w = .ok (.func fn first cap) w:=fun _ _ _ _=>rfl
 have h2':t1.size=44:=h2;have h9:9<t1.size:=aI;simp[wpOps,go_sem,Exit.then,hmf,h9,Array.getElem?_setIfInBounds,gZ]
 repeat' refine Or.inl ?_
 have key:∀d:List Deferred,cn j1 o1.mem w1 (jq o1.bq [2,3,4,5]) { tmps:=t1.setIfInBounds 9 (.func (.func 50) #[] #[t1[2]?.getD undef,t1[4]?.getD undef,t1[5]?.getD undef]),defers:=d }:=fun d=>by
  refine⟨fun t=>?_,e1.gl⟩
  rw[y9];split
  ·rename_i hm;have hne:9≠t:=by rintro rfl; simp at hm
   have:=e1.at' t;simp only[dw] at this ⊢;rw[fD hne];exact this
  ·exact .any _
 refine wp_mono (wpIn_wide.1 (J2 (rd:=none) (nd:=0) fy Ml abQ anq fy ho2 r1 e1.gl (key _) (by simpa[Q3] using h2'))) ?_
 rintro ex a2 w2 ⟨g1,g2,g3,j2,r2,e2,x2⟩;have hp:=(e1.at' 2).mono x2;have hq:=(e1.at' 4).mono x2;have hs:=(e1.at' 5).mono x2;simp only[dw] at hp hq hs;have hb0:0<=o2.mem.length:=cQ _
 have fin:∀(j3:J)(M3:aC)(w3:World)(y:ag×aC),Rel j3 M3 w3->cn j3 M3 w3 o2.bq a2->Ext j [] w j3 M3 w3->(bJ (sX o2.bq M3 abg) fun l=>some ((Abs.one l).lK 0 M3,iT 0 M3))=some y ->
   ∃v,(results f29 a2.tmps).run Tryz.prog w3 = .ok v w3/\vV j [] w y (.returned v) w3:=by
  intro j3 M3 w3 y r3 e3 x3 hy;obtain⟨l,hl,hy⟩:=bp hy;cases hy;obtain⟨us,u1,u2,u3⟩:=C3 (P:=Tryz.prog) (rs:=Tryz.f29.results.toList) r3 e3 (by kernel_rfl:Ih Tryz.prog Tryz.f29.results.toList=some abg) hl
  have hres:(results f29 a2.tmps).run Tryz.prog w3 = .ok (if h:us.toArray.size=1 then us.toArray[0] else .tuple us.toArray) w3:=by
   unfold results;rw[lU,Sem.run_bind,Sem.run_map];refine il (congrArg (fun r:Result (List Value)=>Result.andThen (r.andThen fun a w' => .ok a.toArray w') _) (il ?_ u1)) rfl
   rfl
  exact⟨_,hres,.inl ⟨_,rfl,j3,zE (cQ _) r3,w9 (cQ _) dv x3,Ft (cQ _) r3 (NB u2 u3)⟩⟩
 unfold MJ at h;split at h
 ·rename_i hret;rw[hret] at g1;simp only[rO] at g1;subst g1;simp only[bodyPostD,g3];refine leaves_cons (f:=50) (args := #[t1[2]?.getD undef,t1[4]?.getD undef,t1[5]?.getD undef]) dv (by simp[go_sem]) ?_
  refine(KR _ _ _ _).mono ?_;rintro ed u' w'' ⟨rfl,rfl,rfl⟩;simp only[Leaves,settle];exact fin _ _ _ _ r2 e2 (x1.trans x2) h
 ·rename_i e hpan;obtain⟨o3,ho3,h⟩:=bp h;split at h
  rotate_left
  ·cases h
  rename_i hn3;rw[hpan] at g1;simp only[rO] at g1;subst g1;simp only[bodyPostD,g3];refine leaves_cons (f:=50) (args := #[t1[2]?.getD undef,t1[4]?.getD undef,t1[5]?.getD undef]) dv (by simp[go_sem]) ?_
  refine(OM r2 e2.gl hp hq hs ho3 hn3).mono ?_;rintro ed u' w'' ⟨rfl,rfl,j3,r3,x3⟩;simp only[Leaves,settle];exact fin _ _ _ _ r3 (e2.mono x3) ((x1.trans x2).trans x3) h
 ·cases h
noncomputable def Fi:zB:=mi gJ 29 pDo
def N0:vn Tryz.prog Fi:=p7 N1 fy (fun h=>Rz h)
def Xt{f:Nat}{a:List ag}{M:aC}{x:ag×aC}(h:aq gJ f a M=some x):aq Fi f a M=some x:=rb rfl rfl h
def lD{f:Nat}{vs:List ag}{M:aC}{x:ag×aC}(h:aU (aq gJ) f vs M=some x):aU (aq Fi) f vs M=some x:=by
 obtain⟨a,B,y,h1,h2⟩:=pR h;exact h2 _ (Xt h1)
section
attribute [local irreducible] eX fM lC gK dX kr aq aU cr bJ
def sZ:AM Nat:=[(1,93),(2,94),(3,95),(4,96),(5,97),(6,98),(7,99),(8,100),(9,101),(10,102),(11,103),(12,104),(13,105),(14,106),(15,107),(16,108),(17,109)]
def fnV(K:Nat):ag := .raw (.func (.func K) ⟨[]⟩ ⟨[]⟩)
def c52:aq gJ 52 [] []=some (.kl (B1 sZ) (ph fnV sZ),[]):=by
 refine aB ?_;simp only[alC,E52,xw,kC,Int.reduceBEq,Int.reduceEq,↓reduceIte,az,EW,seval];rfl
end
def tf(K:Nat)(f:aa)(o:jF):aa×vU×Int :=
 if K=93 then Cf f o else if K=94 then Cg f o else if K=95 then Ce f o else if K=96 then uW f o else if K=97 then uU f o else if K=98 then F8 f o else if K=99 then Cs f o else if K=100 then Ch f o else if K=101 then xd f o else if K=102 then Gu f o else if K=103 then xP f o else if K=104 then Iv f o else if K=105 then xm f o else if K=106 then Cu f o else if K=107 then Gk f o else if K=108 then BX f o else if K=109 then AP f o else (f,gx,0)
def RA{k:Int}{K:Nat}(hk:eY sZ k=some K){f:aa}{o:jF}(hf:vk f)(ho:sN o):pt K f o (tf K f o):=by
 have hm:=xy _ _ _ hk;simp only[sZ,bI,iE,List.not_mem_nil,or_false] at hm;rcases hm with ⟨_,rfl⟩|⟨_,rfl⟩|⟨_,rfl⟩|⟨_,rfl⟩|⟨_,rfl⟩|⟨_,rfl⟩|⟨_,rfl⟩|⟨_,rfl⟩|⟨_,rfl⟩|⟨_,rfl⟩|⟨_,rfl⟩|⟨_,rfl⟩|⟨_,rfl⟩|⟨_,rfl⟩|⟨_,rfl⟩|⟨_,rfl⟩|⟨_,rfl⟩
 ·exact c93 f o hf ho
 ·exact c94 f o hf ho
 ·exact c95 f o hf ho
 ·exact c96 f o hf ho
 ·exact c97 f o hf ho
 ·exact c98 f o hf ho
 ·exact c99 f o hf ho
 ·exact apy f o hf ho
 ·exact apz f o hf ho
 ·exact apA f o hf ho
 ·exact apB f o hf ho
 ·exact apC f o hf ho
 ·exact apD f o hf ho
 ·exact apE f o hf ho
 ·exact apF f o hf ho
 ·exact apG f o hf ho
 ·exact apH f o hf ho
def xE(c:Bool)(b:Bool)(M:aC)(k:Option Out):EU c ((.bool b),M) k=k:=rfl
def Ak(c:Bool)(i:IntKind)(n:Int)(M:aC)(k:Option Out):EU c ((.int i n),M) k=k:=rfl
def Ao(c:Bool)(b:Bytes)(M:aC)(k:Option Out):EU c ((.str b),M) k=k:=rfl
def vK(c:Bool)(t:Tk)(l:List ag)(M:aC)(k:Option Out):EU c ((.slice t l),M) k=k:=rfl
def Ai(c:Bool)(l:List ag)(M:aC)(k:Option Out):EU c ((.agg l),M) k=k:=rfl
def vL(c:Bool)(l:List ag)(M:aC)(k:Option Out):EU c ((.tuple l),M) k=k:=rfl
def Am(c:Bool)(i n:Nat)(M:aC)(k:Option Out):EU c ((.ptr i n),M) k=k:=rfl
def xF(c:Bool)(a b:List ag)(M:aC)(k:Option Out):EU c ((.kl a b),M) k=k:=rfl
def An(c:Bool)(v:Value)(M:aC)(k:Option Out):EU c ((.raw v),M) k=k:=rfl
def Aj(c:Bool)  (M:aC)(k:Option Out):EU c (.any,M) k=k:=rfl
def Al(v:Value)(M:aC)(k:Option Out):EU true (.nK v,M) k=some ⟨.nK v,[],M⟩:=rfl
def DM(e:Env)(M:aC)(k:Env->aC->Option Out):uc ⟨.normal,e,M⟩ k=k e M:=rfl
def DN(v:Value)(e:Env)(M:aC)(k:Env->aC->Option Out):uc ⟨.nK v,e,M⟩ k=some ⟨.nK v,e,M⟩:=rfl
def Sx(e:Env)(M:aC)(k:Env->aC->Option Out):uc ⟨.ret,e,M⟩ k=some ⟨.ret,e,M⟩:=rfl
def S0(live:List Nat)(e:Env)(M:aC):Out.pU live ⟨.ret,e,M⟩=⟨.ret,e,M⟩:=rfl
def WD(ks:List Nat)(bq e:Env)(M:aC):CM ks bq ⟨.ret,e,M⟩=⟨.ret,e,M⟩:=rfl
def D2(live:List Nat)(e:Env)(M:aC):Out.pU live ⟨.normal,e,M⟩=⟨.normal,jq e live,M⟩:=rfl
def D3(live:List Nat)(v:Value)(e:Env)(M:aC):Out.pU live ⟨.nK v,e,M⟩=⟨.nK v,e,M⟩:=rfl
def Eo(ks:List Nat)(bq e:Env)(M:aC):CM ks bq ⟨.normal,e,M⟩=⟨.normal,e,M⟩:=rfl
def Ep(ks:List Nat)(bq:Env)(v:Value)(e:Env)(M:aC):CM ks bq ⟨.nK v,e,M⟩=⟨.nK v,jq bq ks,M⟩:=rfl
def Ic:(false==true)=false:=rfl
def Ie:(true==false)=false:=rfl
def Ib:(false==false)=true:=rfl
def Ig:(true==true)=true:=rfl
def hV(e:Int):vU:=⟨e,0,0,0,0,[],[]⟩
def p8(f:aa)(o:jF):aa×vU :=
 match eY sZ o.kind with
 |none=>(f,hV 1)
 |some K=>if 0<=o.bA/\o.bA<16 then (if (tf K f o).2.2=0 then ((tf K f o).1,(tf K f o).2.1) else (f,hV (tf K f o).2.2)) else (f,hV 1)
def rR:List ag:=[.slice .c0 [],.int .i64 0,.int .i64 0,.int .i64 0,.slice .c0 [],.slice .c0 [],.slice .c0 [],.int .i64 0,.slice .c0 [],.slice .c0 []]
def rh:List ag:=[.int .i64 0,.int .i64 0,.int .i64 0,.int .i64 0,.int .i64 0,.slice .c0 [],.slice .c0 []]
def yv(f:aa)(o:jF):aC:=[.cells (cg f),.cells (eW o),.cells rR,.cells rh]
def uO:Env:=[(2,.ptr 0 0),(3,.ptr 1 0),(4,.ptr 2 0),(5,.ptr 3 0)]
def BZ(a:vU)(x y:ag):List ag:=[.int .i64 a.err,.int .i64 a.ar,.int .i64 a.kind,.int .i64 a.n,.int .i64 a.m,x,y]
section
attribute [local irreducible] aq aU cr bJ
def ahI(f:aa)(o:jF):eO (aq gJ) MC (eG 0 [.agg (cg f),.agg (eW o)]) []=some ⟨.normal,uO,yv f o⟩:=by
 simp only[MC,cg,eW,yv,uO,rR,rh,eO,gu,uc,xC,EU,EV,seval];rfl
def k52:=cP c52
def W8(f:aa)(o:jF)(e:Int):eO (aq gJ) yz [(0,cu 0),(1,cu 2),(2,cu 3),(5,cu 4)] (yv f o++[cv [aH e]]) =
  some ⟨.normal,[],cv (cg f) :: cv (eW o) :: cv (cg f) :: cv (BZ (hV e) (.slice .c0 []) (.slice .c0 []))::[cv [aH e]]⟩:=by
 simp only[yz,cg,eW,yv,rR,rh,BZ,hV,eO,gu,uc,xC,EU,EV,seval];rfl
def ahM(f:aa)(o:jF)(b:cJ)(e:Int):eO (aq gJ) yz [(0,cu 0),(1,cu 2),(2,cu 3),(5,cu 5)] (yv f o++[b]++[cv [aH e]]) =
  some ⟨.normal,[],cv (cg f) :: cv (eW o) :: cv (cg f) :: cv (BZ (hV e) (.slice .c0 []) (.slice .c0 []))::[b,cv [aH e]]⟩:=by
 simp only[yz,cg,eW,yv,rR,rh,BZ,hV,eO,gu,uc,xC,EU,EV,seval];rfl
def ahK(f:aa)(o:jF)(h:eY sZ o.kind=none):rJ (aq gJ) [4,5] wG (jq uO [2,3,4,5]) (yv f o)=some ⟨.nK (.iface 43 (.int .i64 1)),[(4,.ptr 2 0),(5,.ptr 3 0)],yv f o⟩:=by
 have g:=pa fnV sZ o.kind;rw[h] at g;have q:=fun M=>QF false 1 rfl M
 simp only[af,aD,gh] at q;have q0:=k52;simp only[wG,Gn,Gp,Gq,Gr,cg,eW,yv,uO,rJ,eO,gu,xE,Ak,Ao,vK,Ai,vL,Am,xF,An,Aj,Al,DM,DN,D2,D3,Eo,Ep,Ic,Ie,Ib,Ig,af,aE,aD,mapOf.eq_2,po,q0,g,q,oS,iI,dp,EV,seval]
def ahJ(f:aa)(o:jF)(K:Nat)(h:eY sZ o.kind=some K)(hc:¬(0<=o.bA/\o.bA<16)):rJ (aq gJ) [4,5] wG (jq uO [2,3,4,5]) (yv f o)=some ⟨.nK (.iface 43 (.int .i64 1)),[(4,.ptr 2 0),(5,.ptr 3 0)],yv f o⟩:=by
 have g:=pa fnV sZ o.kind;rw[h] at g;have q:=fun M=>QF false 1 rfl M
 simp only[af,aD,gh] at q;have q0:=k52
 by_cases h1:0<=o.bA
 ·have h2:(o.bA<16)=False:=XQ;have h1:(0<=o.bA)=True:=by simp only[fG,ja]; exact h1
  simp only[wG,Gn,Gp,Gq,Gr,cg,eW,yv,uO,rJ,eO,gu,xE,Ak,Ao,vK,Ai,vL,Am,xF,An,Aj,Al,DM,DN,D2,D3,Eo,Ep,Ic,Ie,Ib,Ig,af,aE,aD,mapOf.eq_2,po,q0,g,q,bm,bX,fnV,h1,h2,EV,seval]
 ·have h1:(0<=o.bA)=False:=by simp only[fG,iff_false]; exact h1
  simp only[wG,Gn,Gp,Gq,Gr,cg,eW,yv,uO,rJ,eO,gu,xE,Ak,Ao,vK,Ai,vL,Am,xF,An,Aj,Al,DM,DN,D2,D3,Eo,Ep,Ic,Ie,Ib,Ig,af,aE,aD,mapOf.eq_2,po,q0,g,q,bm,bX,fnV,h1,EV,seval]
def ahL(f:aa)(o:jF)(K:Nat)(r:aa×vU×Int)(h:eY sZ o.kind=some K)(hc0:0<=o.bA)(hc1:o.bA<16)(hd:pt K f o r) :
  ∃x y,Row x (r.2.1.names.map ag.str)/\Row y (r.2.1.data.map pf)/\rJ (aq gJ) [4,5] wG (jq uO [2,3,4,5]) (yv f o) =
   some (if r.2.2 != 0 then ⟨.nK (.iface 43 (.int .i64 r.2.2)),[(4,.ptr 2 0),(5,.ptr 3 0)],yv f o++[dB r.1 o r.2.1 x y]⟩
    else ⟨.ret,[(4,.ptr 2 0),(5,.ptr 3 0)],[.cells (cg f),.cells (eW o),.cells (cg r.1),.cells (BZ r.2.1 x y),dB r.1 o r.2.1 x y]⟩):=by
 obtain⟨x,y,hx,hy,ha⟩:=hd;refine⟨x,y,hx,hy,?_⟩;have cx:x.jf=true:=by rcases hx with h|⟨h,_⟩<;>rw[h]<;>rfl
 have cy:y.jf=true:=by rcases hy with h|⟨h,_⟩<;>rw[h]<;>rfl
 have g:=pa fnV sZ o.kind;rw[h] at g;have q:=fun M=>QF true 1 rfl M
 simp only[aE] at q;have q0:=k52;have h1:(0<=o.bA)=True:=by simp only[fG,ja]; exact hc0
 have h2:(o.bA<16)=True:=by simp only[fG,ja]; exact hc1
 have q5:aU (aq gJ) K [.ptr 4 0] (yv f o++[.cells (cd f o)])=some (if r.2.2 != 0 then gh r.2.2 else .tuple [],yv f o++[dB r.1 o r.2.1 x y]):=by
  obtain⟨f',a,e⟩:=r;simp only at hx hy ha ⊢;unfold dB at ha ⊢;rcases hx with rfl|⟨rfl,_⟩<;>rcases hy with rfl|⟨rfl,_⟩<;>exact tn (vs:=[]) (p:=4) rfl ha rfl rfl (by split<;>rfl) rfl (by split<;>rfl) rfl rfl rfl rfl rfl
 obtain⟨f',a,e⟩:=r;simp only at q5 ⊢;simp only[yv,cg,eW,cd,dB,rR,rh,aG,aQ,gh] at q5 ⊢;cases he:e != 0<;>simp only[he,af,aE,aD] at q5 ⊢
 ·simp only[rR,rh,Sx,S0,WD,wG,Gn,Gp,Gq,Gr,cg,eW,yv,uO,rJ,eO,gu,xE,Ak,Ao,vK,Ai,vL,Am,xF,An,Aj,Al,DM,DN,D2,D3,Eo,Ep,Ic,Ie,Ib,Ig,af,aE,aD,mapOf.eq_2,po,q0,g,q,bm,bX,fnV,h1,h2,q5,BZ,cx,cy,dZ,EV,seval]
 ·simp only[rR,rh,Sx,S0,WD,wG,Gn,Gp,Gq,Gr,cg,eW,yv,uO,rJ,eO,gu,xE,Ak,Ao,vK,Ai,vL,Am,xF,An,Aj,Al,DM,DN,D2,D3,Eo,Ep,Ic,Ie,Ib,Ig,af,aE,aD,mapOf.eq_2,po,q0,g,q,bm,bX,fnV,h1,h2,q5,EV,seval]
end
def O3(f:aa)(o:jF)(e:Int){R:aC}{M3:aC}(h:eO (aq gJ) yz [(0,.ptr 0 0),(1,.ptr 2 0),(2,.ptr 3 0),(5,.ptr (yv f o++R).length 0)] (yv f o++R++[.cells [.int .i64 e]])=some ⟨.normal,[],.cells (cg f) :: .cells (eW o) :: .cells (cg f) :: .cells (BZ (hV e) (.slice .c0 []) (.slice .c0 []))::M3⟩) :
  MJ ⟨.normal,uO,yv f o⟩ ⟨.nK (.iface 43 (.int .i64 e)),[(4,.ptr 2 0),(5,.ptr 3 0)],yv f o++R⟩=some (.tuple [.agg (cg f),.agg (dA (hV e))],[]):=by
 show bJ (eO (aq gJ) yz [(0,.ptr 0 0),(1,.ptr 2 0),(2,.ptr 3 0),(5,.ptr (yv f o++R).length 0)] (yv f o++R++[.cells [.int .i64 e]])) _=_
 rw[h,bO];rfl
def WC(f:aa)(o:jF):pDo [.agg (cg f),.agg (eW o)] []=bJ (rJ (aq gJ) [4,5] wG (jq uO [2,3,4,5]) (yv f o)) fun o2=>MJ ⟨.normal,uO,yv f o⟩ o2:=by
 unfold pDo;simp only[];have h2:[ag.agg (cg f),ag.agg (eW o)].length=2:=rfl;rw[aX h2,ahI,bO]
def c29(f:aa)(o:jF)(hf:vk f)(ho:sN o):aq Fi 29 [.agg (cg f),.agg (eW o)] []=some (.tuple [.agg (cg (p8 f o).1),.agg (dA (p8 f o).2)],[]):=by
 have bad:∀e,p8 f o=(f,hV e)->∀R M3,rJ (aq gJ) [4,5] wG (jq uO [2,3,4,5]) (yv f o)=some ⟨.nK (.iface 43 (.int .i64 e)),[(4,.ptr 2 0),(5,.ptr 3 0)],yv f o++R⟩ ->
   eO (aq gJ) yz [(0,.ptr 0 0),(1,.ptr 2 0),(2,.ptr 3 0),(5,.ptr (yv f o++R).length 0)] (yv f o++R++[.cells [.int .i64 e]])=some ⟨.normal,[],.cells (cg f) :: .cells (eW o) :: .cells (cg f) :: .cells (BZ (hV e) (.slice .c0 []) (.slice .c0 []))::M3⟩ ->
   aq Fi 29 [.agg (cg f),.agg (eW o)] []=some (.tuple [.agg (cg (p8 f o).1),.agg (dA (p8 f o).2)],[]):=by
  intro e he R M3 h1 h2;rw[he];refine fg (g:=pDo) rfl ?_;rw[WC,h1,bO];exact O3 f o e h2
 cases hk:eY sZ o.kind with
 |none =>
  refine bad 1 (by unfold p8; rw[hk]) [] [.cells [.int .i64 1]] ?_ ?_
  ·rw[ahK f o hk,c8]
  ·rw[c8]; exact W8 f o 1
 |some K =>
  by_cases hc:0<=o.bA/\o.bA<16
  ·obtain⟨x,y,hx,hy,hs⟩:=ahL f o K (tf K f o) hk hc.1 hc.2 (RA hk hf ho)
   by_cases he:(tf K f o).2.2=0
   ·have hd:p8 f o=((tf K f o).1,(tf K f o).2.1):=by unfold p8; rw[hk]; simp only[aX hc,aX he]
    rw[hd];refine fg (g:=pDo) rfl ?_;rw[WC,hs,aL (by simp[he]),bO]
    generalize tf K f o=r at hx hy ⊢;obtain⟨f',⟨a1,a2,a3,a4,a5,ns,dt⟩,e⟩:=r;simp only at hx hy;rcases hx with rfl|⟨rfl,hn⟩<;>rcases hy with rfl|⟨rfl,hm⟩
    ·rfl
    ·rw[oN] at hm; subst hm; rfl
    ·rw[oN] at hn; subst hn; rfl
    ·rw[oN] at hn hm; subst hn; subst hm; rfl
   ·refine bad (tf K f o).2.2 (by unfold p8; rw[hk]; simp only[aX hc,aL he]) [dB (tf K f o).1 o (tf K f o).2.1 x y] _ ?_ (ahM f o _ _)
    rw[hs,aX (by simpa using he)]
  ·refine bad 1 (by unfold p8; rw[hk]; simp only[aL hc]) [] [.cells [.int .i64 1]] ?_ ?_
   ·rw[ahJ f o K hk hc,c8]
   ·rw[c8]; exact W8 f o 1
def Wd(ae:List Node)(i:Int):Nat:=(bl ae i).data.length
def km(m:AM Bool):List Int:=m.map Prod.fst
def yq(ae:List Node)(l:List Int):Nat:=(l.map (Wd ae)).sum
structure Seen(ae:List Node)(m:AM Bool):Prop where
 nd:(km m).Nodup
 tr:∀p,p∈m->p.2=true
 inn:∀k,k∈km m->(find ae k).isSome=true
inductive Rch(ae:List Node):Int->Int->Prop
 |one {i:Int} {e:gM}:e∈(bl ae i).bc->Rch ae i e.ar
 |step {i x:Int} {e:gM}:e∈(bl ae i).bc->Rch ae e.ar x->Rch ae i x
theorem JA:∀(m:AM Bool)(k:Int),k∈km m->∃v,eY m k=some v
 | [],k,h=>by grind [km]
 |(a,v)::m,k,h=>by
  rw[eY];split
  ·simp
  ·refine JA m k ?_
   grind [km]
theorem Seen.get{ae:List Node}{m:AM Bool}(h:Seen ae m)(k:Int):(eY m k).getD false=true↔k∈km m:=by
 constructor
 ·intro hg;cases hm:eY m k with
  |none=>grind
  |some v=>exact eK.2 ⟨_,xy _ _ _ hm,rfl⟩
 ·intro hk;obtain⟨v,hv⟩:=JA m k hk;have:=h.tr _ (xy _ _ _ hv)
  grind
def JB:∀(m:AM Bool)(k:Int)(v:Bool),k∉km m->kL m k v=m++[(k,v)]
 | [],k,v,_=>rfl
 |(a,w)::m,k,v,h=>by
  simp only[km,aF,bI,pb] at h;rw[kL,aL h.1,JB m k v h.2]; rfl
theorem Seen.put{ae:List Node}{m:AM Bool}(h:Seen ae m){k:Int}(hk:k∉km m)(hf:(find ae k).isSome=true):Seen ae (kL m k true)/\km (kL m k true)=km m++[k]:=by
 rw[JB m k _ hk];have e:km (m++[(k,true)])=km m++[k]:=by simp[km]
 refine⟨⟨?_,fun p hp=>?_,fun x hx=>?_⟩,e⟩
 ·rw[e];refine lu.2 ⟨h.nd,dv,fun a ha b hb=>?_⟩
  grind
 ·rcases bo.1 hp with hp|hp
  ·exact h.tr p hp
  grind
 ·rw[e] at hx;rcases bo.1 hx with hx|hx
  ·exact h.inn x hx
  grind
def abI{t:Tree}{dG:Int->Nat}(h:dU t dG 0)(i:Int):Wd t.ae i<=4096:=by
 unfold Wd bl;cases hi:find _ i with
 |none=>simp[Node.zero]
 |some n =>
  rcases h.kind _ _ hi with h1|h1
  ·exact(h.file _ _ hi h1).2.2
  ·simp[h.dir _ _ hi h1]
theorem NZ{t:Tree}{dG:Int->Nat}(h:dU t dG 0):∀l:List Int,yq t.ae l<=4096*l.length
 | []=>by simp[yq]
 |i::l=>by
  have h1:=abI h i;have h2:=NZ h l
  grind [yq]
theorem Seen.len{t:Tree}{dG:Int->Nat}(h:dU t dG 0){m:AM Bool}(hs:Seen t.ae m):(km m).length<=200:=by
 have:=JD _ _ hs.nd (fun x hx=>by
  obtain⟨n,hn⟩:=fz.1 (hs.inn x hx);exact eK.2 ⟨n,(cD hn).1,(cD hn).2⟩)
 have h2:=h.ae
 grind
structure Fol(ae:List Node)(r i:Int)(l:List gM)(s s':Int×AM Bool):Prop where
 seen:Seen ae s'.2
 sum:s'.1=(Wd ae r:Int)+yq ae (km s'.2)
 sub:∀x,x∈km s.2->x∈km s'.2
 all:∀e,e∈l->e.ar∈km s'.2
 new:∀x,x∈km s'.2->x∈km s.2\/((∀e,e∈(bl ae x).bc->e.ar∈km s'.2)/\Rch ae i x)
def I3{t:Tree}{dG:Int->Nat}(h:dU t dG 0)(r:Int):∀(f:Nat)(ar:Int)(s:Int×AM Bool),(∀n,find t.ae ar=some n->n.kind=2->13<f+dG ar)->0<f ->
  Seen t.ae s.2->s.1+Wd t.ae ar=(Wd t.ae r:Int)+yq t.ae (km s.2)->Fol t.ae r ar (bl t.ae ar).bc s (mQ t.ae f ar s):=by
 intro f;induction f with
 |zero=>simp
 |succ f ih =>
  intro ar s hd _ hs hq
  have key:∀(l:List gM)(u:Int×AM Bool),(∀e,e∈l->e∈(bl t.ae ar).bc)->Seen t.ae u.2->u.1=(Wd t.ae r:Int)+yq t.ae (km u.2) ->
    Fol t.ae r ar l u (l.foldl (fun s e=>if !((eY s.2 e.ar).getD false) then mQ t.ae f e.ar (s.1,kL s.2 e.ar true) else s) u):=by
   intro l;induction l with
   |nil=>intro u _ h1 h2; exact⟨h1,h2,fun x hx=>hx,fun e he=>(by cases he),fun x hx => .inl hx⟩
   |cons e l ihl =>
    intro u hl h1 h2;rw[cF];have he:=hl e bE
    by_cases hk:e.ar∈km u.2
    ·rw[aL (by rw[(h1.get _).2 hk]; simp)]
     have g:=ihl u (fun x hx=>hl x (bw _ hx)) h1 h2
     refine⟨g.seen,g.sum,g.sub,fun x hx=>?_,g.new⟩
     rcases bI.1 hx with rfl|hx
     ·exact g.sub _ hk
     ·exact g.all x hx
    ·have hb:(eY u.2 e.ar).getD false=false:=by
      cases hc:(eY u.2 e.ar).getD false with
      |false=>rfl
      |true=>exact absurd ((h1.get _).1 hc) hk
     rw[hb,aX (show(!false)=true from rfl)]
     obtain⟨n,hi⟩:∃n,find t.ae ar=some n:=by
      cases hi:find t.ae ar with
      |none=>simp[bl,hi,Node.zero] at he
      |some n=>simp
     have he':e∈n.bc:=by simpa[bl,hi] using he
     have hk2:n.kind=2:=by
      rcases h.kind _ _ hi with h3|h3
      ·rw[(h.file _ _ hi h3).1] at he'; cases he'
      ·exact h3
     obtain⟨_,_,e1,_,m,hm,hu⟩:=h.CG _ _ _ hi he';obtain⟨p1,p2⟩:=h1.put hk (by rw[hm]; rfl)
     have hsum:yq t.ae (km (kL u.2 e.ar true))=yq t.ae (km u.2)+Wd t.ae e.ar:=by rw[p2]; simp[yq]
     have g1:=ih e.ar (u.1,kL u.2 e.ar true) (fun n' hn' hk'=>by
      rw[hm] at hn'; cases hn';have h3:=(h.qI _ _ hm hk' e1).1;have h4:=hd n hi hk2;rw[hu hk'] at h3;omega) (by
      have h4:=hd n hi hk2;have h5:=(h.deep _ _ hi hk2).1;omega) p1 (by simp only; rw[hsum,h2]; omega)
     have g2:=ihl _ (fun x hx=>hl x (bw _ hx)) g1.seen g1.sum
     have hin:e.ar∈km (kL u.2 e.ar true):=by rw[p2]; simp
     refine⟨g2.seen,g2.sum,fun x hx=>g2.sub _ (g1.sub _ (by simp only; rw[p2]; simp[hx])),fun x hx=>?_,fun x hx=>?_⟩
     ·rcases bI.1 hx with rfl|hx
      ·exact g2.sub _ (g1.sub _ hin)
      ·exact g2.all x hx
     ·rcases g2.new x hx with hx|hx
      ·rcases g1.new x hx with hx|⟨hx,hr⟩
       ·simp only at hx;rw[p2] at hx;rcases bo.1 hx with hx|hx
        ·exact .inl hx
        ·rw[bQ.1 hx];exact .inr ⟨fun e' he'=>g2.sub _ (g1.all e' he'),.one he⟩
       ·exact .inr ⟨fun e' he'=>g2.sub _ (hx e' he'),.step he hr⟩
      ·exact .inr hx
  have hw:nz (s.1+(bl t.ae ar).data.length)=s.1+Wd t.ae ar:=by
   have h1:=abI h r;have h2:=NZ h (km s.2);have h3:=hs.len h;have hW:((bl t.ae ar).data.length:Int)=(Wd t.ae ar:Int):=rfl;rw[hW];exact gw aI aI
  have g:=key (bl t.ae ar).bc (s.1+Wd t.ae ar,s.2) (fun _ h=>h) hs hq
  rw[mQ,hw];exact⟨g.seen,g.sum,g.sub,g.all,g.new⟩
def InB(ae:List Node)(ar x:Int):Prop:=∃d e,d∈ae/\d.kind=2/\iL ae d.ar ar=true/\e∈d.bc/\e.ar=x
theorem ahE{t:Tree}{dG:Int->Nat}(h:dU t dG 0){ar:Int}:∀ {i x:Int},Rch t.ae i x->(∃d,find t.ae i=some d/\(d.kind=2->iL t.ae i ar=true))->InB t.ae ar x:=by
 intro i x hr;induction hr with
 |one he =>
  rintro⟨d,hd,hb⟩;rename_i i e;have he':e∈d.bc:=ka
  have hk:d.kind=2:=by
   rcases h.kind _ _ hd with h3|h3
   ·rw[(h.file _ _ hd h3).1] at he'; grind
   omega
  exact⟨d,e,(cD hd).1,hk,by rw[(cD hd).2]; grind,he',rfl⟩
 |step he _ ih =>
  rintro⟨d,hd,hb⟩;rename_i i x e _;have he':e∈d.bc:=ka
  have hk:d.kind=2:=by
   rcases h.kind _ _ hd with h3|h3
   ·rw[(h.file _ _ hd h3).1] at he'; grind
   omega
  obtain⟨_,_,e1,_,m,hm,hu⟩:=h.CG _ _ _ hd he';refine ih ⟨m,hm,fun hk'=>?_⟩
  by_cases ho:e.ar=ar
  ·rw[ho]; simp[dU.oV]
  ·rw[h.su hm hk' e1 ho]
   grind
theorem HM{t:Tree}{dG:Int->Nat}(h:dU t dG 0){ar:Int}{d:Node}(hd:find t.ae ar=some d)(hk:d.kind=2) :
  ∃K:List Int,K.Nodup/\(∀x,x∈K↔InB t.ae ar x)/\(∀x,x∈K->(find t.ae x).isSome=true)/\lB t.ae ar=((K.length:Int),(yq t.ae K:Int)):=by
 have g:=I3 h ar 14 ar (0,[]) (fun n hn hk=>aI) aI ⟨by simp[km],fun p hp=>(by cases hp),fun k hk=>(by simp[km] at hk)⟩ (by simp[km,yq])
 have hu:lB t.ae ar=(((mQ t.ae 14 ar (0,[])).2.length:Int),(mQ t.ae 14 ar (0,[])).1):=by
  simp_all [lB,bl]
 generalize mQ t.ae 14 ar (0,[])=s' at g hu;have w0:Wd t.ae ar=0:=by simp[Wd,bl,hd,h.dir _ _ hd hk]
 have cl:∀x,x∈km s'.2->∀e,e∈(bl t.ae x).bc->e.ar∈km s'.2:=fun x hx=>by
  rcases g.new x hx with h1|h1
  ·simp[km] at h1
  ·exact h1.1
 refine⟨km s'.2,g.seen.nd,fun x=>⟨fun hx=>?_,fun hx=>?_⟩,g.seen.inn,?_⟩
 ·rcases g.new x hx with h1|h1
  ·simp[km] at h1
  grind [ahE,dU.oV]
 ·obtain⟨p,e,hp,hpk,hb,he,rfl⟩:=hx
  have key:∀(m:Nat)(i:Int)(n:Node),find t.ae i=some n->n.kind=2->dG i=m->iL t.ae i ar=true->∀e,e∈n.bc->e.ar∈km s'.2:=by
   intro m;induction m with
   |zero =>
    intro i n hi hnk hm hb e he
    by_cases ho:i=ar
    ·subst ho;exact g.all e (by simpa[bl,hi] using he)
    ·by_cases h1:i=1
     ·grind [dU.qP]
     ·have:=(h.qI _ _ hi hnk h1).1; omega
   |succ m ihm =>
    intro i n hi hnk hm hb e he
    by_cases ho:i=ar
    ·subst ho;exact g.all e (by simpa[bl,hi] using he)
    ·have h1:i≠1:=fun hh=>by subst hh; have:=h.CF; omega
     rw[h.su hi hnk h1 ho] at hb;obtain⟨a,q,hq,hqk⟩:=h.qI _ _ hi hnk h1;obtain⟨p,e',p1,p2,p3,p4⟩:=h.named hi hnk h1 (by have:=(h.num _ _ hi).1; omega)
     have:=ihm n.up p p1 p2 aI hb e' p3;rw[p4] at this
     grind
  have hpf:find t.ae p.ar=some p:=(ig h.lP.mB).2 ⟨hp,rfl⟩
  grind
 ·rw[hu,g.sum,w0];simp[km]
def Nx(e:Int)(ae:List Node)(met:List Bool):List Bool:=List.zipWith (fun n b=>b||n.ar==e) ae met
def VZ(ae:List Node)(ar:Int)(met:List Bool)(d:Node):List Bool:=if d.kind==2&&iL ae d.ar ar then d.bc.foldl (fun m e=>Nx e.ar ae m) met else met
def sy(ae:List Node)(ar:Int):List Bool:=ae.foldl (VZ ae ar) (ae.map fun _=>false)
def OU(met:List Bool):Nat:=met.countP id
def HO(ae:List Node)(met:List Bool):Nat:=((ae.zip met).map fun p=>if p.2 then p.1.data.length else 0).sum
def Gc(e:Int)(p:Node->Bool):∀l:List Node,Nx e l (l.map p)=l.map fun n=>p n||n.ar==e
 | []=>rfl
 |n::l=>by
  have:=Gc e p l;simp only[Nx,aF,List.zipWith_cons_cons] at this ⊢;rw[this]
def Eb(ae:List Node):∀(l:List gM)(p:Node->Bool),l.foldl (fun m e=>Nx e.ar ae m) (ae.map p)=ae.map fun n=>p n||l.any fun e=>n.ar==e.ar
 | [],p=>dv
 |e::l,p=>by
  rw[cF,Gc,Eb ae l];simp only[jS,Bool.or_assoc]
def yX(ae:List Node)(ar:Int):∀(l:List Node)(p:Node->Bool),∃q:Node->Bool,l.foldl (VZ ae ar) (ae.map p)=ae.map q /\
  ∀n,q n=true↔p n=true\/∃d e,d∈l/\d.kind=2/\iL ae d.ar ar=true/\e∈d.bc/\e.ar=n.ar
 | [],p=>⟨p,rfl,fun n=>dv⟩
 |d::l,p=>by
  rw[cF,VZ]
  by_cases hd:(d.kind==2&&iL ae d.ar ar)=true
  ·rw[aX hd,Eb];obtain⟨q,h1,h2⟩:=yX ae ar l fun n=>p n||d.bc.any fun e=>n.ar==e.ar
   refine⟨q,h1,fun n=>?_⟩
   rw[h2];rw[bt,eu] at hd;simp only[cS,ku,eu,bI];constructor
   ·rintro((h|⟨e,h3,h4⟩)|⟨d',e,h3,h4⟩)
    ·exact .inl h
    ·exact .inr ⟨d,e,.inl rfl,hd.1,hd.2,h3,h4.symm⟩
    ·exact .inr ⟨d',e,.inr h3,h4⟩
   ·rintro(h|⟨d',e,rfl|h3,h4,h5,h6,h7⟩)
    ·exact .inl (.inl h)
    ·exact .inl (.inr ⟨e,h6,h7.symm⟩)
    ·exact .inr ⟨d',e,h3,h4,h5,h6,h7⟩
  ·rw[aL hd];obtain⟨q,h1,h2⟩:=yX ae ar l p;refine⟨q,h1,fun n=>?_⟩
   rw[h2];rw[bt,eu] at hd;simp only[bI];constructor
   ·rintro(h|⟨d',e,h3,h4⟩)
    ·exact .inl h
    ·exact .inr ⟨d',e,.inr h3,h4⟩
   ·rintro(h|⟨d',e,rfl|h3,h4,h5,h6⟩)
    ·exact .inl h
    ·exact absurd ⟨h4,h5⟩ hd
    ·exact .inr ⟨d',e,h3,h4,h5,h6⟩
def xe(ae:List Node)(ar:Int):∃q:Node->Bool,sy ae ar=ae.map q/\∀n,q n=true↔InB ae ar n.ar:=by
 obtain⟨q,h1,h2⟩:=yX ae ar ae fun _=>false
 exact⟨q,h1,fun n=>by rw[h2]; simp[InB]⟩
def Ds(q:Node->Bool):∀l:List Node,OU (l.map q)=(l.filter q).length
 | []=>rfl
 |n::l=>by
  have:=Ds q l;simp only[OU,aF,lZ,eZ,id] at this ⊢;split<;>simp[this]
def HH(q:Node->Bool):∀l:List Node,HO l (l.map q)=((l.filter q).map fun n=>n.data.length).sum
 | []=>rfl
 |n::l=>by
  have:=HH q l;simp only[HO,aF,List.zip_cons_cons,List.sum_cons,eZ] at this ⊢;rw[this];split<;>simp
def G3{t:Tree}{dG:Int->Nat}(h:dU t dG 0){ar:Int}{d:Node}(hd:find t.ae ar=some d)(hk:d.kind=2) :
  lB t.ae ar=((OU (sy t.ae ar):Int),(HO t.ae (sy t.ae ar):Int)):=by
 obtain⟨K,k1,k2,k3,k4⟩:=HM h hd hk;obtain⟨q,q1,q2⟩:=xe t.ae ar;have hasc:=h.lP.mB
 have hp:K.Perm ((t.ae.filter q).map Node.ar):=by
  refine(List.perm_ext_iff_of_nodup k1 ?_).2 fun x=>?_
  ·have:((t.ae.filter q).map Node.ar).Pairwise (· < ·):=jU.2 (jR _ hasc)
   exact this.imp fun h=>aI
  ·rw[k2];constructor
   ·intro hx;obtain⟨n,hn⟩:=fz.1 (k3 x ((k2 x).2 hx));refine eK.2 ⟨n,ei.2 ⟨(cD hn).1,(q2 n).2 ?_⟩,(cD hn).2⟩;rw[(cD hn).2]; exact hx
   ·intro hx;obtain⟨n,hn,rfl⟩:=eK.1 hx;exact(q2 n).1 (ei.1 hn).2
 rw[k4,q1,Ds,HH];have h1:K.length=(t.ae.filter q).length:=by rw[hp.length_eq,ef]
 have h2:yq t.ae K=((t.ae.filter q).map fun n=>n.data.length).sum:=by
  unfold yq;rw[(hp.map (Wd t.ae)).sum_nat,gH];congr 1;refine cX fun n hn=>?_
  have:find t.ae n.ar=some n:=(ig hasc).2 ⟨(ei.1 hn).1,rfl⟩;simp[Wd,bl,this]
 rw[h1,h2]
abbrev Fl(n:Node):Prop:=n.bc.length<=64/\n.data.length<=4096
structure FB(k:Nat)(f:aa):Prop where
 ok:vk f
 past:f.s.eN.length<=k
structure C6(a:vU):Prop where
 names:a.names.length<=90000
 data:a.data.length<=90000
def FB.mono{k m:Nat}{f:aa}(h:FB k f)(hm:k<=m):FB m f:=⟨h.ok,aZ h.past hm⟩
def Rt.XO{t:Tree}(h:Rt t){n:Node}(hn:n∈t.ae):Fl n:=by
 obtain⟨dG,h⟩:=h;have hi:find t.ae n.ar=some n:=(ig h.lP.mB).2 ⟨hn,rfl⟩;refine⟨(h.yo _ _ hi).2,?_⟩;rcases h.kind _ _ hi with h1|h1
 ·exact(h.file _ _ hi h1).2.2
 ·rw[h.dir _ _ hi h1]; simp
def Bv(t:Tree)(tk:List mY)(c:Int):∀(l:List Node)(y:List Int),(lV t tk c l y).length<=l.length/\∀p,p∈lV t tk c l y->p.node∈l
 | [],y=>⟨by simp[lV],fun p h=>by simp[lV] at h⟩
 |n::r,[]=>⟨by simp[lV],fun p h=>by simp[lV] at h⟩
 |n::r,x::y=>by
  obtain⟨h1,h2⟩:=Bv t tk c r y;rw[lV];refine⟨?_,fun p hp=>?_⟩
  ·rw[aA,au];split<;>simp<;>omega
  ·rcases bo.1 hp with hp|hp
   ·split at hp
    ·rw[bQ.1 hp]; exact bE
    ·cases hp
   ·exact bw _ (h2 p hp)
def FB.put{k:Nat}{f:aa}(h:FB k f)(hk:k<=89000){t:Tree}(ht:Rt t){H:List fA}(hH:uD H)(hl:H.length<=64){Q:List dQ}(hQ:pz Q)(hq:Q.length<=16):FB (k+200) ⟨qA f.s t,H,Q⟩:=by
 have hf:=h.ok;have hp:=h.past;unfold qA;split
 ·exact⟨⟨hf.rt,hf.len,hf.eN,hf.Es,hf.dR,hH,hl,hQ,hq⟩,by simp only; omega⟩
 ·obtain⟨h1,h2⟩:=Bv t f.s.dR (nz (f.s.tick+1)) f.s.now.ae f.s.since;have h3:=hf.rt.sz.ae;have h4:(f.s.eN++lV t f.s.dR (nz (f.s.tick+1)) f.s.now.ae f.s.since).length<=k+200:=by rw[aA]; omega
  refine⟨⟨ht,dv,by simp only; omega,fun p hp=>?_,hf.dR,hH,hl,hQ,hq⟩,h4⟩
  rcases bo.1 hp with hp|hp
  ·exact hf.Es p hp
  ·exact hf.rt.XO (h2 p hp)
def FB.settle{k:Nat}{f:aa}(h:FB k f)(hk:k<=89000){t:Tree}(ht:Rt t){Q:List dQ}(hQ:pz Q)(hq:Q.length<=16):FB (k+200) (j6 f t Q).1:=by
 unfold j6;split
 ·exact h.mono aI
 split
 ·exact h.mono aI
 ·exact h.put hk (A7 _ _ _ ht) h.ok.holds h.ok.dD (F4 hQ) (aZ (Bj _ _) hq)
def JF{t:Tree}{l:List fA}(hl:uD l)(hn:l.length<=64)(c g ar:Int):uD (vJ t l c g ar).1/\(vJ t l c g ar).1.length<=64:=by
 have hlow:=D8 hl c g;unfold vJ;split
 ·exact⟨hl,hn⟩
 split
 ·exact⟨hl,hn⟩
 split
 ·exact⟨hl,hn⟩
 split
 ·exact⟨hl,hn⟩
 split
 ·exact⟨hl,hn⟩
 ·rename_i hi dD;simp only[bj] at dD
  have hat:∀(i:Nat)(y:fA),l[i]?=some y->decide (ik y c g<0)=false->xi ⟨c,g,ar⟩ y:=by
   intro i y hy hge;have h1:=hlow.le
   by_cases he:i=mw (fun x=>decide (ik x c g<0)) l
   ·subst he;have hne:¬(y.bA=c/\y.handle=g):=fun hh=>hi (by unfold pn; rw[hy]; simpa using(DU y c g).2 hh)
    have cL:=sa y c g;simp only[dz,cL] at hge;unfold xi; simp only;omega
   ·have cL:=sa y c g;simp only[dz,cL] at hge
    have hgt:mw (fun x=>decide (ik x c g<0)) l<i:=by
     rcases bD (mw (fun x=>decide (ik x c g<0)) l) i with h|h
     ·exact h
     ·exact absurd ((hlow.lt i y hy).2 aI) (by simp only[bj,cL]; exact hge)
    have hi':=(aj.1 hy).1;have hz:l[mw (fun x=>decide (ik x c g<0)) l]?=some l[mw (fun x=>decide (ik x c g<0)) l]:=ai aI
    have hp:xi l[mw (fun x=>decide (ik x c g<0)) l] y:=by
     have:=(cm.1 hl) _ i aI hi' hgt;rw[<-(aj.1 hy).2]; exact this
    generalize l[mw (fun x=>decide (ik x c g<0)) l]=z at hz hp
    have hzl:¬ik z c g<0:=fun h=>by
     have:=(hlow.lt _ z hz).1 (by simpa using h)
     omega
    rw[sa] at hzl;unfold xi at hp ⊢; simp only;omega
  refine⟨Nf hl hlow (fun y hy h=>?_) (fun y hy h=>?_) (fun a b d h1 h2=>?_),by simp; have:=hlow.le; omega⟩
  ·simp only[bj,sa] at h; unfold xi; simp only; omega
  ·obtain⟨i,hy'⟩:=bV hy;exact hat i y hy' h
  ·unfold xi at *; omega
def Dr{t:Tree}{l:List fA}(hl:uD l)(c g:Int):uD (nD t l c g).2.1:=by
 unfold nD;split
 ·exact hl
 ·exact hl.sublist List.eraseP_sublist
def Ba(c:Int):∀(r l:List fA)(t:Tree),uD l->l.length<=64->uD (sR c r t l).2/\(sR c r t l).2.length<=64
 | [],l,t,h1,h2=>⟨h1,h2⟩
 |x::r,l,t,h1,h2=>by
  rw[sR];split
  ·exact Ba c r _ _ (Dr h1 _ _) (aZ (yW _ _ _ _) h2)
  ·exact Ba c r l t h1 h2
def FB.set{k:Nat}{f:aa}(h:FB k f){H:List fA}(hH:uD H)(hl:H.length<=64):FB (k+200) ⟨f.s,H,f.dS⟩ :=
 ⟨⟨h.ok.rt,h.ok.len,h.ok.eN,h.ok.Es,h.ok.dR,hH,hl,h.ok.dS,h.ok.sK⟩,by have:=h.past; simp only; omega⟩
def FB.adC{k:Nat}{f:aa}(h:FB k f)(hk:k<=89000)(o:jF)(ar:Int)(d:Bytes):FB (k+200) (rC f o ar d).1:=by
 have hr:=h.settle hk (h.ok.rt.put ar d) h.ok.dS h.ok.sK;unfold rC;simp only[];split
 ·exact h.mono aI
 split<;>exact hr
def sD{α:Type}{P:α->Prop}{c:Prop}[Decidable c]{a b:α}(ha:P a)(hb:P b):P (if c then a else b):=by
 split
 ·exact ha
 ·exact hb
def N6{P:Wk->Prop}{f:aa}{o:jF}(h55:P (Cf f o))(h56:P (Cg f o))(h57:P (Ce f o))(h58:P (uW f o))(h59:P (uU f o))(h60:P (F8 f o))(h61:P (Cs f o))(h62:P (Ch f o))(h63:P (xd f o))(h64:P (Gu f o))(h65:P (xP f o))(h66:P (Iv f o))(h67:P (xm f o))(h68:P (Cu f o))(h69:P (Gk f o))(h70:P (BX f o))(h71:P (AP f o))(h0:P (f,gx,0))(K:Nat):P (tf K f o) :=
 sD h55 (sD h56 (sD h57 (sD h58 (sD h59 (sD h60 (sD h61 (sD h62 (sD h63 (sD h64 (sD h65 (sD h66 (sD h67 (sD h68 (sD h69 (sD h70 (sD h71 (h0)))))))))))))))))
def XH{k:Nat}{f:aa}(h:FB k f)(hk:k<=89000)(K:Nat)(o:jF):FB (k+200) (tf K f o).1:=by
 have h0:FB (k+200) f:=h.mono aI;have hp {t:Tree} (ht:Rt t):=h.settle hk ht h.ok.dS h.ok.sK;refine N6 (P:=fun r=>FB (k+200) r.1) ?_ ?_ ?_ ?_ ?_ ?_ ?_ ?_ ?_ ?_ ?_ ?_ ?_ ?_ ?_ ?_ ?_ ?_ K
 ·unfold Cf; split<;>exact h0
 ·have hr:=hp (h.ok.rt.add (mW f.s.now o.dI).1 (mW f.s.now o.dI).2.1 o.n);unfold Cg; simp only[];split
  ·exact h0
  split
  ·exact h0
  split<;>exact hr
 ·have hr:=hp (h.ok.rt.ln (bl f.s.now.ae (kB f.s.now o.dI).1).ar (mW f.s.now o.vh).1 (mW f.s.now o.vh).2.1);unfold Ce; simp only[];split
  ·exact h0
  split
  ·exact h0
  split
  ·exact h0
  split<;>exact hr
 ·have hr:=hp (h.ok.rt.un (mW f.s.now o.dI).1 (mW f.s.now o.dI).2.1);unfold uW; simp only[];split
  ·exact h0
  split
  ·exact h0
  split<;>exact hr
 ·have hr:=hp (h.ok.rt.mv (mW f.s.now o.dI).1 (mW f.s.now o.dI).2.1 (mW f.s.now o.vh).1 (mW f.s.now o.vh).2.1);unfold uU; simp only[];split
  ·exact h0
  split
  ·exact h0
  split
  ·exact h0
  split
  ·exact h0
  split<;>exact hr
 ·unfold F8; simp only[];split
  ·exact h0
  split<;>exact h0
 ·unfold Cs; simp only[]; split<;>exact h0
 ·obtain⟨g1,g2⟩:=JF (t:=f.s.now) h.ok.holds h.ok.dD o.bA o.handle (bl f.s.now.ae (kB f.s.now o.dI).1).ar;unfold Ch; simp only[];split
  ·exact h0
  split
  ·exact h0
  ·exact h.set g1 g2
 ·have hr:=h.put hk (h.ok.rt.close f.holds o.bA o.handle) (Dr (t:=f.s.now) h.ok.holds o.bA o.handle) (aZ (yW _ _ _ _) h.ok.dD) h.ok.dS h.ok.sK;unfold xd; simp only[];split
  ·exact h0
  ·exact hr
 ·unfold Gu;split
  ·exact h0
  split<;>exact h0
 ·unfold xP;split
  ·exact h0
  split
  ·exact h0
  split
  ·exact h0
  ·exact h.adC hk o _ _
 ·unfold Iv;split
  ·exact h0
  ·exact h.adC hk o _ _
 ·obtain⟨g1,g2⟩:=Gs (t:=f.s.now) h.ok.dS h.ok.sK (bl f.s.now.ae (kB f.s.now o.dI).1).ar o.n o.m;have hr:=h.settle hk h.ok.rt g1 g2;unfold xm; simp only[];split
  ·exact h0
  split
  ·exact h0
  split<;>exact hr
 ·unfold Cu; simp only[];split
  ·exact h0
  split
  ·exact h0
  ·rename_i hh;unfold takeN at hh ⊢;split
   ·exact h0
   split
   ·exact h0
   split
   ·exact h0
   ·rename_i dD;refine⟨⟨h.ok.rt,h.ok.len,h.ok.eN,h.ok.Es,?_,h.ok.holds,h.ok.dD,h.ok.dS,h.ok.sK⟩,by have:=h.past; simp only; omega⟩
    simp only[cS,bj,pb] at dD;simp; omega
 ·unfold Gk; simp only[];split
  ·exact h0
  split
  ·exact h0
  split<;>exact h0
 ·unfold BX; simp only[];split
  ·exact h0
  ·unfold ru;split
   ·exact h0
   ·refine⟨⟨h.ok.rt,h.ok.len,aZ (bT _ _) h.ok.eN,fun p hp=>h.ok.Es p (ei.1 hp).1,aZ (bT _ _) h.ok.dR,h.ok.holds,h.ok.dD,h.ok.dS,h.ok.sK⟩,?_⟩
    have:=h.past;have h2:=bT (vM (f.s.dR.filter (rF o.n))) f.s.eN;simp only; omega
 ·obtain⟨g1,g2⟩:=Ba o.bA f.holds f.holds f.s.now h.ok.holds h.ok.dD;exact h.put hk (h.ok.rt.gone o.bA f.holds f.holds) g1 g2 h.ok.dS h.ok.sK
 ·exact h0
def Ry{k:Nat}{f:aa}(h:FB k f)(hk:k<=89000)(o:jF):FB (k+200) (p8 f o).1:=by
 unfold p8;split
 ·exact h.mono aI
 ·split
  ·split
   ·exact XH h hk _ o
   ·exact h.mono aI
  ·exact h.mono aI
def V4{P:Node->Prop}{m:AM Node}(h:∀k n,eY m k=some n->P n)(n:Node)(hn:P n):∀k x,eY (kL m n.ar n) k=some x->P x:=by
 intro k x hx;rw[jA] at hx;split at hx
 ·injection hx with hx; rw[<-hx]; exact hn
 ·exact h k x hx
def Er{P:Node->Prop}(a:Int):∀(l:List pv)(m:AM Node),(∀k n,eY m k=some n->P n)->(∀p,p∈l->P p.node)->∀k n,eY (l.foldl (mV a) m) k=some n->P n
 | [],m,h,hl=>h
 |p::r,m,h,hl=>by
  rw[cF];refine Er a r _ ?_ (fun p hp=>hl p (bw _ hp))
  unfold mV;split
  ·exact V4 h _ (hl p bE)
  ·exact h
def JC{P:Node->Prop}(a:Int):∀(l:List Node)(y:List Int)(m:AM Node),(∀k n,eY m k=some n->P n)->(∀p,p∈l->P p)->∀k n,eY (sd a l y m) k=some n->P n
 | [],y,m,h,hl=>h
 |n::r,[],m,h,hl=>h
 |n::r,x::y,m,h,hl=>by
  rw[sd];refine JC a r y _ ?_ (fun p hp=>hl p (bw _ hp))
  split
  ·exact V4 h _ (hl n bE)
  ·exact h
def Yj{f:aa}(hf:vk f)(id:Int):∀n,n∈(vo f.s id).2.1->Fl n:=by
 unfold vo;split
 ·rename_i x _;intro n hn;have:=Bm n _ hn;refine GC (P:=Fl) ?_ 200001 x.ar ([],[]) (fun n h=>by cases h) n this
  exact JC x.at' _ _ _ (Er x.at' _ _ (fun k n h=>by cases h) hf.Es) (fun n hn=>hf.rt.XO hn)
 ·exact fun n h=>by cases h
def JN{P:Node->Prop}{all:AM Node}(hall:∀k n,eY all k=some n->P n):∀(p:List Bytes)(o:Option Node),(∀n,o=some n->P n)->∀n,(jm all p o).1=some n->P n
 | [],o,ho,n,h=>ho n h
 |s::r,o,ho,n,h=>by
  rw[jm] at h;split at h
  ·exact ho n h
  ·split at h
   ·exact ho n h
   ·exact JN hall r _ (fun m hm=>hall _ _ hm) n h
def nk{a:vU}(h1:a.names=[])(h2:a.data=[]):C6 a:=⟨by rw[h1]; simp,by rw[h2]; simp⟩
def Ha(e:Int):C6 (hV e):=nk rfl rfl
def Qx{f:aa}(h:vk f)(K:Nat)(o:jF):C6 (tf K f o).2.1:=by
 have h0:C6 gx:=nk rfl rfl;have hv (i:Int) (d:Bytes):C6 (rC f o i d).2.1:=nk (tI f o i d).1 (tI f o i d).2;refine N6 (P:=fun r=>C6 r.2.1) ?_ ?_ ?_ ?_ ?_ ?_ ?_ ?_ ?_ ?_ ?_ ?_ ?_ ?_ ?_ ?_ ?_ ?_ K
 ·unfold Cf; split<;>exact nk rfl rfl
 ·unfold Cg; simp only[]; repeat' split
  all_goals exact nk rfl rfl
 ·unfold Ce; simp only[]; repeat' split
  all_goals exact nk rfl rfl
 ·unfold uW; simp only[]; repeat' split
  all_goals exact nk rfl rfl
 ·unfold uU; simp only[]; repeat' split
  all_goals exact nk rfl rfl
 ·unfold F8; simp only[];split
  ·exact h0
  split
  ·exact h0
  ·refine⟨?_,dv⟩;simp only[ef];obtain⟨dG,g⟩:=h.rt;have h64:=(x6 g (bl f.s.now.ae (kB f.s.now o.dI).1).ar).2
   have hfr:(zQ f.s.now.ae (bl f.s.now.ae (kB f.s.now o.dI).1).ar o.n).length<=64:=by
    unfold zQ;rw[wv];exact aZ (bT _ _) h64
   unfold wK;split
   ·simp
   split
   ·simp
   split
   ·simp only; omega
   ·simp only[cp]; omega
 ·unfold Cs; simp only[]; split<;>exact nk rfl rfl
 ·unfold Ch; simp only[]; repeat' split
  all_goals exact nk rfl rfl
 ·unfold xd; simp only[]; split<;>exact nk rfl rfl
 ·unfold Gu;split
  ·exact h0
  split
  ·exact h0
  ·rename_i hh _;obtain⟨_,i,hi⟩:=CW (f:=f) (o:=o) (by simpa using hh)
   have:=(xz h i).1;rw[hi];exact⟨dv,by simp only[cp,hU]; omega⟩
 ·unfold xP;split
  ·exact h0
  split
  ·exact h0
  split
  ·exact h0
  ·exact hv _ _
 ·unfold Iv;split
  ·exact h0
  ·exact hv _ _
 ·unfold xm; simp only[]; repeat' split
  all_goals exact nk rfl rfl
 ·unfold Cu; simp only[]; repeat' split
  all_goals exact nk rfl rfl
 ·have ha:=Yj h o.n;unfold Gk; simp only[]
  have hall:∀k n,eY (fT (vo f.s o.n).2.1 []) k=some n->Fl n:=fun k n h=>by
   rcases zj _ _ _ _ h with h|h
   ·exact ha n h
   ·cases h
  have hpe:=JN hall (gD o.dI).1 (eY (fT (vo f.s o.n).2.1 []) (vo f.s o.n).1) (fun n h=>hall _ _ h)
  split
  ·exact h0
  split
  ·exact h0
  split
  ·exact h0
  ·generalize (jm (fT (vo f.s o.n).2.1 []) (gD o.dI).1 (eY (fT (vo f.s o.n).2.1 []) (vo f.s o.n).1)).1=z at hpe ⊢;cases z with
   |none=>exact nk rfl rfl
   |some n =>
    obtain⟨g1,g2⟩:=hpe n rfl;exact⟨by simp only[bm,ef]; omega,by simp only[bm]; omega⟩
 ·unfold BX; simp only[]; split<;>exact nk rfl rfl
 ·exact nk rfl rfl
 ·exact nk rfl rfl
def G5{f:aa}(h:vk f)(o:jF):C6 (p8 f o).2:=by
 unfold p8;split
 ·exact Ha _
 ·split
  ·split
   ·exact Qx h _ o
   ·exact Ha _
  ·exact Ha _
def OE{t:Tree}{dG:Int->Nat}(h:dU t dG 0){q:Int}:∀(m:Nat)(i:Int)(n:Node),find t.ae i=some n->n.kind=2->dG i=m->iL t.ae i q=true->∃d,find t.ae q=some d/\d.kind=2:=by
 intro m;induction m with
 |zero =>
  intro i n hi hk hm hb
  by_cases ho:i=q
  ·subst ho; exact⟨n,hi,hk⟩
  by_cases h1:i=1
  ·subst h1; rw[dU.qP (fun hh=>ho hh.symm)] at hb; cases hb
  ·have:=(h.qI _ _ hi hk h1).1; omega
 |succ m ih =>
  intro i n hi hk hm hb
  by_cases ho:i=q
  ·subst ho; exact⟨n,hi,hk⟩
  have h1:i≠1:=fun hh=>by subst hh; have:=h.CF; omega
  rw[h.su hi hk h1 ho] at hb;obtain⟨a,p,hp,hpk⟩:=h.qI _ _ hi hk h1;exact ih _ p hp hpk aI hb
def wb{t:Tree}{dG:Int->Nat}(h:dU t dG 0){q:Int}(hq:∀d,find t.ae q=some d->d.kind≠2):lB t.ae q=(0,0)/\OU (sy t.ae q)=0/\HO t.ae (sy t.ae q)=0:=by
 have hin:∀x,¬InB t.ae q x:=by
  rintro x ⟨d,e,hd,hk,hb,_,_⟩;obtain⟨p,p1,p2⟩:=OE h _ _ d ((ig h.lP.mB).2 ⟨hd,rfl⟩) hk rfl hb;exact hq p p1 p2
 obtain⟨p,p1,p2⟩:=xe t.ae q;have hf:t.ae.filter p=[]:=List.filter_eq_nil_iff.2 fun n _ hn=>hin _ ((p2 n).1 hn)
 refine⟨?_,by rw[p1,Ds,hf]; rfl,by rw[p1,HH,hf]; rfl⟩
 unfold lB;rw[aL];intro hc;rw[bt,eu] at hc;obtain⟨d,hd⟩:=fz.1 hc.1;exact hq d hd (by simpa[bl,hd] using hc.2)
def HL{t:Tree}(h:Rt t)(q:Int):lB t.ae q=((OU (sy t.ae q):Int),(HO t.ae (sy t.ae q):Int)):=by
 obtain⟨dG,h⟩:=h
 by_cases hq:∃d,find t.ae q=some d/\d.kind=2
 ·obtain⟨d,h1,h2⟩:=hq;exact G3 h h1 h2
 ·obtain⟨h1,h2,h3⟩:=wb h (q:=q) fun d hd hk=>hq ⟨d,hd,hk⟩
  rw[h1,h2,h3]; rfl
def Qq{t:Tree}(h:Rt t)(i q:Int):lB (kK t i).1.ae q=lB t.ae q:=by
 obtain⟨dG,h⟩:=h;have h':=FH h i
 have hcase:(kK t i).1=t\/(∃m,find t.ae i=some m/\m.kind=1/\uM t.ae i=0/\(kK t i).1=⟨fR t.ae i,t.next,t.ak⟩):=by
  unfold kK;split
  ·exact .inl rfl
  split
  ·exact .inl rfl
  split
  ·exact .inl rfl
  ·rename_i h1 h2 h3;right;cases hi:find t.ae i with
   |none=>simp[hi] at h1
   |some m =>
    simp only[bl,hi,bm,eu,bj] at h2 h3;have hl:=h.eo _ _ hi;have hm:=(h.num _ _ hi).1;rw[aL aI] at hl;exact⟨m,rfl,(h.kind _ _ hi).resolve_right h2,aI,rfl⟩
 rcases hcase with e|⟨m,hm,hmk,hc,e⟩
 ·rw[e]
 rw[e] at h' ⊢;have hff:=mu h.lP.mB i
 have hne:∀j n,find t.ae j=some n->n.kind=2->j≠i:=by
  rintro j n hj hk rfl;rw[hm] at hj; cases hj;omega
 have fd:∀j n,find t.ae j=some n->n.kind=2->find (fR t.ae i) j=some n:=fun j n hj hk=>by rw[hff,aL (hne j n hj hk),hj]
 have bel:∀(m:Nat)(j:Int)(n:Node),find t.ae j=some n->n.kind=2->dG j=m->iL (fR t.ae i) j q=iL t.ae j q:=by
  intro m;induction m with
  |zero =>
   intro j n hj hk hd
   by_cases ho:j=q
   ·subst ho;exact(dU.oV (t:=⟨fR t.ae i,t.next,t.ak⟩) j).trans (dU.oV j).symm
   by_cases h1:j=1
   ·subst h1;exact(dU.qP (t:=⟨fR t.ae i,t.next,t.ak⟩) fun hh=>ho hh.symm).trans (dU.qP fun hh=>ho hh.symm).symm
   ·have:=(h.qI _ _ hj hk h1).1; omega
  |succ m ih =>
   intro j n hj hk hd
   by_cases ho:j=q
   ·subst ho;exact(dU.oV (t:=⟨fR t.ae i,t.next,t.ak⟩) j).trans (dU.oV j).symm
   have h1:j≠1:=fun hh=>by subst hh; have:=h.CF; omega
   obtain⟨a,p,hp,hpk⟩:=h.qI _ _ hj hk h1;have b1:=h'.su (fd j n hj hk) hk h1 ho;rw[h.su hj hk h1 ho];exact b1.trans (ih _ p hp hpk aI)
 by_cases hq:∃d,find t.ae q=some d/\d.kind=2
 ·obtain⟨d,d1,d2⟩:=hq;obtain⟨K,k1,k2,k3,k4⟩:=HM h d1 d2;obtain⟨L,l1,l2,l3,l4⟩:=HM h' (fd q d d1 d2) d2
  have hin:∀x,InB (fR t.ae i) q x↔InB t.ae q x:=fun x=>by
   constructor
   ·rintro⟨d,e,hd,hk,hb,he,hx⟩;have hd':find (fR t.ae i) d.ar=some d:=(ig h'.lP.mB).2 ⟨hd,rfl⟩;rw[hff] at hd';split at hd'
    ·cases hd'
    ·exact⟨d,e,(cD hd').1,hk,by rw[<-bel _ _ d hd' hk rfl]; exact hb,he,hx⟩
   ·rintro⟨d,e,hd,hk,hb,he,hx⟩;have hd':find t.ae d.ar=some d:=(ig h.lP.mB).2 ⟨hd,rfl⟩;exact⟨d,e,(cD (fd _ _ hd' hk)).1,hk,by rw[bel _ _ d hd' hk rfl]; exact hb,he,hx⟩
  have hp:L.Perm K:=(List.perm_ext_iff_of_nodup l1 k1).2 fun x=>by rw[l2,k2]; exact hin x
  have hs:yq (fR t.ae i) L=yq t.ae K:=by
   unfold yq;rw[<-(hp.map (Wd t.ae)).sum_nat];congr 1;refine cX fun x hx=>?_
   obtain⟨d,e,hd,_,_,he,hxe⟩:=(k2 x).1 (hp.mem_iff.1 hx)
   have hxi:x≠i:=fun hh=>by
    have:=wa.2 ⟨d,e,hd,he,hxe.trans hh⟩;omega
   simp only[Wd,bl,hff,aL hxi]
  rw[k4,l4,hp.length_eq,hs]
 ·rw[(wb h fun d hd hk=>hq ⟨d,hd,hk⟩).1]
  refine(wb h' fun d hd hk=>?_).1
  have hd:find (fR t.ae i) q=some d:=hd;rw[hff] at hd;split at hd
  ·cases hd
  ·exact hq ⟨d,hd,hk⟩
def t0:Tree:=⟨[⟨1,2,0,[],[],1⟩],2,1⟩
def f0:aa:=⟨⟨t0,0,[0],[],[],1⟩,[],[]⟩
section
attribute [local irreducible] eX fM lC gK dX kr aq aU cr bJ
def c39:aq bW 39 [] []=some (.agg (aN t0),[]):=by
 refine aB ?_;simp only[aly,E39,EW,seval];rfl
def k39:=cP c39
def k38(M:aC):aU (aq bW) 38 [.agg [ba t0.ae,aH t0.next,aH t0.ak]] M=some (.agg (bM f0.s),M):=cO (c38 t0 mr) M
def c24:aq bW 24 [] []=some (.agg (cg f0),[]):=by
 refine aB ?_;have q:=k39;simp only[aN] at q;simp only[alh,E24,q,k38,bM,EW,seval];rfl
def k24:=cP c24
end
def rt0:Rt t0:=⟨_,V6⟩
def fb0:FB 0 f0:=by
 refine⟨⟨rt0,rfl,?_,?_,?_,List.Pairwise.nil,?_,List.Pairwise.nil,?_⟩,?_⟩<;>simp[f0]
abbrev IA(l:List jF):ag := .slice .sh (l.map XK)
def Fx(n:jF):(XK n).cells=eW n:=rfl
def Jr(n:jF):(eW n).length=8:=rfl
def N5(l:List jF):wid (l.map XK) 8=True:=pr XK _ (fun _=>rfl) l
def tkO(n:jF):List.take 8 (eW n)=eW n:=rfl
def shO(n:jF):List.map ag.shut (eW n)=eW n:=rfl
set_option linter.defProp false in
def EVO:=bR @Fx (bR @Jr (bR @N5 (bR @tkO (@shO))))
def xn(o:jF):Bool:=decide (5000<(o.data.length:Int))||(decide (1000<(o.dI.length:Int))||decide (1000<(o.vh.length:Int)))
def DQ(l:List jF):Bool:=if decide (50<(l.length:Int)) then true else l.any xn
def Nq{o:jF}(h:xn o=false):sN o:=by
 simp only[xn,jQ,dz] at h;exact⟨aI,aI,aI⟩
section
attribute [local irreducible] eX fM lC gK dX kr aq aU cr bJ
def c26(o:jF):aq bW 26 [XK o] []=some (.bool (xn o),[]):=by
 refine aB ?_;unfold xn
 cases h1:decide (5000<(o.data.length:Int))<;>cases h2:decide (1000<(o.dI.length:Int))<;>cases h3:decide (1000<(o.vh.length:Int)) <;>
  simp only[alk,E26,XK,eW,h1,h2,h3,er,dJ,fE,cT,EW,seval]
def k26(o:jF)(M:aC):aU (aq bW) 26 [.agg (eW o)] M=some (.bool (xn o),M):=cO (c26 o) M
def c25(xs:List jF):aq bW 25 [IA xs] []=some (.bool (DQ xs),[]):=by
 refine aB ?_;unfold DQ;cases h0:decide (50<(xs.length:Int))<;>simp only[alj,E25,h0,aE,af,aD,EVO,EW,seval]
 have hn:xs.length<=50:=by simp at h0; omega
 refine AZ (xs:=xs) aI (fun l (_:Unit)=>l.any xn) (fun _ i=>[(0,IA xs),(3,aH i)]) (fun _=>[]) (fun b=>some (ag.bool b,([]:aC))) (fun _=>?_) (fun pre x post _ h hx cL hw h0 hm hi=>?_) ()
 ·simp only[E25,bu,o5,EVO,EW,seval]
 ·have q:=fun M=>k26 x M
  have i1:=hi ();cases hl:xn x<;>rw[hl] at q<;>simp only[E25,cL,hx,hw,q,hl,jS,dJ,cT,EVO,EW,seval]
  exact i1
def k25 xs:=cP (c25 xs)
def lE{f:Nat}{vs:List ag}{M:aC}{x:ag×aC}(h:aU (aq bW) f vs M=some x):aU (aq Fi) f vs M=some x:=lD (lS h)
def k29 f o hf ho:=cP (c29 f o hf ho)
end
section
open Go.ChangeShapes Go.WideShapes Go.ChangeAt Go.RowKit Go.Deep
def laidOut:laidOutB Tryz.prog=true:=fy
section
variable {H:Type} {enc:TypeId×Value->H}
def yE{W W':World}(hb:Below W.heap.size W W'):∀ {ts:List TypeId} {vs:List Value} {ds:List (DataW H)} {p:List MemPlace},DataW.TrodAll enc Tryz.prog W 0 (fun _=>true) true ts vs ds p ->
  (∀t,t∈ts->Tryz.prog.readableRec t=true/\t<Tryz.prog.types.size)->(∀x∈p,x.block<W.heap.size)->DataW.TrodAll enc Tryz.prog W' 0 (fun b=>decide (b<W.heap.size)) true ts vs ds p
 | [],vs,ds,p,h,_,_=>by
  obtain⟨rfl,rfl,rfl⟩:=trodAll_nil h;exact trodAll_mk0
 |t::ts,vs,ds,p,h,ht,hp=>by
  obtain⟨v,vs',d,ds',p1,q,rfl,rfl,rfl,h1,h2⟩:=trodAll_cons h
  exact trodAll_cons_mk (Below.trod laidOut (ht t bE).1 (ht t bE).2 h1 hb (fun x hx=>hp x (fq _ hx)))
   (yE hb h2 (fun t ht'=>ht t (bw _ ht')) (fun x hx=>hp x (iC _ hx)))
abbrev E1(w:World):Nat->Nat->Prop:=oG SR [] w
def Xa{w:World}{b off:Nat}(h:b<w.heap.size):E1 w b off:=⟨h,fun id hid=>absurd hid (jL _),fun hx=>hx⟩
def lY(b off i:Nat):(⟨b,off,none⟩:Addr).add i=⟨b,off+i,none⟩:=by
 unfold Addr.add;split
 ·rename_i h; rw[h]; rfl
 ·rfl
def zY{w:World}{fuel t:Nat}{v:Value}{x:DataW H×List MemPlace}(ht:Tryz.prog.underlying t=some (.int .i64))(h:DataW.trod enc Tryz.prog w 0 (fun _=>true) true fuel t [v]=some x):∃n:Int,fS w (E1 w) (.int .i64 n) v:=by
 obtain⟨n,q,_,_⟩:=DataW.trod_int ht h;cases q;exact⟨n,.int _ _⟩
def HJ{w:World}{fuel t:Nat}{v:Value}{x:DataW H×List MemPlace}(ht:Tryz.prog.underlying t=some (.int .u8))(h:DataW.trod enc Tryz.prog w 0 (fun _=>true) true fuel t [v]=some x):∃b:UInt8,fS w (E1 w) (pf b) v:=by
 obtain⟨n,q,_,wf⟩:=DataW.trod_int ht h;cases q;have h3:IntKind.u8.min<=n/\n<=IntKind.u8.max:=by simpa[Lit.wf] using wf
 have e1:IntKind.u8.min=0:=mr;have e2:IntKind.u8.max=255:=mr;have e:n=((UInt8.ofNat n.toNat).toNat:Int):=by rw[UInt8.toNat_ofNat']; omega
 refine⟨UInt8.ofNat n.toNat,?_⟩;unfold pf;rw[<-e];exact .int _ _
def NY{w:World}{fuel t:Nat}{v:Value}{x:DataW H×List MemPlace}(ht:Tryz.prog.underlying t=some .string)(h:DataW.trod enc Tryz.prog w 0 (fun _=>true) true fuel t [v]=some x):∃s:Bytes,fS w (E1 w) (.str s) v:=by
 obtain⟨s,q,_,_⟩:=DataW.trod_string ht h;cases q;refine⟨s.data.toList,?_⟩;have:Go.Abs.bs s.data.toList=s:=by apply ByteArray.ext; simp[Go.Abs.bs]
 have h:=fS.str (w:=w) (iz:=E1 w) s.data.toList;rw[this] at h;exact h
def BW{α:Type}(P:Nat->α->Prop):∀(n:Nat),(∀i,i<n->∃a,P i a)->∃l:List α,l.length=n/\∀i a,l[i]?=some a->P i a
 |0,_=>⟨[],rfl,fun i a h=>by cases i<;>cases h⟩
 |n+1,h=>by
  obtain⟨l,hl,hp⟩:=BW P n (fun i hi=>h i aI)
  obtain⟨a,ha⟩:=h n aI;refine⟨l++[a],by simp[hl],fun i b hb=>?_⟩
  rcases bD i n with hi|hi
  ·rw[aO aI] at hb;exact hp i b hb
  ·rw[bg aI] at hb
   have:i=n:=by
    have:=(aj.1 hb).1;simp at this; omega
   subst this;simp[hl] at hb;subst hb; exact ha
def nN(w:World)(l:List ag)(cs:List Value):Prop:=l.length=cs.length/\∀(k:Nat)(c:ag)(v:Value),l[k]?=some c->cs[k]?=some v->fS w (E1 w) c v
def nN.one{w:World}{c:ag}{v:Value}(h:fS w (E1 w) c v):nN w [c] [v]:=⟨rfl,fun k c' v' h1 h2=>by
 match k with
 |0=>cases h1; cases h2; exact h
 |k+1=>cases h1⟩
def nN.app{w:World}{a b:List ag}{cs ds:List Value}(h:nN w a cs)(g:nN w b ds):nN w (a++b) (cs++ds):=⟨by simp[h.1,g.1],fun k c v h1 h2=>by
 rcases bD k a.length with hk|hk
 ·rw[aO hk] at h1;rw[aO (by rw[<-h.1]; exact hk)] at h2
  exact h.2 k c v h1 h2
 ·rw[bg hk] at h1;rw[bg (by rw[<-h.1]; exact hk),<-h.1] at h2
  exact g.2 _ c v h1 h2⟩
def nN.nil{w:World}:nN w [] []:=⟨rfl,fun k c v h1 _=>by cases h1⟩
def amR:DataW H->Nat
 | .slice es _=>es.length
 |_=>0
def EB{α:Type}{w:World}{fuel t e m:Nat}{v:Value}{x:DataW H×List MemPlace}{eC:α->List ag}{mk:α->ag}(ht:Tryz.prog.underlying t=some (.slice e))(hm:Tryz.prog.cellsOf e=m)(hm0:0<m)
  (hmk:∀a,(mk a).cells=eC a) (dD:∀a,(eC a).length=m)
  (he:∀(n:Nat)(cs:List Value)(y:DataW H×List MemPlace),cs.length=m->DataW.trod enc Tryz.prog w 0 (fun _=>true) true n e cs=some y->∃a,nN w (eC a) cs)
  (h:DataW.trod enc Tryz.prog w 0 (fun _=>true) true fuel t [v]=some x) :
  ∃l:List α,fS w (E1 w) (.slice .sh (l.map mk)) v/\l.length=amR x.1:=by
 rcases open_slice ht h with ⟨hcs,hxx⟩|⟨a,len,cap,mm,n,D,Pl,hcs,_,hl,_,hmm,hxx,hi⟩
 ·cases hcs;exact⟨[],fS.nil _ _ _,by rw[hxx]; rfl⟩
 ·cases hcs;simp only[aE] at hmm;obtain⟨b,off,spot⟩:=a;rw[hm] at hi
  have each:∀i,i<len->∃s:α,∃cs',w.cells? 0 ((⟨b,off,spot⟩:Addr).add (i*m)) m=some cs'/\cs'.length=m/\nN w (eC s) cs':=by
   intro i hi';obtain⟨cs',hcl,ht⟩:=hi i aI;have hln:cs'.length=m:=(World.cells?_some hcl).2.1;obtain⟨s,hr⟩:=he _ _ _ hln ht;exact⟨s,cs',hcl,hln,hr⟩
  obtain⟨l,hll,hlp⟩:=BW _ len each;refine⟨l,?_,by rw[hxx]; simp[amR,hll]⟩
  have hsp:len≠0->spot=none:=fun h0=>by
   obtain⟨s,cs',hcl,h6,_⟩:=each 0 aI;obtain⟨_,_,hat⟩:=World.cells?_some hcl;have:=hat 0 hm0;have h3:cs'[0]?=some (cs'[0]'(by omega)):=ai aI;rw[h3] at this;simpa[Addr.add] using World.cell?_spot this
  have cell:∀(i:Nat)(s:α)(k:Nat)(c:ag),l[i]?=some s->(eC s)[k]?=some c->∃u,w.cell? ⟨b,off+(i*m+k),none⟩=some u/\fS w (E1 w) c u:=fun i s k c hs hk=>by
   obtain⟨cs',hcl,h6,hr⟩:=hlp i s hs;have hil:i<len:=by have:=(aj.1 hs).1; omega
   obtain rfl:=hsp aI;obtain⟨_,_,hat⟩:=World.cells?_some hcl;have hk6:k<m:=by have:=(aj.1 hk).1; rw[dD] at this; exact this
   have h1:=hat k hk6;have h3:cs'[k]?=some (cs'[k]'(by omega)):=ai aI;rw[lY,lY,h3] at h1;exact⟨_,by rw[<-Nat.add_assoc]; exact h1,hr.2 k c _ hk h3⟩
  refine .slice _ _ _ _ b off m (fun q=>(w.cell? ⟨b,off+q,none⟩).getD undef) (by simp[hll]) hl (fun hne=>?_) ?_ ?_ ?_
  ·obtain rfl:=hsp (fun h0=>hne (by rw[h0] at hll; rw[dP.1 hll]; rfl))
   rfl
  ·intro x hx;obtain⟨s,_,rfl⟩:=eK.1 hx;rw[hmk,dD]
  ·intro i x k c hx hk;rw[aY] at hx;obtain⟨s,hs,rfl⟩:=aV.1 hx;rw[hmk] at hk;obtain⟨u,h1,_⟩:=cell i s k c hs hk;refine⟨by rw[h1]; rfl,Xa (MD h1)⟩
  ·intro i x k c hx hk;rw[aY] at hx;obtain⟨s,hs,rfl⟩:=aV.1 hx;rw[hmk] at hk;obtain⟨u,h1,h2⟩:=cell i s k c hs hk
   show fS w _ c ((w.cell? _).getD undef)
   rw[h1];exact h2
def OH{w:World}{fuel t e:Nat}{v:Value}{x:DataW H×List MemPlace}(ht:Tryz.prog.underlying t=some (.slice e))(he:Tryz.prog.underlying e=some (.int .u8))(hc:Tryz.prog.cellsOf e=1)(h:DataW.trod enc Tryz.prog w 0 (fun _=>true) true fuel t [v]=some x) :
  ∃d:Bytes,fS w (E1 w) (.slice .sh (d.map pf)) v:=by
 obtain⟨l,h,_⟩:=EB (eC:=fun b=>[pf b]) (mk:=pf) ht hc aI (fun _=>rfl) (fun _=>rfl) (fun n cs y hl hy=>by
  match cs,hl with
  | [c],_ =>
   obtain⟨b,hb⟩:=HJ he hy;exact⟨b,.one hb⟩) h
 exact⟨l,h⟩
def Ye{w:World}{l:List ag}{cs:Array Value}(h:nN w l cs.toList):gn SR [] w (.agg l) (.agg cs) :=
 .agg (by rw[h.1]; simp) (fun i c v hc hv => .plain (h.2 i c v hc (by simpa using hv)))
def Mo{T:zB}(hT:nP Tryz.prog (aq T)){f:Nat}{args:List ag}(h:aq T f args []=some (.bool true,[]))(w:World)(hG:sQ SR [] w)(vs:Array Value)(hl:args.length=vs.size)(hv:∀(i:Nat)(c:ag)(v:Value),args[i]?=some c->vs[i]?=some v->gn SR [] w c v) :
  Calls Tryz.prog f vs w fun e w'=>e = .returned (.bool true)/\Below w.heap.size w w':=by
 refine((hT f args [] _ h).2 SR w vs (at4 w) hG hl hv).mono ?_;intro e w' hce;obtain⟨v,rfl,j',_,hx,hr⟩:=hce.ret rfl;obtain rfl:=hr.jD;exact⟨rfl,hx.os,hx.tape,hx.output,hx.size,fun k hk=>(hx.um k hk fun i hi=>absurd hi (jL _)).1⟩
def Yh{w:World}{n t k:Nat}{cs:List Value}{v:Value}{y:DataW H×List MemPlace}(hc:Tryz.prog.cellsOf t=1)(hk:cs[k]?=some v)(h:DataW.trod enc Tryz.prog w 0 (fun _=>true) true n t ((cs.drop k).take (Tryz.prog.cellsOf t))=some y):DataW.trod enc Tryz.prog w 0 (fun _=>true) true n t [v]=some y:=by
 rw[hc] at h
 have:(cs.drop k).take 1=[v]:=by
  have:=(aj.1 hk);obtain⟨h1,h2⟩:=this;rw[du h1,h2]; rfl
 rw[this] at h;exact h
def Kf:Tryz.prog.underlying 3=some (.int .i64):=fy
def adR:Tryz.prog.underlying 9=some .string:=fy
def Xx:Tryz.prog.underlying 5=some (.int .u8):=fy
def abu:Tryz.prog.underlying 45=some (.slice 5):=fy
def Ii:Tryz.prog.cellsOf 3=1:=fy
def abL:Tryz.prog.cellsOf 9=1:=fy
def aeO:Tryz.prog.cellsOf 5=1:=fy
def Yy:Tryz.prog.cellsOf 45=1:=fy
def amV:Tryz.prog.cellsOf 49=8:=fy
def adQ:Tryz.prog.underlying 22=some (.slice 49):=fy
set_option maxRecDepth 100000 in
def Ww{w:World}{fuel:Nat}{cs:List Value}{x:DataW H×List MemPlace}(h:DataW.trod enc Tryz.prog w 0 (fun _=>true) true fuel 49 cs=some x):∃o:jF,nN w (eW o) cs:=by
 obtain⟨xs,n,_,_,hl,hxl,hf⟩:=DataW.trod_struct underlying49 h;have h0:cs.length=8:=by rw[hl]; kernel_rfl
 match cs,h0 with
 | [v0,v1,v2,v3,v4,v5,v6,v7],_ =>
  match xs,hxl with
  | [y0,y1,y2,y3,y4,y5,y6,y7],_ =>
   obtain⟨a0,r0⟩:=zY Kf (Yh (k:=0) Ii rfl (hf 0 _ rfl));obtain⟨a1,r1⟩:=zY Kf (Yh (k:=1) Ii rfl (hf 1 _ rfl));obtain⟨a2,r2⟩:=NY adR (Yh (k:=2) abL rfl (hf 2 _ rfl));obtain⟨a3,r3⟩:=NY adR (Yh (k:=3) abL rfl (hf 3 _ rfl));obtain⟨a4,r4⟩:=zY Kf (Yh (k:=4) Ii rfl (hf 4 _ rfl));obtain⟨a5,r5⟩:=zY Kf (Yh (k:=5) Ii rfl (hf 5 _ rfl));obtain⟨a6,r6⟩:=zY Kf (Yh (k:=6) Ii rfl (hf 6 _ rfl));obtain⟨a7,r7⟩:=OH abu Xx aeO (Yh (k:=7) Yy rfl (hf 7 _ rfl));exact⟨⟨a0,a1,a2,a3,a4,a5,a6,a7⟩,.app (.one r0) (.app (.one r1) (.app (.one r2) (.app (.one r3) (.app (.one r4) (.app (.one r5) (.app (.one r6) (.one r7)))))))⟩
set_option maxRecDepth 100000 in
def aa0{w:World}{r:Reach}{b:Nat}{v:Value}{d:DataW H}{ps:List MemPlace}(h:DataW.Trod enc Tryz.prog w 0 (fun _=>true) true 22 v d ps)(hv:Value.okWide Tryz.prog w r b 22 v):∃l:List jF,gn SR [] w (IA l) v:=by
 obtain⟨a,len,cap,rfl⟩:=okWide_slice adQ hv;obtain⟨fuel,hf⟩:=h;obtain⟨l,h2,_⟩:=EB (eC:=eW) (mk:=XK) adQ amV aI (fun _=>rfl) (fun _=>rfl) (fun n cs y _ hy=>Ww hy) hf
 exact⟨l,.plain h2⟩
set_option maxRecDepth 100000 in
def ahZ{w:World}{r:Reach}{b:Nat}{v:Value}{d:DataW H}{ps:List MemPlace}(h:DataW.Trod enc Tryz.prog w 0 (fun _=>true) true 5 v d ps)(hv:Value.okWide Tryz.prog w r b 5 v):∃x:UInt8,gn SR [] w (pf x) v:=by
 obtain⟨n,rfl,_,_,hw⟩:=open_int Xx hv h;have h3:IntKind.u8.min<=n/\n<=IntKind.u8.max:=by simpa[Lit.wf] using hw
 have e1:IntKind.u8.min=0:=mr;have e2:IntKind.u8.max=255:=mr;have e:n=((UInt8.ofNat n.toNat).toNat:Int):=by rw[UInt8.toNat_ofNat']; omega
 refine⟨UInt8.ofNat n.toNat,.plain ?_⟩;unfold pf;rw[<-e];exact .int _ _
end
def ahY{α:Type}{a:Array α}{l:List α}(h:a.toList=l):a=l.toArray:=by rw[<-h]
end
section
attribute [local irreducible] eX fM lC gK dX kr aq aU cr bJ
def aaH(l:List gM)(s:Bytes)(a b:Int):l.map iG++[.agg [.str s,aH a,aH b]]=(l++[gM.mk s a b]).map iG:=by simp[iG,fU]
def tx(ar:Int):List Node->Nat->Int
 | [],_ => -1
 |n::r,i=>if n.ar=ar then i else tx ar r (i+1)
def aaf{t:Tree}{ar:Int}(ht:t.ae.length<=100000){k:List K}{R:Int->Option (ag×aC)}
  (hx:∀e,kr (aq bW) [.tmp 4] 0 k ⟨.exit 0,e,[cv (aN t)]⟩=R (-1)) (hr:∀(i:Nat),kr (aq bW) [.tmp 4] 0 k ⟨.ret,[(4,aH i)],[cv (aN t)]⟩=R i) :
  ∀(l pre:List Node),t.ae=pre++l->eX (aq bW) [.tmp 4] 0 k (.loop [1,2,5] ZB) [(1,aH ar),(2,cu 0),(5,aH pre.length)] [cv (aN t)]=R (tx ar l pre.length):=by
 intro l;induction l with
 |nil =>
  intro pre h;rw[bG];simp only[Kr,aN,ba,jM h,EN,seval];exact hx _
 |cons n r ih =>
  intro pre h;rw[bG];have dD:pre.length+1<=100000:=by rw[h] at ht; simp at ht; omega
  have hw:=zy pre n;simp only[Kr,aN,ba,iM h,gQ h,aM,EN,seval];refine bC (fun hb=>?_) (fun hb=>?_)
  ·have hb:n.ar=ar:=by simpa using hb
   simp only[Kr,EN,seval];rw[tx,aX hb];exact hr _
  ·have hb:¬n.ar=ar:=by simpa using hb
   simp only[Kr,hw,EN,seval];rw[tx,aL hb];have:=ih (pre++[n]) (by rw[h]; simp)
   simp only[aA,au,aw] at this ⊢;exact this
def ap0(t:Tree)(ar:Int)(ht:t.ae.length<=100000):aq bW 130 [br t,aH ar] []=some (aH (tx ar t.ae 0),[]):=by
 refine aB ?_;simp only[acf,Kr,br,EN,seval];exact aaf (R:=fun z=>some (aH z,[])) ht (fun e=>by simp only[Kr,EN,seval]) (fun i=>by simp only[Kr,EN,seval]) t.ae [] rfl
def ash(ae:List Node)(next ak ar:Int)(h:ae.length<=100000)(M:aC):aU (aq bW) 130 [.agg [ba ae,aH next,aH ak],aH ar] M=some (aH (tx ar ae 0),M) :=
 cO (ap0 ⟨ae,next,ak⟩ ar h) M
def Ap(ar:Int):∀(l:List Node)(i:Nat),(find l ar=none/\tx ar l i = -1)\/∃m n,l[m]?=some n/\find l ar=some n/\tx ar l i=((i+m:Nat):Int)
 | [],_ => .inl ⟨rfl,rfl⟩
 |n::r,i=>by
  unfold find tx
  by_cases h:n.ar=ar
  ·exact .inr ⟨0,n,rfl,by simp[h],by simp[h]⟩
  ·rcases Ap ar r (i+1) with ⟨h1,h2⟩|⟨m,n',h1,h2,h3⟩
   ·exact .inl ⟨by simp[h]; simpa[find] using h1,by simp[h,h2]⟩
   ·exact .inr ⟨m+1,n',by simpa using h1,by simp[h]; simpa[find] using h2,by simp[h,h3]; omega⟩
def c74(t:Tree)(ar:Int)(ht:t.ae.length<=100000):aq bW 74 [br t,aH ar] []=some (.tuple [bL ((find t.ae ar).getD Node.zero),.bool (find t.ae ar).isSome],[]):=by
 refine aB ?_;simp only[alN,E74,br,aN,ash,ht,EN,seval];rcases Ap ar t.ae 0 with ⟨h1,h2⟩|⟨m,n,h1,h2,h3⟩
 ·rw[h2];simp only[E74,h1,EN,seval];rfl
 ·rw[h3];simp only[E74,h1,h2,ba,aM,EN,seval];rfl
def Bi(ae:List Node)(next ak ar:Int)(h:ae.length<=100000)(M:aC):aU (aq bW) 74 [.agg [ba ae,aH next,aH ak],aH ar] M=some (.tuple [bL ((find ae ar).getD Node.zero),.bool (find ae ar).isSome],M) :=
 cO (c74 ⟨ae,next,ak⟩ ar h) M
def apT(t:Tree)(ar:Int)(ht:t.ae.length<=100000):aq bW 123 [br t,aH ar] []=some (.tuple [bL (gW t.ae ar).1,aH (gW t.ae ar).2],[]):=by
 refine aB ?_;simp only[ab7,XU,br,aN,Bi,ht,bL,aM,EN,seval];unfold gW;cases hf:find t.ae ar with
 |none=>simp only[XU,Option.isSome,EN,seval]; first|done|rfl
 |some n =>
  simp only[XU,Option.isSome,bm,EN,seval]
  repeat' ((first|apply bC|apply bU|apply dK)<;>intro hb<;>simp only[hb,EN,XU,seval])
  all_goals simp_all [Node.zero]
def Y8(ae:List Node)(next ak ar:Int)(h:ae.length<=100000)(M:aC):aU (aq bW) 123 [.agg [ba ae,aH next,aH ak],aH ar] M=some (.tuple [bL (gW ae ar).1,aH (gW ae ar).2],M) :=
 cO (apT ⟨ae,next,ak⟩ ar h) M
def tv(s:Bytes):List gM->Nat->Int
 | [],_ => -1
 |n::r,i=>if n.name=s then i else tv s r (i+1)
def tw(s:Bytes):∀(l:List gM)(i:Nat),(gv l s=none/\tv s l i = -1)\/∃m n,l[m]?=some n/\gv l s=some n/\tv s l i=((i+m:Nat):Int)
 | [],_ => .inl ⟨rfl,rfl⟩
 |n::r,i=>by
  unfold gv tv
  by_cases h:n.name=s
  ·exact .inr ⟨0,n,rfl,by simp[h],by simp[h]⟩
  ·rcases tw s r (i+1) with ⟨h1,h2⟩|⟨m,n',h1,h2,h3⟩
   ·exact .inl ⟨by simp[h]; simpa[gv] using h1,by simp[h,h2]⟩
   ·exact .inr ⟨m+1,n',by simpa using h1,by simp[h]; simpa[gv] using h2,by simp[h,h3]; omega⟩
def aab{t:Node}{s:Bytes}(ht:t.bc.length<=100000){k:List K}{R:Int->Option (ag×aC)}
  (hx:∀e,kr (aq bW) [.tmp 4] 0 k ⟨.exit 0,e,[cv (aM t)]⟩=R (-1)) (hr:∀(i:Nat),kr (aq bW) [.tmp 4] 0 k ⟨.ret,[(4,aH i)],[cv (aM t)]⟩=R i) :
  ∀(l pre:List gM),t.bc=pre++l->eX (aq bW) [.tmp 4] 0 k (.loop [1,2,5] Zx) [(1,.str s),(2,cu 0),(5,aH pre.length)] [cv (aM t)]=R (tv s l pre.length):=by
 intro l;induction l with
 |nil =>
  intro pre h;rw[bG];simp only[Kn,aM,jb,jM h,EN,seval];exact hx _
 |cons n r ih =>
  intro pre h;rw[bG];have dD:pre.length+1<=100000:=by rw[h] at ht; simp at ht; omega
  have hw:=zy pre n;simp only[Kn,aM,jb,iM h,gQ h,fU,EN,seval];refine bC (fun hb=>?_) (fun hb=>?_)
  ·have hb:n.name=s:=by simpa using hb
   simp only[Kn,EN,seval];rw[tv,aX hb];exact hr _
  ·have hb:¬n.name=s:=by simpa using hb
   simp only[Kn,hw,EN,seval];rw[tv,aL hb];have:=ih (pre++[n]) (by rw[h]; simp)
   simp only[aA,au,aw] at this ⊢;exact this
def apV(t:Node)(s:Bytes)(ht:t.bc.length<=100000):aq bW 125 [bL t,.str s] []=some (aH (tv s t.bc 0),[]):=by
 refine aB ?_;simp only[ab9,Kn,bL,EN,seval];exact aab (R:=fun z=>some (aH z,[])) ht (fun e=>by simp only[Kn,EN,seval]) (fun i=>by simp only[Kn,EN,seval]) t.bc [] rfl
def aft(a b c:Int)(d:Bytes)(e:List gM)(u:Int)(s:Bytes)(h:e.length<=100000)(M:aC):aU (aq bW) 125 [.agg [aH a,aH b,aH c,cV d,jb e,aH u],.str s] M=some (aH (tv s e 0),M) :=
 cO (apV ⟨a,b,c,d,e,u⟩ s h) M
def aaa{s:Bytes}(hs:s.length<=100000){k:List K}{R:Bool->Option (ag×aC)}
  (hx:∀e,kr (aq bW) [.tmp 2] 0 k ⟨.exit 0,e,[]⟩=R true) (hr:kr (aq bW) [.tmp 2] 0 k ⟨.ret,[(2,.bool false)],[]⟩=R false) :
  ∀(l pre:Bytes),s=pre++l->eX (aq bW) [.tmp 2] 0 k (.loop [0,3] Zw) [(0,.str s),(3,aH pre.length)] []=R (l.all sW):=by
 intro l;induction l with
 |nil =>
  intro pre h;rw[bG];simp only[HQ,jM h,EN,seval];exact hx _
 |cons n r ih =>
  intro pre h;rw[bG];have dD:pre.length+1<=100000:=by rw[h] at hs; simp at hs; omega
  have hw:=zy pre n;have hi:=ih (pre++[n]) (by rw[h]; simp)
  simp only[aA,au,aw] at hi;simp only[HQ,iM h,gQ h,EN,seval]
  repeat' ((first|apply bC|apply bU|apply dK)<;>intro hb<;>simp only[hb,EN,HQ,gQ h,hw,seval])
  all_goals try simp only[HQ,EN,seval]
  all_goals first
   |(refine hr.trans ?_; congr 1; symm; simp_all [sW]; done)
   |(refine hi.trans ?_; congr 1; symm; simp_all [sW]; done)
def apU(s:Bytes)(hs:s.length<=100000):aq bW 124 [.str s] []=some (.bool (fY s),[]):=by
 refine aB ?_;simp only[ab8,HQ,EN,seval];have hl:=fun k hx hr=>aaa (k:=k) (R:=fun b=>some (ag.bool b,[])) hs hx hr s [] rfl
 repeat' ((first|apply bC|apply bU|apply dK)<;>intro hb<;>simp only[hb,EN,HQ,seval])
 all_goals first
  |(simp_all [fY]; done)
  |(refine(hl _ (fun e=>by simp only[HQ,EN,seval]) (by simp only[HQ,EN,seval])).trans ?_; simp_all [fY]; done)
def SS s hs:=cP (apU s hs)
def c72(t:Tree)(ar:Int)(s:Bytes)(ht:Small t)(hs:s.length<=100000):aq bW 72 [br t,aH ar,.str s] []=some (.tuple [aH (fh t.ae ar s).1,aH (fh t.ae ar s).2],[]):=by
 refine aB ?_;have hd:=tF ht ar;simp only[alK,E72,br,aN,Y8,ht.ae,bL,aM,EN,seval];unfold fh;refine bC (fun hb=>?_) (fun hb=>?_)
 ·simp only[E72,EN,seval];simp_all
 ·simp only[E72,SS,hs,EN,seval];refine bC (fun hb'=>?_) (fun hb'=>?_)
  ·simp only[E72,EN,seval];simp_all
  ·simp only[E72,aft,hd,EN,seval];rcases tw s (gW t.ae ar).1.bc 0 with ⟨h1,h2⟩|⟨m,n,h1,h2,h3⟩
   ·rw[h2];simp only[E72,EN,seval];simp_all
   ·rw[h3];simp only[E72,h1,jb,fU,EN,seval];simp_all
def k72(ae:List Node)(next ak ar:Int)(s:Bytes)(ht:Small ⟨ae,next,ak⟩)(hs:s.length<=100000)(M:aC):aU (aq bW) 72 [.agg [ba ae,aH next,aH ak],aH ar,.str s] M =
  some (.tuple [aH (fh ae ar s).1,aH (fh ae ar s).2],M):=cO (c72 ⟨ae,next,ak⟩ ar s ht hs) M
def Z8{t:Tree}{n:Node}(ht:t.ae.length<=100000){k:List K}{R:List Node->Bool->Option (ag×aC)}
  (hx:∀out done v e,out.length<=300000->kr (aq bW) [.dH 4 3] 0 k ⟨.exit 0,[(2,cu 0),(3,cu 1),(4,cu 2),(5,.slice (.own 3) (out.map bL)),(6,.bool done),(7,v),(12,e)],[cv (aN t),cv (aM n),.cells zT,.tick 6 out.length]⟩=R out done) :
  ∀(l pre out:List Node)(done:Bool),t.ae=pre++l->out.length+2*l.length<=300000->eX (aq bW) [.dH 4 3] 0 k (.loop [2,3,4,5,6,7] Zp) [(2,cu 0),(3,cu 1),(4,cu 2),(5,.slice (.own 3) (out.map bL)),(6,.bool done),(7,aH pre.length)] [cv (aN t),cv (aM n),.cells zT,.tick 6 out.length]=R (oI n l out done).1 (oI n l out done).2:=by
 intro l;induction l with
 |nil =>
  intro pre out done h ho;rw[bG];simp only[Kl,aN,ba,jM h,EN,seval];exact hx _ _ _ _ (by simp at ho; omega)
 |cons m r ih =>
  intro pre out done h ho;rw[bG];have dD:pre.length+1<=100000:=by rw[h] at ht; simp at ht; omega
  have hw:=zy pre m;have hi:=fun out done ho=>ih (pre++[m]) out done (by rw[h]; simp) ho
  simp only[au] at ho;have r1:cq (out.length+1) 80=True:=qM;have r2:cq (out.length+1+1) 80=True:=qM;rw[oI];simp only[Kl,aN,ba,iM h,gQ h,aM,EN,seval]
  repeat' ((first|apply bC|apply bU|apply dK)<;>intro hb<;>simp only[hb,EN,Kl,gQ h,hw,r1,r2,aM,seval])
  all_goals try simp only[Kl,gQ h,hw,r1,r2,aM,EN,seval]
  all_goals first
   |(refine il ?_ ((hi (out++[n]++[m]) true gm).trans ?_)
     ·simp only[aW,aF,aR,aA,au,aw]; rfl
     ·clear hi ih hx hw h; simp_all; done)
   |(refine il ?_ ((hi (out++[n]) true gm).trans ?_)
     ·simp only[aW,aF,aR,aA,au,aw]; rfl
     ·clear hi ih hx hw h; simp_all; done)
   |(refine il ?_ ((hi (out++[m]) done gm).trans ?_)
     ·simp only[aW,aF,aR,aA,au,aw]; rfl
     ·clear hi ih hx hw h; simp_all; done)
   |(refine il ?_ ((hi out done aI).trans ?_)
     ·simp only[aW,aF,aR,aA,au,aw]; rfl
     ·clear hi ih hx hw h; simp_all; done)
def c119(t:Tree)(n:Node)(ht:t.ae.length<=100000):aq bW 119 [br t,bL n] []=some (br ⟨eT t.ae n,t.next,t.ak⟩,[]):=by
 refine aB ?_;simp only[R1,Kl,br,bL,EN,seval];refine Z8 (R:=fun out done=>some (br ⟨out++(if done then [] else [n]),t.next,t.ak⟩,[])) ht (fun out done v e ho=>?_) t.ae [] [] false rfl gm
 have r1:cq (out.length+1) 80=True:=qM;cases done
 ·simp only[Kl,r1,br,aN,zT,aM,EN,seval];simp[ba,bL,aM]
 ·simp only[Kl,r1,br,aN,zT,aM,EN,seval]
  try simp[ba]
def Hi(ae:List Node)(next ak a b c:Int)(d:Bytes)(e:List gM)(u:Int)(h:ae.length<=100000)(M:aC):aU (aq bW) 119 [.agg [ba ae,aH next,aH ak],.agg [aH a,aH b,aH c,cV d,jb e,aH u]] M =
  some (.agg [ba (eT ae ⟨a,b,c,d,e,u⟩),aH next,aH ak],M):=cO (c119 ⟨ae,next,ak⟩ ⟨a,b,c,d,e,u⟩ h) M
def aaj{t:Tree}{ar:Int}(ht:t.ae.length<=100000){k:List K}{R:List Node->Option (ag×aC)}
  (hx:∀out v e,out.length<=300000->kr (aq bW) [.dH 4 3] 0 k ⟨.exit 0,[(1,aH ar),(2,cu 0),(4,cu 1),(5,.slice (.own 2) (out.map bL)),(6,v),(11,e)],[cv (aN t),.cells zT,.tick 6 out.length]⟩=R out) :
  ∀(l pre out:List Node),t.ae=pre++l->out.length+l.length<=150000->eX (aq bW) [.dH 4 3] 0 k (.loop [1,2,4,5,6] ZO) [(1,aH ar),(2,cu 0),(4,cu 1),(5,.slice (.own 2) (out.map bL)),(6,aH pre.length)] [cv (aN t),.cells zT,.tick 6 out.length]=R (out++fR l ar):=by
 intro l;induction l with
 |nil =>
  intro pre out h ho;rw[bG];simp only[QO,aN,ba,jM h,EN,seval];refine(hx _ _ _ (by simp at ho; omega)).trans (by simp[fR])
 |cons m r ih =>
  intro pre out h ho;rw[bG];have dD:pre.length+1<=100000:=by rw[h] at ht; simp at ht; omega
  have hw:=zy pre m;have hi:=fun out ho=>ih (pre++[m]) out (by rw[h]; simp) ho
  simp only[au] at ho;have r1:cq (out.length+1) 80=True:=qM;simp only[QO,aN,ba,iM h,gQ h,aM,EN,seval]
  repeat' ((first|apply bC|apply bU|apply dK)<;>intro hb<;>simp only[hb,EN,QO,gQ h,hw,r1,aM,seval])
  all_goals first
   |(refine il ?_ ((hi (out++[m]) gm).trans ?_)
     ·simp only[aW,aF,aR,aA,au,aw]; rfl
     ·clear hi ih hx hw h; simp_all[fR]; done)
   |(refine il ?_ ((hi out aI).trans ?_)
     ·simp only[aW,aF,aR,aA,au,aw]; rfl
     ·clear hi ih hx hw h; simp_all[fR]; done)
def aqA(t:Tree)(ar:Int)(ht:t.ae.length<=100000):aq bW 175 [br t,aH ar] []=some (br ⟨fR t.ae ar,t.next,t.ak⟩,[]):=by
 refine aB ?_;simp only[Sa,QO,br,EN,seval];refine(aaj (R:=fun out=>some (br ⟨out,t.next,t.ak⟩,[])) ht (fun out v e ho=>?_) t.ae [] [] rfl gm).trans (by simp[br])
 simp only[QO,br,aN,zT,EN,seval]
 try simp[ba]
def aml(ae:List Node)(next ak ar:Int)(h:ae.length<=100000)(M:aC):aU (aq bW) 175 [.agg [ba ae,aH next,aH ak],aH ar] M =
  some (.agg [ba (fR ae ar),aH next,aH ak],M):=cO (aqA ⟨ae,next,ak⟩ ar h) M
def Z9{T:List ag}{n:Node}{s:Bytes}(hn:n.bc.length<=100000){k:List K}{R:List gM->Option (ag×aC)}
  (hx:∀out v e,out.length<=300000->kr (aq bW) [.dH 6 3] 0 k ⟨.exit 0,[(2,.str s),(3,cu 0),(6,cu 1),(7,cu 2),(9,.slice (.own 3) (out.map iG)),(10,v),(21,e)],[.cells T,.cells zT,cv (aM n),.tick 3 out.length]⟩=R out)
  (hT:∀B M,T.map (ag.jX B M)=T) :
  ∀(l pre out:List gM),n.bc=pre++l->out.length+l.length<=150000->eX (aq bW) [.dH 6 3] 0 k (.loop [2,3,6,7,9,10] Zv) [(2,.str s),(3,cu 0),(6,cu 1),(7,cu 2),(9,.slice (.own 3) (out.map iG)),(10,aH pre.length)] [.cells T,.cells zT,cv (aM n),.tick 3 out.length]=R (out++jI l s):=by
 intro l;induction l with
 |nil =>
  intro pre out h ho;rw[bG];simp only[Km,aM,jb,jM h,EN,seval];refine(hx _ _ _ (by simp at ho; omega)).trans (by simp[jI])
 |cons m r ih =>
  intro pre out h ho;rw[bG];have dD:pre.length+1<=100000:=by rw[h] at hn; simp at hn; omega
  have hw:=zy pre m;have hi:=fun out ho=>ih (pre++[m]) out (by rw[h]; simp) ho
  simp only[au] at ho;have r1:cq (out.length+1) 32=True:=qM;simp only[Km,aM,jb,iM h,gQ h,fU,hT,zT,EN,seval]
  repeat' ((first|apply bC|apply bU|apply dK)<;>intro hb<;>simp only[hb,EN,Km,gQ h,hw,r1,fU,hT,zT,seval])
  all_goals first
   |(refine il ?_ ((hi (out++[m]) gm).trans ?_)
     ·simp only[aW,aF,aR,aA,au,aw]; rfl
     ·clear hi ih hx hw h hT; simp_all[jI]; done)
   |(refine il ?_ ((hi out aI).trans ?_)
     ·simp only[aW,aF,aR,aA,au,aw]; rfl
     ·clear hi ih hx hw h hT; simp_all[jI]; done)
def FE{t:Tree}(hs:Small t)(ar:Int):((find t.ae ar).getD Node.zero).bc.length<=100000:=by
 cases h:find t.ae ar with
 |none=>simp[Node.zero]
 |some n=>exact hs.bc n (cD h).1
def apS(t:Tree)(ar:Int)(s:Bytes)(ht:Small t):aq bW 122 [br t,aH ar,.str s] []=some (br ⟨dr t.ae ar s,t.next,t.ak⟩,[]):=by
 refine aB ?_;have hd:=FE ht ar;unfold dr;simp only[R2,Km,br,aN,Bi,ht.ae,bL,EN,seval];generalize (find t.ae ar).getD Node.zero=n at hd ⊢;simp only[Km,aM,EN,seval];refine(Z9 (R:=fun out=>some (br ⟨eT t.ae { n with bc:=out },t.next,t.ak⟩,[])) hd (fun out v e ho=>?_) (fun B M=>by simp only[Km,EN,seval]) n.bc [] [] rfl gm).trans (by simp[br,aN])
 simp only[Km,zT,aM,Hi,ht.ae,EN,seval];simp[br,aN]
end
end Go.Proofs.YteoamaffclmdbaaGreatDoor
