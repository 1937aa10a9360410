import Derived.Test.YtcbopkblmebjiaaGreatDoorFtaE
set_option linter.all false
open Go.Proofs.Tryz
namespace Go.Proofs.YtcbopkblmebjiaaGreatDoor
open Go Go.Abs
section
attribute [local irreducible] fP fm kM gK dH kr aq aL cH bP
def abE(aa:List Node)(next ae ar:Int)(s:Bytes)(ht:Small ⟨aa,next,ae⟩)(M:aO):aL (aq dp) 115 [.agg [aV aa,aH next,aH ae],aH ar,.str s] M =
  some (.agg [aV (dU aa ar s),aH next,aH ae],M):=cO (akC ⟨aa,next,ae⟩ ar s ht) M
def WT{T:List ag}{n:Node}{e:eM}(hn:n.aK.length<=100000){k:List K}{R:List eM->Bool->Option (ag×aO)}
  (hx:∀out done v q,out.length<=300000->kr (aq dp) [.fI 8 3] 0 k ⟨.exit 0,[(2,.str e.name),(4,dC 0),(8,dC 1),(9,dC 2),(11,dC 3),(12,.slice (.own 4) (out.map gq)),(13,.bool done),(14,v),(30,q)],[.cells T,.cells zT,cL (aI n),cL (dJ e),.tick 3 out.length]⟩=R out done)
  (hT:∀B M,T.map (ag.kG B M)=T) :
  ∀(l pre out:List eM)(done:Bool),n.aK=pre++l->out.length+2*l.length<=300000->fP (aq dp) [.fI 8 3] 0 k (.loop [2,4,8,9,11,12,13,14] Wv) [(2,.str e.name),(4,dC 0),(8,dC 1),(9,dC 2),(11,dC 3),(12,.slice (.own 4) (out.map gq)),(13,.bool done),(14,aH pre.length)] [.cells T,.cells zT,cL (aI n),cL (dJ e),.tick 3 out.length]=R (vr e l out done).1 (vr e l out done).2:=by
 intro l;induction l with
 |nil =>
  intro pre out done h ho;rw[cv];simp only[Ga,aI,iU,qX h,EN,seval];exact hx _ _ _ _ (by simp at ho; omega)
 |cons m r ih =>
  intro pre out done h ho;rw[cv];have fx:pre.length+1<=100000:=by rw[h] at hn; simp at hn; omega
  have hw:=Lu pre m;have hi:=fun out done ho=>ih (pre++[m]) out done (by rw[h]; simp) ho
  simp only[aD] at ho;have r1:dY (out.length+1) 32=True:=xt;have r2:dY (out.length+1+1) 32=True:=xt;have hg:(!(strLt m.name e.name||m.name==e.name))=ZC m.name e.name:=rfl
  rw[vr];simp only[Ga,hg,aI,iU,pI h,lr h,dJ,hT,zT,EN,seval]
  repeat' ((first|apply bW|apply c8|apply fq)<;>intro hb<;>simp only[hb,EN,Ga,lr h,hw,r1,r2,dJ,hT,zT,hg,seval])
  all_goals try simp only[Ga,lr h,hw,r1,r2,dJ,hT,zT,hg,EN,seval]
  all_goals first
   |(refine dj ?_ ((hi (out++[e]++[m]) true ic).trans ?_)
     ·simp only[bH,a8,bE,aR,aD,aF]; rfl
     ·clear hi ih hx hw h hT hg; simp_all; done)
   |(refine dj ?_ ((hi (out++[m]) done ic).trans ?_)
     ·simp only[bH,a8,bE,aR,aD,aF]; rfl
     ·clear hi ih hx hw h hT hg; simp_all; done)
def akz(t:Tree)(ar:Int)(s:Bytes)(of:Int)(ht:Small t):aq dp 111 [bD t,aH ar,.str s,aH of] []=some (bD (hU t ar s of),[]):=by
 refine aw ?_;have hd:=ED ht ar;unfold hU;simp only[Qz,Ga,bD,aY,Ha,ht.aa,bJ,EN,seval];generalize (find t.aa ar).getD Node.zero=n at hd ⊢;simp only[Ga,aI,EN,seval];refine(WT (e:=⟨s,of,t.ae⟩) (R:=fun out done=>some (bD ⟨eS t.aa { n with aK:=out++(if done then [] else [⟨s,of,t.ae⟩]) },t.next,nc (t.ae+1)⟩,[])) hd (fun out done v e ho=>?_) (fun B M=>by simp only[Ga,EN,seval]) n.aK [] [] false rfl ic).trans (by simp[bD,aY,tu])
 have r1:dY (out.length+1) 32=True:=xt;cases done
 ·simp only[Ga,zT,aI,dJ,r1,Xi,Ie,ht.aa,EN,seval];simp[bD,aY]
 ·simp only[Ga,zT,aI,dJ,r1,Ie,ht.aa,EN,seval];simp[bD,aY]
def We(aa:List Node)(next ae ar:Int)(s:Bytes)(of:Int)(ht:Small ⟨aa,next,ae⟩)(M:aO):aL (aq dp) 111 [.agg [aV aa,aH next,aH ae],aH ar,.str s,aH of] M =
  some (bD (hU ⟨aa,next,ae⟩ ar s of),M):=cO (akz ⟨aa,next,ae⟩ ar s of ht) M
def WY{t:Tree}(ht:t.aa.length<=100000){k:List K}{R:Nat->Option (ag×aO)}
  (hx:∀(d:Nat) v q,kr (aq dp) [.tmp 4] 0 k ⟨.exit 0,[(1,v),(2,dC 0),(5,aH d),(13,q)],[cL (aY t)]⟩=R d) :
  ∀(m:Nat)(ar:Int)(d:Nat),d+m=201->fP (aq dp) [.tmp 4] 0 k (.loop [1,2,5] WA) [(1,aH ar),(2,dC 0),(5,aH d)] [cL (aY t)]=R (sb t.aa m ar d):=by
 intro m;induction m with
 |zero =>
  intro ar d hd;rw[cv];have hd':((d:Int)<=200)=False:=ic;simp only[Jt,EN,seval]
  repeat' ((first|apply bW|apply c8|apply fq)<;>intro hb<;>simp only[hb,EN,Jt,hd',seval])
  all_goals exact hx _ _ _
 |succ m ih =>
  intro ar d hd;rw[cv];have hd':((d:Int)<=200)=True:=ic;have hw:IntKind.i64.wrap ((d:Int)+1)=((d+1:Nat):Int):=by rw[gb aM aM]; rfl
  have hi:=fun ar=>ih ar (d+1) aM
  rw[sb];simp only[Jt,EN,seval];refine c8 (fun hb=>?_) (fun hb=>?_)
  ·simp only[Jt,hb,hd',hw,aY,Ha,ht,bJ,aI,EN,seval];have h1:¬ar=1:=by simpa using hb
   rw[aj h1];exact hi _
  ·simp only[Jt,hb,hd',hw,aY,Ha,ht,bJ,aI,EN,seval];have h1:ar=1:=by simpa using hb
   rw[av h1];exact hx _ _ _
def akG(t:Tree)(ar:Int)(ht:t.aa.length<=100000):aq dp 120 [bD t,aH ar] []=some (aH (jx t.aa ar),[]):=by
 refine aw ?_;simp only[YD,Jt,bD,EN,seval];exact WY (R:=fun(d:Nat)=>some (aH d,[])) ht (fun d v q=>by simp only[Jt,EN,seval]) 201 ar 0 rfl
def KC(aa:List Node)(next ae ar:Int)(h:aa.length<=100000)(M:aO):aL (aq dp) 120 [.agg [aV aa,aH next,aH ae],aH ar] M=some (aH (jx aa ar),M) :=
 cO (akG ⟨aa,next,ae⟩ ar h) M
def ald(t:Tree)(n:Node)(ht:Small t):aq dp 179 [bD t,bJ n] []=some (.bool (C6 t n),[]):=by
 refine aw ?_;simp only[Y7,aeB,bD,aY,bJ,aI,KC,ht.aa,EN,seval];unfold C6
 repeat' ((first|apply bW|apply c8|apply fq)<;>intro hb<;>simp only[hb,EN,aeB,KC,ht.aa,seval])
 all_goals simp_all
def amn(aa:List Node)(next ae a b c:Int)(d:Bytes)(e:List eM)(u:Int)(h:Small ⟨aa,next,ae⟩)(M:aO):aL (aq dp) 179 [.agg [aV aa,aH next,aH ae],.agg [aH a,aH b,aH c,mc d,iU e,aH u]] M =
  some (.bool (C6 ⟨aa,next,ae⟩ ⟨a,b,c,d,e,u⟩),M):=cO (ald ⟨aa,next,ae⟩ ⟨a,b,c,d,e,u⟩ h) M
def aky(t:Tree)(ar:Int)(s:Bytes)(ht:Small t)(hs:s.length<=100000):aq dp 110 [bD t,aH ar,.str s] []=some (aH (mU t ar s),[]):=by
 refine aw ?_;have hd:=tK ht ar;have ht':Small ⟨t.aa,t.next,t.ae⟩:=ht
 simp only[Yx,F9,bD,aY,Wf,ht.aa,bJ,aI,EN,seval];unfold mU;refine bW (fun hb=>?_) (fun hb=>?_)
 ·simp only[F9,EN,seval];simp_all
 ·simp only[F9,Oh,hs,EN,seval];refine bW (fun hb'=>?_) (fun hb'=>?_)
  ·simp only[F9,EN,seval];simp_all
  ·simp only[F9,abF,hd,EN,seval];rcases tx s (gM t.aa ar).1.aK 0 with ⟨h1,h2⟩|⟨m,n,h1,h2,h3⟩
   ·rw[h2];simp only[F9,amn,ht',EN,seval];refine bW (fun hb''=>?_) (fun hb''=>?_)
    ·simp only[F9,EN,seval];simp_all
    ·simp only[F9,EN,seval];simp_all
   ·rw[h3];simp only[F9,EN,seval];simp_all
def abC(aa:List Node)(next ae ar:Int)(s:Bytes)(ht:Small ⟨aa,next,ae⟩)(hs:s.length<=100000)(M:aO):aL (aq dp) 110 [.agg [aV aa,aH next,aH ae],aH ar,.str s] M =
  some (aH (mU ⟨aa,next,ae⟩ ar s),M):=cO (aky ⟨aa,next,ae⟩ ar s ht hs) M
def ahF(aa:List Node)(next ae a b c u:Int)(h:aa.length<=100000)(M:aO):aL (aq dp) 112 [.agg [aV aa,aH next,aH ae],.agg [aH a,aH b,aH c,ka [],ka [],aH u]] M =
  some (.agg [aV (eS aa ⟨a,b,c,[],[],u⟩),aH next,aH ae],M):=Ie aa next ae a b c [] [] u h M
def O2{t:Tree}(hz:Sz 1000 t)(k u next ae a c:Int):Small ⟨eS t.aa ⟨a,k,c,[],[],u⟩,next,ae⟩:=(hz.with dk dk next ae).small aM
set_option maxHeartbeats 1000000 in
def c54(t:Tree)(ar:Int)(s:Bytes)(kind:Int)(hz:Sz 1000 t)(hs:s.length<=100000):aq dp 54 [bD t,aH ar,.str s,aH kind] []=some (.tuple [bD (nL t ar s kind).1,aH (nL t ar s kind).2.1,aH (nL t ar s kind).2.2],[]):=by
 obtain⟨aa,next,ae⟩:=t
 refine aw ?_;have ht:Small ⟨aa,next,ae⟩:=hz.small aM
 have hn:aa.length<=100000:=ht.aa;have hw:=fun k u next' cookie' a c=>O2 hz k u next' cookie' a c
 simp only[ag7,E54,bD,aY,abC,ht,hs,EN,seval]
 repeat' ((first|apply bW|apply c8|apply fq)<;>intro hb<;>simp only[hb,EN,E54,abC,ht,hs,hn,ahF,We,hw,bD,aY,seval])
 all_goals (clear hw; simp_all only[nL,bD,aY,vK,↓reduceIte,reduceCtorEq,an]; done)
def ads{t:Tree}{of:Int}(ht:t.aa.length<=100000){k:List K}{R:Bool->Option (ag×aO)}
  (hx:∀e,kr (aq dp) [.tmp 6] 0 k ⟨.exit 0,e,[cL (aY t)]⟩=R false) (hr:∀b,kr (aq dp) [.tmp 6] 0 k ⟨.ret,[(6,.bool b)],[cL (aY t)]⟩=R b) :
  ∀(m:Nat)(ar:Int)(d:Nat),d+m=t.aa.length+1->fP (aq dp) [.tmp 6] 0 k (.loop [1,2,3,7] adj) [(1,aH ar),(2,aH of),(3,dC 0),(7,aH d)] [cL (aY t)]=R (ke t.aa of m ar):=by
 intro m;induction m with
 |zero =>
  intro ar d hd;rw[cv];have hd':((d:Int)<=(t.aa.length:Int))=False:=ic;simp only[Vg,aY,aV,hd',EN,seval];exact hx _
 |succ m ih =>
  intro ar d hd;rw[cv];have hd':((d:Int)<=(t.aa.length:Int))=True:=ic;have hw:IntKind.i64.wrap ((d:Int)+1)=((d+1:Nat):Int):=by rw[gb aM aM]; rfl
  have hi:=fun ar=>ih ar (d+1) aM
  rw[ke];simp only[Vg,aY,aV,hd',EN,seval];refine bW (fun hb=>?_) (fun hb=>?_)
  ·have h1:ar=of:=by simpa using hb
   simp only[Vg,EN,seval];rw[av h1];exact hr _
  ·have h1:¬ar=of:=by simpa using hb
   simp only[Vg,EN,seval];rw[aj h1];refine bW (fun hb=>?_) (fun hb=>?_)
   ·have h1:ar=1:=by simpa using hb
    simp only[Vg,EN,seval];rw[av h1];exact hr _
   ·have h1:¬ar=1:=by simpa using hb
    simp only[Vg,hw,Ha,ht,bJ,aI,EN,seval];rw[aj h1];exact hi _
def c27(t:Tree)(ar of:Int)(ht:t.aa.length<=100000):aq dp 27 [bD t,aH ar,aH of] []=some (.bool (jr t.aa ar of),[]):=by
 refine aw ?_;simp only[agT,Vg,bD,EN,seval];exact ads (R:=fun b=>some (.bool b,[])) ht (fun e=>by simp only[Vg,EN,seval]) (fun b=>by simp only[Vg,EN,seval]) (t.aa.length+1) ar 0 aM
def k27(aa:List Node)(next ae ar of:Int)(h:aa.length<=100000)(M:aO):aL (aq dp) 27 [.agg [aV aa,aH next,aH ae],aH ar,aH of] M=some (.bool (jr aa ar of),M) :=
 cO (c27 ⟨aa,next,ae⟩ ar of h) M
def k54(aa:List Node)(next ae ar:Int)(s:Bytes)(kind:Int)(hz:Sz 1000 ⟨aa,next,ae⟩)(hs:s.length<=100000)(M:aO):aL (aq dp) 54 [.agg [aV aa,aH next,aH ae],aH ar,.str s,aH kind] M =
  some (.tuple [bD (nL ⟨aa,next,ae⟩ ar s kind).1,aH (nL ⟨aa,next,ae⟩ ar s kind).2.1,aH (nL ⟨aa,next,ae⟩ ar s kind).2.2],M):=cO (c54 ⟨aa,next,ae⟩ ar s kind hz hs) M
def c52(t:Tree)(ar to:Int)(s:Bytes)(hz:Sz 1000 t)(hs:s.length<=100000):aq dp 52 [bD t,aH ar,aH to,.str s] []=some (.tuple [bD (B4 t ar to s).1,aH (B4 t ar to s).2],[]):=by
 obtain⟨aa,next,ae⟩:=t
 refine aw ?_;have ht:Small ⟨aa,next,ae⟩:=hz.small aM
 have hn:aa.length<=100000:=ht.aa;have hf:=hz.find ar;have hw':∀l,Small ⟨eS aa { bO aa ar with df:=l },next,ae⟩:=fun l=>(hz.with (n:={ bO aa ar with df:=l }) (iP hf.1) hf.2 next ae).small aM
 simp only[ag6,E52,bD,aY,Ha,hn,bJ,aI,EN,seval]
 repeat' ((first|apply bW|apply c8|apply fq)<;>intro hb<;>simp only[hb,EN,E52,abC,ht,hs,hn,Ie,We,hw',bD,aY,seval])
 all_goals (clear hw' hf; simp_all only[B4,bD,aY,vK,↓reduceIte,reduceCtorEq,an]; done)
def k52(aa:List Node)(next ae ar to:Int)(s:Bytes)(hz:Sz 1000 ⟨aa,next,ae⟩)(hs:s.length<=100000)(M:aO):aL (aq dp) 52 [.agg [aV aa,aH next,aH ae],aH ar,aH to,.str s] M =
  some (.tuple [bD (B4 ⟨aa,next,ae⟩ ar to s).1,aH (B4 ⟨aa,next,ae⟩ ar to s).2],M):=cO (c52 ⟨aa,next,ae⟩ ar to s hz hs) M
def akB(t:Tree)(ar:Int)(ht:Small t):aq dp 114 [bD t,aH ar] []=some (bD ⟨gx t.aa ar,t.next,t.ae⟩,[]):=by
 obtain⟨aa,next,ae⟩:=t
 refine aw ?_;have hn:aa.length<=100000:=ht.aa;simp only[Yz,aew,bD,aY,Ha,hn,bJ,aI,EN,seval]
 repeat' ((first|apply bW|apply c8|apply fq)<;>intro hb<;>simp only[hb,EN,aew,hn,Ie,ahO,bD,aY,seval])
 all_goals (simp_all only[gx,bD,aY,vK,↓reduceIte,reduceCtorEq,an]; done)
def abD(aa:List Node)(next ae ar:Int)(ht:Small ⟨aa,next,ae⟩)(M:aO):aL (aq dp) 114 [.agg [aV aa,aH next,aH ae],aH ar] M =
  some (.agg [aV (gx aa ar),aH next,aH ae],M):=cO (akB ⟨aa,next,ae⟩ ar ht) M
def c55(t:Tree)(ar:Int)(s:Bytes)(hz:Sz 1000 t)(hs:s.length<=100000):aq dp 55 [bD t,aH ar,.str s] []=some (.tuple [bD (wv t ar s).1,aH (wv t ar s).2.1,aH (wv t ar s).2.2],[]):=by
 obtain⟨aa,next,ae⟩:=t
 refine aw ?_;have ht:Small ⟨aa,next,ae⟩:=hz.small aM
 have hn:aa.length<=100000:=ht.aa;have hl:Small ⟨dU aa ar s,next,ae⟩:=(hz.left ar s next ae).small aM
 simp only[ag8,E55,bD,aY,k56,ht,hs,bJ,aI,EN,seval]
 repeat' ((first|apply bW|apply c8|apply fq)<;>intro hb<;>simp only[hb,EN,E55,hn,ht,hs,Ha,abE,abD,hl,bJ,aI,bD,aY,seval])
 all_goals (simp_all only[wv,bD,aY,vK,↓reduceIte,reduceCtorEq,an]; done)
def k55(aa:List Node)(next ae ar:Int)(s:Bytes)(hz:Sz 1000 ⟨aa,next,ae⟩)(hs:s.length<=100000)(M:aO):aL (aq dp) 55 [.agg [aV aa,aH next,aH ae],aH ar,.str s] M =
  some (.tuple [bD (wv ⟨aa,next,ae⟩ ar s).1,aH (wv ⟨aa,next,ae⟩ ar s).2.1,aH (wv ⟨aa,next,ae⟩ ar s).2.2],M):=cO (c55 ⟨aa,next,ae⟩ ar s hz hs) M
def c119(t:Tree)(x:Node)(y:Int)(ht:Small t):aq dp 119 [bD t,bJ x,aH y] []=some (aH (sV t.aa x.kind y),[]):=by
 obtain⟨aa,next,ae⟩:=t
 refine aw ?_;have hn:aa.length<=100000:=ht.aa;simp only[YC,aex,bD,aY,Ha,hn,bJ,aI,EN,seval]
 repeat' ((first|apply bW|apply c8|apply fq)<;>intro hb<;>simp only[hb,EN,aex,seval])
 all_goals (simp_all only[sV,vK,↓reduceIte,reduceCtorEq,an]; done)
def ahG(aa:List Node)(next ae a b c:Int)(d:Bytes)(e:List eM)(u y:Int)(ht:Small ⟨aa,next,ae⟩)(M:aO):aL (aq dp) 119 [.agg [aV aa,aH next,aH ae],.agg [aH a,aH b,aH c,mc d,iU e,aH u],aH y] M =
  some (aH (sV aa b y),M):=cO (c119 ⟨aa,next,ae⟩ ⟨a,b,c,d,e,u⟩ y ht) M
def ale(t:Tree)(ar:Int)(ht:Small t):aq dp 180 [bD t,aH ar] []=some (.tuple [bD (pc t ar).1,aH (pc t ar).2],[]):=by
 obtain⟨aa,next,ae⟩:=t
 refine aw ?_;have hn:aa.length<=100000:=ht.aa;simp only[Y8,aeC,bD,aY,Ha,hn,bJ,aI,EN,seval]
 repeat' ((first|apply bW|apply c8|apply fq)<;>intro hb<;>simp only[hb,EN,aeC,hn,ahO,bD,aY,seval])
 all_goals (simp_all only[pc,bD,aY,vK,↓reduceIte,reduceCtorEq,an]; done)
def amo(aa:List Node)(next ae ar:Int)(ht:Small ⟨aa,next,ae⟩)(M:aO):aL (aq dp) 180 [.agg [aV aa,aH next,aH ae],aH ar] M =
  some (.tuple [bD (pc ⟨aa,next,ae⟩ ar).1,aH (pc ⟨aa,next,ae⟩ ar).2],M):=cO (ale ⟨aa,next,ae⟩ ar ht) M
def c41:aq dp 41 [] []=some (bD p8,[]):=by
 refine aw ?_;simp only[ag0,E41,EN,seval];rfl
def k41:=cP c41
def WZ{aa:List Node}{next ae ar at' d:Int}(ht:aa.length<=100000){k:List K}{R:Int->Option (ag×aO)}
  (hx:∀most v q,kr (aq dp) [.tmp 6] 0 k ⟨.exit 0,[(1,aH ar),(2,aH at'),(3,dC 0),(7,aH most),(8,aH d),(9,v),(19,q)],[cL (aY ⟨aa,next,ae⟩)]⟩=R most) :
  ∀(l pre:List Node)(most:Int),aa=pre++l->fP (aq dp) [.tmp 6] 0 k (.loop [1,2,3,7,8,9] WB) [(1,aH ar),(2,aH at'),(3,dC 0),(7,aH most),(8,aH d),(9,aH pre.length)] [cL (aY ⟨aa,next,ae⟩)]=R (wc aa ar at' d l most):=by
 intro l;induction l with
 |nil =>
  intro pre most h;rw[cv];simp only[Pw,aY,qX h,EN,seval];exact hx _ _ _
 |cons n r ih =>
  intro pre most h;rw[cv];have fx:pre.length+1<=100000:=by rw[h] at ht; simp at ht; omega
  have hw:=Lu pre n;have hi:=fun most=>ih (pre++[n]) most (by rw[h]; simp)
  rw[wc];simp only[aY] at hi;generalize hst:sG aa ar at' d n most=m1;simp only[Pw,aY,pI h,lr h,aI,EN,seval]
  repeat' ((first|apply bW|apply c8|apply fq)<;>intro hb<;>simp only[hb,EN,Pw,hw,k27,KC,ht,aI,seval])
  all_goals refine dj ?_ (hi m1)
  all_goals congr 1
  all_goals (subst hst; clear hi ih hx hw h ht; simp_all only[sG,nc,gt_iff_lt,aR,aD,aF,aN,vK,↓reduceIte,reduceCtorEq,an]; done)
def akH(t:Tree)(ar at':Int)(ht:t.aa.length<=100000):aq dp 121 [bD t,aH ar,aH at'] []=some (aH (BF t.aa ar at'),[]):=by
 obtain⟨aa,next,ae⟩:=t
 have ht:aa.length<=100000:=ht;refine aw ?_;simp only[YE,Pw,bD,aY,KC,ht,EN,seval];exact WZ (R:=fun z=>some (aH z,[])) ht (fun most v q=>by simp only[Pw,EN,seval]) aa [] 0 rfl
def ahH(aa:List Node)(next ae ar at':Int)(h:aa.length<=100000)(M:aO):aL (aq dp) 121 [.agg [aV aa,aH next,aH ae],aH ar,aH at'] M=some (aH (BF aa ar at'),M) :=
 cO (akH ⟨aa,next,ae⟩ ar at' h) M
set_option maxHeartbeats 2000000 in
def c57(t:Tree)(nw:Int)(s:Bytes)(to:Int)(nm:Bytes)(hz:Sz 1000 t)(hs:s.length<=100000)(ha:nm.length<=100000):aq dp 57 [bD t,aH nw,.str s,aH to,.str nm] [] =
  some (.tuple [bD (wR t nw s to nm).1,aH (wR t nw s to nm).2.1,aH (wR t nw s to nm).2.2],[]):=by
 obtain⟨aa,next,ae⟩:=t
 have ht:Small ⟨aa,next,ae⟩:=hz.small aM
 have hn:aa.length<=100000:=ht.aa;have hd:(gM aa to).1.aK.length<=100000:=tK ht to;have z1:Sz 1001 ⟨dU aa nw s,next,ae⟩:=hz.left nw s next ae
 have z2:Sz 1002 ⟨dU (dU aa nw s) to nm,next,ae⟩:=z1.left to nm next ae
 have z3:∀y,Sz 1003 ⟨gx (dU (dU aa nw s) to nm) y,next,ae⟩:=fun y=>z2.unnamed y next ae
 have hx:=hz.find (eB aa nw s).1;have z4:∀y,Sz 1004 ⟨eS (gx (dU (dU aa nw s) to nm) y) { bO aa (eB aa nw s).1 with up:=to },next,ae⟩:=fun y=>(z3 y).with (n:={ bO aa (eB aa nw s).1 with up:=to }) (bg hx.1 aM) hx.2 next ae
 have z5:Sz 1002 ⟨eS (dU aa nw s) { bO aa (eB aa nw s).1 with up:=to },next,ae⟩:=z1.with (n:={ bO aa (eB aa nw s).1 with up:=to }) (bg hx.1 aM) hx.2 next ae
 have s1:=z1.small aM;have s2:=z2.small aM;have s3:=fun y=>(z3 y).small aM
 have s4:=fun y=>(z4 y).small aM
 have s5:=z5.small aM;have n1:(dU aa nw s).length<=100000:=s1.aa;have n3:∀y,(gx (dU (dU aa nw s) to nm) y).length<=100000:=fun y=>(s3 y).aa
 clear z1 z2 z3 z4 z5 hx;refine aw ?_;simp only[aha,PF,bD,aY,k56,ht,hs,EN,seval];refine bW (fun hb0=>?_) (fun hb0=>?_)
 ·simp only[PF,hb0,EN,seval];clear s1 s2 s3 s4 s5 n1 n3;simp_all only[wR,bD,aY,vK,↓reduceIte,reduceCtorEq,an]
 simp only[PF,hb0,Wf,hn,bJ,aI,EN,seval];refine bW (fun hb1=>?_) (fun hb1=>?_)
 ·simp only[PF,hb1,EN,seval];clear s1 s2 s3 s4 s5 n1 n3;simp_all only[wR,bD,aY,vK,↓reduceIte,reduceCtorEq,an]
 simp only[PF,hb1,Oh,ha,EN,seval];refine bW (fun hb2=>?_) (fun hb2=>?_)
 ·simp only[PF,hb2,EN,seval];clear s1 s2 s3 s4 s5 n1 n3;simp_all only[wR,bD,aY,vK,↓reduceIte,reduceCtorEq,an]
 simp only[PF,hb2,abF,hd,EN,seval];rcases tx nm (gM aa to).1.aK 0 with ⟨h1,h2⟩|⟨m,n,h1,h2,h3⟩
 ·have hu:fC (gM aa to).1.aK nm=0:=by simp[fC,h1]
  rw[h2];simp only[PF,EN,seval]
  repeat' ((first|apply bW|apply c8|apply fq)<;>intro hb<;>simp only[hb,EN,PF,Ha,hn,ht,bJ,aI,k27,ahG,KC,ahH,abE,abD,Ie,We,s1,s2,s3,s4,s5,n1,n3,bD,aY,seval])
  all_goals (clear s1 s2 s3 s4 s5 n1 n3 h2; simp_all only[wR,rQ,manyN,hu,bD,aY,vK,↓reduceIte,reduceCtorEq,an]; done)
 ·have hu:fC (gM aa to).1.aK nm=n.ar:=by simp[fC,h2]
  rw[h3];simp only[PF,h1,dJ,EN,seval]
  repeat' ((first|apply bW|apply c8|apply fq)<;>intro hb<;>simp only[hb,EN,PF,Ha,hn,ht,bJ,aI,k27,ahG,KC,ahH,abE,abD,Ie,We,s1,s2,s3,s4,s5,n1,n3,bD,aY,seval])
  all_goals (clear s1 s2 s3 s4 s5 n1 n3 h3; simp_all only[wR,rQ,manyN,hu,bD,aY,vK,↓reduceIte,reduceCtorEq,an]; done)
def k57(aa:List Node)(next ae nw:Int)(s:Bytes)(to:Int)(nm:Bytes)(hz:Sz 1000 ⟨aa,next,ae⟩)(hs:s.length<=100000)(ha:nm.length<=100000)(M:aO):aL (aq dp) 57 [.agg [aV aa,aH next,aH ae],aH nw,.str s,aH to,.str nm] M =
  some (.tuple [bD (wR ⟨aa,next,ae⟩ nw s to nm).1,aH (wR ⟨aa,next,ae⟩ nw s to nm).2.1,aH (wR ⟨aa,next,ae⟩ nw s to nm).2.2],M):=cO (c57 ⟨aa,next,ae⟩ nw s to nm hz hs ha) M
end
def FY{t:Tree}(ht:Rt t){s:Bytes}{j:Int}(h:eW t s=(j,0)):∃n,find t.aa j=some n:=by
 obtain⟨cz,g⟩:=ht;obtain⟨l,_,hw⟩:=yc.1 h;obtain⟨r,hr,hrk,_⟩:=g.root;obtain⟨m,hm,_⟩:=g.X4 (uO.1 hw) hr (by simp[k9,hrk])
 exact⟨m,hm⟩
def ri(t:Tree)(s:Bytes):Int×Bytes×Int:=if (gh s).2.2 != 0 then (0,[],(gh s).2.2) else ((eW t (gh s).2.1).1,(gh s).1,(eW t (gh s).2.1).2)
def FP(t:Tree)(s:Bytes):(ri t s).2.2=(mj t s).2.2:=by
 unfold ri mj;split
 ·rfl
 ·split
  ·rfl
  ·rename_i h; simpa using h
def Jf{t:Tree}{s:Bytes}(h:((mj t s).2.2 != 0)=false):ri t s=mj t s:=by
 unfold ri mj at *;split
 ·rfl
 ·rename_i h1;rw[aj h1] at h;split
  ·rename_i h2; rw[av h2] at h; simp only at h; rw[h] at h2; cases h2
  ·rename_i h2;have:(eW t (gh s).2.1).2=0:=by simpa using h2
   rw[this]
def FQ(t:Tree)(s:Bytes)(hs:s.length<=100000):(ri t s).2.1.length<=1000:=by
 have:=tM s hs;unfold ri;split
 ·simp
 ·simp only; omega
section
variable {t:Tree} {l:List Piece}
attribute [local irreducible] fP fm kM gK dH kr aq aL cH bP
def Rk(t:Tree)(s:Bytes)(ht:Small t)(hs:s.length<=100000)(M:aO):aL (aq dp) 24 [.agg [aV t.aa,aH t.next,aH t.ae],.str s] M=some (.tuple [aH (eW t s).1,aH (eW t s).2],M):=by
 rw[<-Jj]; exact k24 t.aa t.next t.ae s ht hs M
def k51(t:Tree)(s:Bytes)(ht:Small t)(hs:s.length<=100000)(M:aO):aL (aq dp) 51 [.agg [aV t.aa,aH t.next,aH t.ae],.str s] M=some (.tuple [aH (ri t s).1,.str (ri t s).2.1,aH (ri t s).2.2],M):=by
 refine cO (aw ?_) M;have q1:=Rb s hs;have hl:=tM s hs;have q2:=Rk t (gh s).2.1 ht aM;unfold ri;generalize gh s=v at q1 q2 ⊢;generalize eW t v.2.1=w at q2 ⊢;cases h1:v.2.2 != 0
 ·simp only[abf,E51,q1,q2,h1,af,aE,aC,EW,seval]
 ·simp only[abf,E51,q1,h1,aE,EW,seval]
def c50(t:Tree)(ht:Rt t)(o:qm)(ho:Ca o)(hk:o.kind=1\/o.kind=7\/o.kind=6):aq dp 50 [bD t,zF o] []=some (ub (if (fQ t o).2.2 != 0 then nD (fQ t o).2.2 else (fQ t o).2.1),[]):=by
 refine aw ?_;have q1:=Rk t o.aQ ht.small (by have:=ho.aQ; omega)
 have hwf:=fun {j}=>FY ht (s:=o.aQ) (j:=j)
 have hn:=ht.sz.aa;have q2:=fun ar M=>Ha t.aa t.next t.ae ar aM M
 have q3:=al3 t ht;have hll:=AV ht
 have w1:(fQ t o)=if o.kind=1 then rZ t o else if o.kind=6 then uk t o else sa t o:=by
  unfold fQ;rcases hk with h|h|h<;>simp[h]
 rw[w1];unfold rZ uk sa;generalize eW t o.aQ=v at q1 hwf ⊢;obtain⟨j,e⟩:=v
 by_cases he:e=0
 rotate_left
 ·have hb:(e != 0)=true:=by simpa using he
  simp only[Kr,E50,bD,aY,zF,fD,q1,hb,EW,seval];rcases hk with h|h|h<;>simp[h,hb,nD,ub,ga,vz,fX,mc]
 subst he;obtain⟨n,hf⟩:=hwf rfl;have hno:=(cr hf).2;have hnn:bO t.aa j=n:=by simp[bO,hf]
 have q2:=q2 j;rw[hf] at q2;simp only[bQ,bJ,aI] at q2;simp only[hnn,hno];rcases hk with h|h|h
 ·have h1:(o.kind==1)=true:=by simp[h]
  simp only[Kr,E50,bD,aY,zF,fD,q1,q2,h,an,EW,seval];rfl
 ·simp only[Kr,E50,bD,aY,zF,fD,q1,q2,h,an,EW,seval];rfl
 ·have q3:=q3 j o.n o.m;have hll:=hll j o.n o.m;generalize qM t j o.n o.m=L at q3 hll ⊢;cases h1:L.2.2 != 0
  rotate_left
  ·simp only[Kr,E50,bD,aY,zF,fD,q1,q2,q3,h,h1,an,EW,seval];rfl
  ·simp only[Kr,E50,bD,aY,zF,fD,q1,q2,q3,h,h1,an,EW,seval];have e0:(L.2.2=0):=by simpa using h1
   refine dj (gV (xs:=L.1) aM (fun j (S:List Bytes)=>S=(L.1.take j).map eM.name) (fun _ (_:List Bytes)=>()) (fun S i=>[(4,dC 2),(9,iU L.1),(10,aH L.2.1),(11,.slice (.own 4) (S.map ag.str)),(12,aH i)])
    (fun S=>[cL [aV t.aa,aH t.next,aH t.ae],cL [aH 6,aH o.kD,.str o.aQ,.str o.rj,aH o.n,aH o.m,aH o.handle,mc o.data],cL [aH 0,aH 0,aH 0,aH 0,aH 0,.slice .c0 [],.slice .c0 []],cL [aH n.ar,aH n.kind,aH n.df,mc n.data,iU n.aK,aH n.up],.tick 1 S.length])
    (fun _=>some (ub ⟨0,0,0,L.2.1,0,L.1.map eM.name,[]⟩,[])) (fun S hS=>?_) (fun pre e post S hh hx cA hw h0 hm hS hi=>?_) [] rfl) rfl
   ·rw[bT] at hS;subst hS;simp only[E50,aX,DZ,EW,seval];rfl
   ·have hp:=(au.1 hx).1;have hsl:S.length<=pre.length:=by rw[hS]; simp; omega
    have ht:(L.1.take (pre.length+1)).map eM.name=S++[e.name]:=by rw[eU,hx,bH,hS]; rfl
    have i1:=hi _ ht.symm;have r1:dY (S.length+1) 16=True:=xt;simp only[bH,a8,bE,aR,aD,aF,aN] at i1;simp only[E50,cA,hx,hw,h0,r1,gq,dJ,DZ,EW,seval];exact i1
end
section
variable {t:Tree} {l:List Piece}
attribute [local irreducible] fP fm kM gK dH kr aq aL cH bP
def al5{t:Tree}(ht:Rt t)(M:aO):aL (aq dp) 113 [.agg [aV t.aa,aH t.next,aH t.ae]] M=some (.agg [aV (gS t).aa,aH (gS t).next,aH (gS t).ae],M):=by
 refine cO (aw ?_) M;have hn:=ht.sz.aa;simp only[Yy,Z8,EW,seval]
 refine dj (gV (xs:=t.aa) aM (fun j (u:Tree)=>Rt u/\u=(t.aa.take j).foldl (fun u n=>if n.kind==1&&n.df==0 then (pc u n.ar).1 else u) t) (fun _ (_:Tree)=>()) (fun _ i=>[(1,dC 0),(2,dC 1),(3,dC 2),(4,aH i)])
  (fun u=>[cL [aV t.aa,aH t.next,aH t.ae],cL [.slice .c0 [],aH 0,aH 0],cL [aV u.aa,aH u.next,aH u.ae]])
  (fun _=>some (.agg [aV (gS t).aa,aH (gS t).next,aH (gS t).ae],[])) (fun u hu=>?_) (fun pre n post u hh hx cA hw h0 hm hu hi=>?_) t ⟨ht,rfl⟩) rfl
 ·obtain⟨-,hu⟩:=hu;rw[bT] at hu;have hs:u=gS t:=hu;subst hs;simp only[Z8,aX,EW,seval]
 ·obtain⟨hu1,hu2⟩:=hu;have hT:(t.aa.take (pre.length+1)).foldl (fun u n=>if n.kind==1&&n.df==0 then (pc u n.ar).1 else u) t=if n.kind==1&&n.df==0 then (pc u n.ar).1 else u:=by rw[eU,hx,kQ,<-hu2]; rfl
  have q:=amo u.aa u.next u.ae n.ar hu1.small
  have i1:=hi _ ⟨by
   split
   ·exact hu1.free n.ar
   ·exact hu1,hT.symm⟩
  simp only[bD,aY] at q;cases h1:n.kind==1<;>cases h2:n.df==0<;>simp only[h1,h2,b9,cp,di,af,aE,aC] at i1 <;>
  simp only[Z8,cA,hx,hw,h0,h1,h2,q,bJ,aI,b9,cp,di,EW,seval]<;>exact i1
def Ac(t:Tree)(u:Tree)(e ar k:Int)(he:(e != 0)=true)(M:aO):aL (aq dp) 53 [.agg [aV t.aa,aH t.next,aH t.ae],.agg [aV u.aa,aH u.next,aH u.ae],aH e,.agg [aH 0,aH ar,aH k,aH 0,aH 0,ka [],ka []]] M =
  some (.tuple [.agg [aV t.aa,aH t.next,aH t.ae],.agg [aH e,aH 0,aH 0,aH 0,aH 0,ka [],ka []]],M):=by
 refine cO (aw ?_) M;simp only[abg,E53,he,EW,seval]
def Cp(t:Tree){u:Tree}(hu:Rt u)(ar k:Int)(M:aO):aL (aq dp) 53 [.agg [aV t.aa,aH t.next,aH t.ae],.agg [aV u.aa,aH u.next,aH u.ae],aH 0,.agg [aH 0,aH ar,aH k,aH 0,aH 0,ka [],ka []]] M =
  some (.tuple [.agg [aV (gS u).aa,aH (gS u).next,aH (gS u).ae],.agg [aH 0,aH ar,aH k,aH 0,aH 0,ka [],ka []]],M):=by
 refine cO (aw ?_) M;have q:=al5 hu;simp only[abg,E53,q,an,EW,seval]
end
def UX{t:Tree}{o:qm}(hk:o.kind=1\/o.kind=7\/o.kind=6):(fQ t o).1=t:=by
 unfold fQ;rcases hk with h|h|h
 ·rw[av h]; unfold rZ; split<;>rfl
 ·rw[aj aM,aj aM,aj aM,aj aM,aj aM,aj aM]; unfold sa; dsimp only; split<;>rfl
 ·rw[aj aM,aj aM,aj aM,aj aM,aj aM,av h]; unfold uk; dsimp only; split
  ·rfl
  ·split<;>rfl
section
variable {t:Tree} {l:List Piece}
attribute [local irreducible] fP fm kM gK dH kr aq aL cH bP
def FI.plain{t:Tree}{l:List Piece}(hf:FI l t)(o:qm)(ho:Ca o)(hk:1<=o.kind/\o.kind<=7):aq dp 16 [bD t,zF o] []=some (.tuple [bD (tg t o).1,ub (tg t o).2],[]):=by
 have hsw:gS t=t:=by obtain⟨cz,g⟩:=hf.rt; exact FT g hf.may
 have ht:Rt t:=hf.rt;have hp:o.aQ.length<=100000:=by have:=ho.aQ; omega
 have hp2:o.rj.length<=100000:=by have:=ho.rj; omega
 have hz:Sz 1000 t:=ht.sz.up aM;refine aw ?_
 by_cases hka:o.kind=1\/o.kind=7\/o.kind=6
 ·have q:=fun M=>cO (c50 t ht o ho hka) M
  have hw:=UX (t:=t) hka
  have hpt:tg t o=(t,if (fQ t o).2.2 != 0 then nD (fQ t o).2.2 else (fQ t o).2.1):=by
   unfold tg;rw[hw,hsw]; split<;>rfl
  rw[hpt];generalize (if (fQ t o).2.2 != 0 then nD (fQ t o).2.2 else (fQ t o).2.1)=a at q ⊢
  simp only[bD,aY,zF,fD,ub,ga] at q;rcases hka with h|h|h<;>rw[h] at q <;>
  simp only[yi,Jw,bD,aY,zF,fD,ub,ga,q,h,EW,seval]
 have q1:=k51 t o.aQ ht.small hp;have q2:=k51 t o.rj ht.small hp2;have e1:=FP t o.aQ;have e2:=FP t o.rj;have l1:=FQ t o.aQ hp;have l2:=FQ t o.rj hp2;have d1:=Jf (t:=t) (s:=o.aQ);have d2:=Jf (t:=t) (s:=o.rj);rcases(show o.kind=3\/o.kind=2\/o.kind=4\/o.kind=5 by omega) with h|h|h|h
 ·have hw:fQ t o=uj t o:=by unfold fQ; rw[aj aM,aj aM,av h]
  unfold tg;rw[hw];unfold uj;simp only;have q0:=Rk t o.aQ ht.small hp;have hwf:=fun {j}=>FY ht (s:=o.aQ) (j:=j)
  rw[<-e2];cases h0:(eW t o.aQ).2 != 0
  rotate_left
  ·simp only[yi,Jw,bD,aY,zF,fD,ub,ga,q0,h,h0,nD,aE,EW,seval];rfl
  have h0':(eW t o.aQ).2=0:=by simpa using h0
  obtain⟨n,hn⟩:=hwf (j:=(eW t o.aQ).1) (ig rfl h0');have hnn:bO t.aa (eW t o.aQ).1=n:=by simp[bO,hn]
  rw[hnn,(cr hn).2];generalize eW t o.aQ=v at *;cases h1:(ri t o.rj).2.2 != 0
  rotate_left
  ·simp only[yi,Jw,bD,aY,zF,fD,ub,ga,q0,q2,h,h0,h1,nD,aE,aC,af,EW,seval];rfl
  rw[<-d2 (by rw[<-e2]; exact h1)]
  generalize ri t o.rj=s at *;have q3:=k52 t.aa t.next t.ae v.1 s.1 s.2.1 hz aM
  have hra:=ht.ln v.1 s.1 s.2.1;have qe:=Ac t (B4 t v.1 s.1 s.2.1).1 (B4 t v.1 s.1 s.2.1).2 v.1 0;have qt:=Cp t hra v.1 0;have eT:(⟨t.aa,t.next,t.ae⟩:Tree)=t:=rfl
  rw[eT] at q3;generalize B4 t v.1 s.1 s.2.1=w at q3 hra qt qe ⊢;simp only[bD,aY] at q3;cases h3:w.2 != 0
  ·have h3':w.2=0:=by simpa using h3
   rw[h3'] at q3;simp only[yi,Jw,bD,aY,zF,fD,ub,ga,q0,q2,q3,qt,h,h0,h1,aC,af,an,EW,seval];rfl
  ·have qe:=qe h3;simp only[yi,Jw,bD,aY,zF,fD,ub,ga,q0,q2,q3,qe,h,h0,h1,h3,nD,aE,aC,af,EW,seval];rfl
 ·have hw:fQ t o=ve t o:=by unfold fQ; rw[aj aM,av h]
  unfold tg;rw[hw];unfold ve;simp only;rw[<-e1];cases h1:(ri t o.aQ).2.2 != 0
  rotate_left
  ·simp only[yi,Jw,bD,aY,zF,fD,ub,ga,q1,h,h1,nD,aE,EW,seval];rfl
  rw[<-d1 (by rw[<-e1]; exact h1)]
  generalize ri t o.aQ=v at *;have q3:=k54 t.aa t.next t.ae v.1 v.2.1 o.n hz aM
  have hra:=ht.add v.1 v.2.1 o.n;have qe:=Ac t (nL t v.1 v.2.1 o.n).1 (nL t v.1 v.2.1 o.n).2.2 (nL t v.1 v.2.1 o.n).2.1 o.n;have qt:=Cp t hra (nL t v.1 v.2.1 o.n).2.1 o.n;have eT:(⟨t.aa,t.next,t.ae⟩:Tree)=t:=rfl
  rw[eT] at q3;generalize nL t v.1 v.2.1 o.n=w at q3 hra qt qe ⊢;simp only[bD,aY] at q3;cases h3:w.2.2 != 0
  ·have h3':w.2.2=0:=by simpa using h3
   rw[h3'] at q3;simp only[yi,Jw,bD,aY,zF,fD,ub,ga,q1,q3,qt,h,h1,aC,af,an,EW,seval];rfl
  ·have qe:=qe h3;simp only[yi,Jw,bD,aY,zF,fD,ub,ga,q1,q3,qe,h,h1,h3,nD,aE,aC,af,EW,seval];rfl
 ·have hw:fQ t o=oa t o:=by unfold fQ; rw[aj aM,aj aM,aj aM,av h]
  unfold tg;rw[hw];unfold oa;simp only;rw[<-e1];cases h1:(ri t o.aQ).2.2 != 0
  rotate_left
  ·simp only[yi,Jw,bD,aY,zF,fD,ub,ga,q1,h,h1,nD,aE,EW,seval];rfl
  rw[<-d1 (by rw[<-e1]; exact h1)]
  generalize ri t o.aQ=v at *;have q3:=k55 t.aa t.next t.ae v.1 v.2.1 hz aM
  have hra:=ht.un v.1 v.2.1;have qe:=Ac t (wv t v.1 v.2.1).1 (wv t v.1 v.2.1).2.2 (wv t v.1 v.2.1).2.1 0;have qt:=Cp t hra (wv t v.1 v.2.1).2.1 0;have eT:(⟨t.aa,t.next,t.ae⟩:Tree)=t:=rfl
  rw[eT] at q3;generalize wv t v.1 v.2.1=w at q3 hra qt qe ⊢;simp only[bD,aY] at q3;cases h3:w.2.2 != 0
  ·have h3':w.2.2=0:=by simpa using h3
   rw[h3'] at q3;simp only[yi,Jw,bD,aY,zF,fD,ub,ga,q1,q3,qt,h,h1,aC,af,an,EW,seval];rfl
  ·have qe:=qe h3;simp only[yi,Jw,bD,aY,zF,fD,ub,ga,q1,q3,qe,h,h1,h3,nD,aE,aC,af,EW,seval];rfl
 ·have hw:fQ t o=pL t o:=by unfold fQ; rw[aj aM,aj aM,aj aM,aj aM,av h]
  unfold tg;rw[hw];unfold pL;simp only;rw[<-e1,<-e2];cases h1:(ri t o.aQ).2.2 != 0
  rotate_left
  ·simp only[yi,Jw,bD,aY,zF,fD,ub,ga,q1,h,h1,nD,aE,EW,seval];rfl
  rw[<-d1 (by rw[<-e1]; exact h1)]
  generalize ri t o.aQ=v at *;cases h2:(ri t o.rj).2.2 != 0
  rotate_left
  ·simp only[yi,Jw,bD,aY,zF,fD,ub,ga,q1,q2,h,h1,h2,nD,aE,aC,af,EW,seval];rfl
  rw[<-d2 (by rw[<-e2]; exact h2)]
  generalize ri t o.rj=s at *;have q0:=k56 t.aa t.next t.ae v.1 v.2.1 ht.small aM
  have q3:=k57 t.aa t.next t.ae v.1 v.2.1 s.1 s.2.1 hz aM aM
  have hra:=ht.mv v.1 v.2.1 s.1 s.2.1;have qe:=Ac t (wR t v.1 v.2.1 s.1 s.2.1).1 (wR t v.1 v.2.1 s.1 s.2.1).2.2 (eB t.aa v.1 v.2.1).1 0;have qt:=Cp t hra (eB t.aa v.1 v.2.1).1 0;have eT:(⟨t.aa,t.next,t.ae⟩:Tree)=t:=rfl
  rw[eT] at q3;generalize wR t v.1 v.2.1 s.1 s.2.1=w at q3 hra qt qe ⊢;simp only[bD,aY] at q3;cases h3:w.2.2 != 0
  ·have h3':w.2.2=0:=by simpa using h3
   rw[h3'] at q3;simp only[yi,Jw,bD,aY,zF,fD,ub,ga,q0,q1,q2,q3,qt,h,h1,h2,aC,af,an,EW,seval];rfl
  ·have qe:=qe h3;simp only[yi,Jw,bD,aY,zF,fD,ub,ga,q0,q1,q2,q3,qe,h,h1,h2,h3,nD,aE,aC,af,EW,seval];rfl
end
section
attribute [local irreducible] fP fm kM gK dH kr aq aL cH bP
def aiO(c:Piece)(s:Bytes)(g e:Int):putCells (dy c) 0 [.str s,aH g,aH e]=dy ⟨s,g,e⟩:=rfl
def akY{l:List Piece}(hl:kc l)(s:Bytes)(hs:s.length<=100000)(to:Int):aq dp 153 [bV l,.str s,aH to] []=some (.tuple [bV (nV l s to).1,aH (nV l s to).2],[]):=by
 refine aw ?_;have hm:=hl.many;have q1:=Ig s hs;have q2:=abK l aM s;rw[Cl] at q2;unfold nV
 by_cases hg1:0<=to
 rotate_left
 ·have e:nU to=false:=by simp[nU]; intro h; exact absurd h hg1
  have e1:(to<0)=True:=x7;rw[av e];simp only[BD,M9,e1,EW,seval]
 have e1:(to<0)=False:=GV
 by_cases hg2:to<8
 rotate_left
 ·have e:nU to=false:=by simp[nU]; intro h; omega
  have e2:(8<=to)=True:=x7;rw[av e];simp only[BD,M9,e1,e2,EW,seval]
 have e2:(8<=to)=False:=GV;have e:nU to=true:=by simp[nU,hg1,hg2]
 rw[aj (by simp[e])]
 by_cases he:(bI s).2=0
 rotate_left
 ·have h60:(bI s).2=60:=by rcases wu s with h|h<;>rw[h] at he ⊢; exact absurd rfl he
  have hb:((bI s).2 != 0)=true:=by simpa using he
  rw[av hb,h60];simp only[BD,M9,e1,e2,q1,hb,EW,seval]
 have hb:((bI s).2 != 0)=false:=by simp[he]
 rw[aj (by simp[hb])]
 cases hp:rJ l s with
 |none =>
  rw[hp] at q2;simp only at q2 ⊢;simp only[BD,M9,e1,e2,q1,q2,hb,Int.reduceLT,Int.reduceNeg,EW,seval]
 |some b =>
  rw[hp] at q2;obtain⟨p,hx,hps⟩:=pK hp;have cA:=(au.1 hx).1;have hat:nB l b=p:=by unfold nB; rw[hx]; rfl
  have hok:=(hl.ok _ (aU hx)).2;have g1:((b:Int)<0)=False:=GV;simp only[aN] at q2;simp only[hat];cases h2:decide (1099511627776<=p.dR)
  rotate_left
  ·have h2':1099511627776<=p.dR:=by simpa using h2
   rw[av h2'];simp only[BD,M9,e1,e2,q1,q2,hb,g1,hx,h2,cS,eI,cI,bj,EW,seval]
  ·have h2':¬1099511627776<=p.dR:=by simpa using h2
   rw[aj h2'];have hw1:=wr1 hok.2.2.1 hok.2.2.2;have r1:dY l.length 32=True:=xt;have hbl:((b:Int)<(l.length:Int))=True:=x7;have hne:(l.length==0)=false:=by rw[ck]; omega
   have hT:List.take l.length ((l.set b ⟨s,to,p.dR+1⟩).map dy)=(l.set b ⟨s,to,p.dR+1⟩).map dy:=bS dk;simp only[BD,M9,e1,e2,q1,q2,hb,g1,hx,h2,hw1,r1,hbl,hne,hT,Jm,cS,eI,cI,bj,az,cd,aN,ec,r9 l b p _ 0 _ (aiO p s to (p.dR+1)),ak,aE,EW,seval]
def jy(f:rR)(t:Tree)(o:qm):List ag:=[bV f.pieces,mf f.dV,.int .i64 f.next,.int .i64 f.ae,aV t.aa,.int .i64 t.next,.int .i64 t.ae,
 .int .i64 o.kind,.int .i64 o.kD,.str o.aQ,.str o.rj,.int .i64 o.n,.int .i64 o.m,.int .i64 o.handle,mc o.data,
 .int .i64 0,.int .i64 0,.int .i64 0,.int .i64 0,.int .i64 0,.slice .c0 [],.slice .c0 []]
abbrev nC(f:rR)(t:Tree)(o:qm):dg := .cells (jy f t o)
def iX(f:rR)(t:Tree)(o:qm)(a:Pp)(x:ag):dg := .cells [bV f.pieces,mf f.dV,.int .i64 f.next,.int .i64 f.ae,aV t.aa,.int .i64 t.next,.int .i64 t.ae,
 .int .i64 o.kind,.int .i64 o.kD,.str o.aQ,.str o.rj,.int .i64 o.n,.int .i64 o.m,.int .i64 o.handle,mc o.data,
 .int .i64 a.err,.int .i64 a.ar,.int .i64 a.kind,.int .i64 a.n,.int .i64 a.m,x,.slice .c0 []]
def Row(x:ag)(xs:List ag):Prop:=x = .slice .sh xs\/(x = .slice .c0 []/\xs=[])
def yC(K:Nat)(f:rR)(t:Tree)(o:qm)(r:Wt):Prop :=
 ∃x,Row x (r.2.1.names.map ag.str)/\r.2.1.data=[]/\aq fc K [.ptr 0 0] [.cells (jy f t o)]=some (if r.2.2 != 0 then jj r.2.2 else .tuple [],[iX f r.1 o r.2.1 x])
def kWk{C:eO}{g p:Nat}{vs:List ag}{r:ag}{M:aO}{f:rR}{t:Tree}{o:qm}(hM:nth M p=some (nC f t o))(h:C g (.ptr 0 0::vs) [nC f t o]=some (r,[nC f t o]))
  (h1:vs.all ag.flat=true) (h2:vs.flatMap ag.ids=[]) (h3:r.yn=true) (h4:∀p,vs.map (ag.rn (jb [p]))=vs) (h5:∀p,r.B6 (yf [p])=r) :
  aL C g (.ptr p 0::vs) M=some (r,M):=by
 have:=oN hM h h1 h2 h3 (h4 p) (h5 p) rfl rfl rfl rfl rfl;rwa[wq hM] at this
def xd(l:List Piece):List Bytes->Int->Bool
 | [],n=>n != 0
 |p::r,n=>if (gh p).2.2 != 0 then false else xd l r (nc (n+(nj l p:Nat)))
def Ar{l:List Piece}(hl:kc l)(s:Bytes):nj l s<=16:=bg kH hl.many
def aho{l:List Piece}(hl:kc l)(p:Bytes):xd l [p] 0=((gh p).2.2==0&&decide (0<nj l p)):=by
 have hc:=Ar hl p;have hw:nc (0+(nj l p:Nat))=(nj l p:Nat):=by rw[Int.zero_add]; exact gb aM aM
 simp only[xd,hw];cases h:(gh p).2.2==0
 ·simp[bne,h]
 ·simp only[bne,h,cG,af,aC,b9];rw[er]; simp; omega
def ahp{l:List Piece}(hl:kc l)(p q:Bytes):xd l [p,q] 0=((gh p).2.2==0&&((gh q).2.2==0&&decide (0<nj l p+nj l q))):=by
 have hc:=Ar hl p;have hd:=Ar hl q;have hw:nc (0+(nj l p:Nat))=(nj l p:Nat):=by rw[Int.zero_add]; exact gb aM aM
 have hw2:nc ((nj l p:Nat)+(nj l q:Nat))=((nj l p+nj l q:Nat):Int):=by rw[nc,gb aM aM]; omega
 simp only[xd,hw,hw2];cases h:(gh p).2.2==0
 ·simp[bne,h]
 ·simp only[bne,h,cG,af,aC,b9];cases h':(gh q).2.2==0
  ·simp
  ·simp only[cG,af,aC,b9];rw[er]; simp; omega
def akl{l:List Piece}(hl:kc l)(t:Tree){o:qm}(hk:o.kind=4):((eW t o.aQ).2==0&&xd l [o.aQ] 0)=vR l t o:=by
 unfold vR; rw[av hk,aho hl]
def akm{l:List Piece}(hl:kc l)(t:Tree){o:qm}(hk:o.kind=5):((eW t o.aQ).2==0&&xd l [o.aQ,o.rj] 0)=vR l t o:=by
 unfold vR; rw[aj aM,av hk,ahp hl]
section
variable (f:rR) {t:Tree} (ht:Rt t) (o:qm)
include ht
theorem c90(aQ:Bytes)(hp:aQ.length<=100000):aq fc 90 [dC 0,.str aQ] [nC f t o] =
  some (if (eW t aQ).2 != 0 then jj (eW t aQ).2 else .agg (aI (bO t.aa (eW t aQ).1)),[nC f t o]):=by
 refine aw ?_;have q1:=Wh t aQ ht.small ht.jK hp;generalize eW t aQ=v at q1 ⊢;have q2:=zN v.2;have q3:=fun M=>lS (Wc t v.1 ht.small ht.jK M)
 simp only[aI] at q3;simp only[abp,E90,nC,jy,q1,EW,seval];cases he:v.2 != 0<;>simp only[he,af,aE,aC,jj] at q2 ⊢
 ·simp only[E90,q2,q3,aI,EW,seval]
 ·simp only[E90,q2,EW,seval]
theorem k90(aQ:Bytes)(hp:aQ.length<=100000){p:Nat}{M:aO}(hM:nth M p=some (nC f t o)):aL (aq fc) 90 [dC p,.str aQ] M =
  some (if (eW t aQ).2 != 0 then jj (eW t aQ).2 else .agg (aI (bO t.aa (eW t aQ).1)),M) :=
 kWk hM (c90 f ht o aQ hp) rfl rfl (by split<;>rfl) (fun _=>rfl) (fun _=>by split<;>rfl)
theorem ak5(aQ:Bytes)(hp:aQ.length<=100000):aq fc 169 [dC 0,.str aQ] [nC f t o] =
  some (if (mj t aQ).2.2 != 0 then jj (mj t aQ).2.2 else .tuple [aH (mj t aQ).1,.str (mj t aQ).2.1],[nC f t o]):=by
 refine aw ?_;have q1:=abJ aQ hp;have hl:=tM aQ hp;have q4:=Wh t (gh aQ).2.1 ht.small ht.jK aM;unfold mj;generalize gh aQ=l at q1 q4 ⊢;have q2:=zN l.2.2;generalize eW t l.2.1=v at q4 ⊢;have q3:=zN v.2;simp only[YZ,U8,nC,jy,q1,EW,seval];cases he:l.2.2 != 0<;>simp only[he,af,aE,aC,jj] at q2 ⊢
 ·cases hv:v.2 != 0<;>simp only[hv,af,aE,aC,jj] at q3 ⊢
  ·simp only[U8,q2,q4,q3,an,af,aC,EW,seval]
  ·simp only[U8,q2,q4,q3,hv,aE,EW,seval]
 ·simp only[U8,q2,he,aE,EW,seval]
theorem Rf(aQ:Bytes)(hp:aQ.length<=100000){p:Nat}{M:aO}(hM:nth M p=some (nC f t o)):aL (aq fc) 169 [dC p,.str aQ] M =
  some (if (mj t aQ).2.2 != 0 then jj (mj t aQ).2.2 else .tuple [aH (mj t aQ).1,.str (mj t aQ).2.1],M) :=
 kWk hM (ak5 f ht o aQ hp) rfl rfl (by split<;>rfl) (fun _=>rfl) (fun _=>by split<;>rfl)
theorem Wi{u:Tree}(ar e:Int){p:Nat}{M:aO}(hM:nth M p=some (nC f t o)):aL (aq fc) 170 [dC p,.agg [aV u.aa,aH u.next,aH u.ae],aH ar,aH e] M =
  some (if e != 0 then jj e else .tuple [],if e != 0 then M else jY M p (iX f u o ⟨0,ar,0,0,0,[],[]⟩ (.slice .c0 []))):=by
 have q:=zN e;cases he:e != 0
 ·simp only[he,af,aC] at q ⊢
  have h:aq fc 170 [dC 0,.agg [aV u.aa,aH u.next,aH u.ae],aH ar,aH e] [nC f t o]=some (.tuple [],[iX f u o ⟨0,ar,0,0,0,[],[]⟩ (.slice .c0 [])]):=by
   refine aw ?_;simp only[QH,aeA,nC,jy,iX,q,EW,seval]
  exact oN hM h rfl rfl rfl rfl rfl rfl rfl rfl rfl rfl
 ·simp only[he,aE] at q ⊢
  have h:aq fc 170 [dC 0,.agg [aV u.aa,aH u.next,aH u.ae],aH ar,aH e] [nC f t o]=some (jj e,[nC f t o]):=by
   refine aw ?_;simp only[QH,aeA,nC,jy,q,jj,EW,seval]
  have:=oN hM h rfl rfl rfl rfl rfl rfl rfl rfl rfl rfl;rwa[wq hM] at this
theorem ahM{l:List Piece}(hl:kc l)(hf:f.pieces=l)(ps:List Bytes)(hps:∀p,p∈ps->p.length<=100000)(hn:ps.length<=100)(hp:o.aQ.length<=100000){p:Nat}{M:aO}(hM:nth M p=some (nC f t o)):aL (aq fc) 173 [dC p,fX ps] M =
  some (if (eW t o.aQ).2==0&&xd l ps 0 then jj 180 else .tuple [],M):=by
 refine kWk (f:=f) (t:=t) (o:=o) (vs:=[fX ps]) hM (aw ?_) rfl rfl (by split<;>rfl) (fun _=>rfl) (fun _=>by split<;>rfl)
 have q1:=Wh t o.aQ ht.small ht.jK hp;generalize eW t o.aQ=v at q1 ⊢;simp only[Y2,Na,nC,jy,q1,EW,seval];cases he:v.2 != 0
 rotate_left
 ·have he2:(v.2==0)=false:=by simpa using he
  simp only[Na,he2,cp,af,aC,EW,seval]
 have he2:(v.2==0)=true:=by simpa using he
 simp only[Na,he2,b9,EW,seval];refine sY (xs:=ps) aM (xd l) (fun n i=>[(0,dC 0),(6,aH n),(27,fX ps),(28,aH ps.length),(29,aH i)]) (fun _=>[nC f t o]) (fun b=>some (if b then jj 180 else .tuple [],[nC f t o])) (fun n=>?_) (fun pre x post n h hx cA hw h0 hm hi=>?_) 0
 ·have q2:=fun M=>U0 (n==0) 180 rfl M
  simp only[xd,nC,jy] at *;cases hn0:n==0<;>simp only[hn0,bne,cG,dG,af,aE,aC,jj] at q2 ⊢ <;> simp only[Na,aX,hn0,q2,jj,EW,seval]
 ·have q3:=abJ x (hps x hm);obtain⟨r,hr,q4⟩:=amw l hl.many hl.OV x (hps x hm);have i1:=hi (nc (n+(nj l x:Nat)));rw[<-hr] at i1;simp only[xd,<-hr];simp only[nC,jy,hf,nc] at i1 ⊢;cases h3:(gh x).2.2 != 0
  ·simp only[Na,cA,hx,hw,h0,q3,q4,h3,az,af,aC,EW,seval];exact i1
  ·simp only[Na,cA,hx,hw,h0,q3,h3,aE,af,aC,EW,seval]
theorem c97(ho:Ca o):yC 97 f t o (rZ t o):=by
 unfold yC;have hp:o.aQ.length<=100000:=by have:=ho.aQ; omega
 have hto:o.rj.length<=100000:=by have:=ho.rj; omega
 refine⟨.slice .c0 [],.inr ⟨rfl,?_⟩,?_,aw ?_⟩
 ·unfold rZ; (try simp only[]); split<;>rfl
 ·unfold rZ; (try simp only[]); split<;>rfl
 unfold rZ
 try simp only[]
 have q1:=fun {M}=>k90 f ht o o.aQ hp (p:=0) (M:=M)
 generalize eW t o.aQ=v at q1 ⊢;have q1:=@q1;generalize bO t.aa v.1=n at q1 ⊢
 try simp only[nC,jy,iX,aI,aY] at q1
 try simp only[nC,jy,iX,aI,aY] at q1
 cases h0:v.2 != 0
 ·simp only[abr,E97,nC,jy,iX,nA,aI,q1,q1,h0,zN,an,af,aE,aC,EW,seval]
 ·simp only[abr,E97,nC,jy,iX,nA,aI,q1,q1,h0,jj,zN,an,af,aE,aC,EW,seval]
theorem c98(ho:Ca o):yC 98 f t o (sa t o):=by
 unfold yC;have hp:o.aQ.length<=100000:=by have:=ho.aQ; omega
 have hto:o.rj.length<=100000:=by have:=ho.rj; omega
 refine⟨.slice .c0 [],.inr ⟨rfl,?_⟩,?_,aw ?_⟩
 ·unfold sa; (try simp only[]); split<;>rfl
 ·unfold sa; (try simp only[]); split<;>rfl
 unfold sa
 try simp only[]
 have q1:=fun {M}=>k90 f ht o o.aQ hp (p:=0) (M:=M)
 generalize eW t o.aQ=v at q1 ⊢;have q1:=@q1;generalize bO t.aa v.1=n at q1 ⊢
 try simp only[nC,jy,iX,aI,aY] at q1
 try simp only[nC,jy,iX,aI,aY] at q1
 cases h0:v.2 != 0
 ·simp only[abt,E98,nC,jy,iX,nA,aI,q1,q1,h0,zN,UF,an,af,aE,aC,EW,seval]
 ·simp only[abt,E98,nC,jy,iX,nA,aI,q1,q1,h0,jj,zN,UF,an,af,aE,aC,EW,seval]
theorem akp(ho:Ca o):yC 100 f t o (ve t o):=by
 unfold yC;have hp:o.aQ.length<=100000:=by have:=ho.aQ; omega
 have hto:o.rj.length<=100000:=by have:=ho.rj; omega
 refine⟨.slice .c0 [],.inr ⟨rfl,?_⟩,?_,aw ?_⟩
 ·unfold ve; (try simp only[]); split<;>(try split)<;>rfl
 ·unfold ve; (try simp only[]); split<;>(try split)<;>rfl
 unfold ve
 try simp only[]
 have hl:=vD t o.aQ hp;have q1:=fun {M}=>Rf f ht o o.aQ hp (p:=0) (M:=M)
 have hl:=hl;generalize mj t o.aQ=v at q1 hl ⊢;have q2:=amj t ht v.1 v.2.1 o.n aM;generalize nL t v.1 v.2.1 o.n=w at q2 ⊢;have q5:=fun {u ar e M}=>Wi f ht o (u:=u) ar e (p:=0) (M:=M)
 try simp only[nC,jy,iX,aI,aY] at q1
 try simp only[nC,jy,iX,aI,aY] at q2
 try simp only[nC,jy,iX,aI,aY] at q5
 cases h0:v.2.2 != 0
 ·cases h1:w.2.2 != 0
  ·simp only[LY,Z6,nC,jy,iX,nA,aI,q1,q2,q5,h0,h1,zN,an,af,aE,aC,EW,seval]
  ·simp only[LY,Z6,nC,jy,iX,nA,aI,q1,q2,q5,h0,h1,jj,zN,an,af,aE,aC,EW,seval]
 ·simp only[LY,Z6,nC,jy,iX,nA,aI,q1,q2,q5,h0,jj,zN,an,af,aE,aC,EW,seval]
theorem akq(ho:Ca o):yC 101 f t o (uj t o):=by
 unfold yC;have hp:o.aQ.length<=100000:=by have:=ho.aQ; omega
 have hto:o.rj.length<=100000:=by have:=ho.rj; omega
 refine⟨.slice .c0 [],.inr ⟨rfl,?_⟩,?_,aw ?_⟩
 ·unfold uj; (try simp only[]); split<;>(try split)<;>(try split)<;>rfl
 ·unfold uj; (try simp only[]); split<;>(try split)<;>(try split)<;>rfl
 unfold uj
 try simp only[]
 have q1:=fun {M}=>k90 f ht o o.aQ hp (p:=0) (M:=M)
 generalize eW t o.aQ=v at q1 ⊢;have q1:=@q1;generalize bO t.aa v.1=n at q1 ⊢;have hl:=vD t o.rj hto;have q2:=fun {M}=>Rf f ht o o.rj hto (p:=0) (M:=M)
 have hl:=hl;generalize mj t o.rj=s at q2 hl ⊢;have q3:=amk t ht n.ar s.1 s.2.1 aM;generalize B4 t n.ar s.1 s.2.1=w at q3 ⊢;have q5:=fun {u ar e M}=>Wi f ht o (u:=u) ar e (p:=0) (M:=M)
 try simp only[nC,jy,iX,aI,aY] at q1
 try simp only[nC,jy,iX,aI,aY] at q1
 try simp only[nC,jy,iX,aI,aY] at q2
 try simp only[nC,jy,iX,aI,aY] at q3
 try simp only[nC,jy,iX,aI,aY] at q5
 cases h0:v.2 != 0
 ·cases h1:s.2.2 != 0
  ·cases h2:w.2 != 0
   ·simp only[HV,U4,nC,jy,iX,nA,aI,q1,q1,q2,q3,q5,h0,h1,h2,zN,an,af,aE,aC,EW,seval]
   ·simp only[HV,U4,nC,jy,iX,nA,aI,q1,q1,q2,q3,q5,h0,h1,h2,jj,zN,an,af,aE,aC,EW,seval]
  ·simp only[HV,U4,nC,jy,iX,nA,aI,q1,q1,q2,q3,q5,h0,h1,jj,zN,an,af,aE,aC,EW,seval]
 ·simp only[HV,U4,nC,jy,iX,nA,aI,q1,q1,q2,q3,q5,h0,jj,zN,an,af,aE,aC,EW,seval]
theorem akr(ho:Ca o)(hl:kc f.pieces)(hk:o.kind=4):yC 102 f t o (if vR f.pieces t o then (t,nA,180) else oa t o):=by
 unfold yC;have hp:o.aQ.length<=100000:=by have:=ho.aQ; omega
 have hto:o.rj.length<=100000:=by have:=ho.rj; omega
 refine⟨.slice .c0 [],.inr ⟨rfl,?_⟩,?_,aw ?_⟩
 ·unfold oa; (try simp only[]); split<;>(try split)<;>(try split)<;>rfl
 ·unfold oa; (try simp only[]); split<;>(try split)<;>(try split)<;>rfl
 unfold oa
 try simp only[]
 have q0:=fun {M}=>ahM f ht o hl rfl [o.aQ] (by simp[hp,hto]) dk hp (p:=0) (M:=M)
 simp only[akl hl t hk] at q0
 try simp only[fX,a8,bE] at q0
 have hl1:=vD t o.aQ hp;have q2:=fun {M}=>Rf f ht o o.aQ hp (p:=0) (M:=M)
 have hl1:=hl1;generalize mj t o.aQ=s at q2 hl1 ⊢;have q3:=aml t ht s.1 s.2.1 aM;generalize wv t s.1 s.2.1=w at q3 ⊢;have q5:=fun {u ar e M}=>Wi f ht o (u:=u) ar e (p:=0) (M:=M)
 try simp only[nC,jy,iX,aI,aY] at q0
 try simp only[nC,jy,iX,aI,aY] at q2
 try simp only[nC,jy,iX,aI,aY] at q3
 try simp only[nC,jy,iX,aI,aY] at q5
 cases h0:vR f.pieces t o
 ·cases h1:s.2.2 != 0
  ·cases h2:w.2.2 != 0
   ·simp only[HW,U5,nC,jy,iX,nA,aI,q0,q2,q3,q5,h0,h1,h2,zN,an,af,aE,aC,EW,seval]
   ·simp only[HW,U5,nC,jy,iX,nA,aI,q0,q2,q3,q5,h0,h1,h2,jj,zN,an,af,aE,aC,EW,seval]
  ·simp only[HW,U5,nC,jy,iX,nA,aI,q0,q2,q3,q5,h0,h1,jj,zN,an,af,aE,aC,EW,seval]
 ·simp only[HW,U5,nC,jy,iX,nA,aI,q0,q2,q3,q5,h0,jj,zN,an,af,aE,aC,EW,seval]
theorem aks(ho:Ca o)(hl:kc f.pieces)(hk:o.kind=5):yC 103 f t o (if vR f.pieces t o then (t,nA,180) else pL t o):=by
 unfold yC;have hp:o.aQ.length<=100000:=by have:=ho.aQ; omega
 have hto:o.rj.length<=100000:=by have:=ho.rj; omega
 refine⟨.slice .c0 [],.inr ⟨rfl,?_⟩,?_,aw ?_⟩
 ·unfold pL; (try simp only[]); split<;>(try split)<;>(try split)<;>(try split)<;>rfl
 ·unfold pL; (try simp only[]); split<;>(try split)<;>(try split)<;>(try split)<;>rfl
 unfold pL
 try simp only[]
 have q0:=fun {M}=>ahM f ht o hl rfl [o.aQ,o.rj] (by simp[hp,hto]) dk hp (p:=0) (M:=M)
 simp only[akm hl t hk] at q0
 try simp only[fX,a8,bE] at q0
 have hl1:=vD t o.aQ hp;have q1:=fun {M}=>Rf f ht o o.aQ hp (p:=0) (M:=M)
 have hl1:=hl1;generalize mj t o.aQ=s at q1 hl1 ⊢;have hl2:=vD t o.rj hto;have q2:=fun {M}=>Rf f ht o o.rj hto (p:=0) (M:=M)
 have hl2:=hl2;generalize mj t o.rj=u at q2 hl2 ⊢;have q3:=amP t ht s.1 s.2.1 aM;generalize eB t.aa s.1 s.2.1=l at q3 ⊢;have q4:=amm t ht s.1 s.2.1 u.1 u.2.1 aM aM;generalize wR t s.1 s.2.1 u.1 u.2.1=w at q4 ⊢;have q5:=fun {u ar e M}=>Wi f ht o (u:=u) ar e (p:=0) (M:=M)
 try simp only[nC,jy,iX,aI,aY] at q0
 try simp only[nC,jy,iX,aI,aY] at q1
 try simp only[nC,jy,iX,aI,aY] at q2
 try simp only[nC,jy,iX,aI,aY] at q3
 try simp only[nC,jy,iX,aI,aY] at q4
 try simp only[nC,jy,iX,aI,aY] at q5
 cases h0:vR f.pieces t o
 ·cases h1:s.2.2 != 0
  ·cases h2:u.2.2 != 0
   ·cases h3:w.2.2 != 0
    ·simp only[EF,Pv,nC,jy,iX,nA,aI,q0,q1,q2,q3,q4,q5,h0,h1,h2,h3,zN,an,af,aE,aC,EW,seval]
    ·simp only[EF,Pv,nC,jy,iX,nA,aI,q0,q1,q2,q3,q4,q5,h0,h1,h2,h3,jj,zN,an,af,aE,aC,EW,seval]
   ·simp only[EF,Pv,nC,jy,iX,nA,aI,q0,q1,q2,q3,q4,q5,h0,h1,h2,jj,zN,an,af,aE,aC,EW,seval]
  ·simp only[EF,Pv,nC,jy,iX,nA,aI,q0,q1,q2,q3,q4,q5,h0,h1,jj,zN,an,af,aE,aC,EW,seval]
 ·simp only[EF,Pv,nC,jy,iX,nA,aI,q0,q1,q2,q3,q4,q5,h0,jj,zN,an,af,aE,aC,EW,seval]
end
end
section
variable {t:Tree} {cz:Int->Nat}
attribute [local irreducible] fP fm kM gK dH kr aq aL cH bP
def Xe{ar:Int}{i:Int}{T N:dg}{d:Node}{k:List K}{r:Option (ag×aO)}(hd:d.aK.length<=1000)(P0:ag)(ns0:List Bytes)(h0:Row P0 (ns0.map ag.str))(hn:ns0.length<=1000)
  (hT:∀B M,dg.back B M T=T) (hN:∀B M,dg.back B M N=N)
  (hx:∀P z,Row P ((d.aK.foldl (mg ar) ns0).map ag.str)->kr (aq dp) [.tmp 4] 0 k ⟨.exit 2,(1,aH ar)::(2,dC 0)::(5,P)::(6,aH i)::(7,dC 1)::z,[T,N,cL (aI d)]⟩=r) :
  fP (aq dp) [.tmp 4] 0 k (.loop [1,2,5,6,7,9,11] adk) [(1,aH ar),(2,dC 0),(5,P0),(6,aH i),(7,dC 1),(9,dC 2),(11,aH 0)] [T,N,cL (aI d)]=r:=by
 refine gV (xs:=d.aK) aM (fun j (s:ag×List Bytes)=>Row s.1 (s.2.map ag.str)/\s.2.length<=ns0.length+j/\(d.aK.drop j).foldl (mg ar) s.2=d.aK.foldl (mg ar) ns0) (fun _ (_:ag×List Bytes)=>()) (fun s j=>[(1,aH ar),(2,dC 0),(5,s.1),(6,aH i),(7,dC 1),(9,dC 2),(11,aH j)])
  (fun _=>[T,N,cL (aI d)]) (fun _=>r) (fun s hs=>?_) (fun pre x post s hh hz cA hw hz0 hm hs hi=>?_) (P0,ns0) ⟨h0,ak _,rfl⟩
 ·obtain⟨hs1,hs2,hs3⟩:=hs;rw[gY] at hs3;have hs3:s.2=d.aK.foldl (mg ar) ns0:=hs3;rw[hs3] at hs1;simp only[aI] at hx;simp only[JC,aI,az,aX,EW,seval];exact hx _ _ hs1
 ·obtain⟨P,ns⟩:=s;obtain⟨hs1,hs2,hs3⟩:=hs;simp only at hs1 hs2 hs3;have hd1:d.aK.drop pre.length=x::post:=by rw[hh]; simp
  have hd2:d.aK.drop (pre.length+1)=post:=by rw[hh]; simp
  have hpl:pre.length<d.aK.length:=by have:=congrArg List.length hh; simp at this; omega
  rw[hd1,bB] at hs3;have r1:dY (1+ns.length) 16=True:=xt;have r0:dY 1 16=True:=xt;have hwd:wid (ns.map ag.str) 1=True:=mo ag.str 1 (fun _=>rfl) ns
  simp only[aI] at hi ⊢;cases hc:x.ar==ar
  ·have e:mg ar ns x=ns:=by unfold mg; rw[hc]; rfl
   rw[e] at hs3;have i1:=hi (P,ns) ⟨hs1,by simp only; omega,by rw[hd2]; exact hs3⟩
   rcases hs1 with rfl|⟨rfl,_⟩ <;>
   simp only[JC,dJ,az,cA,hz,hw,hz0,hc,hT,hN,EW,seval]<;>exact i1
  ·have e:mg ar ns x=x.name::ns:=by unfold mg; rw[hc]; rfl
   rw[e] at hs3;have i1:=hi (ka ((x.name::ns).map ag.str),x.name::ns) ⟨.inl rfl,ic,by rw[hd2]; exact hs3⟩
   simp only[a8] at i1;rcases hs1 with rfl|⟨rfl,hn0⟩
   ·simp only[JC,dJ,az,cA,hz,hw,hz0,hc,hT,hN,r1,hwd,EW,seval];exact i1
   ·rw[hn0] at i1;simp only[JC,dJ,az,cA,hz,hw,hz0,hc,hT,hN,r0,EW,seval];exact i1
def Xf(h:cF t cz 0){k:List K}{r:Option (ag×aO)}{Lf:List Bytes}
  (hx:∀P z1 z2,Row P (Lf.map ag.str)->kr (aq dp) [.tmp 4] 0 k ⟨.exit 0,(1,z1)::(2,dC 0)::(5,P)::z2,[cL (aY t)]⟩=r) :
  ∀(m i:Nat)(L:List Bytes)(ar:Int)(ns:List Bytes)(n:Node)(P:ag),i+m=t.aa.length->Way t.aa 1 L ar->find t.aa ar=some n->n.kind=2->L.length<=m->L++ns=Lf->Lf.length<=12->Row P (ns.map ag.str) ->
   fP (aq dp) [.tmp 4] 0 k (.loop [1,2,5,6] adl) [(1,aH ar),(2,dC 0),(5,P),(6,aH i)] [cL (aY t)]=r:=by
 intro m;have hnl:=h.aa;induction m with
 |zero =>
  intro i L ar ns n P hi hw hf hk hL hLf h12 hP;have:L=[]:=cK aM;subst this;rw[bw] at hLf;subst hLf;rw[cv];have e1:((i:Int)<(t.aa.length:Int))=False:=GV;simp only[aY] at hx ⊢;rcases hP with rfl|⟨rfl,hn⟩
  ·simp only[JC,aY,az,e1,EW,seval];exact hx _ _ _ (.inl rfl)
  ·simp only[JC,aY,az,e1,EW,seval];exact hx _ _ _ (.inr ⟨rfl,hn⟩)
 |succ m ih =>
  intro i L ar ns n P hi hw hf hk hL hLf h12 hP;rw[cv];have e1:((i:Int)<(t.aa.length:Int))=True:=x7
  by_cases h1:ar=1
  ·have e2:(ar != 1)=false:=by simp[h1]
   obtain⟨rr,hr,hrk,_⟩:=h.root;subst h1;have:L=[]:=h.Cq L.length rfl hw (L':=[]) rfl hr hrk;subst this;rw[bw] at hLf;subst hLf;simp only[aY] at hx ⊢;rcases hP with rfl|⟨rfl,hn⟩
   ·simp only[JC,aY,az,e1,an,EW,seval];exact hx _ _ _ (.inl rfl)
   ·simp only[JC,aY,az,e1,an,EW,seval];exact hx _ _ _ (.inr ⟨rfl,hn⟩)
  ·have e2:(ar != 1)=true:=by simpa using h1
   rcases fV L with rfl|⟨Q,x,rfl⟩
   ·exact absurd hw.symm h1
   rw[gP] at *;obtain⟨p,hp,d,e,hd,hdk,hxn,he,hee⟩:=nb.1 hw;rw[Way] at hee;obtain⟨he1,he2⟩:=eH he;obtain⟨m',hm',hu,_⟩:=h.step hd he;rw[hee,hf] at hm'; cases hm';have hup:n.up=p:=(hu hk).1;have hn:bO t.aa ar=n:=by simp[bO,hf]
   have hd':bO t.aa p=d:=by simp[bO,hd]
   have hc:jW d.aK ar<=1:=by
    have q1:=w7 (n:=d) ar (cr hd).1;have q2:=h.one _ _ hf hk h1;have q3:=h.df _ _ hf;have q4:=(h.num _ _ hf).1;rw[q2,aj aM] at q3;omega
   have hfold:d.aK.foldl (mg ar) ns=x::ns:=by rw[DD ar d.aK ns e he1 hee hc,he2]
   have q1:=Ha t.aa t.next t.ae ar aM
   have q2:=Ha t.aa t.next t.ae p aM
   have hnn:(find t.aa ar).getD Node.zero=n:=hn;have hdd:(find t.aa p).getD Node.zero=d:=hd';have hw1:IntKind.i64.wrap ((i:Int)+1)=((i+1:Nat):Int):=by rw[gb aM aM]; omega
   have hde:=(h.wL _ _ hd).2;have hnsl:ns.length<=12:=by rw[<-hLf] at h12; simp at h12; omega
   rw[hnn] at q1;rw[hdd] at q2;have hlen':Q.length<=m:=by simp at hL; omega
   have hLf':Q++(x::ns)=Lf:=by rw[<-hLf]; simp
   have ihn:=fun P' hP'=>ih (i+1) Q p (x::ns) d P' aM hp hd hdk hlen' hLf' h12 hP'
   have la:=fun {k r} P0 h0 hx=>Xe (ar:=ar) (i:=(i:Int)) (T := cL [aV t.aa,aH t.next,aH t.ae]) (N := cL (aI n)) (d:=d) (k:=k) (r:=r) aM P0 ns h0 aM (fun _ _=>rfl) (fun _ _=>rfl) hx
   rw[hfold] at la;subst hup;simp only[aY,bJ,aI] at q1 q2 la ihn ⊢;rcases hP with rfl|⟨rfl,hn0⟩
   ·simp only[JC,az,e1,e2,q1,q2,EW,seval];refine la _ (.inl rfl) (fun P' z hP'=>?_)
    have i1:=ihn P' hP';rcases hP' with rfl|⟨rfl,hP0⟩
    ·simp only[JC,hw1,EW,seval];exact i1
    ·cases hP0
   ·simp only[JC,az,e1,e2,q1,q2,EW,seval];refine la _ (.inr ⟨rfl,hn0⟩) (fun P' z hP'=>?_)
    have i1:=ihn P' hP';rcases hP' with rfl|⟨rfl,hP0⟩
    ·simp only[JC,hw1,EW,seval];exact i1
    ·cases hP0
def k40(h:cF t cz 0){L:List Bytes}{ar:Int}{n:Node}(hw:Way t.aa 1 L ar)(hi:find t.aa ar=some n)(hk:n.kind=2)(M:aO):aL (aq dp) 40 [.agg [aV t.aa,aH t.next,aH t.ae],aH ar] M=some (.str (jP L),M):=by
 refine cO (aw ?_) M
 have hl:L.length<=t.aa.length:=by
  obtain⟨r,hr,hrk,_⟩:=h.root;have e:=h.uN hw hr hrk hi hk;have:=h.w8 hi hk;rw[h.zC] at e; omega
 have h12:=h.sk hw;have hnm:=oc hw;have q:=k88 L aM (fun x hx=>qY (hnm x hx))
 rw[zM] at q;have hl:=fun {k r} hx=>Xf h (k:=k) (r:=r) (Lf:=L) hx t.aa.length 0 L ar [] n (.slice .c0 []) aM hw hi hk hl dk h12 (.inr ⟨rfl,rfl⟩)
 simp only[aY,gu] at hl;simp only[abd,JC,EW,seval];refine hl (fun P z1 z2 hP=>?_)
 rcases hP with rfl|⟨rfl,hn⟩
 ·simp only[JC,q,EW,seval]
 ·have:L=[]:=by simpa using hn
  subst this;simp only[fX,bE] at q;simp only[JC,q,EW,seval]
end
def MT{α:Type}{A B:List α}{j:Nat}{a:α}(hl:A.length=B.length)(ha:A[j]?=some a):(A.take j++B.drop j).set j a=A.take (j+1)++B.drop (j+1):=by
 have hj:=(au.1 ha).1;have hB:B.drop j=B[j]'(by omega)::B.drop (j+1):=cN aM
 have hA:A.take (j+1)=A.take j++[a]:=by rw[eU,ha]; rfl
 rw[hA,hB,List.set_append_right _ _ (by rw[fL]; omega),fL,Nat.min_eq_left aM,Nat.sub_self,List.set_cons_zero,dW]
 rfl
def V6{α:Type}{A B:List α}{j:Nat}(hl:A.length=B.length)(hj:j<A.length):(A.take j++B.drop j)[j]?=B[j]?:=by
 rw[bA (by simp[Nat.le_of_lt hj])]
 simp[Nat.min_eq_left (Nat.le_of_lt hj)]
def z6(ds:List Int)(b:Nat)(c d:Int):jY (ds.map mr) b (putCells (mr c) 0 [aH d])=(ds.set b d).map mr:=by
 have:putCells (mr c) 0 [aH d]=mr d:=rfl;rw[this,fJ,jZ]
def qv(c:Int):(mr c).cells=[aH c]:=rfl
def AY(own:Int)(e:eM)(aa:List Node)(out:List Int)(h:out.length=aa.length):(qO own e aa out).length=aa.length:=by simp[qO,h]
section
variable {t:Tree} {cz:Int->Nat} {l:List Piece}
attribute [local irreducible] fP fm kM gK dH kr aq aL cH bP
def TB(hn:t.aa.length<=1000){v7 v9 v11:ag}{d:Node}{k:List K}{r:Option (ag×aO)}{e:eM}{own:Int}{j0:Nat}(he:d.aK[j0]?=some e)(out0:List Int)(ho:out0.length=t.aa.length)
  (h7:∀B M,ag.lN B M v7=v7)
  (hx:∀z,kr (aq dp) [.tmp 4] 0 k ⟨.exit 6,(0,bV l)::(3,dC 0)::(5,.cY 1 0 1 0 t.aa.length)::(7,v7)::(8,dC 2)::(9,aH own)::(11,aH j0)::z,[cL (aY t),.arr 1 0 ((qO own e t.aa out0).map mr),cL (aI d)]⟩=r) :
  fP (aq dp) [.tmp 4] 0 k (.loop [0,3,5,7,8,9,11,12] WG) [(0,bV l),(3,dC 0),(5,.cY 1 0 1 0 t.aa.length),(7,v7),(8,dC 2),(9,aH own),(11,aH j0),(12,aH 0)] [cL (aY t),.arr 1 0 (out0.map mr),cL (aI d)]=r:=by
 have hml:=AY own e t.aa out0 ho
 refine gV (xs:=t.aa) aM (fun j (out:List Int)=>out=(qO own e t.aa out0).take j++out0.drop j) (fun _ (_:List Int)=>()) (fun _ j=>[(0,bV l),(3,dC 0),(5,.cY 1 0 1 0 t.aa.length),(7,v7),(8,dC 2),(9,aH own),(11,aH j0),(12,aH j)])
  (fun out=>[cL (aY t),.arr 1 0 (out.map mr),cL (aI d)]) (fun _=>r) (fun out hs=>?_) (fun pre x post out hh hz cA hw hz0 hm hs hi=>?_) out0 rfl
 ·have hs2:out=qO own e t.aa out0:=by rw[hs,<-hml,bT,hml,<-ho,gY,cu]
  subst hs2;simp only[aY,aI] at hx ⊢;simp only[ye,az,aX,EW,seval];exact hx _
 ·have hpl:pre.length<t.aa.length:=by have:=congrArg List.length hh; simp at this; omega
  have hb0:=ai (show pre.length<out0.length by omega)
  have hget:out[pre.length]?=some out0[pre.length]:=by rw[hs,V6 aM aM,hb0]
  have hmk:(qO own e t.aa out0)[pre.length]?=some (if x.ar != e.ar||x.kind != 1 then out0[pre.length] else wy own out0[pre.length]):=by
   unfold qO;rw[List.getElem?_zipWith,hz,hb0]
  have hset:=fun a ha=>MT (A:=qO own e t.aa out0) (B:=out0) (j:=pre.length) (a:=a) aM ha
  rw[<-hs] at hset;have hj0:((j0:Int)<0)=False:=dk;generalize out0[pre.length]=o at *;have hlt2:((pre.length:Int)<(t.aa.length:Int))=True:=cA;cases hc:(x.ar != e.ar||x.kind != 1)
  ·rw[hc] at hmk;simp only[iE] at hc;obtain⟨hc1,hc2⟩:=hc;have i1:=hi (out.set pre.length (wy own o)) (hset _ hmk);unfold wy at i1;cases hu:o == -1
   ·cases hv:o != own
    ·rw[hu,hv] at i1
     have hsame:out.set pre.length o=out:=by
      have:=au.1 hget;rw[<-this.2]; exact List.set_getElem_self this.1
     simp only[af,aC,hsame] at i1;simp only[aY,aI] at i1 ⊢;simp only[ye,az,cA,hz,hw,hz0,he,hj0,hc1,hc2,hget,hu,hv,aI,dJ,h7,bj,cd,aN,ec,qv,EW,seval];exact i1
    ·rw[hu,hv] at i1;simp only[af,aC,aE] at i1;simp only[aY,aI] at i1 ⊢;simp only[ye,az,cA,hz,hw,hz0,he,hj0,hc1,hc2,hget,hu,hv,aI,dJ,h7,bj,cd,aN,ec,z6,qv,EW,seval];exact i1
   ·rw[hu] at i1;simp only[aE] at i1;simp only[aY,aI] at i1 ⊢;simp only[ye,az,cA,hz,hw,hz0,he,hj0,hc1,hc2,hget,hu,aI,dJ,h7,bj,cd,aN,ec,z6,qv,EW,seval];exact i1
  ·rw[hc] at hmk;simp only[aE] at hmk
   have i1:=hi out (by
    have:=hset _ hmk;rw[<-this];have h2:=au.1 hget;rw[<-h2.2]; exact(List.set_getElem_self h2.1).symm)
   simp only[aY,aI] at i1 ⊢;cases hc1:x.ar != e.ar
   ·rw[hc1,dE] at hc;simp only[ye,az,cA,hz,hw,hz0,he,hj0,hc1,hc,aI,dJ,h7,bj,EW,seval];exact i1
   ·simp only[ye,az,cA,hz,hw,hz0,he,hj0,hc1,aI,dJ,h7,bj,EW,seval];exact i1
end
def Fg(own:Int)(aa:List Node):∀(es:List eM)(out:List Int),out.length=aa.length->(es.foldl (fun o e=>qO own e aa o) out).length=aa.length
 | [],out,h=>h
 |e::es,out,h=>by rw[bB]; exact Fg own aa es _ (AY own e aa out h)
section
variable {t:Tree} {cz:Int->Nat} {l:List Piece}
attribute [local irreducible] fP fm kM gK dH kr aq aL cH bP
def TC(hn:t.aa.length<=1000){i7:Int}{d:Node}{k:List K}{r:Option (ag×aO)}{own:Int}(hd:d.aK.length<=1000)(out0:List Int)(ho:out0.length=t.aa.length)
  (hx:∀z,kr (aq dp) [.tmp 4] 0 k ⟨.exit 4,(0,bV l)::(3,dC 0)::(5,.cY 1 0 1 0 t.aa.length)::(7,aH i7)::(8,dC 2)::(9,aH own)::z,[cL (aY t),.arr 1 0 ((d.aK.foldl (fun o e=>qO own e t.aa o) out0).map mr),cL (aI d)]⟩=r) :
  fP (aq dp) [.tmp 4] 0 k (.loop [0,3,5,7,8,9,11] WH) [(0,bV l),(3,dC 0),(5,.cY 1 0 1 0 t.aa.length),(7,aH i7),(8,dC 2),(9,aH own),(11,aH 0)] [cL (aY t),.arr 1 0 (out0.map mr),cL (aI d)]=r:=by
 refine gV (xs:=d.aK) aM (fun j (out:List Int)=>out.length=t.aa.length/\(d.aK.drop j).foldl (fun o e=>qO own e t.aa o) out=d.aK.foldl (fun o e=>qO own e t.aa o) out0) (fun _ (_:List Int)=>()) (fun _ j=>[(0,bV l),(3,dC 0),(5,.cY 1 0 1 0 t.aa.length),(7,aH i7),(8,dC 2),(9,aH own),(11,aH j)])
  (fun out=>[cL (aY t),.arr 1 0 (out.map mr),cL (aI d)]) (fun _=>r) (fun out hs=>?_) (fun pre x post out hh hz cA hw hz0 hm hs hi=>?_) out0 ⟨ho,rfl⟩
 ·rw[gY] at hs;have hs2:out=d.aK.foldl (fun o e=>qO own e t.aa o) out0:=hs.2
  subst hs2;simp only[aY,aI] at hx ⊢;simp only[ye,az,aX,EW,seval];exact hx _
 ·have hd1:d.aK.drop pre.length=x::post:=by rw[hh]; simp
  have hd2:d.aK.drop (pre.length+1)=post:=by rw[hh]; simp
  rw[hd1,bB] at hs;have la:=fun {k r} hx=>TB (t:=t) (l:=l) hn (v7 := aH i7) (v9 := .any) (v11 := .any) (d:=d) (k:=k) (r:=r) (e:=x) (own:=own) (j0:=pre.length) hz out hs.1 (fun _ _=>rfl) hx
  have i1:=hi (qO own x t.aa out) ⟨AY own x t.aa out hs.1,by rw[hd2]; exact hs.2⟩
  simp only[aY,aI] at la i1 ⊢;simp only[ye,az,cA,hz0,EW,seval];refine la (fun z=>?_)
  simp only[ye,hw,EW,seval];exact i1
def ahL(h:cF t cz 0)(hl:kc l)(M:aO):aL (aq dp) 148 [bV l,.agg [aV t.aa,aH t.next,aH t.ae]] M=some (nv (sg l t.aa),M):=by
 refine cO (aw ?_) M;have hn:=h.aa;have hm:=hl.many
 obtain⟨r0,rest0,hr0,_⟩:∃r rest,t.aa=r::rest/\True:=by
  obtain⟨r,hr,_⟩:=h.root;have:=(cr hr).1;cases hnn:t.aa with
  |nil=>rw[hnn] at this; cases this
  |cons a b=>exact⟨a,b,rfl,trivial⟩
 have hpos:0<t.aa.length:=by rw[hr0]; simp
 have r1:dY t.aa.length 8=True:=xt;have hrep:List.replicate t.aa.length (ag.agg [aH 0]).norm=(List.replicate t.aa.length (0:Int)).map mr:=by rw[List.map_replicate]; rfl
 simp only[QF,ye,az,r1,hrep,EW,seval]
 refine dj (gV (xs:=t.aa) aM (fun i (out:List Int)=>out=(t.aa.map fun _=>(-1:Int)).take i++(List.replicate t.aa.length (0:Int)).drop i) (fun _ (_:List Int)=>()) (fun _ i=>[(0,bV l),(3,dC 0),(5,.cY 1 0 1 0 t.aa.length),(6,aH i)])
  (fun out=>[cL [aV t.aa,aH t.next,aH t.ae],.arr 1 0 (out.map mr)]) (fun _=>some (nv (sg l t.aa),[])) (fun out hs=>?_) (fun pre x post out hh hz cA hw hz0 hm hs hi=>?_) _ rfl) rfl
 ·have hs2:out=t.aa.map fun _=>(-1:Int):=by
   rw[hs,bS dk,il dk,cu]
  subst hs2;simp only[ye,az,aX,EW,seval]
  refine dj (gV (xs:=t.aa) aM (fun i (S:Nat×List Int)=>S.1=i/\S.2.length=t.aa.length/\(t.aa.drop i).foldl (pU l t.aa) S=t.aa.foldl (pU l t.aa) (0,t.aa.map fun _ => -1)) (fun _ (_:Nat×List Int)=>()) (fun S i=>[(0,bV l),(3,dC 0),(5,.cY 1 0 1 0 t.aa.length),(7,aH i)])
   (fun S=>[cL [aV t.aa,aH t.next,aH t.ae],.arr 1 0 (S.2.map mr)]) (fun _=>some (nv (sg l t.aa),[])) (fun S hs=>?_) (fun pre x post S hh hz cA hw hz0 hmx hs hi=>?_) (0,t.aa.map fun _=>(-1:Int)) ⟨rfl,dk,rfl⟩) rfl
  ·obtain⟨i,out⟩:=S;obtain⟨_,hs2,hs3⟩:=hs;rw[gY] at hs3;have hs4:out=sg l t.aa:=congrArg Prod.snd hs3;simp only at hs2;have hT:List.take t.aa.length (out.map mr)=out.map mr:=bS (by simp[hs2])
   simp only[ye,az,aX,hT,EW,seval];rw[hs4]
  ·obtain⟨i,out⟩:=S;obtain⟨hs1,hs2,hs3⟩:=hs;simp only at hs1 hs2;subst hs1;have hd1:t.aa.drop pre.length=x::post:=by rw[hh]; simp
   have hd2:t.aa.drop (pre.length+1)=post:=by rw[hh]; simp
   rw[hd1,bB] at hs3;have hlt2:pre.length<t.aa.length:=by have:=congrArg List.length hh; simp at this; omega
   cases hk:x.kind != 2
   ·have hk2:x.kind=2:=by simpa using hk
    have hfx:=(fp h.jK.iW).2 ⟨hmx,rfl⟩;obtain⟨L,hw1,_⟩:=h.G8 _ x.ar x hfx hk2 rfl;have hnames:=oc hw1;have h12:=h.sk hw1;have q1:=k40 h hw1 hfx hk2;have hsp:(bI (jP L)).2=0:=by rw[lg hnames h12]
    have q2:=k25 hl (jP L) (by rw[<-qF]; have:=vt L hnames h12; omega)
    unfold KX at q2;rw[av hsp] at q2
    have hown:wj l t.aa x=((dS l (jP L):Nat):Int):=by
     unfold wj;rw[IY h hw1 hfx hk2,KW hl hsp]
    have hst:pU l t.aa (pre.length,out) x=(pre.length+1,x.aK.foldl (fun o e=>qO (wj l t.aa x) e t.aa o) (out.set pre.length (wj l t.aa x))):=by
     unfold pU; rw[hk]; rfl
    rw[hst,hown] at hs3;generalize ((dS l (jP L):Nat):Int)=own at *;have hx0:=ai (show pre.length<out.length by omega)
    have hent:=(h.wL _ _ hfx).2;have hset:(out.set pre.length own).length=t.aa.length:=by simp[hs2]
    have lb:=fun {k r} hx=>TC (t:=t) (l:=l) aM (i7:=(pre.length:Int)) (d:=x) (k:=k) (r:=r) (own:=own) aM (out.set pre.length own) hset hx
    have i1:=hi (pre.length+1,x.aK.foldl (fun o e=>qO own e t.aa o) (out.set pre.length own)) ⟨rfl,Fg _ _ _ _ hset,by rw[hd2]; exact hs3⟩
    generalize x.aK.foldl (fun o e=>qO own e t.aa o) (out.set pre.length own)=out' at lb i1
    simp only[aY,aI] at lb i1 ⊢;simp only[ye,az,cA,hz,hw,hz0,hk,hx0,q1,q2,aI,cd,aN,ec,bj,z6,qv,EW,seval];refine lb (fun z=>?_)
    simp only[ye,hw,EW,seval];exact i1
   ·have hst:pU l t.aa (pre.length,out) x=(pre.length+1,out):=by unfold pU; rw[hk]; rfl
    rw[hst] at hs3;have i1:=hi (pre.length+1,out) ⟨rfl,hs2,by rw[hd2]; exact hs3⟩
    simp only[ye,az,cA,hz,hw,hz0,hk,aI,EW,seval];exact i1
 ·have hset:=MT (A:=t.aa.map fun _=>(-1:Int)) (B:=List.replicate t.aa.length (0:Int)) (j:=pre.length) (a := -1) dk (by rw[bb,hz]; rfl)
  rw[<-hs] at hset;have i1:=hi _ hset
  have hol:out.length=t.aa.length:=by
   have hlt2:pre.length<t.aa.length:=by have:=congrArg List.length hh; simp at this; omega
   rw[hs]; simp; omega
  have hlt2:pre.length<t.aa.length:=by have:=congrArg List.length hh; simp at this; omega
  have hx0:=ai (show pre.length<out.length by omega)
  simp only[ye,az,cA,hw,hx0,cd,aN,ec,bj,z6,qv,EW,seval];exact i1
def k81(h:cF t cz 0)(hl:kc l)(M:aO):aL (aq dp) 81 [bV l,.agg [aV t.aa,aH t.next,aH t.ae]] M=some (.bool (Ov l t),M):=by
 refine cO (aw ?_) M;have hn:=h.aa;have hm:=hl.many;have q1:=ahL h hl;have hpl:(sg l t.aa).length=t.aa.length:=by rw[Ba h]; simp
 unfold Ov;generalize sg l t.aa=ps at q1 hpl ⊢;simp only[ahk,Yc,EW,seval]
 refine sY (xs:=l) aM (fun post (_:Unit)=>(post.all fun p=>(sR t.aa p.aQ).2==0&&(bO t.aa (sR t.aa p.aQ).1).kind==2)&&ps.all fun p => !decide (p<0)) (fun _ i=>[(0,bV l),(3,dC 0),(5,aH i)])
  (fun _=>[cL [aV t.aa,aH t.next,aH t.ae]]) (fun b=>some (ag.bool b,([]:aO))) (fun _=>?_) (fun pre x post _ hh hx cA hw hz0 hmx hi=>?_) ()
 ·simp only[Yc,az,aX,q1,List.all_nil,b9,EW,seval];refine sY (xs:=ps) aM (fun post (_:Unit)=>post.all fun p => !decide (p<0)) (fun _ i=>[(10,nv ps),(11,aH i)]) (fun _=>[cL [aV t.aa,aH t.next,aH t.ae]]) (fun b=>some (ag.bool b,([]:aO))) (fun _=>?_) (fun pre x post _ hh hx cA hw hz0 hmx hi=>?_) ()
  ·simp only[Yc,az,aX,List.all_nil,EW,seval]
  ·have i1:=hi ();rw[ku];cases hc:decide (x<0)
   ·simp only[dG,b9];simp only[Yc,az,cA,hx,hw,hz0,hc,qv,EW,seval];exact i1
   ·simp only[Yc,az,cA,hx,hw,hz0,hc,qv,cG,cp,EW,seval]
 ·have i1:=hi ();rw[ku];have q2:=k24 t.aa t.next t.ae x.aQ h.sz.Lg (hl.OV x hmx)
  have q3:∀M,aL (aq dp) 26 [.agg [aV t.aa,aH t.next,aH t.ae],aH (sR t.aa x.aQ).1] M=some (.tuple [bJ (bO t.aa (sR t.aa x.aQ).1),.bool (find t.aa (sR t.aa x.aQ).1).isSome],M):=Ha t.aa t.next t.ae (sR t.aa x.aQ).1 aM
  generalize sR t.aa x.aQ=v at q2 q3 ⊢;generalize bO t.aa v.1=n at q3 ⊢;simp only[bJ,aI] at q3;cases hc:v.2==0
  ·have hc':(v.2 != 0)=true:=by simpa using hc
   simp only[Yc,az,cA,hx,hw,hz0,hc',q2,q3,cS,eI,cI,cp,EW,seval]
  ·have hc':(v.2 != 0)=false:=by simpa using hc
   cases hk:n.kind==2
   ·have hk':(n.kind != 2)=true:=by simpa using hk
    simp only[Yc,az,cA,hx,hw,hz0,hc',hk',q2,q3,cS,eI,cI,cp,di,EW,seval]
   ·have hk':(n.kind != 2)=false:=by simpa using hk
    simp only[b9];simp only[Yc,az,cA,hx,hw,hz0,hc',hk',q2,q3,cS,eI,cI,EW,seval];exact i1
end
def Iw(w:ag->dg)(n:Node):List eM->aO
 | []=>[w (.slice .c0 []),.cells (aI n)]
 |e::es=>w (.slice (.own 3) (.str e.name::es.map fun x => .str x.name)) :: .cells (aI n) :: .cells (dJ e) :: .tick 1 (es.length+1)::es.map fun x => .cells (dJ x)
def Nq(B:Nat)(M:aO)(es:List eM):(es.map fun x=>dg.cells (dJ x)).map (dg.back B M)=es.map fun x => cL (dJ x):=by
 rw[fY];exact cj fun x _=>rfl
section
attribute [local irreducible] fP fm kM gK dH kr aq aL cH bP
def c99(f:rR){t:Tree}(ht:Rt t)(o:qm)(ho:Ca o):yC 99 f t o (uk t o):=by
 unfold yC;have q1:=fun {M}=>k90 f ht o o.aQ (by have:=ho.aQ; omega) (p:=0) (M:=M)
 unfold uk;simp only[];generalize eW t o.aQ=v at q1 ⊢;have q1:=@q1;generalize bO t.aa v.1=n at q1 ⊢;have q2:=ami t ht n.ar o.n o.m;have hl:=AV ht n.ar o.n o.m;generalize qM t n.ar o.n o.m=l at q2 hl ⊢;simp only[nC,jy,aI] at q1;cases h0:v.2 != 0
 rotate_left
 ·refine⟨.slice .c0 [],.inr ⟨rfl,rfl⟩,rfl,aw ?_⟩;simp only[QU,E99,nC,jy,iX,nA,aI,q1,h0,jj,an,af,aE,aC,EW,seval]
 cases h1:l.2.2 != 0
 rotate_left
 ·refine⟨.slice .c0 [],.inr ⟨rfl,rfl⟩,rfl,aw ?_⟩;simp only[QU,E99,nC,jy,iX,nA,aI,q1,q2,zN,h0,h1,jj,an,af,aE,aC,EW,seval]
 refine⟨if l.1=[] then .slice .c0 [] else fX (l.1.map eM.name),?_,rfl,aw ?_⟩
 ·by_cases he:l.1=[]
  ·rw[av he]; exact .inr ⟨rfl,by simp[he]⟩
  ·rw[aj he]; exact .inl rfl
 simp only[QU,E99,nC,jy,iX,aI,q1,q2,zN,h0,h1,an,af,aE,aC,EW,seval]
 refine dj (LV (xs:=l.1) aM (fun i (done:List eM)=>done=l.1.take i) (fun _ (_:List eM)=>()) (fun _ i=>[(0,dC 0),(43,iU l.1),(44,aH l.1.length),(45,aH i)])
  (fun done=>Iw (iX f t o ⟨0,0,0,l.2.1,0,[],[]⟩) n done) (fun _=>some (.tuple [],[iX f t o ⟨0,0,0,l.2.1,0,l.1.map eM.name,[]⟩ (if l.1=[] then .slice .c0 [] else fX (l.1.map eM.name))])) (fun done hd=>?_) (fun pre x post done hh hx cA hw hz hm hd hi=>?_) [] dk) rfl
 ·rw[bT] at hd;subst hd;cases he:l.1 with
  |nil =>
   simp only[E99,Iw,iX,aX,EW,seval]
  |cons e es =>
   have e2:(List.map eM.name es).map ag.str=es.map fun x => .str x.name:=by rw[fY]; rfl
   simp only[E99,Iw,iX,fX,a8,e2,aX,reduceCtorEq,aC,EW,seval]
 ·have i1:=hi (l.1.take (pre.length+1)) rfl;have h1:l.1.take (pre.length+1)=pre++[x]:=by rw[hh,show pre++x::post=(pre++[x])++post by simp]; exact oI dk
  have h2:l.1.take pre.length=pre:=by rw[hh]; simp
  rw[h2] at hd;rw[h1] at i1;have hd:=hd.symm;subst hd;have fx:pre.length+1<=100000:=by have:=congrArg List.length hh; simp at this; omega
  cases pre with
  |nil =>
   simp only[aF,gu] at cA hx hw hz;simp only[bw,Iw,bE,aF,gu,aN,iX,dJ] at i1 ⊢;have r0:dY 1 16=True:=xt;simp only[E99,cA,hx,hw,hz,r0,dJ,EW,seval];exact i1
  |cons e es =>
   have r1:dY (es.length+1+1) 16=True:=si (by simp at fx; omega) aM
   simp only[bp,Iw,bH,a8,bE,aR,aD,aF,aN,iX] at i1 ⊢;simp only[aD] at cA hx hw hz;have hZb:=fun B M=>Nq B M es
   have hZl:(es.map fun x=>dg.cells (dJ x)).length=es.length:=dk
   generalize (es.map fun x=>dg.cells (dJ x))=Z at i1 hZb hZl ⊢
   have n0:∀b Y,nth (Z++b::Y) Z.length=some b:=fun b Y=>by rw[eY]; simp
   have s0:∀b c Y,jY (Z++b::Y) Z.length c=Z++c::Y:=fun b c Y=>by rw[fJ]; simp
   have bkZ:∀B M b,List.map (dg.back B M) (Z++[b])=Z++[dg.back B M b]:=fun B M b=>by rw[bH,hZb]; rfl
   have sN:∀b:dg,List.take (Z.length+1) (Z++[b])=Z++[b]:=fun b=>bS dk
   have lt0:∀n,(0<n+1+1+1+1)=True:=fun n=>dk
   have lt3:∀n,(3<n+1+1+1+1)=True:=fun n=>dk
   have hwd:wid (ag.str e.name::es.map fun x=>ag.str x.name) 1=True:=mo (fun x:eM=>ag.str x.name) 1 (fun _=>rfl) (e::es)
   simp only[dJ] at i1 ⊢;simp only[E99,cA,hx,hw,hz,r1,hwd,dJ,n0,s0,bkZ,sN,lt0,lt3,az,bp,EW,seval];exact i1
end
inductive RB
 |nd (n:Node)
 |tk (k:Nat)
def wF:RB->dg
 | .nd n => .cells (aI n)
 | .tk k => .tick 6 k
abbrev LM:=AM (Nat×List Node)
def NL(p:Nat×List Node):ag := .slice (.own p.1) (p.2.map bJ)
structure Lts(b:Nat)(s:LM×List RB):Prop where
 at':∀g id l,dx s.1 g=some (id,l)->∃i,id=b+i/\s.2[i]?=some (RB.tk l.length)
 ne:∀g g' id l l',dx s.1 g=some (id,l)->dx s.1 g'=some (id,l')->g=g'
def oy(b:Nat)(k:Node->Int)(s:LM×List RB)(n:Node):LM×List RB :=
 match dx s.1 (k n) with
 |none=>(kL s.1 (k n) (b+(s.2.length+1),[n]),s.2++[RB.nd n,RB.tk 1])
 |some (id,l)=>(kL s.1 (k n) (id,l++[n]),(s.2++[RB.nd n]).set (id-b) (RB.tk (l.length+1)))
def Tj{b:Nat}{k:Node->Int}{s:LM×List RB}(h:Lts b s)(n:Node):Lts b (oy b k s n):=by
 obtain⟨m,r⟩:=s;unfold oy;cases hg:dx m (k n) with
 |none =>
  simp only[hg]
  have hfar:∀g id l,dx m g=some (id,l)->id≠b+(r.length+1):=fun g id l hm e=>by
   obtain⟨i,h1,h2⟩:=h.at' g id l hm;have:=(au.1 h2).1;simp only at this;omega
  refine⟨fun g id l hm=>?_,fun g g' id l l' hm hm'=>?_⟩
  ·simp only[fN] at hm;split at hm
   ·injection hm with hm; injection hm with h1 h2; subst h1; subst h2
    exact⟨r.length+1,rfl,dk⟩
   ·obtain⟨i,h1,h2⟩:=h.at' g id l hm;refine⟨i,h1,?_⟩;have:=(au.1 h2).1;simp only at this h2 ⊢;rw[bh this]; exact h2
  ·simp only[fN] at hm hm';split at hm<;>split at hm'
   ·rename_i a b; rw[a,b]
   ·injection hm with hm; injection hm with h1 h2; subst h1
    exact absurd rfl (hfar _ _ _ hm')
   ·injection hm' with hm'; injection hm' with h1 h2; subst h1
    exact absurd rfl (hfar _ _ _ hm)
   ·exact h.ne _ _ _ _ _ hm hm'
 |some p =>
  obtain⟨id0,l0⟩:=p;simp only[hg];obtain⟨i0,e0,a0⟩:=h.at' _ _ _ hg;have hi0:=(au.1 a0).1;simp only at hi0 a0;have hsub:id0-b=i0:=aM;refine⟨fun g id l hm=>?_,fun g g' id l l' hm hm'=>?_⟩
  ·simp only[fN] at hm;split at hm
   ·injection hm with hm; injection hm with h1 h2; subst h1; subst h2
    refine⟨i0,e0,?_⟩;simp only[hsub];rw[eF ic]; simp
   ·rename_i hne;obtain⟨i,h1,h2⟩:=h.at' g id l hm;have hi:=(au.1 h2).1;simp only at hi h2;refine⟨i,h1,?_⟩;have:i≠i0:=fun e=>hne (h.ne _ _ id l l0 hm (by rw[hg,e0,h1,e]))
    simp only[hsub];rw[fF aM,bh hi]; exact h2
  ·simp only[fN] at hm hm';split at hm<;>split at hm'
   ·rename_i a b; rw[a,b]
   ·rename_i a b;injection hm with hm; injection hm with h1 h2; subst h1
    rw[a]; exact h.ne _ _ _ _ _ hg hm'
   ·rename_i a b;injection hm' with hm'; injection hm' with h1 h2; subst h1
    rw[b]; exact h.ne _ _ _ _ _ hm hg
   ·exact h.ne _ _ _ _ _ hm hm'
def Fb(b:Nat)(k:Node->Int)(g:Int):∀(aa:List Node)(s:LM×List RB),(((dx (aa.foldl (oy b k) s).1 g).map Prod.snd).getD [])=((dx s.1 g).map Prod.snd).getD []++aa.filter fun n=>k n==g
 | [],s=>dk
 |n::r,s=>by
  rw[bB,Fb b k g r,eR]
  have:((dx (oy b k s n).1 g).map Prod.snd).getD []=((dx s.1 g).map Prod.snd).getD []++(if k n==g then [n] else []):=by
   unfold oy;cases hg:dx s.1 (k n) with
   |none =>
    simp only[fN]
    by_cases h:g=k n
    ·subst h; simp[hg]
    ·rw[aj h,aj (by simpa using fun e=>h e.symm)]; simp
   |some p =>
    obtain⟨id,l⟩:=p;simp only[fN]
    by_cases h:g=k n
    ·subst h; simp[hg]
    ·rw[aj h,aj (by simpa using fun e=>h e.symm)]; simp
  rw[this];split<;>simp
def TD(b:Nat)(k:Node->Int)(g:Int)(aa:List Node):(((dx (aa.foldl (oy b k) ([],[])).1 g).map Prod.snd).getD [])=aa.filter fun n=>k n==g:=by
 rw[Fb]; simp[dx]
def CT(B:Nat)(M:aO)(r:List RB):(r.map wF).map (dg.back B M)=r.map wF:=by
 rw[fY];refine cj fun x _=>?_
 cases x<;>rfl
def GN{α:Type}:∀ {m:AM α} {k:Int} {v:α} {p:Int×α},p∈kL m k v->p=(k,v)\/p∈m
 | [],k,v,p,h=>by simp[kL] at h; exact .inl h
 |(k',v')::m,k,v,p,h=>by
  simp only[kL] at h;split at h
  ·rcases ba.1 h with rfl|h
   ·exact .inl rfl
   ·exact .inr (aP _ h)
  ·rcases ba.1 h with rfl|h
   ·exact .inr aG
   ·exact(GN h).imp id (aP _)
def aaL{m:LM}{B:Nat}(h:∀p,p∈m->p.2.1<B)(M:aO):List.map (ag.jL B M) (re NL m)=re NL m:=by
 unfold re;rw[fY];refine cj fun p hp=>?_
 show ag.jL B M (NL p.2)=NL p.2
 simp only[NL,ag.jL,ag.kG,ag.jD,h p hp,aE]
def Vi(s:LM×List RB):Prop:=∀p,p∈s.1->p.2.1<3+s.2.length
def Om{k:Node->Int}{s:LM×List RB}(hL:Lts 3 s)(h:Vi s)(n:Node):Vi (oy 3 k s n):=by
 obtain⟨m,r⟩:=s;unfold oy;cases hg:dx m (k n) with
 |none =>
  simp only[hg];intro p hp;rcases GN hp with rfl|hp
  ·simp
  ·have:=h p hp; simp only[aR,aD,aF] at this ⊢; omega
 |some q =>
  obtain⟨id0,l0⟩:=q;simp only[hg];intro p hp;rcases GN hp with rfl|hp
  ·obtain⟨i,h1,h2⟩:=hL.at' _ _ _ hg;have:=(au.1 h2).1;simp only at this;simp; omega
  ·have:=h p hp; simp only[aR,aD,aF,eD] at this ⊢; omega
def KH{b:Nat}{k:Node->Int}{s:LM×List RB}{i:Nat}(h:∀g id r,dx s.1 g=some (id,r)->r.length<=i)(n:Node):∀g id r,dx (oy b k s n).1 g=some (id,r)->r.length<=i+1:=by
 obtain⟨m,R⟩:=s;unfold oy;intro g id r;cases hg:dx m (k n) with
 |none =>
  simp only[fN];split
  ·intro e; injection e with e; injection e with e1 e2; subst e2; simp
  ·intro e; have:=h g id r e; omega
 |some q =>
  obtain⟨id0,l0⟩:=q;simp only[fN];split
  ·intro e; injection e with e; injection e with e1 e2; subst e2
   have:=h _ _ _ hg; simp; omega
  ·intro e; have:=h g id r e; omega
def VJ(m:SM):List ag:=m.map fun p => .str p.1
def EA(m:SM):List ag:=m.map fun p => .int .i64 p.2
def Dq:∀(m:SM)(k:Bytes),td .s (.str k) (VJ m) (EA m)=some ((yk m k).map (ag.int .i64))
 | [],k=>rfl
 |(k',v)::m,k=>by
  show bP (iq .s (.str k) (.str k')) (fun b=>zk b (some (some (aH v))) (td .s (.str k) (VJ m) (EA m)))=_
  rw[Dq m k];simp only[iq,↓reduceIte,cq,yk]
  by_cases h:k=k'
  ·rw[av h,show(k==k')=true by simpa using h,uu]; rfl
  ·rw[aj h,show(k==k')=false by simpa using h,mL]
def IH:∀(m:SM)(k:Bytes)(v:Int),te .s (.str k) (aH v) (VJ m) (EA m)=some (VJ (G3 m k v),EA (G3 m k v))
 | [],k,v=>by
  show bP (iq .s (.str k) (.str k)) (fun _=>some ([ag.str k],[aH v]))=_
  simp only[iq,↓reduceIte,cq];rfl
 |(k',v')::m,k,v=>by
  show bP (iq .s (.str k) (.str k')) (fun b=>zk b (some (ag.str k::VJ m,aH v::EA m)) (bP (te .s (.str k) (aH v) (VJ m) (EA m)) fun x=>some (ag.str k'::x.1,aH v'::x.2)))=_
  rw[IH m k v];simp only[iq,↓reduceIte,cq,G3]
  by_cases h:k=k'
  ·rw[av h,show(k==k')=true by simpa using h,uu]; rfl
  ·rw[aj h,show(k==k')=false by simpa using h,mL]; rfl
def yq(o:Option Int):lL (aH 0) false (o.map (ag.int .i64)) = aH (o.getD 0):=by cases o<;>rfl
def Tu(o:Option Int):lL (aH 0) true (o.map (ag.int .i64)) = .tuple [aH (o.getD 0),.bool o.isSome]:=by cases o<;>rfl
def Tw(a:Int):lL (aH 0) true (some (aH a)) = .tuple [aH a,.bool true]:=rfl
def Tv:lL (aH 0) true none = .tuple [aH 0,.bool false]:=rfl
def qy:ag := .func 105 [.ptr 0 0,.ptr 1 0,.ptr 2 0,.ptr 3 0,.ptr 4 0,.ptr 5 0]
def gy(t:Tree)(m:SM)(s:Hm):aO:=[.cells (aY t),.cells [.gJ 6],.cells [.bool s.whole],.cells [.gJ 7],.cells [.int .i64 s.met],.cells [qy],.map (wM s.jF) (re (ag.int .i64) s.jF),.map (VJ m) (EA m)]
def flI(l:AM Int):(re (ag.int .i64) l).all ag.flat=true:=Qx _ (fun _=>rfl) l
def rnI(ρ:Nat->Nat)(l:AM Int):(re (ag.int .i64) l).map (ag.rn ρ)=re (ag.int .i64) l:=Z1 _ _ (fun _=>rfl) l
def idI(l:AM Int):(re (ag.int .i64) l).flatMap ag.ids=[]:=ZD _ (fun _=>rfl) l
def bkI(B:Nat)(M:aO)(l:AM Int):List.map (ag.jL B M) (re (ag.int .i64) l)=re (ag.int .i64) l:=aaM _ _ _ (fun _=>rfl) l
def flS(m:SM):(EA m).all ag.flat=true:=bF.2 fun x hx=>by
 obtain⟨p,_,rfl⟩:=cm.1 hx;rfl
def rnS(ρ:Nat->Nat)(m:SM):(EA m).map (ag.rn ρ)=EA m:=by
 unfold EA; rw[fY]; exact cj fun p _=>rfl
def idS(m:SM):(EA m).flatMap ag.ids=[]:=by
 unfold EA; rw[List.flatMap_map]; exact jS.2 fun p _=>rfl
def bkS(B:Nat)(M:aO)(m:SM):List.map (ag.jL B M) (EA m)=EA m:=by
 unfold EA; rw[fY]; exact cj fun p _=>rfl
def FL(t:Tree)(m:SM)(s:Hm):(gy t m s).map (dg.rn (jb [0,1,2,3,4,5,6,7]))=gy t m s/\(gy t m s).map (dg.rn (yf [0,1,2,3,4,5,6,7]))=gy t m s:=by
 constructor <;>
 ·simp only[gy,a8,bE,dg.rn,rnI,rnS]; rfl
def aiG(t:Tree)(m:SM)(s:Hm)(L:aO):kV (gy t m s++L) (jb [0,1,2,3,4,5,6,7]) [0,1,2,3,4,5,6,7]=some (gy t m s):=by
 have h:=(FL t m s).1;simp only[gy,a8,bE] at h;injection h with h0 h; injection h with h1 h; injection h with h2 h; injection h with h3 h; injection h with h4 h; injection h with h5 h; injection h with h6 h; injection h with h7 h
 simp only[gy,bp,bw,kV,nth,h0,h1,h2,h3,h4,h5,h6,h7];simp only[dg.flat,flI,flS,aE];rfl
def al0(t:Tree)(m:SM)(s:Hm)(L:aO):tj (gy t m s++L) [0,1,2,3,4,5]=[6,7,0,1,2,3,4,5]/\tj (gy t m s++L) [0,1,2,3,4,5,6,7]=[6,7,0,1,2,3,4,5]:=by
 refine⟨rfl,?_⟩
 show[6,7,0,1,2,3,4,5]++((re (ag.int .i64) s.jF).flatMap ag.ids++((EA m).flatMap ag.ids++[]))=_
 rw[idI,idS]; rfl
def Us(t:Tree)(m:SM)(s:Hm)(L:aO):reach (gy t m s++L) [0,1,2,3,4,5]=[0,1,2,3,4,5,6,7]/\mC (gy t m s++L) [0,1,2,3,4,5,6,7]=[0,1,2,3,4,5,6,7]:=by
 obtain⟨h1,h2⟩:=al0 t m s L;have e0:mB [] [0,1,2,3,4,5]=[0,1,2,3,4,5]:=rfl;have e1:mB [0,1,2,3,4,5] [6,7,0,1,2,3,4,5]=[0,1,2,3,4,5,6,7]:=rfl;have e2:mB [0,1,2,3,4,5,6,7] [6,7,0,1,2,3,4,5]=[0,1,2,3,4,5,6,7]:=rfl;simp only[reach,mC,e0,h1,e1,h2,e2,j4]
def aeh(t:Tree)(m:SM)(s s':Hm)(L:aO):ny [0,1,2,3,4,5,6,7] (gy t m s++L) [0,1,2,3,4,5,6,7] (gy t m s')=gy t m s'++L:=by
 have h:=(FL t m s').2;simp only[gy,a8,bE] at h;injection h with h0 h; injection h with h1 h; injection h with h2 h; injection h with h3 h; injection h with h4 h; injection h with h5 h; injection h with h6 h; injection h with h7 h
 simp only[gy,bp,bw,ny,h0,h1,h2,h3,h4,h5,h6,h7,jY]
def Yu(t:Tree)(m:SM)(s:Hm):(gy t m s).all dg.flat=true:=by
 simp only[gy,ku,dg.flat,flI,flS]; rfl
abbrev sH(ar:Int)(p:ag):List ag:=[.int .i64 ar,p,.ptr 0 0,.ptr 1 0,.ptr 2 0,.ptr 3 0,.ptr 4 0,.ptr 5 0]
def agx{t:Tree}{m:SM}{ar:Int}{p:List Bytes}{s s':Hm}{L:aO}(h:aq dp 105 (sH ar (fX p)) (gy t m s)=some (.tuple [],gy t m s')) :
  aL (aq dp) 105 (sH ar (fX p)) (gy t m s++L)=some (.tuple [],gy t m s'++L) :=
 mS (ids:=[0,1,2,3,4,5,6,7]) rfl (Us t m s L).1 (aiG t m s L) (Us t m s L).2 rfl h rfl rfl (Yu t m s') rfl (aeh t m s s' L)
section
attribute [local irreducible] fP fm kM gK dH kr aq aL cH bP
def P5(p:List Bytes)(hp:p.length<=100)(M:aO):Bc (aq dp) 107 [fX p] M=some (.slice (.own M.length) (p.map ag.str),M++[.tick 1 p.length]):=by
 have hc:aq dp 107 [fX p] []=some (.slice (.own 0) (p.map ag.str),[.tick 1 p.length]):=by
  refine gN (g:=x8 1 16) rfl ?_;have hw:wid (p.map ag.str) 1:=by have:=mo ag.str 1 (fun _=>rfl) p; simpa using this
  unfold x8;simp only[];rw[gm ⟨hw,by have:=si (a:=p.length) (b:=16) aM aM; simpa using this⟩]
  simp
 unfold Bc; rw[av ⟨rfl,rfl⟩,hc,cq]; rfl
def WS{t:Tree}{n:Node}{f:Nat}{m:SM}{ar:Int}{aQ:List Bytes}{k:List K}{R:Hm->Option (ag×aO)}(ht:Small t)(hr:wQ t)(hn:n.aK.length<=100000)
  (hj:∀e,e∈n.aK->(∀x,x∈aQ++[e.name]->dB x=true)/\(aQ++[e.name]).length<=12)
  (ih:∀e,e∈n.aK->((bO t.aa e.ar).kind==1)=false->∀s,aq dp 105 (sH e.ar (fX (aQ++[e.name]))) (gy t m s)=some (.tuple [],gy t m (mb t.aa m f e.ar (aQ++[e.name]) s)))
  (hx:∀s e,kr (aq dp) [] 8 k ⟨.exit 0,e,gy t m s++[cL (aI n)]⟩=R s) :
  ∀(l pre:List eM)(s:Hm),n.aK=pre++l->fP (aq dp) [] 8 k (.loop [0,1,2,3,4,5,6,7,28,29,30] Wr) [(0,aH ar),(1,fX aQ),(2,dC 0),(3,dC 1),(4,dC 2),(5,dC 3),(6,dC 4),(7,dC 5),(28,iU n.aK),(29,aH n.aK.length),(30,aH pre.length)] (gy t m s++[cL (aI n)]) =
   R (l.foldl (oX (mb t.aa m f) t.aa m ar aQ) s):=by
 intro l;induction l with
 |nil =>
  intro pre s h;rw[cv];simp only[gy,M7,qX h,ia,EW,seval] at hx ⊢;exact hx _ _
 |cons x rest ihl =>
  intro pre s h;rw[cv];have fx:pre.length+1<=100000:=by rw[h] at hn; simp at hn; omega
  have hw:=Lu pre x;rw[bB];have hxm:x∈n.aK:=by rw[h]; simp
  have hi1:=fun s=>ihl (pre++[x]) s (by rw[h]; simp)
  have q1:=Wc t x.ar ht hr;obtain⟨hj1,hj2⟩:=hj x hxm
  have hd:oX (mb t.aa m f) t.aa m ar aQ s x=(if (bO t.aa x.ar).kind==1 then ⟨kL s.jF x.ar ((dx s.jF ar).getD 0),s.met,s.whole&&(!((dx s.jF x.ar).isSome)||(dx s.jF x.ar).getD 0==(dx s.jF ar).getD 0)⟩
   else match yk m (mu (aQ++[x.name])) with
    |none=>mb t.aa m f x.ar (aQ++[x.name]) ⟨kL s.jF x.ar ((dx s.jF ar).getD 0),s.met,s.whole⟩
    |some a=>mb t.aa m f x.ar (aQ++[x.name]) ⟨kL (kL s.jF x.ar ((dx s.jF ar).getD 0)) x.ar a,nc (s.met+1),s.whole⟩):=rfl
  rw[hd];generalize hF:oX (mb t.aa m f) t.aa m ar aQ=F at hi1 ⊢;cases hk:(bO t.aa x.ar).kind==1
  ·have q2:=fun s=>agx (L:=[cL (aI n),cL (dJ x),cL (aI (bO t.aa x.ar)),.tick 1 (aQ.length+1)]) (ih x hxm hk s)
   have q3:=k65 (aQ++[x.name]) hj1 hj2;have q4:=P5 aQ (by simp at hj2; omega)
   have r1:dY (aQ.length+1) 16=True:=si (by simp at hj2; omega) aM
   simp only[af,aC];cases hs:yk m (mu (aQ++[x.name])) with
   |none =>
    have q2:=q2 ⟨kL s.jF x.ar ((dx s.jF ar).getD 0),s.met,s.whole⟩;generalize mb t.aa m f x.ar (aQ++[x.name]) ⟨kL s.jF x.ar ((dx s.jF ar).getD 0),s.met,s.whole⟩=s' at q2 ⊢;have hi1:=hi1 s';simp only[gy,qy,aY,aI,dJ,sH,fX,aR,aD,aF,aN,bp,bw,bH,a8,bE] at hi1 q1 q2 q3 q4;simp only[gy,qy,aY,aI,dJ,pI h,lr h,M7,lC,um,Dq,yq,Tu,Tw,Tv,cW,lY,mapOf.eq_1,q1,hk,q4,r1,q3,hs,q2,hw,b0T,bkI,bkS,jl,af,aC,EW,seval];exact hi1
   |some a =>
    have q2:=q2 ⟨kL (kL s.jF x.ar ((dx s.jF ar).getD 0)) x.ar a,nc (s.met+1),s.whole⟩;simp only[nc] at q2 ⊢;generalize mb t.aa m f x.ar (aQ++[x.name]) ⟨kL (kL s.jF x.ar ((dx s.jF ar).getD 0)) x.ar a,IntKind.i64.wrap (s.met+1),s.whole⟩=s' at q2 ⊢;have hi1:=hi1 s';simp only[gy,qy,aY,aI,dJ,sH,fX,aR,aD,aF,aN,bp,bw,bH,a8,bE] at hi1 q1 q2 q3 q4;simp only[gy,qy,aY,aI,dJ,pI h,lr h,M7,lC,um,Dq,yq,Tu,Tw,Tv,cW,lY,mapOf.eq_1,q1,hk,q4,r1,q3,hs,q2,hw,b0T,bkI,bkS,dD,bQ,af,aC,EW,seval];exact hi1
  ·have hi1:=hi1 ⟨kL s.jF x.ar ((dx s.jF ar).getD 0),s.met,s.whole&&(!((dx s.jF x.ar).isSome)||(dx s.jF x.ar).getD 0==(dx s.jF ar).getD 0)⟩
   simp only[gy,qy,aY,aI,dJ,sH,fX,aR,aD,aF,aN,bp,bw,bH,a8,bE] at hi1 q1
   cases hwh:s.whole<;>cases his:(dx s.jF x.ar).isSome<;>simp only[hwh,his,cp,b9,dG,cG,dL,dE] at hi1 ⊢ <;>
    simp only[gy,qy,aY,aI,dJ,pI h,lr h,M7,lC,um,yq,Tu,mapOf.eq_1,q1,hk,hwh,his,hw,b0T,bkI,bkS,aE,af,aC,EW,seval]<;>exact hi1
def aku{t:Tree}{cz:Int->Nat}(h:cF t cz 0)(m:SM):∀(f:Nat)(ar:Int)(aQ:List Bytes)(s:Hm)(d:Node),find t.aa ar=some d->d.kind=2->Way t.aa 1 aQ ar->13<f+cz ar ->
  aq dp 105 (sH ar (fX aQ)) (gy t m s)=some (.tuple [],gy t m (mb t.aa m f ar aQ s)):=by
 intro f;induction f with
 |zero =>
  intro ar aQ s d hd hk _ hf;have:=(h.deep _ _ hd hk).1;omega
 |succ f ih =>
  intro ar aQ s d hd hk hw hf;have q1:=Wc t ar h.sz.Lg h.jK;have hn:bO t.aa ar=d:=by simp[bO,hd]
  have hl:=WS (t:=t) (n:=d) (f:=f) (m:=m) (ar:=ar) (aQ:=aQ) (k:=[.block 0]) (R:=fun s=>some (.tuple [],gy t m s)) h.sz.Lg h.jK (by have:=(h.wL _ _ hd).2; omega) ?_ ?_ (fun s e=>by simp only[gy,qy,M7,aI,b0T,bkI,bkS,EW,seval]) d.aK [] s rfl
  ·refine aw ?_;rw[mb,hn];rw[hn] at q1;simp only[gy,qy,aI,bp,bw,aF,gu] at hl q1;simp only[Qy,M7,gy,qy,aY,aI,q1,EW,seval];exact hl
  ·intro e he;obtain⟨_,_,e1,hnm,m',hm',hu⟩:=h.sX _ _ _ hd he;have wayE:Way t.aa 1 (aQ++[e.name]) e.ar:=nb.2 ⟨ar,hw,d,e,hd,hk,hnm,(o6 (h.jK.aK _ (cr hd).1)).2 ⟨he,rfl⟩,rfl⟩;exact⟨oc wayE,h.sk wayE⟩
  ·intro e he hek s;obtain⟨_,_,e1,hnm,m',hm',hu⟩:=h.sX _ _ _ hd he;have wayE:Way t.aa 1 (aQ++[e.name]) e.ar:=nb.2 ⟨ar,hw,d,e,hd,hk,hnm,(o6 (h.jK.aK _ (cr hd).1)).2 ⟨he,rfl⟩,rfl⟩;have hmn:bO t.aa e.ar=m':=by simp[bO,hm']
   rw[hmn] at hek;have hmk:m'.kind=2:=(h.kind _ _ hm').resolve_left (by simpa using hek)
   have hdep:=(h.sW _ _ hm' hmk e1).1;rw[hu hmk] at hdep;exact ih e.ar (aQ++[e.name]) s m' hm' hmk wayE aM
end
def Mb:ag := .func 105 [.ptr 0 0,.ptr 2 0,.ptr 6 0,.ptr 4 0,.ptr 5 0,.ptr 7 0]
def uW(t:Tree)(m:SM)(s:Hm):aO:=[.cells (aY t),.map (wM s.jF) (re (ag.int .i64) s.jF),.cells [.gJ 1],.map (VJ m) (EA m),.cells [.gJ 3],.cells [.int .i64 s.met],.cells [.bool s.whole],.cells [Mb]]
def aaR{t:Tree}{m:SM}{ar:Int}{s s':Hm}(h:aq dp 105 (sH ar (fX [])) (gy t m s)=some (.tuple [],gy t m s')) :
  aL (aq dp) 105 [aH ar,ka [],dC 0,dC 2,dC 6,dC 4,dC 5,dC 7] (uW t m s)=some (.tuple [],uW t m s'):=by
 have i1:tj (uW t m s) [0,2,6,4,5,7]=[1,3,0,2,6,4,5,7]:=rfl
 have i2:tj (uW t m s) [0,2,6,4,5,7,1,3]=[1,3,0,2,6,4,5,7]:=by
  show[1,3,0,2,6,4,5,7]++((re (ag.int .i64) s.jF).flatMap ag.ids++((EA m).flatMap ag.ids++[]))=_
  rw[idI,idS]; rfl
 have e0:mB [] [0,2,6,4,5,7]=[0,2,6,4,5,7]:=rfl;have e1:mB [0,2,6,4,5,7] [1,3,0,2,6,4,5,7]=[0,2,6,4,5,7,1,3]:=rfl;have e2:mB [0,2,6,4,5,7,1,3] [1,3,0,2,6,4,5,7]=[0,2,6,4,5,7,1,3]:=rfl
 have hr:reach (uW t m s) [0,2,6,4,5,7]=[0,2,6,4,5,7,1,3]/\mC (uW t m s) [0,2,6,4,5,7,1,3]=[0,2,6,4,5,7,1,3]:=by
  simp only[reach,mC,e0,i1,e1,i2,e2,j4]
 have hp:kV (uW t m s) (jb [0,2,6,4,5,7,1,3]) [0,2,6,4,5,7,1,3]=some (gy t m s):=by
  simp only[uW,kV,nth,dg.flat,flI,flS,cq,aE,dg.rn,rnI,rnS];rfl
 refine mS (ids:=[0,2,6,4,5,7,1,3]) rfl hr.1 hp hr.2 rfl h rfl rfl (Yu t m s') rfl ?_;simp only[gy,uW,ny,dg.rn,rnI,rnS,jY];rfl
def plI(l:AM Int):(re (ag.int .i64) l).all ag.plain=true:=bF.2 fun x hx=>by
 obtain⟨p,_,rfl⟩:=cm.1 hx;rfl
def pkI(l:AM Int):(wM l).all ag.plainCell=true:=bF.2 fun x hx=>by
 obtain⟨p,_,rfl⟩:=cm.1 hx;rfl
section
variable {t:Tree} {cz:Int->Nat} {l:List Piece}
attribute [local irreducible] fP fm kM gK dH kr aq aL cH bP
def c49(h:cF t cz 0)(hl:kc l):aq dp 49 [bV l,bD t] []=some (.tuple [.iB (wM (kU l t.aa).1) (re (ag.int .i64) (kU l t.aa).1),.bool (kU l t.aa).2],[]):=by
 refine aw ?_;have hm:=hl.many;obtain⟨r,hr,hrk,_⟩:=h.root;have q:=aaR (aku h (mh l) 14 1 [] ⟨[(1,0)],1,true⟩ r hr hrk rfl aM);have hS:mb t.aa (mh l) 14 1 [] ⟨[(1,0)],1,true⟩=tb l t.aa:=rfl;rw[hS] at q;unfold kU;generalize tb l t.aa=s at q ⊢;have e0:wM [((1:Int),(0:Int))]=[aH 1]:=rfl;have e1:re (ag.int .i64) [((1:Int),(0:Int))]=[aH 0]:=rfl;simp only[uW,e0,e1,Mb] at q;simp only[ag5,E49,bD,te,iq,EW,seval]
 refine dj (gV (xs:=l) aM (fun i s=>s.1=(i:Int)/\tE (l.drop i) s.1 s.2=mh l) (fun _ (_:Int×SM)=>()) (fun s i=>[(0,bV l),(3,dC 0),(6,dC 2),(7,dC 4),(16,bV l),(17,aH l.length),(18,aH i)])
  (fun s=>[cL (aY t),.map [aH 1] [aH 0],cL [.gJ 1],.map (VJ s.2) (EA s.2),cL [.gJ 3]])
  (fun _=>some (.tuple [.iB (wM s.jF) (re (ag.int .i64) s.jF),.bool (s.whole&&(s.met==(l.length:Int)&&(s.jF.length:Int)==(t.aa.length:Int)))],[])) (fun s' hs=>?_) (fun pre x post s' hh hx cA hw h0 hm hI hi=>?_) (0,[]) ⟨rfl,rfl⟩) rfl
 ·obtain⟨_,hs⟩:=hs;rw[gY] at hs;have hs:s'.2=mh l:=hs;simp only[aY] at q
  cases hwh:s.whole<;>cases hme:s.met==(l.length:Int)<;>rw[hwh] at q <;>
   simp only[E49,aX,hs,aY,q,hwh,hme,mapOf.eq_1,VI,plI,pkI,cp,b9,fW,aE,EW,seval]
 ·obtain⟨i1,i2⟩:=hI;have hd:l.drop pre.length=x::post:=by rw[hh]; simp
  have hd2:l.drop (pre.length+1)=post:=by rw[hh]; simp
  rw[hd,tE] at i2;have i3:=hi (s'.1+1,G3 s'.2 x.aQ s'.1) ⟨by simp[i1],by simp only[hd2]; exact i2⟩
  simp only[i1] at i3;simp only[E49,cA,hx,hw,h0,IH,cS,eI,cI,b0T,bkS,EW,seval];exact i3
end
noncomputable def qk(l:List Node):List Node:=(qc 0 (l.map bJ)).toList.map fun i=>l.getD i Node.zero
def F2(l:List Node):sK 0 (l.map bJ)=(qk l).map bJ:=by
 unfold sK qk;rw[fY];refine cj fun i hi=>?_
 have h:=Mi hi;rw[az] at h;simp[db,h]
def xy(l:List Node):(qk l).Perm l:=by
 have h:=(xg 0 (l.map bJ)).2.1.map fun i=>l.getD i Node.zero
 have e:(List.range (l.map bJ).length).map (fun i=>l.getD i Node.zero)=l:=by
  apply List.ext_getElem
  ·simp
  ·intro i h1 h2;simp[h2]
 rw[e] at h;exact h
def Pe(l:List Node):(qk l).Pairwise fun a b=>a.ar<=b.ar:=by
 have h:=I9 0 (l.map bJ);rw[F2,iL] at h;exact h
def Lp{l ns:List Node}(h:ng ns)(hp:l.Perm ns):qk l=ns:=by
 have p:=(xy l).trans hp;have nd:((qk l).map Node.ar).Nodup:=(p.map Node.ar).nodup_iff.2 (Em h);rw[List.nodup_iff_pairwise_ne,iL] at nd;exact PT (((Pe l).and nd).imp fun {a b} hab=>by have:=hab.1; have:=hab.2; omega) h p
def DY(l:List Node):(qk l).length=l.length:=(xy l).length_eq
def OW{l:List Node}{v:Nat}(hl:l.length<=1000000):aq dp 58 [.cY 0 v 6 0 l.length,.func 59 []] [.arr 6 v (l.map bJ)]=some (.tuple [],[.arr 6 v ((qk l).map bJ)]):=by
 refine gN (g:=wI 6 0 59) rfl ?_;unfold wI;simp only[nth];have ht:(l.map bJ).take l.length=l.map bJ:=bS dk;have hd:(l.map bJ).drop l.length=[]:=jc dk;rw[ht,hd,F2,cu];rw[gm]
 ·rfl
 ·refine⟨trivial,trivial,trivial,dk,trivial,aM,?_⟩
  ·intro x hx;obtain⟨n,_,rfl⟩:=cm.1 hx;rfl
def aiJ(n:Nat)(xs:List ag)(b0 b1 b2:dg):kV [b0,b1,b2,.arr 6 n xs] (jb [3]) [3]=some [.arr 6 n xs]:=rfl
def Jo(l:List nz):wid (l.map D5) 2=True:=mo D5 _ (fun _=>rfl) l
def lB(x:nz):(D5 x).cells=nS x:=rfl
def p7(x:nz):(nS x).length=2:=rfl
section
attribute [local irreducible] fP fm kM gK dH kr aq aL cH bP
def w17{f:rR}(fx:(f.dV.flatMap nz.aa).length<=1000)(hn:f.dV.length<=1000):aq dp 17 [iV f] []=some (bD ⟨qk (f.dV.flatMap nz.aa),f.next,f.ae⟩,[]):=by
 refine aw ?_;simp only[aa7,E17,iV,bL,vz,wi,EW,seval]
 refine dj (gV (xs:=f.dV) aM (fun i (s:Nat×List Node)=>s.2=(f.dV.take i).flatMap nz.aa) (fun _ (_:Nat×List Node)=>()) (fun _ i=>[(2,dC 1),(3,dC 2),(12,mf f.dV),(13,aH f.dV.length),(14,aH i)])
  (fun s=>[cL [bV f.pieces,mf f.dV,aH f.next,aH f.ae],cL [.slice .c0 [],aH 0,aH 0],cL [.cY 3 s.1 6 0 s.2.length,aH f.next,aH f.ae],.arr 6 s.1 (s.2.map bJ)])
  (fun _=>some (bD ⟨qk (f.dV.flatMap nz.aa),f.next,f.ae⟩,[])) (fun s hs=>?_) (fun pre x post s hh hx cA hw h0 hm hI hi=>?_) (0,[]) rfl) rfl
 ·obtain⟨v,acc⟩:=s;rw[bT] at hs;simp only at hs;subst hs;have hps:=OW (v:=v) (l:=f.dV.flatMap nz.aa) aM
  have q:∀b0 b1 b2,aL (aq dp) 58 [.cY 3 v 6 0 (f.dV.flatMap nz.aa).length,.func 59 []] [b0,b1,b2,.arr 6 v ((f.dV.flatMap nz.aa).map bJ)]=some (.tuple [],[b0,b1,b2,.arr 6 v ((qk (f.dV.flatMap nz.aa)).map bJ)]):=fun b0 b1 b2 =>
   mS (ids:=[3]) rfl rfl (aiJ _ _ ..) rfl rfl hps rfl rfl rfl rfl rfl
  have ht:List.take (f.dV.flatMap nz.aa).length ((qk (f.dV.flatMap nz.aa)).map bJ)=(qk (f.dV.flatMap nz.aa)).map bJ:=bS (by simp[DY])
  simp only[E17,aX,q,ht,EW,seval];rfl
 ·obtain⟨v,acc⟩:=s;simp only at hI;subst hI
  have hI2:(f.dV.take (pre.length+1)).flatMap nz.aa=(f.dV.take pre.length).flatMap nz.aa++x.aa:=by
   have h1:f.dV.take (pre.length+1)=pre++[x]:=by rw[hh,show pre++x::post=(pre++[x])++post by simp]; exact oI dk
   have h2:f.dV.take pre.length=pre:=by rw[hh]; simp
   rw[h1,h2]; simp
  have hle:((f.dV.take pre.length).flatMap nz.aa).length+x.aa.length<=1000:=by
   have e:((f.dV.take pre.length).flatMap nz.aa++x.aa).length<=(f.dV.flatMap nz.aa).length:=by
    rw[<-hI2]
    conv=>rhs; rw[<-c9 (pre.length+1) f.dV,lJ]
    simp
   simp only[aR] at e;omega
  have r1:dY (((f.dV.take pre.length).flatMap nz.aa).length+x.aa.length) 80=True:=xt;have i1:=fun v'=>hi (v',(f.dV.take (pre.length+1)).flatMap nz.aa) rfl
  rw[hI2] at i1;generalize (f.dV.take pre.length).flatMap nz.aa=acc at *;simp only[aR,bH] at i1;have tk:List.take acc.length (acc.map bJ)=acc.map bJ:=bS dk;have wa:wid (acc.map bJ) 6=True:=mo bJ 6 (fun _=>rfl) acc
  cases he:x.aa.length==0
  ·simp only[E17,tk,wa,cA,hx,hw,h0,lB,p7,nS,r1,he,EW,seval];exact i1 _
  ·have hz:x.aa=[]:=cf.1 (by simpa using he)
   simp only[hz,aF,dq,bE,cu] at i1 r1;simp only[E17,tk,wa,cA,hx,hw,h0,lB,p7,nS,r1,hz,EW,seval];exact i1 _
def c17{f:rR}{ns:List Node}(hns:ng ns)(hp:(f.dV.flatMap nz.aa).Perm ns)(hl:ns.length<=1000)(hn:f.dV.length<=1000):aq dp 17 [iV f] []=some (bD ⟨ns,f.next,f.ae⟩,[]):=by
 rw[w17 (by rw[hp.length_eq]; exact hl) hn,Lp hns hp]
end
def Dl(z:ag):lL z false none=z:=rfl
def Dm(z a:ag):lL z false (some a)=a:=rfl
def xi(m:LM)(g:Nat):Option nz:=if decide ((((((dx m (g:Int)).map Prod.snd).getD []).length:Nat):Int)>0) then some ⟨g,((dx m (g:Int)).map Prod.snd).getD []⟩ else none
def Mc{t:Tree}{cz:Int->Nat}{l:List Piece}(h:cF t cz 0)(hl:kc l)(m:rO l t.aa){n:Node}(hn:n∈t.aa):∃v:Nat,(dx (kU l t.aa).1 n.ar).getD 0=(v:Int)/\l[v]?=some (nB l v)/\kX l t.aa n.ar=(nB l v).group:=by
 have hf:=(fp h.jK.iW).2 ⟨hn,rfl⟩;obtain⟨k,hd⟩:=(pH h hl m hf).dh h;obtain⟨h1,h2⟩:=hd.lt h hl;refine⟨(vn l t.aa n.ar).toNat,?_,sq h2,rfl⟩
 show vn l t.aa n.ar=_
 omega
def Ff(m:LM)(k:Int)(id:Nat)(l:List Node):te .i (aH k) (.slice (.own id) (l.map bJ)) (wM m) (re NL m)=some (wM (kL m k (id,l)),re NL (kL m k (id,l))):=um NL m k (id,l)
section
variable {t:Tree} {cz:Int->Nat} {l:List Piece}
attribute [local irreducible] fP fm kM gK dH kr aq aL cH bP
def c28(h:cF t cz 0)(hl:kc l)(m:rO l t.aa):aq dp 28 [bV l,bD t] []=some (iV (bG l t),[]):=by
 refine aw ?_;have hm:=hl.many;have hnodes:=h.aa
 have q1:∀M,aL (aq dp) 49 [bV l,.agg (aY t)] M=some (.tuple [.iB (wM (kU l t.aa).1) (re (ag.int .i64) (kU l t.aa).1),.bool (kU l t.aa).2],M):=fun M=>by
  refine cO (c49 h hl) M
 have hat:=fun n hn=>Mc h hl m (n:=n) hn
 have hspr:∀g,(((dx (t.aa.foldl (oy 3 fun n=>kX l t.aa n.ar) ([],[])).1 g).map Prod.snd).getD [])=t.aa.filter fun n=>kX l t.aa n.ar==g:=fun g=>TD _ _ _ _
 simp only[aY] at q1;simp only[abb,Yb,bD,aY,q1,EW,seval]
 refine dj (LV (xs:=t.aa) aM (fun i (s:LM×List RB)=>Lts 3 s/\Vi s/\(t.aa.drop i).foldl (oy 3 fun n=>kX l t.aa n.ar) s=t.aa.foldl (oy 3 fun n=>kX l t.aa n.ar) ([],[])/\∀g id r,dx s.1 g=some (id,r)->r.length<=i) (fun _ (_:LM×List RB)=>())
  (fun _ i=>[(0,bV l),(3,dC 0),(4,dC 1),(5,.iB (wM (kU l t.aa).1) (re (ag.int .i64) (kU l t.aa).1)),(7,.gJ 2),(21,aV t.aa),(22,aH t.aa.length),(23,aH i)])
  (fun s => cL [aV t.aa,aH t.next,aH t.ae] :: cL [.slice .c0 [],.slice .c0 [],aH 0,aH 0] :: .map (wM s.1) (re NL s.1)::s.2.map wF)
  (fun _=>some (iV (bG l t),[])) (fun s hs=>?_) (fun pre x post s hh hx cA hw h0 hmm hI hi=>?_) ([],[]) ⟨⟨fun _ _ _ h=>(by cases h),fun _ _ _ _ _ h=>(by cases h)⟩,fun _ h=>(by cases h),rfl,fun _ _ _ h=>(by cases h)⟩) rfl
 ·obtain⟨hL,hLow,hF,hB⟩:=hs;rw[gY] at hF;have hF:s=t.aa.foldl (oy 3 fun n=>kX l t.aa n.ar) ([],[]):=hF
  rw[<-hF] at hspr;obtain⟨m,R⟩:=s;simp only at hspr;have lt0:∀n,(0<n+1+1+1)=True:=fun n=>dk
  have lt1:∀n,(1<n+1+1+1)=True:=fun n=>dk
  have lt2:∀n,(2<n+1+1+1)=True:=fun n=>dk
  have n0:∀b Y,nth (R.map wF++b::Y) R.length=some b:=fun b Y=>by rw[eY]; simp
  have s0:∀b c Y,jY (R.map wF++b::Y) R.length c=R.map wF++c::Y:=fun b c Y=>by rw[fJ]; simp
  simp only[Yb,aX,n0,s0,lt0,lt1,lt2,vz,wi,dW,bp,bw,EW,seval];have hrows:∀i:Nat,((List.range i).filterMap (xi m)).length<=i:=fun i=>bg (fg _ _) dk
  have hend:(List.range 8).filterMap (xi m)=qW (fun n=>kX l t.aa n.ar) t.aa:=by
   unfold qW;refine congrArg (fun f=>List.filterMap f (List.range 8)) (funext fun g=>?_)
   unfold xi;rw[hspr];cases t.aa.filter fun n=>kX l t.aa n.ar==(g:Int)<;>simp
  have lt3:(R.length+1+1+1<R.length+2+1+1+1)=True:=dk;have lt4:(R.length+1+1+1+1<R.length+2+1+1+1)=True:=dk;have bkg:∀B M a b,List.map (dg.back B M) (List.map wF R++[a,b])=List.map wF R++[dg.back B M a,dg.back B M b]:=fun B M a b=>by rw[bH,CT]; rfl
  have bkv:=fun M=>aaL (m:=m) (B:=R.length+2+1+1+1) (fun p hp=>by have:=hLow p hp; simp only at this; omega) M
  have tk2:∀a b:dg,List.take (R.length+2) (List.map wF R++[a,b])=List.map wF R++[a,b]:=fun a b=>bS dk
  have n1:∀a b,nth (List.map wF R++[a,b]) (R.length+1)=some b:=fun a b=>by rw[eY]; simp
  have s1:∀a b c,jY (List.map wF R++[a,b]) (R.length+1) c=List.map wF R++[a,c]:=fun a b c=>by rw[fJ]; simp
  refine dj (gV (xs:=List.range 8) dk (fun i (out:List nz)=>out=(List.range i).filterMap (xi m)) (fun _ (_:List nz)=>()) (fun _ i=>[(4,dC 1),(7,.gJ 2),(11,.ptr (R.length+1+1+1) 0),(50,aH i)])
   (fun out => cL [aV t.aa,aH t.next,aH t.ae] :: cL [.slice .c0 [],.slice .c0 [],aH 0,aH 0] :: .map (wM m) (re NL m)::(R.map wF++[cL [ka (l.map dy),.slice (.own (R.length+1+1+1+1)) (out.map D5),aH t.next,aH t.ae],.tick 2 out.length]))
   (fun _=>some (iV (bG l t),[])) (fun out ho=>?_) (fun pre x post out hh hx cA hw h0 hmm ho hi=>?_) [] rfl) rfl
  ·rw[jB,hend] at ho;subst ho;have e8:(((List.range 8).length:Nat):Int)=8:=rfl;simp only[Yb,e8,n0,s0,n1,s1,lt0,lt1,lt2,aX,EW,seval];rfl
  ·have hpre:pre.length<8:=by have:=congrArg List.length hh; simp at this; omega
   have hxe:x=pre.length:=by rw[eA hpre] at hx; injection hx with hx; exact hx.symm
   subst hxe;have hl8:((pre.length:Int)<8)=True:=ic;have fx:=hrows pre.length;rw[<-ho] at fx;have r1:dY (out.length+1) 32=True:=xt;have i1:=hi ((List.range (pre.length+1)).filterMap (xi m)) rfl;rw[kv,jo,<-ho] at i1;simp only[jR,jk] at i1;cases hg:dx m (pre.length:Int) with
   |none =>
    have hla:xi m pre.length=none:=by unfold xi; rw[hg]; rfl
    rw[hla] at i1;simp only[cu] at i1;simp only[Yb,hl8,hw,hg,n0,s0,n1,s1,lt0,lt1,lt2,lt3,lt4,bkg,bkv,tk2,mapOf.eq_1,lC,Dl,Dm,lY,aF,gu,aX,EW,seval];exact i1
   |some p =>
    obtain⟨id,r⟩:=p;cases hr:decide ((r.length:Int)>0)
    ·have hla:xi m pre.length=none:=by unfold xi; rw[hg]; simp only[cW,bQ,hr]; rfl
     rw[hla] at i1;simp only[cu] at i1;have hr':((0:Int)<(r.length:Int))=False:=by simp only[fH,oM]; simpa using hr
     simp only[Yb,hl8,hw,hg,hr',n0,s0,n1,s1,lt0,lt1,lt2,lt3,lt4,bkg,bkv,tk2,mapOf.eq_1,lC,Dl,Dm,NL,cW,az,EW,seval];exact i1
    ·have hla:xi m pre.length=some ⟨pre.length,r⟩:=by unfold xi; rw[hg]; simp only[cW,bQ,hr]; rfl
     rw[hla] at i1;simp only[bH,a8,bE,aR,aD,aF,aN,D5,nS] at i1;have hr':((0:Int)<(r.length:Int))=True:=by simp only[fH,j5]; simpa using hr
     have wl:=Jo out;simp only[Yb,hl8,hw,hg,hr',r1,wl,n0,s0,n1,s1,lt0,lt1,lt2,lt3,lt4,bkg,bkv,tk2,mapOf.eq_1,lC,Dl,Dm,NL,cW,az,EW,seval];exact i1
 ·obtain⟨v,hv1,hv2,hv3⟩:=hat x hmm;obtain⟨hL,hLow,hF,hB⟩:=hI
  have hI':Lts 3 (oy 3 (fun n=>kX l t.aa n.ar) s x)/\Vi (oy 3 (fun n=>kX l t.aa n.ar) s x)/\(t.aa.drop (pre.length+1)).foldl (oy 3 fun n=>kX l t.aa n.ar) (oy 3 (fun n=>kX l t.aa n.ar) s x)=t.aa.foldl (oy 3 fun n=>kX l t.aa n.ar) ([],[])/\∀g id r,dx (oy 3 (fun n=>kX l t.aa n.ar) s x).1 g=some (id,r)->r.length<=pre.length+1:=by
   have hd:t.aa.drop pre.length=x::post:=by rw[hh]; simp
   have hd2:t.aa.drop (pre.length+1)=post:=by rw[hh]; simp
   refine⟨Tj hL x,Om hL hLow x,?_,KH hB x⟩;rw[hd] at hF;rw[hd2]; exact hF
  have hlow':=hI'.2.1;have lt0:∀n,(0<n+1+1+1)=True:=fun n=>dk
  have lt1:∀n,(1<n+1+1+1)=True:=fun n=>dk
  have lt2:∀n,(2<n+1+1+1)=True:=fun n=>dk
  obtain⟨m,R⟩:=s;have g0:((v:Int)<0)=False:=dk;cases hg:dx m (kX l t.aa x.ar) with
  |none =>
   have i1:=hi (oy 3 (fun n=>kX l t.aa n.ar) (m,R) x) hI'
   ·have hid0:3+(R.length+1)=R.length+1+1+1+1:=aM;have hst:oy 3 (fun n=>kX l t.aa n.ar) (m,R) x=(kL m (kX l t.aa x.ar) (3+(R.length+1),[x]),R++[.nd x,.tk 1]):=by unfold oy; simp only[hg]
    rw[hst] at i1 hlow';have bkv:=fun M=>aaL (B:=R.length+2+1+1+1) (fun p hp=>by have:=hlow' p hp; simp at this; omega) M
    rw[hid0] at bkv
    have bka:∀B M,List.map (dg.back B M) (List.map wF R++[cL (aI x),.tick 6 1])=List.map wF R++[cL (aI x),.tick 6 1]:=fun B M=>by
     rw[show List.map wF R++[cL (aI x),.tick 6 1]=(R++[RB.nd x,RB.tk 1]).map wF by simp[wF]]; exact CT _ _ _
    simp only[aI] at bka;have tk2:∀a b:dg,List.take (R.length+2) (List.map wF R++[a,b])=List.map wF R++[a,b]:=fun a b=>bS dk
    simp only[hv3] at bkv;rw[hv3] at hg;have r1:dY (0+1) 80=True:=xt;have hid:3+(R.length+1)=R.length+1+1+1+1:=aM;have n0:∀b Y,nth (R.map wF++b::Y) R.length=some b:=fun b Y=>by rw[eY]; simp
    have s0:∀b c Y,jY (R.map wF++b::Y) R.length c=R.map wF++c::Y:=fun b c Y=>by rw[fJ]; simp
    have mp:=Ff m (nB l v).group (R.length+1+1+1+1) [x];simp only[a8,bE,bJ,aI,mc,iU] at mp;simp only[hid,hv3,bH,a8,bE,wF,aI] at i1;simp only[Yb,cA,hx,hw,h0,hv1,hv2,g0,hg,r1,n0,s0,mp,lt0,lt1,lt2,bkv,bka,tk2,mapOf.eq_1,mapOf.eq_2,lC,yq,Dl,Dm,aI,cS,eI,cI,bj,lY,dW,bp,bw,EW,seval];exact i1
  |some p =>
   obtain⟨id,r⟩:=p;obtain⟨i,rfl,hi2⟩:=hL.at' _ _ _ hg;have hrl:=hB _ _ _ hg;simp only at hi2;have hil:=(au.1 hi2).1;have i1:=hi (oy 3 (fun n=>kX l t.aa n.ar) (m,R) x) hI'
   ·have hid:3+i=i+1+1+1:=aM
    have hst:oy 3 (fun n=>kX l t.aa n.ar) (m,R) x=(kL m (kX l t.aa x.ar) (i+1+1+1,r++[x]),(R++[RB.nd x]).set i (RB.tk (r.length+1))):=by
     unfold oy; simp only[hg]; rw[hid]; rfl
    rw[hst] at i1 hlow';have bkv:=fun M=>aaL (B:=((R++[RB.nd x]).set i (RB.tk (r.length+1))).length+1+1+1) (fun p hp=>by have:=hlow' p hp; simp only at this; omega) M
    simp only[hv3] at bkv;have tkX:∀X:List RB,List.take X.length (List.map wF X)=List.map wF X:=fun X=>bS dk
    rw[hv3,hid] at hg;have hprl:pre.length<=200:=by have:=congrArg List.length hh; simp at this; omega
    have r1:dY (r.length+1) 80=True:=xt;have n0:∀b Y,nth (R.map wF++b::Y) R.length=some b:=fun b Y=>by rw[eY]; simp
    have s0:∀b c Y,jY (R.map wF++b::Y) R.length c=R.map wF++c::Y:=fun b c Y=>by rw[fJ]; simp
    have nt:∀Y,nth (R.map wF++Y) i=some (.tick 6 r.length):=fun Y=>by
     rw[eY,bh (by simpa using hil),bb,hi2]; rfl
    have st:∀c,jY (R.map wF++[cL (aI x)]) i (wF c)=((R++[RB.nd x]).set i c).map wF:=fun c=>by
     rw[fJ,show List.map wF R++[cL (aI x)]=(R++[RB.nd x]).map wF by simp[wF],jZ]
    have st:=st (RB.tk (r.length+1));simp only[wF,aI] at st;have mp:=Ff m (nB l v).group (i+1+1+1) (r++[x]);simp only[bH,a8,bE,bJ,aI,mc,iU] at mp;simp only[hv3] at i1;simp only[Yb,cA,hx,hw,h0,hv1,hv2,g0,hg,r1,n0,s0,nt,st,mp,lt0,lt1,lt2,bkv,CT,tkX,mapOf.eq_1,mapOf.eq_2,lC,yq,Dl,Dm,NL,aI,cS,eI,cI,bj,cW,dW,bp,bw,az,EW,seval];exact i1
end
def O6(s:Bytes):(bI s).2<90:=by unfold bI; (repeat' split)<;>simp
def Ce(l:List Node)(i:Int):(gM l i).2<90:=by unfold gM; (repeat' split)<;>simp
def Dk(l:List Node)(i:Int)(s:Bytes):(eB l i s).2<90:=by unfold eB; (repeat' split)<;>first|exact Ce _ _|simp
def FX(l:List Node):∀(p:List Bytes)(i:Int),(qh l p i).2<90
 | [],i=>by simp[qh]
 |s::r,i=>by
  rw[qh]; split
  ·exact Dk _ _ _
  ·exact FX l r _
def xx(t:Tree)(p:Bytes):(eW t p).2<90:=by unfold eW; split; exact O6 _; exact FX _ _ _
def Tp(s:Bytes):(gh s).2.2<90:=by unfold gh; split<;>simp
def z8(t:Tree)(p:Bytes):(mj t p).2.2<90:=by unfold mj; (repeat' split)<;>first|exact Tp _|exact xx _ _|simp
def BA(t:Tree)(i:Int)(s:Bytes):mU t i s<90:=by unfold mU; (repeat' split)<;>first|exact Ce _ _|simp
def Vn(t:Tree)(i:Int)(s:Bytes)(k:Int):(nL t i s k).2.2<90:=by unfold nL; (repeat' split)<;>first|exact BA _ _ _|simp
def adq(t:Tree)(i k:Int)(s:Bytes):(B4 t i k s).2<90:=by unfold B4; (repeat' split)<;>first|exact BA _ _ _|simp
def aef(t:Tree)(i:Int)(s:Bytes):(wv t i s).2.2<90:=by unfold wv; (repeat' split)<;>first|exact Dk _ _ _|simp
def Nw(l:List Node)(k y:Int):sV l k y<90:=by unfold sV; (repeat' split)<;>simp
def ady(t:Tree)(i:Int)(s:Bytes)(k:Int)(n:Bytes):(wR t i s k n).2.2<90:=by unfold wR; (repeat' split)<;>first|exact Dk _ _ _|exact Ce _ _|exact Nw _ _ _|simp
def Tt(t:Tree)(i z m:Int):(qM t i z m).2.2<90:=by unfold qM; (repeat' split)<;>first|exact Ce _ _|simp
def Vk(r:Wt):Prop:=r.2.1.err=0/\r.2.2<90
def vx{c:Prop}[Decidable c]{a b:Wt}(ha:Vk a)(hb:Vk b):Vk (if c then a else b):=by split<;>assumption
def Po(t:Tree)(o:qm):Vk (fQ t o):=by
 refine vx ?_ (vx ?_ (vx ?_ (vx ?_ (vx ?_ (vx ?_ ?_)))))
 ·unfold rZ; split<;>refine⟨rfl,?_⟩<;>(try dsimp only)<;>first|with_reducible exact xx _ _|decide
 ·unfold ve; dsimp only; (repeat' split)<;>refine⟨rfl,?_⟩<;>(try dsimp only)<;>first|with_reducible exact z8 _ _|with_reducible exact Vn _ _ _ _|decide
 ·unfold uj; dsimp only; (repeat' split)<;>refine⟨rfl,?_⟩<;>(try dsimp only)<;>first|with_reducible exact xx _ _|with_reducible exact z8 _ _|with_reducible exact adq _ _ _ _|decide
 ·unfold oa; dsimp only; (repeat' split)<;>refine⟨rfl,?_⟩<;>(try dsimp only)<;>first|with_reducible exact z8 _ _|with_reducible exact aef _ _ _|decide
 ·unfold pL; dsimp only; (repeat' split)<;>refine⟨rfl,?_⟩<;>(try dsimp only)<;>first|with_reducible exact z8 _ _|with_reducible exact ady _ _ _ _ _|decide
 ·unfold uk; dsimp only; (repeat' split)<;>refine⟨rfl,?_⟩<;>(try dsimp only)<;>first|with_reducible exact xx _ _|with_reducible exact Tt _ _ _ _|decide
 ·unfold sa; dsimp only; split<;>refine⟨rfl,?_⟩<;>(try dsimp only)<;>first|with_reducible exact xx _ _|decide
section
variable {t:Tree} {cz:Int->Nat} {l:List Piece}
end
def u6:AM Nat:=[(1,97),(7,98),(6,99),(2,100),(3,101),(4,102),(5,103)]
def fnV(K:Nat):ag := .raw (.func (.func K) ⟨[]⟩ ⟨[]⟩)
def p6(l:List Piece)(t:Tree)(o:qm):Wt:=if vR l t o then (t,nA,180) else fQ t o
section
attribute [local irreducible] fP fm kM gK dH kr aq aL cH bP
def c46:aq fc 46 [] []=some (.iB (wM u6) (re fnV u6),[]):=by
 refine aw ?_;simp only[ag2,E46,te,iq,Int.reduceBEq,Int.reduceEq,↓reduceIte,an,EW,seval];rfl
def k46:=cP c46
def Qg{f:rR}{t:Tree}{o:qm}{K:Nat}(hk:dx u6 o.kind=some K)(ht:Rt t)(hl:kc f.pieces)(ho:Ca o):yC K f t o (p6 f.pieces t o):=by
 have hm:=Dt _ _ _ hk;simp only[u6,ba,Prod.mk.injEq,List.not_mem_nil,or_false] at hm;rcases hm with ⟨h,rfl⟩|⟨h,rfl⟩|⟨h,rfl⟩|⟨h,rfl⟩|⟨h,rfl⟩|⟨h,rfl⟩|⟨h,rfl⟩
 ·have e:p6 f.pieces t o=rZ t o:=by unfold p6 vR fQ; simp[h]
  rw[e]; exact c97 f ht o ho
 ·have e:p6 f.pieces t o=sa t o:=by unfold p6 vR fQ; simp[h]
  rw[e]; exact c98 f ht o ho
 ·have e:p6 f.pieces t o=uk t o:=by unfold p6 vR fQ; simp[h]
  rw[e]; exact c99 f ht o ho
 ·have e:p6 f.pieces t o=ve t o:=by unfold p6 vR fQ; simp[h]
  rw[e]; exact akp f ht o ho
 ·have e:p6 f.pieces t o=uj t o:=by unfold p6 vR fQ; simp[h]
  rw[e]; exact akq f ht o ho
 ·have e:fQ t o=oa t o:=by unfold fQ; simp[h]
  unfold p6; rw[e]; exact akr f ht o ho hl h
 ·have e:fQ t o=pL t o:=by unfold fQ; simp[h]
  unfold p6; rw[e]; exact aks f ht o ho hl h
def c48{t:Tree}(ht:Rt t):aq fc 48 [bD t] []=some (bD (gS t),[]):=by
 refine aw ?_;have hn:t.aa.length<=200:=by obtain⟨cz,h⟩:=ht; exact h.aa
 simp only[ag4,E48,bD,aY,EW,seval]
 refine dj (gV (xs:=t.aa) aM (fun i (u:Tree)=>Rt u/\rM (t.aa.drop i) u=gS t) (fun _ (_:Tree)=>()) (fun _ i=>[(1,dC 0),(2,dC 1),(6,aV t.aa),(7,aH t.aa.length),(8,aH i)])
  (fun u=>[cL [aV u.aa,aH u.next,aH u.ae],cL [.slice .c0 [],aH 0,aH 0]]) (fun _=>some (.agg [aV (gS t).aa,aH (gS t).next,aH (gS t).ae],[])) (fun u hu=>?_) (fun pre x post u hh hx cA hw hz hm hu hi=>?_) t ⟨ht,rfl⟩) rfl
 ·rw[gY] at hu;have he:u=gS t:=hu.2;simp only[E48,aX,he,EW,seval]
 ·obtain⟨hr,hs⟩:=hu;have hd:t.aa.drop pre.length=x::post:=by rw[hh]; simp
  have hd2:t.aa.drop (pre.length+1)=post:=by rw[hh]; simp
  rw[hd,rM,bB] at hs;have q:=fun M=>lS (al2 u x.ar hr.small hr.jK M)
  simp only[aY] at q;cases h1:x.kind==1
  ·rw[h1] at hs;have i1:=hi u ⟨hr,by rw[hd2]; exact hs⟩
   simp only[E48,cA,hx,hw,hz,aI,h1,EW,seval];exact i1
  ·cases h2:x.df==0
   ·rw[h1,h2] at hs;have i1:=hi u ⟨hr,by rw[hd2]; exact hs⟩
    simp only[E48,cA,hx,hw,hz,aI,h1,h2,EW,seval];exact i1
   ·rw[h1,h2] at hs;have i1:=hi (pc u x.ar).1 ⟨hr.free x.ar,by rw[hd2]; exact hs⟩
    simp only[E48,cA,hx,hw,hz,aI,h1,h2,q,EW,seval];exact i1
def k48{t:Tree}(ht:Rt t)(M:aO):aL (aq fc) 48 [.agg [aV t.aa,aH t.next,aH t.ae]] M=some (.agg [aV (gS t).aa,aH (gS t).next,aH (gS t).ae],M) :=
 cO (c48 ht) M
def k49{t:Tree}{cz:Int->Nat}{l:List Piece}(h:cF t cz 0)(hl:kc l)(M:aO):aL (aq fc) 49 [bV l,.agg [aV t.aa,aH t.next,aH t.ae]] M=some (.tuple [.iB (wM (kU l t.aa).1) (re (ag.int .i64) (kU l t.aa).1),.bool (kU l t.aa).2],M) :=
 lS (cO (c49 h hl) M)
end
def Gs(f:rR)(o:qm)(w:dg):aO:=[.cells (fD o),.cells [.ptr 3 0],.cells (bL f),w]
def Ol{o:qm}(h:dx u6 o.kind=none):ug o=false:=by
 simp only[u6,dx] at h;unfold ug;rw[Bool.and_eq_false_iff];refine .inl ?_
 repeat' split at h
 all_goals first|(cases h; done)|skip
 rw[mO];intro hc;simp only[bm,bt] at hc;omega
def E4{o:qm}{K:Nat}(h:dx u6 o.kind=some K):ug o=(decide (0<=o.kD)&&decide (o.kD<16)):=by
 have hm:=Dt _ _ _ h;simp only[u6,ba,Prod.mk.injEq,List.not_mem_nil,or_false] at hm;unfold ug;rcases hm with ⟨h,_⟩|⟨h,_⟩|⟨h,_⟩|⟨h,_⟩|⟨h,_⟩|⟨h,_⟩|⟨h,_⟩<;>rw[h]<;>rfl
def G9(f:rR)(t:Tree)(o:qm):nC f t o=iX f t o nA (.slice .c0 []):=rfl
def agB(l:List Piece)(t:Tree){o:qm}(hk:ug o=true):vL l t o=if (p6 l t o).2.2 != 0 then (t,nD (p6 l t o).2.2) else if (kU l (gS (p6 l t o).1).aa).2=false then (t,nD 91) else (gS (p6 l t o).1,(p6 l t o).2.1):=by
 unfold vL p6;rw[aj (by simp[hk])]
 cases hb:vR l t o
 ·simp only[af,aC]
 ·simp only[aE]; rfl
def Pn{l:List Piece}{t:Tree}{cz:Int->Nat}(h:cF t cz 0)(o:qm):∃dep',cF (p6 l t o).1 dep' 0:=by
 unfold p6;split
 ·exact⟨cz,h⟩
 ·exact D0 h o
section
attribute [local irreducible] fP fm kM gK dH kr aq aL cH bP
def c45{f:rR}{t:Tree}{cz:Int->Nat}{o:qm}(h:cF t cz 0)(hl:kc f.pieces)(ho:Ca o) :
  ∃u a x e,Row x (a.names.map ag.str)/\a.data=[]/\aq fc 45 [dC 0,dC 1,dC 2] (Gs f o (nC f t o))=some (if e != 0 then jj e else .tuple [],Gs f o (iX f u o a x)) /\
   vL f.pieces t o=(if e != 0 then (t,nD e) else (u,a)):=by
 have ht:Rt t:=⟨cz,h⟩;have q0:=k46;have g:=lC fnV u6 o.kind;cases hk:dx u6 o.kind with
 |none =>
  refine⟨t,nA,.slice .c0 [],1,.inr ⟨rfl,rfl⟩,rfl,?_,?_⟩
  ·refine aw ?_;have q:=fun M=>U0 false 1 rfl M
   simp only[af,aC,jj] at q;rw[hk] at g;simp only[Kq,E45,Gs,fD,bL,<-G9,q0,g,q,jj,mapOf.eq_2,lL,lY,nG,jl,an,af,aE,aC,EW,seval];rfl
  ·unfold vL; rw[av (Ol hk)]; rfl
 |some K =>
  cases hc:decide (0<=o.kD)&&decide (o.kD<16)
  ·refine⟨t,nA,.slice .c0 [],1,.inr ⟨rfl,rfl⟩,rfl,?_,?_⟩
   ·refine aw ?_;have q:=fun M=>U0 false 1 rfl M
    simp only[af,aC,jj] at q;rw[hk] at g
    by_cases h1:0<=o.kD
    ·have h2:(o.kD<16)=False:=by simp only[h1,decide_true,b9,eP] at hc; simp only[fH,oM]; exact hc
     have h1:(0<=o.kD)=True:=by simp only[fH,j5]; exact h1
     simp only[Kq,E45,Gs,fD,bL,<-G9,q0,g,q,h1,h2,jj,fnV,mapOf.eq_2,lL,cW,bQ,dD,an,af,aE,aC,EW,seval]<;>rfl
    ·have h1:(0<=o.kD)=False:=by simp only[fH,oM]; exact h1
     simp only[Kq,E45,Gs,fD,bL,<-G9,q0,g,q,h1,jj,fnV,mapOf.eq_2,lL,cW,bQ,dD,an,af,aE,aC,EW,seval]<;>rfl
   ·unfold vL; rw[av (by rw[E4 hk]; exact hc)]; rfl
  ·obtain⟨x,hx,hda,ha⟩:=Qg hk ht hl ho;have hkB:ug o=true:=by rw[E4 hk]; exact hc
   rw[agB f.pieces t hkB];obtain⟨dep',hr⟩:=Pn (l:=f.pieces) h o;have q:=fun M=>U0 true 1 rfl M
   simp only[aE] at q;rw[hk] at g;simp only[bm,bt] at hc;have h1:(0<=o.kD)=True:=by simp only[fH,j5]; exact hc.1
   have h2:(o.kD<16)=True:=by simp only[fH,j5]; exact hc.2
   generalize p6 f.pieces t o=r at hx hda ha hr ⊢;obtain⟨u,a,e⟩:=r;simp only at hx hda ha hr ⊢
   have q5:aL (aq fc) K [dC 3] (Gs f o (nC f t o))=some (if e != 0 then jj e else .tuple [],Gs f o (iX f u o a x)):=by
    unfold iX at ha ⊢;rcases hx with rfl|⟨rfl,_⟩<;>exact oN (vs:=[]) (p:=3) rfl ha rfl rfl (by split<;>rfl) rfl (by split<;>rfl) rfl rfl rfl rfl rfl
   have hs:cF (gS u) dep' 0:=sM _ _ hr;have q6:=k48 ⟨dep',hr⟩;have q7:=k49 hs hl;have cx:x.j9=true:=by rcases hx with h|⟨h,_⟩<;>rw[h]<;>rfl
   cases he:e != 0
   ·simp only[he,af,aC] at q5 ⊢;cases hm:(kU f.pieces (gS u).aa).2
    ·rw[hm] at q7;have q8:=fun M=>U0 false 91 rfl M
     simp only[af,aC,jj] at q8;refine⟨gS u,a,x,91,hx,hda,aw ?_,dk⟩;simp only[Gs,fD,bL,nC,jy,iX] at q5;rcases hx with rfl|⟨rfl,_⟩ <;>
     simp only[Kq,E45,Gs,fD,bL,nC,jy,iX,q0,g,q,h1,h2,q5,q6,q7,q8,he,jj,fnV,mapOf.eq_2,lL,cW,bQ,dD,an,af,aE,aC,EW,seval]<;>rfl
    ·rw[hm] at q7;have q8:=fun M=>U0 true 91 rfl M
     simp only[aE] at q8;refine⟨gS u,a,x,0,hx,hda,aw ?_,dk⟩;simp only[Gs,fD,bL,nC,jy,iX] at q5;rcases hx with rfl|⟨rfl,_⟩ <;>
     simp only[Kq,E45,Gs,fD,bL,nC,jy,iX,q0,g,q,h1,h2,q5,q6,q7,q8,he,jj,fnV,mapOf.eq_2,lL,cW,bQ,dD,an,af,aE,aC,EW,seval]<;>rfl
   ·simp only[he,aE,jj] at q5 ⊢;refine⟨u,a,x,e,hx,hda,aw ?_,by simp[he]⟩
    simp only[Gs,fD,bL,nC,jy,iX] at q5;rcases hx with rfl|⟨rfl,_⟩ <;>
    simp only[Kq,E45,Gs,fD,bL,nC,jy,iX,q0,g,q,h1,h2,q5,he,jj,fnV,mapOf.eq_2,lL,cW,bQ,dD,an,af,aE,aC,EW,seval]<;>rfl
end
def Fx(c:Bool)(l:List ag)(M:aO)(k:Option Out):OU c ((.tuple l),M) k=k:=rfl
def MI(c:Bool)  (M:aO)(k:Option Out):OU c (.any,M) k=k:=rfl
def XF(v:Value)(M:aO)(k:Option Out):OU true (.oU v,M) k=some ⟨.oU v,[],M⟩:=rfl
def QZ(e:Env)(M:aO)(k:Env->aO->Option Out):uU ⟨.normal,e,M⟩ k=k e M:=rfl
def abx(v:Value)(e:Env)(M:aO)(k:Env->aO->Option Out):uU ⟨.oU v,e,M⟩ k=some ⟨.oU v,e,M⟩:=rfl
def aby(e:Env)(M:aO)(k:Env->aO->Option Out):uU ⟨.ret,e,M⟩ k=some ⟨.ret,e,M⟩:=rfl
def abN(live:List Nat)(e:Env)(M:aO):Out.tv live ⟨.ret,e,M⟩=⟨.ret,e,M⟩:=rfl
def adS(ks:List Nat)(bq e:Env)(M:aO):B5 ks bq ⟨.ret,e,M⟩=⟨.ret,e,M⟩:=rfl
def KE(live:List Nat)(e:Env)(M:aO):Out.tv live ⟨.normal,e,M⟩=⟨.normal,jt e live,M⟩:=rfl
def abM(live:List Nat)(v:Value)(e:Env)(M:aO):Out.tv live ⟨.oU v,e,M⟩=⟨.oU v,e,M⟩:=rfl
def Uj(ks:List Nat)(bq e:Env)(M:aO):B5 ks bq ⟨.normal,e,M⟩=⟨.normal,e,M⟩:=rfl
def adR(ks:List Nat)(bq:Env)(v:Value)(e:Env)(M:aO):B5 ks bq ⟨.oU v,e,M⟩=⟨.oU v,jt bq ks,M⟩:=rfl
def Yi:(false==true)=false:=rfl
def Yj:(true==false)=false:=rfl
def Yh:(false==false)=true:=rfl
def Yk:(true==true)=true:=rfl
def I0(c:Bool)(g:Nat)(l:List ag)(M:aO)(k:Option Out):OU c ((.func g l),M) k=k:=rfl
section
attribute [local irreducible] aq aL cH bP
def UA(f:ag)(M:aO):fe (aq fc) LN (km 0 [f]) M=some ⟨.normal,jt [(2,.ptr M.length 0),(0,f)] [0,2,3],M++[cL [aH 0]]⟩:=by
 simp only[LN,fe,ib,uU,zU,OU,KE,EV,seval]
def GR(M:aO)(b:dg):nth (M++[b]) M.length=some b:=by rw[eY]; simp
def UC(M:aO)(b c:dg):jY (M++[b]) M.length c=M++[c]:=by rw[fJ]; simp
def ad1{g:Nat}{caps:List ag}{M M':aO}(hl:M'.length=M.length)(hc:aL (aq fc) g caps (M++[cL [aH 0]])=some (.tuple [],M'++[cL [aH 0]])) :
  vC (aq fc) [2] Et [(0,.func g caps),(2,.ptr M.length 0)] (M++[cL [aH 0]])=some ⟨.ret,[(2,.ptr M.length 0)],M'++[cL [aH 0]]⟩:=by
 have h1:nth (M'++[cL [aH 0]]) M.length=some (cL [aH 0]):=by rw[<-hl]; exact GR _ _
 have h2:∀c,jY (M'++[cL [aH 0]]) M.length c=M'++[c]:=fun c=>by rw[<-hl]; exact UC _ _ _
 simp only[Et,Ur,vC,fe,ib,hc,h1,h2,Fx,MI,I0,QZ,aby,abN,adS,KE,Uj,Yi,Yj,Yh,Yk,af,aE,aC,cu,bE,EV,seval]
def ad0{g:Nat}{caps:List ag}{M M':aO}{e:Int}(hl:M'.length=M.length)(hc:aL (aq fc) g caps (M++[.cells [.int .i64 0]])=some (jj e,M'++[.cells [.int .i64 0]])) :
  vC (aq fc) [2] Et [(0,.func g caps),(2,.ptr M.length 0)] (M++[.cells [.int .i64 0]])=some ⟨.oU (.iface 34 (.int .i64 e)),[(2,.ptr M.length 0)],M'++[.cells [.int .i64 0]]⟩:=by
 simp only[jj] at hc;simp only[Et,Ur,vC,fe,ib,hc,XF,Fx,MI,I0,QZ,abx,abM,adR,KE,Uj,Yi,Yj,Yh,Yk,af,aE,aC,cu,bE,EV,seval]
end
def FV:ko.qP 44=some Fu:=by unfold ko oh; simp only[aE]
def Z4{g:Nat}{caps:List ag}{M M':aO}(hl:M'.length=M.length)(hb:j6 M.length (M'++[cL [aH 0]])=M')(hc:aL (aq fc) g caps (M++[cL [aH 0]])=some (.tuple [],M'++[cL [aH 0]])):aq ko 44 [.func g caps] M=some (aH 0,M'):=by
 refine gN FV ?_;unfold Fu;rw[av (show[ag.func g caps].length=1 from rfl),UA,cq]
 have e1:gW (jt [(2,ag.ptr M.length 0),(0,.func g caps)] [0,2,3]) 2 = .ptr M.length 0:=rfl;have e2:jt (jt [(2,ag.ptr M.length 0),(0,.func g caps)] [0,2,3]) [0,2]=[(0,.func g caps),(2,.ptr M.length 0)]:=rfl;simp only[e1,e2];rw[ad1 hl hc,cq]
 have hr:qb [(2,.ptr M.length 0)] (M'++[cL [aH 0]]) Z2=some [aH 0]:=by
  have h1:nth (M'++[cL [aH 0]]) M.length=some (cL [aH 0]):=by rw[<-hl]; exact GR _ _
  simp only[Z2,qb,zY,gW,h1,EV,seval]
 unfold Cf;simp only[hr,cq,hb];rfl
def Z3{g:Nat}{caps:List ag}{M M':aO}{e:Int}(hl:M'.length=M.length)(hb:j6 M.length (M'++[cL [aH e]])=M')(hc:aL (aq fc) g caps (M++[cL [aH 0]])=some (jj e,M'++[cL [aH 0]])):aq ko 44 [.func g caps] M=some (aH e,M'):=by
 refine gN FV ?_;unfold Fu;rw[av (show[ag.func g caps].length=1 from rfl),UA,cq]
 have e1:gW (jt [(2,ag.ptr M.length 0),(0,.func g caps)] [0,2,3]) 2 = .ptr M.length 0:=rfl;have e2:jt (jt [(2,ag.ptr M.length 0),(0,.func g caps)] [0,2,3]) [0,2]=[(0,.func g caps),(2,.ptr M.length 0)]:=rfl;simp only[e1,e2];rw[ad0 hl hc,cq];have h0:(M'++[cL [aH 0]])[M.length]?=some (cL [aH 0]):=by rw[<-hl]; simp
 have h1:(M'++[cL [aH 0]]).set M.length (cL [aH e])=M'++[cL [aH e]]:=by rw[<-hl]; simp
 have hr:qb [(2,.ptr M.length 0)] (M'++[cL [aH e]]) Z2=some [aH e]:=by
  have h1:nth (M'++[cL [aH e]]) M.length=some (cL [aH e]):=by rw[<-hl]; exact GR _ _
  simp only[Z2,qb,zY,gW,h1,EV,seval]
 unfold Cf;simp only[h0,h1,hr,cq,hb];rfl
def FI.whole{l:List Piece}{t:Tree}(h:FI l t):aq dp 17 [iV (bG l t)] []=some (bD t,[]):=by
 obtain⟨cz,hg⟩:=h.rt;have hn:=hg.aa;refine c17 (f:=bG l t) hg.jK.iW (tF hg h.prt h.may) aM ?_;have:(qW (fun n=>kX l t.aa n.ar) t.aa).length<=8:=bg (fg _ _) dk
 show(qW (fun n=>kX l t.aa n.ar) t.aa).length<=1000
 omega
def FI.Df{l:List Piece}{t:Tree}(h:FI l t)(M:aO):aL (aq dp) 17 [.agg (bL (bG l t))] M=some (.agg [aV t.aa,aH t.next,aH t.ae],M):=vT h.whole rfl rfl rfl rfl rfl M
def FI.wg{l:List Piece}{t:Tree}(h:FI l t)(M:aO):aL (aq dp) 28 [bV l,.agg [aV t.aa,aH t.next,aH t.ae]] M=some (.agg (bL (bG l t)),M):=by
 obtain⟨cz,hg⟩:=h.rt;exact cO (c28 hg h.prt h.may) M
def aiF(f o w z:List ag)(b2 b3:dg)(hf:(dg.cells f).rn (jb [1,5,0,4]) = .cells f)(ho:(dg.cells o).rn (jb [1,5,0,4]) = .cells o)(hw:(dg.cells w).rn (jb [1,5,0,4]) = .cells w)(ff:(dg.cells f).flat=true)(fo:(dg.cells o).flat=true)(fw:(dg.cells w).flat=true) :
  kV [.cells f,.cells o,b2,b3,.cells w,cL [dC 4]] (jb [1,5,0,4]) [1,5,0,4]=some [.cells o,cL [dC 3],.cells f,.cells w]:=by
 simp only[kV,nth,hf,ho,hw,ff,fo,fw,aE,cq];rfl
def adT(f:rR)(t:Tree)(o:qm):kV (Gs f o (nC f t o)++[cL [aH 0]]) (jb [0,1,2,3]) [0,1,2,3]=some (Gs f o (nC f t o)):=rfl
section
attribute [local irreducible] fP fm kM gK dH kr aq aL cH bP
def ad7{f:rR}{t:Tree}{cz:Int->Nat}{o:qm}(h:cF t cz 0)(hl:kc f.pieces)(ho:Ca o) :
  ∃u a x e,Row x (a.names.map ag.str)/\a.data=[]/\aq ko 44 [.func 45 [dC 0,dC 1,dC 2]] (Gs f o (nC f t o))=some (aH e,Gs f o (iX f u o a x)) /\
   vL f.pieces t o=(if e != 0 then (t,nD e) else (u,a)):=by
 obtain⟨u,a,x,e,hx,hd,ha,hD⟩:=c45 h hl ho;refine⟨u,a,x,e,hx,hd,?_,hD⟩
 have hc:aL (aq fc) 45 [dC 0,dC 1,dC 2] (Gs f o (nC f t o)++[cL [aH 0]])=some (if e != 0 then jj e else .tuple [],Gs f o (iX f u o a x)++[cL [aH 0]]):=by
  rcases hx with rfl|⟨rfl,_⟩<;>exact mS (ids:=[0,1,2,3]) rfl rfl (adT f t o) rfl rfl ha rfl (by split<;>rfl) rfl (by split<;>rfl) rfl
 cases he:e != 0
 ·rw[he] at hc;have:e=0:=by simpa using he
  subst this;exact Z4 rfl (by rcases hx with rfl|⟨rfl,_⟩<;>rfl) hc
 ·rw[he] at hc;exact Z3 rfl (by rcases hx with rfl|⟨rfl,_⟩<;>rfl) hc
def c15{l:List Piece}{t:Tree}{o:qm}(hf:FI l t)(ho:Ca o):aq ko 15 [iV (bG l t),.agg (fD o)] []=some (.tuple [.agg (bL (bG l (vL l t o).1)),.agg (ga (vL l t o).2)],[]):=by
 obtain⟨cz,hg⟩:=hf.rt;refine aw ?_;have q1:=fun M=>lG (hf.Df M)
 have hf2:=hf.do o
 obtain⟨u,a,x,e,hx,hd,ha,hD⟩:=ad7 (f:=bG l t) (t:=t) hg hf.prt ho;have hD:vL l t o=(if e != 0 then (t,nD e) else (u,a)):=hD
 rw[hD] at hf2 ⊢
 have q2:∀b2 b3,aL (aq ko) 44 [.func 45 [dC 1,dC 5,dC 0]] [cL (bL (bG l t)),cL (fD o),b2,b3,nC (bG l t) t o,cL [dC 4]] =
   some (aH e,[cL (bL (bG l t)),cL (fD o),b2,b3,iX (bG l t) u o a x,cL [dC 4]]):=fun b2 b3=>by
  rcases hx with rfl|⟨rfl,_⟩<;>exact mS (ids:=[1,5,0,4]) rfl rfl (aiF _ _ _ [] _ _ rfl rfl rfl rfl rfl rfl) rfl rfl ha rfl rfl rfl rfl rfl
 cases he:e != 0
 ·simp only[he,af,aC] at hf2 ⊢;have q3:=fun M=>lG (hf2.wg M)
  have hp:(bG l t).pieces=l:=rfl;obtain⟨err,ar,kind,n,m,names,data⟩:=a;simp only at hd;subst hd;generalize bG l t=f at q1 q2 hp ⊢;generalize bG l u=F at q3 ⊢;simp only[bL,fD,nC,jy,iX,hp] at q1 q2 q3;rcases hx with rfl|⟨rfl,hxn⟩
  ·simp only[V1,E15,iV,bL,fD,q1,q2,q3,hp,he,ga,EW,seval];rfl
  ·simp only[V1,E15,iV,bL,fD,q1,q2,q3,hp,he,ga,fX,hxn,EW,seval];rfl
 ·simp only[he,aE] at hf2 ⊢;generalize bG l t=f at q1 q2 ⊢;simp only[bL,fD,nC,jy,iX] at q1 q2;simp only[V1,E15,iV,bL,fD,q1,q2,he,ga,nD,EW,seval];rfl
end
def wN(f:rR)(t:Tree):dg := .cells [bV f.pieces,mf f.dV,.int .i64 f.next,.int .i64 f.ae,aV t.aa,.int .i64 t.next,.int .i64 t.ae,
 .int .i64 0,.int .i64 0,.str [],.str [],.int .i64 0,.int .i64 0,.int .i64 0,.slice .c0 [],
 .int .i64 0,.int .i64 0,.int .i64 0,.int .i64 0,.int .i64 0,.slice .c0 [],.slice .c0 []]
def yg(f:rR)(t:Tree)(s:Bytes)(g:Int)(l:List Piece):aO:=[.cells [.ptr 4 0],.cells [.str s],.cells [bV l],.cells [.int .i64 g],wN f t]
def XE(f:rR)(t:Tree)(s:Bytes)(g:Int)(l:List Piece):kV (yg f t s g l++[cL [aH 0]]) (jb [0,1,2,3,4]) [0,1,2,3,4]=some (yg f t s g l):=rfl
def Ul(f:rR)(t:Tree)(s:Bytes)(g:Int)(l:List Piece)(b0 b3:dg):kV [b0,cL [.str s],cL [aH g],b3,wN f t,cL [dC 4],cL [bV l]] (jb [5,1,6,2,4]) [5,1,6,2,4]=some (yg f t s g l):=rfl
section
attribute [local irreducible] fP fm kM gK dH kr aq aL cH bP
def amM(f:rR){t:Tree}(ht:Rt t)(aQ:Bytes)(hp:aQ.length<=100000){p:Nat}{M:aO}(hM:nth M p=some (wN f t)):aL (aq fc) 90 [dC p,.str aQ] M =
  some (if (eW t aQ).2 != 0 then jj (eW t aQ).2 else .agg (aI (bO t.aa (eW t aQ).1)),M):=by
 have h:aq fc 90 [dC 0,.str aQ] [wN f t]=some (if (eW t aQ).2 != 0 then jj (eW t aQ).2 else .agg (aI (bO t.aa (eW t aQ).1)),[wN f t]):=by
  refine aw ?_;have q1:=Wh t aQ ht.small ht.jK hp;generalize eW t aQ=v at q1 ⊢;have q2:=zN v.2;have q3:=fun M=>lS (Wc t v.1 ht.small ht.jK M)
  simp only[aI] at q3;simp only[abp,E90,wN,q1,EW,seval];cases he:v.2 != 0<;>simp only[he,af,aE,aC,jj] at q2 ⊢
  ·simp only[E90,q2,q3,aI,EW,seval]
  ·simp only[E90,q2,EW,seval]
 have:=oN (vs:=[.str aQ]) hM h rfl rfl (by split<;>rfl) rfl (by split<;>rfl) rfl rfl rfl rfl rfl
 have h2:jY M p (wN f t)=M:=wq hM;unfold wN at h2;rwa[h2] at this
def c89{f:rR}{l:List Piece}{t:Tree}{cz:Int->Nat}(h:cF t cz 0)(hl:kc l)(s:Bytes)(hs:s.length<=100000)(g:Int) :
  ∃L e,aq fc 89 [dC 0,dC 1,dC 2,dC 3] (yg f t s g l)=some (if e != 0 then jj e else .tuple [],yg f t s g L)/\vj l t s g=(if e != 0 then (l,e) else (L,0)):=by
 have ht:Rt t:=⟨cz,h⟩;have q1:=amM f ht s hs (p:=4) (M:=yg f t s g l) rfl;have q2:∀M,aL (aq fc) 91 [bV l,.str s,aH g] M=some (.tuple [bV (vi l s g).1,aH (vi l s g).2],M):=fun M=>cO (c91 hl s hs g) M
 have q3:=k49 h (Cd (s:=s) (to:=g) hl);unfold vj;generalize eW t s=v at q1 ⊢;generalize bO t.aa v.1=n at q1 ⊢;generalize vi l s g=c at q2 q3 ⊢;simp only[yg,wN,aI] at q1;cases h0:v.2 != 0
 rotate_left
 ·rw[h0] at q1;refine⟨l,v.2,aw ?_,by simp[h0]⟩
  simp only[aE,jj] at q1;simp only[N2,E89,yg,wN,q1,h0,jj,aE,EW,seval]<;>rfl
 rw[h0] at q1;simp only[af,aC] at q1;cases h1:n.kind==2
 ·have q4:=fun M=>U0 false 73 rfl M
  simp only[af,aC,jj] at q4;refine⟨l,73,aw ?_,by simp[bne,h1]⟩
  simp only[N2,E89,yg,wN,q1,q4,h1,jj,aE,EW,seval]<;>rfl
 have q4:=fun M=>U0 true 73 rfl M
 simp only[aE] at q4;have q5:=zN c.2;cases h2:c.2 != 0
 rotate_left
 ·rw[h2] at q5;simp only[aE,jj] at q5;refine⟨l,c.2,aw ?_,by simp[bne,h1,h2]⟩
  simp only[N2,E89,yg,wN,q1,q2,q4,q5,h1,h2,jj,aE,EW,seval]<;>rfl
 rw[h2] at q5;simp only[af,aC] at q5;cases h3:(kU c.1 t.aa).2<;>rw[h3] at q3
 ·have q6:=fun M=>U0 false 91 rfl M
  simp only[af,aC,jj] at q6;refine⟨l,91,aw ?_,by simp[bne,h1,h2,h3]⟩
  simp only[N2,E89,yg,wN,q1,q2,q3,q4,q5,q6,h1,jj,aE,EW,seval]<;>rfl
 ·have q6:=fun M=>U0 true 91 rfl M
  simp only[aE] at q6;refine⟨c.1,0,aw ?_,by simp[bne,h1,h2,h3]⟩
  simp only[N2,E89,yg,wN,q1,q2,q3,q4,q5,q6,h1,an,af,aC,aE,EW,seval]<;>rfl
def XX{f:rR}{l:List Piece}{t:Tree}{cz:Int->Nat}(h:cF t cz 0)(hl:kc l)(s:Bytes)(hs:s.length<=100000)(g:Int) :
  ∃L e,aq ko 44 [.func 89 [dC 0,dC 1,dC 2,dC 3]] (yg f t s g l)=some (aH e,yg f t s g L)/\vj l t s g=(if e != 0 then (l,e) else (L,0)):=by
 obtain⟨L,e,ha,hD⟩:=c89 (f:=f) h hl s hs g;refine⟨L,e,?_,hD⟩
 have hc:aL (aq fc) 89 [dC 0,dC 1,dC 2,dC 3] (yg f t s g l++[cL [aH 0]])=some (if e != 0 then jj e else .tuple [],yg f t s g L++[cL [aH 0]]) :=
  mS (ids:=[0,1,2,3,4]) rfl rfl (XE f t s g l) rfl rfl ha rfl (by split<;>rfl) rfl (by split<;>rfl) rfl
 cases he:e != 0
 ·rw[he] at hc;have:e=0:=by simpa using he
  subst this;exact Z4 rfl rfl hc
 ·rw[he] at hc;exact Z3 rfl rfl hc
def c42{l:List Piece}{t:Tree}(hf:FI l t)(s:Bytes)(hs:s.length<=100000)(g:Int):aq ko 42 [iV (bG l t),.str s,aH g] []=some (.tuple [.agg (bL (bG (vj l t s g).1 t)),aH (vj l t s g).2],[]):=by
 obtain⟨cz,hg⟩:=hf.rt;refine aw ?_;have q1:=fun M=>lG (hf.Df M)
 have hf2:=hf.cut s g;obtain⟨L,e,ha,hD⟩:=XX (f:=bG l t) hg hf.prt s hs g;rw[hD] at hf2 ⊢
 have q2:∀b0 b3,aL (aq ko) 44 [.func 89 [dC 5,dC 1,dC 6,dC 2]] [b0,cL [.str s],cL [aH g],b3,wN (bG l t) t,cL [dC 4],cL [bV l]] =
   some (aH e,[b0,cL [.str s],cL [aH g],b3,wN (bG l t) t,cL [dC 4],cL [bV L]]):=fun b0 b3 =>
  mS (ids:=[5,1,6,2,4]) rfl rfl (Ul _ _ _ _ _ _ _) rfl rfl ha rfl rfl rfl rfl rfl
 have hp:(bG l t).pieces=l:=rfl;cases he:e != 0
 ·simp only[he,af,aC] at hf2 ⊢;have q3:=fun M=>lG (hf2.wg M)
  generalize bG l t=f at q1 q2 hp ⊢;generalize bG L t=F at q3 ⊢;simp only[bL,wN,hp] at q1 q2 q3;simp only[abe,E42,iV,bL,q1,q2,q3,hp,he,EW,seval]<;>rfl
 ·simp only[he,aE] at hf2 ⊢;generalize bG l t=f at q1 q2 hp ⊢;simp only[bL,wN,hp] at q1 q2;simp only[abe,E42,iV,bL,q1,q2,hp,he,EW,seval]<;>rfl
def k94{l L:List Piece}{t:Tree}(hf:FI l t)(e:Int)(hL:FI L t)(hD:e≠0->L=l)(M:aO):aL (aq ko) 94 [.agg (bL (bG l t)),bV L,aH e] M=some (.tuple [.agg (bL (bG L t)),aH e],M):=by
 refine cO (aw ?_) M;have q1:=fun M=>lG (hf.Df M)
 have q2:=fun M=>lG (hL.wg M)
 cases he:e != 0
 ·have:e=0:=by simpa using he
  subst this;generalize bG l t=f at q1 ⊢;generalize bG L t=F at q2 ⊢;simp only[bL] at q1 q2;simp only[abq,E94,bL,q1,q2,he,EW,seval]<;>rfl
 ·have:=hD (by simpa using he)
  subst this;generalize bG L t=f at q1 ⊢;simp only[abq,E94,bL,he,EW,seval]<;>rfl
def Ic{l:List Piece}{s:Bytes}(h:(mW l s).2≠0):(mW l s).1=l:=by
 unfold mW at h ⊢;split
 ·rfl
 rename_i h1;rw[aj h1] at h;cases hp:rJ l s with
 |none=>rfl
 |some a =>
  rw[hp] at h;cases a with
  |zero=>rfl
  |succ a =>
   dsimp only at h ⊢;split
   ·rfl
   ·rename_i h2;rw[aj h2] at h;exact absurd rfl h
def IQ{l:List Piece}{s:Bytes}{g:Int}(h:(nV l s g).2≠0):(nV l s g).1=l:=by
 unfold nV at h ⊢
 repeat' split
 all_goals first|rfl|skip
 all_goals simp_all
def c43{l:List Piece}{t:Tree}(hf:FI l t)(s:Bytes)(hs:s.length<=100000):aq ko 43 [iV (bG l t),.str s] []=some (.tuple [.agg (bL (bG (mW l s).1 t)),aH (mW l s).2],[]):=by
 refine aw ?_;have q1:∀M,aL (aq ko) 93 [bV l,.str s] M=some (.tuple [bV (mW l s).1,aH (mW l s).2],M):=fun M=>lF (cO (c93 hf.prt s hs) M)
 have q2:=k94 hf (mW l s).2 (hf.join s) Ic;have hp:(bG l t).pieces=l:=rfl;generalize mW l s=c at q1 q2 ⊢;generalize bG l t=f at q2 hp ⊢;generalize bG c.1 t=F at q2 ⊢;simp only[bL,hp] at q2;simp only[ag1,E43,iV,bL,q1,q2,hp,EW,seval]<;>rfl
def c82{l:List Piece}{t:Tree}(hf:FI l t)(s:Bytes)(hs:s.length<=100000)(g:Int):aq ko 82 [iV (bG l t),.str s,aH g] []=some (.tuple [.agg (bL (bG (nV l s g).1 t)),aH (nV l s g).2],[]):=by
 refine aw ?_;have q1:∀M,aL (aq ko) 150 [bV l,.str s,aH g] M=some (.tuple [bV (nV l s g).1,aH (nV l s g).2],M):=fun M=>lF (cO (akV hf.prt s hs g) M)
 have q2:=k94 hf (nV l s g).2 (hf.move s g) IQ;have hp:(bG l t).pieces=l:=rfl;generalize nV l s g=c at q1 q2 ⊢;generalize bG l t=f at q2 hp ⊢;generalize bG c.1 t=F at q2 ⊢;simp only[bL,hp] at q2;simp only[ahl,E82,iV,bL,q1,q2,hp,EW,seval]<;>rfl
def k34{g:Int}(hg:nU g=true)(M:aO):aL (aq ko) 34 [aH g] M=some (.agg (bL (bG (sI g) p8)),M):=by
 refine cO (aw ?_) M;have q1:∀M,aL (aq ko) 77 [aH g] M=some (bV (sI g),M):=fun M=>lG (cO (c77 g) M)
 have q2:=fun M=>lG (k78 M)
 have q3:=fun M=>lG ((FI.new hg).wg M)
 generalize bG (sI g) p8=F at q3 ⊢;generalize sI g=p at q1 q3 ⊢;simp only[aY,bL] at q2 q3;simp only[agY,E34,bL,q1,q2,q3,EW,seval]<;>rfl
def Qr{X:Option (ag×aO)}{v:ag×aO}(h:∃r,r=v/\X=some r):X=some v:=by
 obtain⟨_,rfl,h⟩:=h;exact h
def akN(a b:List eM)(ha:a.length<=100000):aq dp 132 [iU a,iU b] []=some (.bool (decide (a=b)),[]):=by
 refine aw ?_;cases h0:(a.length:Int) != (b.length:Int)
 ·have hl:a.length=b.length:=by simp at h0; omega
  simp only[QD,Py,h0,EW,seval];refine Qr (qV (xs:=a) aM (fun m (_:Unit)=>a.take m=b.take m) (fun _ i=>[(0,iU a),(1,iU b),(5,aH i)]) (fun _=>[]) (fun r=>r=(.bool (decide (a=b)),[])) (fun _ hI=>?_) (fun pre x post _ e hx cA hw h0 hm hI hi=>?_) () rfl)
  ·refine⟨_,rfl,?_⟩;rw[fZ (xu hl hI)];simp only[Py,aX,EW,seval]
  ·have hp:=(au.1 hx).1;obtain⟨y,hy⟩:∃y,b[pre.length]?=some y:=⟨_,ai aM⟩;cases h1:decide (x=y)
   ·have hd:decide (a=b)=false:=da fun e=>aZ h1 (by rw[e,hy] at hx; injection hx with hx; exact hx.symm)
    refine⟨_,rfl,?_⟩;rw[hd];simp only[Py,cA,hx,hy,h0,h1,gq,LU,aeU,EW,seval]
   ·have i1:=hi () (vF hI hx (by rw[hy,bN h1]))
    simp only[Py,cA,hx,hy,hw,h0,h1,gq,LU,aeU,EW,seval];exact i1
 ·have hd:decide (a=b)=false:=da fun e=>by rw[e] at h0; simp at h0
  rw[hd];simp only[QD,Py,h0,EW,seval]
def al9 a b ha:=cP (akN a b ha)
def c66(x y:Node)(hx:x.aK.length<=100000):aq dp 66 [.agg (aI x),.agg (aI y)] []=some (.bool (decide (x=y)),[]):=by
 rw[ZI];have hk:=fun M=>al9 x.aK y.aK hx M
 refine aw ?_;simp only[ahe,E66,bJ,aI,EN,seval]
 repeat' ((first|apply bW|apply c8|apply fq)<;>intro hb<;>simp only[hb,EN,E66,hk,zu,seval])
 all_goals clear hk
 all_goals simp_all [bne]
def k66 x y hx:=cP (c66 x y hx)
def c22(a b:List Node)(ha:a.length<=100000)(he:∀n,n∈a->n.aK.length<=100000):aq dp 22 [aV a,aV b] []=some (.bool (decide (a=b)),[]):=by
 refine aw ?_;cases h0:(a.length:Int) != (b.length:Int)
 ·have hl:a.length=b.length:=by simp at h0; omega
  simp only[aa8,E22,h0,EW,seval];refine Qr (qV (xs:=a) aM (fun m (_:Unit)=>a.take m=b.take m) (fun _ i=>[(0,aV a),(1,aV b),(5,aH i)]) (fun _=>[]) (fun r=>r=(.bool (decide (a=b)),[])) (fun _ hI=>?_) (fun pre x post _ e hx cA hw h0 hm hI hi=>?_) () rfl)
  ·refine⟨_,rfl,?_⟩;rw[fZ (xu hl hI)];simp only[E22,aX,EW,seval]
  ·have hp:=(au.1 hx).1;obtain⟨y,hy⟩:∃y,b[pre.length]?=some y:=⟨_,ai aM⟩;have q:=fun M=>k66 x y (he x hm) M
   simp only[aI] at q;cases h1:decide (x=y)<;>rw[h1] at q
   ·have hd:decide (a=b)=false:=da fun e=>aZ h1 (by rw[e,hy] at hx; injection hx with hx; exact hx.symm)
    refine⟨_,rfl,?_⟩;rw[hd];simp only[E22,cA,hx,hy,h0,q,bJ,aI,EW,seval]
   ·have i1:=hi () (vF hI hx (by rw[hy,bN h1]))
    simp only[E22,cA,hx,hy,hw,h0,q,bJ,aI,EW,seval];exact i1
 ·have hd:decide (a=b)=false:=da fun e=>by rw[e] at h0; simp at h0
  rw[hd];simp only[aa8,E22,h0,EW,seval]
def k22 a b ha he:=cP (c22 a b ha he)
def c20(a b:Tree)(ha:a.aa.length<=100000)(he:∀n,n∈a.aa->n.aK.length<=100000):aq dp 20 [bD a,bD b] []=some (.bool (decide (a=b)),[]):=by
 have hd:decide (a=b)=(a.next==b.next&&(a.ae==b.ae&&decide (a.aa=b.aa))):=by
  obtain⟨a1,a2,a3⟩:=a;obtain⟨b1,b2,b3⟩:=b;rw[er]; simp; constructor
  ·rintro⟨h1,h2,h3⟩; exact⟨h2,h3,h1⟩
  ·rintro⟨h1,h2,h3⟩; exact⟨h3,h1,h2⟩
 rw[hd];have q:=fun M=>k22 a.aa b.aa ha he M
 refine aw ?_
 cases h1:a.next==b.next<;>cases h2:a.ae==b.ae <;>
  simp only[agN,E20,h1,h2,q,bD,aY,b9,cp,di,EW,seval]
def k20(a b:Tree)(ha:a.aa.length<=100000)(he:∀n,n∈a.aa->n.aK.length<=100000)(M:aO):aL (aq dp) 20 [.agg [aV a.aa,aH a.next,aH a.ae],.agg [aV b.aa,aH b.next,aH b.ae]] M=some (.bool (decide (a=b)),M):=cO (c20 a b ha he) M
end
def sr{α:Type}{xs pre:List α}(hp:pre.length<=1000000)(hl:pre.length<xs.length)(h1:0<pre.length):∃y,xs[pre.length-1]?=some y/\IntKind.i64.wrap ((pre.length:Int)-1)=((pre.length-1:Nat):Int)/\(((pre.length-1:Nat):Int)<0)=False/\(((pre.length-1:Nat):Int)<(xs.length:Int))=True :=
 ⟨_,ai aM,by rw[gb aM aM]; omega,dk,by simp only[fH,j5]; omega⟩
def uM{α:Type}{R:α->α->Prop}{xs:List α}(h:xs.Pairwise R){i j:Nat}{x y:α}(hx:xs[i]?=some x)(hy:xs[j]?=some y)(hl:i<j):R x y:=by
 obtain⟨h1,rfl⟩:=au.1 hx;obtain⟨h2,rfl⟩:=au.1 hy;exact cB.1 h i j h1 h2 hl
section
attribute [local irreducible] fP fm kM gK dH kr aq aL cH bP
abbrev AL:=AM Int
abbrev eK(l:AL):List ag:=wM l
abbrev eV(l:AL):List ag:=re (ag.int .i64) l
def bkV(B:Nat)(M:aO)(l:AL):List.map (ag.jL B M) (eV l)=eV l:=aaM _ B M (fun _=>rfl) l
def adW(l:AL):(eV l).all ag.plain=true:=bF.2 fun x hx=>by
 obtain⟨p,_,rfl⟩:=cm.1 hx;rfl
def adV(l:AL):(eK l).all ag.plainCell=true:=bF.2 fun x hx=>by
 obtain⟨p,_,rfl⟩:=cm.1 hx;rfl
def kf(d:Int)(mi:AL×AL)(e:eM):AL×AL:=(kL mi.1 e.ar (nc ((dx mi.1 e.ar).getD 0+1)),kL mi.2 e.ar d)
def jE(aa:List Node):AL×AL:=aa.foldl (fun mi n=>n.aK.foldl (kf n.ar) mi) ([],[])
def akT(aa:List Node)(next ae:Int)(hn:aa.length<=100000)(he:∀n,n∈aa->n.aK.length<=100000):aq dp 146 [dC 0] [cL [aV aa,aH next,aH ae]] =
  some (.tuple [.iB (eK (jE aa).1) (eV (jE aa).1),.iB (eK (jE aa).2) (eV (jE aa).2)],[cL [aV aa,aH next,aH ae]]):=by
 refine aw ?_;simp only[YT,Pz,EW,seval]
 refine sY (xs:=aa) aM (fun l mi=>l.foldl (fun mi n=>n.aK.foldl (kf n.ar) mi) mi) (fun _ i=>[(4,.gJ 1),(5,.gJ 2),(16,aV aa),(17,aH aa.length),(18,aH i)]) (fun mi=>[cL [aV aa,aH next,aH ae],.map (eK mi.1) (eV mi.1),.map (eK mi.2) (eV mi.2)])
  (fun mi=>some (.tuple [.iB (eK mi.1) (eV mi.1),.iB (eK mi.2) (eV mi.2)],[cL [aV aa,aH next,aH ae]])) (fun mi=>?_) (fun pre x post mi _ hx cA hw h0 hm hi=>?_) ([],[])
 ·simp only[Pz,aX,ia,adW,adV,eu,dX,EW,seval]
 ·simp only[Pz,cA,hx,h0,bB,bkV,bJ,aI,EW,seval]
  refine sY (xs:=x.aK) (by have:=he x hm; omega) (fun l mi=>post.foldl (fun mi n=>n.aK.foldl (kf n.ar) mi) (l.foldl (kf x.ar) mi)) (fun _ i=>[(4,.gJ 1),(5,.gJ 2),(7,dC 3),(16,aV aa),(17,aH aa.length),(18,aH pre.length),(23,iU x.aK),(24,aH x.aK.length),(25,aH i)]) (fun mi=>[cL [aV aa,aH next,aH ae],.map (eK mi.1) (eV mi.1),.map (eK mi.2) (eV mi.2),cL [aH x.ar,aH x.kind,aH x.df,mc x.data,iU x.aK,aH x.up]])
   (fun mi=>some (.tuple [.iB (eK mi.1) (eV mi.1),.iB (eK mi.2) (eV mi.2)],[cL [aV aa,aH next,aH ae]])) (fun mi=>?_) (fun pre' y post' mi _ hy hlt' hw' h0' _ hi'=>?_) mi
  ·have i1:=hi mi;simp only[Pz,aX,ia,hw,bkV,EW,seval];exact i1
  ·have i1:=hi' (kf x.ar mi y);simp only[kf] at i1;simp only[Pz,hlt',hy,h0',hw',gq,dJ,mapOf,lC,um,yq,bkV,kf,bB,EW,seval];exact i1
def ahK aa next ae hn he p M hM:=cM (p:=p) (M:=M) hM (akT aa next ae hn he)
def C4(d k:Int):∀(l:List eM)(mi:AL×AL),0<=(dx mi.1 k).getD 0->(dx mi.1 k).getD 0+jW l k<=1000000000->(dx (l.foldl (kf d) mi).1 k).getD 0=(dx mi.1 k).getD 0+jW l k
 | [],mi,_,_=>by simp[tZ]
 |x::l,mi,h0,hb=>by
  rw[bB];rw[rb] at hb ⊢
  have hs:(dx (kf d mi x).1 k).getD 0=(dx mi.1 k).getD 0+(if x.ar=k then 1 else 0):=by
   simp only[kf];rw[fN]
   by_cases hx:x.ar=k
   ·rw[av hx.symm,av hx,hx];rw[av hx] at hb;simp only[bQ];exact gb aM aM
   ·rw[aj (fun hh=>hx hh.symm),aj hx]; omega
  rw[C4 d k l _ (by rw[hs]; split<;>omega) (by rw[hs]; split at hb<;>simp_all<;>omega),hs]
  split<;>omega
def C5(k:Int):∀(l:List Node)(mi:AL×AL),0<=(dx mi.1 k).getD 0->(dx mi.1 k).getD 0+mJ l k<=1000000000->(dx (l.foldl (fun mi n=>n.aK.foldl (kf n.ar) mi) mi).1 k).getD 0=(dx mi.1 k).getD 0+mJ l k
 | [],mi,_,_=>by simp[mJ]
 |x::l,mi,h0,hb=>by
  rw[bB];rw[nR] at hb ⊢;have h1:=C4 x.ar k x.aK mi h0 aM;rw[C5 k l _ (by rw[h1]; omega) (by rw[h1]; omega),h1]
  omega
def zB(aa:List Node)(k:Int)(hb:mJ aa k<=1000000):(dx (jE aa).1 k).getD 0=mJ aa k:=by
 have:=C5 k aa ([],[]) (by simp[dx]) (by simp[dx]; omega)
 simpa[dx,jE] using this
def H0(d k u:Int):∀(l:List eM)(mi:AL×AL),(∀e,e∈l->e.ar=k->d=u)->(dx mi.2 k=some u\/0<jW l k)->dx (l.foldl (kf d) mi).2 k=some u
 | [],mi,_,h=>by
  rcases h with h|h
  ·exact h
  ·simp[tZ] at h
 |x::l,mi,hd,h=>by
  rw[bB];refine H0 d k u l _ (fun e he=>hd e (aP _ he)) ?_
  simp only[kf];rw[fN]
  by_cases hx:x.ar=k
  ·rw[av hx.symm,hd x aG hx]; exact .inl rfl
  ·rw[aj (fun hh=>hx hh.symm)]
   rcases h with h|h
   ·exact .inl h
   ·rw[rb,aj hx] at h; exact .inr h
def C3(d k:Int):∀(l:List eM)(mi:AL×AL),jW l k=0->dx (l.foldl (kf d) mi).2 k=dx mi.2 k
 | [],_,_=>rfl
 |x::l,mi,h=>by
  rw[rb] at h;have hx:¬x.ar=k:=fun hh=>by rw[av hh] at h; omega
  rw[bB,C3 d k l _ (by rw[aj hx] at h; exact h)]
  simp only[kf];rw[fN,aj (fun hh=>hx hh.symm)]
def H2(k u:Int):∀(l:List Node)(mi:AL×AL),(∀n,n∈l->∀e,e∈n.aK->e.ar=k->n.ar=u)->(dx mi.2 k=some u\/0<mJ l k)->dx (l.foldl (fun mi n=>n.aK.foldl (kf n.ar) mi) mi).2 k=some u
 | [],mi,_,h=>by
  rcases h with h|h
  ·exact h
  ·simp[mJ] at h
 |x::l,mi,hd,h=>by
  rw[bB];refine H2 k u l _ (fun n hn=>hd n (aP _ hn)) ?_
  rcases eL (jW x.aK k) with h0|h0
  ·rw[C3 x.ar k x.aK mi h0];rcases h with h|h
   ·exact .inl h
   ·rw[nR,h0] at h; exact .inr aM
  ·exact .inl (H0 x.ar k u x.aK mi (hd x aG) (.inr h0))
def cF.J6{t:Tree}{cz:Int->Nat}(h:cF t cz 0){i:Int}{n:Node}(hi:find t.aa i=some n)(hk:n.kind=2)(h1:i≠1):dx (jE t.aa).2 i=some n.up:=by
 have hl:=h.df _ _ hi;rw[aj (by have:=(h.num _ _ hi).1; omega),h.one _ _ hi hk h1] at hl
 refine H2 i n.up t.aa ([],[]) (fun m hm e he hei=>?_) (.inr aM)
 obtain⟨_,_,_,_,q,hq,hu⟩:=h.sX _ _ e ((fp h.jK.iW).2 ⟨hm,rfl⟩) he;rw[hei,hi] at hq; cases hq;exact(hu hk).symm
def cF.UU{t:Tree}{cz:Int->Nat}{x:Int}(h:cF t cz x):∀(m:Nat)(i:Int)(out:List Int)(n:Node),find t.aa i=some n->n.kind=2->cz i<=m->(pP t.aa m i (out++[i]))[out.length+cz i]?=some 1:=by
 intro m;induction m with
 |zero =>
  intro i out n hi hk hd
  have h1:i=1:=by
   rcases Int.decEq i 1 with h1|h1
   ·have:=(h.sW _ _ hi hk h1).1; omega
   ·exact h1
  have h0:cz i=0:=aM;rw[h0];simp[pP,h1]
 |succ m ih =>
  intro i out n hi hk hd;simp only[pP]
  by_cases h1:i=1
  ·subst h1; simp[h.zC]
  ·obtain⟨a,p,b,c⟩:=h.sW _ _ hi hk h1;simp only[jN,ne_eq,h1,mP,↓reduceIte,bO,hi,dD,cG,bQ,hk,an,dK,af];have:=ih n.up (out++[i]) p b c aM;simp only[aR,aD,aF] at this;rw[a,show out.length+(cz n.up+1)=out.length+(0+1)+cz n.up by omega]
   exact this
def cF.Pb{t:Tree}{cz:Int->Nat}{x:Int}(h:cF t cz x){i:Int}{n:Node}(hi:find t.aa i=some n)(hk:n.kind=2):(o4 t.aa i)[cz i]?=some 1:=by
 have:=h.UU t.aa.length i [] n hi hk (by have:=h.w8 hi hk; omega)
 simpa[o4] using this
def eC(cs:List Int):List ag:=cs.map fun c => .int .i64 c
def eT(cs:List Int):List ag:=cs.map fun _ => .bool true
def A4:∀(cs:List Int)(c:Int),c∉cs->td .i (aH c) (eC cs) (eT cs)=some none
 | [],c,_=>rfl
 |x::cs,c,h=>by
  show bP (iq .i (aH c) (aH x)) (fun b=>zk b (some (some (.bool true))) (td .i (aH c) (eC cs) (eT cs)))=_
  rw[A4 cs c (fun hh=>h (aP _ hh))]
  have:(c==x)=false:=by simp; rintro rfl; exact h aG
  simp only[iq,↓reduceIte,cq,this,mL]
def Ds:∀(cs:List Int)(c:Int),c∉cs->te .i (aH c) (.bool true) (eC cs) (eT cs)=some (eC (cs++[c]),eT (cs++[c]))
 | [],c,_=>by
  show bP (iq .i (aH c) (aH c)) (fun _=>some ([aH c],[ag.bool true]))=_
  simp only[iq,↓reduceIte,cq];rfl
 |x::cs,c,h=>by
  show bP (iq .i (aH c) (aH x)) (fun b=>zk b (some (aH c::eC cs,ag.bool true::eT cs)) (bP (te .i (aH c) (.bool true) (eC cs) (eT cs)) fun y=>some (aH x::y.1,ag.bool true::y.2)))=_
  rw[Ds cs c (fun hh=>h (aP _ hh))]
  have:(c==x)=false:=by simp; rintro rfl; exact h aG
  simp only[iq,↓reduceIte,cq,this,mL];rfl
def bkT(B:Nat)(M:aO)(l:List Int):List.map (ag.jL B M) (eT l)=eT l:=by
 unfold eT;rw[fY];exact cj (fun p _=>rfl)
def TT{s:Bytes}(h:Nm s):oV s/\s.length<=100000/\dB s=true:=by
 refine⟨trivial,?_,h⟩;unfold Nm dB at h;simp only[bm,gF,iE,eP] at h;omega
def alh{t:Tree}{cz:Int->Nat}(hi:cF t cz 0)(ht:Small t){n:Node}{ni:Int}(hf:find t.aa ni=some n):aq dp 201 [dC 0,bJ n] [cL [aV t.aa,aH t.next,aH t.ae]]=some (.bool true,[cL [aV t.aa,aH t.next,aH t.ae]]):=by
 obtain⟨aa,next,ae⟩:=t
 have he:=hi.NS hf;have hE:nJ n.aK:=hi.jK.aK n (cr hf).1;have hC:=(hi.wL _ _ hf).1;have hl:decide ((n.aK.length:Int)<=64)=true:=fZ aM;have hlk:lL (.bool false) false none = .bool false:=rfl;refine aw ?_;simp only[QK,zm,bJ,aI,EW,seval];refine Qr (qV (xs:=n.aK) aM (fun m cs=>cs=(n.aK.take m).map eM.ae) (fun _ i=>[(0,dC 0),(3,dC 1),(5,.gJ 2),(12,iU n.aK),(13,aH n.aK.length),(14,aH i)]) (fun cs=>[cL [aV aa,aH next,aH ae],cL (aI n),.map (eC cs) (eT cs)]) _ (fun cs _=>?_) (fun pre x post cs e hx cA hw h0 hm hcs hi'=>?_) [] rfl)
 ·refine⟨_,rfl,?_⟩;simp only[aI];simp only[zm,aX,hl,EW,seval]
 ·have hp:=(au.1 hx).1;have i1:=hi' (cs++[x.ae]) (by rw[eU,hx,hcs]; simp)
  obtain⟨x1,x2,_,x4,m,hm',_⟩:=hi.sX _ _ x hf hm;obtain⟨na,nl,no⟩:=TT x4
  have hat:Ec aa x.ar (lx aa x.ar)=true:=by
   rcases rp hi.jK.iW x.ar with ⟨h1,_⟩|⟨_,h2⟩
   ·exact h1
   ·simp only at hm' h2; rw[hm'] at h2; cases h2
  have hcm:x.ae∉cs:=fun hc=>by
   rw[hcs,e,List.take_left] at hc;obtain⟨y,hy,hyc⟩:=cm.1 hc;rw[e,cC] at hC;exact hC.2.2 y hy x aG hyc
  have b1:decide (x.ae<1)=false:=da aM;have b2:decide (ae<=x.ae)=false:=da (by simp only at x2; omega)
  have q79:=fun a b M=>Rj aa next ae x.ar hi.jK.iW ht.aa 0 (cL [aV aa,aH next,aH ae]::a::b::M) rfl
  have q41:=fun M=>Rc x.name nl na M
  simp only[aI] at i1 ⊢;cases h1:decide ((0:Int)<(pre.length:Int))
  ·simp only[zm,cA,hx,hw,h0,gq,dJ,q79,q41,hat,no,b1,b2,mapOf,A4 _ _ hcm,Ds _ _ hcm,hlk,bkT,h1,EW,seval];exact i1
  ·obtain⟨y,c1,c2,c3,c4⟩:=sr (xs:=n.aK) (pre:=pre) aM hp (by simpa using h1)
   have hlt':strLt y.name x.name=true:=uM hE c1 hx (by simp at h1; omega)
   simp only[zm,cA,hx,hw,h0,gq,dJ,q79,q41,hat,no,b1,b2,mapOf,A4 _ _ hcm,Ds _ _ hcm,hlk,bkT,h1,c1,c2,c3,c4,hlt',EW,seval];exact i1
def amr{aa:List Node}{next ae:Int}{cz:Int->Nat}(hi:cF ⟨aa,next,ae⟩ cz 0)(ht:Small ⟨aa,next,ae⟩){n:Node}{ni:Int}(hf:find aa ni=some n)(p:Nat)(M:aO)(hM:nth M p=some (cL [aV aa,aH next,aH ae])) :
  aL (aq dp) 201 [dC p,.agg (aI n)] M=some (.bool true,M):=by
 have:=oN hM (alh hi ht hf) rfl rfl rfl rfl rfl rfl rfl rfl rfl rfl;rwa[wq hM] at this
set_option maxHeartbeats 1000000 in
def akU{t:Tree}{cz:Int->Nat}(hi:cF t cz 0)(ht:Small t){n:Node}{ni:Int}(hf:find t.aa ni=some n)(many jF:Int)(hm:many=mJ t.aa ni)(hin:n.kind=2->ni≠1->jF=n.up) :
  aq dp 147 [dC 0,bJ n,aH many,aH jF] [cL [aV t.aa,aH t.next,aH t.ae]]=some (.bool true,[cL [aV t.aa,aH t.next,aH t.ae]]):=by
 obtain⟨aa,next,ae⟩:=t
 have hno:n.ar=ni:=hi.ar hf;have hl:=hi.df _ _ hf;rw[aj (by have:=(hi.num _ _ hf).1; omega)] at hl
 have hl:n.df=(mJ aa ni:Int):=by simpa using hl
 have hm:many=(mJ aa ni:Int):=hm;have hlm:(n.df==many)=true:=by rw[hm,hl]; simp
 have q108:=fun a M=>amr hi ht hf 0 (cL [aV aa,aH next,aH ae]::a::M) rfl
 have q44:=fun ar a M=>Rh aa next ae ar hi.jK.iW ht.aa 0 (cL [aV aa,aH next,aH ae]::a::M) rfl
 simp only[aI] at q108;refine aw ?_;rcases hi.kind _ _ hf with hk|hk
 ·obtain⟨f1,f2,f3⟩:=hi.file _ _ hf hk;have b1:(n.kind==1)=true:=by simp[hk]
  have b2:((n.aK.length:Int)==0)=true:=by rw[f1]; rfl
  have b3:(n.up==0)=true:=by simp[f2]
  have b4:decide ((n.data.length:Int)<=4096)=true:=by rw[bt]; omega
  simp only[pY,uR,bJ,aI,b1,b2,b3,b4,hlm,EN,seval]
 ·have hd:=hi.dir _ _ hf hk;have b1:(n.kind==1)=false:=by simp[hk]
  have b2:(n.kind != 2)=false:=by simp[hk]
  have b3:decide ((0:Int)<(n.data.length:Int))=false:=by rw[hd]; simp
  by_cases h1:ni=1
  ·subst h1;obtain⟨r,r1,r2,r3⟩:=hi.root;have hrn:r=n:=by simp only at r1 hf; rw[hf] at r1; injection r1 with r1; exact r1.symm
   subst hrn
   have c0:mJ aa 1=0:=by
    rcases eL (mJ aa 1) with h0|h0
    ·exact h0
    ·obtain⟨m,e,e1,e2,e3⟩:=pS.1 h0;exact absurd e3 (hi.sX _ _ e ((fp hi.jK.iW).2 ⟨e1,rfl⟩) e2).2.2.1
   have c1:(r.ar==1)=true:=by simp[hno]
   have c2:(r.up==1)=true:=by simp[r3]
   have c3:(r.df==0)=true:=by simp[hl,c0]
   have c4:(many==0)=true:=by simp[hm,c0]
   simp only[pY,uR,bJ,aI,b1,b2,b3,q108,c1,c2,c3,c4,EN,seval]
  ·have hl1:=hi.one _ _ hf hk h1;have c1:(n.ar==1)=false:=by rw[hno]; simpa using h1
   have c2:(many != 1)=false:=ic;have c3:(jF != n.up)=false:=by simp[hin hk h1]
   have c4:(n.df != 1)=false:=by simp[hl1]
   have hul:=hi.sQ hf hk;have hlast:=hi.Pb hf hk;obtain⟨dd1,dd2⟩:=hi.deep _ _ hf hk;simp only at hul hlast;have hw:IntKind.i64.wrap (((o4 aa n.ar).length:Int)-1)=(cz ni:Int):=by rw[hno,hul,gb aM aM]; omega
   have hg:(o4 aa n.ar)[cz ni]?=some 1:=by rw[hno]; exact hlast
   have w1:=xz (o4 aa n.ar)
   by_cases h12:cz ni<12
   ·have d1:decide ((cz ni:Int)<12)=true:=by rw[bt]; omega
    simp only[pY,uR,bJ,aI,b1,b2,b3,q108,c1,c2,c3,c4,q44,hw,hg,w1,d1,EN,seval]
   ·have d1:decide ((cz ni:Int)<12)=false:=by rw[eP]; omega
    have d2:((cz ni:Int)==12)=true:=by rw[eG]; omega
    have d3:((n.aK.length:Int)==0)=true:=by rw[dd2 aM]; rfl
    simp only[pY,uR,bJ,aI,b1,b2,b3,q108,c1,c2,c3,c4,q44,hw,hg,w1,d1,d2,d3,EN,seval]
def amf{aa:List Node}{next ae:Int}{cz:Int->Nat}(hi:cF ⟨aa,next,ae⟩ cz 0)(ht:Small ⟨aa,next,ae⟩){n:Node}{ni:Int}(hf:find aa ni=some n)(many jF:Int)(hm:many=mJ aa ni)(hin:n.kind=2->ni≠1->jF=n.up)(p:Nat)(M:aO)(hM:nth M p=some (cL [aV aa,aH next,aH ae])) :
  aL (aq dp) 147 [dC p,.agg (aI n),aH many,aH jF] M=some (.bool true,M):=by
 have:=oN hM (akU hi ht hf many jF hm hin) rfl rfl rfl rfl rfl rfl rfl rfl rfl rfl;rwa[wq hM] at this
def cF.first{t:Tree}{cz:Int->Nat}(h:cF t cz 0):∃r rest,t.aa=r::rest/\r.ar=1/\r.kind=2:=by
 obtain⟨r,r1,r2,_⟩:=h.root;cases hn:t.aa with
 |nil=>rw[hn] at r1; cases r1
 |cons x l =>
  refine⟨x,l,rfl,?_⟩;have hxf:find t.aa x.ar=some x:=(fp h.jK.iW).2 ⟨by rw[hn]; exact aG,rfl⟩
  obtain⟨q1,q2⟩:=cr r1;rw[hn] at q1;rcases ba.1 q1 with rfl|q1
  ·exact⟨q2,r2⟩
  ·have hp:=h.jK.iW;rw[hn] at hp;have:=(bR.1 hp).1 r q1;have:=(h.num _ _ hxf).1;omega
set_option maxHeartbeats 1000000 in
def c75{t:Tree}{cz:Int->Nat}(hi:cF t cz 0)(ht:Small t):aq dp 75 [bD t] []=some (.bool true,[]):=by
 obtain⟨aa,next,ae⟩:=t
 obtain⟨r,rest,r1,r2,r3⟩:=hi.first
 simp only at r1;have hn:aa.length<=200:=hi.aa;have hl1:1<=aa.length:=by rw[r1]; simp
 have hnx:=hi.next
 have hck:=hi.ae;simp only at hnx hck;have b1:decide ((aa.length:Int)<1)=false:=da aM;have b2:decide ((200:Int)<(aa.length:Int))=false:=da aM;have h0:aa[0]?=some r:=by rw[r1]; rfl
 have b3:(r.ar != 1)=false:=by simp[r2]
 have b4:(r.kind != 2)=false:=by simp[r3]
 have b5:decide ((1099511627776:Int)<next)=false:=da aM
 have b6:decide (ae<1)=false:=da aM;have b7:decide ((1099511627776:Int)<ae)=false:=da aM;have q72:=fun a M=>ahK aa next ae ht.aa ht.aK 1 (a :: cL [aV aa,aH next,aH ae]::M) rfl
 have hz0:Int.toNat 0=0:=rfl;refine aw ?_;simp only[Ea,BW,bD,aY,b1,b2,h0,hz0,bJ,aI,b3,b4,b5,b6,b7,cJ,EW,seval];refine sY (xs:=aa) aM (fun _ (_:Unit)=>()) (fun _ i=>[(3,dC 1),(79,aV aa),(80,aH aa.length),(81,aH i)]) (fun _=>[cL [aV aa,aH next,aH ae],cL [aV aa,aH next,aH ae]]) (fun _=>some (ag.bool true,([]:aO))) (fun _=>?_) (fun pre x post _ _ hx cA hw h0' hm hi'=>?_) ()
 ·simp only[BW,aX,q72,EW,seval];refine sY (xs:=aa) aM (fun _ (_:Unit)=>()) (fun _ i=>[(3,dC 1),(6,.iB (eK (jE aa).1) (eV (jE aa).1)),(7,.iB (eK (jE aa).2) (eV (jE aa).2)),(129,aV aa),(130,aH aa.length),(131,aH i)]) (fun _=>[cL [aV aa,aH next,aH ae],cL [aV aa,aH next,aH ae]]) (fun _=>some (ag.bool true,([]:aO))) (fun _=>?_) (fun pre x post _ _ hx cA hw h0' hm hi'=>?_) ()
  ·simp only[BW,aX,EW,seval]
  ·have i1:=hi' ();have hf:find aa x.ar=some x:=(fp hi.jK.iW).2 ⟨hm,rfl⟩
   have q73:=fun a b M=>amf hi ht hf _ _ (zB aa x.ar (bg (hi.J4 x.ar) aM)) (fun hk h1=>by
    have:=hi.J6 hf hk h1;simp only at this
    show(dx (jE aa).2 x.ar).getD 0=x.up
    rw[this]; rfl) 1 (a :: cL [aV aa,aH next,aH ae]::b::M) rfl
   simp only[aI] at q73;simp only[BW,cA,hx,hw,h0',bJ,aI,mapOf,lC,yq,q73,EW,seval];exact i1
 ·have i1:=hi' ();have hp:=(au.1 hx).1;have hf:find aa x.ar=some x:=(fp hi.jK.iW).2 ⟨hm,rfl⟩;have c5:decide (next<=x.ar)=false:=da (by have:=(hi.num _ _ hf).2; simp only at this; omega)
  have c6:decide ((64:Int)<(x.aK.length:Int))=false:=da (by have:=hi.NS hf; omega)
  cases h1:decide ((0:Int)<(pre.length:Int))
  ·simp only[BW,cA,hx,hw,h0',bJ,aI,h1,c5,c6,EW,seval];exact i1
  ·obtain⟨y,d1,d2,d3,d4⟩:=sr (xs:=aa) (pre:=pre) aM hp (by simpa using h1)
   have d5:decide (x.ar<=y.ar)=false:=da (by have:=uM hi.jK.iW d1 hx (by simp at h1; omega); omega)
   simp only[BW,cA,hx,hw,h0',bJ,aI,h1,c5,c6,d1,d2,d3,d4,d5,EW,seval];exact i1
end
def Cg{C:eO}{fn:List sm}{bZ:Nat}{k:List K}{live:List Nat}{body:cD}{α:Type}[DecidableEq α]{a b:List α}(hl:a.length=b.length)(hn:a.length<=1000000)(E:Int->Env)(M:aO)
  (hend:fP C fn bZ (.loop live M.length body::k) body (jt (E a.length) live) M=some (.bool true,[]))
  (hstep:∀(i:Nat)(x y:α),a[i]?=some x->b[i]?=some y->((i:Int)<a.length)=True->((i:Int)<b.length)=True->IntKind.i64.wrap ((i:Int)+1)=(i:Int)+1->((i:Int)<0)=False->x∈a ->
   ∀R,(decide (x=y)=false->some (.bool false,[])=R)->(decide (x=y)=true->fP C fn bZ k (.loop live body) (E ((i:Int)+1)) M=R)->fP C fn bZ (.loop live M.length body::k) body (jt (E i) live) M=R) :
  fP C fn bZ k (.loop live body) (E 0) M=some (.bool (decide (a=b)),[]):=by
 have key:∀(m i:Nat),i+m=a.length->a.take i=b.take i->fP C fn bZ k (.loop live body) (E i) M=some (.bool (decide (a=b)),[]):=by
  intro m;induction m with
  |zero =>
   intro i hi ht;have:i=a.length:=aM;subst this;rw[cv,hend,fZ (xu hl ht)]
  |succ m ih =>
   intro i hi ht;have hx:=ai (show i<a.length by omega)
   have hy:=ai (show i<b.length by omega)
   rw[cv];refine hstep i _ _ hx hy ic ic (gb aM aM) dk (jf _) _ (fun h=>?_) (fun h=>?_)
   ·rw[da fun e:a=b=>aZ h (by subst e; rfl)]
   ·exact ih (i+1) aM (vF ht hx (by rw[hy,bN h]))
 exact key a.length 0 aM rfl
def agC(x y:Piece):lK [.s,.i,.i] (cI x) (cI y)=some (decide (x=y)):=by
 obtain⟨a,b,c⟩:=x;obtain⟨d,e,f⟩:=y;rw[show decide (Piece.mk a b c=Piece.mk d e f)=decide ((eM.mk a b c)=(eM.mk d e f)) by simp only[Piece.mk.injEq,eM.mk.injEq]]
 exact LU ⟨a,b,c⟩ ⟨d,e,f⟩
def Yf(x:Piece):(cI x).all ag.j9=true:=rfl
def Mq{α:Type}{a b:List α}(h:((a.length:Int) != (b.length:Int))=true)[DecidableEq α]:decide (a=b)=false:=da fun e=>by rw[e] at h; simp at h
def amS(x y:nz):decide (x=y)=(x.group==y.group&&decide ((⟨x.aa,0,0⟩:Tree)=⟨y.aa,0,0⟩)):=by
 obtain⟨a,b⟩:=x;obtain⟨c,d⟩:=y;rw[er]; simp
def agH(f g:rR):decide (f=g)=(f.next==g.next&&(f.ae==g.ae&&(decide (f.pieces=g.pieces)&&decide (f.dV=g.dV)))):=by
 obtain⟨a,b,c,d⟩:=f;obtain⟨a',b',c',d'⟩:=g;rw[er]; simp;constructor
 ·rintro⟨h1,h2,h3,h4⟩; exact⟨h3,h4,h1,h2⟩
 ·rintro⟨h3,h4,h1,h2⟩; exact⟨h1,h2,h3,h4⟩
section
attribute [local irreducible] fP fm kM gK dH kr aq aL cH bP
def k72{a b:List Piece}(hn:a.length<=1000)(M:aO):aL (aq dp) 72 [bV a,bV b] M=some (.bool (decide (a=b)),M):=by
 refine cO (aw ?_) M;cases h0:(a.length:Int) != (b.length:Int)
 ·simp only[abj,E72,h0,EW,seval];refine Cg (by simp at h0; omega) aM (fun i=>[(0,bV a),(1,bV b),(12,aH a.length),(13,aH i)]) [] ?_ (fun i x y hx hy l1 l2 hw hz _ R h1 h2=>?_)
  ·simp only[E72,aX,EW,seval]
  ·cases hc:decide (x=y)<;>simp only[E72,l1,l2,hx,hy,hw,hz,cS,eI,wJ,agC,Yf,hc,EW,seval]
   ·exact h1 hc
   ·exact h2 hc
 ·simp only[abj,E72,h0,Mq h0,EW,seval]
def k70(x y:nz)(hs:Small ⟨x.aa,0,0⟩)(M:aO):aL (aq dp) 70 [.agg (nS x),.agg (nS y)] M=some (.bool (decide (x=y)),M):=by
 refine cO (aw ?_) M;have q:=k71 ⟨x.aa,0,0⟩ ⟨y.aa,0,0⟩ hs;rw[amS];cases h:x.group==y.group<;>simp only[ahg,E70,nS,h,q,b9,cp,EW,seval]
def k73{a b:List nz}(hn:a.length<=1000)(hs:∀x,x∈a->Small ⟨x.aa,0,0⟩)(M:aO):aL (aq dp) 73 [mf a,mf b,.func 70 []] M=some (.bool (decide (a=b)),M):=by
 refine cO (aw ?_) M;cases h0:(a.length:Int) != (b.length:Int)
 ·simp only[abk,E73,h0,EW,seval];refine Cg (by simp at h0; omega) aM (fun i=>[(1,mf b),(2,.func 70 []),(15,mf a),(16,aH a.length),(17,aH i)]) [] ?_ (fun i x y hx hy l1 l2 hw hz hm R h1 h2=>?_)
  ·simp only[E73,aX,EW,seval]
  ·have q:=k70 x y (hs x hm);simp only[nS] at q;cases hc:decide (x=y)<;>rw[hc] at q<;>simp only[E73,l1,l2,hx,hy,hw,hz,q,lB,p7,nS,EW,seval]
   ·exact h1 hc
   ·exact h2 hc
 ·simp only[abk,E73,h0,Mq h0,EW,seval]
def k30{f g:rR}(hp:f.pieces.length<=1000)(hl:f.dV.length<=1000)(hs:∀x,x∈f.dV->Small ⟨x.aa,0,0⟩)(M:aO):aL (aq dp) 30 [.agg (bL f),.agg (bL g)] M=some (.bool (decide (f=g)),M):=by
 refine cO (aw ?_) M;have q1:=k72 (b:=g.pieces) hp;have q2:=k73 (b:=g.dV) hl hs;rw[agH];cases h1:f.next==g.next<;>cases h2:f.ae==g.ae<;>cases h3:decide (f.pieces=g.pieces)<;>rw[h3] at q1<;>simp only[agW,E30,bL,h1,h2,q1,q2,b9,cp,di,EW,seval]
end
def chain(ns:List Node):Nat->Int->Prop
 |0,i=>i=1
 |d+1,i=>i≠1/\∃n,find ns i=some n/\n.kind=2/\chain ns d n.up
def Eu{ns:List Node}:∀ {a b:Nat} {i:Int},chain ns a i->chain ns b i->a=b
 |0,0,_,_,_=>rfl
 |0,_+1,_,h,g=>absurd h g.1
 |_+1,0,_,h,g=>absurd g h.1
 |a+1,b+1,i,⟨_,n,hn,_,h⟩,⟨_,m,hm,_,g⟩=>by
  rw[hn] at hm; cases hm;rw[Eu h g]
open Classical in
noncomputable def aa0(ns:List Node)(i:Int):Nat:=if h:∃d,chain ns d i then h.choose else 0
def zD{ns:List Node}{d:Nat}{i:Int}(h:chain ns d i):aa0 ns i=d:=by
 have hx:∃d,chain ns d i:=⟨d,h⟩;unfold aa0;rw[dif_pos hx];exact Eu hx.choose_spec h
def FW{ns:List Node}:∀(m:Nat)(i:Int)(out:List Int),(pP ns m i (out++[i])).getLast?=some 1->∃d,chain ns d i/\(pP ns m i (out++[i])).length=out.length+d+1
 |0,i,out,h=>by
  simp[pP] at h;exact⟨0,h,by simp[pP]⟩
 |m+1,i,out,h=>by
  unfold pP at h ⊢
  by_cases h1:i=1
  ·subst h1;exact⟨0,rfl,dk⟩
  ·have b1:(i != 1)=true:=by simpa using h1
   rw[av b1] at h ⊢;split at h
   ·simp at h; exact absurd h h1
   ·rename_i hc;rw[aj hc];obtain⟨d,h2,h3⟩:=FW m _ _ h;simp only[cV,gF,jN,ne_eq,kB,kO] at hc;obtain⟨n,hn⟩:=gU.1 hc.1;have e:bO ns i=n:=by simp[bO,hn]
    rw[e] at h2;refine⟨d+1,⟨h1,n,hn,?_,h2⟩,?_⟩
    ·have:=hc.2;rw[e] at this;exact kP.1 this
    ·rw[h3,aR]; simp; omega
structure Rg(t:Tree):Prop where
 head:∃r rest,t.aa=r::rest/\r.ar=1/\r.kind=2
 NS:t.aa.length<=200
 next:t.next<=1099511627776
 ae:1<=t.ae/\t.ae<=1099511627776
 iW:ng t.aa
 lt:∀n,n∈t.aa->n.ar<t.next
 aK:∀n,n∈t.aa->n.aK.length<=64
 kind:∀n,n∈t.aa->n.kind=1\/n.kind=2
 file:∀n,n∈t.aa->n.kind=1->n.aK=[]/\n.up=0/\n.data.length<=4096/\n.df=(mJ t.aa n.ar:Int)
 data:∀n,n∈t.aa->n.kind=2->n.data=[]
 names:∀n,n∈t.aa->n.kind=2->nJ n.aK/\(n.aK.Pairwise fun a b=>a.ae≠b.ae)/\∀e,e∈n.aK->(find t.aa e.ar).isSome=true/\dB e.name=true/\1<=e.ae/\e.ae<t.ae
 root:∀n,n∈t.aa->n.kind=2->n.ar=1->n.up=1/\n.df=0/\mJ t.aa 1=0
 yh:∀n,n∈t.aa->n.kind=2->n.ar≠1->n.df=1/\mJ t.aa n.ar=1/\∃p e,p∈t.aa/\p.ar=n.up/\e∈p.aK/\e.ar=n.ar
 deep:∀n,n∈t.aa->n.kind=2->n.ar≠1->∃d,chain t.aa d n.ar/\d<=12/\(d=12->n.aK=[])
def ru{n:Node}(i:Int):∀ {ns:List Node},n∈ns->jW n.aK i<=mJ ns i
 |x::r,h=>by
  rw[nR];rcases ba.1 h with rfl|h
  ·omega
  ·have:=ru i h; omega
def LP{n p:Node}{i:Int}:∀ {ns:List Node},n∈ns->p∈ns->0<jW n.aK i->0<jW p.aK i->mJ ns i=1->n=p
 |x::r,hn,hp,h1,h2,hc=>by
  rw[nR] at hc;rcases ba.1 hn with a|a<;>rcases ba.1 hp with b|b
  ·rw[a,b]
  ·have:=ru i b; rw[a] at h1; omega
  ·have:=ru i a; rw[b] at h2; omega
  ·have:=ru i a;exact LP a b h1 h2 aM
def Rg.abw{t:Tree}(h:Rg t):cF t (aa0 t.aa) 0:=by
 have hm:∀ {i:Int} {n:Node},find t.aa i=some n->n∈t.aa/\n.ar=i:=fun hf=>cr hf
 obtain⟨r,rest,r1,r2,r3⟩:=h.head;have hr:r∈t.aa:=by rw[r1]; simp
 have hrf:find t.aa 1=some r:=(fp h.iW).2 ⟨hr,r2⟩
 have hge:∀n,n∈t.aa->1<=n.ar:=fun n hn=>by
  rw[r1] at hn;rcases ba.1 hn with rfl|hn
  ·omega
  ·have ha:=h.iW;rw[r1] at ha;have:=(bR.1 ha).1 n hn;omega
 have hroot:=h.root r hr r3 r2
 have hse:∀n,n∈t.aa->nJ n.aK:=fun n hn=>by
  rcases h.kind n hn with hk|hk
  ·rw[(h.file n hn hk).1]; exact List.Pairwise.nil
  ·exact(h.names n hn hk).1
 refine⟨⟨h.iW,hse⟩,⟨r,hrf,r3,hroot.1⟩,fun i n hf=>?_,fun i n hf=>h.kind n (hm hf).1,fun i n hf hk=>?_,fun i n hf hk=>h.data n (hm hf).1 hk,fun i n e hf he=>?_,fun i n hf=>?_,fun i n hf=>?_,fun i n hf hk h1=>?_,?_,fun i n hf hk h1=>?_,fun i n hf hk=>?_,h.NS,h.next,h.ae⟩
 ·obtain⟨a,rfl⟩:=hm hf;exact⟨hge n a,h.lt n a⟩
 ·obtain⟨a,b,c,_⟩:=h.file n (hm hf).1 hk;exact⟨a,b,c⟩
 ·obtain⟨a,rfl⟩:=hm hf
  have hk:n.kind=2:=by
   rcases h.kind n a with hk|hk
   ·rw[(h.file n a hk).1] at he; cases he
   ·exact hk
  obtain⟨e1,e2,e3,e4⟩:=(h.names n a hk).2.2 e he;obtain⟨m,hmf⟩:=gU.1 e1;obtain⟨b,hb⟩:=hm hmf;have hpos:0<jW n.aK e.ar:=ua.2 ⟨e,he,rfl⟩
  have he1:e.ar≠1:=fun hc=>by
   have:=ru e.ar a;rw[hc] at this hpos;have:=hroot.2.2;omega
  refine⟨e3,e4,he1,e2,m,hmf,fun hk2=>?_⟩
  obtain⟨_,c1,p,e',p1,p2,p3,p4⟩:=h.yh m b hk2 (by rw[hb]; exact he1)
  rw[hb] at c1 p4;have:=LP a p1 hpos (ua.2 ⟨e',p3,p4⟩) c1;rw[this,p2]
 ·obtain⟨a,rfl⟩:=hm hf;refine⟨?_,h.aK n a⟩;rcases h.kind n a with hk|hk
  ·rw[(h.file n a hk).1]; exact List.Pairwise.nil
  ·exact(h.names n a hk).2.1
 ·obtain⟨a,rfl⟩:=hm hf;have h0:=hge n a;rw[aj aM];rcases h.kind n a with hk|hk
  ·have:=(h.file n a hk).2.2.2; omega
  ·by_cases h1:n.ar=1
   ·obtain⟨_,q1,q2⟩:=h.root n a hk h1;rw[h1,q1,q2]; rfl
   ·obtain⟨q1,q2,_⟩:=h.yh n a hk h1;rw[q1,q2]; rfl
 ·obtain⟨a,rfl⟩:=hm hf;exact(h.yh n a hk h1).1
 ·exact zD (ns:=t.aa) (d:=0) (i:=1) rfl
 ·obtain⟨a,rfl⟩:=hm hf;obtain⟨d,d1,_⟩:=h.deep n a hk h1
  match d,d1 with
  |0,d1=>exact absurd d1 h1
  |d+1,⟨_,n',hn',_,d1⟩ =>
   have hf':find t.aa n.ar=some n:=hf;rw[hf'] at hn'; cases hn';refine⟨by rw[zD d1,zD (d:=d+1) ⟨h1,n,hf',hk,d1⟩],?_⟩
   match d,d1 with
   |0,d1=>rw[show n.up=1 from d1]; exact⟨r,hrf,r3⟩
   |_+1,⟨_,p,hp,hpk,_⟩=>exact⟨p,hp,hpk⟩
 ·obtain⟨a,rfl⟩:=hm hf
  by_cases h1:n.ar=1
  ·rw[h1,zD (ns:=t.aa) (d:=0) (i:=1) rfl];exact⟨aM,fun h=>aM⟩
  ·obtain⟨d,d1,d2,d3⟩:=h.deep n a hk h1;rw[zD d1];exact⟨d2,d3⟩
def CN{ns:List Node}(h0:find ns 0=none){d:Nat}(h:chain ns d 0):False:=by
 match d,h with
 |0,h=>exact absurd (show(0:Int)=1 from h) pd
 |_+1,⟨_,n,hn,_⟩=>rw[h0] at hn; cases hn
def Bt{ns:List Node}(h0:find ns 0=none)(hk:∀n,n∈ns->n.kind=1\/n.kind=2)(hu:∀n,n∈ns->n.kind=1->n.up=0):∀(m:Nat)(i:Int),ke ns 1 m i=true->∃d,d<m/\chain ns d i
 |0,_,h=>by cases h
 |m+1,i,h=>by
  unfold ke at h
  by_cases h1:i=1
  ·exact⟨0,aM,h1⟩
  ·rw[aj h1,aj h1] at h;obtain⟨d,h2,h3⟩:=Bt h0 hk hu m _ h;cases hn:find ns i with
   |none =>
    rw[show Ad ns i=0 by simp[Ad,hn]; rfl] at h3
    exact(CN h0 h3).elim
   |some n =>
    rw[show Ad ns i=n.up by simp[Ad,hn]] at h3
    have hm:=(cr hn).1;rcases hk n hm with a|a
    ·rw[hu n hm a] at h3;exact(CN h0 h3).elim
    ·exact⟨d+1,aM,h1,n,hn,a,h3⟩
def w9{ns:List Node}:∀ {d:Nat} {i:Int},chain ns d i->∀(m a:Nat),d<=m->sb ns m i a=a+d
 |0,i,h,m,a,_=>by
  have h:i=1:=h;cases m<;>simp[sb,h]
 |d+1,i,⟨h1,n,hn,_,h⟩,m,a,hm=>by
  match m,hm with
  |m+1,hm =>
   unfold sb;rw[aj h1,show Ad ns i=n.up by simp[Ad,hn],w9 h m (a+1) aM]
   omega
def X3(ns:List Node)(i:Int)(hn:ns.length<=100000):∃k,(o4 ns i).length=k+1/\k<=100000:=by
 have:=vG ns ns.length i [i];rw[List.length_singleton] at this;exact⟨(o4 ns i).length-1,by unfold o4; omega,by unfold o4; omega⟩
def yZ(ns:List Node)(i u:Int):Nat:=(ns.map fun n=>if n.ar=u then jW n.aK i else 0).sum
def zV(n:Node)(ns:List Node)(i u:Int):yZ (n::ns) i u=(if n.ar=u then jW n.aK i else 0)+yZ ns i u:=by simp[yZ]
def GU{i u:Int}:∀ {ns:List Node},0<yZ ns i u->∃p e,p∈ns/\p.ar=u/\e∈p.aK/\e.ar=i
 | [],h=>by simp[yZ] at h
 |n::r,h=>by
  rw[zV] at h
  by_cases hu:n.ar=u
  ·rw[av hu] at h;rcases eL (jW n.aK i) with h0|h0
   ·obtain⟨p,e,h1,h2⟩:=GU (i:=i) (u:=u) (ns:=r) aM;exact⟨p,e,aP _ h1,h2⟩
   ·obtain⟨e,h1,h2⟩:=ua.1 h0;exact⟨n,e,aG,hu,h1,h2⟩
  ·rw[aj hu] at h;obtain⟨p,e,h1,h2⟩:=GU (i:=i) (u:=u) (ns:=r) aM;exact⟨p,e,aP _ h1,h2⟩
def Nk{l:List eM}{e:eM}(h:nJ l)(hl:∀x,l.getLast?=some x->strLt x.name e.name=true):nJ (l++[e]):=by
 unfold nJ at h ⊢;rw[cC];refine⟨h,jV _ _,fun a ha b hb=>?_⟩
 rw[bU] at hb;subst hb;cases hx:l.getLast? with
 |none=>rw[lk] at hx; subst hx; cases ha
 |some x =>
  have h1:=hl x hx;obtain⟨r,hr⟩:=ll.1 hx;subst hr;rcases bC.1 ha with ha|ha
  ·exact mZ ((cC.1 h).2.2 a ha x (bU.2 rfl)) h1
  ·rw[bU] at ha; subst ha; exact h1
def Hy{l:List Node}{e:Node}(h:ng l)(hl:∀x,l.getLast?=some x->x.ar<e.ar):ng (l++[e]):=by
 unfold ng at h ⊢;rw[cC];refine⟨h,jV _ _,fun a ha b hb=>?_⟩
 rw[bU] at hb;subst hb;cases hx:l.getLast? with
 |none=>rw[lk] at hx; subst hx; cases ha
 |some x =>
  have h1:=hl x hx;obtain⟨r,hr⟩:=ll.1 hx;subst hr;rcases bC.1 ha with ha|ha
  ·have:=(cC.1 h).2.2 a ha x (bU.2 rfl); omega
  ·rw[bU] at ha; subst ha; exact h1
structure Vh(ns:List Node)(ae:Int)(e:eM):Prop where
 there:(find ns e.ar).isSome=true
 name:dB e.name=true
 low:1<=e.ae
 high:e.ae<ae
structure th(ns:List Node)(ae:Int)(l:List eM):Prop where
 iW:nJ l
 cks:l.Pairwise fun a b=>a.ae≠b.ae
 sX:∀e,e∈l->Vh ns ae e
def th.nil(ns:List Node)(ae:Int):th ns ae []:=⟨List.Pairwise.nil,List.Pairwise.nil,fun _ h=>by cases h⟩
def th.snoc{ns:List Node}{ae:Int}{l:List eM}{e:eM}(h:th ns ae l)(he:Vh ns ae e)(hl:∀x,l.getLast?=some x->strLt x.name e.name=true)(hc:∀x,x∈l->x.ae≠e.ae):th ns ae (l++[e]) :=
 ⟨Nk h.iW hl,cC.2 ⟨h.cks,jV _ _,fun a ha b hb=>by rw[bU] at hb; subst hb; exact hc a ha⟩,fun x hx=>by
  rcases bC.1 hx with hx|hx
  ·exact h.sX x hx
  ·rw[bU] at hx; subst hx; exact he⟩
def iG{α:Type}{xs:List α}{i:Nat}{x:α}(h:xs[i]?=some x):xs.take (i+1)=xs.take i++[x]:=by rw[eU,h]; rfl
def n9{α:Type}{xs:List α}{i:Nat}{y:α}(h:(xs.take i).getLast?=some y):0<i/\(i<=xs.length->xs[i-1]?=some y):=by
 cases i with
 |zero=>simp at h
 |succ i =>
  refine⟨aM,fun hl=>?_⟩
  have hx:=ai (show i<xs.length by omega)
  rw[iG hx,List.getLast?_append,List.getLast?_singleton] at h;simpa[hx] using h
section
attribute [local irreducible] fP fm kM gK dH kr aq aL cH bP
def wV{X Y:Option (ag×aO)}{Q:ag×aO->Prop}(h:∀x,X=some x->Y=some x)(g:∃r,Q r/\X=some r):∃r,Q r/\Y=some r:=by
 obtain⟨r,g1,g2⟩:=g;exact⟨r,g1,h r g2⟩
def Fk:∀(cs:List Int)(c:Int),c∈cs->td .i (aH c) (eC cs) (eT cs)=some (some (.bool true))
 |x::cs,c,h=>by
  show bP (iq .i (aH c) (aH x)) (fun b=>zk b (some (some (.bool true))) (td .i (aH c) (eC cs) (eT cs)))=_
  by_cases hx:c=x
  ·subst hx;simp only[iq,↓reduceIte,cq,iw,uu]
  ·have:(c==x)=false:=by simpa using hx
   rw[Fk cs c ((ba.1 h).resolve_left hx)];simp only[iq,↓reduceIte,cq,this,mL]
def Vq(s:Bytes)(M:aO):aL (aq dp) 126 [.str s] M=some (.bool (dB s),M):=by
 by_cases h:s.length<=100000
 ·exact Rc s h trivial M
 ·have d:decide ((32:Int)<(s.length:Int))=true:=fZ aM
  have e:(s==[])=false:=by cases s with
   |nil=>simp at h
   |cons _ _=>rfl
  have no:dB s=false:=by
   unfold dB;have:decide ((s.length:Int)>32)=true:=d;rw[this]; simp
  rw[no];refine cO (aw ?_) M;simp only[EG,vO,e,d,EW,seval]
abbrev ZB(aa:List Node)(next ae:Int):aO:=[.cells [aV aa,.int .i64 next,.int .i64 ae]]
def anv{aa:List Node}{next ae:Int}(ha:ng aa)(hn:aa.length<=100000)(n:Node)(hl:n.aK.length<=100000) :
  ∃b:Bool,aq dp 201 [dC 0,bJ n] (ZB aa next ae)=some (.bool b,ZB aa next ae)/\(b=true->th aa ae n.aK/\n.aK.length<=64):=by
 obtain⟨Q,hQ⟩:∃Q:ag×aO->Prop,∀r,Q r↔∃b:Bool,r=(.bool b,ZB aa next ae)/\(b=true->th aa ae n.aK/\n.aK.length<=64):=⟨_,fun _=>pD⟩
 have key:∃r,Q r/\aq dp 201 [dC 0,bJ n] (ZB aa next ae)=some r:=by
  refine wV (fun x h=>aw h) ?_
  have qf:Q (.bool false,ZB aa next ae):=(hQ _).2 ⟨false,rfl,fun h=>by cases h⟩
  have hlk:lL (.bool false) false none = .bool false:=rfl;have hlk':lL (.bool false) false (some (.bool true)) = .bool true:=rfl;simp only[QK,zm,bJ,aI,EW,seval]
  refine qV (xs:=n.aK) aM (fun m cs=>cs=(n.aK.take m).map eM.ae/\th aa ae (n.aK.take m)) (fun _ i=>[(0,dC 0),(3,dC 1),(5,.gJ 2),(12,iU n.aK),(13,aH n.aK.length),(14,aH i)])
   (fun cs=>[cL [aV aa,aH next,aH ae],cL (aI n),.map (eC cs) (eT cs)]) Q (fun cs hI=>?_) (fun pre x post cs e hx cA hw h0 hm hI hi'=>?_) [] ⟨rfl,th.nil _ _⟩
  ·refine⟨(.bool (decide ((n.aK.length:Int)<=64)),ZB aa next ae),(hQ _).2 ⟨_,rfl,fun h=>⟨by have:=hI.2; rwa[bT] at this,by have:=bN h; omega⟩⟩,?_⟩
   simp only[aI];simp only[zm,aX,EW,seval]
  ·have hp:=(au.1 hx).1;have q79:=fun a b M=>Rj aa next ae x.ar ha hn 0 (cL [aV aa,aH next,aH ae]::a::b::M) rfl
   have q41:=fun M=>Vq x.name M
   simp only[aI] at hi' ⊢;cases hat:Ec aa x.ar (lx aa x.ar)
   ·exact⟨_,qf,by simp only[zm,cA,hx,hw,h0,gq,dJ,q79,hat,EW,seval]⟩
   cases no:dB x.name
   ·exact⟨_,qf,by simp only[zm,cA,hx,hw,h0,gq,dJ,q79,q41,hat,no,EW,seval]⟩
   cases b1:decide (x.ae<1)
   rotate_left
   ·exact⟨_,qf,by simp only[zm,cA,hx,hw,h0,gq,dJ,q79,q41,hat,no,b1,EW,seval]⟩
   cases b2:decide (ae<=x.ae)
   rotate_left
   ·exact⟨_,qf,by simp only[zm,cA,hx,hw,h0,gq,dJ,q79,q41,hat,no,b1,b2,EW,seval]⟩
   by_cases hc:x.ae∈cs
   ·exact⟨_,qf,by simp only[zm,cA,hx,hw,h0,gq,dJ,q79,q41,hat,no,b1,b2,mapOf,Fk _ _ hc,hlk',bkT,EW,seval]⟩
   have hth:(find aa x.ar).isSome=true:=by
    rcases rp ha x.ar with ⟨_,m,_,hm',_⟩|⟨h1,_⟩
    ·rw[hm']; rfl
    ·rw[hat] at h1; cases h1
   have hent:Vh aa ae x:=⟨hth,no,by have:=aZ b1; omega,by have:=aZ b2; omega⟩
   have hck:∀y,y∈n.aK.take pre.length->y.ae≠x.ae:=fun y hy hyc=>hc (by rw[hI.1,<-hyc]; exact cm.2 ⟨y,hy,rfl⟩)
   cases h1:decide ((0:Int)<(pre.length:Int))
   ·have hz:pre.length=0:=by have:=aZ h1; omega
    have i1:=hi' (cs++[x.ae]) ⟨by rw[iG hx,hI.1]; simp,by
     rw[iG hx];exact hI.2.snoc hent (fun y hy=>by have:=(n9 hy).1; omega) hck⟩
    simp only[zm,cA,hx,hw,h0,gq,dJ,q79,q41,hat,no,b1,b2,mapOf,A4 _ _ hc,Ds _ _ hc,hlk,bkT,h1,EW,seval];exact i1
   ·obtain⟨y,c1,c2,c3,c4⟩:=sr (xs:=n.aK) (pre:=pre) aM hp (by simpa using h1)
    cases h2:strLt y.name x.name
    ·exact⟨_,qf,by simp only[zm,cA,hx,hw,h0,gq,dJ,q79,q41,hat,no,b1,b2,mapOf,A4 _ _ hc,hlk,bkT,h1,c1,c2,c3,c4,h2,EW,seval]⟩
    have i1:=hi' (cs++[x.ae]) ⟨by rw[iG hx,hI.1]; simp,by
     rw[iG hx];refine hI.2.snoc hent (fun z hz=>?_) hck
     have:=(n9 hz).2 aM;rw[c1] at this; injection this with this; rw[<-this]; exact h2⟩
    simp only[zm,cA,hx,hw,h0,gq,dJ,q79,q41,hat,no,b1,b2,mapOf,A4 _ _ hc,Ds _ _ hc,hlk,bkT,h1,c1,c2,c3,c4,h2,EW,seval];exact i1
 obtain⟨r,h1,h2⟩:=key;obtain⟨b,rfl,h3⟩:=(hQ r).1 h1;exact⟨b,h2,h3⟩
structure aao(aa:List Node)(ae:Int)(n:Node)(many jF:Int):Prop where
 kind:n.kind=1\/n.kind=2
 file:n.kind=1->n.aK=[]/\n.up=0/\n.data.length<=4096/\n.df=many
 dir:n.kind=2->n.data=[]/\th aa ae n.aK
 root:n.kind=2->n.ar=1->n.up=1/\n.df=0/\many=0
 one:n.kind=2->n.ar≠1->many=1/\jF=n.up/\n.df=1/\∃d,chain aa d n.ar/\d<=12/\(d=12->n.aK=[])
set_option maxHeartbeats 1000000 in
def ant{aa:List Node}{next ae:Int}(ha:ng aa)(hn:aa.length<=100000)(n:Node)(hl:n.aK.length<=100000)(many jF:Int) :
  ∃b:Bool,aq dp 147 [dC 0,bJ n,aH many,aH jF] (ZB aa next ae)=some (.bool b,ZB aa next ae)/\(b=true->aao aa ae n many jF):=by
 obtain⟨bl,q,hbl⟩:=anv (next:=next) (ae:=ae) ha hn n hl
 have q108:=fun a M=>oN (M := cL [aV aa,aH next,aH ae]::a::M) (p:=0) rfl q rfl rfl rfl rfl rfl rfl rfl rfl rfl rfl
 have q44:=fun ar a M=>Rh aa next ae ar ha hn 0 (cL [aV aa,aH next,aH ae]::a::M) rfl
 simp only[bJ,aI] at q108;have qf:∀P:Prop,(false=true->P):=fun _ h=>by cases h
 by_cases hk:n.kind=1
 ·have b1:(n.kind==1)=true:=by simp[hk]
  cases b2:((n.aK.length:Int)==0)
  ·exact⟨false,(by refine aw ?_; simp only[pY,uR,bJ,aI,b1,b2,EN,seval]),qf _⟩
  cases b3:(n.up==0)
  ·exact⟨false,(by refine aw ?_; simp only[pY,uR,bJ,aI,b1,b2,b3,EN,seval]),qf _⟩
  cases b4:decide ((n.data.length:Int)<=4096)
  ·exact⟨false,(by refine aw ?_; simp only[pY,uR,bJ,aI,b1,b2,b3,b4,EN,seval]),qf _⟩
  refine⟨n.df==many,(by refine aw ?_; simp only[pY,uR,bJ,aI,b1,b2,b3,b4,EN,seval]),fun h=>⟨.inl hk,fun _=>⟨cf.1 (by have:=eq_of_beq b2; omega),eq_of_beq b3,by have:=bN b4; omega,eq_of_beq h⟩,fun h=>aM,fun h=>aM,fun h=>aM⟩⟩
 have b1:(n.kind==1)=false:=by simpa using hk
 cases b2:(n.kind != 2)
 rotate_left
 ·exact⟨false,(by refine aw ?_; simp only[pY,uR,bJ,aI,b1,b2,EN,seval]),qf _⟩
 cases b3:decide ((0:Int)<(n.data.length:Int))
 rotate_left
 ·exact⟨false,(by refine aw ?_; simp only[pY,uR,bJ,aI,b1,b2,b3,EN,seval]),qf _⟩
 cases hb:bl
 ·rw[hb] at q108;exact⟨false,(by refine aw ?_; simp only[pY,uR,bJ,aI,b1,b2,b3,q108,EN,seval]),qf _⟩
 rw[hb] at q108;obtain⟨hle,_⟩:=hbl hb;have hk2:n.kind=2:=by simpa using b2
 have hd:n.data=[]:=cf.1 (by have:=aZ b3; omega)
 by_cases h1:n.ar=1
 ·have c1:(n.ar==1)=true:=by simp[h1]
  cases c2:(n.up==1)
  ·exact⟨false,(by refine aw ?_; simp only[pY,uR,bJ,aI,b1,b2,b3,q108,c1,c2,EN,seval]),qf _⟩
  cases c3:(n.df==0)
  ·exact⟨false,(by refine aw ?_; simp only[pY,uR,bJ,aI,b1,b2,b3,q108,c1,c2,c3,EN,seval]),qf _⟩
  exact⟨many==0,(by refine aw ?_; simp only[pY,uR,bJ,aI,b1,b2,b3,q108,c1,c2,c3,EN,seval]),fun h=>⟨.inr hk2,fun h=>aM,fun _=>⟨hd,hle⟩,fun _ _=>⟨eq_of_beq c2,eq_of_beq c3,eq_of_beq h⟩,fun _ h=>absurd h1 h⟩⟩
 have c1:(n.ar==1)=false:=by simpa using h1
 cases c2:(many != 1)
 rotate_left
 ·exact⟨false,(by refine aw ?_; simp only[pY,uR,bJ,aI,b1,b2,b3,q108,c1,c2,EN,seval]),qf _⟩
 cases c3:(jF != n.up)
 rotate_left
 ·exact⟨false,(by refine aw ?_; simp only[pY,uR,bJ,aI,b1,b2,b3,q108,c1,c2,c3,EN,seval]),qf _⟩
 cases c4:(n.df != 1)
 rotate_left
 ·exact⟨false,(by refine aw ?_; simp only[pY,uR,bJ,aI,b1,b2,b3,q108,c1,c2,c3,c4,EN,seval]),qf _⟩
 have hul:∃k,(o4 aa n.ar).length=k+1/\k<=100000:=X3 aa n.ar hn;obtain⟨k,hk1,hk2'⟩:=hul;have hw:IntKind.i64.wrap (((o4 aa n.ar).length:Int)-1)=(k:Int):=by rw[hk1,gb aM aM]; omega
 obtain⟨u,hu⟩:∃u,(o4 aa n.ar)[k]?=some u:=⟨_,ai aM⟩;have w1:=xz (o4 aa n.ar);cases d0:(u==1)
 ·exact⟨false,(by refine aw ?_; simp only[pY,uR,bJ,aI,b1,b2,b3,q108,c1,c2,c3,c4,q44,hw,hu,w1,d0,EN,seval]),qf _⟩
 have hch:∃d,chain aa d n.ar/\(o4 aa n.ar).length=d+1:=by
  have:=FW (ns:=aa) aa.length n.ar [] (by
   show(o4 aa n.ar).getLast?=some 1
   rw[List.getLast?_eq_getElem?,hk1,Nat.add_sub_cancel,hu,eq_of_beq d0])
  simpa[o4] using this
 obtain⟨d,hc1,hc2⟩:=hch;have hkd:k=d:=aM;have hin:jF=n.up:=by simpa using c3
 have hma:many=1:=by simpa using c2
 have hli:n.df=1:=by simpa using c4
 have hall:∀ {P:Prop},d<=12/\(d=12->n.aK=[])->aao aa ae n many jF:=fun {P} h=>⟨.inr hk2,fun h=>aM,fun _=>⟨hd,hle⟩,fun _ h=>absurd h h1,fun _ _=>⟨hma,hin,hli,d,hc1,h⟩⟩
 cases d1:decide ((k:Int)<12)
 rotate_left
 ·exact⟨true,(by refine aw ?_; simp only[pY,uR,bJ,aI,b1,b2,b3,q108,c1,c2,c3,c4,q44,hw,hu,w1,d0,d1,EN,seval]),fun _=>hall (P:=True) ⟨by have:=bN d1; omega,fun h=>by have:=bN d1; omega⟩⟩
 cases d2:((k:Int)==12)
 ·exact⟨false,(by refine aw ?_; simp only[pY,uR,bJ,aI,b1,b2,b3,q108,c1,c2,c3,c4,q44,hw,hu,w1,d0,d1,d2,EN,seval]),qf _⟩
 exact⟨(n.aK.length:Int)==0,(by refine aw ?_; simp only[pY,uR,bJ,aI,b1,b2,b3,q108,c1,c2,c3,c4,q44,hw,hu,w1,d0,d1,d2,EN,seval]),fun h=>hall (P:=True) ⟨by have:=eq_of_beq d2; omega,fun _=>cf.1 (by have:=eq_of_beq h; omega)⟩⟩
end
def aiI(xs:List ag):kV [.arr 3 0 xs] (jb [0]) [0]=some [.arr 3 0 xs]:=rfl
def rH{P:Prop}(h:¬P):false=true↔P:=⟨fun h=>(by cases h),fun g=>absurd g h⟩
def MN{α:Type}{R:α->α->Prop}(tr:∀ {a b c},R a b->R b c->R a c){l:List α}{e:α}(h:l.Pairwise R)(hl:∀x,l.getLast?=some x->R x e):(l++[e]).Pairwise R:=by
 rw[cC];refine⟨h,jV _ _,fun a ha b hb=>?_⟩
 rw[bU] at hb;subst hb;cases hx:l.getLast? with
 |none=>rw[lk] at hx; subst hx; cases ha
 |some x =>
  have h1:=hl x hx;obtain⟨r,hr⟩:=ll.1 hx;subst hr;rcases bC.1 ha with ha|ha
  ·exact tr ((cC.1 h).2.2 a ha x (bU.2 rfl)) h1
  ·rw[bU] at ha; subst ha; exact h1
def okP(p:Piece):Prop:=(bI p.aQ).2=0/\0<=p.group/\p.group<8/\1<=p.dR/\p.dR<=1099511627776
def Dx(p:Piece):Bool:=((bI p.aQ).2 != 0)||(!Kv p.group||(decide (p.dR<1)||decide (1099511627776<p.dR)))
def MB{p:Piece}:Dx p=false↔okP p:=by
 unfold Dx okP Kv;simp only[iE,bne_eq_false_iff_eq,Bool.not_eq_false',bm,bt,eP];constructor
 ·rintro⟨a,⟨b,c⟩,d,e⟩; exact⟨a,aM,c,aM,aM⟩
 ·rintro⟨a,b,c,d,e⟩; exact⟨a,⟨aM,c⟩,aM,aM⟩
def UpN(l:List Piece)(i:Nat):Prop:=∀(j:Nat)(x y:Piece),j<i->l[j]?=some x->l[j+1]?=some y->strLt y.aQ x.aQ=false
def NeN(l:List Piece)(i:Nat):Prop:=∀(j:Nat)(x y:Piece),j+1<i->l[j]?=some x->l[j+1]?=some y->y.aQ≠x.aQ
def Vs{l:List Piece}(u:UpN l l.length)(n:NeN l l.length):l.Pairwise fun a b=>strLt a.aQ b.aQ=true:=by
 have key:∀m,m<=l.length->(l.take m).Pairwise fun a b=>strLt a.aQ b.aQ=true:=by
  intro m;induction m with
  |zero=>intro _; exact List.Pairwise.nil
  |succ m ih =>
   intro hm;have hx:=ai (show m<l.length by omega)
   rw[iG hx];refine MN (R:=fun a b:Piece=>strLt a.aQ b.aQ=true) mZ (ih aM) fun y hy=>?_
   obtain⟨h0,h1⟩:=n9 hy;have h1:=h1 aM;have hx':l[m-1+1]?=some l[m]:=by rw[show m-1+1=m by omega]; exact hx
   have a:=u (m-1) y l[m] aM h1 hx';have b:=n (m-1) y l[m] aM h1 hx';rcases oA y.aQ l[m].aQ with h|h|h
   ·exact h
   ·exact absurd h.symm b
   ·rw[a] at h; cases h
 have:=key l.length (ak _);rwa[bT] at this
section
attribute [local irreducible] fP fm kM gK dH kr aq aL cH bP
def ahJ(a b:Piece)(M:aO):aL (aq fc) 137 [.agg (cI a),.agg (cI b)] M=some (aH (Lib.compareBytes a.aQ b.aQ),M):=by
 have h:aq fc 137 [dy a,dy b] []=some (aH (Lib.compareBytes a.aQ b.aQ),[]):=by
  refine aw ?_;have q:=fun M=>lS (abG a.aQ b.aQ M)
  simp only[YL,ajB,dy,cI,q,EW,seval]
 exact cO h M
def Wg(a b:Piece)(M:aO):aL (aq fc) 141 [.agg (cI a),.agg (cI b)] M=some (.bool (a.aQ==b.aQ),M):=by
 have h:aq fc 141 [dy a,dy b] []=some (.bool (a.aQ==b.aQ),[]):=by
  refine aw ?_;simp only[YP,ajF,dy,cI,EW,seval]
 exact cO h M
def ame(p:Piece)(hp:p.aQ.length<=100000)(M:aO):aL (aq fc) 139 [.agg (cI p)] M=some (.bool (Dx p),M):=by
 have h:aq fc 139 [dy p] []=some (.bool (Dx p),[]):=by
  refine aw ?_;have q1:=Re p.aQ hp;have q2:=fun M=>lS (abH p.group M)
  unfold Dx;cases g1:(bI p.aQ).2 != 0<;>cases g2:Kv p.group<;>rw[g2] at q2<;>cases g3:decide (p.dR<1)<;>cases g4:decide (1099511627776<p.dR) <;>
  simp only[YN,ajD,dy,cI,q1,q2,g1,g3,g4,fE,dE,dL,dz,cG,dG,EW,seval]
 exact cO h M
def anp{l:List Piece}(hm:l.length<=16)(h0:0<l.length):∃b:Bool,(b=true↔UpN l l.length)/\∀M,aL (aq fc) 142 [bV l,.func 137 []] M=some (.bool b,M):=by
 have key:∀(i:Nat),i<l.length->∃b:Bool,(b=true↔UpN l i)/\∀ {k} {R:Bool->Option (ag×aO)},(∀e,kr (aq fc) [.tmp 4] 0 k ⟨.exit 0,e,[]⟩=R true)->(kr (aq fc) [.tmp 4] 0 k ⟨.ret,[(4,.bool false)],[]⟩=R false)->fP (aq fc) [.tmp 4] 0 k (.loop [0,1,5] WC) [(0,bV l),(1,.func 137 []),(5,aH i)] []=R b:=by
  intro i;induction i with
  |zero =>
   intro _;refine⟨true,⟨fun _ j x y h=>aM,fun _=>rfl⟩,fun hx _=>?_⟩
   rw[cv];simp only[M8,aX,gu,EW,seval];exact hx _
  |succ i ih =>
   intro hi;have h1:=ai hi;have h2:=ai (show i<l.length by omega)
   have g1:(0<((i+1:Nat):Int))=True:=x7;have g2:IntKind.i64.wrap (((i+1:Nat):Int)-1)=(i:Int):=by rw[gb aM aM]; omega
   have g3:(((i+1:Nat):Int)<0)=False:=GV;have g4:((i:Int)<0)=False:=GV;cases hc:strLt l[i+1].aQ l[i].aQ
   ·obtain⟨b,b1,b2⟩:=ih aM;refine⟨b,b1.trans ⟨fun u j x y hj hx hy=>?_,fun u j x y hj=>u j x y aM⟩,fun {k R} hx hr=>?_⟩
    ·rcases bK j i with h|h
     ·exact u j x y h hx hy
     ·obtain rfl:j=i:=aM;rw[h2] at hx; rw[h1] at hy;injection hx with hx; injection hy with hy
      subst hx; subst hy; exact hc
    ·have q:(Lib.compareBytes l[i+1].aQ l[i].aQ<0)=False:=by rw[xL,hc]; simp
     have i1:=b2 hx hr;rw[cv];simp only[M8,g1,g2,g3,g4,h1,h2,cS,eI,wJ,yu,bj,ahJ,q,EW,seval];exact i1
   ·refine⟨false,rH fun u=>by have:=u i _ _ aM h2 h1; rw[hc] at this; (cases this),fun {k R} hx hr=>?_⟩
    have q:(Lib.compareBytes l[i+1].aQ l[i].aQ<0)=True:=by rw[xL,hc]; simp
    rw[cv];simp only[M8,g1,g2,g3,g4,h1,h2,cS,eI,wJ,yu,bj,ahJ,q,EW,seval];exact hr
 obtain⟨b,b1,b2⟩:=key (l.length-1) aM;refine⟨b,b1.trans ⟨fun u j x y hj hx hy=>u j x y (by have:=(au.1 hy).1; omega) hx hy,fun u j x y hj=>u j x y aM⟩,fun M=>cO (aw ?_) M⟩
 have g1:IntKind.i64.wrap ((l.length:Int)-1)=((l.length-1:Nat):Int):=by rw[gb aM aM]; omega
 have i1:=fun {k R} hx hr=>b2 (k:=k) (R:=R) hx hr
 simp only[YQ,M8,g1,EW,seval];refine i1 (R:=fun b=>some (.bool b,[])) (fun e=>?_) ?_
 ·simp only[M8,EW,seval]
 ·simp only[M8,EW,seval]
def anq{l:List Piece}(hm:l.length<=16)(hp:∀p,p∈l->p.aQ.length<=100000)(M:aO):aL (aq fc) 143 [bV l,.func 139 []] M=some (.bool (l.any Dx),M):=by
 have q:∀M,aL (aq fc) 200 [bV l,.func 139 []] M=some (aH (rE Dx l 0),M):=fun M=>by
  refine cO (aw ?_) M;simp only[Za,U9,EW,seval];refine gV (xs:=l) aM (fun i (s:Nat)=>s=i) (fun post s=>rE Dx post s) (fun _ i=>[(0,bV l),(1,.func 139 []),(7,aH l.length),(8,aH i)]) (fun _=>[]) (fun z=>some (aH z,([]:aO))) (fun s _=>?_) (fun pre x post s hh hx cA hw h0 hm hs hi=>?_) 0 rfl
  ·simp only[U9,aX,rE,EW,seval]
  ·subst hs;have q:=fun M=>ame x (hp x hm) M
   have i1:=hi (pre.length+1) rfl;rw[rE];cases hc:Dx x<;>rw[hc] at q
   ·simp only[af,aC];simp only[U9,cA,hx,hw,h0,cS,eI,wJ,yu,q,EW,seval];exact i1
   ·simp only[U9,cA,hx,hw,h0,cS,eI,wJ,yu,q,aE,EW,seval]
 refine cO (aw ?_) M;rw[<-H6 Dx l];simp only[YR,ajG,q,EW,seval]
def XG(x:Piece):(cI x).all ag.plainCell=true:=rfl
def aiM(c d:Piece):putCells (dy c) 0 (cI d)=dy d:=rfl
def anr{l:List Piece}(hm:l.length<=16):∃(m:Nat) (L:List ag),aq fc 144 [.cY 0 0 3 0 l.length,.func 141 []] [.arr 3 0 (l.map dy)]=some (.cY 0 0 3 0 m,[.arr 3 0 L])/\(m=l.length↔NeN l l.length):=by
 obtain⟨Q,hQ⟩:∃Q:ag×aO->Prop,∀r,Q r↔∃(m:Nat) (L:List ag),r=(.cY 0 0 3 0 m,[.arr 3 0 L])/\(m=l.length↔NeN l l.length):=⟨_,fun _=>pD⟩
 have inner:∀(n k2 kk i:Nat)(ys:List Piece),ys.length=l.length->0<k2->0<kk->kk+1<=i+k2->i+k2+n=l.length->∃(kk':Nat) (ys':List Piece),(0<kk'/\kk'<l.length)/\ys'.length=l.length/\∀ {k r},(∀e,kr (aq fc) [.tmp 4] 1 k ⟨.exit 2,(0,.cY 0 0 3 0 l.length)::(1,.func 141 [])::(5,aH kk')::e,[.arr 3 0 (ys'.map dy)]⟩=r) ->
   fP (aq fc) [.tmp 4] 1 k (.loop [0,1,5,6,7] WD) [(0,.cY 0 0 3 0 l.length),(1,.func 141 []),(5,aH kk),(6,.cY 0 0 3 i l.length),(7,aH k2)] [.arr 3 0 (ys.map dy)]=r:=by
  intro n;induction n with
  |zero =>
   intro k2 kk i ys hy h2 h1 hk hn;refine⟨kk,ys,⟨h1,aM⟩,hy,fun {k r} hx=>?_⟩
   rw[cv];have e1:((k2:Int)<((l.length-i:Nat):Int))=False:=GV;simp only[D1,e1,EW,seval];exact hx _
  |succ n ih =>
   intro k2 kk i ys hy h2 h1 hk hn;have e1:((k2:Int)<((l.length-i:Nat):Int))=True:=x7;have g2:IntKind.i64.wrap ((k2:Int)-1)=((k2-1:Nat):Int):=by rw[gb aM aM]; omega
   have g3:IntKind.i64.wrap ((k2:Int)+1)=((k2+1:Nat):Int):=by rw[gb aM aM]; omega
   have g4:IntKind.i64.wrap ((kk:Int)+1)=((kk+1:Nat):Int):=by rw[gb aM aM]; omega
   have g5:(((k2-1:Nat):Int)<((l.length-i:Nat):Int))=True:=x7;have g6:((kk:Int)<(l.length:Int))=True:=x7;have y1:=ai (show i+k2<ys.length by omega)
   have y2:=ai (show i+(k2-1)<ys.length by omega)
   have y3:=ai (show kk<ys.length by omega)
   cases hc:(ys[i+k2].aQ==ys[i+(k2-1)].aQ)
   ·obtain⟨kk',ys',a,b,c⟩:=ih (k2+1) (kk+1) i (ys.set kk ys[i+k2]) (by simp; exact hy) aM aM aM aM
    refine⟨kk',ys',a,b,fun {k r} hx=>?_⟩
    have i1:=c hx;rw[cv];simp only[D1,cd,e1,g2,g3,g4,g5,g6,y1,y2,y3,hc,cS,eI,wJ,yu,bj,ec,aN,ak,Wg,XG,r9 ys kk _ _ 0 _ (aiM _ ys[i+k2]),EW,seval];exact i1
   ·obtain⟨kk',ys',a,b,c⟩:=ih (k2+1) kk i ys hy aM h1 aM aM;refine⟨kk',ys',a,b,fun {k r} hx=>?_⟩
    have i1:=c hx;rw[cv];simp only[D1,cd,e1,g2,g3,g4,g5,g6,y1,y2,y3,hc,cS,eI,wJ,yu,bj,ec,aN,Wg,EW,seval];exact i1
 have key:∀(n i:Nat),0<i->i+n=l.length->NeN l i->∃v,Q v/\∀ {k},(∀e,kr (aq fc) [.tmp 4] 1 k ⟨.exit 0,(0,.cY 0 0 3 0 l.length)::e,[.arr 3 0 (l.map dy)]⟩=some (.cY 0 0 3 0 l.length,[.arr 3 0 (l.map dy)]))->(∀m L,kr (aq fc) [.tmp 4] 1 k ⟨.ret,[(4,.cY 0 0 3 0 m)],[.arr 3 0 L]⟩=some (.cY 0 0 3 0 m,[.arr 3 0 L]))->fP (aq fc) [.tmp 4] 1 k (.loop [0,1,5] WE) [(0,.cY 0 0 3 0 l.length),(1,.func 141 []),(5,aH i)] [.arr 3 0 (l.map dy)]=some v:=by
  intro n;induction n with
  |zero =>
   intro i h0 hi hn;have e1:((i:Int)<(l.length:Int))=False:=GV;have:i=l.length:=aM;refine⟨(.cY 0 0 3 0 l.length,[.arr 3 0 (l.map dy)]),(hQ _).2 ⟨_,_,rfl,⟨fun _=>by rwa[this] at hn,fun _=>rfl⟩⟩,fun {k} hx _=>?_⟩
   rw[cv];simp only[D1,cd,e1,EW,seval];exact hx _
  |succ n ih =>
   intro i h0 hi hn;have hil:i<l.length:=aM;have h1:=ai hil;have h2:=ai (show i-1<l.length by omega)
   have e1:((i:Int)<(l.length:Int))=True:=x7;have g2:IntKind.i64.wrap ((i:Int)-1)=((i-1:Nat):Int):=by rw[gb aM aM]; omega
   have g3:IntKind.i64.wrap ((i:Int)+1)=((i+1:Nat):Int):=by rw[gb aM aM]; omega
   have g5:(((i-1:Nat):Int)<(l.length:Int))=True:=x7;cases q:(l[i].aQ==l[i-1].aQ)
   ·obtain⟨v,v1,v2⟩:=ih (i+1) aM aM (fun j x y hj hx hy=>by
     rcases bK (j+1) i with h|h
     ·exact hn j x y h hx hy
     ·obtain rfl:j=i-1:=aM;rw[h2] at hx; rw[show i-1+1=i by omega,h1] at hy
      injection hx with hx; injection hy with hy
      subst hx; subst hy; exact by simpa using q)
    refine⟨v,v1,fun {k} hx hr=>?_⟩
    have v2:=v2 hx hr;rw[cv];simp only[D1,cd,e1,g2,g3,g5,h1,h2,cS,eI,wJ,yu,bj,ec,aN,Wg,q,EW,seval];exact v2
   ·obtain⟨kk',ys',⟨a0,a⟩,b,c⟩:=inner n 1 i i l rfl aM h0 aM aM;have hno:¬NeN l l.length:=fun h=>h (i-1) _ _ aM h2 (by rw[show i-1+1=i by omega]; exact h1) (by simpa using q)
    have ne1:((i:Int)==(l.length:Int))=false:=by rw[ck]; omega
    have ne2:((kk':Int)==(l.length:Int))=false:=by rw[ck]; omega
    have ne3:((0:Int)==(kk':Int))=false:=by rw[ck]; omega
    have le1:((i:Int)<=(l.length:Int))=True:=x7;have le2:((kk':Int)<=(l.length:Int))=True:=x7;have i1:=fun {k r} hx=>c (k:=k) (r:=r) hx
    refine⟨_,(hQ _).2 ⟨kk',List.take kk' (ys'.map dy)++(List.replicate (l.length-kk') (.agg [.str [],aH 0,aH 0])++List.drop l.length (ys'.map dy)),rfl,⟨fun h=>aM,fun h=>absurd h hno⟩⟩,fun {k} hx hr=>?_⟩
    rw[cv];simp only[D1,cd,e1,g2,g3,g5,h1,h2,cS,eI,wJ,yu,bj,ec,aN,Wg,q,ir,ne1,le1,le2,cJ,EW,seval];refine i1 fun e=>?_
    simp only[D1,cd,ir,ne2,ne3,le1,le2,cJ,bj,ec,aN,EW,seval];exact hr _ _
 have hq:∃r,Q r/\aq fc 144 [.cY 0 0 3 0 l.length,.func 141 []] [.arr 3 0 (l.map dy)]=some r:=by
  refine wV (fun x h=>aw h) ?_
  cases hb:decide ((l.length:Int)<2)
  ·have hl:2<=l.length:=by have:=aZ hb; omega
   obtain⟨v,v1,v2⟩:=key (l.length-1) 1 aM aM (fun j x y h=>aM)
   refine⟨v,v1,?_⟩;simp only[QE,D1,cd,hb,EW,seval];refine v2 (fun e=>?_) fun m L=>?_<;>simp only[D1,EW,seval]
  ·have hl:l.length<2:=by have:=bN hb; omega
   exact⟨(.cY 0 0 3 0 l.length,[.arr 3 0 (l.map dy)]),(hQ _).2 ⟨_,_,rfl,⟨fun _ j x y h=>aM,fun _=>rfl⟩⟩,by simp only[QE,D1,cd,hb,EW,seval]⟩
 obtain⟨r,h1,h2⟩:=hq;obtain⟨m,L,rfl,h3⟩:=(hQ r).1 h1;exact⟨m,L,h2,h3⟩
def x74{l:List Piece}(_:l.length<=1000)(hp:∀p,p∈l->p.aQ.length<=100000):∃b:Bool,aq fc 74 [bV l] []=some (.bool b,[])/\(b=true↔kc l):=by
 cases b1:((l.length:Int)==0)
 rotate_left
 ·exact⟨false,(by refine aw ?_; simp only[Gv,E74,b1,EW,seval]),rH fun h=>by obtain⟨p,r,rfl,_⟩:=h.fst; simp at b1; omega⟩
 cases b2:decide ((16:Int)<(l.length:Int))
 rotate_left
 ·exact⟨false,(by refine aw ?_; simp only[Gv,E74,b1,b2,EW,seval]),rH fun h=>by have:=h.many; have:=bN b2; omega⟩
 have hm:l.length<=16:=by have:=aZ b2; omega
 obtain⟨p0,r0,hl⟩:∃r rest,l=r::rest:=by cases l with
  |nil=>simp at b1
  |cons r rest=>exact⟨r,rest,rfl⟩
 have h0:l[0]?=some p0:=by rw[hl]; rfl
 cases b3:(p0.aQ != [47])
 rotate_left
 ·exact⟨false,(by refine aw ?_; simp only[Gv,E74,b1,b2,h0,b3,cS,eI,cI,EW,seval]),rH fun h=>by obtain⟨p,r,rfl,hpp⟩:=h.fst; cases hl; rw[hpp] at b3; cases b3⟩
 obtain⟨bs,s1,q1⟩:=anp hm (by rw[hl]; simp)
 have q2:=anq hm hp;cases bs
 ·exact⟨false,(by refine aw ?_; simp only[Gv,E74,b1,b2,h0,b3,q1,cS,eI,cI,EW,seval]),rH fun h=>by
   have:=s1.2 fun j x y _ hx hy=>pN (uM h.iW hx hy aM); cases this⟩
 cases bo:l.any Dx<;>rw[bo] at q2
 rotate_left
 ·exact⟨false,(by refine aw ?_; simp only[Gv,E74,b1,b2,h0,b3,q1,q2,cS,eI,cI,EW,seval]),rH fun h=>by
   obtain⟨p,hp,ho⟩:=List.any_eq_true.1 bo; rw[MB.2 (h.ok p hp)] at ho; cases ho⟩
 have q3:=lS' (L9 (f:=145) (bytes:=32) (sz:=3) dy rfl (fun _=>rfl) aM (l:=l) (by rw[hl]; simp) aM [])
 obtain⟨m,L,c1,c2⟩:=anr hm
 have q4:aL (aq fc) 144 [.cY 0 0 3 0 l.length,.func 141 []] [.arr 3 0 (l.map dy)]=some (.cY 0 0 3 0 m,[.arr 3 0 L]) :=
  mS (ids:=[0]) rfl rfl (aiI _) rfl rfl c1 rfl rfl rfl rfl rfl
 simp only[aF,bw] at q3;refine⟨((m:Int)==(l.length:Int)),(by refine aw ?_; simp only[Gv,E74,b1,b2,h0,b3,q1,q2,q3,q4,cS,eI,cI,cd,EW,seval]),fun h=>?_,fun h=>?_⟩
 ·exact⟨⟨p0,r0,hl,by simpa using b3⟩,hm,fun p hp=>MB.1 (by have:=List.any_eq_false.1 bo p hp; simpa using this),Vs (s1.1 rfl) (c2.1 (by have:=eq_of_beq h; omega))⟩
 ·rw[c2.2 fun j x y _ hx hy e=>by have:=uM h.iW hx hy aM; rw[e,gZ] at this; cases this]; simp
end
def FI.small{l:List Piece}{t:Tree}(h:FI l t):∀x,x∈(bG l t).dV->Small ⟨x.aa,0,0⟩:=by
 intro x hx;have hs:Small t:=Rt.small h.rt;obtain⟨h1,_,_,_⟩:=IP hx;have hsub:∀n,n∈x.aa->n∈t.aa:=fun n hn=>by rw[h1] at hn; exact(fj.1 hn).1
 have fx:x.aa.length<=t.aa.length:=by rw[h1]; exact eN _ _
 exact⟨by have:=hs.aa; show x.aa.length<=100000; omega,fun n hn=>hs.aK n (hsub n hn),fun n hn=>hs.data n (hsub n hn)⟩
def FI.dV{l:List Piece}{t:Tree}(_h:FI l t):(bG l t).dV.length<=8:=bg (fg _ _) dk
section
attribute [local irreducible] fP fm kM gK dH kr aq aL cH bP
def FI.Ml{l:List Piece}{t:Tree}(h:FI l t)(g:rR)(M:aO):aL (aq dp) 30 [.agg (bL (bG l t)),.agg (bL g)] M=some (.bool (decide (bG l t=g)),M) :=
 k30 (show l.length<=1000 by have:=h.prt.many; omega) (by have:=h.dV; omega) h.small M
def FI.right{l:List Piece}{t:Tree}(h:FI l t):aq fc 31 [iV (bG l t)] []=some (.bool true,[]):=by
 obtain⟨cz,hg⟩:=h.rt;refine aw ?_
 have q1:∀M,aL (aq fc) 74 [bV l] M=some (.bool true,M):=fun M=>by
  obtain⟨b,b1,b2⟩:=x74 (l:=l) (by have:=h.prt.many; omega) h.prt.OV
  rw[b2.2 h.prt] at b1;exact cO b1 M
 have q2:=fun M=>lS (h.Df M)
 have q3:=fun M=>lS (h.wg M)
 have q4:=fun M=>lS ((h.Ml (bG l t) M).trans (by rw[fZ rfl]))
 have q5:∀M,aL (aq fc) 75 [.agg [aV t.aa,aH t.next,aH t.ae]] M=some (.bool true,M):=fun M=>lS (cO (c75 hg (Rt.small h.rt)) M)
 have q6:=k49 hg h.prt;rw[(vp hg h.prt).2 h.may] at q6;have hl:=h.dV;have hsum:((bG l t).dV.flatMap nz.aa).length<=200:=by rw[(tF hg h.prt h.may).length_eq]; exact hg.aa
 have hp:(bG l t).pieces=l:=rfl;generalize bG l t=f at *;have g1:((8:Int)<(f.dV.length:Int))=False:=GV;simp only[bL,hp] at q2 q3 q4;simp only[NW,Pq,iV,bL,hp,q1,g1,EW,seval]
 refine dj (gV (xs:=f.dV) aM (fun i (n:Nat)=>n=((f.dV.take i).flatMap nz.aa).length) (fun _ (_:Nat)=>()) (fun n i=>[(1,dC 0),(3,aH n),(20,mf f.dV),(21,aH f.dV.length),(22,aH i)])
  (fun _=>[cL [bV l,mf f.dV,aH f.next,aH f.ae]]) (fun _=>some (.bool true,[])) (fun n hn=>?_) (fun pre x post n hh hx cA hw hz hm hn hi=>?_) 0 rfl) rfl
 ·rw[bT] at hn;have g2:((200:Int)<(n:Int))=False:=GV;simp only[Pq,aX,g2,q2,q3,q4,q5,q6,EW,seval]
 ·have h1:f.dV.take (pre.length+1)=pre++[x]:=by rw[hh,show pre++x::post=(pre++[x])++post by simp]; exact oI dk
  have h2:f.dV.take pre.length=pre:=by rw[hh]; simp
  have h3:n+x.aa.length<=200:=by
   have e:(pre.flatMap nz.aa).length+x.aa.length<=(f.dV.flatMap nz.aa).length:=by rw[hh]; simp
   rw[hn,h2]; omega
  have i1:=hi (n+x.aa.length) (by rw[h1,hn,h2]; simp)
  have hw2:IntKind.i64.wrap ((n:Int)+(x.aa.length:Int))=((n+x.aa.length:Nat):Int):=by rw[gb aM aM]; omega
  simp only[Pq,cA,hx,hw,hw2,hz,lB,p7,nS,az,EW,seval];exact i1
end
section
variable {t:Tree} {cz:Int->Nat} {l:List Piece}
attribute [local irreducible] fP fm kM gK dH kr aq aL cH bP
def FI.xN(hf:FI l t)(M:aO):aL (aq dp) 76 [bV l,.agg [aV t.aa,aH t.next,aH t.ae]] M=some (.agg (bL (bG l t)),M):=by
 obtain⟨cz,h⟩:=hf.rt;have hl:=hf.prt;have hmay:=hf.may;refine cO (aw ?_) M;have hn:=h.aa;have hm:=hl.many;have q1:=ahL h hl;rw[BN h hl hmay] at q1;have hat:∀n,n∈t.aa->∃v:Nat,vn l t.aa n.ar=(v:Int)/\l[v]?=some (nB l v)/\kX l t.aa n.ar=(nB l v).group:=fun n hn=>Mc h hl hmay hn
 have hrows:∀i:Nat,((List.range i).filterMap fun(g:Nat)=>if (t.aa.filter fun n=>kX l t.aa n.ar==(g:Int)).isEmpty=true then none else some (nz.mk g (t.aa.filter fun n=>kX l t.aa n.ar==(g:Int)))).length<=i:=fun i=>bg (fg _ _) dk
 simp only[abl,E76,q1,vz,wi,EW,seval]
 refine dj (gV (xs:=List.range 8) dk (fun i (out:List nz)=>out=(List.range i).filterMap fun(g:Nat)=>if (t.aa.filter fun n=>kX l t.aa n.ar==(g:Int)).isEmpty=true then none else some ⟨g,t.aa.filter fun n=>kX l t.aa n.ar==(g:Int)⟩) (fun _ (_:List nz)=>())
  (fun _ i=>[(0,bV l),(3,dC 0),(4,dC 1),(5,dC 2),(6,nv (t.aa.map fun n=>vn l t.aa n.ar)),(7,aH i)])
  (fun out=>[cL [aV t.aa,aH t.next,aH t.ae],cL [.slice .c0 [],.slice .c0 [],aH 0,aH 0],cL [ka (l.map dy),.slice (.own 3) (out.map D5),aH t.next,aH t.ae],.tick 2 out.length])
  (fun _=>some (iV (bG l t),[])) (fun out ho=>?_) (fun pre x post out hh hx cA hw h0 hmm ho hi=>?_) [] rfl) rfl
 ·rw[jB] at ho;have ho:out=qW (fun n=>kX l t.aa n.ar) t.aa:=ho
  subst ho;have e8:(((List.range 8).length:Nat):Int)=8:=rfl;simp only[E76,e8,aX,EW,seval];rfl
 ·have hpre:pre.length<8:=by have:=congrArg List.length hh; simp at this; omega
  have hxe:x=pre.length:=by rw[eA hpre] at hx; injection hx with hx; exact hx.symm
  subst hxe;have hl8:((pre.length:Int)<8)=True:=ic;have fx:=hrows pre.length;rw[<-ho] at fx;have r1:dY (out.length+1) 32=True:=xt;have i1:=hi _ rfl;rw[kv,jo,<-ho] at i1;simp only[jR,jk] at i1;simp only[E76,hl8,vz,wi,EW,seval]
  refine dj (gV (xs:=t.aa) aM (fun j (own:List Node)=>own=(t.aa.take j).filter fun n=>kX l t.aa n.ar==((pre.length:Nat):Int)) (fun _ (_:List Node)=>())
   (fun own j=>[(0,bV l),(3,dC 0),(4,dC 1),(5,dC 2),(6,nv (t.aa.map fun n=>vn l t.aa n.ar)),(7,aH ((pre.length:Nat):Int)),(8,.slice (.own 4) (own.map bJ)),(9,aH j)])
   (fun own=>[cL [aV t.aa,aH t.next,aH t.ae],cL [.slice .c0 [],.slice .c0 [],aH 0,aH 0],cL [ka (l.map dy),.slice (.own 3) (out.map D5),aH t.next,aH t.ae],.tick 2 out.length,.tick 6 own.length])
   (fun _=>some (iV (bG l t),[])) (fun own hown=>?_) (fun pre2 n post2 own hh2 hx2 hlt2 hw2 h02 hmm2 hown hi2=>?_) [] rfl) rfl
  ·rw[bT] at hown;rw[<-hown] at i1;have wl:=Jo out;cases own with
   |nil =>
    simp only[List.isEmpty_nil,aE,cu] at i1;simp only[E76,az,aX,aF,gu,hw,EW,seval];exact i1
   |cons a b =>
    have hp:((0:Int)<((b.length+1:Nat):Int))=True:=x7;simp only[List.isEmpty_cons,af,aC,bH,a8,bE,aR,aD,aF,aN,D5,nS] at i1;simp only[E76,az,aD,aX,hp,hw,r1,wl,EW,seval];exact i1
  ·obtain⟨v,hv1,hv2,hv3⟩:=hat n hmm2;have hpl2:pre2.length<t.aa.length:=by have:=congrArg List.length hh2; simp at this; omega
   have hol:own.length<=200:=by rw[hown]; exact bg (eN _ _) ic
   have r2:dY (own.length+1) 80=True:=xt;have i2:=hi2 _ rfl;have ht1:t.aa.take (pre2.length+1)=t.aa.take pre2.length++[n]:=by rw[eU,hx2]; rfl
   rw[ht1,List.filter_append,<-hown] at i2;have g0:((v:Int)<0)=False:=dk;have gz:((0:Int)<=(v:Int))=True:=dk;have hpv:(t.aa.map fun n=>vn l t.aa n.ar)[pre2.length]?=some (v:Int):=by rw[bb,hx2]; exact congrArg some hv1
   have hpv':vn l t.aa n.ar=(v:Int):=hv1;rw[eR,hv3,List.filter_nil] at i2;cases hc:(nB l v).group==((pre.length:Nat):Int)
   ·rw[hc] at i2;simp only[af,aC,cu] at i2;simp only[E76,az,hlt2,hx2,hw2,h02,hpv',gz,g0,hv2,hc,cS,eI,cI,qv,mr,bj,cW,EW,seval];exact i2
   ·rw[hc] at i2;simp only[aE,bH,a8,bE,aR,aD,aF,aN,bJ,aI] at i2;simp only[E76,az,hlt2,hx2,hw2,h02,hpv',gz,g0,hv2,hc,r2,cS,eI,cI,qv,mr,aI,bj,cW,EW,seval];exact i2
end
def Mz{L:List Node}{last:Int}(h0:0<=last)(z:Node):(L.foldl (fa last) (0,z)).1=0\/∃x,x∈L/\L.foldl (fa last) (0,z)=(x.ar,x)/\last<x.ar:=by
 rcases Cj last h0 L (0,z) (.inl rfl) with ⟨g1,_,_⟩|⟨g1,g2,g3,_,_⟩
 ·exact .inl g1
 ·generalize L.foldl (fa last) (0,z)=r at g1 g2 g3;rcases g3 with g3|g3
  ·exact .inr ⟨r.2,g3,ig g2.symm rfl,aM⟩
  ·rw[g3] at g1;simp only at g1;omega
def xq(L:List Node)(last:Int):Nat:=(L.filter fun y=>decide (last<y.ar)).length
def XK{L:List Node}{a b:Int}(h:a<=b):xq L b<=xq L a:=by
 unfold xq;induction L with
 |nil=>exact ak _
 |cons y r ih =>
  rw[eR,eR]
  by_cases h1:b<y.ar
  ·rw[av (by simpa using h1),av ic]
   simpa using ih
  ·rw[aj (by simpa using h1)]
   split
   ·simp; omega
   ·exact ih
def MR{L:List Node}{x:Node}{last:Int}(hx:x∈L)(hl:last<x.ar):xq L x.ar<xq L last:=by
 induction L with
 |nil=>cases hx
 |cons y r ih =>
  rcases ba.1 hx with rfl|hx
  ·have:=XK (L:=r) (Int.le_of_lt hl);unfold xq at this ⊢;rw[eR,eR,aj dk,av (by simpa using hl)]
   simp; omega
  ·have:=ih hx;unfold xq at this ⊢;rw[eR,eR]
   by_cases h1:x.ar<y.ar
   ·rw[av (by simpa using h1),av ic]
    simpa using this
   ·rw[aj (by simpa using h1)]
    split
    ·simp; omega
    ·exact this
def DI(L:List Node)(last:Int):xq L last<=L.length:=eN _ _
def oW(L:List Node):Nat->Int->List Node->List Node
 |0,_,acc=>acc
 |m+1,last,acc=>if (L.foldl (fa last) (0,Node.zero)).1=0 then acc else oW L m (L.foldl (fa last) (0,Node.zero)).1 (acc++[(L.foldl (fa last) (0,Node.zero)).2])
def tq(L:List Node):List Node:=oW L (L.length+1) 0 []
def AA{L:List Node}:∀(m:Nat)(last:Int)(acc:List Node),0<=last->(oW L m last acc).length<=acc.length+xq L last/\∀n,n∈oW L m last acc->n∈acc\/n∈L
 |0,last,acc,_=>⟨by simp[oW],fun n h => .inl h⟩
 |m+1,last,acc,h0=>by
  rw[oW];rcases Mz (L:=L) h0 Node.zero with h|⟨x,hx,h,hl⟩
  ·rw[av h]; exact⟨aM,fun n h => .inl h⟩
  ·rw[h,aj (show ¬(x.ar,x).1=0 by show ¬x.ar=0; omega)]
   obtain⟨a,b⟩:=AA (L:=L) m x.ar (acc++[x]) aM;have:=MR hx hl;refine⟨by rw[aR,List.length_singleton] at a; show(oW L m x.ar (acc++[x])).length<=_; omega,fun n hn=>?_⟩
   rcases b n hn with h|h
   ·rcases bC.1 h with h|h
    ·exact .inl h
    ·rw[bU] at h; subst h; exact .inr hx
   ·exact .inr h
def JX(L:List Node):(tq L).length<=L.length:=by
 have:=(AA (L:=L) (L.length+1) 0 [] (cJ _)).1;have:=DI L 0;unfold tq;simp only[aF] at *;omega
def JY{L:List Node}{n:Node}(h:n∈tq L):n∈L:=((AA (L:=L) (L.length+1) 0 [] (cJ _)).2 n h).resolve_left dk
def CO{L ns:List Node}(ha:ng ns)(hp:L.Perm ns)(h1:∀n,n∈ns->1<=n.ar):tq L=ns:=by
 have key:∀(post pre:List Node)(last:Int)(m:Nat),ns=pre++post->0<=last->(∀x,x∈pre->x.ar<=last)->(∀x,x∈post->last<x.ar)->post.length<m->oW L m last pre=ns:=by
  intro post;induction post with
  |nil =>
   intro pre last m he h0 hlo hhi hm;have hnx:=MA ha hp he h0 hlo hhi Node.zero;simp only at hnx
   match m,hm with
   |m+1,_ =>
    rw[oW,hnx,av rfl,he,cu]
  |cons x post ih =>
   intro pre last m he h0 hlo hhi hm;have hnx:=MA ha hp he h0 hlo hhi Node.zero;simp only at hnx;have hx1:=hhi x aG
   match m,hm with
   |m+1,hm =>
    rw[oW,hnx,aj (show ¬(x.ar,x).1=0 by show ¬x.ar=0; omega)]
    have ha':=ha;rw[he] at ha';obtain⟨_,a2,a3⟩:=cC.1 ha';refine ih (pre++[x]) x.ar m (by rw[he]; simp) aM (fun y hy=>?_) (fun y hy=>(bR.1 a2).1 y hy) (by simp at hm; omega)
    rcases bC.1 hy with hy|hy
    ·exact Int.le_of_lt (a3 y hy x aG)
    ·rw[bU.1 hy]; exact cJ _
 exact key ns [] 0 (L.length+1) rfl (cJ _) dk (fun x hx=>by have:=h1 x hx; omega) (by rw[hp.length_eq]; omega)
def LW{f:rR}{ns:List Node}(hr:Rg ⟨ns,f.next,f.ae⟩)(hl:kc f.pieces)(hm:rO f.pieces ns)(hs:f=bG f.pieces ⟨ns,f.next,f.ae⟩):Hh f:=⟨⟨ns,f.next,f.ae⟩,_,hr.abw,hl,hm,hs⟩
def zh:List ag:=[.int .i64 0,.int .i64 0,.int .i64 0,.slice .c0 [],.slice .c0 [],.int .i64 0]
def NB(s:Int×Node)(B:List ag):Prop:=(B=zh/\s.1=0)\/B=aI s.2
def NB.step{s:Int×Node}{B:List ag}(last:Int)(x:Node)(h:NB s B):NB (fa last s x) (if decide (last<x.ar)&&(s.1==0||decide (x.ar<s.1)) then aI x else B):=by
 unfold fa;split
 ·exact .inr rfl
 ·exact h
section
attribute [local irreducible] fP fm kM gK dH kr aq aL cH bP
def Xb{f:rR}{i:Nat}{x:nz}{last:Int}{A:dg}(acc:List Node){k:List K}{r:Option (ag×aO)}(s0:Int×Node)(B0:List ag)(hb0:NB s0 B0)(hx:f.dV[i]?=some x)(hl:x.aa.length<=1000)
  (hA:∀B M,dg.back B M A=A)
  (hk:∀B z,NB (x.aa.foldl (fa last) s0) B->kr (aq dp) [.fI 2 3] 0 k ⟨.exit 4,(1,dC 0)::(2,dC 1)::(3,dC 2)::(4,aH last)::(5,aH (x.aa.foldl (fa last) s0).1)::(6,dC 4)::(7,aH i)::z,[cL (bL f),A,cL [.slice (.own 3) (acc.map bJ),aH f.next,aH f.ae],.tick 6 acc.length,.cells B]⟩=r) :
  fP (aq dp) [.fI 2 3] 0 k (.loop [1,2,3,4,5,6,7,8] adg) [(1,dC 0),(2,dC 1),(3,dC 2),(4,aH last),(5,aH s0.1),(6,dC 4),(7,aH i),(8,aH 0)] [cL (bL f),A,cL [.slice (.own 3) (acc.map bJ),aH f.next,aH f.ae],.tick 6 acc.length,.cells B0]=r:=by
 refine gV (xs:=x.aa) aM (fun j (s:(Int×Node)×List ag)=>NB s.1 s.2/\s.1=(x.aa.take j).foldl (fa last) s0) (fun _ (_:(Int×Node)×List ag)=>()) (fun s j=>[(1,dC 0),(2,dC 1),(3,dC 2),(4,aH last),(5,aH s.1.1),(6,dC 4),(7,aH i),(8,aH j)])
  (fun s=>[cL (bL f),A,cL [.slice (.own 3) (acc.map bJ),aH f.next,aH f.ae],.tick 6 acc.length,.cells s.2]) (fun _=>r) (fun s hs=>?_) (fun pre n post s hh hz cA hw hz0 hm hs hi=>?_) (s0,B0) ⟨hb0,rfl⟩
 ·obtain⟨s,B⟩:=s;obtain⟨hs1,hs2⟩:=hs;rw[bT] at hs2;simp only at hs1 hs2;subst hs2;have g0:((i:Int)<0)=False:=dk;simp only[bL] at hk ⊢;simp only[UY,hx,g0,lB,p7,nS,bj,aX,EW,seval];exact hk B _ hs1
 ·obtain⟨⟨b,y⟩,B⟩:=s;obtain⟨hs1,hs2⟩:=hs;simp only at hs1 hs2;have ht:(x.aa.take (pre.length+1)).foldl (fa last) s0=fa last (b,y) n:=by rw[hs2,eU,hz,kQ]; rfl
  have g0:((i:Int)<0)=False:=dk;have hst:=hs1.step last n;simp only[bL] at hi ⊢;cases h1:decide (last<n.ar)<;>cases h2:b==0<;>cases h3:decide (n.ar<b) <;>
  simp only[h1,h2,h3,dz,fE,fW,di,aE,af,aC] at hst <;>
  have i1:=hi (fa last (b,y) n,_) ⟨hst,ht.symm⟩ <;>
  simp only[fa,h1,h2,h3,dz,fE,fW,di,aE,af,aC] at i1 <;>
  rcases hs1 with ⟨rfl,-⟩|rfl <;>
  simp only[zh,aI] at i1 ⊢ <;>
  simp only[UY,hx,cA,hz,hw,hz0,g0,h1,h2,h3,hA,mo bJ 6 (fun _=>rfl) acc,lB,p7,nS,bJ,aI,bj,EW,seval]<;>exact i1
def Xc{f:rR}{last:Int}{A:dg}(acc:List Node){k:List K}{r:Option (ag×aO)}(hn:f.dV.length<=1000)(hl:∀x,x∈f.dV->x.aa.length<=1000)
  (hA:∀B M,dg.back B M A=A)
  (hk:∀B z,NB ((f.dV.flatMap nz.aa).foldl (fa last) (0,Node.zero)) B->kr (aq dp) [.fI 2 3] 0 k ⟨.exit 2,(1,dC 0)::(2,dC 1)::(3,dC 2)::(4,aH last)::(5,aH ((f.dV.flatMap nz.aa).foldl (fa last) (0,Node.zero)).1)::(6,dC 4)::z,[cL (bL f),A,cL [.slice (.own 3) (acc.map bJ),aH f.next,aH f.ae],.tick 6 acc.length,.cells B]⟩=r) :
  fP (aq dp) [.fI 2 3] 0 k (.loop [1,2,3,4,5,6,7] adh) [(1,dC 0),(2,dC 1),(3,dC 2),(4,aH last),(5,aH 0),(6,dC 4),(7,aH 0)] [cL (bL f),A,cL [.slice (.own 3) (acc.map bJ),aH f.next,aH f.ae],.tick 6 acc.length,.cells zh]=r:=by
 refine gV (xs:=f.dV) aM (fun j (s:(Int×Node)×List ag)=>NB s.1 s.2/\s.1=((f.dV.take j).flatMap nz.aa).foldl (fa last) (0,Node.zero)) (fun _ (_:(Int×Node)×List ag)=>()) (fun s j=>[(1,dC 0),(2,dC 1),(3,dC 2),(4,aH last),(5,aH s.1.1),(6,dC 4),(7,aH j)])
  (fun s=>[cL (bL f),A,cL [.slice (.own 3) (acc.map bJ),aH f.next,aH f.ae],.tick 6 acc.length,.cells s.2]) (fun _=>r) (fun s hs=>?_) (fun pre x post s hh hz cA hw hz0 hm hs hi=>?_) ((0,Node.zero),zh) ⟨.inl ⟨rfl,rfl⟩,rfl⟩
 ·obtain⟨s,B⟩:=s;obtain⟨hs1,hs2⟩:=hs;rw[bT] at hs2;simp only at hs1 hs2;subst hs2;simp only[bL] at hk ⊢;simp only[UY,aX,EW,seval];exact hk B _ hs1
 ·obtain⟨s,B⟩:=s;obtain⟨hs1,hs2⟩:=hs;simp only at hs1 hs2;have ht:((f.dV.take (pre.length+1)).flatMap nz.aa).foldl (fa last) (0,Node.zero)=x.aa.foldl (fa last) s:=by rw[hs2,eU,hz,lJ,kQ]; simp
  have la:=fun {k r} hk=>Xb (f:=f) (i:=pre.length) (x:=x) (last:=last) (A:=A) (k:=k) (r:=r) acc s B hs1 hz (hl x hm) hA hk
  simp only[bL] at hi la ⊢;simp only[UY,cA,hA,mo bJ 6 (fun _=>rfl) acc,EW,seval]
  refine la (fun B' z hB'=>?_)
  have i1:=hi (x.aa.foldl (fa last) s,B') ⟨hB',ht.symm⟩;rcases hB' with ⟨rfl,-⟩|rfl<;>simp only[zh,aI] at i1 ⊢ <;>
  simp only[UY,hw,hA,mo bJ 6 (fun _=>rfl) acc,EW,seval] <;>
  exact i1
def w23{f:rR}(fx:(f.dV.flatMap nz.aa).length<=1000)(hn:f.dV.length<=1000):aq dp 23 [iV f] []=some (bD ⟨tq (f.dV.flatMap nz.aa),f.next,f.ae⟩,[]):=by
 refine aw ?_;have hlx:∀x,x∈f.dV->x.aa.length<=1000:=fun x hx=>bg (List.sublist_flatten_of_mem (cm.2 ⟨x,hx,rfl⟩)).length_le (by rw[List.flatMap] at fx; exact fx)
 have wn:∀l:List Node,wid (l.map bJ) 6=True:=mo bJ _ fun _=>rfl
 have key:∀(m:Nat)(last:Int)(acc:List Node),xq (f.dV.flatMap nz.aa) last<m->0<=last->acc.length+xq (f.dV.flatMap nz.aa) last<=1000 ->
   fP (aq dp) [.fI 2 3] 0 [.block 0] (.loop [1,2,3,4] adi) [(1,dC 0),(2,dC 1),(3,dC 2),(4,aH last)] [cL [bV f.pieces,mf f.dV,aH f.next,aH f.ae],cL [.slice .c0 [],aH 0,aH 0],cL [.slice (.own 3) (acc.map bJ),aH f.next,aH f.ae],.tick 6 acc.length]=some (bD ⟨oW (f.dV.flatMap nz.aa) m last acc,f.next,f.ae⟩,[]):=by
  intro m;induction m with
  |zero=>intro last acc h; omega
  |succ m ih =>
   intro last acc hm h0 ha;have lb:=fun {k r} hk=>Xc (f:=f) (last:=last) (A := cL [.slice .c0 [],aH 0,aH 0]) (acc:=acc) (k:=k) (r:=r) hn hlx (fun _ _=>rfl) hk
   have hnx:=Mz (L:=f.dV.flatMap nz.aa) h0 Node.zero;rw[oW];generalize hL:f.dV.flatMap nz.aa=L at *;rcases hnx with hnx|⟨x,hx,hnx,hx1⟩
   ·rw[cv,av hnx];simp only[bL,zh] at lb;simp only[UY,EW,seval];refine lb (fun B z hB=>?_)
    rw[hnx];simp only[UY,wn,an,iw,EW,seval];rfl
   ·rw[hnx] at lb ⊢;have hx0:(x.ar==0)=false:=by rw[ck]; omega
    have hrl:=MR hx hx1;have r1:dY (acc.length+1) 80=True:=xt;have i1:=ih x.ar (acc++[x]) aM aM ic;rw[cv,aj (by simpa using hx0)]
    simp only[bL,zh] at lb;simp only[UY,EW,seval];refine lb (fun B z hB=>?_)
    rcases hB with ⟨-,hB⟩|rfl
    ·simp only at hB; omega
    simp only[bH,a8,bE,aR,aD,aF,aN,bJ,aI] at i1;simp only[aI];simp only[UY,hx0,wn,r1,bJ,aI,EW,seval];exact i1
 simp only[aa9,UY,iV,bL,vz,wi,EW,seval];have k0:=key ((f.dV.flatMap nz.aa).length+1) 0 [] (by have:=DI (f.dV.flatMap nz.aa) 0; omega) (cJ _) (by have:=DI (f.dV.flatMap nz.aa) 0; simp only[aF]; omega)
 simp only[bE,aF] at k0;exact k0
def c23{f:rR}{ns:List Node}(hns:ng ns)(hp:(f.dV.flatMap nz.aa).Perm ns)(hl:ns.length<=1000)(hn:f.dV.length<=1000)(h1:∀n,n∈ns->1<=n.ar):aq dp 23 [iV f] []=some (bD ⟨ns,f.next,f.ae⟩,[]):=by
 rw[w23 (by rw[hp.length_eq]; exact hl) hn,CO hns hp h1]
end
def FI.aa1{l:List Piece}{t:Tree}(h:FI l t):aq dp 23 [iV (bG l t)] []=some (bD t,[]):=by
 obtain⟨cz,hg⟩:=h.rt;have hn:=hg.aa;refine c23 (f:=bG l t) hg.jK.iW (tF hg h.prt h.may) aM ?_ ?_
 ·have:(qW (fun n=>kX l t.aa n.ar) t.aa).length<=8:=bg (fg _ _) dk
  show(qW (fun n=>kX l t.aa n.ar) t.aa).length<=1000
  omega
 ·intro n hm;exact(hg.num _ _ ((fp hg.jK.iW).2 ⟨hm,rfl⟩)).1
def FI.xT{l:List Piece}{t:Tree}(h:FI l t)(M:aO):aL (aq dp) 23 [.agg (bL (bG l t))] M=some (.agg [aV t.aa,aH t.next,aH t.ae],M):=vT h.aa1 rfl rfl rfl rfl rfl M
def XH(n:Nat):decide ((0:Int)<(n:Int))=decide (0<n):=dk
section
attribute [local irreducible] fP fm kM gK dH kr aq aL cH bP
def amg(o:qm)(M:aO):aL (aq dp) 154 [.agg (fD o)] M=some (.bool (decide (1<=o.kind)&&decide (o.kind<=7)),M):=by
 refine cO (aw ?_) M
 by_cases h:1<=o.kind/\o.kind<=7
 ·have h2:(decide (1<=o.kind)&&decide (o.kind<=7))=true:=by simp[h]
  rw[h2];rcases(show o.kind=1\/o.kind=2\/o.kind=3\/o.kind=4\/o.kind=5\/o.kind=6\/o.kind=7 by omega) with g|g|g|g|g|g|g <;>
  simp only[QG,aez,fD,g,EW,seval]<;>rfl
 ·have h2:(decide (1<=o.kind)&&decide (o.kind<=7))=false:=by
   rw[mO]; intro hh; simp at hh; exact h hh
  have g1:(o.kind==1)=false:=by rw[ck]; omega
  have g2:(o.kind==2)=false:=by rw[ck]; omega
  have g3:(o.kind==3)=false:=by rw[ck]; omega
  have g4:(o.kind==4)=false:=by rw[ck]; omega
  have g5:(o.kind==5)=false:=by rw[ck]; omega
  have g6:(o.kind==6)=false:=by rw[ck]; omega
  have g7:(o.kind==7)=false:=by rw[ck]; omega
  rw[h2];simp only[QG,aez,fD,g1,g2,g3,g4,g5,g6,g7,EW,seval]
def ahP(s:Bytes)(hs:s.length<=100000)(M:aO):aL (aq dp) 207 [.str s] M=some (.bool ((gh s).2.2==0),M):=by
 refine cO (aw ?_) M;have q:=Rb s hs;simp only[Ze,ajP,q,EW,seval]
def amh{l:List Piece}{t:Tree}(hf:FI l t)(o:qm)(ho:Ca o)(M:aO):aL (aq dp) 155 [.agg (bL (bG l t)),.agg [aV t.aa,aH t.next,aH t.ae],.agg (fD o)] M=some (.bool (vR l t o),M):=by
 refine cO (aw ?_) M;have ht:Rt t:=hf.rt;have hp:o.aQ.length<=100000:=by have:=ho.aQ; omega
 have hp2:o.rj.length<=100000:=by have:=ho.rj; omega
 have q1:=Rk t o.aQ ht.small hp;have q2:=ahP o.aQ hp;have q3:=ahP o.rj hp2;obtain⟨r1,hr1,q4⟩:=ahQ hf.prt o.aQ hp;obtain⟨r2,hr2,q5⟩:=ahQ hf.prt o.rj hp2;have hpc:(bG l t).pieces=l:=rfl;have hbp:nj l o.aQ<=l.length:=kH;have hbt:nj l o.rj<=l.length:=kH;have hm:=hf.prt.many;unfold vR;rw[<-hr1,<-hr2];generalize bG l t=f at hpc ⊢;generalize eW t o.aQ=v at q1 ⊢
 by_cases k4:o.kind=4
 ·rw[av k4];cases h1:v.2==0<;>cases h2:(gh o.aQ).2.2==0<;>rw[h2] at q2 <;>
  simp only[L2,Z9,bL,fD,hpc,q1,q2,q4,k4,h1,h2,bne,XH,b9,cp,di,EW,seval]
 rw[aj k4]
 by_cases k5:o.kind=5
 ·rw[av k5];have hw:IntKind.i64.wrap ((r1.length:Int)+(r2.length:Int))=((r1.length+r2.length:Nat):Int):=by rw[gb aM aM]; omega
  cases h1:v.2==0<;>cases h2:(gh o.aQ).2.2==0<;>cases h3:(gh o.rj).2.2==0<;>rw[h2] at q2<;>rw[h3] at q3 <;>
  simp only[L2,Z9,bL,fD,hpc,q1,q2,q3,q4,q5,k5,h1,h2,h3,hw,bne,XH,b9,cp,di,EW,seval]
 rw[aj k5];have g4:(o.kind==4)=false:=by rw[ck]; omega
 have g5:(o.kind==5)=false:=by rw[ck]; omega
 simp only[L2,Z9,bL,fD,q1,g4,g5,bne,EW,seval]
def Fi{t:Tree}{cz:Int->Nat}{l:List Piece}(h:cF t cz 0)(hl:kc l):Ov l t=(kU l t.aa).2:=by
 rw[er,IL h hl,vp h hl]
def c86{l:List Piece}{t:Tree}{o:qm}(hf:FI l t)(ho:Ca o):aq dp 86 [iV (bG l t),.agg (fD o)] []=some (.tuple [.agg (bL (bG l (vL l t o).1)),.agg (ga (vL l t o).2)],[]):=by
 refine aw ?_;have q0:=amg o
 by_cases hkk:(decide (1<=o.kind)&&decide (o.kind<=7))=true
 rotate_left
 ·have hkf:(decide (1<=o.kind)&&decide (o.kind<=7))=false:=by simpa using hkk
  have hkb:ug o=false:=by unfold ug; rw[hkf]; rfl
  have hd:vL l t o=(t,nD 1):=by unfold vL; rw[av hkb]
  rw[hd];rw[hkf] at q0;generalize bG l t=f;simp only[fD] at q0;simp only[HY,E86,iV,bL,fD,q0,ga,nD,EW,seval];rfl
 rw[hkk] at q0;cases c0:decide (0<=o.kD)
 ·have hkb:ug o=false:=by unfold ug; rw[c0]; simp
  have hd:vL l t o=(t,nD 1):=by unfold vL; rw[av hkb]
  have c0':decide (o.kD<0)=true:=by simpa using c0
  rw[hd];generalize bG l t=f;simp only[fD] at q0;simp only[HY,E86,iV,bL,fD,q0,c0',ga,nD,EW,seval];rfl
 cases c1:decide (o.kD<16)
 ·have hkb:ug o=false:=by unfold ug; rw[c1]; simp
  have hd:vL l t o=(t,nD 1):=by unfold vL; rw[av hkb]
  have c0':decide (o.kD<0)=false:=by simpa using c0
  have c1':decide (16<=o.kD)=true:=by simpa using c1
  rw[hd];generalize bG l t=f;simp only[fD] at q0;simp only[HY,E86,iV,bL,fD,q0,c0',c1',ga,nD,EW,seval];rfl
 have c0':decide (o.kD<0)=false:=by simpa using c0
 have c1':decide (16<=o.kD)=false:=by simpa using c1
 have hkb:ug o=true:=by unfold ug; rw[hkk,c0,c1]; rfl
 have q1:=hf.xT;have q2:=amh hf o ho;cases hb:vR l t o<;>rw[hb] at q2
 rotate_left
 ·have hd:vL l t o=(t,nD 180):=by unfold vL; rw[aj (by simp[hkb]),av hb]
  rw[hd];generalize bG l t=f at *;simp only[fD,bL] at q0 q1 q2;simp only[HY,E86,iV,bL,fD,q0,q1,q2,c0',c1',ga,nD,EW,seval];rfl
 have hkr:1<=o.kind/\o.kind<=7:=by simpa using hkk
 have q3:=fun M=>cO (hf.plain o ho hkr) M
 obtain⟨cz,hg⟩:=hf.rt;have hml:=Po t o;cases he:(fQ t o).2.2 != 0
 rotate_left
 ·have hd:vL l t o=(t,nD (fQ t o).2.2):=by unfold vL; rw[aj (by simp[hkb]),aj (by simp[hb]),av he]
  have hpl:tg t o=(t,nD (fQ t o).2.2):=by unfold tg; rw[av he]
  rw[hd];rw[hpl] at q3;generalize bG l t=f at *;simp only[zF,fD,bL,bD,aY,ub,ga,nD] at q0 q1 q2 q3;simp only[HY,E86,iV,bL,fD,q0,q1,q2,q3,c0',c1',he,ga,nD,EW,seval];rfl
 have hpl:tg t o=(gS (fQ t o).1,(fQ t o).2.1):=by unfold tg; rw[aj (by simp[he])]
 obtain⟨dep',h1⟩:=D0 hg o;have h2:cF (gS (fQ t o).1) dep' 0:=sM (fQ t o).1.aa _ h1;rw[hpl] at q3;have hpc:(bG l t).pieces=l:=rfl;have hdo:=hf.do o
 have hae:((fQ t o).2.1.err != 0)=false:=by rw[hml.1]; rfl
 have q4:=k81 h2 hf.prt;rw[Fi h2 hf.prt] at q4;cases hm:(kU l (gS (fQ t o).1).aa).2<;>rw[hm] at q4
 ·have hd:vL l t o=(t,nD 91):=by unfold vL; rw[aj (by simp[hkb]),aj (by simp[hb]),aj (by simp[he]),av hm]
  rw[hd];generalize bG l t=f at *;generalize gS (fQ t o).1=u at *;generalize (fQ t o).2.1=a at *;simp only[zF,fD,bL,bD,aY,ub,ga,hpc] at q0 q1 q2 q3 q4;simp only[HY,E86,iV,bL,fD,q0,q1,q2,q3,q4,c0',c1',hae,hpc,ga,nD,EW,seval];rfl
 ·have hd:vL l t o=(gS (fQ t o).1,(fQ t o).2.1):=by unfold vL; rw[aj (by simp[hkb]),aj (by simp[hb]),aj (by simp[he]),aj (by simp[hm])]
  rw[hd] at hdo ⊢;have q5:=hdo.xN;generalize bG l t=f at *;simp only at q5 ⊢;generalize gS (fQ t o).1=u at *;generalize (fQ t o).2.1=a at *;generalize bG l u=F at *;simp only[zF,fD,bL,bD,aY,ub,ga,hpc] at q0 q1 q2 q3 q4 q5;simp only[HY,E86,iV,bL,fD,q0,q1,q2,q3,q4,q5,c0',c1',hae,hpc,ga,EW,seval]
def c83{l:List Piece}{t:Tree}(hf:FI l t)(s:Bytes)(hs:s.length<=100000)(g:Int):aq dp 83 [iV (bG l t),.str s,aH g] []=some (.tuple [.agg (bL (bG (vj l t s g).1 t)),aH (vj l t s g).2],[]):=by
 refine aw ?_;have hR:Rt t:=hf.rt;have hn:=hR.sz.aa;obtain⟨cz,hg⟩:=hf.rt;have q1:=hf.xT;have q2:=Rk t s hR.small hs;have q4:=fun M=>cO (akW hf.prt s hs g) M
 have hpc:(bG l t).pieces=l:=rfl;have hcut:=hf.cut s g;have hpr:=Cd (s:=s) (to:=g) hf.prt;unfold vj at hcut ⊢;have q3:∀M,aL (aq dp) 26 [.agg [aV t.aa,aH t.next,aH t.ae],aH (eW t s).1] M=some (.tuple [bJ (bO t.aa (eW t s).1),.bool (find t.aa (eW t s).1).isSome],M):=Ha t.aa t.next t.ae (eW t s).1 aM
 generalize eW t s=v at q2 q3 hcut ⊢;cases h1:v.2 != 0
 rotate_left
 ·simp only[aE];generalize bG l t=f at *;simp only[bL] at q1;simp only[N1,E83,iV,bL,q1,q2,h1,EW,seval]
  all_goals rfl
 generalize bO t.aa v.1=n at q3 hcut ⊢;simp only[bJ,aI] at q3;cases h2:n.kind != 2
 rotate_left
 ·simp only[aE,af,aC];generalize bG l t=f at *;simp only[bL] at q1;simp only[N1,E83,iV,bL,q1,q2,q3,h1,h2,EW,seval]
  all_goals rfl
 have q5:=k81 hg hpr;rw[Fi hg hpr] at q5;cases h3:(vi l s g).2 != 0
 rotate_left
 ·simp only[aE,af,aC];generalize vi l s g=c at *;generalize bG l t=f at *;simp only[bL,hpc] at q1;simp only[N1,E83,iV,bL,hpc,q1,q2,q3,q4,h1,h2,h3,EW,seval]
  all_goals rfl
 cases h4:(kU (vi l s g).1 t.aa).2<;>rw[h4] at q5
 ·simp only[aE,af,aC];generalize vi l s g=c at *;generalize bG l t=f at *;simp only[bL,hpc] at q1;simp only[N1,E83,iV,bL,hpc,q1,q2,q3,q4,q5,h1,h2,h3,EW,seval]
  all_goals rfl
 ·simp only[h1,h2,h3,h4,aE,af,aC,Bool.true_eq_false] at hcut ⊢;have q6:=hcut.xN;generalize vi l s g=c at *;generalize bG c.1 t=F at *;generalize bG l t=f at *;simp only[bL,hpc] at q1;simp only[bL] at q6;simp only[N1,E83,iV,bL,hpc,q1,q2,q3,q4,q5,q6,h1,h2,h3,EW,seval]
  all_goals rfl
def c84{l:List Piece}{t:Tree}(hf:FI l t)(s:Bytes)(hs:s.length<=100000):aq dp 84 [iV (bG l t),.str s] []=some (.tuple [.agg (bL (bG (mW l s).1 t)),aH (mW l s).2],[]):=by
 refine aw ?_;have q1:=hf.xT;have q4:=fun M=>cO (akX hf.prt s hs) M
 have hpc:(bG l t).pieces=l:=rfl;have q6:=(hf.join s).xN;have hje:=Ic (l:=l) (s:=s);generalize mW l s=c at *;cases h3:c.2 != 0
 ·have h3':c.2=0:=by simpa using h3
  rw[h3'];generalize bG c.1 t=F at *;generalize bG l t=f at *;simp only[bL,hpc] at q1;simp only[bL] at q6;simp only[abm,E84,iV,bL,hpc,q1,q4,q6,h3,EW,seval]
  all_goals rfl
 ·rw[hje (by simpa using h3)]
  generalize bG l t=f at *;simp only[bL] at q1;simp only[abm,E84,iV,bL,hpc,q1,q4,h3,EW,seval]
  all_goals rfl
def c85{l:List Piece}{t:Tree}(hf:FI l t)(s:Bytes)(hs:s.length<=100000)(g:Int):aq dp 85 [iV (bG l t),.str s,aH g] []=some (.tuple [.agg (bL (bG (nV l s g).1 t)),aH (nV l s g).2],[]):=by
 refine aw ?_;have q1:=hf.xT;have q4:=fun M=>cO (akY hf.prt s hs g) M
 have hpc:(bG l t).pieces=l:=rfl;have q6:=(hf.move s g).xN;have hje:=IQ (l:=l) (s:=s) (g:=g);generalize nV l s g=c at *;cases h3:c.2 != 0
 ·have h3':c.2=0:=by simpa using h3
  generalize bG c.1 t=F at *;generalize bG l t=f at *;simp only[bL,hpc] at q1;simp only[bL] at q6;simp only[abn,E85,iV,bL,hpc,q1,q4,q6,h3',an,EW,seval]
 ·rw[hje (by simpa using h3)]
  generalize bG l t=f at *;simp only[abn,E85,iV,bL,hpc,q4,h3,EW,seval]
def c33{g:Int}(hg:nU g=true):aq dp 33 [aH g] []=some (iV (bG (sI g) p8),[]):=by
 refine aw ?_;have q:=(FI.new hg).xN;have q1:=k41;have q2:=k29 g;generalize bG (sI g) p8=F at *;simp only[bD,aY,bL] at q q1;simp only[agX,E33,iV,bL,q,q1,q2,EW,seval]
def k61{a b:List Piece}(hn:a.length<=1000)(M:aO):aL (aq dp) 61 [bV a,bV b] M=some (.bool (decide (a=b)),M):=by
 refine cO (aw ?_) M;cases h0:(a.length:Int) != (b.length:Int)
 ·simp only[abh,E61,h0,EW,seval];refine Cg (by simp at h0; omega) aM (fun i=>[(0,bV a),(1,bV b),(5,aH i)]) [] ?_ (fun i x y hx hy l1 l2 hw hz _ R h1 h2=>?_)
  ·simp only[E61,aX,EW,seval]
  ·cases hc:decide (x=y)<;>simp only[E61,l1,l2,hx,hy,hw,hz,cS,eI,wJ,agC,Yf,hc,cG,dG,EW,seval]
   ·exact h1 hc
   ·exact h2 hc
 ·simp only[abh,E61,h0,Mq h0,EW,seval]
def aib(x y:nz):decide (x=y)=(x.group==y.group&&decide (x.aa=y.aa)):=by
 obtain⟨a,b⟩:=x;obtain⟨c,d⟩:=y;rw[er]; simp
def k18{f g:rR}(hp:f.pieces.length<=1000)(hl:f.dV.length<=1000)(hs:∀x,x∈f.dV->Small ⟨x.aa,0,0⟩)(M:aO):aL (aq dp) 18 [.agg (bL f),.agg (bL g)] M=some (.bool (decide (f=g)),M):=by
 refine cO (aw ?_) M;have q1:=k61 (b:=g.pieces) hp;rw[agH];cases h3:decide (f.pieces=g.pieces)<;>rw[h3] at q1
 ·simp only[NV,Ya,bL,q1,cp,di,EW,seval]
 cases h1:f.next==g.next<;>have h1':(f.next != g.next) = !(f.next==g.next):=rfl<;>rw[h1] at h1'
 ·simp only[NV,Ya,bL,q1,h1',cp,dG,EW,seval]
 cases h2:f.ae==g.ae<;>have h2':(f.ae != g.ae) = !(f.ae==g.ae):=rfl<;>rw[h2] at h2'
 ·simp only[NV,Ya,bL,q1,h1',h2',cp,di,dG,cG,EW,seval]
 cases h0:(f.dV.length:Int) != (g.dV.length:Int)
 ·simp only[NV,Ya,bL,q1,h1',h2',h0,b9,cG,EW,seval];refine Cg (a:=f.dV) (b:=g.dV) (by simp at h0; omega) aM (fun i=>[(2,dC 0),(3,dC 1),(5,aH i)]) [cL [bV f.pieces,mf f.dV,aH f.next,aH f.ae],cL [bV g.pieces,mf g.dV,aH g.next,aH g.ae]] ?_ (fun i x y hx hy l1 l2 hw hz hm R r1 r2=>?_)
  ·simp only[Ya,aX,EW,seval]
  ·have h:=hs x hm;have q:=k22 x.aa y.aa h.aa h.aK;rw[aib] at r1 r2;cases c1:x.group==y.group<;>have c1':(x.group != y.group) = !(x.group==y.group):=rfl<;>rw[c1] at c1' r1 r2
   ·simp only[Ya,l1,l2,hx,hy,hw,hz,c1',lB,p7,nS,dG,EW,seval];exact r1 rfl
   ·cases hc:decide (x.aa=y.aa)<;>rw[hc] at q<;>simp only[Ya,l1,l2,hx,hy,hw,hz,c1',q,lB,p7,nS,cG,dG,EW,seval]
    ·exact r1 (by rw[hc]; rfl)
    ·exact r2 (by rw[hc]; rfl)
 ·simp only[NV,Ya,bL,q1,h1',h2',h0,Mq h0,di,cG,EW,seval]
def FI.KD{l:List Piece}{t:Tree}(h:FI l t)(g:rR)(M:aO):aL (aq dp) 18 [.agg (bL (bG l t)),.agg (bL g)] M=some (.bool (decide (bG l t=g)),M) :=
 k18 (show l.length<=1000 by have:=h.prt.many; omega) (by have:=h.dV; omega) h.small M
def c37{x:List Piece×Tree}(hf:FI x.1 x.2){s:qZ}(ho:Ca s.op)(hs:s.aQ.length<=1000):aq dp 37 [.agg (bL (fh x)),.agg (jH s)] []=some (.tuple [.agg (bL (fh (stepT x s).1)),.agg (ga (stepT x s).2)],[]):=by
 refine aw ?_;obtain⟨l,t⟩:=x;simp only[fh] at hf ⊢;have q1:=fun M=>cO (c83 hf s.aQ aM s.group) M
 have q2:=fun M=>cO (c84 hf s.aQ aM) M
 have q3:=fun M=>cO (c85 hf s.aQ aM s.group) M
 have q4:=fun M=>cO (c86 hf ho) M
 unfold stepT;have hk:s.kind.toNat % 5<5:=lM _ aM;have hr:((s.kind.toNat:Nat):Int).tmod 5=((s.kind.toNat % 5:Nat):Int):=rfl;generalize s.kind.toNat % 5=k at hk hr ⊢;simp only;generalize bG l t=f at *;simp only[iV,bL,fD] at q1 q2 q3 q4;rcases(show k=0\/k=1\/k=2\/k=3\/k=4 by omega) with rfl|rfl|rfl|rfl|rfl
 ·generalize vL l t s.op=c at *;generalize bG l c.1=F at *;simp only[ga] at q4;simp only[NZ,E37,iV,bL,jH,fD,ga,Aj,bp,bw,hr,q4,Hg,EW,seval]
  all_goals rfl
 ·generalize vj l t s.aQ s.group=c at *;generalize bG c.1 t=F at *;simp only[NZ,E37,iV,bL,jH,fD,ga,Aj,bp,bw,hr,q1,Hg,EW,seval]
  all_goals rfl
 ·generalize vj l t s.aQ s.group=c at *;generalize bG c.1 t=F at *;simp only[NZ,E37,iV,bL,jH,fD,ga,Aj,bp,bw,hr,q1,Hg,EW,seval]
  all_goals rfl
 ·generalize mW l s.aQ=c at *;generalize bG c.1 t=F at *;simp only[NZ,E37,iV,bL,jH,fD,ga,Aj,bp,bw,hr,q2,Hg,EW,seval]
  all_goals rfl
 ·generalize nV l s.aQ s.group=c at *;generalize bG c.1 t=F at *;simp only[NZ,E37,iV,bL,jH,fD,ga,Aj,bp,bw,hr,q3,Hg,EW,seval]
  all_goals rfl
def FI.stepT{x:List Piece×Tree}(h:FI x.1 x.2)(s:qZ):FI (stepT x s).1.1 (stepT x s).1.2:=h.step s
def Eb(n:UInt8):Int:=((n.toNat % 8:Nat):Int)
def Gy(n:UInt8):nU (Eb n)=true:=by
 have:=lM n.toNat (show 8>0 by omega)
 unfold nU Eb;generalize n.toNat % 8=k at this;have h1:(0:Int)<=(k:Int):=ec k;have h2:(k:Int)<8:=aM;simp[h2]
def c36{x:List Piece×Tree}(hf:FI x.1 x.2){s:qZ}(ho:Ca s.op)(hs:s.aQ.length<=1000):aq ko 36 [.agg (bL (fh x)),.agg (jH s)] []=some (.tuple [.agg (bL (fh (stepT x s).1)),.agg (ga (stepT x s).2)],[]):=by
 refine aw ?_;obtain⟨l,t⟩:=x;simp only[fh] at hf ⊢;have q1:=fun M=>cO (c42 hf s.aQ aM s.group) M
 have q2:=fun M=>cO (c43 hf s.aQ aM) M
 have q3:=fun M=>cO (c82 hf s.aQ aM s.group) M
 have q4:=fun M=>cO (c15 hf ho) M
 unfold stepT;have hk:s.kind.toNat % 5<5:=lM _ aM;have hr:((s.kind.toNat:Nat):Int).tmod 5=((s.kind.toNat % 5:Nat):Int):=rfl;generalize s.kind.toNat % 5=k at hk hr ⊢;simp only;generalize bG l t=f at *;simp only[iV,bL,fD] at q1 q2 q3 q4;rcases(show k=0\/k=1\/k=2\/k=3\/k=4 by omega) with rfl|rfl|rfl|rfl|rfl
 ·generalize vL l t s.op=c at *;generalize bG l c.1=F at *;simp only[ga] at q4;simp only[NY,E36,iV,bL,jH,fD,ga,Aj,bp,bw,hr,q4,Hg,EW,seval]
  all_goals rfl
 ·generalize vj l t s.aQ s.group=c at *;generalize bG c.1 t=F at *;simp only[NY,E36,iV,bL,jH,fD,ga,Aj,bp,bw,hr,q1,Hg,EW,seval]
  all_goals rfl
 ·generalize vj l t s.aQ s.group=c at *;generalize bG c.1 t=F at *;simp only[NY,E36,iV,bL,jH,fD,ga,Aj,bp,bw,hr,q1,Hg,EW,seval]
  all_goals rfl
 ·generalize mW l s.aQ=c at *;generalize bG c.1 t=F at *;simp only[NY,E36,iV,bL,jH,fD,ga,Aj,bp,bw,hr,q2,Hg,EW,seval]
  all_goals rfl
 ·generalize nV l s.aQ s.group=c at *;generalize bG c.1 t=F at *;simp only[NY,E36,iV,bL,jH,fD,ga,Aj,bp,bw,hr,q3,Hg,EW,seval]
  all_goals rfl
end
def GL{α:Type}(k:α->Int)(g:Int):∀(l:List α)(m:AM Bool),(dx (l.foldl (fun m i=>kL m (k i) true) m) g).getD false=((dx m g).getD false||l.any fun i=>k i==g)
 | [],m=>dk
 |x::r,m=>by
  rw[bB,GL k g r,fN,pQ]
  by_cases h:g=k x
  ·subst h; simp
  ·rw[aj h,show(k x==g)=false by simpa using fun e=>h e.symm,dE]
def zJ(l:List Piece)(s:Bytes):Int:=(nB l (dS l s)).group
def tV(l:List Piece)(s:Bytes)(m:AM Bool):AM Bool:=(List.range ((bI s).1.length+1)).foldl (fun m i=>kL m (zJ l (mu ((bI s).1.take i))) true) m
def Nj(l:List Piece)(s:Bytes)(g:Int):(dx (tV l s []) g).getD false=qq l s g:=by
 unfold tV qq;rw[GL];simp[dx,zJ]
def PU(l:List Piece)(s:Bytes):List Int:=(List.range 8).filterMap fun(g:Nat)=>if qq l s g then some (g:Int) else none
def JN(l:List Piece)(s:Bytes)(m:AM Bool)(g:Int):(dx (tV l s m) g).getD false=((dx m g).getD false||qq l s g):=by
 unfold tV qq;rw[GL];simp[zJ]
def tW(P:Int->Bool):List Int:=(List.range 8).filterMap fun(g:Nat)=>if P g then some (g:Int) else none
def CB(l:List Piece)(o:qm)(g:Int):Bool:=qq l o.aQ g||((o.kind==3||o.kind==5)&&qq l o.rj g)
def zp{P P':Int->Bool}(h:∀g,P g=P' g):tW P=tW P':=by rw[show P=P' from funext h]
def Nl(P:Int->Bool):(tW P).length<=8:=bg (fg _ _) dk
def Hz(f:rR)(m:AM Bool):aO:=[.cells (bL f),.cells [.gJ 2],.map (wM m) (re ag.bool m)]
def flB(l:AM Bool):(re ag.bool l).all ag.flat=true:=Qx _ (fun _=>rfl) l
def rnB(ρ:Nat->Nat)(l:AM Bool):(re ag.bool l).map (ag.rn ρ)=re ag.bool l:=Z1 _ _ (fun _=>rfl) l
def bkB(B:Nat)(M:aO)(l:AM Bool):List.map (ag.jL B M) (re ag.bool l)=re ag.bool l:=aaM _ _ _ (fun _=>rfl) l
def XD(f:rR)(m:AM Bool)(b1:dg):kV [cL (bL f),b1,.map (wM m) (re ag.bool m),cL [.gJ 2]] (jb [0,3,2]) [0,3,2]=some (Hz f m):=by
 simp only[kV,nth,dg.flat,flB,cq,aE,dg.rn,rnB];rfl
def alZ(l:AM Bool):(re ag.bool l).flatMap ag.ids=[]:=ZD _ (fun _=>rfl) l
def LL{C:eO}{f:rR}{m m':AM Bool}{s:Bytes}(b1:dg)(h:C 62 [.str s,dC 0,dC 1] (Hz f m)=some (.tuple [],Hz f m')) :
  aL C 62 [.str s,dC 0,dC 3] [cL (bL f),b1,.map (wM m) (re ag.bool m),cL [.gJ 2]]=some (.tuple [],[cL (bL f),b1,.map (wM m') (re ag.bool m'),cL [.gJ 2]]):=by
 have i1:tj [cL (bL f),b1,.map (wM m) (re ag.bool m),cL [.gJ 2]] [0,3]=[2]:=rfl
 have i2:tj [cL (bL f),b1,.map (wM m) (re ag.bool m),cL [.gJ 2]] [0,3,2]=[2]:=by
  show[2]++((re ag.bool m).flatMap ag.ids++[])=_
  rw[alZ]; rfl
 have e0:mB [] [0,3]=[0,3]:=rfl;have e1:mB [0,3] [2]=[0,3,2]:=rfl;have e2:mB [0,3,2] [2]=[0,3,2]:=rfl
 have hr:reach [cL (bL f),b1,.map (wM m) (re ag.bool m),cL [.gJ 2]] [0,3]=[0,3,2]/\mC [cL (bL f),b1,.map (wM m) (re ag.bool m),cL [.gJ 2]] [0,3,2]=[0,3,2]:=by
  simp only[reach,mC,e0,i1,e1,i2,e2,j4]
 refine mS (ids:=[0,3,2]) rfl hr.1 (XD f m b1) hr.2 rfl h rfl rfl ?_ rfl ?_
 ·simp only[Hz,ku,dg.flat,flB]; rfl
 ·simp only[Hz,ny,dg.rn,rnB,jY];rfl
section
attribute [local irreducible] fP fm kM gK dH kr aq aL cH bP
def c62{f:rR}(hl:kc f.pieces)(s:Bytes)(hs:s.length<=100000)(m:AM Bool):aq fc 62 [.str s,dC 0,dC 1] (Hz f m)=some (.tuple [],Hz f (tV f.pieces s m)):=by
 refine aw ?_;have q1:=k63 s hs;obtain⟨hn1,hn2⟩:=lV s;unfold tV;generalize bI s=v at q1 hn1 hn2 ⊢;obtain⟨ns,e⟩:=v;simp only at q1 hn1 hn2 ⊢;have g1:IntKind.i64.wrap ((ns.length:Int)+1)=((ns.length+1:Nat):Int):=by rw[gb aM aM]; omega
 simp only[ahc,E62,Hz,bL,q1,g1,az,EW,seval];have hr:(List.range (ns.length+1)).length=ns.length+1:=dk
 refine sY (xs:=List.range (ns.length+1)) aM (fun(post:List Nat) m=>post.foldl (fun m i=>kL m (zJ f.pieces (mu (ns.take i))) true) m) (fun _ i=>[(1,dC 0),(2,dC 1),(4,fX ns),(16,aH ((ns.length+1:Nat):Int)),(17,aH i)])
  (fun m=>[cL [bV f.pieces,mf f.dV,aH f.next,aH f.ae],cL [.gJ 2],.map (wM m) (re ag.bool m)]) (fun m=>some (.tuple [],[cL [bV f.pieces,mf f.dV,aH f.next,aH f.ae],cL [.gJ 2],.map (wM m) (re ag.bool m)])) (fun m=>?_) (fun pre x post m hh hx cA hw h0 hmm hi=>?_) m
 ·rw[hr];simp only[E62,aX,bkB,ia,EW,seval]
 ·rw[hr] at cA;have hpre:pre.length<ns.length+1:=by have:=congrArg List.length hh; simp at this; omega
  have hxe:x=pre.length:=by rw[eA hpre] at hx; injection hx with hx; exact hx.symm
  subst hxe;have hle:((pre.length:Int)<=(ns.length:Int))=True:=x7;have hz:((0:Int)<=((pre.length:Nat):Int))=True:=dk;have q2:=fun M=>lS (k65 (ns.take pre.length) (fun x hx=>hn1 x (cR hx)) ic M)
  have hsp:(bI (mu (ns.take pre.length))).2=0:=by rw[qF,lg (fun x hx=>hn1 x (cR hx)) ic]
  have q3:=k64 hl (mu (ns.take pre.length)) (by have:=vt (ns.take pre.length) (fun x hx=>hn1 x (cR hx)) ic; omega)
  unfold KX at q3;rw[av hsp] at q3;have hy:=sq (hl.uH hsp);have i1:=hi (kL m (zJ f.pieces (mu (ns.take pre.length))) true);have g0:(((dS f.pieces (mu (ns.take pre.length)):Nat):Int)<0)=False:=dk;have hgr:zJ f.pieces (mu (ns.take pre.length))=(nB f.pieces (dS f.pieces (mu (ns.take pre.length)))).group:=rfl;rw[bB];rw[hgr] at i1 ⊢;generalize dS f.pieces (mu (ns.take pre.length))=c at *;simp only[fX,jC] at q2;simp only[E62,cA,hw,h0,hle,hz,q2,q3,hy,g0,mapOf.eq_1,um,bkB,az,bj,cS,eI,cI,EW,seval];exact i1
def FI.Yg{l:List Piece}{t:Tree}(h:FI l t){o:qm}(ho:Ca o)(M:aO):aL (aq fc) 21 [.agg (bL (bG l t)),.agg (fD o)] M=some (nv (tW (CB l o)),M):=by
 refine cO (aw ?_) M;have hp:(bG l t).pieces=l:=rfl;have q:=fun b1=>LL b1 (c62 (f:=bG l t) h.prt o.aQ (by have:=ho.aQ; omega) [])
 have q':=fun b1=>LL b1 (c62 (f:=bG l t) h.prt o.rj (by have:=ho.rj; omega) (tV l o.aQ []))
 have hA1:=fun g=>Nj l o.aQ g
 have hA2:=fun g=>JN l o.rj (tV l o.aQ []) g
 simp only[hA1] at hA2;rw[hp] at q q';generalize tV l o.rj (tV l o.aQ [])=m2 at q' hA2;generalize tV l o.aQ []=m1 at q q' hA1;generalize bG l t=f at q q' ⊢;have e0:wM ([]:AM Bool)=[]:=rfl;have e1:re ag.bool []=[]:=rfl;simp only[bL,e0,e1] at q q'
 have last:∀(m:AM Bool)(P:Int->Bool),(∀g,(dx m g).getD false=P g)->∀ {k:List K},(∀e,kr (aq fc) [.tmp 4] 0 k ⟨.exit 0,(5,dC 3)::(7,.slice (.own 4) ((tW P).map mr))::e,[cL [bV f.pieces,mf f.dV,aH f.next,aH f.ae],cL (fD o),.map (wM m) (re ag.bool m),cL [.gJ 2],.tick 1 (tW P).length]⟩=some (nv (tW P),[]))->fP (aq fc) [.tmp 4] 0 k (.loop [5,7,27] adf) [(5,dC 3),(7,.slice (.own 4) (([]:List Int).map mr)),(27,aH 0)] [cL [bV f.pieces,mf f.dV,aH f.next,aH f.ae],cL (fD o),.map (wM m) (re ag.bool m),cL [.gJ 2],.tick 1 0]=some (nv (tW P),[]):=by
  intro m P hA k hk;have hrows:∀i:Nat,((List.range i).filterMap fun(g:Nat)=>if P g then some (g:Int) else none).length<=i:=fun i=>bg (fg _ _) dk
  refine dj (gV (xs:=List.range 8) dk (fun i (out:List Int)=>out=(List.range i).filterMap fun(g:Nat)=>if P g then some (g:Int) else none) (fun _ (_:List Int)=>()) (fun out i=>[(5,dC 3),(7,.slice (.own 4) (out.map mr)),(27,aH i)])
   (fun out=>[cL [bV f.pieces,mf f.dV,aH f.next,aH f.ae],cL (fD o),.map (wM m) (re ag.bool m),cL [.gJ 2],.tick 1 out.length])
   (fun _=>some (nv (tW P),[])) (fun out hout=>?_) (fun pre x post out hh hx cA hw h0 hmm hout hi=>?_) [] rfl) rfl
  ·rw[jB] at hout;have e8:(((List.range 8).length:Nat):Int)=8:=rfl;have hout:out=tW P:=hout;simp only[Vb,e8,aX,hout,EW,seval];exact hk _
  ·have hpre:pre.length<8:=by have:=congrArg List.length hh; simp at this; omega
   have hxe:x=pre.length:=by rw[eA hpre] at hx; injection hx with hx; exact hx.symm
   subst hxe;have hl8:((pre.length:Int)<8)=True:=ic;have fx:=hrows pre.length;rw[<-hout] at fx;have r1:dY (out.length+1) 8=True:=xt;have i1:=hi _ rfl;rw[kv,jo,<-hout] at i1;simp only[jR,jk] at i1;have hAg:=hA (pre.length:Int);cases hb:P (pre.length:Int)<;>rw[hb] at hAg i1
   ·simp only[af,aC,cu] at i1;simp only[Vb,hl8,hw,hAg,mapOf.eq_1,lC,Iz,bkB,EW,seval];exact i1
   ·simp only[aE,bH,a8,bE,aR,aD,aF,aN] at i1;simp only[Vb,hl8,hw,hAg,r1,vI,mapOf.eq_1,lC,Iz,bkB,EW,seval];exact i1
 simp only[bE] at last;cases k3:o.kind==3
 ·cases k5:o.kind==5
  ·rw[zp (P':=qq l o.aQ) fun g=>by unfold CB; rw[k3,k5]; simp]
   have i1:=fun {k} hk=>last m1 _ hA1 (k:=k) hk
   simp only[fD] at i1;simp only[QN,Vb,bL,fD,q,k3,k5,vz,wi,EW,seval];exact i1 fun e=>by simp only[Vb,EW,seval]
  ·rw[zp (P':=fun g=>qq l o.aQ g||qq l o.rj g) fun g=>by unfold CB; rw[k3,k5]; simp]
   have i1:=fun {k} hk=>last m2 _ hA2 (k:=k) hk
   simp only[fD] at i1;simp only[QN,Vb,bL,fD,q,q',k3,k5,vz,wi,EW,seval];exact i1 fun e=>by simp only[Vb,EW,seval]
 ·rw[zp (P':=fun g=>qq l o.aQ g||qq l o.rj g) fun g=>by unfold CB; rw[k3]; simp]
  have i1:=fun {k} hk=>last m2 _ hA2 (k:=k) hk
  simp only[fD] at i1;simp only[QN,Vb,bL,fD,q,q',k3,vz,wi,EW,seval];exact i1 fun e=>by simp only[Vb,EW,seval]
def FI.asks{l:List Piece}{t:Tree}(h:FI l t){o:qm}(ho:Ca o)(hk:o.kind≠3/\o.kind≠5)(M:aO):aL (aq fc) 21 [.agg (bL (bG l t)),.agg (fD o)] M=some (nv (PU l o.aQ),M):=by
 rw[h.Yg ho,zp (P':=qq l o.aQ) fun g=>by unfold CB; simp[hk.1,hk.2]]
 rfl
end
def KZ(k:Int)(p q:Bytes)(n:Int):qm:=⟨k,0,p,q,n,0,0,[]⟩
def LR(x:List Piece×Tree)(o:qm):(List Piece×Tree)×Pp:=((x.1,(vL x.1 x.2 o).1),(vL x.1 x.2 o).2)
def hA:=LR (sI 1,p8) (KZ 2 [47,97] [] 2)
def hB:=LR hA.1 (KZ 2 [47,98] [] 2)
def hC:(List Piece×Tree)×Int:=(((vj hB.1.1 hB.1.2 [47,97] 5).1,hB.1.2),(vj hB.1.1 hB.1.2 [47,97] 5).2)
def hD:=LR hC.1 (KZ 2 [47,97,47,102] [] 1)
def hE:=LR hD.1 (KZ 3 [47,97,47,102] [47,103] 0)
def hG:=LR hD.1 (KZ 5 [47,97] [47,99] 0)
def hH:=LR hD.1 (KZ 5 [47,97,47,102] [47,98,47,102] 0)
def hI:(List Piece×Tree)×Int:=(((vj hD.1.1 hD.1.2 [47,97,47,102] 2).1,hD.1.2),(vj hD.1.1 hD.1.2 [47,97,47,102] 2).2)
def hJ:(List Piece×Tree)×Int:=(((mW hD.1.1 [47,97]).1,hD.1.2),(mW hD.1.1 [47,97]).2)
def facts:hA.2.ar=2/\hB.2.ar=3/\hC.2=0/\hD.2.ar=4/\hE.2.err=91/\hG.2.err=180/\hH.2.ar=4/\hI.2=73/\hJ.2=0:=by
 refine⟨?_,?_,?_,?_,?_,?_,?_,?_,?_⟩<;>kernel_rfl
def aa5:(fh hD.1).dV.length=2/\(fh hH.1).dV.length=2/\(fh hJ.1).dV.length=1/\(fh hD.1).dV.map nz.group=[1,5]/\(fh hD.1).dV.map (fun x=>x.aa.length)=[2,2]/\(fh hH.1).dV.map (fun x=>x.aa.length)=[3,1]/\PU hD.1.1 [47,97,47,102]=[1,5]/\hD.1.1.length=2/\hJ.1.1.length=1:=by
 refine⟨?_,?_,?_,?_,?_,?_,?_,?_,?_⟩<;>kernel_rfl
section
attribute [local irreducible] fP fm kM gK dH kr aq aL cH bP
def c19(a:Pp)(hn:a.names.length<=100000)(hd:a.data.length<=100000):aq dp 19 [.agg (ga a),.agg (ga a)] []=some (.bool true,[]):=by
 refine aw ?_;simp only[agM,E19,ga,an,zu,EW,seval];refine sY (xs:=a.names) aM (fun _ (_:Unit)=>()) (fun _ i=>[(2,dC 0),(3,dC 1),(5,aH i)]) (fun _=>[cL (ga a),cL (ga a)]) (fun _=>some (ag.bool true,([]:aO))) (fun _=>?_) (fun pre x post _ e hx cA hw h0 hm hi=>?_) ()
 ·simp only[ga];simp only[E19,aX,EW,seval]
 ·have i1:=hi ();simp only[ga] at i1 ⊢;simp only[E19,cA,hx,hw,h0,an,EW,seval];exact i1
def k38{l:List Int}(hn:l.length<=1000)(M:aO):aL (aq dp) 38 [nv l,nv l] M=some (.bool true,M):=by
 refine cO (aw ?_) M;simp only[agZ,E38,an,EW,seval];refine sY (xs:=l) aM (fun _ (_:Unit)=>()) (fun _ i=>[(0,nv l),(1,nv l),(5,aH i)]) (fun _=>[]) (fun _=>some (ag.bool true,([]:aO))) (fun _=>?_) (fun pre x post _ hh hx cA hw h0 hm hi=>?_) ()
 ·simp only[E38,aX,EW,seval]
 ·have i1:=hi ();simp only[E38,cA,hx,hw,h0,qv,mr,an,EW,seval];exact i1
def XL(M:aO):aL (aq fc) 31 [.agg [ka [],ka [],aH 0,aH 0]] M=some (.bool false,M):=by
 refine cO (aw ?_) M
 have q:∀M,aL (aq fc) 74 [ka []] M=some (.bool false,M):=by
  intro M;refine cO (aw ?_) M;simp only[Gv,E74,EW,seval]
 simp only[NW,Pq,q,EW,seval]
end
def yY(k:Int)(p q:Bytes)(n:Int)(hp:p.length<=1000)(hq:q.length<=1000):Ca (KZ k p q n):=⟨by simp[KZ]; omega,by simp[KZ]; omega,by simp[KZ]⟩
def FI.LR{x:List Piece×Tree}(h:FI x.1 x.2)(o:qm):FI (LR x o).1.1 (LR x o).1.2:=h.do o
section
attribute [local irreducible] fP fm kM gK dH kr aq aL cH bP
def kDo{x:List Piece×Tree}(hf:FI x.1 x.2){o:qm}(ho:Ca o)(M:aO):aL (aq ko) 15 [.agg (bL (fh x)),.agg (fD o)] M=some (.tuple [.agg (bL (fh (LR x o).1)),.agg (ga (LR x o).2)],M):=cO (c15 hf ho) M
def FI.GJ{x:List Piece×Tree}(h:FI x.1 x.2)(M:aO):aL (aq ko) 17 [.agg (bL (fh x))] M=some (.agg [aV x.2.aa,aH x.2.next,aH x.2.ae],M):=lG (h.Df M)
def ahR{t:Tree}(ht:Rt t)(M:aO):aL (aq ko) 20 [.agg [aV t.aa,aH t.next,aH t.ae],.agg [aV t.aa,aH t.next,aH t.ae]] M=some (.bool true,M):=by
 have:=k20 t t ht.small.aa ht.small.aK M;rw[fZ rfl] at this;exact lG this
def FI.Wo{x:List Piece×Tree}(h:FI x.1 x.2)(M:aO):aL (aq ko) 31 [.agg (bL (fh x))] M=some (.bool true,M):=lF (vT h.right rfl rfl rfl rfl rfl M)
set_option maxRecDepth 100000 in
def V7:aq ko 11 [] []=some (.bool true,[]):=by
 obtain⟨e1,e2,e3,e4,e5,e6,e7,e8,e9⟩:=facts;obtain⟨g1,g2,g3,g4,g5,g6,g7,g8,g9⟩:=aa5;have s0:FI (sI 1,p8).1 (sI 1,p8).2:=FI.new rfl;have sA:FI hA.1.1 hA.1.2:=s0.LR (KZ 2 [47,97] [] 2);have sB:FI hB.1.1 hB.1.2:=sA.LR (KZ 2 [47,98] [] 2);have sC:FI hC.1.1 hC.1.2:=FI.cut sB [47,97] 5;have sD:FI hD.1.1 hD.1.2:=sC.LR (KZ 2 [47,97,47,102] [] 1);have sJ:FI hJ.1.1 hJ.1.2:=FI.join sD [47,97];have q0:=k34 (g:=1) rfl;have qA:=kDo s0 (yY 2 [47,97] [] 2 pd pd);have qB:=kDo sA (yY 2 [47,98] [] 2 pd pd);have qC:=fun M=>cO (c42 sB [47,97] pd 5) M
 have qD:=kDo sC (yY 2 [47,97,47,102] [] 1 pd pd);have qE:=kDo sD (yY 3 [47,97,47,102] [47,103] 0 pd pd);have qG:=kDo sD (yY 5 [47,97] [47,99] 0 pd pd);have qH:=kDo sD (yY 5 [47,97,47,102] [47,98,47,102] 0 pd pd);have qI:=fun M=>cO (c42 sD [47,97,47,102] pd 2) M
 have qJ:=fun M=>cO (c43 sD [47,97] pd) M
 have w1:=sD.GJ;have w2:=sJ.GJ;have hJt:hJ.1.2=hD.1.2:=rfl;have qs:=ahR sD.rt;have qf:∀M,aL (aq ko) 30 [.agg (bL (fh hD.1)),.agg (bL (fh hJ.1))] M=some (.bool false,M):=fun M=>lG ((sD.Ml (fh hJ.1) M).trans (by rw[da fun e=>absurd (congrArg (fun f:rR=>f.pieces.length) e) (show hD.1.1.length≠hJ.1.1.length by omega)]))
 have qr:=sD.Wo;have qz:=fun M=>lF (XL M)
 have qa:=fun M=>lF (FI.asks sD (o:=KZ 1 [47,97,47,102] [] 0) (yY _ _ _ _ pd pd) ⟨pd,pd⟩ M)
 have qi:=fun M=>lG (k38 (l:=[1,5]) pd M)
 change ∀M,aL (aq ko) 34 _ M=some (.agg (bL (fh (sI 1,p8))),M) at q0;change ∀M,aL (aq ko) 15 _ M=some (.tuple [.agg (bL (fh hA.1)),.agg (ga hA.2)],M) at qA;change ∀M,aL (aq ko) 15 [.agg (bL (fh hA.1)),_] M=some (.tuple [.agg (bL (fh hB.1)),.agg (ga hB.2)],M) at qB;change ∀M,aL (aq ko) 42 [.agg (bL (fh hB.1)),_,_] M=some (.tuple [.agg (bL (fh hC.1)),aH hC.2],M) at qC;change ∀M,aL (aq ko) 15 [.agg (bL (fh hC.1)),_] M=some (.tuple [.agg (bL (fh hD.1)),.agg (ga hD.2)],M) at qD;change ∀M,aL (aq ko) 15 [.agg (bL (fh hD.1)),_] M=some (.tuple [.agg (bL (fh hE.1)),.agg (ga hE.2)],M) at qE;change ∀M,aL (aq ko) 15 [.agg (bL (fh hD.1)),_] M=some (.tuple [.agg (bL (fh hG.1)),.agg (ga hG.2)],M) at qG;change ∀M,aL (aq ko) 15 [.agg (bL (fh hD.1)),_] M=some (.tuple [.agg (bL (fh hH.1)),.agg (ga hH.2)],M) at qH;change ∀M,aL (aq ko) 42 [.agg (bL (fh hD.1)),_,_] M=some (.tuple [.agg (bL (fh hI.1)),aH hI.2],M) at qI;change ∀M,aL (aq ko) 43 [.agg (bL (fh hD.1)),_] M=some (.tuple [.agg (bL (fh hJ.1)),aH hJ.2],M) at qJ;change ∀M,aL (aq ko) 21 [.agg (bL (fh hD.1)),_] M=some (nv (PU hD.1.1 [47,97,47,102]),M) at qa;rw[hJt] at w2;rw[g7] at qa;generalize hD.1.2=tr at w1 w2 qs;have x2:∀l:List nz,l.length=2->∃a b,l=[a,b]:=fun l h=>by match l,h with|[a,b],_=>exact⟨a,b,rfl⟩
 obtain⟨a1,a2,hl1⟩:=x2 _ g1;obtain⟨b1,b2,hl2⟩:=x2 _ g2;rw[hl1] at g4 g5;rw[hl2] at g6;simp only[a8,bE,List.cons.injEq,and_true] at g4 g5 g6;obtain⟨g41,g42⟩:=g4;obtain⟨g51,g52⟩:=g5;obtain⟨g61,g62⟩:=g6;clear sA sB sC sD sJ s0;generalize fh (sI 1,p8)=F0 at *;generalize fh hA.1=FA at *;generalize fh hB.1=FB at *;generalize fh hC.1=FC at *;generalize fh hD.1=FD at *;generalize fh hE.1=FE at *;generalize fh hG.1=FG at *;generalize fh hH.1=FH at *;generalize fh hI.1=FI' at *;generalize fh hJ.1=FJ at *;generalize hA.2=A,hB.2=B,hC.2=C,hD.2=D,hE.2=E,hG.2=G,hH.2=H,hI.2=I,hJ.2=J at *;refine aw ?_;simp only[bL,ga,fD,KZ,mc,a8,bE,hl1,hl2,mf,nv,mr] at q0 qA qB qC qD qE qG qH qI qJ w1 w2 qs qf qr qz qa qi ⊢;simp only[aa6,E11,q0,qA,qB,qC,qD,qE,qG,qH,qI,qJ,w1,w2,qs,qf,qr,qz,qa,qi,e1,e2,e3,e4,e5,e6,e7,e8,e9,g3,g41,g51,g52,g61,hl1,hl2,a8,bE,aD,aF,az,mf,lB,p7,nS,g42,g52,g62,mr,EW,seval]
end
def EI(d k:Int):∀(l:List eM)(mi:AL×AL)(u:Int),dx (l.foldl (kf d) mi).2 k=some u->dx mi.2 k=some u\/(d=u/\∃e,e∈l/\e.ar=k)
 | [],_,_,h => .inl h
 |x::l,mi,u,h=>by
  rw[bB] at h;rcases EI d k l _ u h with h|⟨h1,e,h2,h3⟩
  ·simp only[kf] at h;rw[fN] at h
   by_cases hx:k=x.ar
   ·rw[av hx] at h;exact .inr ⟨ky h,x,aG,hx.symm⟩
   ·rw[aj hx] at h;exact .inl h
  ·exact .inr ⟨h1,e,aP _ h2,h3⟩
def EK(k:Int):∀(l:List Node)(mi:AL×AL)(u:Int),dx (l.foldl (fun mi n=>n.aK.foldl (kf n.ar) mi) mi).2 k=some u->dx mi.2 k=some u\/∃p e,p∈l/\p.ar=u/\e∈p.aK/\e.ar=k
 | [],_,_,h => .inl h
 |x::l,mi,u,h=>by
  rw[bB] at h;rcases EK k l _ u h with h|⟨p,e,h1,h2⟩
  ·rcases EI x.ar k x.aK mi u h with h|⟨h1,e,h2,h3⟩
   ·exact .inl h
   ·exact .inr ⟨x,e,aG,h1,h2,h3⟩
  ·exact .inr ⟨p,e,aP _ h1,h2⟩
def AJ(d k:Int):∀(l:List eM)(mi:AL×AL),(dx mi.2 k).isSome=true\/(∃e,e∈l/\e.ar=k)->(dx (l.foldl (kf d) mi).2 k).isSome=true
 | [],_,h=>by
  rcases h with h|⟨_,h,_⟩
  ·exact h
  ·cases h
 |x::l,mi,h=>by
  rw[bB];refine AJ d k l _ ?_;simp only[kf];rw[fN]
  by_cases hx:k=x.ar
  ·rw[av hx]; exact .inl rfl
  ·rw[aj hx];rcases h with h|⟨e,h1,h2⟩
   ·exact .inl h
   ·rcases ba.1 h1 with rfl|h1
    ·exact absurd h2.symm hx
    ·exact .inr ⟨e,h1,h2⟩
def EJ(k:Int):∀(l:List Node)(mi:AL×AL),(dx mi.2 k).isSome=true\/(∃p e,p∈l/\e∈p.aK/\e.ar=k)->(dx (l.foldl (fun mi n=>n.aK.foldl (kf n.ar) mi) mi).2 k).isSome=true
 | [],_,h=>by
  rcases h with h|⟨_,_,h,_⟩
  ·exact h
  ·cases h
 |x::l,mi,h=>by
  rw[bB];refine EJ k l _ ?_;rcases h with h|⟨p,e,h1,h2,h3⟩
  ·exact .inl (AJ x.ar k x.aK mi (.inl h))
  ·rcases ba.1 h1 with rfl|h1
   ·exact .inl (AJ p.ar k p.aK mi (.inr ⟨e,h2,h3⟩))
   ·exact .inr ⟨p,e,h1,h2,h3⟩
def HJ{aa:List Node}{k u:Int}(hc:mJ aa k=1)(h:(dx (jE aa).2 k).getD 0=u):∃p e,p∈aa/\p.ar=u/\e∈p.aK/\e.ar=k:=by
 obtain⟨n,e,h1,h2,h3⟩:=pS.1 (show 0<mJ aa k by omega)
 have hs:=EJ k aa ([],[]) (.inr ⟨n,e,h1,h2,h3⟩);obtain⟨v,hv⟩:=gU.1 hs;have hv':dx (jE aa).2 k=some v:=hv;rw[hv',bQ] at h;subst h;rcases EK k aa ([],[]) v hv with h|h
 ·simp[dx] at h
 ·exact h
section
attribute [local irreducible] fP fm kM gK dH kr aq aL cH bP
def VN{aa:List Node}(h:∀n,n∈aa->n.aK.length<=64)(hn:aa.length<=200)(k:Int):mJ aa k<=1000000:=by
 have:=J3 k aa h;have:64*aa.length<=64*200:=Nat.mul_le_mul_left _ hn;omega
set_option maxHeartbeats 1000000 in
def x75{t:Tree}(ht:Small t):∃b:Bool,aq dp 75 [bD t] []=some (.bool b,[])/\(b=true->Rg t):=by
 obtain⟨aa,next,ae⟩:=t
 have qf:∀P:Prop,(false=true->P):=fun _ h=>by cases h
 have hN:=ht.aa;simp only at hN;have hz0:Int.toNat 0=0:=rfl;cases b1:decide ((aa.length:Int)<1)
 rotate_left
 ·exact⟨false,(by refine aw ?_; simp only[Ea,BW,bD,aY,b1,EW,seval]),qf _⟩
 cases b2:decide ((200:Int)<(aa.length:Int))
 rotate_left
 ·exact⟨false,(by refine aw ?_; simp only[Ea,BW,bD,aY,b1,b2,EW,seval]),qf _⟩
 have hl1:1<=aa.length:=by have:=aZ b1; omega
 have hl2:aa.length<=200:=by have:=aZ b2; omega
 obtain⟨r,rest,r1⟩:∃r rest,aa=r::rest:=by cases aa with
  |nil=>simp at hl1
  |cons r rest=>exact⟨r,rest,rfl⟩
 have h0:aa[0]?=some r:=by rw[r1]; rfl
 cases b3:(r.ar != 1)
 rotate_left
 ·exact⟨false,(by refine aw ?_; simp only[Ea,BW,bD,aY,b1,b2,h0,hz0,bJ,aI,b3,cJ,EW,seval]),qf _⟩
 cases b4:(r.kind != 2)
 rotate_left
 ·exact⟨false,(by refine aw ?_; simp only[Ea,BW,bD,aY,b1,b2,h0,hz0,bJ,aI,b3,b4,cJ,EW,seval]),qf _⟩
 cases b5:decide ((1099511627776:Int)<next)
 rotate_left
 ·exact⟨false,(by refine aw ?_; simp only[Ea,BW,bD,aY,b1,b2,h0,hz0,bJ,aI,b3,b4,b5,cJ,EW,seval]),qf _⟩
 cases b6:decide (ae<1)
 rotate_left
 ·exact⟨false,(by refine aw ?_; simp only[Ea,BW,bD,aY,b1,b2,h0,hz0,bJ,aI,b3,b4,b5,b6,cJ,EW,seval]),qf _⟩
 cases b7:decide ((1099511627776:Int)<ae)
 rotate_left
 ·exact⟨false,(by refine aw ?_; simp only[Ea,BW,bD,aY,b1,b2,h0,hz0,bJ,aI,b3,b4,b5,b6,b7,cJ,EW,seval]),qf _⟩
 have q72:=fun a M=>ahK aa next ae ht.aa ht.aK 1 (a :: cL [aV aa,aH next,aH ae]::M) rfl
 obtain⟨Q,hQ⟩:∃Q:ag×aO->Prop,∀r,Q r↔∃b:Bool,r=(.bool b,[])/\(b=true->Rg ⟨aa,next,ae⟩):=⟨_,fun _=>pD⟩
 have qn:Q (.bool false,[]):=(hQ _).2 ⟨false,rfl,fun h=>by cases h⟩
 have key:∃r,Q r/\aq dp 75 [bD ⟨aa,next,ae⟩] []=some r:=by
  refine wV (fun x h=>aw h) ?_
  simp only[Ea,BW,bD,aY,b1,b2,h0,hz0,bJ,aI,b3,b4,b5,b6,b7,cJ,EW,seval];refine qV (xs:=aa) aM (fun m (_:Unit)=>ng (aa.take m)/\∀n,n∈aa.take m->n.ar<next/\n.aK.length<=64) (fun _ i=>[(3,dC 1),(79,aV aa),(80,aH aa.length),(81,aH i)]) (fun _=>[cL [aV aa,aH next,aH ae],cL [aV aa,aH next,aH ae]]) Q (fun _ hI=>?_) (fun pre x post _ e hx cA hw h0' hm hI hi'=>?_) () ⟨List.Pairwise.nil,fun _ h=>by cases h⟩
  ·rw[bT] at hI;obtain⟨hA,hI⟩:=hI;simp only[BW,aX,q72,EW,seval];refine qV (xs:=aa) aM (fun m (_:Unit)=>∀n,n∈aa.take m->aao aa ae n (mJ aa n.ar) ((dx (jE aa).2 n.ar).getD 0)) (fun _ i=>[(3,dC 1),(6,.iB (eK (jE aa).1) (eV (jE aa).1)),(7,.iB (eK (jE aa).2) (eV (jE aa).2)),(129,aV aa),(130,aH aa.length),(131,aH i)]) (fun _=>[cL [aV aa,aH next,aH ae],cL [aV aa,aH next,aH ae]]) Q (fun _ hJ=>?_) (fun pre x post _ e hx cA hw h0' hm hJ hi'=>?_) () (fun _ h=>by cases h)
   ·rw[bT] at hJ;refine⟨(.bool true,[]),(hQ _).2 ⟨true,rfl,fun _=>?_⟩,by simp only[BW,aX,EW,seval]⟩
    refine⟨⟨r,rest,r1,by simpa using b3,by simpa using b4⟩,hl2,by have:=aZ b5; show next<=_; omega,⟨by have:=aZ b6; show 1<=ae; omega,by have:=aZ b7; show ae<=_; omega⟩,hA,fun n hn=>(hI n hn).1,fun n hn=>(hI n hn).2,fun n hn=>(hJ n hn).kind,fun n hn hk=>?_,fun n hn hk=>((hJ n hn).dir hk).1,fun n hn hk=>?_,fun n hn hk h1=>?_,fun n hn hk h1=>?_,fun n hn hk h1=>?_⟩
    ·obtain⟨a,b,c,d⟩:=(hJ n hn).file hk;exact⟨a,b,c,d⟩
    ·obtain⟨_,he⟩:=(hJ n hn).dir hk;exact⟨he.iW,he.cks,fun e h=>⟨(he.sX e h).there,(he.sX e h).name,(he.sX e h).low,(he.sX e h).high⟩⟩
    ·obtain⟨a,b,c⟩:=(hJ n hn).root hk h1;rw[h1] at c;exact⟨a,b,by show mJ aa 1=0; omega⟩
    ·obtain⟨a,b,c,_⟩:=(hJ n hn).one hk h1;have a:mJ aa n.ar=1:=aM;exact⟨c,a,HJ a b⟩
    ·exact((hJ n hn).one hk h1).2.2.2
   ·obtain⟨c,g1,g2⟩:=ant (next:=next) (ae:=ae) hA ht.aa x (ht.aK x hm) (mJ aa x.ar) ((dx (jE aa).2 x.ar).getD 0)
    have q73:=fun a b M=>oN (M:=a :: cL [aV aa,aH next,aH ae]::b::M) (p:=1) rfl g1 rfl rfl rfl rfl rfl rfl rfl rfl rfl rfl
    have hmany:=zB aa x.ar (VN (fun n hn=>(hI n hn).2) hl2 x.ar)
    simp only[bJ,aI] at q73;cases c
    ·exact⟨_,qn,by simp only[BW,cA,hx,hw,h0',bJ,aI,mapOf,lC,yq,hmany,q73,EW,seval]⟩
    ·have i1:=hi' () (fun n hn=>by
      rw[iG hx] at hn;rcases bC.1 hn with hn|hn
      ·exact hJ n hn
      ·rw[bU] at hn; subst hn; exact g2 rfl)
     simp only[BW,cA,hx,hw,h0',bJ,aI,mapOf,lC,yq,hmany,q73,EW,seval];exact i1
  ·have hp:=(au.1 hx).1
   have next':(∀y,(aa.take pre.length).getLast?=some y->y.ar<x.ar)->x.ar<next->x.aK.length<=64->∃r,Q r/\_:=fun h1 h2 h3=>hi' () ⟨by rw[iG hx]; exact Hy hI.1 h1,fun n hn=>by
    rw[iG hx] at hn;rcases bC.1 hn with hn|hn
    ·exact hI.2 n hn
    ·rw[bU] at hn; subst hn; exact⟨h2,h3⟩⟩
   cases h1:decide ((0:Int)<(pre.length:Int))
   ·cases c5:decide (next<=x.ar)
    rotate_left
    ·exact⟨_,qn,by simp only[BW,cA,hx,hw,h0',bJ,aI,h1,c5,EW,seval]⟩
    cases c6:decide ((64:Int)<(x.aK.length:Int))
    rotate_left
    ·exact⟨_,qn,by simp only[BW,cA,hx,hw,h0',bJ,aI,h1,c5,c6,EW,seval]⟩
    have i1:=next' (fun y hy=>by have:=(n9 hy).1; have:=aZ h1; omega) (by have:=aZ c5; omega) (by have:=aZ c6; omega)
    simp only[BW,cA,hx,hw,h0',bJ,aI,h1,c5,c6,EW,seval];exact i1
   ·obtain⟨y,d1,d2,d3,d4⟩:=sr (xs:=aa) (pre:=pre) aM hp (by simpa using h1)
    cases d5:decide (x.ar<=y.ar)
    rotate_left
    ·exact⟨_,qn,by simp only[BW,cA,hx,hw,h0',bJ,aI,h1,d1,d2,d3,d4,d5,EW,seval]⟩
    cases c5:decide (next<=x.ar)
    rotate_left
    ·exact⟨_,qn,by simp only[BW,cA,hx,hw,h0',bJ,aI,h1,c5,d1,d2,d3,d4,d5,EW,seval]⟩
    cases c6:decide ((64:Int)<(x.aK.length:Int))
    rotate_left
    ·exact⟨_,qn,by simp only[BW,cA,hx,hw,h0',bJ,aI,h1,c5,c6,d1,d2,d3,d4,d5,EW,seval]⟩
    have i1:=next' (fun z hz=>by
     have:=(n9 hz).2 aM;rw[d1] at this; injection this with this; rw[<-this]; have:=aZ d5; omega) (by have:=aZ c5; omega) (by have:=aZ c6; omega)
    simp only[BW,cA,hx,hw,h0',bJ,aI,h1,c5,c6,d1,d2,d3,d4,d5,EW,seval];exact i1
 obtain⟨r,h1,h2⟩:=key;obtain⟨b,rfl,h3⟩:=(hQ r).1 h1;exact⟨b,h2,h3⟩
end
structure wU(f:rR):Prop where
 pieces:f.pieces.length<=30
 dV:f.dV.length<=20
 aQ:∀p,p∈f.pieces->p.aQ.length<=1000
 aa:(f.dV.flatMap nz.aa).length<=210
 aK:∀x,x∈f.dV->∀n,n∈x.aa->n.aK.length<=70/\n.data.length<=5000
def wU.Lh{f:rR}(h:wU f){L:List Node}(hl:L.length<=1000)(hm:∀n,n∈L->n∈f.dV.flatMap nz.aa)(next ae:Int):Small ⟨L,next,ae⟩:=by
 have hb:∀n,n∈L->n.aK.length<=70/\n.data.length<=5000:=fun n hn=>by
  obtain⟨x,hx,hnx⟩:=gv.1 (hm n hn);exact h.aK x hx n hnx
 exact⟨by show L.length<=100000; omega,fun n hn=>by have:=(hb n hn).1; omega,fun n hn=>by have:=(hb n hn).2; omega⟩
def wU.len{f:rR}(h:wU f){x:nz}(hx:x∈f.dV):x.aa.length<=210 :=
 bg (List.sublist_flatten_of_mem (cm.2 ⟨x,hx,rfl⟩)).length_le (by have:=h.aa; rw[List.flatMap] at this; exact this)
def wU.small{f:rR}(h:wU f):∀x,x∈f.dV->Small ⟨x.aa,0,0⟩:=fun x hx=>h.Lh (by have:=h.len hx; omega) (fun n hn=>gv.2 ⟨x,hx,hn⟩) 0 0
section
attribute [local irreducible] fP fm kM gK dH kr aq aL cH bP
def x31{f:rR}(hf:wU f):∃b:Bool,aq fc 31 [iV f] []=some (.bool b,[])/\(b=true->Hh f):=by
 obtain⟨Q,hQ⟩:∃Q:ag×aO->Prop,∀r,Q r↔∃b:Bool,r=(.bool b,[])/\(b=true->Hh f):=⟨_,fun _=>pD⟩
 have qf:Q (.bool false,[]):=(hQ _).2 ⟨false,rfl,fun h=>by cases h⟩
 have key:∃r,Q r/\aq fc 31 [iV f] []=some r:=by
  refine wV (fun x h=>aw h) ?_
  obtain⟨b1,s1,s2⟩:=x74 (l:=f.pieces) (by have:=hf.pieces; omega) (fun p hp=>by have:=hf.aQ p hp; omega)
  have q1:∀M,aL (aq fc) 74 [bV f.pieces] M=some (.bool b1,M):=cP s1;cases b1
  ·exact⟨_,qf,by simp only[NW,Pq,iV,bL,q1,EW,seval]⟩
  have hl:=s2.1 rfl;cases g1:decide ((8:Int)<(f.dV.length:Int))
  rotate_left
  ·exact⟨_,qf,by simp only[NW,Pq,iV,bL,q1,g1,EW,seval]⟩
  have q2:∀M,aL (aq fc) 17 [.agg (bL f)] M=some (.agg [aV (qk (f.dV.flatMap nz.aa)),aH f.next,aH f.ae],M):=fun M=>lS (cO (w17 (f:=f) (by have:=hf.aa; omega) (by have:=hf.dV; omega)) M)
  have hsm:Small ⟨qk (f.dV.flatMap nz.aa),f.next,f.ae⟩:=hf.Lh (by have:=hf.aa; rw[DY]; omega) (fun n hn=>(xy _).mem_iff.1 hn) _ _
  have hnn:=hf.aa;generalize qk (f.dV.flatMap nz.aa)=ns at q2 hsm;obtain⟨b2,t1,t2⟩:=x75 hsm;have q5:∀M,aL (aq fc) 75 [.agg [aV ns,aH f.next,aH f.ae]] M=some (.bool b2,M):=fun M=>lS (cO t1 M)
  have q4:=fun g M=>lS (k30 (f:=f) (g:=g) (by have:=hf.pieces; omega) (by have:=hf.dV; omega) hf.small M)
  simp only[bL] at q2 q4;simp only[NW,Pq,iV,bL,q1,g1,EW,seval]
  refine qV (xs:=f.dV) (by have:=hf.dV; omega) (fun i (n:Nat)=>n=((f.dV.take i).flatMap nz.aa).length) (fun n i=>[(1,dC 0),(3,aH n),(20,mf f.dV),(21,aH f.dV.length),(22,aH i)])
   (fun _=>[cL [bV f.pieces,mf f.dV,aH f.next,aH f.ae]]) Q (fun n hn=>?_) (fun pre x post n hh hx cA hw hz hm hn hi=>?_) 0 rfl
  ·cases g2:decide ((200:Int)<(n:Int))
   rotate_left
   ·exact⟨_,qf,by simp only[Pq,aX,g2,q2,EW,seval]⟩
   cases b2
   ·exact⟨_,qf,by simp only[Pq,aX,g2,q2,q5,EW,seval]⟩
   have hrg:=t2 rfl;have hg:=hrg.abw;have q6:=k49 hg hl;cases h6:(kU f.pieces ns).2<;>rw[h6] at q6
   ·exact⟨_,qf,by simp only[Pq,aX,g2,q2,q5,q6,EW,seval]⟩
   have hmay:=(vp hg hl).1 h6;have hfi:FI f.pieces ⟨ns,f.next,f.ae⟩:=⟨⟨_,hg⟩,hl,hmay⟩
   have q3:=fun M=>lS (hfi.wg M)
   have q4:=q4 (bG f.pieces ⟨ns,f.next,f.ae⟩)
   have hfin:=LW hrg hl hmay;generalize bG f.pieces ⟨ns,f.next,f.ae⟩=g at q3 q4 hfin
   simp only[bL] at q3;exact⟨(.bool (decide (f=g)),[]),(hQ _).2 ⟨_,rfl,fun h=>hfin (bN h)⟩,by simp only[Pq,aX,g2,q2,q3,q4,q5,q6,EW,seval]⟩
  ·have h1:f.dV.take (pre.length+1)=pre++[x]:=by rw[hh,show pre++x::post=(pre++[x])++post by simp]; exact oI dk
   have h2:f.dV.take pre.length=pre:=by rw[hh]; simp
   have h3:n+x.aa.length<=210:=by
    have e:(pre.flatMap nz.aa).length+x.aa.length<=(f.dV.flatMap nz.aa).length:=by rw[hh]; simp
    rw[hn,h2]; omega
   have i1:=hi (n+x.aa.length) (by rw[h1,hn,h2]; simp)
   have hw2:IntKind.i64.wrap ((n:Int)+(x.aa.length:Int))=((n+x.aa.length:Nat):Int):=by rw[gb aM aM]; omega
   simp only[Pq,cA,hx,hw,hw2,hz,lB,p7,nS,az,EW,seval];exact i1
 obtain⟨r,h1,h2⟩:=key;obtain⟨b,rfl,h3⟩:=(hQ r).1 h1;exact⟨b,h2,h3⟩
end
def leB(a b:Bytes):(strLt a b||a==b) = !strLt b a:=by
 rcases oA a b with h|h|h
 ·rw[h,pN h]; rfl
 ·subst h; rw[gZ]; simp
 ·rw[h,pN h,ck.2 fun e=>by rw[e,gZ] at h; cases h]; rfl
section
attribute [local irreducible] fP fm kM gK dH kr aq aL cH bP
def x79{l:List Piece}(hn:l.length<=1000)(hp:∀p,p∈l->p.aQ.length<=100000):∃b:Bool,aq dp 79 [bV l] []=some (.bool b,[])/\(b=true↔kc l):=by
 cases b1:decide ((l.length:Int)<1)
 rotate_left
 ·exact⟨false,(by refine aw ?_; simp only[QT,Nc,b1,EW,seval]),rH fun h=>by obtain⟨p,r,rfl,_⟩:=h.fst; simp at b1; omega⟩
 cases b2:decide ((16:Int)<(l.length:Int))
 rotate_left
 ·exact⟨false,(by refine aw ?_; simp only[QT,Nc,b1,b2,EW,seval]),rH fun h=>by have:=h.many; have:=bN b2; omega⟩
 have hm16:l.length<=16:=by have:=aZ b2; omega
 obtain⟨p0,r0,hl⟩:∃r rest,l=r::rest:=by cases l with
  |nil=>simp at b1
  |cons r rest=>exact⟨r,rest,rfl⟩
 have h0:l[0]?=some p0:=by rw[hl]; rfl
 cases b3:(p0.aQ != [47])
 rotate_left
 ·exact⟨false,(by refine aw ?_; simp only[QT,Nc,b1,b2,h0,b3,cS,eI,cI,EW,seval]),rH fun h=>by obtain⟨p,r,rfl,hpp⟩:=h.fst; cases hl; rw[hpp] at b3; cases b3⟩
 obtain⟨Q,hQ⟩:∃Q:ag×aO->Prop,∀r,Q r↔∃b:Bool,r=(.bool b,[])/\(b=true↔kc l):=⟨_,fun _=>pD⟩
 have qn:¬kc l->Q (.bool false,[]):=fun h=>(hQ _).2 ⟨false,rfl,rH h⟩
 have key:∃r,Q r/\aq dp 79 [bV l] []=some r:=by
  refine wV (fun x h=>aw h) ?_
  simp only[QT,Nc,b1,b2,h0,b3,cS,eI,cI,EW,seval];refine qV (xs:=l) aM (fun m (_:Unit)=>((l.take m).Pairwise fun a b=>strLt a.aQ b.aQ=true)/\∀p,p∈l.take m->okP p) (fun _ i=>[(0,bV l),(3,aH i)]) (fun _=>[]) Q (fun _ hI=>?_) (fun pre x post _ e hx cA hw hz hm hI hi'=>?_) () ⟨List.Pairwise.nil,fun _ h=>by cases h⟩
  ·rw[bT] at hI;exact⟨(.bool true,[]),(hQ _).2 ⟨true,rfl,fun _=>⟨⟨p0,r0,hl,by simpa using b3⟩,hm16,hI.2,hI.1⟩,fun _=>rfl⟩,by simp only[Nc,aX,EW,seval]⟩
  ·have hp':=(au.1 hx).1;have q1:=Ig x.aQ (hp x hm);cases c1:((bI x.aQ).2 != 0)
   rotate_left
   ·exact⟨_,qn fun h=>by have:=(h.ok x hm).1; simp[this] at c1,by simp only[Nc,cA,hx,hw,hz,q1,c1,cS,eI,cI,EW,seval]⟩
   cases c2:decide (x.group<0)
   rotate_left
   ·exact⟨_,qn fun h=>by have:=(h.ok x hm).2.1; have:=bN c2; omega,by simp only[Nc,cA,hx,hw,hz,q1,c1,c2,cS,eI,cI,EW,seval]⟩
   cases c3:decide ((8:Int)<=x.group)
   rotate_left
   ·exact⟨_,qn fun h=>by have:=(h.ok x hm).2.2.1; have:=bN c3; omega,by simp only[Nc,cA,hx,hw,hz,q1,c1,c2,c3,cS,eI,cI,EW,seval]⟩
   cases c4:decide (x.dR<1)
   rotate_left
   ·exact⟨_,qn fun h=>by have:=(h.ok x hm).2.2.2.1; have:=bN c4; omega,by simp only[Nc,cA,hx,hw,hz,q1,c1,c2,c3,c4,cS,eI,cI,EW,seval]⟩
   cases c5:decide ((1099511627776:Int)<x.dR)
   rotate_left
   ·exact⟨_,qn fun h=>by have:=(h.ok x hm).2.2.2.2; have:=bN c5; omega,by simp only[Nc,cA,hx,hw,hz,q1,c1,c2,c3,c4,c5,cS,eI,cI,EW,seval]⟩
   have ho:okP x:=⟨by simpa using c1,by have:=aZ c2; omega,by have:=aZ c3; omega,by have:=aZ c4; omega,by have:=aZ c5; omega⟩
   have next':(∀y,(l.take pre.length).getLast?=some y->strLt y.aQ x.aQ=true)->∃r,Q r/\_:=fun h1=>hi' () ⟨by rw[iG hx]; exact MN (R:=fun a b:Piece=>strLt a.aQ b.aQ=true) mZ hI.1 h1,fun n hn=>by
    rw[iG hx] at hn;rcases bC.1 hn with hn|hn
    ·exact hI.2 n hn
    ·rw[bU] at hn; subst hn; exact ho⟩
   cases h1:decide ((0:Int)<(pre.length:Int))
   ·have i1:=next' (fun y hy=>by have:=(n9 hy).1; have:=aZ h1; omega)
    simp only[Nc,cA,hx,hw,hz,q1,c1,c2,c3,c4,c5,h1,cS,eI,cI,EW,seval];exact i1
   ·obtain⟨y,d1,d2,d3,d4⟩:=sr (xs:=l) (pre:=pre) aM hp' (by simpa using h1)
    cases d5:strLt y.aQ x.aQ
    ·exact⟨_,qn fun h=>by have:=uM h.iW d1 hx (by simp at h1; omega); rw[d5] at this; (cases this),by simp only[Nc,cA,hx,hw,hz,q1,c1,c2,c3,c4,c5,h1,d1,d2,d3,d4,leB,d5,cG,dG,cS,eI,cI,EW,seval]⟩
    have i1:=next' (fun z hz=>by
     have:=(n9 hz).2 aM;rw[d1] at this; injection this with this; rw[<-this]; exact d5)
    simp only[Nc,cA,hx,hw,hz,q1,c1,c2,c3,c4,c5,h1,d1,d2,d3,d4,leB,d5,cG,dG,cS,eI,cI,EW,seval];exact i1
 obtain⟨r,h1,h2⟩:=key;obtain⟨b,rfl,h3⟩:=(hQ r).1 h1;exact⟨b,h2,h3⟩
end
def cF.chain{t:Tree}{cz:Int->Nat}(h:cF t cz 0):∀(d:Nat)(i:Int)(n:Node),find t.aa i=some n->n.kind=2->cz i=d->chain t.aa d i
 |0,i,n,hf,hk,hd=>by
  rcases Int.decEq i 1 with h1|h1
  ·have:=(h.sW i n hf hk h1).1; omega
  ·exact h1
 |d+1,i,n,hf,hk,hd=>by
  have h1:i≠1:=fun e=>by rw[e,h.zC] at hd; omega
  obtain⟨a,p,b,c⟩:=h.sW i n hf hk h1;exact⟨h1,n,hf,hk,h.chain d n.up p b c aM⟩
def cF.no1{t:Tree}{cz:Int->Nat}(h:cF t cz 0):mJ t.aa 1=0:=by
 rcases eL (mJ t.aa 1) with h0|h0
 ·exact h0
 ·obtain⟨m,e,e1,e2,e3⟩:=pS.1 h0;exact absurd e3 (h.sX _ _ e ((fp h.jK.iW).2 ⟨e1,rfl⟩) e2).2.2.1
def cF.rg{t:Tree}{cz:Int->Nat}(h:cF t cz 0):Rg t:=by
 have hf:∀n,n∈t.aa->find t.aa n.ar=some n:=fun n hn=>(fp h.jK.iW).2 ⟨hn,rfl⟩
 obtain⟨r,hr,hrk,hru⟩:=h.root;obtain⟨hrm,hri⟩:=cr hr;refine⟨?_,h.aa,h.next,h.ae,h.jK.iW,fun n hn=>(h.num _ _ (hf n hn)).2,fun n hn=>(h.wL _ _ (hf n hn)).2,fun n hn=>h.kind _ _ (hf n hn),fun n hn hk=>?_,fun n hn hk=>h.dir _ _ (hf n hn) hk,fun n hn hk=>?_,fun n hn hk h1=>?_,fun n hn hk h1=>?_,fun n hn hk h1=>?_⟩
 ·cases hns:t.aa with
  |nil=>rw[hns] at hrm; cases hrm
  |cons x xs =>
   have hx:x∈t.aa:=by rw[hns]; simp
   have hxr:x=r:=by
    rw[hns] at hrm;rcases ba.1 hrm with e|hm
    ·exact e.symm
    ·have ha:=h.jK.iW;rw[hns] at ha;have:=(bR.1 ha).1 r hm;have:=(h.num _ _ (hf x hx)).1;omega
   subst hxr;exact⟨x,xs,rfl,hri,hrk⟩
 ·obtain⟨a,b,c⟩:=h.file _ _ (hf n hn) hk;have hl:=h.df _ _ (hf n hn);rw[aj (by have:=(h.num _ _ (hf n hn)).1; omega)] at hl
  exact⟨a,b,c,aM⟩
 ·refine⟨h.jK.aK n hn,(h.wL _ _ (hf n hn)).1,fun e he=>?_⟩
  obtain⟨a,b,_,d,m,hm,_⟩:=h.sX _ _ e (hf n hn) he;exact⟨by rw[hm]; rfl,d,a,b⟩
 ·have hnr:n=r:=by
   have:=hf n hn;rw[h1,hr] at this; injection this with this; exact this.symm
  subst hnr;have hl:=h.df _ _ hr;rw[aj aM,h.no1] at hl;exact⟨hru,aM,h.no1⟩
 ·have ho:=h.one _ _ (hf n hn) hk h1;have hl:=h.df _ _ (hf n hn);rw[aj (by have:=(h.num _ _ (hf n hn)).1; omega)] at hl
  have hc:mJ t.aa n.ar=1:=aM;obtain⟨p,e,p1,p2,p3⟩:=pS.1 (show 0<mJ t.aa n.ar by omega)
  obtain⟨_,_,_,_,m,hm,hu⟩:=h.sX _ _ e (hf p p1) p2;rw[p3,hf n hn] at hm; cases hm;exact⟨ho,hc,p,e,p1,(hu hk).symm,p2,p3⟩
 ·obtain⟨a,b⟩:=h.deep _ _ (hf n hn) hk;exact⟨_,h.chain _ _ n (hf n hn) hk rfl,a,b⟩
def Ui(i u:Int):∀ns:List Node,yZ ns i u<=mJ ns i
 | []=>by simp[yZ]
 |n::r=>by
  rw[zV,nR];have:=Ui i u r;split<;>omega
def MG{i u:Int}{p:Node}:∀ {ns:List Node},p∈ns->p.ar=u->0<jW p.aK i->0<yZ ns i u
 |n::r,hp,hu,hc=>by
  rw[zV];rcases ba.1 hp with rfl|hp
  ·rw[av hu]; omega
  ·have:=MG hp hu hc; omega
def Bx{ns:List Node}:∀ {d:Nat} {i:Int},chain ns d i->∀m,d<m->ke ns 1 m i=true
 |0,i,h,m+1,_=>by
  have h:i=1:=h;unfold ke;rw[av h]
 |d+1,i,⟨h1,n,hn,_,h⟩,m+1,hm=>by
  unfold ke;rw[aj h1,aj h1,show Ad ns i=n.up by simp[Ad,hn]]
  exact Bx h m aM
structure Lw(ns:List Node)(ae:Int)(n:Node):Prop where
 kind:n.kind=1\/n.kind=2
 file:n.kind=1->n.aK=[]/\n.up=0/\n.data.length<=4096/\n.df=(mJ ns n.ar:Int)
 dir:n.kind=2->n.data=[]/\th ns ae n.aK/\n.aK.length<=64
 root:n.kind=2->n.ar=1->n.up=1/\n.df=0/\mJ ns n.ar=0
 one:n.kind=2->n.ar≠1->mJ ns n.ar=1/\yZ ns n.ar n.up=1/\n.df=1
structure DR(t:Tree):Prop where
 head:∃r rest,t.aa=r::rest/\r.ar=1/\r.kind=2
 NS:t.aa.length<=200
 next:t.next<=1099511627776
 ae:1<=t.ae/\t.ae<=1099511627776
 iW:ng t.aa
 all:∀n,n∈t.aa->n.ar<t.next/\n.aK.length<=64/\Lw t.aa t.ae n
 deep:∀n,n∈t.aa->n.kind=2->jr t.aa n.ar 1=true/\jx t.aa n.ar<=12/\(jx t.aa n.ar=12->n.aK=[])
def DR.rg{t:Tree}(h:DR t):Rg t:=by
 have hk:∀n,n∈t.aa->n.kind=1\/n.kind=2:=fun n hn=>(h.all n hn).2.2.kind
 obtain⟨r,rest,r1,r2,r3⟩:=h.head
 have hge:∀n,n∈t.aa->1<=n.ar:=fun n hn=>by
  rw[r1] at hn;rcases ba.1 hn with rfl|hn
  ·omega
  ·have ha:=h.iW;rw[r1] at ha;have:=(bR.1 ha).1 n hn;omega
 have h0:find t.aa 0=none:=by
  cases hz:find t.aa 0 with
  |none=>rfl
  |some n =>
   obtain⟨a,b⟩:=cr hz;have:=hge n a; omega
 refine⟨h.head,h.NS,h.next,h.ae,h.iW,fun n hn=>(h.all n hn).1,fun n hn=>(h.all n hn).2.1,hk,fun n hn=>(h.all n hn).2.2.file,fun n hn hk=>((h.all n hn).2.2.dir hk).1,fun n hn hk=>?_,fun n hn hk h1=>?_,fun n hn hk h1=>?_,fun n hn hk h1=>?_⟩
 ·obtain⟨_,e,_⟩:=(h.all n hn).2.2.dir hk;exact⟨e.iW,e.cks,fun x hx=>⟨(e.sX x hx).there,(e.sX x hx).name,(e.sX x hx).low,(e.sX x hx).high⟩⟩
 ·obtain⟨a,b,c⟩:=(h.all n hn).2.2.root hk h1;rw[h1] at c;exact⟨a,b,c⟩
 ·obtain⟨a,b,c⟩:=(h.all n hn).2.2.one hk h1;exact⟨c,a,GU aM⟩
 ·obtain⟨a,b,c⟩:=h.deep n hn hk;obtain⟨d,d1,d2⟩:=Bt h0 (fun n hn=>(h.all n hn).2.2.kind) (fun n hn hk=>((h.all n hn).2.2.file hk).2.1) _ _ a
  have e:jx t.aa n.ar=d:=by
   unfold jx;rw[w9 d2 _ _ (by have:=h.NS; omega)]; omega
  rw[e] at b c;exact⟨d,d2,b,c⟩
def cF.dr{t:Tree}{cz:Int->Nat}(g:cF t cz 0):DR t:=by
 have h:=g.rg;have hf:∀n,n∈t.aa->find t.aa n.ar=some n:=fun n hn=>(fp h.iW).2 ⟨hn,rfl⟩
 refine⟨h.head,h.NS,h.next,h.ae,h.iW,fun n hn=>⟨h.lt n hn,h.aK n hn,h.kind n hn,h.file n hn,fun hk=>?_,fun hk h1=>?_,fun hk h1=>?_⟩,fun n hn hk=>?_⟩
 ·obtain⟨a,b,c⟩:=h.names n hn hk;exact⟨h.data n hn hk,⟨a,b,fun e he=>⟨(c e he).1,(c e he).2.1,(c e he).2.2.1,(c e he).2.2.2⟩⟩,h.aK n hn⟩
 ·rw[h1]; exact h.root n hn hk h1
 ·obtain⟨a,b,p,e,p1,p2,p3,p4⟩:=h.yh n hn hk h1;have:=MG (i:=n.ar) p1 p2 (ua.2 ⟨e,p3,p4⟩);have:=Ui n.ar n.up t.aa;exact⟨b,aM,a⟩
 ·have hc:=g.chain _ _ n (hf n hn) hk rfl;have hd:=g.w8 (hf n hn) hk;obtain⟨a,b⟩:=g.deep _ _ (hf n hn) hk
  have e:jx t.aa n.ar=cz n.ar:=by
   unfold jx;rw[w9 hc _ _ (by have:=h.NS; omega)]; omega
  rw[e];exact⟨Bx hc _ aM,a,b⟩
end Go.Proofs.YtcbopkblmebjiaaGreatDoor
