import Derived.KernelRfl
import Derived.Test.YtcbopkblmebjiaaGreatDoorFduE
set_option linter.unusedSimpArgs false
set_option linter.unusedVariables false
set_option linter.unusedSectionVars false
set_option linter.defProp false
open Go.Proofs.Tryz
namespace Go.Proofs.YtcbopkblmebjiaaGreatDoor
open Go Go.Abs
section
attribute [local irreducible] fS fp kH gK dv kr aq aM cv bJ
def aa4(ae:List Node)(next ai au:Int)(s:Bytes)(ht:Small ⟨ae,next,ai⟩)(M:aL):aM (aq c9) 115 [.agg [a8 ae,aG next,aG ai],aG au,.str s] M =
  some (.agg [a8 (dx ae au s),aG next,aG ai],M):=cO (ajA ⟨ae,next,ai⟩ au s ht) M
def Wk{T:List ag}{n:Node}{e:eD}(hn:n.aN.length<=100000){k:List K}{R:List eD->Bool->Option (ag×aL)}
  (hx:∀out done v q,out.length<=300000->kr (aq c9) [.fG 8 3] 0 k ⟨.exit 0,[(2,.str e.name),(4,cL 0),(8,cL 1),(9,cL 2),(11,cL 3),(12,.slice (.own 4) (out.map gk)),(13,.bool done),(14,v),(30,q)],[.cells T,.cells zT,cm (aV n),cm (ew e),.tick 3 out.length]⟩=R out done)
  (hT:∀B M,T.map (ag.jC B M)=T) :
  ∀(l pre out:List eD)(done:Bool),n.aN=pre++l->out.length+2*l.length<=300000->fS (aq c9) [.fG 8 3] 0 k (.loop [2,4,8,9,11,12,13,14] VT) [(2,.str e.name),(4,cL 0),(8,cL 1),(9,cL 2),(11,cL 3),(12,.slice (.own 4) (out.map gk)),(13,.bool done),(14,aG pre.length)] [.cells T,.cells zT,cm (aV n),cm (ew e),.tick 3 out.length]=R (uW e l out done).1 (uW e l out done).2:=by
 intro l;induction l with
 |nil =>
  intro pre out done h ho;rw[bZ];simp only[FF,aV,ij,oy h,EN,seval];exact hx _ _ _ _ (by simp at ho; omega)
 |cons m r ih =>
  intro pre out done h ho;rw[bZ];have eY:pre.length+1<=100000:=by rw[h] at hn; simp at hn; omega
  have hw:=GI pre m;have hi:=fun out done ho=>ih (pre++[m]) out done (by rw[h]; simp) ho
  simp only[av] at ho;have r1:dQ (out.length+1) 32=True:=xR;have r2:dQ (out.length+1+1) 32=True:=xR;have hg:(!(strLt m.name e.name||m.name==e.name))=Y6 m.name e.name:=rfl
  rw[uW];simp only[FF,hg,aV,ij,mR h,ji h,ew,hT,zT,EN,seval]
  repeat' ((first|apply bL|apply cK|apply eZ)<;>intro hb<;>simp only[hb,EN,FF,ji h,hw,r1,r2,ew,hT,zT,hg,seval])
  all_goals try simp only[FF,ji h,hw,r1,r2,ew,hT,zT,hg,EN,seval]
  all_goals first
   |(refine cZ ?_ ((hi (out++[e]++[m]) true (by simp; omega)).trans ?_)
     ·simp only[bC,aW,bp,aK,av,aH]; rfl
     ·clear hi ih hx hw h hT hg; simp_all; done)
   |(refine cZ ?_ ((hi (out++[m]) done (by simp; omega)).trans ?_)
     ·simp only[bC,aW,bp,aK,av,aH]; rfl
     ·clear hi ih hx hw h hT hg; simp_all; done)
def ajx(t:Tree)(au:Int)(s:Bytes)(of:Int)(ht:Small t):aq c9 111 [bK t,aG au,.str s,aG of] []=some (bK (gN t au s of),[]):=by
 refine aJ ?_;have hd:=Eb ht au;unfold gN;simp only[P7,FF,bK,bd,Gc,ht.ae,cn,EN,seval];generalize (find t.ae au).getD Node.zero=n at hd ⊢;simp only[FF,aV,EN,seval];refine(Wk (e:=⟨s,of,t.ai⟩) (R:=fun out done=>some (bK ⟨eM t.ae { n with aN:=out++(if done then [] else [⟨s,of,t.ai⟩]) },t.next,mM (t.ai+1)⟩,[])) hd (fun out done v e ho=>?_) (fun B M=>by simp only[FF,EN,seval]) n.aN [] [] false rfl (by simp; omega)).trans (by simp[bK,bd,sV])
 have r1:dQ (out.length+1) 32=True:=xR;cases done
 ·simp only[FF,zT,aV,ew,r1,WM,HT,ht.ae,EN,seval];simp[bK,bd]
 ·simp only[FF,zT,aV,ew,r1,HT,ht.ae,EN,seval];simp[bK,bd]
def VC(ae:List Node)(next ai au:Int)(s:Bytes)(of:Int)(ht:Small ⟨ae,next,ai⟩)(M:aL):aM (aq c9) 111 [.agg [a8 ae,aG next,aG ai],aG au,.str s,aG of] M =
  some (bK (gN ⟨ae,next,ai⟩ au s of),M):=cO (ajx ⟨ae,next,ai⟩ au s of ht) M
def Wp{t:Tree}(ht:t.ae.length<=100000){k:List K}{R:Nat->Option (ag×aL)}
  (hx:∀(d:Nat) v q,kr (aq c9) [.tmp 4] 0 k ⟨.exit 0,[(1,v),(2,cL 0),(5,aG d),(13,q)],[cm (bd t)]⟩=R d) :
  ∀(m:Nat)(au:Int)(d:Nat),d+m=201->fS (aq c9) [.tmp 4] 0 k (.loop [1,2,5] VY) [(1,aG au),(2,cL 0),(5,aG d)] [cm (bd t)]=R (vy t.ae m au d):=by
 intro m;induction m with
 |zero =>
  intro au d hd;rw[bZ];have hd':((d:Int)<=200)=False:=by simp; omega
  simp only[Jf,EN,seval]
  repeat' ((first|apply bL|apply cK|apply eZ)<;>intro hb<;>simp only[hb,EN,Jf,hd',seval])
  all_goals exact hx _ _ _
 |succ m ih =>
  intro au d hd;rw[bZ];have hd':((d:Int)<=200)=True:=by simp; omega
  have hw:IntKind.i64.wrap ((d:Int)+1)=((d+1:Nat):Int):=by rw[gD (by omega) (by omega)]; rfl
  have hi:=fun au=>ih au (d+1) (by omega)
  rw[vy];simp only[Jf,EN,seval];refine cK (fun hb=>?_) (fun hb=>?_)
  ·simp only[Jf,hb,hd',hw,bd,Gc,ht,cn,aV,EN,seval];have h1:¬au=1:=by simpa using hb
   rw[ak h1];exact hi _
  ·simp only[Jf,hb,hd',hw,bd,Gc,ht,cn,aV,EN,seval];have h1:au=1:=by simpa using hb
   rw[az h1];exact hx _ _ _
def ajE(t:Tree)(au:Int)(ht:t.ae.length<=100000):aq c9 120 [bK t,aG au] []=some (aG (po t.ae au),[]):=by
 refine aJ ?_;simp only[X5,Jf,bK,EN,seval];exact Wp (R:=fun(d:Nat)=>some (aG d,[])) ht (fun d v q=>by simp only[Jf,EN,seval]) 201 au 0 rfl
def NR(ae:List Node)(next ai au:Int)(h:ae.length<=100000)(M:aL):aM (aq c9) 120 [.agg [a8 ae,aG next,aG ai],aG au] M=some (aG (po ae au),M) :=
 cO (ajE ⟨ae,next,ai⟩ au h) M
def akc(t:Tree)(n:Node)(ht:Small t):aq c9 179 [bK t,cn n] []=some (.bool (CN t n),[]):=by
 refine aJ ?_;simp only[YC,ad1,bK,bd,cn,aV,NR,ht.ae,EN,seval];unfold CN
 repeat' ((first|apply bL|apply cK|apply eZ)<;>intro hb<;>simp only[hb,EN,ad1,NR,ht.ae,seval])
 all_goals simp_all
def alr(ae:List Node)(next ai a b c:Int)(d:Bytes)(e:List eD)(u:Int)(h:Small ⟨ae,next,ai⟩)(M:aL):aM (aq c9) 179 [.agg [a8 ae,aG next,aG ai],.agg [aG a,aG b,aG c,jt d,ij e,aG u]] M =
  some (.bool (CN ⟨ae,next,ai⟩ ⟨a,b,c,d,e,u⟩),M):=cO (akc ⟨ae,next,ai⟩ ⟨a,b,c,d,e,u⟩ h) M
def ajw(t:Tree)(au:Int)(s:Bytes)(ht:Small t)(hs:s.length<=100000):aq c9 110 [bK t,aG au,.str s] []=some (aG (mw t au s),[]):=by
 refine aJ ?_;have hd:=tq ht au;have ht':Small ⟨t.ae,t.next,t.ai⟩:=ht
 simp only[XY,Fz,bK,bd,VD,ht.ae,cn,aV,EN,seval];unfold mw;refine bL (fun hb=>?_) (fun hb=>?_)
 ·simp only[Fz,EN,seval];simp_all
 ·simp only[Fz,QC,hs,EN,seval];refine bL (fun hb'=>?_) (fun hb'=>?_)
  ·simp only[Fz,EN,seval];simp_all
  ·simp only[Fz,aa5,hd,EN,seval];rcases sY s (gA t.ae au).1.aN 0 with ⟨h1,h2⟩|⟨m,n,h1,h2,h3⟩
   ·rw[h2];simp only[Fz,alr,ht',EN,seval];refine bL (fun hb''=>?_) (fun hb''=>?_)
    ·simp only[Fz,EN,seval];simp_all
    ·simp only[Fz,EN,seval];simp_all
   ·rw[h3];simp only[Fz,EN,seval];simp_all
def aa2(ae:List Node)(next ai au:Int)(s:Bytes)(ht:Small ⟨ae,next,ai⟩)(hs:s.length<=100000)(M:aL):aM (aq c9) 110 [.agg [a8 ae,aG next,aG ai],aG au,.str s] M =
  some (aG (mw ⟨ae,next,ai⟩ au s),M):=cO (ajw ⟨ae,next,ai⟩ au s ht hs) M
def agZ(ae:List Node)(next ai a b c u:Int)(h:ae.length<=100000)(M:aL):aM (aq c9) 112 [.agg [a8 ae,aG next,aG ai],.agg [aG a,aG b,aG c,kJ [],kJ [],aG u]] M =
  some (.agg [a8 (eM ae ⟨a,b,c,[],[],u⟩),aG next,aG ai],M):=HT ae next ai a b c [] [] u h M
def Oz{t:Tree}(hz:Sz 1000 t)(k u next ai a c:Int):Small ⟨eM t.ae ⟨a,k,c,[],[],u⟩,next,ai⟩:=(hz.with (by simp) (by simp) next ai).small (by omega)
set_option maxHeartbeats 1000000 in
def c54(t:Tree)(au:Int)(s:Bytes)(kind:Int)(hz:Sz 1000 t)(hs:s.length<=100000):aq c9 54 [bK t,aG au,.str s,aG kind] []=some (.tuple [bK (nu t au s kind).1,aG (nu t au s kind).2.1,aG (nu t au s kind).2.2],[]):=by
 obtain⟨ae,next,ai⟩:=t
 refine aJ ?_;have ht:Small ⟨ae,next,ai⟩:=hz.small (by omega)
 have hn:ae.length<=100000:=ht.ae;have hw:=fun k u next' cookie' a c=>Oz hz k u next' cookie' a c
 simp only[agp,E54,bK,bd,aa2,ht,hs,EN,seval]
 repeat' ((first|apply bL|apply cK|apply eZ)<;>intro hb<;>simp only[hb,EN,E54,aa2,ht,hs,hn,agZ,VC,hw,bK,bd,seval])
 all_goals (clear hw; simp_all only[nu,bK,bd,vp,↓reduceIte,reduceCtorEq,an]; done)
def acO{t:Tree}{of:Int}(ht:t.ae.length<=100000){k:List K}{R:Bool->Option (ag×aL)}
  (hx:∀e,kr (aq c9) [.tmp 6] 0 k ⟨.exit 0,e,[cm (bd t)]⟩=R false) (hr:∀b,kr (aq c9) [.tmp 6] 0 k ⟨.ret,[(6,.bool b)],[cm (bd t)]⟩=R b) :
  ∀(m:Nat)(au:Int)(d:Nat),d+m=t.ae.length+1->fS (aq c9) [.tmp 6] 0 k (.loop [1,2,3,7] acF) [(1,aG au),(2,aG of),(3,cL 0),(7,aG d)] [cm (bd t)]=R (mn t.ae of m au):=by
 intro m;induction m with
 |zero =>
  intro au d hd;rw[bZ];have hd':((d:Int)<=(t.ae.length:Int))=False:=by simp; omega
  simp only[UK,bd,a8,hd',EN,seval];exact hx _
 |succ m ih =>
  intro au d hd;rw[bZ];have hd':((d:Int)<=(t.ae.length:Int))=True:=by simp; omega
  have hw:IntKind.i64.wrap ((d:Int)+1)=((d+1:Nat):Int):=by rw[gD (by omega) (by omega)]; rfl
  have hi:=fun au=>ih au (d+1) (by omega)
  rw[mn];simp only[UK,bd,a8,hd',EN,seval];refine bL (fun hb=>?_) (fun hb=>?_)
  ·have h1:au=of:=by simpa using hb
   simp only[UK,EN,seval];rw[az h1];exact hr _
  ·have h1:¬au=of:=by simpa using hb
   simp only[UK,EN,seval];rw[ak h1];refine bL (fun hb=>?_) (fun hb=>?_)
   ·have h1:au=1:=by simpa using hb
    simp only[UK,EN,seval];rw[az h1];exact hr _
   ·have h1:¬au=1:=by simpa using hb
    simp only[UK,hw,Gc,ht,cn,aV,EN,seval];rw[ak h1];exact hi _
def c27(t:Tree)(au of:Int)(ht:t.ae.length<=100000):aq c9 27 [bK t,aG au,aG of] []=some (.bool (iV t.ae au of),[]):=by
 refine aJ ?_;simp only[agb,UK,bK,EN,seval];exact acO (R:=fun b=>some (.bool b,[])) ht (fun e=>by simp only[UK,EN,seval]) (fun b=>by simp only[UK,EN,seval]) (t.ae.length+1) au 0 (by omega)
def k27(ae:List Node)(next ai au of:Int)(h:ae.length<=100000)(M:aL):aM (aq c9) 27 [.agg [a8 ae,aG next,aG ai],aG au,aG of] M=some (.bool (iV ae au of),M) :=
 cO (c27 ⟨ae,next,ai⟩ au of h) M
def k54(ae:List Node)(next ai au:Int)(s:Bytes)(kind:Int)(hz:Sz 1000 ⟨ae,next,ai⟩)(hs:s.length<=100000)(M:aL):aM (aq c9) 54 [.agg [a8 ae,aG next,aG ai],aG au,.str s,aG kind] M =
  some (.tuple [bK (nu ⟨ae,next,ai⟩ au s kind).1,aG (nu ⟨ae,next,ai⟩ au s kind).2.1,aG (nu ⟨ae,next,ai⟩ au s kind).2.2],M):=cO (c54 ⟨ae,next,ai⟩ au s kind hz hs) M
def c52(t:Tree)(au to:Int)(s:Bytes)(hz:Sz 1000 t)(hs:s.length<=100000):aq c9 52 [bK t,aG au,aG to,.str s] []=some (.tuple [bK (BG t au to s).1,aG (BG t au to s).2],[]):=by
 obtain⟨ae,next,ai⟩:=t
 refine aJ ?_;have ht:Small ⟨ae,next,ai⟩:=hz.small (by omega)
 have hn:ae.length<=100000:=ht.ae;have hf:=hz.find au;have hw':∀l,Small ⟨eM ae { bE ae au with dp:=l },next,ai⟩:=fun l=>(hz.with (n:={ bE ae au with dp:=l }) (iA hf.1) hf.2 next ai).small (by omega)
 simp only[ago,E52,bK,bd,Gc,hn,cn,aV,EN,seval]
 repeat' ((first|apply bL|apply cK|apply eZ)<;>intro hb<;>simp only[hb,EN,E52,aa2,ht,hs,hn,HT,VC,hw',bK,bd,seval])
 all_goals (clear hw' hf; simp_all only[BG,bK,bd,vp,↓reduceIte,reduceCtorEq,an]; done)
def k52(ae:List Node)(next ai au to:Int)(s:Bytes)(hz:Sz 1000 ⟨ae,next,ai⟩)(hs:s.length<=100000)(M:aL):aM (aq c9) 52 [.agg [a8 ae,aG next,aG ai],aG au,aG to,.str s] M =
  some (.tuple [bK (BG ⟨ae,next,ai⟩ au to s).1,aG (BG ⟨ae,next,ai⟩ au to s).2],M):=cO (c52 ⟨ae,next,ai⟩ au to s hz hs) M
def ajz(t:Tree)(au:Int)(ht:Small t):aq c9 114 [bK t,aG au] []=some (bK ⟨gm t.ae au,t.next,t.ai⟩,[]):=by
 obtain⟨ae,next,ai⟩:=t
 refine aJ ?_;have hn:ae.length<=100000:=ht.ae;simp only[X0,adW,bK,bd,Gc,hn,cn,aV,EN,seval]
 repeat' ((first|apply bL|apply cK|apply eZ)<;>intro hb<;>simp only[hb,EN,adW,hn,HT,ag6,bK,bd,seval])
 all_goals (simp_all only[gm,bK,bd,vp,↓reduceIte,reduceCtorEq,an]; done)
def aa3(ae:List Node)(next ai au:Int)(ht:Small ⟨ae,next,ai⟩)(M:aL):aM (aq c9) 114 [.agg [a8 ae,aG next,aG ai],aG au] M =
  some (.agg [a8 (gm ae au),aG next,aG ai],M):=cO (ajz ⟨ae,next,ai⟩ au ht) M
def c55(t:Tree)(au:Int)(s:Bytes)(hz:Sz 1000 t)(hs:s.length<=100000):aq c9 55 [bK t,aG au,.str s] []=some (.tuple [bK (vJ t au s).1,aG (vJ t au s).2.1,aG (vJ t au s).2.2],[]):=by
 obtain⟨ae,next,ai⟩:=t
 refine aJ ?_;have ht:Small ⟨ae,next,ai⟩:=hz.small (by omega)
 have hn:ae.length<=100000:=ht.ae;have hl:Small ⟨dx ae au s,next,ai⟩:=(hz.left au s next ai).small (by omega)
 simp only[agq,E55,bK,bd,k56,ht,hs,cn,aV,EN,seval]
 repeat' ((first|apply bL|apply cK|apply eZ)<;>intro hb<;>simp only[hb,EN,E55,hn,ht,hs,Gc,aa4,aa3,hl,cn,aV,bK,bd,seval])
 all_goals (simp_all only[vJ,bK,bd,vp,↓reduceIte,reduceCtorEq,an]; done)
def k55(ae:List Node)(next ai au:Int)(s:Bytes)(hz:Sz 1000 ⟨ae,next,ai⟩)(hs:s.length<=100000)(M:aL):aM (aq c9) 55 [.agg [a8 ae,aG next,aG ai],aG au,.str s] M =
  some (.tuple [bK (vJ ⟨ae,next,ai⟩ au s).1,aG (vJ ⟨ae,next,ai⟩ au s).2.1,aG (vJ ⟨ae,next,ai⟩ au s).2.2],M):=cO (c55 ⟨ae,next,ai⟩ au s hz hs) M
def c119(t:Tree)(x:Node)(y:Int)(ht:Small t):aq c9 119 [bK t,cn x,aG y] []=some (aG (sF t.ae x.kind y),[]):=by
 obtain⟨ae,next,ai⟩:=t
 refine aJ ?_;have hn:ae.length<=100000:=ht.ae;simp only[X4,adX,bK,bd,Gc,hn,cn,aV,EN,seval]
 repeat' ((first|apply bL|apply cK|apply eZ)<;>intro hb<;>simp only[hb,EN,adX,seval])
 all_goals (simp_all only[sF,vp,↓reduceIte,reduceCtorEq,an]; done)
def ag0(ae:List Node)(next ai a b c:Int)(d:Bytes)(e:List eD)(u y:Int)(ht:Small ⟨ae,next,ai⟩)(M:aL):aM (aq c9) 119 [.agg [a8 ae,aG next,aG ai],.agg [aG a,aG b,aG c,jt d,ij e,aG u],aG y] M =
  some (aG (sF ae b y),M):=cO (c119 ⟨ae,next,ai⟩ ⟨a,b,c,d,e,u⟩ y ht) M
def akd(t:Tree)(au:Int)(ht:Small t):aq c9 180 [bK t,aG au] []=some (.tuple [bK (oT t au).1,aG (oT t au).2],[]):=by
 obtain⟨ae,next,ai⟩:=t
 refine aJ ?_;have hn:ae.length<=100000:=ht.ae;simp only[YD,ad2,bK,bd,Gc,hn,cn,aV,EN,seval]
 repeat' ((first|apply bL|apply cK|apply eZ)<;>intro hb<;>simp only[hb,EN,ad2,hn,ag6,bK,bd,seval])
 all_goals (simp_all only[oT,bK,bd,vp,↓reduceIte,reduceCtorEq,an]; done)
def als(ae:List Node)(next ai au:Int)(ht:Small ⟨ae,next,ai⟩)(M:aL):aM (aq c9) 180 [.agg [a8 ae,aG next,aG ai],aG au] M =
  some (.tuple [bK (oT ⟨ae,next,ai⟩ au).1,aG (oT ⟨ae,next,ai⟩ au).2],M):=cO (akd ⟨ae,next,ai⟩ au ht) M
def c41:aq c9 41 [] []=some (bK oU,[]):=by
 refine aJ ?_;simp only[agi,E41,EN,seval];rfl
def k41:=cP c41
def Wq{ae:List Node}{next ai au at' d:Int}(ht:ae.length<=100000){k:List K}{R:Int->Option (ag×aL)}
  (hx:∀most v q,kr (aq c9) [.tmp 6] 0 k ⟨.exit 0,[(1,aG au),(2,aG at'),(3,cL 0),(7,aG most),(8,aG d),(9,v),(19,q)],[cm (bd ⟨ae,next,ai⟩)]⟩=R most) :
  ∀(l pre:List Node)(most:Int),ae=pre++l->fS (aq c9) [.tmp 6] 0 k (.loop [1,2,3,7,8,9] VZ) [(1,aG au),(2,aG at'),(3,cL 0),(7,aG most),(8,aG d),(9,aG pre.length)] [cm (bd ⟨ae,next,ai⟩)]=R (vD ae au at' d l most):=by
 intro l;induction l with
 |nil =>
  intro pre most h;rw[bZ];simp only[O2,bd,oy h,EN,seval];exact hx _ _ _
 |cons n r ih =>
  intro pre most h;rw[bZ];have eY:pre.length+1<=100000:=by rw[h] at ht; simp at ht; omega
  have hw:=GI pre n;have hi:=fun most=>ih (pre++[n]) most (by rw[h]; simp)
  rw[vD];simp only[bd] at hi;generalize hst:sr ae au at' d n most=m1;simp only[O2,bd,mR h,ji h,aV,EN,seval]
  repeat' ((first|apply bL|apply cK|apply eZ)<;>intro hb<;>simp only[hb,EN,O2,hw,k27,NR,ht,aV,seval])
  all_goals refine cZ ?_ (hi m1)
  all_goals congr 1
  all_goals (subst hst; clear hi ih hx hw h ht; simp_all only[sr,mM,gt_iff_lt,aK,av,aH,aQ,vp,↓reduceIte,reduceCtorEq,an]; done)
def ajF(t:Tree)(au at':Int)(ht:t.ae.length<=100000):aq c9 121 [bK t,aG au,aG at'] []=some (aG (Bh t.ae au at'),[]):=by
 obtain⟨ae,next,ai⟩:=t
 have ht:ae.length<=100000:=ht;refine aJ ?_;simp only[X6,O2,bK,bd,NR,ht,EN,seval];exact Wq (R:=fun z=>some (aG z,[])) ht (fun most v q=>by simp only[O2,EN,seval]) ae [] 0 rfl
def ag1(ae:List Node)(next ai au at':Int)(h:ae.length<=100000)(M:aL):aM (aq c9) 121 [.agg [a8 ae,aG next,aG ai],aG au,aG at'] M=some (aG (Bh ae au at'),M) :=
 cO (ajF ⟨ae,next,ai⟩ au at' h) M
set_option maxHeartbeats 2000000 in
def c57(t:Tree)(mX:Int)(s:Bytes)(to:Int)(nm:Bytes)(hz:Sz 1000 t)(hs:s.length<=100000)(ha:nm.length<=100000):aq c9 57 [bK t,aG mX,.str s,aG to,.str nm] [] =
  some (.tuple [bK (wg t mX s to nm).1,aG (wg t mX s to nm).2.1,aG (wg t mX s to nm).2.2],[]):=by
 obtain⟨ae,next,ai⟩:=t
 have ht:Small ⟨ae,next,ai⟩:=hz.small (by omega)
 have hn:ae.length<=100000:=ht.ae;have hd:(gA ae to).1.aN.length<=100000:=tq ht to;have z1:Sz 1001 ⟨dx ae mX s,next,ai⟩:=hz.left mX s next ai
 have z2:Sz 1002 ⟨dx (dx ae mX s) to nm,next,ai⟩:=z1.left to nm next ai
 have z3:∀y,Sz 1003 ⟨gm (dx (dx ae mX s) to nm) y,next,ai⟩:=fun y=>z2.unnamed y next ai
 have hx:=hz.find (dV ae mX s).1;have z4:∀y,Sz 1004 ⟨eM (gm (dx (dx ae mX s) to nm) y) { bE ae (dV ae mX s).1 with up:=to },next,ai⟩:=fun y=>(z3 y).with (n:={ bE ae (dV ae mX s).1 with up:=to }) (bj hx.1 (by omega)) hx.2 next ai
 have z5:Sz 1002 ⟨eM (dx ae mX s) { bE ae (dV ae mX s).1 with up:=to },next,ai⟩:=z1.with (n:={ bE ae (dV ae mX s).1 with up:=to }) (bj hx.1 (by omega)) hx.2 next ai
 have s1:=z1.small (by omega)
 have s2:=z2.small (by omega)
 have s3:=fun y=>(z3 y).small (by omega)
 have s4:=fun y=>(z4 y).small (by omega)
 have s5:=z5.small (by omega)
 have n1:(dx ae mX s).length<=100000:=s1.ae;have n3:∀y,(gm (dx (dx ae mX s) to nm) y).length<=100000:=fun y=>(s3 y).ae
 clear z1 z2 z3 z4 z5 hx;refine aJ ?_;simp only[ags,Pa,bK,bd,k56,ht,hs,EN,seval];refine bL (fun hb0=>?_) (fun hb0=>?_)
 ·simp only[Pa,hb0,EN,seval];clear s1 s2 s3 s4 s5 n1 n3;simp_all only[wg,bK,bd,vp,↓reduceIte,reduceCtorEq,an]
 simp only[Pa,hb0,VD,hn,cn,aV,EN,seval];refine bL (fun hb1=>?_) (fun hb1=>?_)
 ·simp only[Pa,hb1,EN,seval];clear s1 s2 s3 s4 s5 n1 n3;simp_all only[wg,bK,bd,vp,↓reduceIte,reduceCtorEq,an]
 simp only[Pa,hb1,QC,ha,EN,seval];refine bL (fun hb2=>?_) (fun hb2=>?_)
 ·simp only[Pa,hb2,EN,seval];clear s1 s2 s3 s4 s5 n1 n3;simp_all only[wg,bK,bd,vp,↓reduceIte,reduceCtorEq,an]
 simp only[Pa,hb2,aa5,hd,EN,seval];rcases sY nm (gA ae to).1.aN 0 with ⟨h1,h2⟩|⟨m,n,h1,h2,h3⟩
 ·have hu:ec (gA ae to).1.aN nm=0:=by simp[ec,h1]
  rw[h2];simp only[Pa,EN,seval]
  repeat' ((first|apply bL|apply cK|apply eZ)<;>intro hb<;>simp only[hb,EN,Pa,Gc,hn,ht,cn,aV,k27,ag0,NR,ag1,aa4,aa3,HT,VC,s1,s2,s3,s4,s5,n1,n3,bK,bd,seval])
  all_goals (clear s1 s2 s3 s4 s5 n1 n3 h2; simp_all only[wg,nZ,manyN,hu,bK,bd,vp,↓reduceIte,reduceCtorEq,an]; done)
 ·have hu:ec (gA ae to).1.aN nm=n.au:=by simp[ec,h2]
  rw[h3];simp only[Pa,h1,ew,EN,seval]
  repeat' ((first|apply bL|apply cK|apply eZ)<;>intro hb<;>simp only[hb,EN,Pa,Gc,hn,ht,cn,aV,k27,ag0,NR,ag1,aa4,aa3,HT,VC,s1,s2,s3,s4,s5,n1,n3,bK,bd,seval])
  all_goals (clear s1 s2 s3 s4 s5 n1 n3 h3; simp_all only[wg,nZ,manyN,hu,bK,bd,vp,↓reduceIte,reduceCtorEq,an]; done)
def k57(ae:List Node)(next ai mX:Int)(s:Bytes)(to:Int)(nm:Bytes)(hz:Sz 1000 ⟨ae,next,ai⟩)(hs:s.length<=100000)(ha:nm.length<=100000)(M:aL):aM (aq c9) 57 [.agg [a8 ae,aG next,aG ai],aG mX,.str s,aG to,.str nm] M =
  some (.tuple [bK (wg ⟨ae,next,ai⟩ mX s to nm).1,aG (wg ⟨ae,next,ai⟩ mX s to nm).2.1,aG (wg ⟨ae,next,ai⟩ mX s to nm).2.2],M):=cO (c57 ⟨ae,next,ai⟩ mX s to nm hz hs ha) M
end
def A3{t:Tree}(ht:Rt t){s:Bytes}{j:Int}(h:eF t s=(j,0)):∃n,find t.ae j=some n:=by
 obtain⟨cg,g⟩:=ht;obtain⟨l,_,hw⟩:=tz.1 h;obtain⟨r,hr,hrk,_⟩:=g.root;obtain⟨m,hm,_⟩:=g.MJ (pM.1 hw) hr (by simp[jy,hrk])
 exact⟨m,hm⟩
def qL(t:Tree)(s:Bytes):Int×Bytes×Int:=if (fC s).2.2 != 0 then (0,[],(fC s).2.2) else ((eF t (fC s).2.1).1,(fC s).1,(eF t (fC s).2.1).2)
def Fg(t:Tree)(s:Bytes):(qL t s).2.2=(lf t s).2.2:=by
 unfold qL lf;split
 ·rfl
 ·split
  ·rfl
  ·rename_i h; simpa using h
def IZ{t:Tree}{s:Bytes}(h:((lf t s).2.2 != 0)=false):qL t s=lf t s:=by
 unfold qL lf at *;split
 ·rfl
 ·rename_i h1;rw[ak h1] at h;split
  ·rename_i h2; rw[az h2] at h; simp only at h; rw[h] at h2; cases h2
  ·rename_i h2;have:(eF t (fC s).2.1).2=0:=by simpa using h2
   rw[this]
def Fh(t:Tree)(s:Bytes)(hs:s.length<=100000):(qL t s).2.1.length<=1000:=by
 have:=tv s hs;unfold qL;split
 ·simp
 ·simp only; omega
section
variable {t:Tree} {l:List Piece}
attribute [local irreducible] fS fp kH gK dv kr aq aM cv bJ
def NT(t:Tree)(s:Bytes)(ht:Small t)(hs:s.length<=100000)(M:aL):aM (aq c9) 24 [.agg [a8 t.ae,aG t.next,aG t.ai],.str s] M=some (.tuple [aG (eF t s).1,aG (eF t s).2],M):=by
 rw[<-I5]; exact k24 t.ae t.next t.ai s ht hs M
def k51(t:Tree)(s:Bytes)(ht:Small t)(hs:s.length<=100000)(M:aL):aM (aq c9) 51 [.agg [a8 t.ae,aG t.next,aG t.ai],.str s] M=some (.tuple [aG (qL t s).1,.str (qL t s).2.1,aG (qL t s).2.2],M):=by
 refine cO (aJ ?_) M;have q1:=QB s hs;have hl:=tv s hs;have q2:=NT t (fC s).2.1 ht (by omega)
 unfold qL;generalize fC s=v at q1 q2 ⊢;generalize eF t v.2.1=w at q2 ⊢;cases h1:v.2.2 != 0
 ·simp only[aaM,E51,q1,q2,h1,af,aE,aw,EW,seval]
 ·simp only[aaM,E51,q1,h1,aE,EW,seval]
def c50(t:Tree)(ht:Rt t)(o:oW)(ho:BM o)(hk:o.kind=1\/o.kind=7\/o.kind=6):aq c9 50 [bK t,ue o] []=some (sk (if (fa t o).2.2 != 0 then lW (fa t o).2.2 else (fa t o).2.1),[]):=by
 refine aJ ?_;have q1:=NT t o.aU ht.small (by have:=ho.aU; omega)
 have hwf:=fun {j}=>A3 ht (s:=o.aU) (j:=j)
 have hn:=ht.sz.ae;have q2:=fun au M=>Gc t.ae t.next t.ai au (by omega) M
 have q3:=ak1 t ht;have hll:=Aq ht
 have w1:(fa t o)=if o.kind=1 then rQ t o else if o.kind=6 then tT t o else rT t o:=by
  unfold fa;rcases hk with h|h|h<;>simp[h]
 rw[w1];unfold rQ tT rT;generalize eF t o.aU=v at q1 hwf ⊢;obtain⟨j,e⟩:=v
 by_cases he:e=0
 rotate_left
 ·have hb:(e != 0)=true:=by simpa using he
  simp only[J9,ZO,bK,bd,ue,dP,q1,hb,EW,seval];rcases hk with h|h|h<;>simp[h,hb,lW,sk,eE,zt,fO,jt]
 subst he;obtain⟨n,hf⟩:=hwf rfl;have hno:=(cj hf).2;have hnn:bE t.ae j=n:=by simp[bE,hf]
 have q2:=q2 j;rw[hf] at q2;simp only[bA,cn,aV] at q2;simp only[hnn,hno];rcases hk with h|h|h
 ·have h1:(o.kind==1)=true:=by simp[h]
  simp only[J9,ZO,bK,bd,ue,dP,q1,q2,h,an,EW,seval];rfl
 ·simp only[J9,ZO,bK,bd,ue,dP,q1,q2,h,an,EW,seval];rfl
 ·have q3:=q3 j o.n o.m;have hll:=hll j o.n o.m;generalize p9 t j o.n o.m=L at q3 hll ⊢;cases h1:L.2.2 != 0
  rotate_left
  ·simp only[J9,ZO,bK,bd,ue,dP,q1,q2,q3,h,h1,an,EW,seval];rfl
  ·simp only[J9,ZO,bK,bd,ue,dP,q1,q2,q3,h,h1,an,EW,seval];have e0:(L.2.2=0):=by simpa using h1
   refine cZ (gG (xs:=L.1) (by omega) (fun j (S:List Bytes)=>S=(L.1.take j).map eD.name) (fun _ (_:List Bytes)=>()) (fun S i=>[(4,cL 2),(9,ij L.1),(10,aG L.2.1),(11,.slice (.own 4) (S.map ag.str)),(12,aG i)])
    (fun S=>[cm [a8 t.ae,aG t.next,aG t.ai],cm [aG 6,aG o.jz,.str o.aU,.str o.rz,aG o.n,aG o.m,aG o.handle,jt o.data],cm [aG 0,aG 0,aG 0,aG 0,aG 0,.slice .c0 [],.slice .c0 []],cm [aG n.au,aG n.kind,aG n.dp,jt n.data,ij n.aN,aG n.up],.tick 1 S.length])
    (fun _=>some (sk ⟨0,0,0,L.2.1,0,L.1.map eD.name,[]⟩,[])) (fun S hS=>?_) (fun pre e post S hh hx cu hw h0 hm hS hi=>?_) [] rfl) rfl
   ·rw[cT] at hS;subst hS;simp only[ZO,bg,DF,EW,seval];rfl
   ·have hp:=(aC.1 hx).1;have hsl:S.length<=pre.length:=by rw[hS]; simp; omega
    have ht:(L.1.take (pre.length+1)).map eD.name=S++[e.name]:=by rw[dC,hx,bC,hS]; rfl
    have i1:=hi _ ht.symm;have r1:dQ (S.length+1) 16=True:=xR;simp only[bC,aW,bp,aK,av,aH,aQ] at i1;simp only[ZO,cu,hx,hw,h0,r1,gk,ew,DF,EW,seval];exact i1
end
section
variable {t:Tree} {l:List Piece}
attribute [local irreducible] fS fp kH gK dv kr aq aM cv bJ
def ak3{t:Tree}(ht:Rt t)(M:aL):aM (aq c9) 113 [.agg [a8 t.ae,aG t.next,aG t.ai]] M=some (.agg [a8 (fj t).ae,aG (fj t).next,aG (fj t).ai],M):=by
 refine cO (aJ ?_) M;have hn:=ht.sz.ae;simp only[XZ,ZF,EW,seval]
 refine cZ (gG (xs:=t.ae) (by omega) (fun j (u:Tree)=>Rt u/\u=(t.ae.take j).foldl (fun u n=>if n.kind==1&&n.dp==0 then (oT u n.au).1 else u) t) (fun _ (_:Tree)=>()) (fun _ i=>[(1,cL 0),(2,cL 1),(3,cL 2),(4,aG i)])
  (fun u=>[cm [a8 t.ae,aG t.next,aG t.ai],cm [.slice .c0 [],aG 0,aG 0],cm [a8 u.ae,aG u.next,aG u.ai]])
  (fun _=>some (.agg [a8 (fj t).ae,aG (fj t).next,aG (fj t).ai],[])) (fun u hu=>?_) (fun pre n post u hh hx cu hw h0 hm hu hi=>?_) t ⟨ht,rfl⟩) rfl
 ·obtain⟨-,hu⟩:=hu;rw[cT] at hu;have hs:u=fj t:=hu;subst hs;simp only[ZF,bg,EW,seval]
 ·obtain⟨hu1,hu2⟩:=hu;have hT:(t.ae.take (pre.length+1)).foldl (fun u n=>if n.kind==1&&n.dp==0 then (oT u n.au).1 else u) t=if n.kind==1&&n.dp==0 then (oT u n.au).1 else u:=by rw[dC,hx,jo,<-hu2]; rfl
  have q:=als u.ae u.next u.ai n.au hu1.small
  have i1:=hi _ ⟨by
   split
   ·exact hu1.free n.au
   ·exact hu1,hT.symm⟩
  simp only[bK,bd] at q;cases h1:n.kind==1<;>cases h2:n.dp==0<;>simp only[h1,h2,bQ,cf,dL,af,aE,aw] at i1 <;>
  simp only[ZF,cu,hx,hw,h0,h1,h2,q,cn,aV,bQ,cf,dL,EW,seval]<;>exact i1
def zD(t:Tree)(u:Tree)(e au k:Int)(he:(e != 0)=true)(M:aL):aM (aq c9) 53 [.agg [a8 t.ae,aG t.next,aG t.ai],.agg [a8 u.ae,aG u.next,aG u.ai],aG e,.agg [aG 0,aG au,aG k,aG 0,aG 0,kJ [],kJ []]] M =
  some (.tuple [.agg [a8 t.ae,aG t.next,aG t.ai],.agg [aG e,aG 0,aG 0,aG 0,aG 0,kJ [],kJ []]],M):=by
 refine cO (aJ ?_) M;simp only[aaN,E53,he,EW,seval]
def B3(t:Tree){u:Tree}(hu:Rt u)(au k:Int)(M:aL):aM (aq c9) 53 [.agg [a8 t.ae,aG t.next,aG t.ai],.agg [a8 u.ae,aG u.next,aG u.ai],aG 0,.agg [aG 0,aG au,aG k,aG 0,aG 0,kJ [],kJ []]] M =
  some (.tuple [.agg [a8 (fj u).ae,aG (fj u).next,aG (fj u).ai],.agg [aG 0,aG au,aG k,aG 0,aG 0,kJ [],kJ []]],M):=by
 refine cO (aJ ?_) M;have q:=ak3 hu;simp only[aaN,E53,q,an,EW,seval]
end
def Us{t:Tree}{o:oW}(hk:o.kind=1\/o.kind=7\/o.kind=6):(fa t o).1=t:=by
 unfold fa;rcases hk with h|h|h
 ·rw[az h]; unfold rQ; split<;>rfl
 ·rw[ak (by omega),ak (by omega),ak (by omega),ak (by omega),ak (by omega),ak (by omega)]; unfold rT; dsimp only; split<;>rfl
 ·rw[ak (by omega),ak (by omega),ak (by omega),ak (by omega),ak (by omega),az h]; unfold tT; dsimp only; split
  ·rfl
  ·split<;>rfl
section
variable {t:Tree} {l:List Piece}
attribute [local irreducible] fS fp kH gK dv kr aq aM cv bJ
def FI.plain{t:Tree}{l:List Piece}(hf:FI l t)(o:oW)(ho:BM o)(hk:1<=o.kind/\o.kind<=7):aq c9 16 [bK t,ue o] []=some (.tuple [bK (pB t o).1,sk (pB t o).2],[]):=by
 have hsw:fj t=t:=by obtain⟨cg,g⟩:=hf.rt; exact AX g hf.may
 have ht:Rt t:=hf.rt;have hp:o.aU.length<=100000:=by have:=ho.aU; omega
 have hp2:o.rz.length<=100000:=by have:=ho.rz; omega
 have hz:Sz 1000 t:=ht.sz.up (by omega)
 refine aJ ?_
 by_cases hka:o.kind=1\/o.kind=7\/o.kind=6
 ·have q:=fun M=>cO (c50 t ht o ho hka) M
  have hw:=Us (t:=t) hka
  have hpt:pB t o=(t,if (fa t o).2.2 != 0 then lW (fa t o).2.2 else (fa t o).2.1):=by
   unfold pB;rw[hw,hsw]; split<;>rfl
  rw[hpt];generalize (if (fa t o).2.2 != 0 then lW (fa t o).2.2 else (fa t o).2.1)=a at q ⊢
  simp only[bK,bd,ue,dP,sk,eE] at q;rcases hka with h|h|h<;>rw[h] at q <;>
  simp only[xP,Ji,bK,bd,ue,dP,sk,eE,q,h,EW,seval]
 have q1:=k51 t o.aU ht.small hp;have q2:=k51 t o.rz ht.small hp2;have e1:=Fg t o.aU;have e2:=Fg t o.rz;have l1:=Fh t o.aU hp;have l2:=Fh t o.rz hp2;have d1:=IZ (t:=t) (s:=o.aU);have d2:=IZ (t:=t) (s:=o.rz);rcases(show o.kind=3\/o.kind=2\/o.kind=4\/o.kind=5 by omega) with h|h|h|h
 ·have hw:fa t o=tQ t o:=by unfold fa; rw[ak (by omega),ak (by omega),az h]
  unfold pB;rw[hw];unfold tQ;simp only;have q0:=NT t o.aU ht.small hp;have hwf:=fun {j}=>A3 ht (s:=o.aU) (j:=j)
  rw[<-e2];cases h0:(eF t o.aU).2 != 0
  rotate_left
  ·simp only[xP,Ji,bK,bd,ue,dP,sk,eE,q0,h,h0,lW,aE,EW,seval];rfl
  have h0':(eF t o.aU).2=0:=by simpa using h0
  obtain⟨n,hn⟩:=hwf (j:=(eF t o.aU).1) (fF rfl h0');have hnn:bE t.ae (eF t o.aU).1=n:=by simp[bE,hn]
  rw[hnn,(cj hn).2];generalize eF t o.aU=v at *;cases h1:(qL t o.rz).2.2 != 0
  rotate_left
  ·simp only[xP,Ji,bK,bd,ue,dP,sk,eE,q0,q2,h,h0,h1,lW,aE,aw,af,EW,seval];rfl
  rw[<-d2 (by rw[<-e2]; exact h1)]
  generalize qL t o.rz=s at *;have q3:=k52 t.ae t.next t.ai v.1 s.1 s.2.1 hz (by omega)
  have hra:=ht.ln v.1 s.1 s.2.1;have qe:=zD t (BG t v.1 s.1 s.2.1).1 (BG t v.1 s.1 s.2.1).2 v.1 0;have qt:=B3 t hra v.1 0;have eT:(⟨t.ae,t.next,t.ai⟩:Tree)=t:=rfl
  rw[eT] at q3;generalize BG t v.1 s.1 s.2.1=w at q3 hra qt qe ⊢;simp only[bK,bd] at q3;cases h3:w.2 != 0
  ·have h3':w.2=0:=by simpa using h3
   rw[h3'] at q3;simp only[xP,Ji,bK,bd,ue,dP,sk,eE,q0,q2,q3,qt,h,h0,h1,aw,af,an,EW,seval];rfl
  ·have qe:=qe h3;simp only[xP,Ji,bK,bd,ue,dP,sk,eE,q0,q2,q3,qe,h,h0,h1,h3,lW,aE,aw,af,EW,seval];rfl
 ·have hw:fa t o=uJ t o:=by unfold fa; rw[ak (by omega),az h]
  unfold pB;rw[hw];unfold uJ;simp only;rw[<-e1];cases h1:(qL t o.aU).2.2 != 0
  rotate_left
  ·simp only[xP,Ji,bK,bd,ue,dP,sk,eE,q1,h,h1,lW,aE,EW,seval];rfl
  rw[<-d1 (by rw[<-e1]; exact h1)]
  generalize qL t o.aU=v at *;have q3:=k54 t.ae t.next t.ai v.1 v.2.1 o.n hz (by omega)
  have hra:=ht.add v.1 v.2.1 o.n;have qe:=zD t (nu t v.1 v.2.1 o.n).1 (nu t v.1 v.2.1 o.n).2.2 (nu t v.1 v.2.1 o.n).2.1 o.n;have qt:=B3 t hra (nu t v.1 v.2.1 o.n).2.1 o.n;have eT:(⟨t.ae,t.next,t.ai⟩:Tree)=t:=rfl
  rw[eT] at q3;generalize nu t v.1 v.2.1 o.n=w at q3 hra qt qe ⊢;simp only[bK,bd] at q3;cases h3:w.2.2 != 0
  ·have h3':w.2.2=0:=by simpa using h3
   rw[h3'] at q3;simp only[xP,Ji,bK,bd,ue,dP,sk,eE,q1,q3,qt,h,h1,aw,af,an,EW,seval];rfl
  ·have qe:=qe h3;simp only[xP,Ji,bK,bd,ue,dP,sk,eE,q1,q3,qe,h,h1,h3,lW,aE,aw,af,EW,seval];rfl
 ·have hw:fa t o=nJ t o:=by unfold fa; rw[ak (by omega),ak (by omega),ak (by omega),az h]
  unfold pB;rw[hw];unfold nJ;simp only;rw[<-e1];cases h1:(qL t o.aU).2.2 != 0
  rotate_left
  ·simp only[xP,Ji,bK,bd,ue,dP,sk,eE,q1,h,h1,lW,aE,EW,seval];rfl
  rw[<-d1 (by rw[<-e1]; exact h1)]
  generalize qL t o.aU=v at *;have q3:=k55 t.ae t.next t.ai v.1 v.2.1 hz (by omega)
  have hra:=ht.un v.1 v.2.1;have qe:=zD t (vJ t v.1 v.2.1).1 (vJ t v.1 v.2.1).2.2 (vJ t v.1 v.2.1).2.1 0;have qt:=B3 t hra (vJ t v.1 v.2.1).2.1 0;have eT:(⟨t.ae,t.next,t.ai⟩:Tree)=t:=rfl
  rw[eT] at q3;generalize vJ t v.1 v.2.1=w at q3 hra qt qe ⊢;simp only[bK,bd] at q3;cases h3:w.2.2 != 0
  ·have h3':w.2.2=0:=by simpa using h3
   rw[h3'] at q3;simp only[xP,Ji,bK,bd,ue,dP,sk,eE,q1,q3,qt,h,h1,aw,af,an,EW,seval];rfl
  ·have qe:=qe h3;simp only[xP,Ji,bK,bd,ue,dP,sk,eE,q1,q3,qe,h,h1,h3,lW,aE,aw,af,EW,seval];rfl
 ·have hw:fa t o=lM t o:=by unfold fa; rw[ak (by omega),ak (by omega),ak (by omega),ak (by omega),az h]
  unfold pB;rw[hw];unfold lM;simp only;rw[<-e1,<-e2];cases h1:(qL t o.aU).2.2 != 0
  rotate_left
  ·simp only[xP,Ji,bK,bd,ue,dP,sk,eE,q1,h,h1,lW,aE,EW,seval];rfl
  rw[<-d1 (by rw[<-e1]; exact h1)]
  generalize qL t o.aU=v at *;cases h2:(qL t o.rz).2.2 != 0
  rotate_left
  ·simp only[xP,Ji,bK,bd,ue,dP,sk,eE,q1,q2,h,h1,h2,lW,aE,aw,af,EW,seval];rfl
  rw[<-d2 (by rw[<-e2]; exact h2)]
  generalize qL t o.rz=s at *;have q0:=k56 t.ae t.next t.ai v.1 v.2.1 ht.small (by omega)
  have q3:=k57 t.ae t.next t.ai v.1 v.2.1 s.1 s.2.1 hz (by omega) (by omega)
  have hra:=ht.mv v.1 v.2.1 s.1 s.2.1;have qe:=zD t (wg t v.1 v.2.1 s.1 s.2.1).1 (wg t v.1 v.2.1 s.1 s.2.1).2.2 (dV t.ae v.1 v.2.1).1 0;have qt:=B3 t hra (dV t.ae v.1 v.2.1).1 0;have eT:(⟨t.ae,t.next,t.ai⟩:Tree)=t:=rfl
  rw[eT] at q3;generalize wg t v.1 v.2.1 s.1 s.2.1=w at q3 hra qt qe ⊢;simp only[bK,bd] at q3;cases h3:w.2.2 != 0
  ·have h3':w.2.2=0:=by simpa using h3
   rw[h3'] at q3;simp only[xP,Ji,bK,bd,ue,dP,sk,eE,q0,q1,q2,q3,qt,h,h1,h2,aw,af,an,EW,seval];rfl
  ·have qe:=qe h3;simp only[xP,Ji,bK,bd,ue,dP,sk,eE,q0,q1,q2,q3,qe,h,h1,h2,h3,lW,aE,aw,af,EW,seval];rfl
end
section
attribute [local irreducible] fS fp kH gK dv kr aq aM cv bJ
def ah5(c:Piece)(s:Bytes)(g e:Int):putCells (dr c) 0 [.str s,aG g,aG e]=dr ⟨s,g,e⟩:=rfl
def ajX{l:List Piece}(hl:jV l)(s:Bytes)(hs:s.length<=100000)(to:Int):aq c9 153 [bI l,.str s,aG to] []=some (.tuple [bI (mY l s to).1,aG (mY l s to).2],[]):=by
 refine aJ ?_;have hm:=hl.many;have q1:=NU s hs;have q2:=aba l (by omega) s
 rw[BV] at q2;unfold mY
 by_cases hg1:0<=to
 rotate_left
 ·have e:mB to=false:=by simp[mB]; intro h; exact absurd h hg1
  have e1:(to<0)=True:=AE;rw[az e];simp only[Bf,MO,e1,EW,seval]
 have e1:(to<0)=False:=Gu
 by_cases hg2:to<8
 rotate_left
 ·have e:mB to=false:=by simp[mB]; intro h; omega
  have e2:(8<=to)=True:=AE;rw[az e];simp only[Bf,MO,e1,e2,EW,seval]
 have e2:(8<=to)=False:=Gu;have e:mB to=true:=by simp[mB,hg1,hg2]
 rw[ak (by simp[e])]
 by_cases he:(bz s).2=0
 rotate_left
 ·have h60:(bz s).2=60:=by rcases vI s with h|h<;>rw[h] at he ⊢; exact absurd rfl he
  have hb:((bz s).2 != 0)=true:=by simpa using he
  rw[az hb,h60];simp only[Bf,MO,e1,e2,q1,hb,EW,seval]
 have hb:((bz s).2 != 0)=false:=by simp[he]
 rw[ak (by simp[hb])]
 cases hp:rn l s with
 |none =>
  rw[hp] at q2;simp only at q2 ⊢;simp only[Bf,MO,e1,e2,q1,q2,hb,Int.reduceLT,Int.reduceNeg,EW,seval]
 |some b =>
  rw[hp] at q2;obtain⟨p,hx,hps⟩:=pA hp;have cu:=(aC.1 hx).1;have hat:mJ l b=p:=by unfold mJ; rw[hx]; rfl
  have hok:=(hl.ok _ (aR hx)).2;have g1:((b:Int)<0)=False:=Gu;simp only[aQ] at q2;simp only[hat];cases h2:decide (1099511627776<=p.dM)
  rotate_left
  ·have h2':1099511627776<=p.dM:=by simpa using h2
   rw[az h2'];simp only[Bf,MO,e1,e2,q1,q2,hb,g1,hx,h2,dU,gx,cR,bh,EW,seval]
  ·have h2':¬1099511627776<=p.dM:=by simpa using h2
   rw[ak h2'];have hw1:=wr1 hok.2.2.1 hok.2.2.2;have r1:dQ l.length 32=True:=xR;have hbl:((b:Int)<(l.length:Int))=True:=AE;have hne:(l.length==0)=false:=by rw[bM]; omega
   have hT:List.take l.length ((l.set b ⟨s,to,p.dM+1⟩).map dr)=(l.set b ⟨s,to,p.dM+1⟩).map dr:=ck (by simp)
   simp only[Bf,MO,e1,e2,q1,q2,hb,g1,hx,h2,hw1,r1,hbl,hne,hT,I8,dU,gx,cR,bh,aI,bV,aQ,fD,ub l b p _ 0 _ (ah5 p s to (p.dM+1)),ar,aE,EW,seval]
   trace_state
def jj(f:wb)(t:Tree)(o:oW):List ag:=[bI f.pieces,jT f.er,.int .i64 f.next,.int .i64 f.ai,a8 t.ae,.int .i64 t.next,.int .i64 t.ai,
 .int .i64 o.kind,.int .i64 o.jz,.str o.aU,.str o.rz,.int .i64 o.n,.int .i64 o.m,.int .i64 o.handle,jt o.data,
 .int .i64 0,.int .i64 0,.int .i64 0,.int .i64 0,.int .i64 0,.slice .c0 [],.slice .c0 []]
abbrev nc(f:wb)(t:Tree)(o:oW):cD := .cells (jj f t o)
def iK(f:wb)(t:Tree)(o:oW)(a:OV)(x:ag):cD := .cells [bI f.pieces,jT f.er,.int .i64 f.next,.int .i64 f.ai,a8 t.ae,.int .i64 t.next,.int .i64 t.ai,
 .int .i64 o.kind,.int .i64 o.jz,.str o.aU,.str o.rz,.int .i64 o.n,.int .i64 o.m,.int .i64 o.handle,jt o.data,
 .int .i64 a.err,.int .i64 a.au,.int .i64 a.kind,.int .i64 a.n,.int .i64 a.m,x,.slice .c0 []]
def Row(x:ag)(xs:List ag):Prop:=x = .slice .sh xs\/(x = .slice .c0 []/\xs=[])
def ya(K:Nat)(f:wb)(t:Tree)(o:oW)(r:Wt):Prop :=
 ∃x,Row x (r.2.1.names.map ag.str)/\r.2.1.data=[]/\aq fR K [.ptr 0 0] [.cells (jj f t o)]=some (if r.2.2 != 0 then iY r.2.2 else .tuple [],[iK f r.1 o r.2.1 x])
def kWk{C:eO}{g p:Nat}{vs:List ag}{r:ag}{M:aL}{f:wb}{t:Tree}{o:oW}(hM:nth M p=some (nc f t o))(h:C g (.ptr 0 0::vs) [nc f t o]=some (r,[nc f t o]))
  (h1:vs.all ag.flat=true) (h2:vs.flatMap ag.ids=[]) (h3:r.wJ=true) (h4:∀p,vs.map (ag.ry (iH [p]))=vs) (h5:∀p,r.BI (xk [p])=r) :
  aM C g (.ptr p 0::vs) M=some (r,M):=by
 have:=pG hM h h1 h2 h3 (h4 p) (h5 p) rfl rfl rfl rfl rfl;rwa[uu hM] at this
def wK(l:List Piece):List Bytes->Int->Bool
 | [],n=>n != 0
 |p::r,n=>if (fC p).2.2 != 0 then false else wK l r (mM (n+(kE l p:Nat)))
def zR{l:List Piece}(hl:jV l)(s:Bytes):kE l s<=16:=bj ki hl.many
def agL{l:List Piece}(hl:jV l)(p:Bytes):wK l [p] 0=((fC p).2.2==0&&decide (0<kE l p)):=by
 have hc:=zR hl p;have hw:mM (0+(kE l p:Nat))=(kE l p:Nat):=by rw[Int.zero_add]; exact gD (by omega) (by omega)
 simp only[wK,hw];cases h:(fC p).2.2==0
 ·simp[bne,h]
 ·simp only[bne,h,cX,af,aw,bQ];rw[eh]; simp; omega
def agM{l:List Piece}(hl:jV l)(p q:Bytes):wK l [p,q] 0=((fC p).2.2==0&&((fC q).2.2==0&&decide (0<kE l p+kE l q))):=by
 have hc:=zR hl p;have hd:=zR hl q;have hw:mM (0+(kE l p:Nat))=(kE l p:Nat):=by rw[Int.zero_add]; exact gD (by omega) (by omega)
 have hw2:mM ((kE l p:Nat)+(kE l q:Nat))=((kE l p+kE l q:Nat):Int):=by rw[mM,gD (by omega) (by omega)]; omega
 simp only[wK,hw,hw2];cases h:(fC p).2.2==0
 ·simp[bne,h]
 ·simp only[bne,h,cX,af,aw,bQ];cases h':(fC q).2.2==0
  ·simp
  ·simp only[cX,af,aw,bQ];rw[eh]; simp; omega
def ajj{l:List Piece}(hl:jV l)(t:Tree){o:oW}(hk:o.kind=4):((eF t o.aU).2==0&&wK l [o.aU] 0)=uf l t o:=by
 unfold uf; rw[az hk,agL hl]
def ajk{l:List Piece}(hl:jV l)(t:Tree){o:oW}(hk:o.kind=5):((eF t o.aU).2==0&&wK l [o.aU,o.rz] 0)=uf l t o:=by
 unfold uf; rw[ak (by omega),az hk,agM hl]
section
variable (f:wb) {t:Tree} (ht:Rt t) (o:oW)
include ht
def c90(aU:Bytes)(hp:aU.length<=100000):aq fR 90 [cL 0,.str aU] [nc f t o] =
  some (if (eF t aU).2 != 0 then iY (eF t aU).2 else .agg (aV (bE t.ae (eF t aU).1)),[nc f t o]):=by
 refine aJ ?_;have q1:=VF t aU ht.small ht.jE hp;generalize eF t aU=v at q1 ⊢;have q2:=zk v.2;have q3:=fun M=>lS (VB t v.1 ht.small ht.jE M)
 simp only[aV] at q3;simp only[aaT,E90,nc,jj,q1,EW,seval];cases he:v.2 != 0<;>simp only[he,af,aE,aw,iY] at q2 ⊢
 ·simp only[E90,q2,q3,aV,EW,seval]
 ·simp only[E90,q2,EW,seval]
def k90(aU:Bytes)(hp:aU.length<=100000){p:Nat}{M:aL}(hM:nth M p=some (nc f t o)):aM (aq fR) 90 [cL p,.str aU] M =
  some (if (eF t aU).2 != 0 then iY (eF t aU).2 else .agg (aV (bE t.ae (eF t aU).1)),M) :=
 kWk hM (c90 f ht o aU hp) rfl rfl (by split<;>rfl) (fun _=>rfl) (fun _=>by split<;>rfl)
def aj4(aU:Bytes)(hp:aU.length<=100000):aq fR 169 [cL 0,.str aU] [nc f t o] =
  some (if (lf t aU).2.2 != 0 then iY (lf t aU).2.2 else .tuple [aG (lf t aU).1,.str (lf t aU).2.1],[nc f t o]):=by
 refine aJ ?_;have q1:=aa9 aU hp;have hl:=tv aU hp;have q4:=VF t (fC aU).2.1 ht.small ht.jE (by omega)
 unfold lf;generalize fC aU=l at q1 q4 ⊢;have q2:=zk l.2.2;generalize eF t l.2.1=v at q4 ⊢;have q3:=zk v.2;simp only[Yu,UD,nc,jj,q1,EW,seval];cases he:l.2.2 != 0<;>simp only[he,af,aE,aw,iY] at q2 ⊢
 ·cases hv:v.2 != 0<;>simp only[hv,af,aE,aw,iY] at q3 ⊢
  ·simp only[UD,q2,q4,q3,an,af,aw,EW,seval]
  ·simp only[UD,q2,q4,q3,hv,aE,EW,seval]
 ·simp only[UD,q2,he,aE,EW,seval]
def QE(aU:Bytes)(hp:aU.length<=100000){p:Nat}{M:aL}(hM:nth M p=some (nc f t o)):aM (aq fR) 169 [cL p,.str aU] M =
  some (if (lf t aU).2.2 != 0 then iY (lf t aU).2.2 else .tuple [aG (lf t aU).1,.str (lf t aU).2.1],M) :=
 kWk hM (aj4 f ht o aU hp) rfl rfl (by split<;>rfl) (fun _=>rfl) (fun _=>by split<;>rfl)
def VG{u:Tree}(au e:Int){p:Nat}{M:aL}(hM:nth M p=some (nc f t o)):aM (aq fR) 170 [cL p,.agg [a8 u.ae,aG u.next,aG u.ai],aG au,aG e] M =
  some (if e != 0 then iY e else .tuple [],if e != 0 then M else j6 M p (iK f u o ⟨0,au,0,0,0,[],[]⟩ (.slice .c0 []))):=by
 have q:=zk e;cases he:e != 0
 ·simp only[he,af,aw] at q ⊢
  have h:aq fR 170 [cL 0,.agg [a8 u.ae,aG u.next,aG u.ai],aG au,aG e] [nc f t o]=some (.tuple [],[iK f u o ⟨0,au,0,0,0,[],[]⟩ (.slice .c0 [])]):=by
   refine aJ ?_;simp only[Qd,ad0,nc,jj,iK,q,EW,seval]
  exact pG hM h rfl rfl rfl rfl rfl rfl rfl rfl rfl rfl
 ·simp only[he,aE] at q ⊢
  have h:aq fR 170 [cL 0,.agg [a8 u.ae,aG u.next,aG u.ai],aG au,aG e] [nc f t o]=some (iY e,[nc f t o]):=by
   refine aJ ?_;simp only[Qd,ad0,nc,jj,q,iY,EW,seval]
  have:=pG hM h rfl rfl rfl rfl rfl rfl rfl rfl rfl rfl;rwa[uu hM] at this
def ag4{l:List Piece}(hl:jV l)(hf:f.pieces=l)(ps:List Bytes)(hps:∀p,p∈ps->p.length<=100000)(hn:ps.length<=100)(hp:o.aU.length<=100000){p:Nat}{M:aL}(hM:nth M p=some (nc f t o)):aM (aq fR) 173 [cL p,fO ps] M =
  some (if (eF t o.aU).2==0&&wK l ps 0 then iY 180 else .tuple [],M):=by
 refine kWk (f:=f) (t:=t) (o:=o) (vs:=[fO ps]) hM (aJ ?_) rfl rfl (by split<;>rfl) (fun _=>rfl) (fun _=>by split<;>rfl)
 have q1:=VF t o.aU ht.small ht.jE hp;generalize eF t o.aU=v at q1 ⊢;simp only[Yx,MP,nc,jj,q1,EW,seval];cases he:v.2 != 0
 rotate_left
 ·have he2:(v.2==0)=false:=by simpa using he
  simp only[MP,he2,cf,af,aw,EW,seval]
 have he2:(v.2==0)=true:=by simpa using he
 simp only[MP,he2,bQ,EW,seval];refine pq (xs:=ps) (by omega) (wK l) (fun n i=>[(0,cL 0),(6,aG n),(27,fO ps),(28,aG ps.length),(29,aG i)]) (fun _=>[nc f t o]) (fun b=>some (if b then iY 180 else .tuple [],[nc f t o])) (fun n=>?_) (fun pre x post n h hx cu hw h0 hm hi=>?_) 0
 ·have q2:=fun M=>Uv (n==0) 180 rfl M
  simp only[wK,nc,jj] at *;cases hn0:n==0<;>simp only[hn0,bne,cX,fV,af,aE,aw,iY] at q2 ⊢ <;> simp only[MP,bg,hn0,q2,iY,EW,seval]
 ·have q3:=aa9 x (hps x hm);obtain⟨r,hr,q4⟩:=alA l hl.many hl.Ou x (hps x hm);have i1:=hi (mM (n+(kE l x:Nat)));rw[<-hr] at i1;simp only[wK,<-hr];simp only[nc,jj,hf,mM] at i1 ⊢;cases h3:(fC x).2.2 != 0
  ·simp only[MP,cu,hx,hw,h0,q3,q4,h3,aI,af,aw,EW,seval];exact i1
  ·simp only[MP,cu,hx,hw,h0,q3,h3,aE,af,aw,EW,seval]
def c97(ho:BM o):ya 97 f t o (rQ t o):=by
 unfold ya;have hp:o.aU.length<=100000:=by have:=ho.aU; omega
 have hto:o.rz.length<=100000:=by have:=ho.rz; omega
 refine⟨.slice .c0 [],.inr ⟨rfl,?_⟩,?_,aJ ?_⟩
 ·unfold rQ; (try simp only[]); split<;>rfl
 ·unfold rQ; (try simp only[]); split<;>rfl
 unfold rQ
 try simp only[]
 have q1:=fun {M}=>k90 f ht o o.aU hp (p:=0) (M:=M)
 generalize eF t o.aU=v at q1 ⊢;have q1:=@q1;generalize bE t.ae v.1=n at q1 ⊢
 try simp only[nc,jj,iK,aV,bd] at q1
 try simp only[nc,jj,iK,aV,bd] at q1
 cases h0:v.2 != 0
 ·simp only[aaV,E97,nc,jj,iK,mZ,aV,q1,q1,h0,zk,an,af,aE,aw,EW,seval]
 ·simp only[aaV,E97,nc,jj,iK,mZ,aV,q1,q1,h0,iY,zk,an,af,aE,aw,EW,seval]
def c98(ho:BM o):ya 98 f t o (rT t o):=by
 unfold ya;have hp:o.aU.length<=100000:=by have:=ho.aU; omega
 have hto:o.rz.length<=100000:=by have:=ho.rz; omega
 refine⟨.slice .c0 [],.inr ⟨rfl,?_⟩,?_,aJ ?_⟩
 ·unfold rT; (try simp only[]); split<;>rfl
 ·unfold rT; (try simp only[]); split<;>rfl
 unfold rT
 try simp only[]
 have q1:=fun {M}=>k90 f ht o o.aU hp (p:=0) (M:=M)
 generalize eF t o.aU=v at q1 ⊢;have q1:=@q1;generalize bE t.ae v.1=n at q1 ⊢
 try simp only[nc,jj,iK,aV,bd] at q1
 try simp only[nc,jj,iK,aV,bd] at q1
 cases h0:v.2 != 0
 ·simp only[aaW,E98,nc,jj,iK,mZ,aV,q1,q1,h0,zk,Ub,an,af,aE,aw,EW,seval]
 ·simp only[aaW,E98,nc,jj,iK,mZ,aV,q1,q1,h0,iY,zk,Ub,an,af,aE,aw,EW,seval]
def ajn(ho:BM o):ya 100 f t o (uJ t o):=by
 unfold ya;have hp:o.aU.length<=100000:=by have:=ho.aU; omega
 have hto:o.rz.length<=100000:=by have:=ho.rz; omega
 refine⟨.slice .c0 [],.inr ⟨rfl,?_⟩,?_,aJ ?_⟩
 ·unfold uJ; (try simp only[]); split<;>(try split)<;>rfl
 ·unfold uJ; (try simp only[]); split<;>(try split)<;>rfl
 unfold uJ
 try simp only[]
 have hl:=vk t o.aU hp;have q1:=fun {M}=>QE f ht o o.aU hp (p:=0) (M:=M)
 have hl:=hl;generalize lf t o.aU=v at q1 hl ⊢;have q2:=aln t ht v.1 v.2.1 o.n (by omega)
 generalize nu t v.1 v.2.1 o.n=w at q2 ⊢;have q5:=fun {u au e M}=>VG f ht o (u:=u) au e (p:=0) (M:=M)
 try simp only[nc,jj,iK,aV,bd] at q1
 try simp only[nc,jj,iK,aV,bd] at q2
 try simp only[nc,jj,iK,aV,bd] at q5
 cases h0:v.2.2 != 0
 ·cases h1:w.2.2 != 0
  ·simp only[LA,ZD,nc,jj,iK,mZ,aV,q1,q2,q5,h0,h1,zk,an,af,aE,aw,EW,seval]
  ·simp only[LA,ZD,nc,jj,iK,mZ,aV,q1,q2,q5,h0,h1,iY,zk,an,af,aE,aw,EW,seval]
 ·simp only[LA,ZD,nc,jj,iK,mZ,aV,q1,q2,q5,h0,iY,zk,an,af,aE,aw,EW,seval]
def ajo(ho:BM o):ya 101 f t o (tQ t o):=by
 unfold ya;have hp:o.aU.length<=100000:=by have:=ho.aU; omega
 have hto:o.rz.length<=100000:=by have:=ho.rz; omega
 refine⟨.slice .c0 [],.inr ⟨rfl,?_⟩,?_,aJ ?_⟩
 ·unfold tQ; (try simp only[]); split<;>(try split)<;>(try split)<;>rfl
 ·unfold tQ; (try simp only[]); split<;>(try split)<;>(try split)<;>rfl
 unfold tQ
 try simp only[]
 have q1:=fun {M}=>k90 f ht o o.aU hp (p:=0) (M:=M)
 generalize eF t o.aU=v at q1 ⊢;have q1:=@q1;generalize bE t.ae v.1=n at q1 ⊢;have hl:=vk t o.rz hto;have q2:=fun {M}=>QE f ht o o.rz hto (p:=0) (M:=M)
 have hl:=hl;generalize lf t o.rz=s at q2 hl ⊢;have q3:=alo t ht n.au s.1 s.2.1 (by omega)
 generalize BG t n.au s.1 s.2.1=w at q3 ⊢;have q5:=fun {u au e M}=>VG f ht o (u:=u) au e (p:=0) (M:=M)
 try simp only[nc,jj,iK,aV,bd] at q1
 try simp only[nc,jj,iK,aV,bd] at q1
 try simp only[nc,jj,iK,aV,bd] at q2
 try simp only[nc,jj,iK,aV,bd] at q3
 try simp only[nc,jj,iK,aV,bd] at q5
 cases h0:v.2 != 0
 ·cases h1:s.2.2 != 0
  ·cases h2:w.2 != 0
   ·simp only[Hy,Ux,nc,jj,iK,mZ,aV,q1,q1,q2,q3,q5,h0,h1,h2,zk,an,af,aE,aw,EW,seval]
   ·simp only[Hy,Ux,nc,jj,iK,mZ,aV,q1,q1,q2,q3,q5,h0,h1,h2,iY,zk,an,af,aE,aw,EW,seval]
  ·simp only[Hy,Ux,nc,jj,iK,mZ,aV,q1,q1,q2,q3,q5,h0,h1,iY,zk,an,af,aE,aw,EW,seval]
 ·simp only[Hy,Ux,nc,jj,iK,mZ,aV,q1,q1,q2,q3,q5,h0,iY,zk,an,af,aE,aw,EW,seval]
def ajp(ho:BM o)(hl:jV f.pieces)(hk:o.kind=4):ya 102 f t o (if uf f.pieces t o then (t,mZ,180) else nJ t o):=by
 unfold ya;have hp:o.aU.length<=100000:=by have:=ho.aU; omega
 have hto:o.rz.length<=100000:=by have:=ho.rz; omega
 refine⟨.slice .c0 [],.inr ⟨rfl,?_⟩,?_,aJ ?_⟩
 ·unfold nJ; (try simp only[]); split<;>(try split)<;>(try split)<;>rfl
 ·unfold nJ; (try simp only[]); split<;>(try split)<;>(try split)<;>rfl
 unfold nJ
 try simp only[]
 have q0:=fun {M}=>ag4 f ht o hl rfl [o.aU] (by simp[hp,hto]) (by simp) hp (p:=0) (M:=M)
 simp only[ajj hl t hk] at q0
 try simp only[fO,aW,bp] at q0
 have hl1:=vk t o.aU hp;have q2:=fun {M}=>QE f ht o o.aU hp (p:=0) (M:=M)
 have hl1:=hl1;generalize lf t o.aU=s at q2 hl1 ⊢;have q3:=alp t ht s.1 s.2.1 (by omega)
 generalize vJ t s.1 s.2.1=w at q3 ⊢;have q5:=fun {u au e M}=>VG f ht o (u:=u) au e (p:=0) (M:=M)
 try simp only[nc,jj,iK,aV,bd] at q0
 try simp only[nc,jj,iK,aV,bd] at q2
 try simp only[nc,jj,iK,aV,bd] at q3
 try simp only[nc,jj,iK,aV,bd] at q5
 cases h0:uf f.pieces t o
 ·cases h1:s.2.2 != 0
  ·cases h2:w.2.2 != 0
   ·simp only[Hz,Uy,nc,jj,iK,mZ,aV,q0,q2,q3,q5,h0,h1,h2,zk,an,af,aE,aw,EW,seval]
   ·simp only[Hz,Uy,nc,jj,iK,mZ,aV,q0,q2,q3,q5,h0,h1,h2,iY,zk,an,af,aE,aw,EW,seval]
  ·simp only[Hz,Uy,nc,jj,iK,mZ,aV,q0,q2,q3,q5,h0,h1,iY,zk,an,af,aE,aw,EW,seval]
 ·simp only[Hz,Uy,nc,jj,iK,mZ,aV,q0,q2,q3,q5,h0,iY,zk,an,af,aE,aw,EW,seval]
def ajq(ho:BM o)(hl:jV f.pieces)(hk:o.kind=5):ya 103 f t o (if uf f.pieces t o then (t,mZ,180) else lM t o):=by
 unfold ya;have hp:o.aU.length<=100000:=by have:=ho.aU; omega
 have hto:o.rz.length<=100000:=by have:=ho.rz; omega
 refine⟨.slice .c0 [],.inr ⟨rfl,?_⟩,?_,aJ ?_⟩
 ·unfold lM; (try simp only[]); split<;>(try split)<;>(try split)<;>(try split)<;>rfl
 ·unfold lM; (try simp only[]); split<;>(try split)<;>(try split)<;>(try split)<;>rfl
 unfold lM
 try simp only[]
 have q0:=fun {M}=>ag4 f ht o hl rfl [o.aU,o.rz] (by simp[hp,hto]) (by simp) hp (p:=0) (M:=M)
 simp only[ajk hl t hk] at q0
 try simp only[fO,aW,bp] at q0
 have hl1:=vk t o.aU hp;have q1:=fun {M}=>QE f ht o o.aU hp (p:=0) (M:=M)
 have hl1:=hl1;generalize lf t o.aU=s at q1 hl1 ⊢;have hl2:=vk t o.rz hto;have q2:=fun {M}=>QE f ht o o.rz hto (p:=0) (M:=M)
 have hl2:=hl2;generalize lf t o.rz=u at q2 hl2 ⊢;have q3:=alT t ht s.1 s.2.1 (by omega)
 generalize dV t.ae s.1 s.2.1=l at q3 ⊢;have q4:=alq t ht s.1 s.2.1 u.1 u.2.1 (by omega) (by omega)
 generalize wg t s.1 s.2.1 u.1 u.2.1=w at q4 ⊢;have q5:=fun {u au e M}=>VG f ht o (u:=u) au e (p:=0) (M:=M)
 try simp only[nc,jj,iK,aV,bd] at q0
 try simp only[nc,jj,iK,aV,bd] at q1
 try simp only[nc,jj,iK,aV,bd] at q2
 try simp only[nc,jj,iK,aV,bd] at q3
 try simp only[nc,jj,iK,aV,bd] at q4
 try simp only[nc,jj,iK,aV,bd] at q5
 cases h0:uf f.pieces t o
 ·cases h1:s.2.2 != 0
  ·cases h2:u.2.2 != 0
   ·cases h3:w.2.2 != 0
    ·simp only[Ee,O1,nc,jj,iK,mZ,aV,q0,q1,q2,q3,q4,q5,h0,h1,h2,h3,zk,an,af,aE,aw,EW,seval]
    ·simp only[Ee,O1,nc,jj,iK,mZ,aV,q0,q1,q2,q3,q4,q5,h0,h1,h2,h3,iY,zk,an,af,aE,aw,EW,seval]
   ·simp only[Ee,O1,nc,jj,iK,mZ,aV,q0,q1,q2,q3,q4,q5,h0,h1,h2,iY,zk,an,af,aE,aw,EW,seval]
  ·simp only[Ee,O1,nc,jj,iK,mZ,aV,q0,q1,q2,q3,q4,q5,h0,h1,iY,zk,an,af,aE,aw,EW,seval]
 ·simp only[Ee,O1,nc,jj,iK,mZ,aV,q0,q1,q2,q3,q4,q5,h0,iY,zk,an,af,aE,aw,EW,seval]
end
end
section
variable {t:Tree} {cg:Int->Nat}
attribute [local irreducible] fS fp kH gK dv kr aq aM cv bJ
def WI{au:Int}{i:Int}{T N:cD}{d:Node}{k:List K}{r:Option (ag×aL)}(hd:d.aN.length<=1000)(P0:ag)(ns0:List Bytes)(h0:Row P0 (ns0.map ag.str))(hn:ns0.length<=1000)
  (hT:∀B M,cD.back B M T=T) (hN:∀B M,cD.back B M N=N)
  (hx:∀P z,Row P ((d.aN.foldl (lL au) ns0).map ag.str)->kr (aq c9) [.tmp 4] 0 k ⟨.exit 2,(1,aG au)::(2,cL 0)::(5,P)::(6,aG i)::(7,cL 1)::z,[T,N,cm (aV d)]⟩=r) :
  fS (aq c9) [.tmp 4] 0 k (.loop [1,2,5,6,7,9,11] acG) [(1,aG au),(2,cL 0),(5,P0),(6,aG i),(7,cL 1),(9,cL 2),(11,aG 0)] [T,N,cm (aV d)]=r:=by
 refine gG (xs:=d.aN) (by omega) (fun j (s:ag×List Bytes)=>Row s.1 (s.2.map ag.str)/\s.2.length<=ns0.length+j/\(d.aN.drop j).foldl (lL au) s.2=d.aN.foldl (lL au) ns0) (fun _ (_:ag×List Bytes)=>()) (fun s j=>[(1,aG au),(2,cL 0),(5,s.1),(6,aG i),(7,cL 1),(9,cL 2),(11,aG j)])
  (fun _=>[T,N,cm (aV d)]) (fun _=>r) (fun s hs=>?_) (fun pre x post s hh hz cu hw hz0 hm hs hi=>?_) (P0,ns0) ⟨h0,ar _,rfl⟩
 ·obtain⟨hs1,hs2,hs3⟩:=hs;rw[gM] at hs3;have hs3:s.2=d.aN.foldl (lL au) ns0:=hs3;rw[hs3] at hs1;simp only[aV] at hx;simp only[Jn,aV,aI,bg,EW,seval];exact hx _ _ hs1
 ·obtain⟨P,ns⟩:=s;obtain⟨hs1,hs2,hs3⟩:=hs;simp only at hs1 hs2 hs3;have hd1:d.aN.drop pre.length=x::post:=by rw[hh]; simp
  have hd2:d.aN.drop (pre.length+1)=post:=by rw[hh]; simp
  have hpl:pre.length<d.aN.length:=by have:=congrArg List.length hh; simp at this; omega
  rw[hd1,bB] at hs3;have r1:dQ (1+ns.length) 16=True:=xR;have r0:dQ 1 16=True:=xR;have hwd:wid (ns.map ag.str) 1=True:=mG ag.str 1 (fun _=>rfl) ns
  simp only[aV] at hi ⊢;cases hc:x.au==au
  ·have e:lL au ns x=ns:=by unfold lL; rw[hc]; rfl
   rw[e] at hs3;have i1:=hi (P,ns) ⟨hs1,by simp only; omega,by rw[hd2]; exact hs3⟩
   rcases hs1 with rfl|⟨rfl,_⟩ <;>
   simp only[Jn,ew,aI,cu,hz,hw,hz0,hc,hT,hN,EW,seval]<;>exact i1
  ·have e:lL au ns x=x.name::ns:=by unfold lL; rw[hc]; rfl
   rw[e] at hs3;have i1:=hi (kJ ((x.name::ns).map ag.str),x.name::ns) ⟨.inl rfl,by simp; omega,by rw[hd2]; exact hs3⟩
   simp only[aW] at i1;rcases hs1 with rfl|⟨rfl,hn0⟩
   ·simp only[Jn,ew,aI,cu,hz,hw,hz0,hc,hT,hN,r1,hwd,EW,seval];exact i1
   ·rw[hn0] at i1;simp only[Jn,ew,aI,cu,hz,hw,hz0,hc,hT,hN,r0,EW,seval];exact i1
def WJ(h:cq t cg 0){k:List K}{r:Option (ag×aL)}{Lf:List Bytes}
  (hx:∀P z1 z2,Row P (Lf.map ag.str)->kr (aq c9) [.tmp 4] 0 k ⟨.exit 0,(1,z1)::(2,cL 0)::(5,P)::z2,[cm (bd t)]⟩=r) :
  ∀(m i:Nat)(L:List Bytes)(au:Int)(ns:List Bytes)(n:Node)(P:ag),i+m=t.ae.length->Way t.ae 1 L au->find t.ae au=some n->n.kind=2->L.length<=m->L++ns=Lf->Lf.length<=12->Row P (ns.map ag.str) ->
   fS (aq c9) [.tmp 4] 0 k (.loop [1,2,5,6] acH) [(1,aG au),(2,cL 0),(5,P),(6,aG i)] [cm (bd t)]=r:=by
 intro m;have hnl:=h.ae;induction m with
 |zero =>
  intro i L au ns n P hi hw hf hk hL hLf h12 hP;have:L=[]:=cp (by omega)
  subst this;rw[aY] at hLf;subst hLf;rw[bZ];have e1:((i:Int)<(t.ae.length:Int))=False:=Gu;simp only[bd] at hx ⊢;rcases hP with rfl|⟨rfl,hn⟩
  ·simp only[Jn,bd,aI,e1,EW,seval];exact hx _ _ _ (.inl rfl)
  ·simp only[Jn,bd,aI,e1,EW,seval];exact hx _ _ _ (.inr ⟨rfl,hn⟩)
 |succ m ih =>
  intro i L au ns n P hi hw hf hk hL hLf h12 hP;rw[bZ];have e1:((i:Int)<(t.ae.length:Int))=True:=AE
  by_cases h1:au=1
  ·have e2:(au != 1)=false:=by simp[h1]
   obtain⟨rr,hr,hrk,_⟩:=h.root;subst h1;have:L=[]:=h.B4 L.length rfl hw (L':=[]) rfl hr hrk;subst this;rw[aY] at hLf;subst hLf;simp only[bd] at hx ⊢;rcases hP with rfl|⟨rfl,hn⟩
   ·simp only[Jn,bd,aI,e1,an,EW,seval];exact hx _ _ _ (.inl rfl)
   ·simp only[Jn,bd,aI,e1,an,EW,seval];exact hx _ _ _ (.inr ⟨rfl,hn⟩)
  ·have e2:(au != 1)=true:=by simpa using h1
   rcases eI L with rfl|⟨Q,x,rfl⟩
   ·exact absurd hw.symm h1
   rw[fe] at *;obtain⟨p,hp,d,e,hd,hdk,hxn,he,hee⟩:=iw.1 hw;rw[Way] at hee;obtain⟨he1,he2⟩:=eB he;obtain⟨m',hm',hu,_⟩:=h.step hd he;rw[hee,hf] at hm'; cases hm';have hup:n.up=p:=(hu hk).1;have hn:bE t.ae au=n:=by simp[bE,hf]
   have hd':bE t.ae p=d:=by simp[bE,hd]
   have hc:nb d.aN au<=1:=by
    have q1:=wD (n:=d) au (cj hd).1;have q2:=h.one _ _ hf hk h1;have q3:=h.dp _ _ hf;have q4:=(h.num _ _ hf).1;rw[q2,ak (by omega)] at q3
    omega
   have hfold:d.aN.foldl (lL au) ns=x::ns:=by rw[Dk au d.aN ns e he1 hee hc,he2]
   have q1:=Gc t.ae t.next t.ai au (by omega)
   have q2:=Gc t.ae t.next t.ai p (by omega)
   have hnn:(find t.ae au).getD Node.zero=n:=hn;have hdd:(find t.ae p).getD Node.zero=d:=hd';have hw1:IntKind.i64.wrap ((i:Int)+1)=((i+1:Nat):Int):=by rw[gD (by omega) (by omega)]; omega
   have hde:=(h.xN _ _ hd).2;have hnsl:ns.length<=12:=by rw[<-hLf] at h12; simp at h12; omega
   rw[hnn] at q1;rw[hdd] at q2;have hlen':Q.length<=m:=by simp at hL; omega
   have hLf':Q++(x::ns)=Lf:=by rw[<-hLf]; simp
   have ihn:=fun P' hP'=>ih (i+1) Q p (x::ns) d P' (by omega) hp hd hdk hlen' hLf' h12 hP'
   have la:=fun {k r} P0 h0 hx=>WI (au:=au) (i:=(i:Int)) (T := cm [a8 t.ae,aG t.next,aG t.ai]) (N := cm (aV n)) (d:=d) (k:=k) (r:=r) (by omega) P0 ns h0 (by omega) (fun _ _=>rfl) (fun _ _=>rfl) hx
   rw[hfold] at la;subst hup;simp only[bd,cn,aV] at q1 q2 la ihn ⊢;rcases hP with rfl|⟨rfl,hn0⟩
   ·simp only[Jn,aI,e1,e2,q1,q2,EW,seval];refine la _ (.inl rfl) (fun P' z hP'=>?_)
    have i1:=ihn P' hP';rcases hP' with rfl|⟨rfl,hP0⟩
    ·simp only[Jn,hw1,EW,seval];exact i1
    ·cases hP0
   ·simp only[Jn,aI,e1,e2,q1,q2,EW,seval];refine la _ (.inr ⟨rfl,hn0⟩) (fun P' z hP'=>?_)
    have i1:=ihn P' hP';rcases hP' with rfl|⟨rfl,hP0⟩
    ·simp only[Jn,hw1,EW,seval];exact i1
    ·cases hP0
def k40(h:cq t cg 0){L:List Bytes}{au:Int}{n:Node}(hw:Way t.ae 1 L au)(hi:find t.ae au=some n)(hk:n.kind=2)(M:aL):aM (aq c9) 40 [.agg [a8 t.ae,aG t.next,aG t.ai],aG au] M=some (.str (jP L),M):=by
 refine cO (aJ ?_) M
 have hl:L.length<=t.ae.length:=by
  obtain⟨r,hr,hrk,_⟩:=h.root;have e:=h.th hw hr hrk hi hk;have:=h.ym hi hk;rw[h.zd] at e; omega
 have h12:=h.pN hw;have hnm:=kS hw;have q:=k88 L (by omega) (fun x hx=>rS (hnm x hx))
 rw[CV] at q;have hl:=fun {k r} hx=>WJ h (k:=k) (r:=r) (Lf:=L) hx t.ae.length 0 L au [] n (.slice .c0 []) (by omega) hw hi hk hl (by simp) h12 (.inr ⟨rfl,rfl⟩)
 simp only[bd,gh] at hl;simp only[aaJ,Jn,EW,seval];refine hl (fun P z1 z2 hP=>?_)
 rcases hP with rfl|⟨rfl,hn⟩
 ·simp only[Jn,q,EW,seval]
 ·have:L=[]:=by simpa using hn
  subst this;simp only[fO,bp] at q;simp only[Jn,q,EW,seval]
end
def Mz{α:Type}{A B:List α}{j:Nat}{a:α}(hl:A.length=B.length)(ha:A[j]?=some a):(A.take j++B.drop j).set j a=A.take (j+1)++B.drop (j+1):=by
 have hj:=(aC.1 ha).1;have hB:B.drop j=B[j]'(by omega)::B.drop (j+1):=cC (by omega)
 have hA:A.take (j+1)=A.take j++[a]:=by rw[dC,ha]; rfl
 rw[hA,hB,List.set_append_right _ _ (by rw[gi]; omega),gi,Nat.min_eq_left (by omega),Nat.sub_self,List.set_cons_zero,da]
 rfl
def Vw{α:Type}{A B:List α}{j:Nat}(hl:A.length=B.length)(hj:j<A.length):(A.take j++B.drop j)[j]?=B[j]?:=by
 rw[br (by simp[Nat.le_of_lt hj])]
 simp[Nat.min_eq_left (Nat.le_of_lt hj)]
def zz(ds:List Int)(b:Nat)(c d:Int):j6 (ds.map mr) b (putCells (mr c) 0 [aG d])=(ds.set b d).map mr:=by
 have:putCells (mr c) 0 [aG d]=mr d:=rfl;rw[this,fQ,kW]
def pn(c:Int):(mr c).cells=[aG c]:=rfl
def Au(own:Int)(e:eD)(ae:List Node)(out:List Int)(h:out.length=ae.length):(qc own e ae out).length=ae.length:=by simp[qc,h]
section
variable {t:Tree} {cg:Int->Nat} {l:List Piece}
attribute [local irreducible] fS fp kH gK dv kr aq aM cv bJ
def SS(hn:t.ae.length<=1000){v7 v9 v11:ag}{d:Node}{k:List K}{r:Option (ag×aL)}{e:eD}{own:Int}{j0:Nat}(he:d.aN[j0]?=some e)(out0:List Int)(ho:out0.length=t.ae.length)
  (h7:∀B M,ag.nW B M v7=v7)
  (hx:∀z,kr (aq c9) [.tmp 4] 0 k ⟨.exit 6,(0,bI l)::(3,cL 0)::(5,.dk 1 0 1 0 t.ae.length)::(7,v7)::(8,cL 2)::(9,aG own)::(11,aG j0)::z,[cm (bd t),.arr 1 0 ((qc own e t.ae out0).map mr),cm (aV d)]⟩=r) :
  fS (aq c9) [.tmp 4] 0 k (.loop [0,3,5,7,8,9,11,12] V4) [(0,bI l),(3,cL 0),(5,.dk 1 0 1 0 t.ae.length),(7,v7),(8,cL 2),(9,aG own),(11,aG j0),(12,aG 0)] [cm (bd t),.arr 1 0 (out0.map mr),cm (aV d)]=r:=by
 have hml:=Au own e t.ae out0 ho
 refine gG (xs:=t.ae) (by omega) (fun j (out:List Int)=>out=(qc own e t.ae out0).take j++out0.drop j) (fun _ (_:List Int)=>()) (fun _ j=>[(0,bI l),(3,cL 0),(5,.dk 1 0 1 0 t.ae.length),(7,v7),(8,cL 2),(9,aG own),(11,aG j0),(12,aG j)])
  (fun out=>[cm (bd t),.arr 1 0 (out.map mr),cm (aV d)]) (fun _=>r) (fun out hs=>?_) (fun pre x post out hh hz cu hw hz0 hm hs hi=>?_) out0 rfl
 ·have hs2:out=qc own e t.ae out0:=by rw[hs,<-hml,cT,hml,<-ho,gM,bW]
  subst hs2;simp only[bd,aV] at hx ⊢;simp only[xM,aI,bg,EW,seval];exact hx _
 ·have hpl:pre.length<t.ae.length:=by have:=congrArg List.length hh; simp at this; omega
  have hb0:=aj (show pre.length<out0.length by omega)
  have hget:out[pre.length]?=some out0[pre.length]:=by rw[hs,Vw (by omega) (by omega),hb0]
  have hmk:(qc own e t.ae out0)[pre.length]?=some (if x.au != e.au||x.kind != 1 then out0[pre.length] else vL own out0[pre.length]):=by
   unfold qc;rw[List.getElem?_zipWith,hz,hb0]
  have hset:=fun a ha=>Mz (A:=qc own e t.ae out0) (B:=out0) (j:=pre.length) (a:=a) (by omega) ha
  rw[<-hs] at hset;have hj0:((j0:Int)<0)=False:=by simp
  generalize out0[pre.length]=o at *;have hlt2:((pre.length:Int)<(t.ae.length:Int))=True:=cu;cases hc:(x.au != e.au||x.kind != 1)
  ·rw[hc] at hmk;simp only[jm] at hc;obtain⟨hc1,hc2⟩:=hc;have i1:=hi (out.set pre.length (vL own o)) (hset _ hmk);unfold vL at i1;cases hu:o == -1
   ·cases hv:o != own
    ·rw[hu,hv] at i1
     have hsame:out.set pre.length o=out:=by
      have:=aC.1 hget;rw[<-this.2]; exact List.set_getElem_self this.1
     simp only[af,aw,hsame] at i1;simp only[bd,aV] at i1 ⊢;simp only[xM,aI,cu,hz,hw,hz0,he,hj0,hc1,hc2,hget,hu,hv,aV,ew,h7,bh,bV,aQ,fD,pn,EW,seval];exact i1
    ·rw[hu,hv] at i1;simp only[af,aw,aE] at i1;simp only[bd,aV] at i1 ⊢;simp only[xM,aI,cu,hz,hw,hz0,he,hj0,hc1,hc2,hget,hu,hv,aV,ew,h7,bh,bV,aQ,fD,zz,pn,EW,seval]
     trace_state
     exact i1
   ·rw[hu] at i1;simp only[aE] at i1;simp only[bd,aV] at i1 ⊢;simp only[xM,aI,cu,hz,hw,hz0,he,hj0,hc1,hc2,hget,hu,aV,ew,h7,bh,bV,aQ,fD,zz,pn,EW,seval];exact i1
  ·rw[hc] at hmk;simp only[aE] at hmk
   have i1:=hi out (by
    have:=hset _ hmk;rw[<-this];have h2:=aC.1 hget;rw[<-h2.2]; exact(List.set_getElem_self h2.1).symm)
   simp only[bd,aV] at i1 ⊢;cases hc1:x.au != e.au
   ·rw[hc1,dg] at hc;simp only[xM,aI,cu,hz,hw,hz0,he,hj0,hc1,hc,aV,ew,h7,bh,EW,seval];exact i1
   ·simp only[xM,aI,cu,hz,hw,hz0,he,hj0,hc1,aV,ew,h7,bh,EW,seval];exact i1
end
def EI(own:Int)(ae:List Node):∀(es:List eD)(out:List Int),out.length=ae.length->(es.foldl (fun o e=>qc own e ae o) out).length=ae.length
 | [],out,h=>h
 |e::es,out,h=>by rw[bB]; exact EI own ae es _ (Au own e ae out h)
section
variable {t:Tree} {cg:Int->Nat} {l:List Piece}
attribute [local irreducible] fS fp kH gK dv kr aq aM cv bJ
def SU(hn:t.ae.length<=1000){i7:Int}{d:Node}{k:List K}{r:Option (ag×aL)}{own:Int}(hd:d.aN.length<=1000)(out0:List Int)(ho:out0.length=t.ae.length)
  (hx:∀z,kr (aq c9) [.tmp 4] 0 k ⟨.exit 4,(0,bI l)::(3,cL 0)::(5,.dk 1 0 1 0 t.ae.length)::(7,aG i7)::(8,cL 2)::(9,aG own)::z,[cm (bd t),.arr 1 0 ((d.aN.foldl (fun o e=>qc own e t.ae o) out0).map mr),cm (aV d)]⟩=r) :
  fS (aq c9) [.tmp 4] 0 k (.loop [0,3,5,7,8,9,11] V5) [(0,bI l),(3,cL 0),(5,.dk 1 0 1 0 t.ae.length),(7,aG i7),(8,cL 2),(9,aG own),(11,aG 0)] [cm (bd t),.arr 1 0 (out0.map mr),cm (aV d)]=r:=by
 refine gG (xs:=d.aN) (by omega) (fun j (out:List Int)=>out.length=t.ae.length/\(d.aN.drop j).foldl (fun o e=>qc own e t.ae o) out=d.aN.foldl (fun o e=>qc own e t.ae o) out0) (fun _ (_:List Int)=>()) (fun _ j=>[(0,bI l),(3,cL 0),(5,.dk 1 0 1 0 t.ae.length),(7,aG i7),(8,cL 2),(9,aG own),(11,aG j)])
  (fun out=>[cm (bd t),.arr 1 0 (out.map mr),cm (aV d)]) (fun _=>r) (fun out hs=>?_) (fun pre x post out hh hz cu hw hz0 hm hs hi=>?_) out0 ⟨ho,rfl⟩
 ·rw[gM] at hs;have hs2:out=d.aN.foldl (fun o e=>qc own e t.ae o) out0:=hs.2
  subst hs2;simp only[bd,aV] at hx ⊢;simp only[xM,aI,bg,EW,seval];exact hx _
 ·have hd1:d.aN.drop pre.length=x::post:=by rw[hh]; simp
  have hd2:d.aN.drop (pre.length+1)=post:=by rw[hh]; simp
  rw[hd1,bB] at hs;have la:=fun {k r} hx=>SS (t:=t) (l:=l) hn (v7 := aG i7) (v9 := .any) (v11 := .any) (d:=d) (k:=k) (r:=r) (e:=x) (own:=own) (j0:=pre.length) hz out hs.1 (fun _ _=>rfl) hx
  have i1:=hi (qc own x t.ae out) ⟨Au own x t.ae out hs.1,by rw[hd2]; exact hs.2⟩
  simp only[bd,aV] at la i1 ⊢;simp only[xM,aI,cu,hz0,EW,seval];refine la (fun z=>?_)
  simp only[xM,hw,EW,seval];exact i1
def ag3(h:cq t cg 0)(hl:jV l)(M:aL):aM (aq c9) 148 [bI l,.agg [a8 t.ae,aG t.next,aG t.ai]] M=some (lQ (sd l t.ae),M):=by
 refine cO (aJ ?_) M;have hn:=h.ae;have hm:=hl.many
 obtain⟨r0,rest0,hr0,_⟩:∃r rest,t.ae=r::rest/\True:=by
  obtain⟨r,hr,_⟩:=h.root;have:=(cj hr).1;cases hnn:t.ae with
  |nil=>rw[hnn] at this; cases this
  |cons a b=>exact⟨a,b,rfl,trivial⟩
 have hpos:0<t.ae.length:=by rw[hr0]; simp
 have r1:dQ t.ae.length 8=True:=xR;have hrep:List.replicate t.ae.length (ag.agg [aG 0]).norm=(List.replicate t.ae.length (0:Int)).map mr:=by rw[List.map_replicate]; rfl
 simp only[Qb,xM,aI,r1,hrep,EW,seval]
 refine cZ (gG (xs:=t.ae) (by omega) (fun i (out:List Int)=>out=(t.ae.map fun _=>(-1:Int)).take i++(List.replicate t.ae.length (0:Int)).drop i) (fun _ (_:List Int)=>()) (fun _ i=>[(0,bI l),(3,cL 0),(5,.dk 1 0 1 0 t.ae.length),(6,aG i)])
  (fun out=>[cm [a8 t.ae,aG t.next,aG t.ai],.arr 1 0 (out.map mr)]) (fun _=>some (lQ (sd l t.ae),[])) (fun out hs=>?_) (fun pre x post out hh hz cu hw hz0 hm hs hi=>?_) _ rfl) rfl
 ·have hs2:out=t.ae.map fun _=>(-1:Int):=by
   rw[hs,ck (by simp),List.drop_of_length_le (by simp),bW]
  subst hs2;simp only[xM,aI,bg,EW,seval]
  refine cZ (gG (xs:=t.ae) (by omega) (fun i (S:Nat×List Int)=>S.1=i/\S.2.length=t.ae.length/\(t.ae.drop i).foldl (pJ l t.ae) S=t.ae.foldl (pJ l t.ae) (0,t.ae.map fun _ => -1)) (fun _ (_:Nat×List Int)=>()) (fun S i=>[(0,bI l),(3,cL 0),(5,.dk 1 0 1 0 t.ae.length),(7,aG i)])
   (fun S=>[cm [a8 t.ae,aG t.next,aG t.ai],.arr 1 0 (S.2.map mr)]) (fun _=>some (lQ (sd l t.ae),[])) (fun S hs=>?_) (fun pre x post S hh hz cu hw hz0 hmx hs hi=>?_) (0,t.ae.map fun _=>(-1:Int)) ⟨rfl,by simp,rfl⟩) rfl
  ·obtain⟨i,out⟩:=S;obtain⟨_,hs2,hs3⟩:=hs;rw[gM] at hs3;have hs4:out=sd l t.ae:=congrArg Prod.snd hs3;simp only at hs2;have hT:List.take t.ae.length (out.map mr)=out.map mr:=ck (by simp[hs2])
   simp only[xM,aI,bg,hT,EW,seval];rw[hs4]
  ·obtain⟨i,out⟩:=S;obtain⟨hs1,hs2,hs3⟩:=hs;simp only at hs1 hs2;subst hs1;have hd1:t.ae.drop pre.length=x::post:=by rw[hh]; simp
   have hd2:t.ae.drop (pre.length+1)=post:=by rw[hh]; simp
   rw[hd1,bB] at hs3;have hlt2:pre.length<t.ae.length:=by have:=congrArg List.length hh; simp at this; omega
   cases hk:x.kind != 2
   ·have hk2:x.kind=2:=by simpa using hk
    have hfx:=(fy h.jE.jx).2 ⟨hmx,rfl⟩;obtain⟨L,hw1,_⟩:=h.DE _ x.au x hfx hk2 rfl;have hnames:=kS hw1;have h12:=h.pN hw1;have q1:=k40 h hw1 hfx hk2;have hsp:(bz (jP L)).2=0:=by rw[ke hnames h12]
    have q2:=k25 hl (jP L) (by rw[<-rh]; have:=uY L hnames h12; omega)
    unfold GJ at q2;rw[az hsp] at q2
    have hown:vG l t.ae x=((dj l (jP L):Nat):Int):=by
     unfold vG;rw[IC h hw1 hfx hk2,KF hl hsp]
    have hst:pJ l t.ae (pre.length,out) x=(pre.length+1,x.aN.foldl (fun o e=>qc (vG l t.ae x) e t.ae o) (out.set pre.length (vG l t.ae x))):=by
     unfold pJ; rw[hk]; rfl
    rw[hst,hown] at hs3;generalize ((dj l (jP L):Nat):Int)=own at *;have hx0:=aj (show pre.length<out.length by omega)
    have hent:=(h.xN _ _ hfx).2;have hset:(out.set pre.length own).length=t.ae.length:=by simp[hs2]
    have lb:=fun {k r} hx=>SU (t:=t) (l:=l) (by omega) (i7:=(pre.length:Int)) (d:=x) (k:=k) (r:=r) (own:=own) (by omega) (out.set pre.length own) hset hx
    have i1:=hi (pre.length+1,x.aN.foldl (fun o e=>qc own e t.ae o) (out.set pre.length own)) ⟨rfl,EI _ _ _ _ hset,by rw[hd2]; exact hs3⟩
    generalize x.aN.foldl (fun o e=>qc own e t.ae o) (out.set pre.length own)=out' at lb i1
    simp only[bd,aV] at lb i1 ⊢;simp only[xM,aI,cu,hz,hw,hz0,hk,hx0,q1,q2,aV,bV,aQ,fD,bh,zz,pn,EW,seval];refine lb (fun z=>?_)
    simp only[xM,hw,EW,seval];exact i1
   ·have hst:pJ l t.ae (pre.length,out) x=(pre.length+1,out):=by unfold pJ; rw[hk]; rfl
    rw[hst] at hs3;have i1:=hi (pre.length+1,out) ⟨rfl,hs2,by rw[hd2]; exact hs3⟩
    simp only[xM,aI,cu,hz,hw,hz0,hk,aV,EW,seval];exact i1
 ·have hset:=Mz (A:=t.ae.map fun _=>(-1:Int)) (B:=List.replicate t.ae.length (0:Int)) (j:=pre.length) (a := -1) (by simp) (by rw[aZ,hz]; rfl)
  rw[<-hs] at hset;have i1:=hi _ hset
  have hol:out.length=t.ae.length:=by
   have hlt2:pre.length<t.ae.length:=by have:=congrArg List.length hh; simp at this; omega
   rw[hs]; simp; omega
  have hlt2:pre.length<t.ae.length:=by have:=congrArg List.length hh; simp at this; omega
  have hx0:=aj (show pre.length<out.length by omega)
  simp only[xM,aI,cu,hw,hx0,bV,aQ,fD,bh,zz,pn,EW,seval];exact i1
def k81(h:cq t cg 0)(hl:jV l)(M:aL):aM (aq c9) 81 [bI l,.agg [a8 t.ae,aG t.next,aG t.ai]] M=some (.bool (S3 l t),M):=by
 refine cO (aJ ?_) M;have hn:=h.ae;have hm:=hl.many;have q1:=ag3 h hl;have hpl:(sd l t.ae).length=t.ae.length:=by rw[AF h]; simp
 unfold S3;generalize sd l t.ae=ps at q1 hpl ⊢;simp only[agG,XB,EW,seval]
 refine pq (xs:=l) (by omega) (fun post (_:Unit)=>(post.all fun p=>(sx t.ae p.aU).2==0&&(bE t.ae (sx t.ae p.aU).1).kind==2)&&ps.all fun p => !decide (p<0)) (fun _ i=>[(0,bI l),(3,cL 0),(5,aG i)])
  (fun _=>[cm [a8 t.ae,aG t.next,aG t.ai]]) (fun b=>some (ag.bool b,([]:aL))) (fun _=>?_) (fun pre x post _ hh hx cu hw hz0 hmx hi=>?_) ()
 ·simp only[XB,aI,bg,q1,List.all_nil,bQ,EW,seval];refine pq (xs:=ps) (by omega) (fun post (_:Unit)=>post.all fun p => !decide (p<0)) (fun _ i=>[(10,lQ ps),(11,aG i)]) (fun _=>[cm [a8 t.ae,aG t.next,aG t.ai]]) (fun b=>some (ag.bool b,([]:aL))) (fun _=>?_) (fun pre x post _ hh hx cu hw hz0 hmx hi=>?_) ()
  ·simp only[XB,aI,bg,List.all_nil,EW,seval]
  ·have i1:=hi ();rw[j9];cases hc:decide (x<0)
   ·simp only[fV,bQ];simp only[XB,aI,cu,hx,hw,hz0,hc,pn,EW,seval];exact i1
   ·simp only[XB,aI,cu,hx,hw,hz0,hc,pn,cX,cf,EW,seval]
 ·have i1:=hi ();rw[j9];have q2:=k24 t.ae t.next t.ai x.aU h.sz.KZ (hl.Ou x hmx)
  have q3:∀M,aM (aq c9) 26 [.agg [a8 t.ae,aG t.next,aG t.ai],aG (sx t.ae x.aU).1] M=some (.tuple [cn (bE t.ae (sx t.ae x.aU).1),.bool (find t.ae (sx t.ae x.aU).1).isSome],M):=Gc t.ae t.next t.ai (sx t.ae x.aU).1 (by omega)
  generalize sx t.ae x.aU=v at q2 q3 ⊢;generalize bE t.ae v.1=n at q3 ⊢;simp only[cn,aV] at q3;cases hc:v.2==0
  ·have hc':(v.2 != 0)=true:=by simpa using hc
   simp only[XB,aI,cu,hx,hw,hz0,hc',q2,q3,dU,gx,cR,cf,EW,seval]
  ·have hc':(v.2 != 0)=false:=by simpa using hc
   cases hk:n.kind==2
   ·have hk':(n.kind != 2)=true:=by simpa using hk
    simp only[XB,aI,cu,hx,hw,hz0,hc',hk',q2,q3,dU,gx,cR,cf,dL,EW,seval]
   ·have hk':(n.kind != 2)=false:=by simpa using hk
    simp only[bQ];simp only[XB,aI,cu,hx,hw,hz0,hc',hk',q2,q3,dU,gx,cR,EW,seval];exact i1
end
def Ig(w:ag->cD)(n:Node):List eD->aL
 | []=>[w (.slice .c0 []),.cells (aV n)]
 |e::es=>w (.slice (.own 3) (.str e.name::es.map fun x => .str x.name)) :: .cells (aV n) :: .cells (ew e) :: .tick 1 (es.length+1)::es.map fun x => .cells (ew x)
def MY(B:Nat)(M:aL)(es:List eD):(es.map fun x=>cD.cells (ew x)).map (cD.back B M)=es.map fun x => cm (ew x):=by
 rw[fW];exact bX fun x _=>rfl
section
attribute [local irreducible] fS fp kH gK dv kr aq aM cv bJ
def c99(f:wb){t:Tree}(ht:Rt t)(o:oW)(ho:BM o):ya 99 f t o (tT t o):=by
 unfold ya;have q1:=fun {M}=>k90 f ht o o.aU (by have:=ho.aU; omega) (p:=0) (M:=M)
 unfold tT;simp only[];generalize eF t o.aU=v at q1 ⊢;have q1:=@q1;generalize bE t.ae v.1=n at q1 ⊢;have q2:=alm t ht n.au o.n o.m;have hl:=Aq ht n.au o.n o.m;generalize p9 t n.au o.n o.m=l at q2 hl ⊢;simp only[nc,jj,aV] at q1;cases h0:v.2 != 0
 rotate_left
 ·refine⟨.slice .c0 [],.inr ⟨rfl,rfl⟩,rfl,aJ ?_⟩;simp only[Qo,ZV,nc,jj,iK,mZ,aV,q1,h0,iY,an,af,aE,aw,EW,seval]
 cases h1:l.2.2 != 0
 rotate_left
 ·refine⟨.slice .c0 [],.inr ⟨rfl,rfl⟩,rfl,aJ ?_⟩;simp only[Qo,ZV,nc,jj,iK,mZ,aV,q1,q2,zk,h0,h1,iY,an,af,aE,aw,EW,seval]
 refine⟨if l.1=[] then .slice .c0 [] else fO (l.1.map eD.name),?_,rfl,aJ ?_⟩
 ·by_cases he:l.1=[]
  ·rw[az he]; exact .inr ⟨rfl,by simp[he]⟩
  ·rw[ak he]; exact .inl rfl
 simp only[Qo,ZV,nc,jj,iK,aV,q1,q2,zk,h0,h1,an,af,aE,aw,EW,seval]
 refine cZ (Ly (xs:=l.1) (by omega) (fun i (done:List eD)=>done=l.1.take i) (fun _ (_:List eD)=>()) (fun _ i=>[(0,cL 0),(43,ij l.1),(44,aG l.1.length),(45,aG i)])
  (fun done=>Ig (iK f t o ⟨0,0,0,l.2.1,0,[],[]⟩) n done) (fun _=>some (.tuple [],[iK f t o ⟨0,0,0,l.2.1,0,l.1.map eD.name,[]⟩ (if l.1=[] then .slice .c0 [] else fO (l.1.map eD.name))])) (fun done hd=>?_) (fun pre x post done hh hx cu hw hz hm hd hi=>?_) [] (by simp)) rfl
 ·rw[cT] at hd;subst hd;cases he:l.1 with
  |nil =>
   simp only[ZV,Ig,iK,bg,EW,seval]
  |cons e es =>
   have e2:(List.map eD.name es).map ag.str=es.map fun x => .str x.name:=by rw[fW]; rfl
   simp only[ZV,Ig,iK,fO,aW,e2,bg,reduceCtorEq,aw,EW,seval]
 ·have i1:=hi (l.1.take (pre.length+1)) rfl;have h1:l.1.take (pre.length+1)=pre++[x]:=by rw[hh,show pre++x::post=(pre++[x])++post by simp]; exact List.take_left' (by simp)
  have h2:l.1.take pre.length=pre:=by rw[hh]; simp
  rw[h2] at hd;rw[h1] at i1;have hd:=hd.symm;subst hd;have eY:pre.length+1<=100000:=by have:=congrArg List.length hh; simp at this; omega
  cases pre with
  |nil =>
   simp only[aH,gh] at cu hx hw hz;simp only[aY,Ig,bp,aH,gh,aQ,iK,ew] at i1 ⊢;have r0:dQ 1 16=True:=xR;simp only[ZV,cu,hx,hw,hz,r0,ew,EW,seval];exact i1
  |cons e es =>
   have r1:dQ (es.length+1+1) 16=True:=se (by simp at eY; omega) (by omega)
   simp only[aX,Ig,bC,aW,bp,aK,av,aH,aQ,iK] at i1 ⊢;simp only[av] at cu hx hw hz;have hZb:=fun B M=>MY B M es
   have hZl:(es.map fun x=>cD.cells (ew x)).length=es.length:=by simp
   generalize (es.map fun x=>cD.cells (ew x))=Z at i1 hZb hZl ⊢
   have n0:∀b Y,nth (Z++b::Y) Z.length=some b:=fun b Y=>by rw[eN]; simp
   have s0:∀b c Y,j6 (Z++b::Y) Z.length c=Z++c::Y:=fun b c Y=>by rw[fQ]; simp
   have bkZ:∀B M b,List.map (cD.back B M) (Z++[b])=Z++[cD.back B M b]:=fun B M b=>by rw[bC,hZb]; rfl
   have tkZ:∀b:cD,List.take (Z.length+1) (Z++[b])=Z++[b]:=fun b=>ck (by simp)
   have lt0:∀n,(0<n+1+1+1+1)=True:=fun n=>by simp
   have lt3:∀n,(3<n+1+1+1+1)=True:=fun n=>by simp
   have hwd:wid (ag.str e.name::es.map fun x=>ag.str x.name) 1=True:=mG (fun x:eD=>ag.str x.name) 1 (fun _=>rfl) (e::es)
   simp only[ew] at i1 ⊢;simp only[ZV,cu,hx,hw,hz,r1,hwd,ew,n0,s0,bkZ,tkZ,lt0,lt3,aI,aX,EW,seval];exact i1
end
inductive RB
 |nd (n:Node)
 |tk (k:Nat)
def vS:RB->cD
 | .nd n => .cells (aV n)
 | .tk k => .tick 6 k
abbrev LM:=AM (Nat×List Node)
def Np(p:Nat×List Node):ag := .slice (.own p.1) (p.2.map cn)
structure Lts(b:Nat)(s:LM×List RB):Prop where
 at':∀g id l,dw s.1 g=some (id,l)->∃i,id=b+i/\s.2[i]?=some (RB.tk l.length)
 ne:∀g g' id l l',dw s.1 g=some (id,l)->dw s.1 g'=some (id,l')->g=g'
def nY(b:Nat)(k:Node->Int)(s:LM×List RB)(n:Node):LM×List RB :=
 match dw s.1 (k n) with
 |none=>(kq s.1 (k n) (b+(s.2.length+1),[n]),s.2++[RB.nd n,RB.tk 1])
 |some (id,l)=>(kq s.1 (k n) (id,l++[n]),(s.2++[RB.nd n]).set (id-b) (RB.tk (l.length+1)))
def SD{b:Nat}{k:Node->Int}{s:LM×List RB}(h:Lts b s)(n:Node):Lts b (nY b k s n):=by
 obtain⟨m,r⟩:=s;unfold nY;cases hg:dw m (k n) with
 |none =>
  simp only[hg]
  have hfar:∀g id l,dw m g=some (id,l)->id≠b+(r.length+1):=fun g id l hm e=>by
   obtain⟨i,h1,h2⟩:=h.at' g id l hm;have:=(aC.1 h2).1;simp only at this;omega
  refine⟨fun g id l hm=>?_,fun g g' id l l' hm hm'=>?_⟩
  ·simp only[ga] at hm;split at hm
   ·injection hm with hm; injection hm with h1 h2; subst h1; subst h2
    exact⟨r.length+1,rfl,by simp⟩
   ·obtain⟨i,h1,h2⟩:=h.at' g id l hm;refine⟨i,h1,?_⟩;have:=(aC.1 h2).1;simp only at this h2 ⊢;rw[bl this]; exact h2
  ·simp only[ga] at hm hm';split at hm<;>split at hm'
   ·rename_i a b; rw[a,b]
   ·injection hm with hm; injection hm with h1 h2; subst h1
    exact absurd rfl (hfar _ _ _ hm')
   ·injection hm' with hm'; injection hm' with h1 h2; subst h1
    exact absurd rfl (hfar _ _ _ hm)
   ·exact h.ne _ _ _ _ _ hm hm'
 |some p =>
  obtain⟨id0,l0⟩:=p;simp only[hg];obtain⟨i0,e0,a0⟩:=h.at' _ _ _ hg;have hi0:=(aC.1 a0).1;simp only at hi0 a0;have hsub:id0-b=i0:=by omega
  refine⟨fun g id l hm=>?_,fun g g' id l l' hm hm'=>?_⟩
  ·simp only[ga] at hm;split at hm
   ·injection hm with hm; injection hm with h1 h2; subst h1; subst h2
    refine⟨i0,e0,?_⟩;simp only[hsub];rw[eA (by simp; omega)]; simp
   ·rename_i hne;obtain⟨i,h1,h2⟩:=h.at' g id l hm;have hi:=(aC.1 h2).1;simp only at hi h2;refine⟨i,h1,?_⟩;have:i≠i0:=fun e=>hne (h.ne _ _ id l l0 hm (by rw[hg,e0,h1,e]))
    simp only[hsub];rw[fz (by omega),bl hi]; exact h2
  ·simp only[ga] at hm hm';split at hm<;>split at hm'
   ·rename_i a b; rw[a,b]
   ·rename_i a b;injection hm with hm; injection hm with h1 h2; subst h1
    rw[a]; exact h.ne _ _ _ _ _ hg hm'
   ·rename_i a b;injection hm' with hm'; injection hm' with h1 h2; subst h1
    rw[b]; exact h.ne _ _ _ _ _ hm hg
   ·exact h.ne _ _ _ _ _ hm hm'
def EE(b:Nat)(k:Node->Int)(g:Int):∀(ae:List Node)(s:LM×List RB),(((dw (ae.foldl (nY b k) s).1 g).map Prod.snd).getD [])=((dw s.1 g).map Prod.snd).getD []++ae.filter fun n=>k n==g
 | [],s=>by simp
 |n::r,s=>by
  rw[bB,EE b k g r,ib]
  have:((dw (nY b k s n).1 g).map Prod.snd).getD []=((dw s.1 g).map Prod.snd).getD []++(if k n==g then [n] else []):=by
   unfold nY;cases hg:dw s.1 (k n) with
   |none =>
    simp only[ga]
    by_cases h:g=k n
    ·subst h; simp[hg]
    ·rw[ak h,ak (by simpa using fun e=>h e.symm)]; simp
   |some p =>
    obtain⟨id,l⟩:=p;simp only[ga]
    by_cases h:g=k n
    ·subst h; simp[hg]
    ·rw[ak h,ak (by simpa using fun e=>h e.symm)]; simp
  rw[this];split<;>simp
def SV(b:Nat)(k:Node->Int)(g:Int)(ae:List Node):(((dw (ae.foldl (nY b k) ([],[])).1 g).map Prod.snd).getD [])=ae.filter fun n=>k n==g:=by
 rw[EE]; simp[dw]
def Cz(B:Nat)(M:aL)(r:List RB):(r.map vS).map (cD.back B M)=r.map vS:=by
 rw[fW];refine bX fun x _=>?_
 cases x<;>rfl
def Gl{α:Type}:∀ {m:AM α} {k:Int} {v:α} {p:Int×α},p∈kq m k v->p=(k,v)\/p∈m
 | [],k,v,p,h=>by simp[kq] at h; exact .inl h
 |(k',v')::m,k,v,p,h=>by
  simp only[kq] at h;split at h
  ·rcases bc.1 h with rfl|h
   ·exact .inl rfl
   ·exact .inr (aP _ h)
  ·rcases bc.1 h with rfl|h
   ·exact .inr aD
   ·exact(Gl h).imp id (aP _)
def aar{m:LM}{B:Nat}(h:∀p,p∈m->p.2.1<B)(M:aL):List.map (ag.jR B M) (qT Np m)=qT Np m:=by
 unfold qT;rw[fW];refine bX fun p hp=>?_
 show ag.jR B M (Np p.2)=Np p.2
 simp only[Np,ag.jR,ag.jC,ag.js,h p hp,aE]
def UM(s:LM×List RB):Prop:=∀p,p∈s.1->p.2.1<3+s.2.length
def NX{k:Node->Int}{s:LM×List RB}(hL:Lts 3 s)(h:UM s)(n:Node):UM (nY 3 k s n):=by
 obtain⟨m,r⟩:=s;unfold nY;cases hg:dw m (k n) with
 |none =>
  simp only[hg];intro p hp;rcases Gl hp with rfl|hp
  ·simp
  ·have:=h p hp; simp only[aK,av,aH] at this ⊢; omega
 |some q =>
  obtain⟨id0,l0⟩:=q;simp only[hg];intro p hp;rcases Gl hp with rfl|hp
  ·obtain⟨i,h1,h2⟩:=hL.at' _ _ _ hg;have:=(aC.1 h2).1;simp only at this;simp; omega
  ·have:=h p hp; simp only[aK,av,aH,ei] at this ⊢; omega
def Km{b:Nat}{k:Node->Int}{s:LM×List RB}{i:Nat}(h:∀g id r,dw s.1 g=some (id,r)->r.length<=i)(n:Node):∀g id r,dw (nY b k s n).1 g=some (id,r)->r.length<=i+1:=by
 obtain⟨m,R⟩:=s;unfold nY;intro g id r;cases hg:dw m (k n) with
 |none =>
  simp only[ga];split
  ·intro e; injection e with e; injection e with e1 e2; subst e2; simp
  ·intro e; have:=h g id r e; omega
 |some q =>
  obtain⟨id0,l0⟩:=q;simp only[ga];split
  ·intro e; injection e with e; injection e with e1 e2; subst e2
   have:=h _ _ _ hg; simp; omega
  ·intro e; have:=h g id r e; omega
def Vg(m:SM):List ag:=m.map fun p => .str p.1
def D8(m:SM):List ag:=m.map fun p => .int .i64 p.2
def C7:∀(m:SM)(k:Bytes),uD .s (.str k) (Vg m) (D8 m)=some ((xT m k).map (ag.int .i64))
 | [],k=>rfl
 |(k',v)::m,k=>by
  show bJ (il .s (.str k) (.str k')) (fun b=>zo b (some (some (aG v))) (uD .s (.str k) (Vg m) (D8 m)))=_
  rw[C7 m k];simp only[il,↓reduceIte,cd,xT]
  by_cases h:k=k'
  ·rw[az h,show(k==k')=true by simpa using h,va]; rfl
  ·rw[ak h,show(k==k')=false by simpa using h,nF]
def Ip:∀(m:SM)(k:Bytes)(v:Int),sM .s (.str k) (aG v) (Vg m) (D8 m)=some (Vg (GB m k v),D8 (GB m k v))
 | [],k,v=>by
  show bJ (il .s (.str k) (.str k)) (fun _=>some ([ag.str k],[AValiZq v]))=_
  simp only[il,↓reduceIte,cd];rfl
 |(k',v')::m,k,v=>by
  show bJ (il .s (.str k) (.str k')) (fun b=>zo b (some (ag.str k::Vg m,AValiZq v::D8 m)) (bJ (sM .s (.str k) (aG v) (Vg m) (D8 m)) fun x=>some (ag.str k'::x.1,AValiZq v'::x.2)))=_
  rw[Ip m k v];simp only[il,↓reduceIte,cd,GB]
  by_cases h:k=k'
  ·rw[az h,show(k==k')=true by simpa using h,va]; rfl
  ·rw[ak h,show(k==k')=false by simpa using h,nF]; rfl
def Bp(o:Option Int):mC (aG 0) false (o.map (ag.int .i64)) = aG (o.getD 0):=by cases o<;>rfl
def SK(o:Option Int):mC (aG 0) true (o.map (ag.int .i64)) = .tuple [aG (o.getD 0),.bool o.isSome]:=by cases o<;>rfl
def SN(a:Int):mC (aG 0) true (some (aG a)) = .tuple [aG a,.bool true]:=rfl
def SL:mC (aG 0) true none = .tuple [aG 0,.bool false]:=rfl
def pZ:ag := .func 105 [.ptr 0 0,.ptr 1 0,.ptr 2 0,.ptr 3 0,.ptr 4 0,.ptr 5 0]
def gn(t:Tree)(m:SM)(s:Hm):aL:=[.cells (bd t),.cells [.gH 6],.cells [.bool s.whole],.cells [.gH 7],.cells [.int .i64 s.met],.cells [pZ],.map (wE s.jN) (qT (ag.int .i64) s.jN),.map (Vg m) (D8 m)]
def flI(l:AM Int):(qT (ag.int .i64) l).all ag.flat=true:=P5 _ (fun _=>rfl) l
def rnI(ρ:Nat->Nat)(l:AM Int):(qT (ag.int .i64) l).map (ag.ry ρ)=qT (ag.int .i64) l:=Zy _ _ (fun _=>rfl) l
def idI(l:AM Int):(qT (ag.int .i64) l).flatMap ag.ids=[]:=Y7 _ (fun _=>rfl) l
def bkI(B:Nat)(M:aL)(l:AM Int):List.map (ag.jR B M) (qT (ag.int .i64) l)=qT (ag.int .i64) l:=aas _ _ _ (fun _=>rfl) l
def flS(m:SM):(D8 m).all ag.flat=true:=bw.2 fun x hx=>by
 obtain⟨p,_,rfl⟩:=bS.1 hx;rfl
def rnS(ρ:Nat->Nat)(m:SM):(D8 m).map (ag.ry ρ)=D8 m:=by
 unfold D8; rw[fW]; exact bX fun p _=>rfl
def idS(m:SM):(D8 m).flatMap ag.ids=[]:=by
 unfold D8; rw[List.flatMap_map]; exact jH.2 fun p _=>rfl
def bkS(B:Nat)(M:aL)(m:SM):List.map (ag.jR B M) (D8 m)=D8 m:=by
 unfold D8; rw[fW]; exact bX fun p _=>rfl
def Fb(t:Tree)(m:SM)(s:Hm):(gn t m s).map (cD.ry (iH [0,1,2,3,4,5,6,7]))=gn t m s/\(gn t m s).map (cD.ry (xk [0,1,2,3,4,5,6,7]))=gn t m s:=by
 constructor <;>
 ·simp only[gn,aW,bp,cD.ry,rnI,rnS]; rfl
def ahY(t:Tree)(m:SM)(s:Hm)(L:aL):kh (gn t m s++L) (iH [0,1,2,3,4,5,6,7]) [0,1,2,3,4,5,6,7]=some (gn t m s):=by
 have h:=(Fb t m s).1;simp only[gn,aW,bp] at h;injection h with h0 h; injection h with h1 h; injection h with h2 h; injection h with h3 h; injection h with h4 h; injection h with h5 h; injection h with h6 h; injection h with h7 h
 simp only[gn,aX,aY,kh,nth,h0,h1,h2,h3,h4,h5,h6,h7];simp only[cD.flat,flI,flS,aE];rfl
def akX(t:Tree)(m:SM)(s:Hm)(L:aL):sQ (gn t m s++L) [0,1,2,3,4,5]=[6,7,0,1,2,3,4,5]/\sQ (gn t m s++L) [0,1,2,3,4,5,6,7]=[6,7,0,1,2,3,4,5]:=by
 refine⟨rfl,?_⟩
 show[6,7,0,1,2,3,4,5]++((qT (ag.int .i64) s.jN).flatMap ag.ids++((D8 m).flatMap ag.ids++[]))=_
 rw[idI,idS]; rfl
def TY(t:Tree)(m:SM)(s:Hm)(L:aL):reach (gn t m s++L) [0,1,2,3,4,5]=[0,1,2,3,4,5,6,7]/\lX (gn t m s++L) [0,1,2,3,4,5,6,7]=[0,1,2,3,4,5,6,7]:=by
 obtain⟨h1,h2⟩:=akX t m s L;have e0:lV [] [0,1,2,3,4,5]=[0,1,2,3,4,5]:=rfl;have e1:lV [0,1,2,3,4,5] [6,7,0,1,2,3,4,5]=[0,1,2,3,4,5,6,7]:=rfl;have e2:lV [0,1,2,3,4,5,6,7] [6,7,0,1,2,3,4,5]=[0,1,2,3,4,5,6,7]:=rfl;simp only[reach,lX,e0,h1,e1,h2,e2,kD]
def adE(t:Tree)(m:SM)(s s':Hm)(L:aL):mF [0,1,2,3,4,5,6,7] (gn t m s++L) [0,1,2,3,4,5,6,7] (gn t m s')=gn t m s'++L:=by
 have h:=(Fb t m s').2;simp only[gn,aW,bp] at h;injection h with h0 h; injection h with h1 h; injection h with h2 h; injection h with h3 h; injection h with h4 h; injection h with h5 h; injection h with h6 h; injection h with h7 h
 simp only[gn,aX,aY,mF,h0,h1,h2,h3,h4,h5,h6,h7,j6]
def XV(t:Tree)(m:SM)(s:Hm):(gn t m s).all cD.flat=true:=by
 simp only[gn,j9,cD.flat,flI,flS]; rfl
abbrev su(au:Int)(p:ag):List ag:=[.int .i64 au,p,.ptr 0 0,.ptr 1 0,.ptr 2 0,.ptr 3 0,.ptr 4 0,.ptr 5 0]
def afJ{t:Tree}{m:SM}{au:Int}{p:List Bytes}{s s':Hm}{L:aL}(h:aq c9 105 (su au (fO p)) (gn t m s)=some (.tuple [],gn t m s')) :
  aM (aq c9) 105 (su au (fO p)) (gn t m s++L)=some (.tuple [],gn t m s'++L) :=
 lP (ids:=[0,1,2,3,4,5,6,7]) rfl (TY t m s L).1 (ahY t m s L) (TY t m s L).2 rfl h rfl rfl (XV t m s') rfl (adE t m s s' L)
section
attribute [local irreducible] fS fp kH gK dv kr aq aM cv bJ
def Pz(p:List Bytes)(hp:p.length<=100)(M:aL):AH (aq c9) 107 [fO p] M=some (.slice (.own M.length) (p.map ag.str),M++[.tick 1 p.length]):=by
 have hc:aq c9 107 [fO p] []=some (.slice (.own 0) (p.map ag.str),[.tick 1 p.length]):=by
  refine gF (g:=xE 1 16) rfl ?_;have hw:wid (p.map ag.str) 1:=by have:=mG ag.str 1 (fun _=>rfl) p; simpa using this
  unfold xE;simp only[];rw[gb ⟨hw,by have:=se (a:=p.length) (b:=16) (by omega) (by omega); simpa using this⟩]
  simp
 unfold AH; rw[az ⟨rfl,rfl⟩,hc,cd]; rfl
def Wj{t:Tree}{n:Node}{f:Nat}{m:SM}{au:Int}{aU:List Bytes}{k:List K}{R:Hm->Option (ag×aL)}(ht:Small t)(hr:wm t)(hn:n.aN.length<=100000)
  (hj:∀e,e∈n.aN->(∀x,x∈aU++[e.name]->dE x=true)/\(aU++[e.name]).length<=12)
  (ih:∀e,e∈n.aN->((bE t.ae e.au).kind==1)=false->∀s,aq c9 105 (su e.au (fO (aU++[e.name]))) (gn t m s)=some (.tuple [],gn t m (lK t.ae m f e.au (aU++[e.name]) s)))
  (hx:∀s e,kr (aq c9) [] 8 k ⟨.exit 0,e,gn t m s++[cm (aV n)]⟩=R s) :
  ∀(l pre:List eD)(s:Hm),n.aN=pre++l->fS (aq c9) [] 8 k (.loop [0,1,2,3,4,5,6,7,28,29,30] VQ) [(0,aG au),(1,fO aU),(2,cL 0),(3,cL 1),(4,cL 2),(5,cL 3),(6,cL 4),(7,cL 5),(28,ij n.aN),(29,aG n.aN.length),(30,aG pre.length)] (gn t m s++[cm (aV n)]) =
   R (l.foldl (oH (lK t.ae m f) t.ae m au aU) s):=by
 intro l;induction l with
 |nil =>
  intro pre s h;rw[bZ];simp only[gn,MM,oy h,gS,EW,seval] at hx ⊢;exact hx _ _
 |cons x rest ihl =>
  intro pre s h;rw[bZ];have eY:pre.length+1<=100000:=by rw[h] at hn; simp at hn; omega
  have hw:=GI pre x;rw[bB];have hxm:x∈n.aN:=by rw[h]; simp
  have hi1:=fun s=>ihl (pre++[x]) s (by rw[h]; simp)
  have q1:=VB t x.au ht hr;obtain⟨hj1,hj2⟩:=hj x hxm
  have hd:oH (lK t.ae m f) t.ae m au aU s x=(if (bE t.ae x.au).kind==1 then ⟨kq s.jN x.au ((dw s.jN au).getD 0),s.met,s.whole&&(!((dw s.jN x.au).isSome)||(dw s.jN x.au).getD 0==(dw s.jN au).getD 0)⟩
   else match xT m (px (aU++[x.name])) with
    |none=>lK t.ae m f x.au (aU++[x.name]) ⟨kq s.jN x.au ((dw s.jN au).getD 0),s.met,s.whole⟩
    |some a=>lK t.ae m f x.au (aU++[x.name]) ⟨kq (kq s.jN x.au ((dw s.jN au).getD 0)) x.au a,mM (s.met+1),s.whole⟩):=rfl
  rw[hd];generalize hF:oH (lK t.ae m f) t.ae m au aU=F at hi1 ⊢;cases hk:(bE t.ae x.au).kind==1
  ·have q2:=fun s=>afJ (L:=[cm (aV n),cm (ew x),cm (aV (bE t.ae x.au)),.tick 1 (aU.length+1)]) (ih x hxm hk s)
   have q3:=k65 (aU++[x.name]) hj1 hj2;have q4:=Pz aU (by simp at hj2; omega)
   have r1:dQ (aU.length+1) 16=True:=se (by simp at hj2; omega) (by omega)
   simp only[af,aw];cases hs:xT m (px (aU++[x.name])) with
   |none =>
    have q2:=q2 ⟨kq s.jN x.au ((dw s.jN au).getD 0),s.met,s.whole⟩;generalize lK t.ae m f x.au (aU++[x.name]) ⟨kq s.jN x.au ((dw s.jN au).getD 0),s.met,s.whole⟩=s' at q2 ⊢;have hi1:=hi1 s';simp only[gn,pZ,bd,aV,ew,su,fO,aK,av,aH,aQ,aX,aY,bC,aW,bp] at hi1 q1 q2 q3 q4;simp only[gn,pZ,bd,aV,ew,mR h,ji h,MM,mD,tU,C7,Bp,SK,SN,SL,cB,lH,mapOf.eq_1,q1,hk,q4,r1,q3,hs,q2,hw,b0T,bkI,bkS,iZ,af,aw,EW,seval];exact hi1
   |some a =>
    have q2:=q2 ⟨kq (kq s.jN x.au ((dw s.jN au).getD 0)) x.au a,mM (s.met+1),s.whole⟩;simp only[mM] at q2 ⊢;generalize lK t.ae m f x.au (aU++[x.name]) ⟨kq (kq s.jN x.au ((dw s.jN au).getD 0)) x.au a,IntKind.i64.wrap (s.met+1),s.whole⟩=s' at q2 ⊢;have hi1:=hi1 s';simp only[gn,pZ,bd,aV,ew,su,fO,aK,av,aH,aQ,aX,aY,bC,aW,bp] at hi1 q1 q2 q3 q4;simp only[gn,pZ,bd,aV,ew,mR h,ji h,MM,mD,tU,C7,Bp,SK,SN,SL,cB,lH,mapOf.eq_1,q1,hk,q4,r1,q3,hs,q2,hw,b0T,bkI,bkS,df,bA,af,aw,EW,seval];exact hi1
  ·have hi1:=hi1 ⟨kq s.jN x.au ((dw s.jN au).getD 0),s.met,s.whole&&(!((dw s.jN x.au).isSome)||(dw s.jN x.au).getD 0==(dw s.jN au).getD 0)⟩
   simp only[gn,pZ,bd,aV,ew,su,fO,aK,av,aH,aQ,aX,aY,bC,aW,bp] at hi1 q1
   cases hwh:s.whole<;>cases his:(dw s.jN x.au).isSome<;>simp only[hwh,his,cf,bQ,fV,cX,dK,dg] at hi1 ⊢ <;>
    simp only[gn,pZ,bd,aV,ew,mR h,ji h,MM,mD,tU,Bp,SK,mapOf.eq_1,q1,hk,hwh,his,hw,b0T,bkI,bkS,aE,af,aw,EW,seval]<;>exact hi1
def ajs{t:Tree}{cg:Int->Nat}(h:cq t cg 0)(m:SM):∀(f:Nat)(au:Int)(aU:List Bytes)(s:Hm)(d:Node),find t.ae au=some d->d.kind=2->Way t.ae 1 aU au->13<f+cg au ->
  aq c9 105 (su au (fO aU)) (gn t m s)=some (.tuple [],gn t m (lK t.ae m f au aU s)):=by
 intro f;induction f with
 |zero =>
  intro au aU s d hd hk _ hf;have:=(h.deep _ _ hd hk).1;omega
 |succ f ih =>
  intro au aU s d hd hk hw hf;have q1:=VB t au h.sz.KZ h.jE;have hn:bE t.ae au=d:=by simp[bE,hd]
  have hl:=Wj (t:=t) (n:=d) (f:=f) (m:=m) (au:=au) (aU:=aU) (k:=[.block 0]) (R:=fun s=>some (.tuple [],gn t m s)) h.sz.KZ h.jE (by have:=(h.xN _ _ hd).2; omega) ?_ ?_ (fun s e=>by simp only[gn,pZ,MM,aV,b0T,bkI,bkS,EW,seval]) d.aN [] s rfl
  ·refine aJ ?_;rw[lK,hn];rw[hn] at q1;simp only[gn,pZ,aV,aX,aY,aH,gh] at hl q1;simp only[P6,MM,gn,pZ,bd,aV,q1,EW,seval];exact hl
  ·intro e he;obtain⟨_,_,e1,hnm,m',hm',hu⟩:=h.wF _ _ _ hd he;have wayE:Way t.ae 1 (aU++[e.name]) e.au:=iw.2 ⟨au,hw,d,e,hd,hk,hnm,(nC (h.jE.aN _ (cj hd).1)).2 ⟨he,rfl⟩,rfl⟩;exact⟨kS wayE,h.pN wayE⟩
  ·intro e he hek s;obtain⟨_,_,e1,hnm,m',hm',hu⟩:=h.wF _ _ _ hd he;have wayE:Way t.ae 1 (aU++[e.name]) e.au:=iw.2 ⟨au,hw,d,e,hd,hk,hnm,(nC (h.jE.aN _ (cj hd).1)).2 ⟨he,rfl⟩,rfl⟩;have hmn:bE t.ae e.au=m':=by simp[bE,hm']
   rw[hmn] at hek;have hmk:m'.kind=2:=(h.kind _ _ hm').resolve_left (by simpa using hek)
   have hdep:=(h.sH _ _ hm' hmk e1).1;rw[hu hmk] at hdep;exact ih e.au (aU++[e.name]) s m' hm' hmk wayE (by omega)
end
def LO:ag := .func 105 [.ptr 0 0,.ptr 2 0,.ptr 6 0,.ptr 4 0,.ptr 5 0,.ptr 7 0]
def uB(t:Tree)(m:SM)(s:Hm):aL:=[.cells (bd t),.map (wE s.jN) (qT (ag.int .i64) s.jN),.cells [.gH 1],.map (Vg m) (D8 m),.cells [.gH 3],.cells [.int .i64 s.met],.cells [.bool s.whole],.cells [LO]]
def aat{t:Tree}{m:SM}{au:Int}{s s':Hm}(h:aq c9 105 (su au (fO [])) (gn t m s)=some (.tuple [],gn t m s')) :
  aM (aq c9) 105 [aG au,kJ [],cL 0,cL 2,cL 6,cL 4,cL 5,cL 7] (uB t m s)=some (.tuple [],uB t m s'):=by
 have i1:sQ (uB t m s) [0,2,6,4,5,7]=[1,3,0,2,6,4,5,7]:=rfl
 have i2:sQ (uB t m s) [0,2,6,4,5,7,1,3]=[1,3,0,2,6,4,5,7]:=by
  show[1,3,0,2,6,4,5,7]++((qT (ag.int .i64) s.jN).flatMap ag.ids++((D8 m).flatMap ag.ids++[]))=_
  rw[idI,idS]; rfl
 have e0:lV [] [0,2,6,4,5,7]=[0,2,6,4,5,7]:=rfl;have e1:lV [0,2,6,4,5,7] [1,3,0,2,6,4,5,7]=[0,2,6,4,5,7,1,3]:=rfl;have e2:lV [0,2,6,4,5,7,1,3] [1,3,0,2,6,4,5,7]=[0,2,6,4,5,7,1,3]:=rfl
 have hr:reach (uB t m s) [0,2,6,4,5,7]=[0,2,6,4,5,7,1,3]/\lX (uB t m s) [0,2,6,4,5,7,1,3]=[0,2,6,4,5,7,1,3]:=by
  simp only[reach,lX,e0,i1,e1,i2,e2,kD]
 have hp:kh (uB t m s) (iH [0,2,6,4,5,7,1,3]) [0,2,6,4,5,7,1,3]=some (gn t m s):=by
  simp only[uB,kh,nth,cD.flat,flI,flS,cd,aE,cD.ry,rnI,rnS];rfl
 refine lP (ids:=[0,2,6,4,5,7,1,3]) rfl hr.1 hp hr.2 rfl h rfl rfl (XV t m s') rfl ?_;simp only[gn,uB,mF,cD.ry,rnI,rnS,j6];rfl
def plI(l:AM Int):(qT (ag.int .i64) l).all ag.plain=true:=bw.2 fun x hx=>by
 obtain⟨p,_,rfl⟩:=bS.1 hx;rfl
def pkI(l:AM Int):(wE l).all ag.plainCell=true:=bw.2 fun x hx=>by
 obtain⟨p,_,rfl⟩:=bS.1 hx;rfl
section
variable {t:Tree} {cg:Int->Nat} {l:List Piece}
attribute [local irreducible] fS fp kH gK dv kr aq aM cv bJ
def c49(h:cq t cg 0)(hl:jV l):aq c9 49 [bI l,bK t] []=some (.tuple [.iG (wE (kZ l t.ae).1) (qT (ag.int .i64) (kZ l t.ae).1),.bool (kZ l t.ae).2],[]):=by
 refine aJ ?_;have hm:=hl.many;obtain⟨r,hr,hrk,_⟩:=h.root;have q:=aat (ajs h (lN l) 14 1 [] ⟨[(1,0)],1,true⟩ r hr hrk rfl (by omega))
 have hS:lK t.ae (lN l) 14 1 [] ⟨[(1,0)],1,true⟩=sK l t.ae:=rfl;rw[hS] at q;unfold kZ;generalize sK l t.ae=s at q ⊢;have e0:wE [((1:Int),(0:Int))]=[aG 1]:=rfl;have e1:qT (ag.int .i64) [((1:Int),(0:Int))]=[aG 0]:=rfl;simp only[uB,e0,e1,LO] at q;simp only[agn,E49,bK,sM,il,EW,seval]
 refine cZ (gG (xs:=l) (by omega) (fun i s=>s.1=(i:Int)/\te (l.drop i) s.1 s.2=lN l) (fun _ (_:Int×SM)=>()) (fun s i=>[(0,bI l),(3,cL 0),(6,cL 2),(7,cL 4),(16,bI l),(17,aG l.length),(18,aG i)])
  (fun s=>[cm (bd t),.map [aG 1] [aG 0],cm [.gH 1],.map (Vg s.2) (D8 s.2),cm [.gH 3]])
  (fun _=>some (.tuple [.iG (wE s.jN) (qT (ag.int .i64) s.jN),.bool (s.whole&&(s.met==(l.length:Int)&&(s.jN.length:Int)==(t.ae.length:Int)))],[])) (fun s' hs=>?_) (fun pre x post s' hh hx cu hw h0 hm hI hi=>?_) (0,[]) ⟨rfl,rfl⟩) rfl
 ·obtain⟨_,hs⟩:=hs;rw[gM] at hs;have hs:s'.2=lN l:=hs;simp only[bd] at q
  cases hwh:s.whole<;>cases hme:s.met==(l.length:Int)<;>rw[hwh] at q <;>
   simp only[E49,bg,hs,bd,q,hwh,hme,mapOf.eq_1,Vf,plI,pkI,cf,bQ,eX,aE,EW,seval]
 ·obtain⟨i1,i2⟩:=hI;have hd:l.drop pre.length=x::post:=by rw[hh]; simp
  have hd2:l.drop (pre.length+1)=post:=by rw[hh]; simp
  rw[hd,te] at i2;have i3:=hi (s'.1+1,GB s'.2 x.aU s'.1) ⟨by simp[i1],by simp only[hd2]; exact i2⟩
  simp only[i1] at i3;simp only[E49,cu,hx,hw,h0,Ip,dU,gx,cR,b0T,bkS,EW,seval];exact i3
end
def HP(x:Node):List Node->List Node
 | []=>[x]
 |y::r=>if x.au<y.au then x::y::r else y::HP x r
def Bw:List Node->List Node
 | []=>[]
 |x::r=>HP x (Bw r)
def alS(n:Node):tN 0 (cn n)=n.au:=rfl
def Er(x:Node):∀l:List Node,CT 0 (cn x) (l.map cn)=(HP x l).map cn
 | []=>rfl
 |y::r=>by
  simp only[aW,CT,HP,alS]
  by_cases h:x.au<y.au
  ·simp only[h,aE,aW]
  ·simp only[h,aw,aW,Er x r]
def Ds:∀l:List Node,rA 0 (l.map cn)=(Bw l).map cn
 | []=>rfl
 |x::r=>by simp only[aW,rA,Bw,Ds r,Er]
def An(x:Node):∀l,(HP x l).Perm (x::l)
 | []=>List.Perm.refl _
 |y::r=>by
  simp only[HP];split
  ·exact List.Perm.refl _
  ·exact((An x r).cons y).trans (List.Perm.swap x y r)
def yK:∀l,(Bw l).Perm l
 | []=>List.Perm.refl _
 |x::r=>(An x (Bw r)).trans ((yK r).cons x)
def HQ(x:Node):∀l:List Node,nM l->(∀y,y∈l->y.au≠x.au)->nM (HP x l)
 | [],_,_=>List.pairwise_singleton _ _
 |y::r,h,hn=>by
  obtain⟨h1,h2⟩:=bG.1 h;simp only[HP];split
  ·rename_i hc;refine bG.2 ⟨fun z hz=>?_,h⟩
   rcases bc.1 hz with rfl|hz
   ·exact hc
   ·exact Int.lt_trans hc (h1 z hz)
  ·rename_i hc;have hne:=hn y aD;refine bG.2 ⟨fun z hz=>?_,HQ x r h2 fun z hz=>hn z (aP _ hz)⟩
   rcases bc.1 ((An x r).mem_iff.1 hz) with rfl|hz
   ·show y.au<z.au; omega
   ·exact h1 z hz
def Fe:∀l:List Node,(l.map Node.au).Nodup->nM (Bw l)
 | [],_=>List.Pairwise.nil
 |x::r,h=>by
  simp only[aW,gZ] at h;refine HQ x _ (Fe r h.2) fun y hy e=>h.1 ?_
  rw[<-e]; exact bS.2 ⟨y,(yK r).mem_iff.1 hy,rfl⟩
def Uc{l ns:List Node}(h:nM ns)(hp:l.Perm ns):Bw l=ns :=
 Pp (Fe l ((hp.map Node.au).nodup_iff.2 (zM h))) h ((yK l).trans hp)
def Ov{l:List Node}{v:Nat}(hl:l.length<=1000000)(hn:(l.map Node.au).Nodup):aq c9 58 [.dk 0 v 6 0 l.length,.func 59 []] [.arr 6 v (l.map cn)]=some (.tuple [],[.arr 6 v ((Bw l).map cn)]):=by
 refine gF (g:=vY 6 0 59) rfl ?_;unfold vY;simp only[nth];have ht:(l.map cn).take l.length=l.map cn:=ck (by simp)
 have hd:(l.map cn).drop l.length=[]:=iQ (by simp)
 rw[ht,hd,Ds,bW];rw[gb]
 ·rfl
 ·refine⟨trivial,trivial,trivial,by simp,trivial,by omega,?_,?_⟩
  ·intro x hx;obtain⟨n,_,rfl⟩:=bS.1 hx;rfl
  ·rw[fW];exact hn
def ah1(n:Nat)(xs:List ag)(b0 b1 b2:cD):kh [b0,b1,b2,.arr 6 n xs] (iH [3]) [3]=some [.arr 6 n xs]:=rfl
def Ja(l:List qy):wid (l.map Cy) 2=True:=mG Cy _ (fun _=>rfl) l
def jK(x:qy):(Cy x).cells=mu x:=rfl
def ow(x:qy):(mu x).length=2:=rfl
section
attribute [local irreducible] fS fp kH gK dv kr aq aM cv bJ
def c17{f:wb}{ns:List Node}(hns:nM ns)(hp:(f.er.flatMap qy.ae).Perm ns)(hl:ns.length<=1000)(hn:f.er.length<=1000):aq c9 17 [jc f] []=some (bK ⟨ns,f.next,f.ai⟩,[]):=by
 refine aJ ?_;have eY:(f.er.flatMap qy.ae).length<=1000:=by rw[hp.length_eq]; exact hl
 simp only[aaB,E17,jc,bD,zt,AD,EW,seval]
 refine cZ (gG (xs:=f.er) (by omega) (fun i (s:Nat×List Node)=>s.2=(f.er.take i).flatMap qy.ae) (fun _ (_:Nat×List Node)=>()) (fun _ i=>[(2,cL 1),(3,cL 2),(12,jT f.er),(13,aG f.er.length),(14,aG i)])
  (fun s=>[cm [bI f.pieces,jT f.er,aG f.next,aG f.ai],cm [.slice .c0 [],aG 0,aG 0],cm [.dk 3 s.1 6 0 s.2.length,aG f.next,aG f.ai],.arr 6 s.1 (s.2.map cn)])
  (fun _=>some (bK ⟨ns,f.next,f.ai⟩,[])) (fun s hs=>?_) (fun pre x post s hh hx cu hw h0 hm hI hi=>?_) (0,[]) rfl) rfl
 ·obtain⟨v,acc⟩:=s;rw[cT] at hs;simp only at hs;subst hs;have hps:=Ov (v:=v) (l:=f.er.flatMap qy.ae) (by omega) ((hp.map Node.au).nodup_iff.2 (zM hns))
  rw[Uc hns hp] at hps
  have q:∀b0 b1 b2,aM (aq c9) 58 [.dk 3 v 6 0 (f.er.flatMap qy.ae).length,.func 59 []] [b0,b1,b2,.arr 6 v ((f.er.flatMap qy.ae).map cn)]=some (.tuple [],[b0,b1,b2,.arr 6 v (ns.map cn)]):=fun b0 b1 b2 =>
   lP (ids:=[3]) rfl rfl (ah1 _ _ ..) rfl rfl hps rfl rfl rfl rfl rfl
  have ht:List.take (f.er.flatMap qy.ae).length (ns.map cn)=ns.map cn:=ck (by simp[hp.length_eq])
  simp only[E17,bg,q,ht,EW,seval];rfl
 ·obtain⟨v,acc⟩:=s;simp only at hI;subst hI
  have hI2:(f.er.take (pre.length+1)).flatMap qy.ae=(f.er.take pre.length).flatMap qy.ae++x.ae:=by
   have h1:f.er.take (pre.length+1)=pre++[x]:=by rw[hh,show pre++x::post=(pre++[x])++post by simp]; exact List.take_left' (by simp)
   have h2:f.er.take pre.length=pre:=by rw[hh]; simp
   rw[h1,h2]; simp
  have hle:((f.er.take pre.length).flatMap qy.ae).length+x.ae.length<=1000:=by
   have e:((f.er.take pre.length).flatMap qy.ae++x.ae).length<=(f.er.flatMap qy.ae).length:=by
    rw[<-hI2]
    conv=>rhs; rw[<-cF (pre.length+1) f.er,jG]
    simp
   simp only[aK] at e;omega
  have r1:dQ (((f.er.take pre.length).flatMap qy.ae).length+x.ae.length) 80=True:=xR;have i1:=fun v'=>hi (v',(f.er.take (pre.length+1)).flatMap qy.ae) rfl
  rw[hI2] at i1;generalize (f.er.take pre.length).flatMap qy.ae=acc at *;simp only[aK,bC] at i1;cases he:x.ae.length==0
  ·simp only[E17,cu,hx,hw,h0,jK,ow,mu,r1,he,EW,seval];exact i1 _
  ·have hz:x.ae=[]:=ct.1 (by simpa using he)
   simp only[hz,aH,cV,bp,bW] at i1 r1;simp only[E17,cu,hx,hw,h0,jK,ow,mu,r1,hz,EW,seval];exact i1 _
end
def C3(z:ag):mC z false none=z:=rfl
def C4(z a:ag):mC z false (some a)=a:=rfl
def wO(m:LM)(g:Nat):Option qy:=if decide ((((((dw m (g:Int)).map Prod.snd).getD []).length:Nat):Int)>0) then some ⟨g,((dw m (g:Int)).map Prod.snd).getD []⟩ else none
def LP{t:Tree}{cg:Int->Nat}{l:List Piece}(h:cq t cg 0)(hl:jV l)(m:rC l t.ae){n:Node}(hn:n∈t.ae):∃v:Nat,(dw (kZ l t.ae).1 n.au).getD 0=(v:Int)/\l[v]?=some (mJ l v)/\ko l t.ae n.au=(mJ l v).group:=by
 have hf:=(fy h.jE.jx).2 ⟨hn,rfl⟩;obtain⟨k,hd⟩:=(pw h hl m hf).dh h;obtain⟨h1,h2⟩:=hd.lt h hl;refine⟨(uS l t.ae n.au).toNat,?_,qV h2,rfl⟩
 show uS l t.ae n.au=_
 omega
def EH(m:LM)(k:Int)(id:Nat)(l:List Node):sM .i (aG k) (.slice (.own id) (l.map cn)) (wE m) (qT Np m)=some (wE (kq m k (id,l)),qT Np (kq m k (id,l))):=tU Np m k (id,l)
section
variable {t:Tree} {cg:Int->Nat} {l:List Piece}
attribute [local irreducible] fS fp kH gK dv kr aq aM cv bJ
def c28(h:cq t cg 0)(hl:jV l)(m:rC l t.ae):aq c9 28 [bI l,bK t] []=some (jc (bm l t),[]):=by
 refine aJ ?_;have hm:=hl.many;have hnodes:=h.ae
 have q1:∀M,aM (aq c9) 49 [bI l,.agg (bd t)] M=some (.tuple [.iG (wE (kZ l t.ae).1) (qT (ag.int .i64) (kZ l t.ae).1),.bool (kZ l t.ae).2],M):=fun M=>by
  refine cO (c49 h hl) M
 have hat:=fun n hn=>LP h hl m (n:=n) hn
 have hspr:∀g,(((dw (t.ae.foldl (nY 3 fun n=>ko l t.ae n.au) ([],[])).1 g).map Prod.snd).getD [])=t.ae.filter fun n=>ko l t.ae n.au==g:=fun g=>SV _ _ _ _
 simp only[bd] at q1;simp only[aaG,XA,bK,bd,q1,EW,seval]
 refine cZ (Ly (xs:=t.ae) (by omega) (fun i (s:LM×List RB)=>Lts 3 s/\UM s/\(t.ae.drop i).foldl (nY 3 fun n=>ko l t.ae n.au) s=t.ae.foldl (nY 3 fun n=>ko l t.ae n.au) ([],[])/\∀g id r,dw s.1 g=some (id,r)->r.length<=i) (fun _ (_:LM×List RB)=>())
  (fun _ i=>[(0,bI l),(3,cL 0),(4,cL 1),(5,.iG (wE (kZ l t.ae).1) (qT (ag.int .i64) (kZ l t.ae).1)),(7,.gH 2),(21,a8 t.ae),(22,aG t.ae.length),(23,aG i)])
  (fun s => cm [a8 t.ae,aG t.next,aG t.ai] :: cm [.slice .c0 [],.slice .c0 [],aG 0,aG 0] :: .map (wE s.1) (qT Np s.1)::s.2.map vS)
  (fun _=>some (jc (bm l t),[])) (fun s hs=>?_) (fun pre x post s hh hx cu hw h0 hmm hI hi=>?_) ([],[]) ⟨⟨fun _ _ _ h=>(by cases h),fun _ _ _ _ _ h=>(by cases h)⟩,fun _ h=>(by cases h),rfl,fun _ _ _ h=>(by cases h)⟩) rfl
 ·obtain⟨hL,hLow,hF,hB⟩:=hs;rw[gM] at hF;have hF:s=t.ae.foldl (nY 3 fun n=>ko l t.ae n.au) ([],[]):=hF
  rw[<-hF] at hspr;obtain⟨m,R⟩:=s;simp only at hspr;have lt0:∀n,(0<n+1+1+1)=True:=fun n=>by simp
  have lt1:∀n,(1<n+1+1+1)=True:=fun n=>by simp
  have lt2:∀n,(2<n+1+1+1)=True:=fun n=>by simp
  have n0:∀b Y,nth (R.map vS++b::Y) R.length=some b:=fun b Y=>by rw[eN]; simp
  have s0:∀b c Y,j6 (R.map vS++b::Y) R.length c=R.map vS++c::Y:=fun b c Y=>by rw[fQ]; simp
  simp only[XA,bg,n0,s0,lt0,lt1,lt2,zt,AD,da,aX,aY,EW,seval];have hrows:∀i:Nat,((List.range i).filterMap (wO m)).length<=i:=fun i=>bj (fN _ _) (by simp)
  have hend:(List.range 8).filterMap (wO m)=qu (fun n=>ko l t.ae n.au) t.ae:=by
   unfold qu;refine congrArg (fun f=>List.filterMap f (List.range 8)) (funext fun g=>?_)
   unfold wO;rw[hspr];cases t.ae.filter fun n=>ko l t.ae n.au==(g:Int)<;>simp
  have lt3:(R.length+1+1+1<R.length+2+1+1+1)=True:=by simp
  have lt4:(R.length+1+1+1+1<R.length+2+1+1+1)=True:=by simp
  have bkg:∀B M a b,List.map (cD.back B M) (List.map vS R++[a,b])=List.map vS R++[cD.back B M a,cD.back B M b]:=fun B M a b=>by rw[bC,Cz]; rfl
  have bkv:=fun M=>aar (m:=m) (B:=R.length+2+1+1+1) (fun p hp=>by have:=hLow p hp; simp only at this; omega) M
  have tk2:∀a b:cD,List.take (R.length+2) (List.map vS R++[a,b])=List.map vS R++[a,b]:=fun a b=>ck (by simp)
  have n1:∀a b,nth (List.map vS R++[a,b]) (R.length+1)=some b:=fun a b=>by rw[eN]; simp
  have s1:∀a b c,j6 (List.map vS R++[a,b]) (R.length+1) c=List.map vS R++[a,c]:=fun a b c=>by rw[fQ]; simp
  refine cZ (gG (xs:=List.range 8) (by simp) (fun i (out:List qy)=>out=(List.range i).filterMap (wO m)) (fun _ (_:List qy)=>()) (fun _ i=>[(4,cL 1),(7,.gH 2),(11,.ptr (R.length+1+1+1) 0),(50,aG i)])
   (fun out => cm [a8 t.ae,aG t.next,aG t.ai] :: cm [.slice .c0 [],.slice .c0 [],aG 0,aG 0] :: .map (wE m) (qT Np m)::(R.map vS++[cm [kJ (l.map dr),.slice (.own (R.length+1+1+1+1)) (out.map Cy),aG t.next,aG t.ai],.tick 2 out.length]))
   (fun _=>some (jc (bm l t),[])) (fun out ho=>?_) (fun pre x post out hh hx cu hw h0 hmm ho hi=>?_) [] rfl) rfl
  ·rw[ky,hend] at ho;subst ho;have e8:(((List.range 8).length:Nat):Int)=8:=rfl;simp only[XA,e8,n0,s0,n1,s1,lt0,lt1,lt2,bg,EW,seval];rfl
  ·have hpre:pre.length<8:=by have:=congrArg List.length hh; simp at this; omega
   have hxe:x=pre.length:=by rw[fM hpre] at hx; injection hx with hx; exact hx.symm
   subst hxe;have hl8:((pre.length:Int)<8)=True:=by simp; omega
   have eY:=hrows pre.length;rw[<-ho] at eY;have r1:dQ (out.length+1) 32=True:=xR;have i1:=hi ((List.range (pre.length+1)).filterMap (wO m)) rfl;rw[om,kj,<-ho] at i1;simp only[lj,jY] at i1;cases hg:dw m (pre.length:Int) with
   |none =>
    have hla:wO m pre.length=none:=by unfold wO; rw[hg]; rfl
    rw[hla] at i1;simp only[bW] at i1;simp only[XA,hl8,hw,hg,n0,s0,n1,s1,lt0,lt1,lt2,lt3,lt4,bkg,bkv,tk2,mapOf.eq_1,mD,C3,C4,lH,aH,gh,bg,EW,seval];exact i1
   |some p =>
    obtain⟨id,r⟩:=p;cases hr:decide ((r.length:Int)>0)
    ·have hla:wO m pre.length=none:=by unfold wO; rw[hg]; simp only[cB,bA,hr]; rfl
     rw[hla] at i1;simp only[bW] at i1;have hr':((0:Int)<(r.length:Int))=False:=by simp only[fi,mh]; simpa using hr
     simp only[XA,hl8,hw,hg,hr',n0,s0,n1,s1,lt0,lt1,lt2,lt3,lt4,bkg,bkv,tk2,mapOf.eq_1,mD,C3,C4,Np,cB,aI,EW,seval];exact i1
    ·have hla:wO m pre.length=some ⟨pre.length,r⟩:=by unfold wO; rw[hg]; simp only[cB,bA,hr]; rfl
     rw[hla] at i1;simp only[bC,aW,bp,aK,av,aH,aQ,Cy,mu] at i1;have hr':((0:Int)<(r.length:Int))=True:=by simp only[fi,jQ]; simpa using hr
     have wl:=Ja out;simp only[XA,hl8,hw,hg,hr',r1,wl,n0,s0,n1,s1,lt0,lt1,lt2,lt3,lt4,bkg,bkv,tk2,mapOf.eq_1,mD,C3,C4,Np,cB,aI,EW,seval];exact i1
 ·obtain⟨v,hv1,hv2,hv3⟩:=hat x hmm;obtain⟨hL,hLow,hF,hB⟩:=hI
  have hI':Lts 3 (nY 3 (fun n=>ko l t.ae n.au) s x)/\UM (nY 3 (fun n=>ko l t.ae n.au) s x)/\(t.ae.drop (pre.length+1)).foldl (nY 3 fun n=>ko l t.ae n.au) (nY 3 (fun n=>ko l t.ae n.au) s x)=t.ae.foldl (nY 3 fun n=>ko l t.ae n.au) ([],[])/\∀g id r,dw (nY 3 (fun n=>ko l t.ae n.au) s x).1 g=some (id,r)->r.length<=pre.length+1:=by
   have hd:t.ae.drop pre.length=x::post:=by rw[hh]; simp
   have hd2:t.ae.drop (pre.length+1)=post:=by rw[hh]; simp
   refine⟨SD hL x,NX hL hLow x,?_,Km hB x⟩;rw[hd] at hF;rw[hd2]; exact hF
  have hlow':=hI'.2.1;have lt0:∀n,(0<n+1+1+1)=True:=fun n=>by simp
  have lt1:∀n,(1<n+1+1+1)=True:=fun n=>by simp
  have lt2:∀n,(2<n+1+1+1)=True:=fun n=>by simp
  obtain⟨m,R⟩:=s;have g0:((v:Int)<0)=False:=by simp
  cases hg:dw m (ko l t.ae x.au) with
  |none =>
   have i1:=hi (nY 3 (fun n=>ko l t.ae n.au) (m,R) x) hI'
   ·have hid0:3+(R.length+1)=R.length+1+1+1+1:=by omega
    have hst:nY 3 (fun n=>ko l t.ae n.au) (m,R) x=(kq m (ko l t.ae x.au) (3+(R.length+1),[x]),R++[.nd x,.tk 1]):=by unfold nY; simp only[hg]
    rw[hst] at i1 hlow';have bkv:=fun M=>aar (B:=R.length+2+1+1+1) (fun p hp=>by have:=hlow' p hp; simp at this; omega) M
    rw[hid0] at bkv
    have bka:∀B M,List.map (cD.back B M) (List.map vS R++[cm (aV x),.tick 6 1])=List.map vS R++[cm (aV x),.tick 6 1]:=fun B M=>by
     rw[show List.map vS R++[cm (aV x),.tick 6 1]=(R++[RB.nd x,RB.tk 1]).map vS by simp[vS]]; exact Cz _ _ _
    simp only[aV] at bka;have tk2:∀a b:cD,List.take (R.length+2) (List.map vS R++[a,b])=List.map vS R++[a,b]:=fun a b=>ck (by simp)
    simp only[hv3] at bkv;rw[hv3] at hg;have r1:dQ (0+1) 80=True:=xR;have hid:3+(R.length+1)=R.length+1+1+1+1:=by omega
    have n0:∀b Y,nth (R.map vS++b::Y) R.length=some b:=fun b Y=>by rw[eN]; simp
    have s0:∀b c Y,j6 (R.map vS++b::Y) R.length c=R.map vS++c::Y:=fun b c Y=>by rw[fQ]; simp
    have mp:=EH m (mJ l v).group (R.length+1+1+1+1) [x];simp only[aW,bp,cn,aV,jt,ij] at mp;simp only[hid,hv3,bC,aW,bp,vS,aV] at i1;simp only[XA,cu,hx,hw,h0,hv1,hv2,g0,hg,r1,n0,s0,mp,lt0,lt1,lt2,bkv,bka,tk2,mapOf.eq_1,mapOf.eq_2,mD,Bp,C3,C4,aV,dU,gx,cR,bh,lH,da,aX,aY,EW,seval];exact i1
  |some p =>
   obtain⟨id,r⟩:=p;obtain⟨i,rfl,hi2⟩:=hL.at' _ _ _ hg;have hrl:=hB _ _ _ hg;simp only at hi2;have hil:=(aC.1 hi2).1;have i1:=hi (nY 3 (fun n=>ko l t.ae n.au) (m,R) x) hI'
   ·have hid:3+i=i+1+1+1:=by omega
    have hst:nY 3 (fun n=>ko l t.ae n.au) (m,R) x=(kq m (ko l t.ae x.au) (i+1+1+1,r++[x]),(R++[RB.nd x]).set i (RB.tk (r.length+1))):=by
     unfold nY; simp only[hg]; rw[hid]; rfl
    rw[hst] at i1 hlow';have bkv:=fun M=>aar (B:=((R++[RB.nd x]).set i (RB.tk (r.length+1))).length+1+1+1) (fun p hp=>by have:=hlow' p hp; simp only at this; omega) M
    simp only[hv3] at bkv;have tkX:∀X:List RB,List.take X.length (List.map vS X)=List.map vS X:=fun X=>ck (by simp)
    rw[hv3,hid] at hg;have hprl:pre.length<=200:=by have:=congrArg List.length hh; simp at this; omega
    have r1:dQ (r.length+1) 80=True:=xR;have n0:∀b Y,nth (R.map vS++b::Y) R.length=some b:=fun b Y=>by rw[eN]; simp
    have s0:∀b c Y,j6 (R.map vS++b::Y) R.length c=R.map vS++c::Y:=fun b c Y=>by rw[fQ]; simp
    have nt:∀Y,nth (R.map vS++Y) i=some (.tick 6 r.length):=fun Y=>by
     rw[eN,bl (by simpa using hil),aZ,hi2]; rfl
    have st:∀c,j6 (R.map vS++[cm (aV x)]) i (vS c)=((R++[RB.nd x]).set i c).map vS:=fun c=>by
     rw[fQ,show List.map vS R++[cm (aV x)]=(R++[RB.nd x]).map vS by simp[vS],kW]
    have st:=st (RB.tk (r.length+1));simp only[vS,aV] at st;have mp:=EH m (mJ l v).group (i+1+1+1) (r++[x]);simp only[bC,aW,bp,cn,aV,jt,ij] at mp;simp only[hv3] at i1;simp only[XA,cu,hx,hw,h0,hv1,hv2,g0,hg,r1,n0,s0,nt,st,mp,lt0,lt1,lt2,bkv,Cz,tkX,mapOf.eq_1,mapOf.eq_2,mD,Bp,C3,C4,Np,aV,dU,gx,cR,bh,cB,da,aX,aY,aI,EW,seval];exact i1
end
def OC(s:Bytes):(bz s).2<90:=by unfold bz; (repeat' split)<;>simp
def BP(l:List Node)(i:Int):(gA l i).2<90:=by unfold gA; (repeat' split)<;>simp
def C2(l:List Node)(i:Int)(s:Bytes):(dV l i s).2<90:=by unfold dV; (repeat' split)<;>first|exact BP _ _|simp
def Fo(l:List Node):∀(p:List Bytes)(i:Int),(pT l p i).2<90
 | [],i=>by simp[pT]
 |s::r,i=>by
  rw[pT]; split
  ·exact C2 _ _ _
  ·exact Fo l r _
def xb(t:Tree)(p:Bytes):(eF t p).2<90:=by unfold eF; split; exact OC _; exact Fo _ _ _
def SG(s:Bytes):(fC s).2.2<90:=by unfold fC; split<;>simp
def zB(t:Tree)(p:Bytes):(lf t p).2.2<90:=by unfold lf; (repeat' split)<;>first|exact SG _|exact xb _ _|simp
def Bb(t:Tree)(i:Int)(s:Bytes):mw t i s<90:=by unfold mw; (repeat' split)<;>first|exact BP _ _|simp
def UR(t:Tree)(i:Int)(s:Bytes)(k:Int):(nu t i s k).2.2<90:=by unfold nu; (repeat' split)<;>first|exact Bb _ _ _|simp
def acM(t:Tree)(i k:Int)(s:Bytes):(BG t i k s).2<90:=by unfold BG; (repeat' split)<;>first|exact Bb _ _ _|simp
def adz(t:Tree)(i:Int)(s:Bytes):(vJ t i s).2.2<90:=by unfold vJ; (repeat' split)<;>first|exact C2 _ _ _|simp
def M8(l:List Node)(k y:Int):sF l k y<90:=by unfold sF; (repeat' split)<;>simp
def acU(t:Tree)(i:Int)(s:Bytes)(k:Int)(n:Bytes):(wg t i s k n).2.2<90:=by unfold wg; (repeat' split)<;>first|exact C2 _ _ _|exact BP _ _|exact M8 _ _ _|simp
def SJ(t:Tree)(i z m:Int):(p9 t i z m).2.2<90:=by unfold p9; (repeat' split)<;>first|exact BP _ _|simp
def UN(r:Wt):Prop:=r.2.1.err=0/\r.2.2<90
def u7{c:Prop}[Decidable c]{a b:Wt}(ha:UN a)(hb:UN b):UN (if c then a else b):=by split<;>assumption
def A6(t:Tree)(o:oW):UN (fa t o):=by
 refine u7 ?_ (u7 ?_ (u7 ?_ (u7 ?_ (u7 ?_ (u7 ?_ ?_)))))
 ·unfold rQ; split<;>refine⟨rfl,?_⟩<;>(try dsimp only)<;>first|with_reducible exact xb _ _|decide
 ·unfold uJ; dsimp only; (repeat' split)<;>refine⟨rfl,?_⟩<;>(try dsimp only)<;>first|with_reducible exact zB _ _|with_reducible exact UR _ _ _ _|decide
 ·unfold tQ; dsimp only; (repeat' split)<;>refine⟨rfl,?_⟩<;>(try dsimp only)<;>first|with_reducible exact xb _ _|with_reducible exact zB _ _|with_reducible exact acM _ _ _ _|decide
 ·unfold nJ; dsimp only; (repeat' split)<;>refine⟨rfl,?_⟩<;>(try dsimp only)<;>first|with_reducible exact zB _ _|with_reducible exact adz _ _ _|decide
 ·unfold lM; dsimp only; (repeat' split)<;>refine⟨rfl,?_⟩<;>(try dsimp only)<;>first|with_reducible exact zB _ _|with_reducible exact acU _ _ _ _ _|decide
 ·unfold tT; dsimp only; (repeat' split)<;>refine⟨rfl,?_⟩<;>(try dsimp only)<;>first|with_reducible exact xb _ _|with_reducible exact SJ _ _ _ _|decide
 ·unfold rT; dsimp only; split<;>refine⟨rfl,?_⟩<;>(try dsimp only)<;>first|with_reducible exact xb _ _|decide
section
variable {t:Tree} {cg:Int->Nat} {l:List Piece}
def JV{o:oW}(h:(mW l t o).2.err≠0):(mW l t o).1=t:=by
 unfold mW at h ⊢;split
 ·rfl
 split
 ·rfl
 split
 ·rfl
 split
 ·rfl
 ·rename_i h1 h2 h3 h4;rw[ak h1,ak h2,ak h3,ak h4] at h;exact absurd (A6 t o).1 h
def Hp{o:oW}(hk:p7 o=true)(h1:(mW l t o).2.err≠91)(h2:(mW l t o).2.err≠180):mW l t o=pB t o:=by
 unfold mW pB at *;rw[ak (by simp[hk])] at h1 h2 ⊢
 split
 ·rename_i h; rw[az h] at h2; exact absurd rfl h2
 rename_i h;rw[ak h] at h1 h2;split
 ·rfl
 rename_i h';rw[ak h'] at h1 h2;split
 ·rename_i h''; rw[az h''] at h1; exact absurd rfl h1
 ·rfl
def yM:∀(r:List Node)(t:Tree),Rt t->∀k,k∈r->jy k=true->(find t.ae k.au=some k\/find t.ae k.au=none)->find (oA r t).ae k.au=none
 |n::r,t,h,k,hk,ho,hf=>by
  have key:∀u:Tree,Rt u->find u.ae k.au=none->find (oA r u).ae k.au=none:=fun u hu hn=>by
   rcases ot r u hu k.au with h1|⟨h1,_⟩
   ·rw[h1,hn]
   ·exact h1
  unfold oA;rw[bB];rcases bc.1 hk with rfl|hk
  ·rw[az (show(k.kind==1&&k.dp==0)=true from ho)]
   refine key _ (h.free k.au) ?_;rw[Ac h];rcases hf with h1|h1
   ·rw[az ⟨rfl,_,h1,ho⟩]
   ·split
    ·rfl
    ·exact h1
  ·split
   ·refine yM r _ (h.free n.au) k hk ho ?_;rw[Ac h];split
    ·exact .inr rfl
    ·exact hf
   ·exact yM r t h k hk ho hf
def K6(h:cq t cg 0):∀i n,find (fj t).ae i=some n->n.kind=1->∃d e,find (fj t).ae d.au=some d/\d.kind=2/\e∈d.aN/\e.au=i:=by
 intro i n hi hk;have h2:cq (fj t) cg 0:=pD t.ae t h;have hrt:Rt t:=⟨cg,h⟩;have hl:=h2.dp _ _ hi
 have hno:jy n=false:=by
  cases ho:jy n with
  |false=>rfl
  |true =>
   have hf:find t.ae i=some n:=by
    rcases ot t.ae t hrt i with h1|⟨h1,_⟩
    ·rw[<-h1]; exact hi
    ·unfold fj at hi; rw[h1] at hi; cases hi
   obtain⟨m1,m2⟩:=cj hf;have:=yM t.ae t hrt n m1 ho (.inl (by rw[m2]; exact hf))
   unfold fj at hi;rw[m2] at this;rw[this] at hi; cases hi
 have hc:0<qR (fj t).ae i:=by
  have h0:n.dp≠0:=fun e=>by simp[jy,hk,e] at hno
  have h1:=(h2.num _ _ hi).1;rw[ak (by omega)] at hl
  omega
 obtain⟨d,e,h3,h4,h5⟩:=qZ.1 hc;have hd:=(fy h2.jE.jx).2 ⟨h3,rfl⟩;refine⟨d,e,hd,?_,h4,h5⟩;rcases h2.kind _ _ hd with h6|h6
 ·rw[(h2.file _ _ hd h6).1] at h4; cases h4
 ·exact h6
def WQ{p:Piece}(hl:jV [p])(o:oW):uf [p] t o=false:=by
 have hroot:p.aU=[47]:=by
  obtain⟨q,r,h1,h2⟩:=hl.fst;injection h1 with h1 _
  rw[h1]; exact h2
 have key:∀s,(fC s).2.2=0->kE [p] s=0:=fun s hs=>by
  obtain⟨P,x,h1,_⟩:=HY (s:=s) (by simp[hs])
  unfold kE;rw[List.countP_eq_zero];intro q hq;rw[eS] at hq;subst hq;rw[hroot];intro ha;obtain⟨_,_,h4⟩:=ng.1 ha;rw[h1] at h4;have:=h4.length_le;have h0:(bz [47]).1=[]:=rfl;rw[h0] at this;simp at this
 unfold uf;split
 ·cases h1:(eF t o.aU).2==0<;>cases h2:(fC o.aU).2.2==0<;>simp
  exact key _ (by simpa using h2)
 split
 ·cases h1:(eF t o.aU).2==0<;>cases h2:(fC o.aU).2.2==0<;>cases h3:(fC o.rz).2.2==0<;>simp
  rw[key _ (by simpa using h2),key _ (by simpa using h3)]; exact⟨rfl,rfl⟩
 ·rfl
def Mj{p:Piece}(hl:jV [p])(h:cq t cg 0)(hk:∀i n,find t.ae i=some n->n.kind=1->∃d e,find t.ae d.au=some d/\d.kind=2/\e∈d.aN/\e.au=i):rC [p] t.ae:=by
 obtain⟨r,hr,hrk,_⟩:=h.root
 have hroot:p.aU=[47]:=by
  obtain⟨q,r,h1,h2⟩:=hl.fst;injection h1 with h1 _
  rw[h1]; exact h2
 have hh:∀s,dj [p] s=0:=fun s=>by simp[dj,qq]
 refine⟨fun q hq=>?_,hk,fun d e d' e' n v w _ _ _ _ _ _ _ hv hw=>?_⟩
 ·rw[eS] at hq;subst hq;refine⟨1,r,?_,hr,hrk⟩;rw[vX,hroot]; exact rfl
 ·obtain⟨_,_,rfl⟩:=hv;obtain⟨_,_,rfl⟩:=hw;rw[hh,hh]
def ac4(h:FI l t){o:oW}(hk:p7 o=true)(he:(mW l t o).2.err=91\/(mW l t o).2.err=180):1<l.length:=by
 obtain⟨q,r,hl,hq⟩:=h.prt.fst;cases r with
 |cons a r=>rw[hl]; simp
 |nil =>
  exfalso;subst hl;obtain⟨cg,hg⟩:=h.rt;unfold mW at he;rw[ak (by simp[hk]),ak (by simp[WQ h.prt o])] at he
  have hm:=A6 t o;split at he
  ·have:(lW (fa t o).2.2).err=(fa t o).2.2:=rfl;rw[this] at he;have:=hm.2;omega
  ·obtain⟨dep',h1⟩:=zJ hg o;have h2:cq (fj (fa t o).1) dep' 0:=pD _ _ h1;rw[ak (by rw[(uU h2 h.prt).2 (Mj h.prt h2 (K6 h1))]; simp)] at he
   have:=hm.1;simp only[this] at he;omega
end
def uF:AM Nat:=[(1,97),(7,98),(6,99),(2,100),(3,101),(4,102),(5,103)]
def fnV(K:Nat):ag := .raw (.func (.func K) ⟨[]⟩ ⟨[]⟩)
def pQ(l:List Piece)(t:Tree)(o:oW):Wt:=if uf l t o then (t,mZ,180) else fa t o
section
attribute [local irreducible] fS fp kH gK dv kr aq aM cv bJ
def c46:aq fR 46 [] []=some (.iG (wE uF) (qT fnV uF),[]):=by
 refine aJ ?_;simp only[agk,E46,sM,il,Int.reduceBEq,Int.reduceEq,↓reduceIte,an,EW,seval];rfl
def k46:=cP c46
def PL{f:wb}{t:Tree}{o:oW}{K:Nat}(hk:dw uF o.kind=some K)(ht:Rt t)(hl:jV f.pieces)(ho:BM o):ya K f t o (pQ f.pieces t o):=by
 have hm:=C9 _ _ _ hk;simp only[uF,bc,Prod.mk.injEq,List.not_mem_nil,or_false] at hm;rcases hm with ⟨h,rfl⟩|⟨h,rfl⟩|⟨h,rfl⟩|⟨h,rfl⟩|⟨h,rfl⟩|⟨h,rfl⟩|⟨h,rfl⟩
 ·have e:pQ f.pieces t o=rQ t o:=by unfold pQ uf fa; simp[h]
  rw[e]; exact c97 f ht o ho
 ·have e:pQ f.pieces t o=rT t o:=by unfold pQ uf fa; simp[h]
  rw[e]; exact c98 f ht o ho
 ·have e:pQ f.pieces t o=tT t o:=by unfold pQ uf fa; simp[h]
  rw[e]; exact c99 f ht o ho
 ·have e:pQ f.pieces t o=uJ t o:=by unfold pQ uf fa; simp[h]
  rw[e]; exact ajn f ht o ho
 ·have e:pQ f.pieces t o=tQ t o:=by unfold pQ uf fa; simp[h]
  rw[e]; exact ajo f ht o ho
 ·have e:fa t o=nJ t o:=by unfold fa; simp[h]
  unfold pQ; rw[e]; exact ajp f ht o ho hl h
 ·have e:fa t o=lM t o:=by unfold fa; simp[h]
  unfold pQ; rw[e]; exact ajq f ht o ho hl h
def c48{t:Tree}(ht:Rt t):aq fR 48 [bK t] []=some (bK (fj t),[]):=by
 refine aJ ?_;have hn:t.ae.length<=200:=by obtain⟨cg,h⟩:=ht; exact h.ae
 simp only[agm,E48,bK,bd,EW,seval]
 refine cZ (gG (xs:=t.ae) (by omega) (fun i (u:Tree)=>Rt u/\oA (t.ae.drop i) u=fj t) (fun _ (_:Tree)=>()) (fun _ i=>[(1,cL 0),(2,cL 1),(6,a8 t.ae),(7,aG t.ae.length),(8,aG i)])
  (fun u=>[cm [a8 u.ae,aG u.next,aG u.ai],cm [.slice .c0 [],aG 0,aG 0]]) (fun _=>some (.agg [a8 (fj t).ae,aG (fj t).next,aG (fj t).ai],[])) (fun u hu=>?_) (fun pre x post u hh hx cu hw hz hm hu hi=>?_) t ⟨ht,rfl⟩) rfl
 ·rw[gM] at hu;have he:u=fj t:=hu.2;simp only[E48,bg,he,EW,seval]
 ·obtain⟨hr,hs⟩:=hu;have hd:t.ae.drop pre.length=x::post:=by rw[hh]; simp
  have hd2:t.ae.drop (pre.length+1)=post:=by rw[hh]; simp
  rw[hd,oA,bB] at hs;have q:=fun M=>lS (ak0 u x.au hr.small hr.jE M)
  simp only[bd] at q;cases h1:x.kind==1
  ·rw[h1] at hs;have i1:=hi u ⟨hr,by rw[hd2]; exact hs⟩
   simp only[E48,cu,hx,hw,hz,aV,h1,EW,seval];exact i1
  ·cases h2:x.dp==0
   ·rw[h1,h2] at hs;have i1:=hi u ⟨hr,by rw[hd2]; exact hs⟩
    simp only[E48,cu,hx,hw,hz,aV,h1,h2,EW,seval];exact i1
   ·rw[h1,h2] at hs;have i1:=hi (oT u x.au).1 ⟨hr.free x.au,by rw[hd2]; exact hs⟩
    simp only[E48,cu,hx,hw,hz,aV,h1,h2,q,EW,seval];exact i1
def k48{t:Tree}(ht:Rt t)(M:aL):aM (aq fR) 48 [.agg [a8 t.ae,aG t.next,aG t.ai]] M=some (.agg [a8 (fj t).ae,aG (fj t).next,aG (fj t).ai],M) :=
 cO (c48 ht) M
def k49{t:Tree}{cg:Int->Nat}{l:List Piece}(h:cq t cg 0)(hl:jV l)(M:aL):aM (aq fR) 49 [bI l,.agg [a8 t.ae,aG t.next,aG t.ai]] M=some (.tuple [.iG (wE (kZ l t.ae).1) (qT (ag.int .i64) (kZ l t.ae).1),.bool (kZ l t.ae).2],M) :=
 lS (cO (c49 h hl) M)
end
def F4(f:wb)(o:oW)(w:cD):aL:=[.cells (dP o),.cells [.ptr 3 0],.cells (bD f),w]
def NW{o:oW}(h:dw uF o.kind=none):p7 o=false:=by
 simp only[uF,dw] at h;unfold p7;rw[Bool.and_eq_false_iff];refine .inl ?_
 repeat' split at h
 all_goals first|(cases h; done)|skip
 rw[mf];intro hc;simp only[bn,bu] at hc;omega
def Ex{o:oW}{K:Nat}(h:dw uF o.kind=some K):p7 o=(decide (0<=o.jz)&&decide (o.jz<16)):=by
 have hm:=C9 _ _ _ h;simp only[uF,bc,Prod.mk.injEq,List.not_mem_nil,or_false] at hm;unfold p7;rcases hm with ⟨h,_⟩|⟨h,_⟩|⟨h,_⟩|⟨h,_⟩|⟨h,_⟩|⟨h,_⟩|⟨h,_⟩<;>rw[h]<;>rfl
def GH(f:wb)(t:Tree)(o:oW):nc f t o=iK f t o mZ (.slice .c0 []):=rfl
def afV(l:List Piece)(t:Tree){o:oW}(hk:p7 o=true):mW l t o=if (pQ l t o).2.2 != 0 then (t,lW (pQ l t o).2.2) else if (kZ l (fj (pQ l t o).1).ae).2=false then (t,lW 91) else (fj (pQ l t o).1,(pQ l t o).2.1):=by
 unfold mW pQ;rw[ak (by simp[hk])]
 cases hb:uf l t o
 ·simp only[af,aw]
 ·simp only[aE]; rfl
def OU{l:List Piece}{t:Tree}{cg:Int->Nat}(h:cq t cg 0)(o:oW):∃dep',cq (pQ l t o).1 dep' 0:=by
 unfold pQ;split
 ·exact⟨cg,h⟩
 ·exact zJ h o
section
attribute [local irreducible] fS fp kH gK dv kr aq aM cv bJ
def c45{f:wb}{t:Tree}{cg:Int->Nat}{o:oW}(h:cq t cg 0)(hl:jV f.pieces)(ho:BM o) :
  ∃u a x e,Row x (a.names.map ag.str)/\a.data=[]/\aq fR 45 [cL 0,cL 1,cL 2] (F4 f o (nc f t o))=some (if e != 0 then iY e else .tuple [],F4 f o (iK f u o a x)) /\
   mW f.pieces t o=(if e != 0 then (t,lW e) else (u,a)):=by
 have ht:Rt t:=⟨cg,h⟩;have q0:=k46;have g:=mD fnV uF o.kind;cases hk:dw uF o.kind with
 |none =>
  refine⟨t,mZ,.slice .c0 [],1,.inr ⟨rfl,rfl⟩,rfl,?_,?_⟩
  ·refine aJ ?_;have q:=fun M=>Uv false 1 rfl M
   simp only[af,aw,iY] at q;rw[hk] at g;simp only[J8,E45,F4,dP,bD,<-GH,q0,g,q,iY,mapOf.eq_2,mC,lH,nh,iZ,an,af,aE,aw,EW,seval];rfl
  ·unfold mW; rw[az (NW hk)]; rfl
 |some K =>
  cases hc:decide (0<=o.jz)&&decide (o.jz<16)
  ·refine⟨t,mZ,.slice .c0 [],1,.inr ⟨rfl,rfl⟩,rfl,?_,?_⟩
   ·refine aJ ?_;have q:=fun M=>Uv false 1 rfl M
    simp only[af,aw,iY] at q;rw[hk] at g
    by_cases h1:0<=o.jz
    ·have h2:(o.jz<16)=False:=by simp only[h1,nA,bQ,dq] at hc; simp only[fi,mh]; exact hc
     have h1:(0<=o.jz)=True:=by simp only[fi,jQ]; exact h1
     simp only[J8,E45,F4,dP,bD,<-GH,q0,g,q,h1,h2,iY,fnV,mapOf.eq_2,mC,cB,bA,df,an,af,aE,aw,EW,seval]<;>rfl
    ·have h1:(0<=o.jz)=False:=by simp only[fi,mh]; exact h1
     simp only[J8,E45,F4,dP,bD,<-GH,q0,g,q,h1,iY,fnV,mapOf.eq_2,mC,cB,bA,df,an,af,aE,aw,EW,seval]<;>rfl
   ·unfold mW; rw[az (by rw[Ex hk]; exact hc)]; rfl
  ·obtain⟨x,hx,hda,ha⟩:=PL hk ht hl ho;have hkB:p7 o=true:=by rw[Ex hk]; exact hc
   rw[afV f.pieces t hkB];obtain⟨dep',hr⟩:=OU (l:=f.pieces) h o;have q:=fun M=>Uv true 1 rfl M
   simp only[aE] at q;rw[hk] at g;simp only[bn,bu] at hc;have h1:(0<=o.jz)=True:=by simp only[fi,jQ]; exact hc.1
   have h2:(o.jz<16)=True:=by simp only[fi,jQ]; exact hc.2
   generalize pQ f.pieces t o=r at hx hda ha hr ⊢;obtain⟨u,a,e⟩:=r;simp only at hx hda ha hr ⊢
   have q5:aM (aq fR) K [cL 3] (F4 f o (nc f t o))=some (if e != 0 then iY e else .tuple [],F4 f o (iK f u o a x)):=by
    unfold iK at ha ⊢;rcases hx with rfl|⟨rfl,_⟩<;>exact pG (vs:=[]) (p:=3) rfl ha rfl rfl (by split<;>rfl) rfl (by split<;>rfl) rfl rfl rfl rfl rfl
   have hs:cq (fj u) dep' 0:=pD _ _ hr;have q6:=k48 ⟨dep',hr⟩;have q7:=k49 hs hl;have cx:x.k6=true:=by rcases hx with h|⟨h,_⟩<;>rw[h]<;>rfl
   cases he:e != 0
   ·simp only[he,af,aw] at q5 ⊢;cases hm:(kZ f.pieces (fj u).ae).2
    ·rw[hm] at q7;have q8:=fun M=>Uv false 91 rfl M
     simp only[af,aw,iY] at q8;refine⟨fj u,a,x,91,hx,hda,aJ ?_,by simp⟩
     simp only[F4,dP,bD,nc,jj,iK] at q5;rcases hx with rfl|⟨rfl,_⟩ <;>
     simp only[J8,E45,F4,dP,bD,nc,jj,iK,q0,g,q,h1,h2,q5,q6,q7,q8,he,iY,fnV,mapOf.eq_2,mC,cB,bA,df,an,af,aE,aw,EW,seval]<;>rfl
    ·rw[hm] at q7;have q8:=fun M=>Uv true 91 rfl M
     simp only[aE] at q8;refine⟨fj u,a,x,0,hx,hda,aJ ?_,by simp⟩
     simp only[F4,dP,bD,nc,jj,iK] at q5;rcases hx with rfl|⟨rfl,_⟩ <;>
     simp only[J8,E45,F4,dP,bD,nc,jj,iK,q0,g,q,h1,h2,q5,q6,q7,q8,he,iY,fnV,mapOf.eq_2,mC,cB,bA,df,an,af,aE,aw,EW,seval]<;>rfl
   ·simp only[he,aE,iY] at q5 ⊢;refine⟨u,a,x,e,hx,hda,aJ ?_,by simp[he]⟩
    simp only[F4,dP,bD,nc,jj,iK] at q5;rcases hx with rfl|⟨rfl,_⟩ <;>
    simp only[J8,E45,F4,dP,bD,nc,jj,iK,q0,g,q,h1,h2,q5,he,iY,fnV,mapOf.eq_2,mC,cB,bA,df,an,af,aE,aw,EW,seval]<;>rfl
end
def E1(c:Bool)(l:List ag)(M:aL)(k:Option Out):Ot c ((.tuple l),M) k=k:=rfl
def Mp(c:Bool)  (M:aL)(k:Option Out):Ot c (.any,M) k=k:=rfl
def Xa(v:Value)(M:aL)(k:Option Out):Ot true (.oC v,M) k=some ⟨.oC v,[],M⟩:=rfl
def Qs(e:Env)(M:aL)(k:Env->aL->Option Out):uz ⟨.normal,e,M⟩ k=k e M:=rfl
def aaY(v:Value)(e:Env)(M:aL)(k:Env->aL->Option Out):uz ⟨.oC v,e,M⟩ k=some ⟨.oC v,e,M⟩:=rfl
def aaZ(e:Env)(M:aL)(k:Env->aL->Option Out):uz ⟨.ret,e,M⟩ k=some ⟨.ret,e,M⟩:=rfl
def abe(live:List Nat)(e:Env)(M:aL):Out.ri live ⟨.ret,e,M⟩=⟨.ret,e,M⟩:=rfl
def adf(ks:List Nat)(bt e:Env)(M:aL):BH ks bt ⟨.ret,e,M⟩=⟨.ret,e,M⟩:=rfl
def Kj(live:List Nat)(e:Env)(M:aL):Out.ri live ⟨.normal,e,M⟩=⟨.normal,ju e live,M⟩:=rfl
def abd(live:List Nat)(v:Value)(e:Env)(M:aL):Out.ri live ⟨.oC v,e,M⟩=⟨.oC v,e,M⟩:=rfl
def TF(ks:List Nat)(bt e:Env)(M:aL):BH ks bt ⟨.normal,e,M⟩=⟨.normal,e,M⟩:=rfl
def ade(ks:List Nat)(bt:Env)(v:Value)(e:Env)(M:aL):BH ks bt ⟨.oC v,e,M⟩=⟨.oC v,ju bt ks,M⟩:=rfl
def XF:(false==true)=false:=rfl
def XG:(true==false)=false:=rfl
def XE:(false==false)=true:=rfl
def XH:(true==true)=true:=rfl
def IG(c:Bool)(g:Nat)(l:List ag)(M:aL)(k:Option Out):Ot c ((.func g l),M) k=k:=rfl
section
attribute [local irreducible] aq aM cv bJ
def T5(f:ag)(M:aL):fm (aq fR) Ls (j5 0 [f]) M=some ⟨.normal,ju [(2,.ptr M.length 0),(0,f)] [0,2,3],M++[cm [aG 0]]⟩:=by
 simp only[Ls,fm,gU,uz,zq,Ot,Kj,EV,seval]
def Gr(M:aL)(b:cD):nth (M++[b]) M.length=some b:=by rw[eN]; simp
def T7(M:aL)(b c:cD):j6 (M++[b]) M.length c=M++[c]:=by rw[fQ]; simp
def ado{g:Nat}{caps:List ag}{M M':aL}(hl:M'.length=M.length)(hc:aM (aq fR) g caps (M++[cm [aG 0]])=some (.tuple [],M'++[cm [aG 0]])) :
  w8 (aq fR) [2] D2 [(0,.func g caps),(2,.ptr M.length 0)] (M++[cm [aG 0]])=some ⟨.ret,[(2,.ptr M.length 0)],M'++[cm [aG 0]]⟩:=by
 have h1:nth (M'++[cm [aG 0]]) M.length=some (cm [aG 0]):=by rw[<-hl]; exact Gr _ _
 have h2:∀c,j6 (M'++[cm [aG 0]]) M.length c=M'++[c]:=fun c=>by rw[<-hl]; exact T7 _ _ _
 simp only[D2,TX,w8,fm,gU,hc,h1,h2,E1,Mp,IG,Qs,aaZ,abe,adf,Kj,TF,XF,XG,XE,XH,af,aE,aw,bW,bp,EV,seval]
def adn{g:Nat}{caps:List ag}{M M':aL}{e:Int}(hl:M'.length=M.length)(hc:aM (aq fR) g caps (M++[cm [aG 0]])=some (iY e,M'++[cm [aG 0]])) :
  w8 (aq fR) [2] D2 [(0,.func g caps),(2,.ptr M.length 0)] (M++[cm [aG 0]])=some ⟨.oC (.iface 34 (aG e)),[(2,.ptr M.length 0)],M'++[cm [aG 0]]⟩:=by
 simp only[iY] at hc;simp only[D2,TX,w8,fm,gU,hc,Xa,E1,Mp,IG,Qs,aaY,abd,ade,Kj,TF,XF,XG,XE,XH,af,aE,aw,bW,bp,EV,seval]
end
def Fl:iR.sO 44=some EY:=by unfold iR nL; simp only[aE]
def ZB{g:Nat}{caps:List ag}{M M':aL}(hl:M'.length=M.length)(hb:jS M.length (M'++[cm [aG 0]])=M')(hc:aM (aq fR) g caps (M++[cm [aG 0]])=some (.tuple [],M'++[cm [aG 0]])):aq iR 44 [.func g caps] M=some (aG 0,M'):=by
 refine gF Fl ?_;unfold EY;rw[az (show[ag.func g caps].length=1 from rfl),T5,cd]
 have e1:ir (ju [(2,ag.ptr M.length 0),(0,.func g caps)] [0,2,3]) 2 = .ptr M.length 0:=rfl;have e2:ju (ju [(2,ag.ptr M.length 0),(0,.func g caps)] [0,2,3]) [0,2]=[(0,.func g caps),(2,.ptr M.length 0)]:=rfl;simp only[e1,e2];rw[ado hl hc,cd]
 have hr:pS [(2,.ptr M.length 0)] (M'++[cm [aG 0]]) Zz=some [aG 0]:=by
  have h1:nth (M'++[cm [aG 0]]) M.length=some (cm [aG 0]):=by rw[<-hl]; exact Gr _ _
  simp only[Zz,pS,zx,ir,h1,EV,seval]
 unfold BQ;simp only[hr,cd,hb];rfl
def ZA{g:Nat}{caps:List ag}{M M':aL}{e:Int}(hl:M'.length=M.length)(hb:jS M.length (M'++[cm [aG e]])=M')(hc:aM (aq fR) g caps (M++[cm [aG 0]])=some (iY e,M'++[cm [aG 0]])):aq iR 44 [.func g caps] M=some (aG e,M'):=by
 refine gF Fl ?_;unfold EY;rw[az (show[ag.func g caps].length=1 from rfl),T5,cd]
 have e1:ir (ju [(2,ag.ptr M.length 0),(0,.func g caps)] [0,2,3]) 2 = .ptr M.length 0:=rfl;have e2:ju (ju [(2,ag.ptr M.length 0),(0,.func g caps)] [0,2,3]) [0,2]=[(0,.func g caps),(2,.ptr M.length 0)]:=rfl;simp only[e1,e2];rw[adn hl hc,cd];have h0:(M'++[cm [aG 0]])[M.length]?=some (cm [aG 0]):=by rw[<-hl]; simp
 have h1:(M'++[cm [aG 0]]).set M.length (cm [aG e])=M'++[cm [aG e]]:=by rw[<-hl]; simp
 have hr:pS [(2,.ptr M.length 0)] (M'++[cm [aG e]]) Zz=some [aG e]:=by
  have h1:nth (M'++[cm [aG e]]) M.length=some (cm [aG e]):=by rw[<-hl]; exact Gr _ _
  simp only[Zz,pS,zx,ir,h1,EV,seval]
 unfold BQ;simp only[h0,h1,hr,cd,hb];rfl
def FI.whole{l:List Piece}{t:Tree}(h:FI l t):aq c9 17 [jc (bm l t)] []=some (bK t,[]):=by
 obtain⟨cg,hg⟩:=h.rt;have hn:=hg.ae;refine c17 (f:=bm l t) hg.jE.jx (tf hg h.prt h.may) (by omega) ?_
 have:(qu (fun n=>ko l t.ae n.au) t.ae).length<=8:=bj (fN _ _) (by simp)
 show(qu (fun n=>ko l t.ae n.au) t.ae).length<=1000
 omega
def FI.CZ{l:List Piece}{t:Tree}(h:FI l t)(M:aL):aM (aq c9) 17 [.agg (bD (bm l t))] M=some (.agg [a8 t.ae,aG t.next,aG t.ai],M):=vv h.whole rfl rfl rfl rfl rfl M
def FI.xw{l:List Piece}{t:Tree}(h:FI l t)(M:aL):aM (aq c9) 28 [bI l,.agg [a8 t.ae,aG t.next,aG t.ai]] M=some (.agg (bD (bm l t)),M):=by
 obtain⟨cg,hg⟩:=h.rt;exact cO (c28 hg h.prt h.may) M
def ahX(f o w z:List ag)(b2 b3:cD)(hf:(cD.cells f).ry (iH [1,5,0,4]) = .cells f)(ho:(cD.cells o).ry (iH [1,5,0,4]) = .cells o)(hw:(cD.cells w).ry (iH [1,5,0,4]) = .cells w)(ff:(cD.cells f).flat=true)(fo:(cD.cells o).flat=true)(fw:(cD.cells w).flat=true) :
  kh [.cells f,.cells o,b2,b3,.cells w,cm [cL 4]] (iH [1,5,0,4]) [1,5,0,4]=some [.cells o,cm [cL 3],.cells f,.cells w]:=by
 simp only[kh,nth,hf,ho,hw,ff,fo,fw,aE,cd];rfl
def adg(f:wb)(t:Tree)(o:oW):kh (F4 f o (nc f t o)++[cm [aG 0]]) (iH [0,1,2,3]) [0,1,2,3]=some (F4 f o (nc f t o)):=rfl
section
attribute [local irreducible] fS fp kH gK dv kr aq aM cv bJ
def adt{f:wb}{t:Tree}{cg:Int->Nat}{o:oW}(h:cq t cg 0)(hl:jV f.pieces)(ho:BM o) :
  ∃u a x e,Row x (a.names.map ag.str)/\a.data=[]/\aq iR 44 [.func 45 [cL 0,cL 1,cL 2]] (F4 f o (nc f t o))=some (aG e,F4 f o (iK f u o a x)) /\
   mW f.pieces t o=(if e != 0 then (t,lW e) else (u,a)):=by
 obtain⟨u,a,x,e,hx,hd,ha,hD⟩:=c45 h hl ho;refine⟨u,a,x,e,hx,hd,?_,hD⟩
 have hc:aM (aq fR) 45 [cL 0,cL 1,cL 2] (F4 f o (nc f t o)++[cm [aG 0]])=some (if e != 0 then iY e else .tuple [],F4 f o (iK f u o a x)++[cm [aG 0]]):=by
  rcases hx with rfl|⟨rfl,_⟩<;>exact lP (ids:=[0,1,2,3]) rfl rfl (adg f t o) rfl rfl ha rfl (by split<;>rfl) rfl (by split<;>rfl) rfl
 cases he:e != 0
 ·rw[he] at hc;have:e=0:=by simpa using he
  subst this;exact ZB rfl (by rcases hx with rfl|⟨rfl,_⟩<;>rfl) hc
 ·rw[he] at hc;exact ZA rfl (by rcases hx with rfl|⟨rfl,_⟩<;>rfl) hc
def c15{l:List Piece}{t:Tree}{o:oW}(hf:FI l t)(ho:BM o):aq iR 15 [jc (bm l t),.agg (dP o)] []=some (.tuple [.agg (bD (bm l (mW l t o).1)),.agg (eE (mW l t o).2)],[]):=by
 obtain⟨cg,hg⟩:=hf.rt;refine aJ ?_;have q1:=fun M=>lG (hf.CZ M)
 have hf2:=hf.do o
 obtain⟨u,a,x,e,hx,hd,ha,hD⟩:=adt (f:=bm l t) (t:=t) hg hf.prt ho;have hD:mW l t o=(if e != 0 then (t,lW e) else (u,a)):=hD
 rw[hD] at hf2 ⊢
 have q2:∀b2 b3,aM (aq iR) 44 [.func 45 [cL 1,cL 5,cL 0]] [cm (bD (bm l t)),cm (dP o),b2,b3,nc (bm l t) t o,cm [cL 4]] =
   some (aG e,[cm (bD (bm l t)),cm (dP o),b2,b3,iK (bm l t) u o a x,cm [cL 4]]):=fun b2 b3=>by
  rcases hx with rfl|⟨rfl,_⟩<;>exact lP (ids:=[1,5,0,4]) rfl rfl (ahX _ _ _ [] _ _ rfl rfl rfl rfl rfl rfl) rfl rfl ha rfl rfl rfl rfl rfl
 cases he:e != 0
 ·simp only[he,af,aw] at hf2 ⊢;have q3:=fun M=>lG (hf2.xw M)
  have hp:(bm l t).pieces=l:=rfl;obtain⟨err,au,kind,n,m,names,data⟩:=a;simp only at hd;subst hd;generalize bm l t=f at q1 q2 hp ⊢;generalize bm l u=F at q3 ⊢;simp only[bD,dP,nc,jj,iK,hp] at q1 q2 q3;rcases hx with rfl|⟨rfl,hxn⟩
  ·simp only[Vs,E15,jc,bD,dP,q1,q2,q3,hp,he,eE,EW,seval];rfl
  ·simp only[Vs,E15,jc,bD,dP,q1,q2,q3,hp,he,eE,fO,hxn,EW,seval];rfl
 ·simp only[he,aE] at hf2 ⊢;generalize bm l t=f at q1 q2 ⊢;simp only[bD,dP,nc,jj,iK] at q1 q2;simp only[Vs,E15,jc,bD,dP,q1,q2,he,eE,lW,EW,seval];rfl
end
def we(f:wb)(t:Tree):cD := .cells [bI f.pieces,jT f.er,.int .i64 f.next,.int .i64 f.ai,a8 t.ae,.int .i64 t.next,.int .i64 t.ai,
 .int .i64 0,.int .i64 0,.str [],.str [],.int .i64 0,.int .i64 0,.int .i64 0,.slice .c0 [],
 .int .i64 0,.int .i64 0,.int .i64 0,.int .i64 0,.int .i64 0,.slice .c0 [],.slice .c0 []]
def xO(f:wb)(t:Tree)(s:Bytes)(g:Int)(l:List Piece):aL:=[.cells [.ptr 4 0],.cells [.str s],.cells [bI l],.cells [.int .i64 g],we f t]
def W9(f:wb)(t:Tree)(s:Bytes)(g:Int)(l:List Piece):kh (xO f t s g l++[cm [aG 0]]) (iH [0,1,2,3,4]) [0,1,2,3,4]=some (xO f t s g l):=rfl
def TH(f:wb)(t:Tree)(s:Bytes)(g:Int)(l:List Piece)(b0 b3:cD):kh [b0,cm [.str s],cm [aG g],b3,we f t,cm [cL 4],cm [bI l]] (iH [5,1,6,2,4]) [5,1,6,2,4]=some (xO f t s g l):=rfl
section
attribute [local irreducible] fS fp kH gK dv kr aq aM cv bJ
def alP(f:wb){t:Tree}(ht:Rt t)(aU:Bytes)(hp:aU.length<=100000){p:Nat}{M:aL}(hM:nth M p=some (we f t)):aM (aq fR) 90 [cL p,.str aU] M =
  some (if (eF t aU).2 != 0 then iY (eF t aU).2 else .agg (aV (bE t.ae (eF t aU).1)),M):=by
 have h:aq fR 90 [cL 0,.str aU] [we f t]=some (if (eF t aU).2 != 0 then iY (eF t aU).2 else .agg (aV (bE t.ae (eF t aU).1)),[we f t]):=by
  refine aJ ?_;have q1:=VF t aU ht.small ht.jE hp;generalize eF t aU=v at q1 ⊢;have q2:=zk v.2;have q3:=fun M=>lS (VB t v.1 ht.small ht.jE M)
  simp only[aV] at q3;simp only[aaT,E90,we,q1,EW,seval];cases he:v.2 != 0<;>simp only[he,af,aE,aw,iY] at q2 ⊢
  ·simp only[E90,q2,q3,aV,EW,seval]
  ·simp only[E90,q2,EW,seval]
 have:=pG (vs:=[.str aU]) hM h rfl rfl (by split<;>rfl) rfl (by split<;>rfl) rfl rfl rfl rfl rfl
 have h2:j6 M p (we f t)=M:=uu hM;unfold we at h2;rwa[h2] at this
def c89{f:wb}{l:List Piece}{t:Tree}{cg:Int->Nat}(h:cq t cg 0)(hl:jV l)(s:Bytes)(hs:s.length<=100000)(g:Int) :
  ∃L e,aq fR 89 [cL 0,cL 1,cL 2,cL 3] (xO f t s g l)=some (if e != 0 then iY e else .tuple [],xO f t s g L)/\sG l t s g=(if e != 0 then (l,e) else (L,0)):=by
 have ht:Rt t:=⟨cg,h⟩;have q1:=alP f ht s hs (p:=4) (M:=xO f t s g l) rfl;have q2:∀M,aM (aq fR) 91 [bI l,.str s,aG g] M=some (.tuple [bI (uO l s g).1,aG (uO l s g).2],M):=fun M=>cO (c91 hl s hs g) M
 have q3:=k49 h (BO (s:=s) (to:=g) hl);unfold sG;generalize eF t s=v at q1 ⊢;generalize bE t.ae v.1=n at q1 ⊢;generalize uO l s g=c at q2 q3 ⊢;simp only[xO,we,aV] at q1;cases h0:v.2 != 0
 rotate_left
 ·rw[h0] at q1;refine⟨l,v.2,aJ ?_,by simp[h0]⟩
  simp only[aE,iY] at q1;simp only[Nz,E89,xO,we,q1,h0,iY,aE,EW,seval]<;>rfl
 rw[h0] at q1;simp only[af,aw] at q1;cases h1:n.kind==2
 ·have q4:=fun M=>Uv false 73 rfl M
  simp only[af,aw,iY] at q4;refine⟨l,73,aJ ?_,by simp[bne,h1]⟩
  simp only[Nz,E89,xO,we,q1,q4,h1,iY,aE,EW,seval]<;>rfl
 have q4:=fun M=>Uv true 73 rfl M
 simp only[aE] at q4;have q5:=zk c.2;cases h2:c.2 != 0
 rotate_left
 ·rw[h2] at q5;simp only[aE,iY] at q5;refine⟨l,c.2,aJ ?_,by simp[bne,h1,h2]⟩
  simp only[Nz,E89,xO,we,q1,q2,q4,q5,h1,h2,iY,aE,EW,seval]<;>rfl
 rw[h2] at q5;simp only[af,aw] at q5;cases h3:(kZ c.1 t.ae).2<;>rw[h3] at q3
 ·have q6:=fun M=>Uv false 91 rfl M
  simp only[af,aw,iY] at q6;refine⟨l,91,aJ ?_,by simp[bne,h1,h2,h3]⟩
  simp only[Nz,E89,xO,we,q1,q2,q3,q4,q5,q6,h1,iY,aE,EW,seval]<;>rfl
 ·have q6:=fun M=>Uv true 91 rfl M
  simp only[aE] at q6;refine⟨c.1,0,aJ ?_,by simp[bne,h1,h2,h3]⟩
  simp only[Nz,E89,xO,we,q1,q2,q3,q4,q5,q6,h1,an,af,aw,aE,EW,seval]<;>rfl
def Xp{f:wb}{l:List Piece}{t:Tree}{cg:Int->Nat}(h:cq t cg 0)(hl:jV l)(s:Bytes)(hs:s.length<=100000)(g:Int) :
  ∃L e,aq iR 44 [.func 89 [cL 0,cL 1,cL 2,cL 3]] (xO f t s g l)=some (aG e,xO f t s g L)/\sG l t s g=(if e != 0 then (l,e) else (L,0)):=by
 obtain⟨L,e,ha,hD⟩:=c89 (f:=f) h hl s hs g;refine⟨L,e,?_,hD⟩
 have hc:aM (aq fR) 89 [cL 0,cL 1,cL 2,cL 3] (xO f t s g l++[cm [aG 0]])=some (if e != 0 then iY e else .tuple [],xO f t s g L++[cm [aG 0]]) :=
  lP (ids:=[0,1,2,3,4]) rfl rfl (W9 f t s g l) rfl rfl ha rfl (by split<;>rfl) rfl (by split<;>rfl) rfl
 cases he:e != 0
 ·rw[he] at hc;have:e=0:=by simpa using he
  subst this;exact ZB rfl rfl hc
 ·rw[he] at hc;exact ZA rfl rfl hc
def c42{l:List Piece}{t:Tree}(hf:FI l t)(s:Bytes)(hs:s.length<=100000)(g:Int):aq iR 42 [jc (bm l t),.str s,aG g] []=some (.tuple [.agg (bD (bm (sG l t s g).1 t)),aG (sG l t s g).2],[]):=by
 obtain⟨cg,hg⟩:=hf.rt;refine aJ ?_;have q1:=fun M=>lG (hf.CZ M)
 have hf2:=hf.cut s g;obtain⟨L,e,ha,hD⟩:=Xp (f:=bm l t) hg hf.prt s hs g;rw[hD] at hf2 ⊢
 have q2:∀b0 b3,aM (aq iR) 44 [.func 89 [cL 5,cL 1,cL 6,cL 2]] [b0,cm [.str s],cm [aG g],b3,we (bm l t) t,cm [cL 4],cm [bI l]] =
   some (aG e,[b0,cm [.str s],cm [aG g],b3,we (bm l t) t,cm [cL 4],cm [bI L]]):=fun b0 b3 =>
  lP (ids:=[5,1,6,2,4]) rfl rfl (TH _ _ _ _ _ _ _) rfl rfl ha rfl rfl rfl rfl rfl
 have hp:(bm l t).pieces=l:=rfl;cases he:e != 0
 ·simp only[he,af,aw] at hf2 ⊢;have q3:=fun M=>lG (hf2.xw M)
  generalize bm l t=f at q1 q2 hp ⊢;generalize bm L t=F at q3 ⊢;simp only[bD,we,hp] at q1 q2 q3;simp only[aaK,E42,jc,bD,q1,q2,q3,hp,he,EW,seval]<;>rfl
 ·simp only[he,aE] at hf2 ⊢;generalize bm l t=f at q1 q2 hp ⊢;simp only[bD,we,hp] at q1 q2;simp only[aaK,E42,jc,bD,q1,q2,hp,he,EW,seval]<;>rfl
def k94{l L:List Piece}{t:Tree}(hf:FI l t)(e:Int)(hL:FI L t)(hD:e≠0->L=l)(M:aL):aM (aq iR) 94 [.agg (bD (bm l t)),bI L,aG e] M=some (.tuple [.agg (bD (bm L t)),aG e],M):=by
 refine cO (aJ ?_) M;have q1:=fun M=>lG (hf.CZ M)
 have q2:=fun M=>lG (hL.xw M)
 cases he:e != 0
 ·have:e=0:=by simpa using he
  subst this;generalize bm l t=f at q1 ⊢;generalize bm L t=F at q2 ⊢;simp only[bD] at q1 q2;simp only[aaU,E94,bD,q1,q2,he,EW,seval]<;>rfl
 ·have:=hD (by simpa using he)
  subst this;generalize bm L t=f at q1 ⊢;simp only[aaU,E94,bD,he,EW,seval]<;>rfl
def CW{l:List Piece}{s:Bytes}(h:(lR l s).2≠0):(lR l s).1=l:=by
 unfold lR at h ⊢;split
 ·rfl
 rename_i h1;rw[ak h1] at h;cases hp:rn l s with
 |none=>rfl
 |some a =>
  rw[hp] at h;cases a with
  |zero=>rfl
  |succ a =>
   dsimp only at h ⊢;split
   ·rfl
   ·rename_i h2;rw[ak h2] at h;exact absurd rfl h
def Db{l:List Piece}{s:Bytes}{g:Int}(h:(mY l s g).2≠0):(mY l s g).1=l:=by
 unfold mY at h ⊢
 repeat' split
 all_goals first|rfl|skip
 all_goals simp_all
def c43{l:List Piece}{t:Tree}(hf:FI l t)(s:Bytes)(hs:s.length<=100000):aq iR 43 [jc (bm l t),.str s] []=some (.tuple [.agg (bD (bm (lR l s).1 t)),aG (lR l s).2],[]):=by
 refine aJ ?_;have q1:∀M,aM (aq iR) 93 [bI l,.str s] M=some (.tuple [bI (lR l s).1,aG (lR l s).2],M):=fun M=>lF (cO (c93 hf.prt s hs) M)
 have q2:=k94 hf (lR l s).2 (hf.join s) CW;have hp:(bm l t).pieces=l:=rfl;generalize lR l s=c at q1 q2 ⊢;generalize bm l t=f at q2 hp ⊢;generalize bm c.1 t=F at q2 ⊢;simp only[bD,hp] at q2;simp only[agj,E43,jc,bD,q1,q2,hp,EW,seval]<;>rfl
def c82{l:List Piece}{t:Tree}(hf:FI l t)(s:Bytes)(hs:s.length<=100000)(g:Int):aq iR 82 [jc (bm l t),.str s,aG g] []=some (.tuple [.agg (bD (bm (mY l s g).1 t)),aG (mY l s g).2],[]):=by
 refine aJ ?_;have q1:∀M,aM (aq iR) 150 [bI l,.str s,aG g] M=some (.tuple [bI (mY l s g).1,aG (mY l s g).2],M):=fun M=>lF (cO (ajU hf.prt s hs g) M)
 have q2:=k94 hf (mY l s g).2 (hf.move s g) Db;have hp:(bm l t).pieces=l:=rfl;generalize mY l s g=c at q1 q2 ⊢;generalize bm l t=f at q2 hp ⊢;generalize bm c.1 t=F at q2 ⊢;simp only[bD,hp] at q2;simp only[agH,E82,jc,bD,q1,q2,hp,EW,seval]<;>rfl
def k34{g:Int}(hg:mB g=true)(M:aL):aM (aq iR) 34 [aG g] M=some (.agg (bD (bm (py g) oU)),M):=by
 refine cO (aJ ?_) M;have q1:∀M,aM (aq iR) 77 [aG g] M=some (bI (py g),M):=fun M=>lG (cO (c77 g) M)
 have q2:=fun M=>lG (k78 M)
 have q3:=fun M=>lG ((FI.new hg).xw M)
 generalize bm (py g) oU=F at q3 ⊢;generalize py g=p at q1 q3 ⊢;simp only[bd,bD] at q2 q3;simp only[age,E34,bD,q1,q2,q3,EW,seval]<;>rfl
end
def ah0(xs:List ag):kh [.arr 3 0 xs] (iH [0]) [0]=some [.arr 3 0 xs]:=rfl
section
attribute [local irreducible] fS fp kH gK dv kr aq aM cv bJ
def alc(a b:Piece)(M:aL):aM (aq fR) 137 [.agg (cR a),.agg (cR b)] M=some (aG (Lib.compareBytes a.aU b.aU),M):=by
 have h:aq fR 137 [dr a,dr b] []=some (aG (Lib.compareBytes a.aU b.aU),[]):=by
  refine aJ ?_;have q:=fun M=>lS (aa6 a.aU b.aU M)
  simp only[Yf,aiD,dr,cR,q,EW,seval]
 exact cO h M
def ale(a b:Piece)(M:aL):aM (aq fR) 141 [.agg (cR a),.agg (cR b)] M=some (.bool (a.aU==b.aU),M):=by
 have h:aq fR 141 [dr a,dr b] []=some (.bool (a.aU==b.aU),[]):=by
  refine aJ ?_;simp only[Yj,aiI,dr,cR,EW,seval]
 exact cO h M
def ald{p:Piece}(h:(bz p.aU).2=0/\0<=p.group/\p.group<8/\1<=p.dM/\p.dM<=1099511627776)(hp:p.aU.length<=100000)(M:aL):aM (aq fR) 139 [.agg (cR p)] M=some (.bool false,M):=by
 have h:aq fR 139 [dr p] []=some (.bool false,[]):=by
  refine aJ ?_;obtain⟨h1,h2,h3,h4,h5⟩:=h;have q1:=QD p.aU hp;have q2:=fun M=>lS (aa7 p.group M)
  have g1:NA p.group=true:=by simp[NA,h2,h3]
  have g2:(p.dM<1)=False:=Gu;have g3:(1099511627776<p.dM)=False:=Gu;simp only[Yh,aiF,dr,cR,q1,q2,h1,g1,g2,g3,dI,EW,seval]
 exact cO h M
def alf{l:List Piece}(h:jV l)(M:aL):aM (aq fR) 142 [bI l,.func 137 []] M=some (.bool true,M):=by
 have hm:=h.many
 have key:∀(i:Nat),i<l.length->∀ {k r},(∀e,kr (aq fR) [.tmp 4] 0 k ⟨.exit 0,e,[]⟩=r)->fS (aq fR) [.tmp 4] 0 k (.loop [0,1,5] V2) [(0,bI l),(1,.func 137 []),(5,aG i)] []=r:=by
  intro i;induction i with
  |zero =>
   intro _ k r hx;rw[bZ];simp only[UA,bg,gh,EW,seval];exact hx _
  |succ i ih =>
   intro hi k r hx;rw[bZ];have h1:=aj hi;have h2:=aj (show i<l.length by omega)
   have cu:=bU.1 h.jx i (i+1) (by omega) hi (by omega)
   have q:(Lib.compareBytes l[i+1].aU l[i].aU<0)=False:=by
    rw[za]; simp only[fi,mh]; rw[rV cu]; simp
   have g1:(0<((i+1:Nat):Int))=True:=AE;have g2:IntKind.i64.wrap (((i+1:Nat):Int)-1)=(i:Int):=by rw[gD (by omega) (by omega)]; omega
   have g3:(((i+1:Nat):Int)<0)=False:=Gu;have g4:((i:Int)<0)=False:=Gu;have i1:=ih (by omega) hx
   simp only[UA,g1,g2,g3,g4,h1,h2,dU,gx,I3,IT,bh,alc,q,EW,seval];exact i1
 refine cO (aJ ?_) M;obtain⟨p,r,hl,_⟩:=h.fst;have hpos:0<l.length:=by rw[hl]; simp
 have g1:IntKind.i64.wrap ((l.length:Int)-1)=((l.length-1:Nat):Int):=by rw[gD (by omega) (by omega)]; omega
 have i1:=fun {k r} hx=>key (l.length-1) (by omega) (k:=k) (r:=r) hx
 simp only[Yk,UA,g1,EW,seval];refine i1 fun e=>?_
 simp only[UA,EW,seval]
def alg{l:List Piece}(h:jV l)(hp:∀p,p∈l->p.aU.length<=100000)(M:aL):aM (aq fR) 143 [bI l,.func 139 []] M=some (.bool false,M):=by
 have hm:=h.many
 have q:∀M,aM (aq fR) 200 [bI l,.func 139 []] M=some (aG (-1),M):=fun M=>by
  refine cO (aJ ?_) M;simp only[YF,ZL,EW,seval];refine pq (xs:=l) (by omega) (fun _ (_:Unit)=>()) (fun _ i=>[(0,bI l),(1,.func 139 []),(7,aG l.length),(8,aG i)]) (fun _=>[]) (fun _=>some (AValiZq (-1),([]:aL))) (fun _=>?_) (fun pre x post _ hh hx cu hw h0 hm hi=>?_) ()
  ·simp only[ZL,bg,EW,seval]
  ·have q:=fun M=>ald (h.ok x hm) (hp x hm) M
   have i1:=hi ();simp only[ZL,cu,hx,hw,h0,dU,gx,I3,IT,q,EW,seval];exact i1
 refine cO (aJ ?_) M;simp only[Yl,aiJ,q,EW,seval]
def ajR{l:List Piece}(h:jV l):aq fR 144 [.dk 0 0 3 0 l.length,.func 141 []] [.arr 3 0 (l.map dr)]=some (.dk 0 0 3 0 l.length,[.arr 3 0 (l.map dr)]):=by
 have hm:=h.many
 have key:∀(n i:Nat),0<i->i+n=l.length->∀ {k r},(∀e,kr (aq fR) [.tmp 4] 1 k ⟨.exit 0,(0,.dk 0 0 3 0 l.length)::e,[.arr 3 0 (l.map dr)]⟩=r)->fS (aq fR) [.tmp 4] 1 k (.loop [0,1,5] V3) [(0,.dk 0 0 3 0 l.length),(1,.func 141 []),(5,aG i)] [.arr 3 0 (l.map dr)]=r:=by
  intro n;induction n with
  |zero =>
   intro i h0 hi k r hx;rw[bZ];have e1:((i:Int)<(l.length:Int))=False:=Gu;simp only[MN,bV,e1,EW,seval];exact hx _
  |succ n ih =>
   intro i h0 hi k r hx;rw[bZ];have hil:i<l.length:=by omega
   have h1:=aj hil;have h2:=aj (show i-1<l.length by omega)
   have cu:=bU.1 h.jx (i-1) i (by omega) hil (by omega)
   have q:(l[i].aU==l[i-1].aU)=false:=by
    rw[bM]; intro e; rw[e,iq] at cu; cases cu
   have e1:((i:Int)<(l.length:Int))=True:=AE;have g2:IntKind.i64.wrap ((i:Int)-1)=((i-1:Nat):Int):=by rw[gD (by omega) (by omega)]; omega
   have g3:IntKind.i64.wrap ((i:Int)+1)=((i+1:Nat):Int):=by rw[gD (by omega) (by omega)]; omega
   have g5:(((i-1:Nat):Int)<(l.length:Int))=True:=AE;have i1:=ih (i+1) (by omega) (by omega) hx
   simp only[MN,bV,e1,g2,g3,g5,h1,h2,dU,gx,I3,IT,bh,fD,aQ,ale,q,EW,seval];exact i1
 refine aJ ?_;obtain⟨p,r,hl,_⟩:=h.fst;have hpos:0<l.length:=by rw[hl]; simp
 have i1:=fun {k r} hx=>key (l.length-1) 1 (by omega) (by omega) (k:=k) (r:=r) hx
 simp only[Ym,MN,bV,EW,seval];refine bL (fun hb=>?_) (fun hb=>?_)
 ·simp only[MN,EW,seval]
 ·simp only[MN,EW,seval];refine i1 fun e=>?_
  simp only[MN,EW,seval]
def c74{l:List Piece}(h:jV l)(hp:∀p,p∈l->p.aU.length<=100000):aq fR 74 [bI l] []=some (.bool true,[]):=by
 refine aJ ?_;obtain⟨p,r,hl,hp0⟩:=h.fst;have hm:=h.many;have hpos:0<l.length:=by rw[hl]; simp
 have g1:(((l.length:Nat):Int)==0)=false:=by simp; rw[hl]; simp
 have g2:((16:Int)<(l.length:Int))=False:=Gu;have g3:l[0]?=some p:=by rw[hl]; rfl
 have q1:=alf h;have q2:=alg h hp;have q3:=lS' (LL (f:=145) (bytes:=32) (sz:=3) dr rfl (fun _=>rfl) (by omega) (l:=l) (by rw[hl]; simp) (by omega) [])
 have q4:aM (aq fR) 144 [.dk 0 0 3 0 l.length,.func 141 []] [.arr 3 0 (l.map dr)]=some (.dk 0 0 3 0 l.length,[.arr 3 0 (l.map dr)]) :=
  lP (ids:=[0]) rfl rfl (ah0 _) rfl rfl (ajR h) rfl rfl rfl rfl rfl
 simp only[aH,aY] at q3;simp only[Vt,E74,g1,g2,g3,q1,q2,q3,q4,hp0,dU,gx,cR,bV,an,EW,seval]
def PY{X:Option (ag×aL)}{v:ag×aL}(h:∃r,r=v/\X=some r):X=some v:=by
 obtain⟨_,rfl,h⟩:=h;exact h
def ajL(a b:List eD)(ha:a.length<=100000):aq c9 132 [ij a,ij b] []=some (.bool (decide (a=b)),[]):=by
 refine aJ ?_;cases h0:(a.length:Int) != (b.length:Int)
 ·have hl:a.length=b.length:=by simp at h0; omega
  simp only[Qa,O4,h0,EW,seval];refine PY (J5 (xs:=a) (by omega) (fun m (_:Unit)=>a.take m=b.take m) (fun _ i=>[(0,ij a),(1,ij b),(5,aG i)]) (fun _=>[]) (fun r=>r=(.bool (decide (a=b)),[])) (fun _ hI=>?_) (fun pre x post _ e hx cu hw h0 hm hI hi=>?_) () rfl)
  ·refine⟨_,rfl,?_⟩;rw[oQ (IM hl hI)];simp only[O4,bg,EW,seval]
  ·have hp:=(aC.1 hx).1;obtain⟨y,hy⟩:∃y,b[pre.length]?=some y:=⟨_,aj (by omega)⟩
   cases h1:decide (x=y)
   ·have hd:decide (a=b)=false:=eL fun e=>of_decide_eq_false h1 (by rw[e,hy] at hx; injection hx with hx; exact hx.symm)
    refine⟨_,rfl,?_⟩;rw[hd];simp only[O4,cu,hx,hy,h0,h1,gk,PR,UT,EW,seval]
   ·have i1:=hi () (Fk hI hx (by rw[hy,db h1]))
    simp only[O4,cu,hx,hy,hw,h0,h1,gk,PR,UT,EW,seval];exact i1
 ·have hd:decide (a=b)=false:=eL fun e=>by rw[e] at h0; simp at h0
  rw[hd];simp only[Qa,O4,h0,EW,seval]
def ak7 a b ha:=cP (ajL a b ha)
def c66(x y:Node)(hx:x.aN.length<=100000):aq c9 66 [.agg (aV x),.agg (aV y)] []=some (.bool (decide (x=y)),[]):=by
 rw[Ze];have hk:=fun M=>ak7 x.aN y.aN hx M
 refine aJ ?_;simp only[agx,E66,cn,aV,EN,seval]
 repeat' ((first|apply bL|apply cK|apply eZ)<;>intro hb<;>simp only[hb,EN,E66,hk,yZ,seval])
 all_goals clear hk
 all_goals simp_all [bne]
def k66 x y hx:=cP (c66 x y hx)
def c22(a b:List Node)(ha:a.length<=100000)(he:∀n,n∈a->n.aN.length<=100000):aq c9 22 [a8 a,a8 b] []=some (.bool (decide (a=b)),[]):=by
 refine aJ ?_;cases h0:(a.length:Int) != (b.length:Int)
 ·have hl:a.length=b.length:=by simp at h0; omega
  simp only[aaD,E22,h0,EW,seval];refine PY (J5 (xs:=a) (by omega) (fun m (_:Unit)=>a.take m=b.take m) (fun _ i=>[(0,a8 a),(1,a8 b),(5,aG i)]) (fun _=>[]) (fun r=>r=(.bool (decide (a=b)),[])) (fun _ hI=>?_) (fun pre x post _ e hx cu hw h0 hm hI hi=>?_) () rfl)
  ·refine⟨_,rfl,?_⟩;rw[oQ (IM hl hI)];simp only[E22,bg,EW,seval]
  ·have hp:=(aC.1 hx).1;obtain⟨y,hy⟩:∃y,b[pre.length]?=some y:=⟨_,aj (by omega)⟩
   have q:=fun M=>k66 x y (he x hm) M
   simp only[aV] at q;cases h1:decide (x=y)<;>rw[h1] at q
   ·have hd:decide (a=b)=false:=eL fun e=>of_decide_eq_false h1 (by rw[e,hy] at hx; injection hx with hx; exact hx.symm)
    refine⟨_,rfl,?_⟩;rw[hd];simp only[E22,cu,hx,hy,h0,q,cn,aV,EW,seval]
   ·have i1:=hi () (Fk hI hx (by rw[hy,db h1]))
    simp only[E22,cu,hx,hy,hw,h0,q,cn,aV,EW,seval];exact i1
 ·have hd:decide (a=b)=false:=eL fun e=>by rw[e] at h0; simp at h0
  rw[hd];simp only[aaD,E22,h0,EW,seval]
def k22 a b ha he:=cP (c22 a b ha he)
def c20(a b:Tree)(ha:a.ae.length<=100000)(he:∀n,n∈a.ae->n.aN.length<=100000):aq c9 20 [bK a,bK b] []=some (.bool (decide (a=b)),[]):=by
 have hd:decide (a=b)=(a.next==b.next&&(a.ai==b.ai&&decide (a.ae=b.ae))):=by
  obtain⟨a1,a2,a3⟩:=a;obtain⟨b1,b2,b3⟩:=b;rw[eh]; simp; constructor
  ·rintro⟨h1,h2,h3⟩; exact⟨h2,h3,h1⟩
  ·rintro⟨h1,h2,h3⟩; exact⟨h3,h1,h2⟩
 rw[hd];have q:=fun M=>k22 a.ae b.ae ha he M
 refine aJ ?_
 cases h1:a.next==b.next<;>cases h2:a.ai==b.ai <;>
  simp only[af7,E20,h1,h2,q,bK,bd,bQ,cf,dL,EW,seval]
def k20(a b:Tree)(ha:a.ae.length<=100000)(he:∀n,n∈a.ae->n.aN.length<=100000)(M:aL):aM (aq c9) 20 [.agg [a8 a.ae,aG a.next,aG a.ai],.agg [a8 b.ae,aG b.next,aG b.ai]] M=some (.bool (decide (a=b)),M):=cO (c20 a b ha he) M
end
def Hb{α:Type}{xs pre:List α}(hp:pre.length<=1000000)(hl:pre.length<xs.length)(h1:0<pre.length):∃y,xs[pre.length-1]?=some y/\IntKind.i64.wrap ((pre.length:Int)-1)=((pre.length-1:Nat):Int)/\(((pre.length-1:Nat):Int)<0)=False/\(((pre.length-1:Nat):Int)<(xs.length:Int))=True :=
 ⟨_,aj (by omega),by rw[gD (by omega) (by omega)]; omega,by simp,by simp only[fi,jQ]; omega⟩
def Mt{α:Type}{R:α->α->Prop}{xs:List α}(h:xs.Pairwise R){i j:Nat}{x y:α}(hx:xs[i]?=some x)(hy:xs[j]?=some y)(hl:i<j):R x y:=by
 obtain⟨h1,rfl⟩:=aC.1 hx;obtain⟨h2,rfl⟩:=aC.1 hy;exact bU.1 h i j h1 h2 hl
section
attribute [local irreducible] fS fp kH gK dv kr aq aM cv bJ
abbrev AL:=AM Int
abbrev eK(l:AL):List ag:=wE l
abbrev eV(l:AL):List ag:=qT (ag.int .i64) l
def Bp(o:Option Int):mC (aG 0) false (o.map (ag.int .i64)) = aG (o.getD 0):=by cases o<;>rfl
def bkV(B:Nat)(M:aL)(l:AL):List.map (ag.jR B M) (eV l)=eV l:=aas _ B M (fun _=>rfl) l
def adk(l:AL):(eV l).all ag.plain=true:=bw.2 fun x hx=>by
 obtain⟨p,_,rfl⟩:=bS.1 hx;rfl
def adj(l:AL):(eK l).all ag.plainCell=true:=bw.2 fun x hx=>by
 obtain⟨p,_,rfl⟩:=bS.1 hx;rfl
def nj(d:Int)(mi:AL×AL)(e:eD):AL×AL:=(kq mi.1 e.au (mM ((dw mi.1 e.au).getD 0+1)),kq mi.2 e.au d)
def oE(ae:List Node):AL×AL:=ae.foldl (fun mi n=>n.aN.foldl (nj n.au) mi) ([],[])
def ajS(ae:List Node)(next ai:Int)(hn:ae.length<=100000)(he:∀n,n∈ae->n.aN.length<=100000):aq c9 146 [cL 0] [cm [a8 ae,aG next,aG ai]] =
  some (.tuple [.iG (eK (oE ae).1) (eV (oE ae).1),.iG (eK (oE ae).2) (eV (oE ae).2)],[cm [a8 ae,aG next,aG ai]]):=by
 refine aJ ?_;simp only[Yn,O5,EW,seval]
 refine pq (xs:=ae) (by omega) (fun l mi=>l.foldl (fun mi n=>n.aN.foldl (nj n.au) mi) mi) (fun _ i=>[(4,.gH 1),(5,.gH 2),(16,a8 ae),(17,aG ae.length),(18,aG i)]) (fun mi=>[cm [a8 ae,aG next,aG ai],.map (eK mi.1) (eV mi.1),.map (eK mi.2) (eV mi.2)])
  (fun mi=>some (.tuple [.iG (eK mi.1) (eV mi.1),.iG (eK mi.2) (eV mi.2)],[cm [a8 ae,aG next,aG ai]])) (fun mi=>?_) (fun pre x post mi _ hx cu hw h0 hm hi=>?_) ([],[])
 ·simp only[O5,bg,gS,adk,adj,dX,dB,EW,seval]
 ·simp only[O5,cu,hx,h0,bB,bkV,cn,aV,EW,seval]
  refine pq (xs:=x.aN) (by have:=he x hm; omega) (fun l mi=>post.foldl (fun mi n=>n.aN.foldl (nj n.au) mi) (l.foldl (nj x.au) mi)) (fun _ i=>[(4,.gH 1),(5,.gH 2),(7,cL 3),(16,a8 ae),(17,aG ae.length),(18,aG pre.length),(23,ij x.aN),(24,aG x.aN.length),(25,aG i)]) (fun mi=>[cm [a8 ae,aG next,aG ai],.map (eK mi.1) (eV mi.1),.map (eK mi.2) (eV mi.2),cm [aG x.au,aG x.kind,aG x.dp,jt x.data,ij x.aN,aG x.up]])
   (fun mi=>some (.tuple [.iG (eK mi.1) (eV mi.1),.iG (eK mi.2) (eV mi.2)],[cm [a8 ae,aG next,aG ai]])) (fun mi=>?_) (fun pre' y post' mi _ hy hlt' hw' h0' _ hi'=>?_) mi
  ·have i1:=hi mi;simp only[O5,bg,gS,hw,bkV,EW,seval];exact i1
  ·have i1:=hi' (nj x.au mi y);simp only[nj] at i1;simp only[O5,hlt',hy,h0',hw',gk,ew,mapOf,mD,tU,Bp,bkV,nj,bB,EW,seval];exact i1
def alh ae next ai hn he p M hM:=cM (p:=p) (M:=M) hM (ajS ae next ai hn he)
def CL(d k:Int):∀(l:List eD)(mi:AL×AL),0<=(dw mi.1 k).getD 0->(dw mi.1 k).getD 0+nb l k<=1000000000->(dw (l.foldl (nj d) mi).1 k).getD 0=(dw mi.1 k).getD 0+nb l k
 | [],mi,_,_=>by simp[uM]
 |x::l,mi,h0,hb=>by
  rw[bB];rw[rL] at hb ⊢
  have hs:(dw (nj d mi x).1 k).getD 0=(dw mi.1 k).getD 0+(if x.au=k then 1 else 0):=by
   simp only[nj];rw[ga]
   by_cases hx:x.au=k
   ·rw[az hx.symm,az hx,hx];rw[az hx] at hb;simp only[bA];exact gD (by omega) (by omega)
   ·rw[ak (fun hh=>hx hh.symm),ak hx]; omega
  rw[CL d k l _ (by rw[hs]; split<;>omega) (by rw[hs]; split at hb<;>simp_all<;>omega),hs]
  split<;>omega
def CM(k:Int):∀(l:List Node)(mi:AL×AL),0<=(dw mi.1 k).getD 0->(dw mi.1 k).getD 0+qR l k<=1000000000->(dw (l.foldl (fun mi n=>n.aN.foldl (nj n.au) mi) mi).1 k).getD 0=(dw mi.1 k).getD 0+qR l k
 | [],mi,_,_=>by simp[qR]
 |x::l,mi,h0,hb=>by
  rw[bB];rw[qY] at hb ⊢;have h1:=CL x.au k x.aN mi h0 (by omega)
  rw[CM k l _ (by rw[h1]; omega) (by rw[h1]; omega),h1]
  omega
def F3(ae:List Node)(k:Int)(hb:qR ae k<=1000000):(dw (oE ae).1 k).getD 0=qR ae k:=by
 have:=CM k ae ([],[]) (by simp[dw]) (by simp[dw]; omega)
 simpa[dw,oE] using this
def HF(d k u:Int):∀(l:List eD)(mi:AL×AL),(∀e,e∈l->e.au=k->d=u)->(dw mi.2 k=some u\/0<nb l k)->dw (l.foldl (nj d) mi).2 k=some u
 | [],mi,_,h=>by
  rcases h with h|h
  ·exact h
  ·simp[uM] at h
 |x::l,mi,hd,h=>by
  rw[bB];refine HF d k u l _ (fun e he=>hd e (aP _ he)) ?_
  simp only[nj];rw[ga]
  by_cases hx:x.au=k
  ·rw[az hx.symm,hd x aD hx]; exact .inl rfl
  ·rw[ak (fun hh=>hx hh.symm)]
   rcases h with h|h
   ·exact .inl h
   ·rw[rL,ak hx] at h; exact .inr h
def CK(d k:Int):∀(l:List eD)(mi:AL×AL),nb l k=0->dw (l.foldl (nj d) mi).2 k=dw mi.2 k
 | [],_,_=>rfl
 |x::l,mi,h=>by
  rw[rL] at h;have hx:¬x.au=k:=fun hh=>by rw[az hh] at h; omega
  rw[bB,CK d k l _ (by rw[ak hx] at h; exact h)]
  simp only[nj];rw[ga,ak (fun hh=>hx hh.symm)]
def HG(k u:Int):∀(l:List Node)(mi:AL×AL),(∀n,n∈l->∀e,e∈n.aN->e.au=k->n.au=u)->(dw mi.2 k=some u\/0<qR l k)->dw (l.foldl (fun mi n=>n.aN.foldl (nj n.au) mi) mi).2 k=some u
 | [],mi,_,h=>by
  rcases h with h|h
  ·exact h
  ·simp[qR] at h
 |x::l,mi,hd,h=>by
  rw[bB];refine HG k u l _ (fun n hn=>hd n (aP _ hn)) ?_
  rcases fE (nb x.aN k) with h0|h0
  ·rw[CK x.au k x.aN mi h0];rcases h with h|h
   ·exact .inl h
   ·rw[qY,h0] at h; exact .inr (by omega)
  ·exact .inl (HF x.au k u x.aN mi (hd x aD) (.inr h0))
def cq.JR{t:Tree}{cg:Int->Nat}(h:cq t cg 0){i:Int}{n:Node}(hi:find t.ae i=some n)(hk:n.kind=2)(h1:i≠1):dw (oE t.ae).2 i=some n.up:=by
 have hl:=h.dp _ _ hi;rw[ak (by have:=(h.num _ _ hi).1; omega),h.one _ _ hi hk h1] at hl
 refine HG i n.up t.ae ([],[]) (fun m hm e he hei=>?_) (.inr (by omega))
 obtain⟨_,_,_,_,q,hq,hu⟩:=h.wF _ _ e ((fy h.jE.jx).2 ⟨hm,rfl⟩) he;rw[hei,hi] at hq; cases hq;exact(hu hk).symm
def cq.Uq{t:Tree}{cg:Int->Nat}{x:Int}(h:cq t cg x):∀(m:Nat)(i:Int)(out:List Int)(n:Node),find t.ae i=some n->n.kind=2->cg i<=m->(rB t.ae m i (out++[i]))[out.length+cg i]?=some 1:=by
 intro m;induction m with
 |zero =>
  intro i out n hi hk hd
  have h1:i=1:=by
   rcases Int.decEq i 1 with h1|h1
   ·have:=(h.sH _ _ hi hk h1).1; omega
   ·exact h1
  have h0:cg i=0:=by omega
  rw[h0];simp[rB,h1]
 |succ m ih =>
  intro i out n hi hk hd;simp only[rB]
  by_cases h1:i=1
  ·subst h1; simp[h.zd]
  ·obtain⟨a,p,b,c⟩:=h.sH _ _ hi hk h1;simp only[gj,ne_eq,h1,mj,↓reduceIte,bE,hi,df,cX,bA,hk,an,dI,af];have:=ih n.up (out++[i]) p b c (by omega)
   simp only[aK,av,aH] at this;rw[a,show out.length+(cg n.up+1)=out.length+(0+1)+cg n.up by omega]
   exact this
def cq.OJ{t:Tree}{cg:Int->Nat}{x:Int}(h:cq t cg x){i:Int}{n:Node}(hi:find t.ae i=some n)(hk:n.kind=2):(rX t.ae i)[cg i]?=some 1:=by
 have:=h.Uq t.ae.length i [] n hi hk (by have:=h.ym hi hk; omega)
 simpa[rX] using this
def eC(cs:List Int):List ag:=cs.map fun c => .int .i64 c
def eT(cs:List Int):List ag:=cs.map fun _ => .bool true
def Kz:∀(cs:List Int)(c:Int),c∉cs->uD .i (aG c) (eC cs) (eT cs)=some none
 | [],c,_=>rfl
 |x::cs,c,h=>by
  show bJ (il .i (aG c) (aG x)) (fun b=>zo b (some (some (.bool true))) (uD .i (aG c) (eC cs) (eT cs)))=_
  rw[Kz cs c (fun hh=>h (aP _ hh))]
  have:(c==x)=false:=by simp; rintro rfl; exact h aD
  simp only[il,↓reduceIte,cd,this,nF]
def KA:∀(cs:List Int)(c:Int),c∉cs->sM .i (aG c) (.bool true) (eC cs) (eT cs)=some (eC (cs++[c]),eT (cs++[c]))
 | [],c,_=>by
  show bJ (il .i (aG c) (aG c)) (fun _=>some ([AValiZq c],[ag.bool true]))=_
  simp only[il,↓reduceIte,cd];rfl
 |x::cs,c,h=>by
  show bJ (il .i (aG c) (aG x)) (fun b=>zo b (some (AValiZq c::eC cs,ag.bool true::eT cs)) (bJ (sM .i (aG c) (.bool true) (eC cs) (eT cs)) fun y=>some (AValiZq x::y.1,ag.bool true::y.2)))=_
  rw[KA cs c (fun hh=>h (aP _ hh))]
  have:(c==x)=false:=by simp; rintro rfl; exact h aD
  simp only[il,↓reduceIte,cd,this,nF];rfl
def bkT(B:Nat)(M:aL)(l:List Int):List.map (ag.jR B M) (eT l)=eT l:=by
 unfold eT;rw[fW];exact bX (fun p _=>rfl)
def Td{s:Bytes}(h:Nm s):oD s/\s.length<=100000/\dE s=true:=by
 refine⟨trivial,?_,h⟩;unfold Nm dE at h;simp only[bn,gW,jm,dq] at h;omega
def akg{t:Tree}{cg:Int->Nat}(hi:cq t cg 0)(ht:Small t){n:Node}{ni:Int}(hf:find t.ae ni=some n):aq c9 201 [cL 0,cn n] [cm [a8 t.ae,aG t.next,aG t.ai]]=some (.bool true,[cm [a8 t.ae,aG t.next,aG t.ai]]):=by
 obtain⟨ae,next,ai⟩:=t
 have he:=hi.few hf;have hE:oX n.aN:=hi.jE.aN n (cj hf).1;have hC:=(hi.xN _ _ hf).1;have hl:decide ((n.aN.length:Int)<=64)=true:=oQ (by omega)
 have hlk:mC (.bool false) false none = .bool false:=rfl;refine aJ ?_;simp only[Qg,UE,cn,aV,EW,seval];refine PY (J5 (xs:=n.aN) (by omega) (fun m cs=>cs=(n.aN.take m).map eD.ai) (fun _ i=>[(0,cL 0),(3,cL 1),(5,.gH 2),(12,ij n.aN),(13,aG n.aN.length),(14,aG i)]) (fun cs=>[cm [a8 ae,aG next,aG ai],cm (aV n),.map (eC cs) (eT cs)]) _ (fun cs _=>?_) (fun pre x post cs e hx cu hw h0 hm hcs hi'=>?_) [] rfl)
 ·refine⟨_,rfl,?_⟩;simp only[aV];simp only[UE,bg,hl,EW,seval]
 ·have hp:=(aC.1 hx).1;have i1:=hi' (cs++[x.ai]) (by rw[dC,hx,hcs]; simp)
  obtain⟨x1,x2,_,x4,m,hm',_⟩:=hi.wF _ _ x hf hm;obtain⟨na,nl,no⟩:=Td x4
  have hat:HS ae x.au (k8 ae x.au)=true:=by
   rcases rY hi.jE.jx x.au with ⟨h1,_⟩|⟨_,h2⟩
   ·exact h1
   ·simp only at hm' h2; rw[hm'] at h2; cases h2
  have hcm:x.ai∉cs:=fun hc=>by
   rw[hcs,e,List.take_left] at hc;obtain⟨y,hy,hyc⟩:=bS.1 hc;rw[e,dz] at hC;exact hC.2.2 y hy x aD hyc
  have b1:decide (x.ai<1)=false:=eL (by omega)
  have b2:decide (ai<=x.ai)=false:=eL (by simp only at x2; omega)
  have q79:=fun a b M=>VL ae next ai x.au hi.jE.jx ht.ae 0 (cm [a8 ae,aG next,aG ai]::a::b::M) rfl
  have q41:=fun M=>VE x.name nl na M
  simp only[aV] at i1 ⊢;cases h1:decide ((0:Int)<(pre.length:Int))
  ·simp only[UE,cu,hx,hw,h0,gk,ew,q79,q41,hat,no,b1,b2,mapOf,Kz _ _ hcm,KA _ _ hcm,hlk,bkT,h1,EW,seval];exact i1
  ·obtain⟨y,c1,c2,c3,c4⟩:=Hb (xs:=n.aN) (pre:=pre) (by omega) hp (by simpa using h1)
   have hlt':strLt y.name x.name=true:=Mt hE c1 hx (by simp at h1; omega)
   simp only[UE,cu,hx,hw,h0,gk,ew,q79,q41,hat,no,b1,b2,mapOf,Kz _ _ hcm,KA _ _ hcm,hlk,bkT,h1,c1,c2,c3,c4,hlt',EW,seval];exact i1
def alw{ae:List Node}{next ai:Int}{cg:Int->Nat}(hi:cq ⟨ae,next,ai⟩ cg 0)(ht:Small ⟨ae,next,ai⟩){n:Node}{ni:Int}(hf:find ae ni=some n)(p:Nat)(M:aL)(hM:nth M p=some (cm [a8 ae,aG next,aG ai])) :
  aM (aq c9) 201 [cL p,.agg (aV n)] M=some (.bool true,M):=by
 have:=pG hM (akg hi ht hf) rfl rfl rfl rfl rfl rfl rfl rfl rfl rfl;rwa[uu hM] at this
set_option maxHeartbeats 1000000 in
def ajT{t:Tree}{cg:Int->Nat}(hi:cq t cg 0)(ht:Small t){n:Node}{ni:Int}(hf:find t.ae ni=some n)(many jN:Int)(hm:many=qR t.ae ni)(hin:n.kind=2->ni≠1->jN=n.up) :
  aq c9 147 [cL 0,cn n,aG many,aG jN] [cm [a8 t.ae,aG t.next,aG t.ai]]=some (.bool true,[cm [a8 t.ae,aG t.next,aG t.ai]]):=by
 obtain⟨ae,next,ai⟩:=t
 have hno:n.au=ni:=hi.au hf;have hl:=hi.dp _ _ hf;rw[ak (by have:=(hi.num _ _ hf).1; omega)] at hl
 have hl:n.dp=(qR ae ni:Int):=by simpa using hl
 have hm:many=(qR ae ni:Int):=hm;have hlm:(n.dp==many)=true:=by rw[hm,hl]; simp
 have q108:=fun a M=>alw hi ht hf 0 (cm [a8 ae,aG next,aG ai]::a::M) rfl
 have q44:=fun au a M=>VI ae next ai au hi.jE.jx ht.ae 0 (cm [a8 ae,aG next,aG ai]::a::M) rfl
 simp only[aV] at q108;refine aJ ?_;rcases hi.kind _ _ hf with hk|hk
 ·obtain⟨f1,f2,f3⟩:=hi.file _ _ hf hk;have b1:(n.kind==1)=true:=by simp[hk]
  have b2:((n.aN.length:Int)==0)=true:=by rw[f1]; rfl
  have b3:(n.up==0)=true:=by simp[f2]
  have b4:decide ((n.data.length:Int)<=4096)=true:=by rw[bu]; omega
  simp only[HB,UB,cn,aV,b1,b2,b3,b4,hlm,EN,seval]
 ·have hd:=hi.dir _ _ hf hk;have b1:(n.kind==1)=false:=by simp[hk]
  have b2:(n.kind != 2)=false:=by simp[hk]
  have b3:decide ((0:Int)<(n.data.length:Int))=false:=by rw[hd]; simp
  by_cases h1:ni=1
  ·subst h1;obtain⟨r,r1,r2,r3⟩:=hi.root;have hrn:r=n:=by simp only at r1 hf; rw[hf] at r1; injection r1 with r1; exact r1.symm
   subst hrn
   have c0:qR ae 1=0:=by
    rcases fE (qR ae 1) with h0|h0
    ·exact h0
    ·obtain⟨m,e,e1,e2,e3⟩:=qZ.1 h0;exact absurd e3 (hi.wF _ _ e ((fy hi.jE.jx).2 ⟨e1,rfl⟩) e2).2.2.1
   have c1:(r.au==1)=true:=by simp[hno]
   have c2:(r.up==1)=true:=by simp[r3]
   have c3:(r.dp==0)=true:=by simp[hl,c0]
   have c4:(many==0)=true:=by simp[hm,c0]
   simp only[HB,UB,cn,aV,b1,b2,b3,q108,c1,c2,c3,c4,EN,seval]
  ·have hl1:=hi.one _ _ hf hk h1;have c1:(n.au==1)=false:=by rw[hno]; simpa using h1
   have c2:(many != 1)=false:=by simp; omega
   have c3:(jN != n.up)=false:=by simp[hin hk h1]
   have c4:(n.dp != 1)=false:=by simp[hl1]
   have hul:=hi.sv hf hk;have hlast:=hi.OJ hf hk;obtain⟨dd1,dd2⟩:=hi.deep _ _ hf hk;simp only at hul hlast;have hw:IntKind.i64.wrap (((rX ae n.au).length:Int)-1)=(cg ni:Int):=by rw[hno,hul,gD (by omega) (by omega)]; omega
   have hg:(rX ae n.au)[cg ni]?=some 1:=by rw[hno]; exact hlast
   have w1:=zF (rX ae n.au)
   by_cases h12:cg ni<12
   ·have d1:decide ((cg ni:Int)<12)=true:=by rw[bu]; omega
    simp only[HB,UB,cn,aV,b1,b2,b3,q108,c1,c2,c3,c4,q44,hw,hg,w1,d1,EN,seval]
   ·have d1:decide ((cg ni:Int)<12)=false:=by rw[dq]; omega
    have d2:((cg ni:Int)==12)=true:=by rw[dR]; omega
    have d3:((n.aN.length:Int)==0)=true:=by rw[dd2 (by omega)]; rfl
    simp only[HB,UB,cn,aV,b1,b2,b3,q108,c1,c2,c3,c4,q44,hw,hg,w1,d1,d2,d3,EN,seval]
def ali{ae:List Node}{next ai:Int}{cg:Int->Nat}(hi:cq ⟨ae,next,ai⟩ cg 0)(ht:Small ⟨ae,next,ai⟩){n:Node}{ni:Int}(hf:find ae ni=some n)(many jN:Int)(hm:many=qR ae ni)(hin:n.kind=2->ni≠1->jN=n.up)(p:Nat)(M:aL)(hM:nth M p=some (cm [a8 ae,aG next,aG ai])) :
  aM (aq c9) 147 [cL p,.agg (aV n),aG many,aG jN] M=some (.bool true,M):=by
 have:=pG hM (ajT hi ht hf many jN hm hin) rfl rfl rfl rfl rfl rfl rfl rfl rfl rfl;rwa[uu hM] at this
def cq.first{t:Tree}{cg:Int->Nat}(h:cq t cg 0):∃r rest,t.ae=r::rest/\r.au=1/\r.kind=2:=by
 obtain⟨r,r1,r2,_⟩:=h.root;cases hn:t.ae with
 |nil=>rw[hn] at r1; cases r1
 |cons x l =>
  refine⟨x,l,rfl,?_⟩;have hxf:find t.ae x.au=some x:=(fy h.jE.jx).2 ⟨by rw[hn]; exact aD,rfl⟩
  obtain⟨q1,q2⟩:=cj r1;rw[hn] at q1;rcases bc.1 q1 with rfl|q1
  ·exact⟨q2,r2⟩
  ·have hp:=h.jE.jx;rw[hn] at hp;have:=(bG.1 hp).1 r q1;have:=(h.num _ _ hxf).1;omega
set_option maxHeartbeats 1000000 in
def c75{t:Tree}{cg:Int->Nat}(hi:cq t cg 0)(ht:Small t):aq c9 75 [bK t] []=some (.bool true,[]):=by
 obtain⟨ae,next,ai⟩:=t
 obtain⟨r,rest,r1,r2,r3⟩:=hi.first
 simp only at r1;have hn:ae.length<=200:=hi.ae;have hl1:1<=ae.length:=by rw[r1]; simp
 have hnx:=hi.next
 have hck:=hi.ai;simp only at hnx hck;have b1:decide ((ae.length:Int)<1)=false:=eL (by omega)
 have b2:decide ((200:Int)<(ae.length:Int))=false:=eL (by omega)
 have h0:ae[0]?=some r:=by rw[r1]; rfl
 have b3:(r.au != 1)=false:=by simp[r2]
 have b4:(r.kind != 2)=false:=by simp[r3]
 have b5:decide ((1099511627776:Int)<next)=false:=eL (by omega)
 have b6:decide (ai<1)=false:=eL (by omega)
 have b7:decide ((1099511627776:Int)<ai)=false:=eL (by omega)
 have q72:=fun a M=>alh ae next ai ht.ae ht.aN 1 (a :: cm [a8 ae,aG next,aG ai]::M) rfl
 have hz0:Int.toNat 0=0:=rfl;refine aJ ?_;simp only[agC,E75,bK,bd,b1,b2,h0,hz0,cn,aV,b3,b4,b5,b6,b7,fJ,EW,seval];refine pq (xs:=ae) (by omega) (fun _ (_:Unit)=>()) (fun _ i=>[(3,cL 1),(79,a8 ae),(80,aG ae.length),(81,aG i)]) (fun _=>[cm [a8 ae,aG next,aG ai],cm [a8 ae,aG next,aG ai]]) (fun _=>some (ag.bool true,([]:aL))) (fun _=>?_) (fun pre x post _ _ hx cu hw h0' hm hi'=>?_) ()
 ·simp only[E75,bg,q72,EW,seval];refine pq (xs:=ae) (by omega) (fun _ (_:Unit)=>()) (fun _ i=>[(3,cL 1),(6,.iG (eK (oE ae).1) (eV (oE ae).1)),(7,.iG (eK (oE ae).2) (eV (oE ae).2)),(129,a8 ae),(130,aG ae.length),(131,aG i)]) (fun _=>[cm [a8 ae,aG next,aG ai],cm [a8 ae,aG next,aG ai]]) (fun _=>some (ag.bool true,([]:aL))) (fun _=>?_) (fun pre x post _ _ hx cu hw h0' hm hi'=>?_) ()
  ·simp only[E75,bg,EW,seval]
  ·have i1:=hi' ();have hf:find ae x.au=some x:=(fy hi.jE.jx).2 ⟨hm,rfl⟩
   have q73:=fun a b M=>ali hi ht hf _ _ (F3 ae x.au (bj (hi.JP x.au) (by omega))) (fun hk h1=>by
    have:=hi.JR hf hk h1;simp only at this
    show(dw (oE ae).2 x.au).getD 0=x.up
    rw[this]; rfl) 1 (a :: cm [a8 ae,aG next,aG ai]::b::M) rfl
   simp only[aV] at q73;simp only[E75,cu,hx,hw,h0',cn,aV,mapOf,mD,Bp,q73,EW,seval];exact i1
 ·have i1:=hi' ();have hp:=(aC.1 hx).1;have hf:find ae x.au=some x:=(fy hi.jE.jx).2 ⟨hm,rfl⟩;have c5:decide (next<=x.au)=false:=eL (by have:=(hi.num _ _ hf).2; simp only at this; omega)
  have c6:decide ((64:Int)<(x.aN.length:Int))=false:=eL (by have:=hi.few hf; omega)
  cases h1:decide ((0:Int)<(pre.length:Int))
  ·simp only[E75,cu,hx,hw,h0',cn,aV,h1,c5,c6,EW,seval];exact i1
  ·obtain⟨y,d1,d2,d3,d4⟩:=Hb (xs:=ae) (pre:=pre) (by omega) hp (by simpa using h1)
   have d5:decide (x.au<=y.au)=false:=eL (by have:=Mt hi.jE.jx d1 hx (by simp at h1; omega); omega)
   simp only[E75,cu,hx,hw,h0',cn,aV,h1,c5,c6,d1,d2,d3,d4,d5,EW,seval];exact i1
def k72{l:List Piece}(hn:l.length<=1000)(M:aL):aM (aq c9) 72 [bI l,bI l] M=some (.bool true,M):=by
 refine cO (aJ ?_) M;simp only[aaP,E72,an,EW,seval];refine pq (xs:=l) (by omega) (fun _ (_:Unit)=>()) (fun _ i=>[(0,bI l),(1,bI l),(12,aG l.length),(13,aG i)]) (fun _=>[]) (fun _=>some (ag.bool true,([]:aL))) (fun _=>?_) (fun pre x post _ hh hx cu hw h0 hm hi=>?_) ()
 ·simp only[E72,bg,EW,seval]
 ·have i1:=hi ();simp only[E72,cu,hx,hw,h0,dU,gx,cR,kO,il,eu,pE,eX,EW,seval];exact i1
def k70{x:qy}(hs:Small ⟨x.ae,0,0⟩)(M:aL):aM (aq c9) 70 [.agg (mu x),.agg (mu x)] M=some (.bool true,M):=by
 refine cO (aJ ?_) M;have q:=k71 ⟨x.ae,0,0⟩ ⟨x.ae,0,0⟩ hs;simp only[nA] at q;simp only[agz,E70,mu,eu,q,EW,seval]
def k73{l:List qy}(hn:l.length<=1000)(hs:∀x,x∈l->Small ⟨x.ae,0,0⟩)(M:aL):aM (aq c9) 73 [jT l,jT l,.func 70 []] M=some (.bool true,M):=by
 refine cO (aJ ?_) M;simp only[agB,E73,an,EW,seval];refine pq (xs:=l) (by omega) (fun _ (_:Unit)=>()) (fun _ i=>[(1,jT l),(2,.func 70 []),(15,jT l),(16,aG l.length),(17,aG i)]) (fun _=>[]) (fun _=>some (ag.bool true,([]:aL))) (fun _=>?_) (fun pre x post _ hh hx cu hw h0 hm hi=>?_) ()
 ·simp only[E73,bg,EW,seval]
 ·have i1:=hi ();have q:=k70 (hs x hm);simp only[mu] at q;simp only[E73,cu,hx,hw,h0,q,jK,ow,mu,EW,seval];exact i1
end
def FI.small{l:List Piece}{t:Tree}(h:FI l t):∀x,x∈(bm l t).er->Small ⟨x.ae,0,0⟩:=by
 intro x hx;have hs:Small t:=Rt.small h.rt;obtain⟨h1,_,_,_⟩:=wU hx;have hsub:∀n,n∈x.ae->n∈t.ae:=fun n hn=>by rw[h1] at hn; exact(eo.1 hn).1
 have eY:x.ae.length<=t.ae.length:=by rw[h1]; exact fg _ _
 exact⟨by have:=hs.ae; show x.ae.length<=100000; omega,fun n hn=>hs.aN n (hsub n hn),fun n hn=>hs.data n (hsub n hn)⟩
def FI.er{l:List Piece}{t:Tree}(_h:FI l t):(bm l t).er.length<=8:=bj (fN _ _) (by simp)
section
attribute [local irreducible] fS fp kH gK dv kr aq aM cv bJ
def FI.Za{l:List Piece}{t:Tree}(h:FI l t)(M:aL):aM (aq c9) 30 [.agg (bD (bm l t)),.agg (bD (bm l t))] M=some (.bool true,M):=by
 refine cO (aJ ?_) M;have hm:=h.prt.many;have q1:=k72 (l:=(bm l t).pieces) (show l.length<=1000 by omega)
 have q2:=k73 (l:=(bm l t).er) (by have:=h.er; omega) h.small
 generalize bm l t=f at q1 q2 ⊢;simp only[aaH,E30,bD,q1,q2,eu,EW,seval]
def FI.right{l:List Piece}{t:Tree}(h:FI l t):aq fR 31 [jc (bm l t)] []=some (.bool true,[]):=by
 obtain⟨cg,hg⟩:=h.rt;refine aJ ?_;have q1:∀M,aM (aq fR) 74 [bI l] M=some (.bool true,M):=fun M=>cO (c74 h.prt h.prt.Ou) M
 have q2:=fun M=>lS (h.CZ M)
 have q3:=fun M=>lS (h.xw M)
 have q4:=fun M=>lS (h.Za M)
 have q5:∀M,aM (aq fR) 75 [.agg [a8 t.ae,aG t.next,aG t.ai]] M=some (.bool true,M):=fun M=>lS (cO (c75 hg (Rt.small h.rt)) M)
 have q6:=k49 hg h.prt;rw[(uU hg h.prt).2 h.may] at q6;have hl:=h.er;have hsum:((bm l t).er.flatMap qy.ae).length<=200:=by rw[(tf hg h.prt h.may).length_eq]; exact hg.ae
 have hp:(bm l t).pieces=l:=rfl;generalize bm l t=f at *;have g1:((8:Int)<(f.er.length:Int))=False:=Gu;simp only[bD,hp] at q2 q3 q4;simp only[aaI,E31,jc,bD,hp,q1,g1,EW,seval]
 refine cZ (gG (xs:=f.er) (by omega) (fun i (n:Nat)=>n=((f.er.take i).flatMap qy.ae).length) (fun _ (_:Nat)=>()) (fun n i=>[(1,cL 0),(3,aG n),(20,jT f.er),(21,aG f.er.length),(22,aG i)])
  (fun _=>[cm [bI l,jT f.er,aG f.next,aG f.ai]]) (fun _=>some (.bool true,[])) (fun n hn=>?_) (fun pre x post n hh hx cu hw hz hm hn hi=>?_) 0 rfl) rfl
 ·rw[cT] at hn;have g2:((200:Int)<(n:Int))=False:=Gu;simp only[E31,bg,g2,q2,q3,q4,q5,q6,EW,seval]
 ·have h1:f.er.take (pre.length+1)=pre++[x]:=by rw[hh,show pre++x::post=(pre++[x])++post by simp]; exact List.take_left' (by simp)
  have h2:f.er.take pre.length=pre:=by rw[hh]; simp
  have h3:n+x.ae.length<=200:=by
   have e:(pre.flatMap qy.ae).length+x.ae.length<=(f.er.flatMap qy.ae).length:=by rw[hh]; simp
   rw[hn,h2]; omega
  have i1:=hi (n+x.ae.length) (by rw[h1,hn,h2]; simp)
  have hw2:IntKind.i64.wrap ((n:Int)+(x.ae.length:Int))=((n+x.ae.length:Nat):Int):=by rw[gD (by omega) (by omega)]; omega
  simp only[E31,cu,hx,hw,hw2,hz,jK,ow,mu,aI,EW,seval];exact i1
end
section
variable {t:Tree} {cg:Int->Nat} {l:List Piece}
attribute [local irreducible] fS fp kH gK dv kr aq aM cv bJ
def FI.zf(hf:FI l t)(M:aL):aM (aq c9) 76 [bI l,.agg [a8 t.ae,aG t.next,aG t.ai]] M=some (.agg (bD (bm l t)),M):=by
 obtain⟨cg,h⟩:=hf.rt;have hl:=hf.prt;have hmay:=hf.may;refine cO (aJ ?_) M;have hn:=h.ae;have hm:=hl.many;have q1:=ag3 h hl;rw[Br h hl hmay] at q1;have hat:∀n,n∈t.ae->∃v:Nat,uS l t.ae n.au=(v:Int)/\l[v]?=some (mJ l v)/\ko l t.ae n.au=(mJ l v).group:=fun n hn=>LP h hl hmay hn
 have hrows:∀i:Nat,((List.range i).filterMap fun(g:Nat)=>if (t.ae.filter fun n=>ko l t.ae n.au==(g:Int)).isEmpty=true then none else some (qy.mk g (t.ae.filter fun n=>ko l t.ae n.au==(g:Int)))).length<=i:=fun i=>bj (fN _ _) (by simp)
 simp only[aaQ,ZT,q1,zt,AD,EW,seval]
 refine cZ (gG (xs:=List.range 8) (by simp) (fun i (out:List qy)=>out=(List.range i).filterMap fun(g:Nat)=>if (t.ae.filter fun n=>ko l t.ae n.au==(g:Int)).isEmpty=true then none else some ⟨g,t.ae.filter fun n=>ko l t.ae n.au==(g:Int)⟩) (fun _ (_:List qy)=>())
  (fun _ i=>[(0,bI l),(3,cL 0),(4,cL 1),(5,cL 2),(6,lQ (t.ae.map fun n=>uS l t.ae n.au)),(7,aG i)])
  (fun out=>[cm [a8 t.ae,aG t.next,aG t.ai],cm [.slice .c0 [],.slice .c0 [],aG 0,aG 0],cm [kJ (l.map dr),.slice (.own 3) (out.map Cy),aG t.next,aG t.ai],.tick 2 out.length])
  (fun _=>some (jc (bm l t),[])) (fun out ho=>?_) (fun pre x post out hh hx cu hw h0 hmm ho hi=>?_) [] rfl) rfl
 ·rw[ky] at ho;have ho:out=qu (fun n=>ko l t.ae n.au) t.ae:=ho
  subst ho;have e8:(((List.range 8).length:Nat):Int)=8:=rfl;simp only[ZT,e8,bg,EW,seval];rfl
 ·have hpre:pre.length<8:=by have:=congrArg List.length hh; simp at this; omega
  have hxe:x=pre.length:=by rw[fM hpre] at hx; injection hx with hx; exact hx.symm
  subst hxe;have hl8:((pre.length:Int)<8)=True:=by simp; omega
  have eY:=hrows pre.length;rw[<-ho] at eY;have r1:dQ (out.length+1) 32=True:=xR;have i1:=hi _ rfl;rw[om,kj,<-ho] at i1;simp only[lj,jY] at i1;simp only[ZT,hl8,zt,AD,EW,seval]
  refine cZ (gG (xs:=t.ae) (by omega) (fun j (own:List Node)=>own=(t.ae.take j).filter fun n=>ko l t.ae n.au==((pre.length:Nat):Int)) (fun _ (_:List Node)=>())
   (fun own j=>[(0,bI l),(3,cL 0),(4,cL 1),(5,cL 2),(6,lQ (t.ae.map fun n=>uS l t.ae n.au)),(7,aG ((pre.length:Nat):Int)),(8,.slice (.own 4) (own.map cn)),(9,aG j)])
   (fun own=>[cm [a8 t.ae,aG t.next,aG t.ai],cm [.slice .c0 [],.slice .c0 [],aG 0,aG 0],cm [kJ (l.map dr),.slice (.own 3) (out.map Cy),aG t.next,aG t.ai],.tick 2 out.length,.tick 6 own.length])
   (fun _=>some (jc (bm l t),[])) (fun own hown=>?_) (fun pre2 n post2 own hh2 hx2 hlt2 hw2 h02 hmm2 hown hi2=>?_) [] rfl) rfl
  ·rw[cT] at hown;rw[<-hown] at i1;have wl:=Ja out;cases own with
   |nil =>
    simp only[List.isEmpty_nil,aE,bW] at i1;simp only[ZT,aI,bg,aH,gh,hw,EW,seval];exact i1
   |cons a b =>
    have hp:((0:Int)<((b.length+1:Nat):Int))=True:=AE;simp only[List.isEmpty_cons,af,aw,bC,aW,bp,aK,av,aH,aQ,Cy,mu] at i1;simp only[ZT,aI,av,bg,hp,hw,r1,wl,EW,seval];exact i1
  ·obtain⟨v,hv1,hv2,hv3⟩:=hat n hmm2;have hpl2:pre2.length<t.ae.length:=by have:=congrArg List.length hh2; simp at this; omega
   have hol:own.length<=200:=by rw[hown]; exact bj (fg _ _) (by simp; omega)
   have r2:dQ (own.length+1) 80=True:=xR;have i2:=hi2 _ rfl;have ht1:t.ae.take (pre2.length+1)=t.ae.take pre2.length++[n]:=by rw[dC,hx2]; rfl
   rw[ht1,List.filter_append,<-hown] at i2;have g0:((v:Int)<0)=False:=by simp
   have gz:((0:Int)<=(v:Int))=True:=by simp
   have hpv:(t.ae.map fun n=>uS l t.ae n.au)[pre2.length]?=some (v:Int):=by rw[aZ,hx2]; exact congrArg some hv1
   have hpv':uS l t.ae n.au=(v:Int):=hv1;rw[ib,hv3,List.filter_nil] at i2;cases hc:(mJ l v).group==((pre.length:Nat):Int)
   ·rw[hc] at i2;simp only[af,aw,bW] at i2;simp only[ZT,aI,hlt2,hx2,hw2,h02,hpv',gz,g0,hv2,hc,dU,gx,cR,pn,mr,bh,cB,EW,seval];exact i2
   ·rw[hc] at i2;simp only[aE,bC,aW,bp,aK,av,aH,aQ,cn,aV] at i2;simp only[ZT,aI,hlt2,hx2,hw2,h02,hpv',gz,g0,hv2,hc,r2,dU,gx,cR,pn,mr,aV,bh,cB,EW,seval];exact i2
end
def yR:List ag:=[.int .i64 0,.int .i64 0,.int .i64 0,.slice .c0 [],.slice .c0 [],.int .i64 0]
def NB(s:Int×Node)(B:List ag):Prop:=(B=yR/\s.1=0)\/B=aV s.2
def NB.step{s:Int×Node}{B:List ag}(last:Int)(x:Node)(h:NB s B):NB (fX last s x) (if decide (last<x.au)&&(s.1==0||decide (x.au<s.1)) then aV x else B):=by
 unfold fX;split
 ·exact .inr rfl
 ·exact h
section
attribute [local irreducible] fS fp kH gK dv kr aq aM cv bJ
def WB{f:wb}{i:Nat}{x:qy}{last:Int}{A:cD}(acc:List Node){k:List K}{r:Option (ag×aL)}(s0:Int×Node)(B0:List ag)(hb0:NB s0 B0)(hx:f.er[i]?=some x)(hl:x.ae.length<=1000)
  (hA:∀B M,cD.back B M A=A)
  (hk:∀B z,NB (x.ae.foldl (fX last) s0) B->kr (aq c9) [.fG 2 3] 0 k ⟨.exit 4,(1,cL 0)::(2,cL 1)::(3,cL 2)::(4,aG last)::(5,aG (x.ae.foldl (fX last) s0).1)::(6,cL 4)::(7,aG i)::z,[cm (bD f),A,cm [.slice (.own 3) (acc.map cn),aG f.next,aG f.ai],.tick 6 acc.length,.cells B]⟩=r) :
  fS (aq c9) [.fG 2 3] 0 k (.loop [1,2,3,4,5,6,7,8] acC) [(1,cL 0),(2,cL 1),(3,cL 2),(4,aG last),(5,aG s0.1),(6,cL 4),(7,aG i),(8,aG 0)] [cm (bD f),A,cm [.slice (.own 3) (acc.map cn),aG f.next,aG f.ai],.tick 6 acc.length,.cells B0]=r:=by
 refine gG (xs:=x.ae) (by omega) (fun j (s:(Int×Node)×List ag)=>NB s.1 s.2/\s.1=(x.ae.take j).foldl (fX last) s0) (fun _ (_:(Int×Node)×List ag)=>()) (fun s j=>[(1,cL 0),(2,cL 1),(3,cL 2),(4,aG last),(5,aG s.1.1),(6,cL 4),(7,aG i),(8,aG j)])
  (fun s=>[cm (bD f),A,cm [.slice (.own 3) (acc.map cn),aG f.next,aG f.ai],.tick 6 acc.length,.cells s.2]) (fun _=>r) (fun s hs=>?_) (fun pre n post s hh hz cu hw hz0 hm hs hi=>?_) (s0,B0) ⟨hb0,rfl⟩
 ·obtain⟨s,B⟩:=s;obtain⟨hs1,hs2⟩:=hs;rw[cT] at hs2;simp only at hs1 hs2;subst hs2;have g0:((i:Int)<0)=False:=by simp
  simp only[bD] at hk ⊢;simp only[Ut,hx,g0,jK,ow,mu,bh,bg,EW,seval];exact hk B _ hs1
 ·obtain⟨⟨b,y⟩,B⟩:=s;obtain⟨hs1,hs2⟩:=hs;simp only at hs1 hs2;have ht:(x.ae.take (pre.length+1)).foldl (fX last) s0=fX last (b,y) n:=by rw[hs2,dC,hz,jo]; rfl
  have g0:((i:Int)<0)=False:=by simp
  have hst:=hs1.step last n;simp only[bD] at hi ⊢;cases h1:decide (last<n.au)<;>cases h2:b==0<;>cases h3:decide (n.au<b) <;>
  simp only[h1,h2,h3,dJ,gq,eX,dL,aE,af,aw] at hst <;>
  have i1:=hi (fX last (b,y) n,_) ⟨hst,ht.symm⟩ <;>
  simp only[fX,h1,h2,h3,dJ,gq,eX,dL,aE,af,aw] at i1 <;>
  rcases hs1 with ⟨rfl,-⟩|rfl <;>
  simp only[yR,aV] at i1 ⊢ <;>
  simp only[Ut,hx,cu,hz,hw,hz0,g0,h1,h2,h3,hA,mG cn 6 (fun _=>rfl) acc,jK,ow,mu,cn,aV,bh,EW,seval]<;>exact i1
def L8{f:wb}{last:Int}{A:cD}(acc:List Node){k:List K}{r:Option (ag×aL)}(hn:f.er.length<=1000)(hl:∀x,x∈f.er->x.ae.length<=1000)
  (hA:∀B M,cD.back B M A=A)
  (hk:∀B z,NB ((f.er.flatMap qy.ae).foldl (fX last) (0,Node.zero)) B->kr (aq c9) [.fG 2 3] 0 k ⟨.exit 2,(1,cL 0)::(2,cL 1)::(3,cL 2)::(4,aG last)::(5,aG ((f.er.flatMap qy.ae).foldl (fX last) (0,Node.zero)).1)::(6,cL 4)::z,[cm (bD f),A,cm [.slice (.own 3) (acc.map cn),aG f.next,aG f.ai],.tick 6 acc.length,.cells B]⟩=r) :
  fS (aq c9) [.fG 2 3] 0 k (.loop [1,2,3,4,5,6,7] acD) [(1,cL 0),(2,cL 1),(3,cL 2),(4,aG last),(5,aG 0),(6,cL 4),(7,aG 0)] [cm (bD f),A,cm [.slice (.own 3) (acc.map cn),aG f.next,aG f.ai],.tick 6 acc.length,.cells yR]=r:=by
 refine gG (xs:=f.er) (by omega) (fun j (s:(Int×Node)×List ag)=>NB s.1 s.2/\s.1=((f.er.take j).flatMap qy.ae).foldl (fX last) (0,Node.zero)) (fun _ (_:(Int×Node)×List ag)=>()) (fun s j=>[(1,cL 0),(2,cL 1),(3,cL 2),(4,aG last),(5,aG s.1.1),(6,cL 4),(7,aG j)])
  (fun s=>[cm (bD f),A,cm [.slice (.own 3) (acc.map cn),aG f.next,aG f.ai],.tick 6 acc.length,.cells s.2]) (fun _=>r) (fun s hs=>?_) (fun pre x post s hh hz cu hw hz0 hm hs hi=>?_) ((0,Node.zero),yR) ⟨.inl ⟨rfl,rfl⟩,rfl⟩
 ·obtain⟨s,B⟩:=s;obtain⟨hs1,hs2⟩:=hs;rw[cT] at hs2;simp only at hs1 hs2;subst hs2;simp only[bD] at hk ⊢;simp only[Ut,bg,EW,seval];exact hk B _ hs1
 ·obtain⟨s,B⟩:=s;obtain⟨hs1,hs2⟩:=hs;simp only at hs1 hs2;have ht:((f.er.take (pre.length+1)).flatMap qy.ae).foldl (fX last) (0,Node.zero)=x.ae.foldl (fX last) s:=by rw[hs2,dC,hz,jG,jo]; simp
  have la:=fun {k r} hk=>WB (f:=f) (i:=pre.length) (x:=x) (last:=last) (A:=A) (k:=k) (r:=r) acc s B hs1 hz (hl x hm) hA hk
  simp only[bD] at hi la ⊢;simp only[Ut,cu,hA,mG cn 6 (fun _=>rfl) acc,EW,seval]
  refine la (fun B' z hB'=>?_)
  have i1:=hi (x.ae.foldl (fX last) s,B') ⟨hB',ht.symm⟩;rcases hB' with ⟨rfl,-⟩|rfl<;>simp only[yR,aV] at i1 ⊢ <;>
  simp only[Ut,hw,hA,mG cn 6 (fun _=>rfl) acc,EW,seval] <;>
  exact i1
def c23{f:wb}{ns:List Node}(hns:nM ns)(hp:(f.er.flatMap qy.ae).Perm ns)(hl:ns.length<=1000)(hn:f.er.length<=1000)(h1:∀n,n∈ns->1<=n.au):aq c9 23 [jc f] []=some (bK ⟨ns,f.next,f.ai⟩,[]):=by
 refine aJ ?_;have eY:(f.er.flatMap qy.ae).length<=1000:=by rw[hp.length_eq]; exact hl
 have hlx:∀x,x∈f.er->x.ae.length<=1000:=fun x hx=>bj (List.sublist_flatten_of_mem (bS.2 ⟨x,hx,rfl⟩)).length_le (by rw[List.flatMap] at eY; exact eY)
 have wn:∀l:List Node,wid (l.map cn) 6=True:=mG cn _ fun _=>rfl
 have key:∀(post pre:List Node)(last:Int),ns=pre++post->0<=last->(∀x,x∈pre->x.au<=last)->(∀x,x∈post->last<x.au) ->
   fS (aq c9) [.fG 2 3] 0 [.block 0] (.loop [1,2,3,4] acE) [(1,cL 0),(2,cL 1),(3,cL 2),(4,aG last)] [cm [bI f.pieces,jT f.er,aG f.next,aG f.ai],cm [.slice .c0 [],aG 0,aG 0],cm [.slice (.own 3) (pre.map cn),aG f.next,aG f.ai],.tick 6 pre.length]=some (bK ⟨ns,f.next,f.ai⟩,[]):=by
  intro post;induction post with
  |nil =>
   intro pre last he h0 hlo hhi;have hnx:=Mi hns hp he h0 hlo hhi Node.zero;have lb:=fun {k r} hk=>L8 (f:=f) (last:=last) (A := cm [.slice .c0 [],aG 0,aG 0]) (acc:=pre) (k:=k) (r:=r) hn hlx (fun _ _=>rfl) hk
   simp only at hnx;rw[hnx] at lb;rw[bW] at he;subst he;rw[bZ];simp only[bD,yR] at lb;simp only[Ut,EW,seval];refine lb (fun B z hB=>?_)
   simp only[Ut,wn,an,eu,EW,seval]
   trace_state
   rfl
  |cons x post ih =>
   intro pre last he h0 hlo hhi;have hnx:=Mi hns hp he h0 hlo hhi Node.zero;have lb:=fun {k r} hk=>L8 (f:=f) (last:=last) (A := cm [.slice .c0 [],aG 0,aG 0]) (acc:=pre) (k:=k) (r:=r) hn hlx (fun _ _=>rfl) hk
   simp only at hnx;rw[hnx] at lb;have hx1:=hhi x aD;have hx0:(x.au==0)=false:=by rw[bM]; omega
   have hpl:pre.length+1<=1000:=by rw[he] at hl; simp at hl; omega
   have r1:dQ (pre.length+1) 80=True:=xR;rw[he] at hns;obtain⟨_,a2,a3⟩:=dz.1 hns
   have i1:=ih (pre++[x]) x.au (by rw[he]; simp) (by omega) (fun y hy=>by
    rcases bT.1 hy with hy|hy
    ·exact Int.le_of_lt (a3 y hy x aD)
    ·rw[eS.1 hy]; exact fJ _) (fun y hy=>(bG.1 a2).1 y hy)
   rw[bZ];simp only[bD,yR] at lb;simp only[Ut,EW,seval];refine lb (fun B z hB=>?_)
   rcases hB with ⟨-,hB⟩|rfl
   ·simp only at hB; omega
   simp only[bC,aW,bp,aK,av,aH,aQ,cn,aV] at i1;simp only[aV];simp only[Ut,hx0,wn,r1,cn,aV,EW,seval]
   trace_state
   exact i1
 simp only[aaE,Ut,jc,bD,zt,AD,EW,seval];have k0:=key ns [] 0 rfl (fJ _) (by simp) (fun x hx=>by have:=h1 x hx; omega)
 simp only[bp,aH] at k0;exact k0
end
def FI.aaw{l:List Piece}{t:Tree}(h:FI l t):aq c9 23 [jc (bm l t)] []=some (bK t,[]):=by
 obtain⟨cg,hg⟩:=h.rt;have hn:=hg.ae;refine c23 (f:=bm l t) hg.jE.jx (tf hg h.prt h.may) (by omega) ?_ ?_
 ·have:(qu (fun n=>ko l t.ae n.au) t.ae).length<=8:=bj (fN _ _) (by simp)
  show(qu (fun n=>ko l t.ae n.au) t.ae).length<=1000
  omega
 ·intro n hm;exact(hg.num _ _ ((fy hg.jE.jx).2 ⟨hm,rfl⟩)).1
def FI.vF{l:List Piece}{t:Tree}(h:FI l t)(M:aL):aM (aq c9) 23 [.agg (bD (bm l t))] M=some (.agg [a8 t.ae,aG t.next,aG t.ai],M):=vv h.aaw rfl rfl rfl rfl rfl M
def Xb(n:Nat):decide ((0:Int)<(n:Int))=decide (0<n):=by simp
section
attribute [local irreducible] fS fp kH gK dv kr aq aM cv bJ
def alj(o:oW)(M:aL):aM (aq c9) 154 [.agg (dP o)] M=some (.bool (decide (1<=o.kind)&&decide (o.kind<=7)),M):=by
 refine cO (aJ ?_) M
 by_cases h:1<=o.kind/\o.kind<=7
 ·have h2:(decide (1<=o.kind)&&decide (o.kind<=7))=true:=by simp[h]
  rw[h2];rcases(show o.kind=1\/o.kind=2\/o.kind=3\/o.kind=4\/o.kind=5\/o.kind=6\/o.kind=7 by omega) with g|g|g|g|g|g|g <;>
  simp only[Qc,adZ,dP,g,EW,seval]<;>rfl
 ·have h2:(decide (1<=o.kind)&&decide (o.kind<=7))=false:=by
   rw[mf]; intro hh; simp at hh; exact h hh
  have g1:(o.kind==1)=false:=by rw[bM]; omega
  have g2:(o.kind==2)=false:=by rw[bM]; omega
  have g3:(o.kind==3)=false:=by rw[bM]; omega
  have g4:(o.kind==4)=false:=by rw[bM]; omega
  have g5:(o.kind==5)=false:=by rw[bM]; omega
  have g6:(o.kind==6)=false:=by rw[bM]; omega
  have g7:(o.kind==7)=false:=by rw[bM]; omega
  rw[h2];simp only[Qc,adZ,dP,g1,g2,g3,g4,g5,g6,g7,EW,seval]
def ag7(s:Bytes)(hs:s.length<=100000)(M:aL):aM (aq c9) 207 [.str s] M=some (.bool ((fC s).2.2==0),M):=by
 refine cO (aJ ?_) M;have q:=QB s hs;simp only[YI,aiT,q,EW,seval]
def alk{l:List Piece}{t:Tree}(hf:FI l t)(o:oW)(ho:BM o)(M:aL):aM (aq c9) 155 [.agg (bD (bm l t)),.agg [a8 t.ae,aG t.next,aG t.ai],.agg (dP o)] M=some (.bool (uf l t o),M):=by
 refine cO (aJ ?_) M;have ht:Rt t:=hf.rt;have hp:o.aU.length<=100000:=by have:=ho.aU; omega
 have hp2:o.rz.length<=100000:=by have:=ho.rz; omega
 have q1:=NT t o.aU ht.small hp;have q2:=ag7 o.aU hp;have q3:=ag7 o.rz hp2;obtain⟨r1,hr1,q4⟩:=ag8 hf.prt o.aU hp;obtain⟨r2,hr2,q5⟩:=ag8 hf.prt o.rz hp2;have hpc:(bm l t).pieces=l:=rfl;have hbp:kE l o.aU<=l.length:=ki;have hbt:kE l o.rz<=l.length:=ki;have hm:=hf.prt.many;unfold uf;rw[<-hr1,<-hr2];generalize bm l t=f at hpc ⊢;generalize eF t o.aU=v at q1 ⊢
 by_cases k4:o.kind=4
 ·rw[az k4];cases h1:v.2==0<;>cases h2:(fC o.aU).2.2==0<;>rw[h2] at q2 <;>
  simp only[LD,ZG,bD,dP,hpc,q1,q2,q4,k4,h1,h2,bne,Xb,bQ,cf,dL,EW,seval]
 rw[ak k4]
 by_cases k5:o.kind=5
 ·rw[az k5];have hw:IntKind.i64.wrap ((r1.length:Int)+(r2.length:Int))=((r1.length+r2.length:Nat):Int):=by rw[gD (by omega) (by omega)]; omega
  cases h1:v.2==0<;>cases h2:(fC o.aU).2.2==0<;>cases h3:(fC o.rz).2.2==0<;>rw[h2] at q2<;>rw[h3] at q3 <;>
  simp only[LD,ZG,bD,dP,hpc,q1,q2,q3,q4,q5,k5,h1,h2,h3,hw,bne,Xb,bQ,cf,dL,EW,seval]
 rw[ak k5];have g4:(o.kind==4)=false:=by rw[bM]; omega
 have g5:(o.kind==5)=false:=by rw[bM]; omega
 simp only[LD,ZG,bD,dP,q1,g4,g5,bne,EW,seval]
def EK{t:Tree}{cg:Int->Nat}{l:List Piece}(h:cq t cg 0)(hl:jV l):S3 l t=(kZ l t.ae).2:=by
 rw[eh,S4 h hl,uU h hl]
def c86{l:List Piece}{t:Tree}{o:oW}(hf:FI l t)(ho:BM o):aq c9 86 [jc (bm l t),.agg (dP o)] []=some (.tuple [.agg (bD (bm l (mW l t o).1)),.agg (eE (mW l t o).2)],[]):=by
 refine aJ ?_;have q0:=alj o
 by_cases hkk:(decide (1<=o.kind)&&decide (o.kind<=7))=true
 rotate_left
 ·have hkf:(decide (1<=o.kind)&&decide (o.kind<=7))=false:=by simpa using hkk
  have hkb:p7 o=false:=by unfold p7; rw[hkf]; rfl
  have hd:mW l t o=(t,lW 1):=by unfold mW; rw[az hkb]
  rw[hd];rw[hkf] at q0;generalize bm l t=f;simp only[dP] at q0;simp only[HD,ZU,jc,bD,dP,q0,eE,lW,EW,seval];rfl
 rw[hkk] at q0;cases c0:decide (0<=o.jz)
 ·have hkb:p7 o=false:=by unfold p7; rw[c0]; simp
  have hd:mW l t o=(t,lW 1):=by unfold mW; rw[az hkb]
  have c0':decide (o.jz<0)=true:=by simpa using c0
  rw[hd];generalize bm l t=f;simp only[dP] at q0;simp only[HD,ZU,jc,bD,dP,q0,c0',eE,lW,EW,seval];rfl
 cases c1:decide (o.jz<16)
 ·have hkb:p7 o=false:=by unfold p7; rw[c1]; simp
  have hd:mW l t o=(t,lW 1):=by unfold mW; rw[az hkb]
  have c0':decide (o.jz<0)=false:=by simpa using c0
  have c1':decide (16<=o.jz)=true:=by simpa using c1
  rw[hd];generalize bm l t=f;simp only[dP] at q0;simp only[HD,ZU,jc,bD,dP,q0,c0',c1',eE,lW,EW,seval];rfl
 have c0':decide (o.jz<0)=false:=by simpa using c0
 have c1':decide (16<=o.jz)=false:=by simpa using c1
 have hkb:p7 o=true:=by unfold p7; rw[hkk,c0,c1]; rfl
 have q1:=hf.vF;have q2:=alk hf o ho;cases hb:uf l t o<;>rw[hb] at q2
 rotate_left
 ·have hd:mW l t o=(t,lW 180):=by unfold mW; rw[ak (by simp[hkb]),az hb]
  rw[hd];generalize bm l t=f at *;simp only[dP,bD] at q0 q1 q2;simp only[HD,ZU,jc,bD,dP,q0,q1,q2,c0',c1',eE,lW,EW,seval];rfl
 have hkr:1<=o.kind/\o.kind<=7:=by simpa using hkk
 have q3:=fun M=>cO (hf.plain o ho hkr) M
 obtain⟨cg,hg⟩:=hf.rt;have hml:=A6 t o;cases he:(fa t o).2.2 != 0
 rotate_left
 ·have hd:mW l t o=(t,lW (fa t o).2.2):=by unfold mW; rw[ak (by simp[hkb]),ak (by simp[hb]),az he]
  have hpl:pB t o=(t,lW (fa t o).2.2):=by unfold pB; rw[az he]
  rw[hd];rw[hpl] at q3;generalize bm l t=f at *;simp only[ue,dP,bD,bK,bd,sk,eE,lW] at q0 q1 q2 q3;simp only[HD,ZU,jc,bD,dP,q0,q1,q2,q3,c0',c1',he,eE,lW,EW,seval];rfl
 have hpl:pB t o=(fj (fa t o).1,(fa t o).2.1):=by unfold pB; rw[ak (by simp[he])]
 obtain⟨dep',h1⟩:=zJ hg o;have h2:cq (fj (fa t o).1) dep' 0:=pD (fa t o).1.ae _ h1;rw[hpl] at q3;have hpc:(bm l t).pieces=l:=rfl;have hdo:=hf.do o
 have hae:((fa t o).2.1.err != 0)=false:=by rw[hml.1]; rfl
 have q4:=k81 h2 hf.prt;rw[EK h2 hf.prt] at q4;cases hm:(kZ l (fj (fa t o).1).ae).2<;>rw[hm] at q4
 ·have hd:mW l t o=(t,lW 91):=by unfold mW; rw[ak (by simp[hkb]),ak (by simp[hb]),ak (by simp[he]),az hm]
  rw[hd];generalize bm l t=f at *;generalize fj (fa t o).1=u at *;generalize (fa t o).2.1=a at *;simp only[ue,dP,bD,bK,bd,sk,eE,hpc] at q0 q1 q2 q3 q4;simp only[HD,ZU,jc,bD,dP,q0,q1,q2,q3,q4,c0',c1',hae,hpc,eE,lW,EW,seval];rfl
 ·have hd:mW l t o=(fj (fa t o).1,(fa t o).2.1):=by unfold mW; rw[ak (by simp[hkb]),ak (by simp[hb]),ak (by simp[he]),ak (by simp[hm])]
  rw[hd] at hdo ⊢;have q5:=hdo.zf;generalize bm l t=f at *;simp only at q5 ⊢;generalize fj (fa t o).1=u at *;generalize (fa t o).2.1=a at *;generalize bm l u=F at *;simp only[ue,dP,bD,bK,bd,sk,eE,hpc] at q0 q1 q2 q3 q4 q5;simp only[HD,ZU,jc,bD,dP,q0,q1,q2,q3,q4,q5,c0',c1',hae,hpc,eE,EW,seval]
def c83{l:List Piece}{t:Tree}(hf:FI l t)(s:Bytes)(hs:s.length<=100000)(g:Int):aq c9 83 [jc (bm l t),.str s,aG g] []=some (.tuple [.agg (bD (bm (sG l t s g).1 t)),aG (sG l t s g).2],[]):=by
 refine aJ ?_;have hR:Rt t:=hf.rt;have hn:=hR.sz.ae;obtain⟨cg,hg⟩:=hf.rt;have q1:=hf.vF;have q2:=NT t s hR.small hs;have q4:=fun M=>cO (ajV hf.prt s hs g) M
 have hpc:(bm l t).pieces=l:=rfl;have hcut:=hf.cut s g;have hpr:=BO (s:=s) (to:=g) hf.prt;unfold sG at hcut ⊢;have q3:∀M,aM (aq c9) 26 [.agg [a8 t.ae,aG t.next,aG t.ai],aG (eF t s).1] M=some (.tuple [cn (bE t.ae (eF t s).1),.bool (find t.ae (eF t s).1).isSome],M):=Gc t.ae t.next t.ai (eF t s).1 (by omega)
 generalize eF t s=v at q2 q3 hcut ⊢;cases h1:v.2 != 0
 rotate_left
 ·simp only[aE];generalize bm l t=f at *;simp only[bD] at q1;simp only[Ny,E83,jc,bD,q1,q2,h1,EW,seval]
  all_goals rfl
 generalize bE t.ae v.1=n at q3 hcut ⊢;simp only[cn,aV] at q3;cases h2:n.kind != 2
 rotate_left
 ·simp only[aE,af,aw];generalize bm l t=f at *;simp only[bD] at q1;simp only[Ny,E83,jc,bD,q1,q2,q3,h1,h2,EW,seval]
  all_goals rfl
 have q5:=k81 hg hpr;rw[EK hg hpr] at q5;cases h3:(uO l s g).2 != 0
 rotate_left
 ·simp only[aE,af,aw];generalize uO l s g=c at *;generalize bm l t=f at *;simp only[bD,hpc] at q1;simp only[Ny,E83,jc,bD,hpc,q1,q2,q3,q4,h1,h2,h3,EW,seval]
  all_goals rfl
 cases h4:(kZ (uO l s g).1 t.ae).2<;>rw[h4] at q5
 ·simp only[aE,af,aw];generalize uO l s g=c at *;generalize bm l t=f at *;simp only[bD,hpc] at q1;simp only[Ny,E83,jc,bD,hpc,q1,q2,q3,q4,q5,h1,h2,h3,EW,seval]
  all_goals rfl
 ·simp only[h1,h2,h3,h4,aE,af,aw,Bool.true_eq_false] at hcut ⊢;have q6:=hcut.zf;generalize uO l s g=c at *;generalize bm c.1 t=F at *;generalize bm l t=f at *;simp only[bD,hpc] at q1;simp only[bD] at q6;simp only[Ny,E83,jc,bD,hpc,q1,q2,q3,q4,q5,q6,h1,h2,h3,EW,seval]
  all_goals rfl
def c84{l:List Piece}{t:Tree}(hf:FI l t)(s:Bytes)(hs:s.length<=100000):aq c9 84 [jc (bm l t),.str s] []=some (.tuple [.agg (bD (bm (lR l s).1 t)),aG (lR l s).2],[]):=by
 refine aJ ?_;have q1:=hf.vF;have q4:=fun M=>cO (ajW hf.prt s hs) M
 have hpc:(bm l t).pieces=l:=rfl;have q6:=(hf.join s).zf;have hje:=CW (l:=l) (s:=s);generalize lR l s=c at *;cases h3:c.2 != 0
 ·have h3':c.2=0:=by simpa using h3
  rw[h3'];generalize bm c.1 t=F at *;generalize bm l t=f at *;simp only[bD,hpc] at q1;simp only[bD] at q6;simp only[aaR,E84,jc,bD,hpc,q1,q4,q6,h3,EW,seval]
  all_goals rfl
 ·rw[hje (by simpa using h3)]
  generalize bm l t=f at *;simp only[bD] at q1;simp only[aaR,E84,jc,bD,hpc,q1,q4,h3,EW,seval]
  all_goals rfl
def c85{l:List Piece}{t:Tree}(hf:FI l t)(s:Bytes)(hs:s.length<=100000)(g:Int):aq c9 85 [jc (bm l t),.str s,aG g] []=some (.tuple [.agg (bD (bm (mY l s g).1 t)),aG (mY l s g).2],[]):=by
 refine aJ ?_;have q1:=hf.vF;have q4:=fun M=>cO (ajX hf.prt s hs g) M
 have hpc:(bm l t).pieces=l:=rfl;have q6:=(hf.move s g).zf;have hje:=Db (l:=l) (s:=s) (g:=g);generalize mY l s g=c at *;cases h3:c.2 != 0
 ·have h3':c.2=0:=by simpa using h3
  generalize bm c.1 t=F at *;generalize bm l t=f at *;simp only[bD,hpc] at q1;simp only[bD] at q6;simp only[aaS,E85,jc,bD,hpc,q1,q4,q6,h3',an,EW,seval]
 ·rw[hje (by simpa using h3)]
  generalize bm l t=f at *;simp only[aaS,E85,jc,bD,hpc,q4,h3,EW,seval]
def c33{g:Int}(hg:mB g=true):aq c9 33 [aG g] []=some (jc (bm (py g) oU),[]):=by
 refine aJ ?_;have q:=(FI.new hg).zf;have q1:=k41;have q2:=k29 g;generalize bm (py g) oU=F at *;simp only[bK,bd,bD] at q q1;simp only[agd,E33,jc,bD,q,q1,q2,EW,seval]
def k61{l:List Piece}(hn:l.length<=1000)(M:aL):aM (aq c9) 61 [bI l,bI l] M=some (.bool true,M):=by
 refine cO (aJ ?_) M;simp only[agu,E61,an,EW,seval];refine pq (xs:=l) (by omega) (fun _ (_:Unit)=>()) (fun _ i=>[(0,bI l),(1,bI l),(5,aG i)]) (fun _=>[]) (fun _=>some (ag.bool true,([]:aL))) (fun _=>?_) (fun pre x post _ hh hx cu hw h0 hm hi=>?_) ()
 ·simp only[E61,bg,EW,seval]
 ·have i1:=hi ();simp only[E61,cu,hx,hw,h0,dU,gx,cR,kO,il,eu,pE,eX,cX,EW,seval];exact i1
def FI.abc{l:List Piece}{t:Tree}(h:FI l t)(M:aL):aM (aq c9) 18 [.agg (bD (bm l t)),.agg (bD (bm l t))] M=some (.bool true,M):=by
 refine cO (aJ ?_) M;have hm:=h.prt.many;have q1:=k61 (l:=(bm l t).pieces) (show l.length<=1000 by omega)
 have hsm:=h.small;have hll:=h.er;generalize bm l t=f at q1 hsm hll ⊢;simp only[af5,E18,bD,q1,an,EW,seval];refine pq (xs:=f.er) (by omega) (fun _ (_:Unit)=>()) (fun _ i=>[(2,cL 0),(3,cL 1),(5,aG i)]) (fun _=>[cm [bI f.pieces,jT f.er,aG f.next,aG f.ai],cm [bI f.pieces,jT f.er,aG f.next,aG f.ai]]) (fun _=>some (ag.bool true,([]:aL))) (fun _=>?_) (fun pre x post _ hh hx cu hw h0 hm hi=>?_) ()
 ·simp only[E18,bg,EW,seval]
 ·have i1:=hi ();have hs:=hsm x hm;have q:=k22 x.ae x.ae hs.ae hs.aN;simp only[nA] at q;simp only[E18,cu,hx,hw,h0,q,jK,ow,mu,an,EW,seval];exact i1
def c37{x:List Piece×Tree}(hf:FI x.1 x.2){s:kf}(ho:BM s.op)(hs:s.aU.length<=1000):aq c9 37 [.agg (bD (c8 x)),.agg (eH s)] []=some (.tuple [.agg (bD (c8 (stepT x s).1)),.agg (eE (stepT x s).2)],[]):=by
 refine aJ ?_;obtain⟨l,t⟩:=x;simp only[c8] at hf ⊢;have q1:=fun M=>cO (c83 hf s.aU (by omega) s.group) M
 have q2:=fun M=>cO (c84 hf s.aU (by omega)) M
 have q3:=fun M=>cO (c85 hf s.aU (by omega) s.group) M
 have q4:=fun M=>cO (c86 hf ho) M
 unfold stepT;have hk:s.kind.toNat % 5<5:=iI _ (by omega)
 have hr:((s.kind.toNat:Nat):Int).tmod 5=((s.kind.toNat % 5:Nat):Int):=rfl;generalize s.kind.toNat % 5=k at hk hr ⊢;simp only;generalize bm l t=f at *;simp only[jc,bD,dP] at q1 q2 q3 q4;rcases(show k=0\/k=1\/k=2\/k=3\/k=4 by omega) with rfl|rfl|rfl|rfl|rfl
 ·generalize mW l t s.op=c at *;generalize bm l c.1=F at *;simp only[eE] at q4;simp only[Nw,E37,jc,bD,eH,dP,eE,mL,aX,aY,hr,q4,si,EW,seval]
  all_goals rfl
 ·generalize sG l t s.aU s.group=c at *;generalize bm c.1 t=F at *;simp only[Nw,E37,jc,bD,eH,dP,eE,mL,aX,aY,hr,q1,si,EW,seval]
  all_goals rfl
 ·generalize sG l t s.aU s.group=c at *;generalize bm c.1 t=F at *;simp only[Nw,E37,jc,bD,eH,dP,eE,mL,aX,aY,hr,q1,si,EW,seval]
  all_goals rfl
 ·generalize lR l s.aU=c at *;generalize bm c.1 t=F at *;simp only[Nw,E37,jc,bD,eH,dP,eE,mL,aX,aY,hr,q2,si,EW,seval]
  all_goals rfl
 ·generalize mY l s.aU s.group=c at *;generalize bm c.1 t=F at *;simp only[Nw,E37,jc,bD,eH,dP,eE,mL,aX,aY,hr,q3,si,EW,seval]
  all_goals rfl
def FI.stepT{x:List Piece×Tree}(h:FI x.1 x.2)(s:kf):FI (stepT x s).1.1 (stepT x s).1.2:=h.step s
def pY(n:UInt8):Int:=((n.toNat % 8:Nat):Int)
def rf(n:UInt8):mB (pY n)=true:=by
 have:=iI n.toNat (show 8>0 by omega)
 unfold mB pY;generalize n.toNat % 8=k at this;have h1:(0:Int)<=(k:Int):=fD k;have h2:(k:Int)<8:=by omega
 simp[h2]
def c14(n:UInt8){xs:List kf}(hn:xs.length<=40)(ho:∀s,s∈xs->BM s.op/\s.aU.length<=1000):aq c9 14 [mL n,oS xs] []=some (.agg (bD (c8 (uq (pY n) xs))),[]):=by
 refine aJ ?_;have hr:IntKind.i64.wrap ((n.toNat:Nat):Int)=((n.toNat:Nat):Int):=gD (by have:=n.toNat_lt; omega) (by have:=n.toNat_lt; omega)
 have hr2:((n.toNat:Nat):Int).tmod 8=pY n:=rfl;have q0:=fun M=>cO (c33 (rf n)) M
 have hx0:bm (py (pY n)) oU=c8 (py (pY n),oU):=rfl;rw[hx0] at q0;simp only[jc] at q0;simp only[af4,E14,mL,hr,hr2,q0,jc,bD,si,EW,seval]
 refine cZ (gG (xs:=xs) (by omega) (fun j (x:List Piece×Tree)=>FI x.1 x.2/\x=(xs.take j).foldl (fun x s=>(stepT x s).1) (py (pY n),oU)) (fun _ (_:List Piece×Tree)=>()) (fun _ i=>[(1,oS xs),(4,cL 0),(5,cL 1),(6,aG i)])
  (fun x=>[cm [.slice .c0 [],.slice .c0 [],aG 0,aG 0],cm [bI (c8 x).pieces,jT (c8 x).er,aG (c8 x).next,aG (c8 x).ai]])
  (fun _=>some (.agg (bD (c8 (uq (pY n) xs))),[])) (fun x hx=>?_) (fun pre s post x hh hz cu hw h0 hm hx hi=>?_) (py (pY n),oU) ⟨FI.new (rf n),rfl⟩) rfl
 ·obtain⟨-,hx⟩:=hx;rw[cT] at hx;have hs:x=uq (pY n) xs:=hx;subst hs;generalize c8 (uq (pY n) xs)=F;simp only[E14,bg,bD,EW,seval]
  all_goals rfl
 ·obtain⟨hx1,hx2⟩:=hx;have hT:(xs.take (pre.length+1)).foldl (fun x s=>(stepT x s).1) (py (pY n),oU)=(stepT x s).1:=by rw[dC,hz,jo,<-hx2]; rfl
  have q:=fun M=>cO (c37 hx1 (ho s hm).1 (ho s hm).2) M
  have i1:=hi _ ⟨hx1.stepT s,hT.symm⟩;generalize stepT x s=y at *;generalize c8 y.1=F at *;generalize c8 x=f at *;have hid:(List.flatMap ag.mQ (eH s)=[])=True:=eq_true rfl;simp only[bD,eE] at q;simp only[E14,cu,hz,hw,h0,q,hid,si,EW,seval];exact i1
def c36{x:List Piece×Tree}(hf:FI x.1 x.2){s:kf}(ho:BM s.op)(hs:s.aU.length<=1000):aq iR 36 [.agg (bD (c8 x)),.agg (eH s)] []=some (.tuple [.agg (bD (c8 (stepT x s).1)),.agg (eE (stepT x s).2)],[]):=by
 refine aJ ?_;obtain⟨l,t⟩:=x;simp only[c8] at hf ⊢;have q1:=fun M=>cO (c42 hf s.aU (by omega) s.group) M
 have q2:=fun M=>cO (c43 hf s.aU (by omega)) M
 have q3:=fun M=>cO (c82 hf s.aU (by omega) s.group) M
 have q4:=fun M=>cO (c15 hf ho) M
 unfold stepT;have hk:s.kind.toNat % 5<5:=iI _ (by omega)
 have hr:((s.kind.toNat:Nat):Int).tmod 5=((s.kind.toNat % 5:Nat):Int):=rfl;generalize s.kind.toNat % 5=k at hk hr ⊢;simp only;generalize bm l t=f at *;simp only[jc,bD,dP] at q1 q2 q3 q4;rcases(show k=0\/k=1\/k=2\/k=3\/k=4 by omega) with rfl|rfl|rfl|rfl|rfl
 ·generalize mW l t s.op=c at *;generalize bm l c.1=F at *;simp only[eE] at q4;simp only[DN,UL,jc,bD,eH,dP,eE,mL,aX,aY,hr,q4,si,EW,seval]
  all_goals rfl
 ·generalize sG l t s.aU s.group=c at *;generalize bm c.1 t=F at *;simp only[DN,UL,jc,bD,eH,dP,eE,mL,aX,aY,hr,q1,si,EW,seval]
  all_goals rfl
 ·generalize sG l t s.aU s.group=c at *;generalize bm c.1 t=F at *;simp only[DN,UL,jc,bD,eH,dP,eE,mL,aX,aY,hr,q1,si,EW,seval]
  all_goals rfl
 ·generalize lR l s.aU=c at *;generalize bm c.1 t=F at *;simp only[DN,UL,jc,bD,eH,dP,eE,mL,aX,aY,hr,q2,si,EW,seval]
  all_goals rfl
 ·generalize mY l s.aU s.group=c at *;generalize bm c.1 t=F at *;simp only[DN,UL,jc,bD,eH,dP,eE,mL,aX,aY,hr,q3,si,EW,seval]
  all_goals rfl
end
def Mb{α:Type}(k:α->Int)(g:Int):∀(l:List α)(m:AM Bool),(dw (l.foldl (fun m i=>kq m (k i) true) m) g).getD false=((dw m g).getD false||l.any fun i=>k i==g)
 | [],m=>by simp
 |x::r,m=>by
  rw[bB,Mb k g r,ga,List.any_cons]
  by_cases h:g=k x
  ·subst h; simp
  ·rw[ak h,show(k x==g)=false by simpa using fun e=>h e.symm,dg]
def CP(l:List Piece)(s:Bytes):Int:=(mJ l (dj l s)).group
def Ce(l:List Piece)(s:Bytes)(m:AM Bool):AM Bool:=(List.range ((bz s).1.length+1)).foldl (fun m i=>kq m (CP l (px ((bz s).1.take i))) true) m
def MU(l:List Piece)(s:Bytes)(g:Int):(dw (Ce l s []) g).getD false=wv l s g:=by
 unfold Ce wv;rw[Mb];simp[dw,CP]
def xW(l:List Piece)(s:Bytes):List Int:=(List.range 8).filterMap fun(g:Nat)=>if wv l s g then some (g:Int) else none
def Iv{l:List Piece}{s:Bytes}{g:Int}(h0:0<=g)(h8:g<8):g∈xW l s↔wv l s g=true:=by
 unfold xW;rw[jZ];constructor
 ·rintro⟨k,_,h⟩;split at h
  ·rename_i hk; cases h; exact hk
  ·cases h
 ·intro h;have:((g.toNat:Nat):Int)=g:=by omega
  refine⟨g.toNat,fA.2 (by omega),?_⟩
  rw[this,az h]
def MV{l:List Piece}(hl:jV l)(s:Bytes):0<(xW l s).length:=by
 have h0:wv l s (CP l (px []))=true:=by
  unfold wv;rw[List.any_eq_true];exact⟨0,fA.2 (by omega),by simp[CP]⟩
 have cu:=hl.r8 (s:=px []) rfl;have hg:=(hl.ok _ (qh cu)).2;exact List.length_pos_of_mem ((Iv hg.1 hg.2.1).2 h0)
def Ha(f:wb)(m:AM Bool):aL:=[.cells (bD f),.cells [.gH 2],.map (wE m) (qT ag.bool m)]
def flB(l:AM Bool):(qT ag.bool l).all ag.flat=true:=P5 _ (fun _=>rfl) l
def rnB(ρ:Nat->Nat)(l:AM Bool):(qT ag.bool l).map (ag.ry ρ)=qT ag.bool l:=Zy _ _ (fun _=>rfl) l
def bkB(B:Nat)(M:aL)(l:AM Bool):List.map (ag.jR B M) (qT ag.bool l)=qT ag.bool l:=aas _ _ _ (fun _=>rfl) l
def W8(f:wb)(m:AM Bool)(b1:cD):kh [cm (bD f),b1,.map (wE m) (qT ag.bool m),cm [.gH 2]] (iH [0,3,2]) [0,3,2]=some (Ha f m):=by
 simp only[kh,nth,cD.flat,flB,cd,aE,cD.ry,rnB];rfl
def akW(l:AM Bool):(qT ag.bool l).flatMap ag.ids=[]:=Y7 _ (fun _=>rfl) l
def U5{C:eO}{f:wb}{m m':AM Bool}{s:Bytes}(b1:cD)(h:C 62 [.str s,cL 0,cL 1] (Ha f m)=some (.tuple [],Ha f m')) :
  aM C 62 [.str s,cL 0,cL 3] [cm (bD f),b1,.map (wE m) (qT ag.bool m),cm [.gH 2]]=some (.tuple [],[cm (bD f),b1,.map (wE m') (qT ag.bool m'),cm [.gH 2]]):=by
 have i1:sQ [cm (bD f),b1,.map (wE m) (qT ag.bool m),cm [.gH 2]] [0,3]=[2]:=rfl
 have i2:sQ [cm (bD f),b1,.map (wE m) (qT ag.bool m),cm [.gH 2]] [0,3,2]=[2]:=by
  show[2]++((qT ag.bool m).flatMap ag.ids++[])=_
  rw[akW]; rfl
 have e0:lV [] [0,3]=[0,3]:=rfl;have e1:lV [0,3] [2]=[0,3,2]:=rfl;have e2:lV [0,3,2] [2]=[0,3,2]:=rfl
 have hr:reach [cm (bD f),b1,.map (wE m) (qT ag.bool m),cm [.gH 2]] [0,3]=[0,3,2]/\lX [cm (bD f),b1,.map (wE m) (qT ag.bool m),cm [.gH 2]] [0,3,2]=[0,3,2]:=by
  simp only[reach,lX,e0,i1,e1,i2,e2,kD]
 refine lP (ids:=[0,3,2]) rfl hr.1 (W8 f m b1) hr.2 rfl h rfl rfl ?_ rfl ?_
 ·simp only[Ha,j9,cD.flat,flB]; rfl
 ·simp only[Ha,mF,cD.ry,rnB,j6];rfl
section
attribute [local irreducible] fS fp kH gK dv kr aq aM cv bJ
def c62{f:wb}(hl:jV f.pieces)(s:Bytes)(hs:s.length<=100000)(m:AM Bool):aq fR 62 [.str s,cL 0,cL 1] (Ha f m)=some (.tuple [],Ha f (Ce f.pieces s m)):=by
 refine aJ ?_;have q1:=k63 s hs;obtain⟨hn1,hn2⟩:=lB s;unfold Ce;generalize bz s=v at q1 hn1 hn2 ⊢;obtain⟨ns,e⟩:=v;simp only at q1 hn1 hn2 ⊢;have g1:IntKind.i64.wrap ((ns.length:Int)+1)=((ns.length+1:Nat):Int):=by rw[gD (by omega) (by omega)]; omega
 simp only[agv,E62,Ha,bD,q1,g1,aI,EW,seval];have hr:(List.range (ns.length+1)).length=ns.length+1:=by simp
 refine pq (xs:=List.range (ns.length+1)) (by omega) (fun(post:List Nat) m=>post.foldl (fun m i=>kq m (CP f.pieces (px (ns.take i))) true) m) (fun _ i=>[(1,cL 0),(2,cL 1),(4,fO ns),(16,aG ((ns.length+1:Nat):Int)),(17,aG i)])
  (fun m=>[cm [bI f.pieces,jT f.er,aG f.next,aG f.ai],cm [.gH 2],.map (wE m) (qT ag.bool m)]) (fun m=>some (.tuple [],[cm [bI f.pieces,jT f.er,aG f.next,aG f.ai],cm [.gH 2],.map (wE m) (qT ag.bool m)])) (fun m=>?_) (fun pre x post m hh hx cu hw h0 hmm hi=>?_) m
 ·rw[hr];simp only[E62,bg,bkB,gS,EW,seval]
 ·rw[hr] at cu;have hpre:pre.length<ns.length+1:=by have:=congrArg List.length hh; simp at this; omega
  have hxe:x=pre.length:=by rw[fM hpre] at hx; injection hx with hx; exact hx.symm
  subst hxe;have hle:((pre.length:Int)<=(ns.length:Int))=True:=AE;have hz:((0:Int)<=((pre.length:Nat):Int))=True:=by simp
  have q2:=fun M=>lS (k65 (ns.take pre.length) (fun x hx=>hn1 x (dn hx)) (by simp; omega) M)
  have hsp:(bz (px (ns.take pre.length))).2=0:=by rw[rh,ke (fun x hx=>hn1 x (dn hx)) (by simp; omega)]
  have q3:=k64 hl (px (ns.take pre.length)) (by have:=uY (ns.take pre.length) (fun x hx=>hn1 x (dn hx)) (by simp; omega); omega)
  unfold GJ at q3;rw[az hsp] at q3;have hy:=qV (hl.r8 hsp);have i1:=hi (kq m (CP f.pieces (px (ns.take pre.length))) true);have g0:(((dj f.pieces (px (ns.take pre.length)):Nat):Int)<0)=False:=by simp
  have hgr:CP f.pieces (px (ns.take pre.length))=(mJ f.pieces (dj f.pieces (px (ns.take pre.length)))).group:=rfl;rw[bB];rw[hgr] at i1 ⊢;generalize dj f.pieces (px (ns.take pre.length))=c at *;simp only[fO,ka] at q2;simp only[E62,cu,hw,h0,hle,hz,q2,q3,hy,g0,mapOf.eq_1,tU,bkB,aI,bh,dU,gx,cR,EW,seval];exact i1
def FI.asks{l:List Piece}{t:Tree}(h:FI l t){o:oW}(ho:BM o)(hk:o.kind≠3/\o.kind≠5)(M:aL):aM (aq fR) 21 [.agg (bD (bm l t)),.agg (dP o)] M=some (lQ (xW l o.aU),M):=by
 refine cO (aJ ?_) M;have hp:(bm l t).pieces=l:=rfl;have q:=fun b1=>U5 b1 (c62 (f:=bm l t) h.prt o.aU (by have:=ho.aU; omega) [])
 have hA:=fun g=>MU l o.aU g
 rw[hp] at q;unfold xW;generalize Ce l o.aU []=m at q hA;generalize bm l t=f at q ⊢;have k3:(o.kind==3)=false:=by simpa using hk.1
 have k5:(o.kind==5)=false:=by simpa using hk.2
 have e0:wE ([]:AM Bool)=[]:=rfl;have e1:qT ag.bool []=[]:=rfl;simp only[bD,e0,e1] at q;simp only[aaC,E21,bD,dP,q,k3,k5,zt,AD,EW,seval];have hrows:∀i:Nat,((List.range i).filterMap fun(g:Nat)=>if wv l o.aU g then some (g:Int) else none).length<=i:=fun i=>bj (fN _ _) (by simp)
 refine cZ (gG (xs:=List.range 8) (by simp) (fun i (out:List Int)=>out=(List.range i).filterMap fun(g:Nat)=>if wv l o.aU g then some (g:Int) else none) (fun _ (_:List Int)=>()) (fun out i=>[(5,cL 3),(7,.slice (.own 4) (out.map mr)),(27,aG i)])
  (fun out=>[cm [bI f.pieces,jT f.er,aG f.next,aG f.ai],cm (dP o),.map (wE m) (qT ag.bool m),cm [.gH 2],.tick 1 out.length])
  (fun _=>some (lQ ((List.range 8).filterMap fun(g:Nat)=>if wv l o.aU g then some (g:Int) else none),[])) (fun out hout=>?_) (fun pre x post out hh hx cu hw h0 hmm hout hi=>?_) [] rfl) rfl
 ·rw[ky] at hout;have e8:(((List.range 8).length:Nat):Int)=8:=rfl;simp only[E21,e8,bg,hout,EW,seval]
  trace_state
 ·have hpre:pre.length<8:=by have:=congrArg List.length hh; simp at this; omega
  have hxe:x=pre.length:=by rw[fM hpre] at hx; injection hx with hx; exact hx.symm
  subst hxe;have hl8:((pre.length:Int)<8)=True:=by simp; omega
  have eY:=hrows pre.length;rw[<-hout] at eY;have r1:dQ (out.length+1) 8=True:=xR;have i1:=hi _ rfl;rw[om,kj,<-hout] at i1;simp only[lj,jY] at i1;have hAg:=hA (pre.length:Int);cases hb:wv l o.aU (pre.length:Int)<;>rw[hb] at hAg i1
  ·simp only[af,aw,bW] at i1;simp only[E21,hl8,hw,hAg,mapOf.eq_1,mD,Ii,bkB,EW,seval];exact i1
  ·simp only[aE,bC,aW,bp,aK,av,aH,aQ] at i1;simp only[E21,hl8,hw,hAg,r1,zE,mapOf.eq_1,mD,Ii,bkB,EW,seval]
   trace_state
   exact i1
end
def wi(k:Int)(p q:Bytes)(n:Int):oW:=⟨k,0,p,q,n,0,0,[]⟩
def ze(x:List Piece×Tree)(o:oW):(List Piece×Tree)×OV:=((x.1,(mW x.1 x.2 o).1),(mW x.1 x.2 o).2)
def hA:=ze (py 1,oU) (wi 2 [47,97] [] 2)
def hB:=ze hA.1 (wi 2 [47,98] [] 2)
def hC:(List Piece×Tree)×Int:=(((sG hB.1.1 hB.1.2 [47,97] 5).1,hB.1.2),(sG hB.1.1 hB.1.2 [47,97] 5).2)
def hD:=ze hC.1 (wi 2 [47,97,47,102] [] 1)
def hE:=ze hD.1 (wi 3 [47,97,47,102] [47,103] 0)
def hG:=ze hD.1 (wi 5 [47,97] [47,99] 0)
def hH:=ze hD.1 (wi 5 [47,97,47,102] [47,98,47,102] 0)
def hI:(List Piece×Tree)×Int:=(((sG hD.1.1 hD.1.2 [47,97,47,102] 2).1,hD.1.2),(sG hD.1.1 hD.1.2 [47,97,47,102] 2).2)
def hJ:(List Piece×Tree)×Int:=(((lR hD.1.1 [47,97]).1,hD.1.2),(lR hD.1.1 [47,97]).2)
def facts:hA.2.au=2/\hB.2.au=3/\hC.2=0/\hD.2.au=4/\hE.2.err=91/\hG.2.err=180/\hH.2.au=4/\hI.2=73/\hJ.2=0:=by
 refine⟨?_,?_,?_,?_,?_,?_,?_,?_,?_⟩<;>kernel_rfl
def aay:(c8 hD.1).er.length=2/\(c8 hH.1).er.length=2/\(c8 hJ.1).er.length=1/\(c8 hD.1).er.map qy.group=[1,5]/\(c8 hD.1).er.map (fun x=>x.ae.length)=[2,2]/\(c8 hH.1).er.map (fun x=>x.ae.length)=[3,1]/\xW hD.1.1 [47,97,47,102]=[1,5]/\hD.1.1.length=2/\hJ.1.1.length=1:=by
 refine⟨?_,?_,?_,?_,?_,?_,?_,?_,?_⟩<;>kernel_rfl
section
attribute [local irreducible] fS fp kH gK dv kr aq aM cv bJ
def c19(a:OV)(hn:a.names.length<=100000)(hd:a.data.length<=100000):aq c9 19 [.agg (eE a),.agg (eE a)] []=some (.bool true,[]):=by
 refine aJ ?_;simp only[af6,E19,eE,an,yZ,EW,seval];refine pq (xs:=a.names) (by omega) (fun _ (_:Unit)=>()) (fun _ i=>[(2,cL 0),(3,cL 1),(5,aG i)]) (fun _=>[cm (eE a),cm (eE a)]) (fun _=>some (ag.bool true,([]:aL))) (fun _=>?_) (fun pre x post _ e hx cu hw h0 hm hi=>?_) ()
 ·simp only[eE];simp only[E19,bg,EW,seval]
 ·have i1:=hi ();simp only[eE] at i1 ⊢;simp only[E19,cu,hx,hw,h0,an,EW,seval];exact i1
def k38{l:List Int}(hn:l.length<=1000)(M:aL):aM (aq c9) 38 [lQ l,lQ l] M=some (.bool true,M):=by
 refine cO (aJ ?_) M;simp only[agf,E38,an,EW,seval];refine pq (xs:=l) (by omega) (fun _ (_:Unit)=>()) (fun _ i=>[(0,lQ l),(1,lQ l),(5,aG i)]) (fun _=>[]) (fun _=>some (ag.bool true,([]:aL))) (fun _=>?_) (fun pre x post _ hh hx cu hw h0 hm hi=>?_) ()
 ·simp only[E38,bg,EW,seval]
 ·have i1:=hi ();simp only[E38,cu,hx,hw,h0,pn,mr,an,EW,seval];exact i1
def KX(f g:wb)(hl:f.pieces.length≠g.pieces.length)(M:aL):aM (aq c9) 30 [.agg (bD f),.agg (bD g)] M=some (.bool false,M):=by
 refine cO (aJ ?_) M
 have q:∀M,aM (aq c9) 72 [bI f.pieces,bI g.pieces] M=some (.bool false,M):=by
  intro M;refine cO (aJ ?_) M;have hb:((f.pieces.length:Int) != (g.pieces.length:Int))=true:=by simp; omega
  simp only[aaP,E72,hb,EW,seval]
 cases h1:f.next==g.next<;>cases h2:f.ai==g.ai<;>simp only[aaH,E30,bD,h1,h2,q,EW,seval]
def Xe(M:aL):aM (aq fR) 31 [.agg [kJ [],kJ [],aG 0,aG 0]] M=some (.bool false,M):=by
 refine cO (aJ ?_) M
 have q:∀M,aM (aq fR) 74 [kJ []] M=some (.bool false,M):=by
  intro M;refine cO (aJ ?_) M;simp only[Vt,E74,EW,seval]
 simp only[aaI,E31,q,EW,seval]
end
def wY(k:Int)(p q:Bytes)(n:Int)(hp:p.length<=1000)(hq:q.length<=1000):BM (wi k p q n):=⟨by simp[wi]; omega,by simp[wi]; omega,by simp[wi]⟩
def FI.ze{x:List Piece×Tree}(h:FI x.1 x.2)(o:oW):FI (ze x o).1.1 (ze x o).1.2:=h.do o
section
attribute [local irreducible] fS fp kH gK dv kr aq aM cv bJ
def VM{x:List Piece×Tree}(hf:FI x.1 x.2){o:oW}(ho:BM o)(M:aL):aM (aq iR) 15 [.agg (bD (c8 x)),.agg (dP o)] M=some (.tuple [.agg (bD (c8 (ze x o).1)),.agg (eE (ze x o).2)],M):=cO (c15 hf ho) M
def FI.sW{x:List Piece×Tree}(h:FI x.1 x.2)(M:aL):aM (aq iR) 17 [.agg (bD (c8 x))] M=some (.agg [a8 x.2.ae,aG x.2.next,aG x.2.ai],M):=lG (h.CZ M)
def QF{t:Tree}(ht:Rt t)(M:aL):aM (aq iR) 20 [.agg [a8 t.ae,aG t.next,aG t.ai],.agg [a8 t.ae,aG t.next,aG t.ai]] M=some (.bool true,M):=by
 have:=k20 t t ht.small.ae ht.small.aN M;rw[oQ rfl] at this;exact lG this
def FI.BS{x:List Piece×Tree}(h:FI x.1 x.2)(M:aL):aM (aq iR) 31 [.agg (bD (c8 x))] M=some (.bool true,M):=lF (vv h.right rfl rfl rfl rfl rfl M)
set_option maxRecDepth 100000 in
def vC:aq iR 11 [] []=some (.bool true,[]):=by
 obtain⟨e1,e2,e3,e4,e5,e6,e7,e8,e9⟩:=facts;obtain⟨g1,g2,g3,g4,g5,g6,g7,g8,g9⟩:=aay;have s0:FI (py 1,oU).1 (py 1,oU).2:=FI.new rfl;have sA:FI hA.1.1 hA.1.2:=s0.ze (wi 2 [47,97] [] 2);have sB:FI hB.1.1 hB.1.2:=sA.ze (wi 2 [47,98] [] 2);have sC:FI hC.1.1 hC.1.2:=FI.cut sB [47,97] 5;have sD:FI hD.1.1 hD.1.2:=sC.ze (wi 2 [47,97,47,102] [] 1);have sJ:FI hJ.1.1 hJ.1.2:=FI.join sD [47,97];have q0:=k34 (g:=1) rfl;have qA:=VM s0 (wY 2 [47,97] [] 2 (by decide) (by decide))
 have qB:=VM sA (wY 2 [47,98] [] 2 (by decide) (by decide))
 have qC:=fun M=>cO (c42 sB [47,97] (by decide) 5) M
 have qD:=VM sC (wY 2 [47,97,47,102] [] 1 (by decide) (by decide))
 have qE:=VM sD (wY 3 [47,97,47,102] [47,103] 0 (by decide) (by decide))
 have qG:=VM sD (wY 5 [47,97] [47,99] 0 (by decide) (by decide))
 have qH:=VM sD (wY 5 [47,97,47,102] [47,98,47,102] 0 (by decide) (by decide))
 have qI:=fun M=>cO (c42 sD [47,97,47,102] (by decide) 2) M
 have qJ:=fun M=>cO (c43 sD [47,97] (by decide)) M
 have w1:=sD.sW;have w2:=sJ.sW;have hJt:hJ.1.2=hD.1.2:=rfl;have qs:=QF sD.rt;have qf:=fun M=>lG (KX (c8 hD.1) (c8 hJ.1) (show hD.1.1.length≠hJ.1.1.length by omega) M)
 have qr:=sD.BS;have qz:=fun M=>lF (Xe M)
 have qa:=fun M=>lF (FI.asks sD (o:=wi 1 [47,97,47,102] [] 0) (wY _ _ _ _ (by decide) (by decide)) ⟨by decide,by decide⟩ M)
 have qi:=fun M=>lG (k38 (l:=[1,5]) (by decide) M)
 change ∀M,aM (aq iR) 34 _ M=some (.agg (bD (c8 (py 1,oU))),M) at q0;change ∀M,aM (aq iR) 15 _ M=some (.tuple [.agg (bD (c8 hA.1)),.agg (eE hA.2)],M) at qA;change ∀M,aM (aq iR) 15 [.agg (bD (c8 hA.1)),_] M=some (.tuple [.agg (bD (c8 hB.1)),.agg (eE hB.2)],M) at qB;change ∀M,aM (aq iR) 42 [.agg (bD (c8 hB.1)),_,_] M=some (.tuple [.agg (bD (c8 hC.1)),aG hC.2],M) at qC;change ∀M,aM (aq iR) 15 [.agg (bD (c8 hC.1)),_] M=some (.tuple [.agg (bD (c8 hD.1)),.agg (eE hD.2)],M) at qD;change ∀M,aM (aq iR) 15 [.agg (bD (c8 hD.1)),_] M=some (.tuple [.agg (bD (c8 hE.1)),.agg (eE hE.2)],M) at qE;change ∀M,aM (aq iR) 15 [.agg (bD (c8 hD.1)),_] M=some (.tuple [.agg (bD (c8 hG.1)),.agg (eE hG.2)],M) at qG;change ∀M,aM (aq iR) 15 [.agg (bD (c8 hD.1)),_] M=some (.tuple [.agg (bD (c8 hH.1)),.agg (eE hH.2)],M) at qH;change ∀M,aM (aq iR) 42 [.agg (bD (c8 hD.1)),_,_] M=some (.tuple [.agg (bD (c8 hI.1)),aG hI.2],M) at qI;change ∀M,aM (aq iR) 43 [.agg (bD (c8 hD.1)),_] M=some (.tuple [.agg (bD (c8 hJ.1)),aG hJ.2],M) at qJ;change ∀M,aM (aq iR) 21 [.agg (bD (c8 hD.1)),_] M=some (lQ (xW hD.1.1 [47,97,47,102]),M) at qa;rw[hJt] at w2;rw[g7] at qa;generalize hD.1.2=tr at w1 w2 qs;have x2:∀l:List qy,l.length=2->∃a b,l=[a,b]:=fun l h=>by match l,h with|[a,b],_=>exact⟨a,b,rfl⟩
 obtain⟨a1,a2,hl1⟩:=x2 _ g1;obtain⟨b1,b2,hl2⟩:=x2 _ g2;rw[hl1] at g4 g5;rw[hl2] at g6;simp only[aW,bp,List.cons.injEq,and_true] at g4 g5 g6;obtain⟨g41,g42⟩:=g4;obtain⟨g51,g52⟩:=g5;obtain⟨g61,g62⟩:=g6;clear sA sB sC sD sJ s0;generalize c8 (py 1,oU)=F0 at *;generalize c8 hA.1=FA at *;generalize c8 hB.1=FB at *;generalize c8 hC.1=FC at *;generalize c8 hD.1=FD at *;generalize c8 hE.1=FE at *;generalize c8 hG.1=FG at *;generalize c8 hH.1=FH at *;generalize c8 hI.1=FI' at *;generalize c8 hJ.1=FJ at *;generalize hA.2=A,hB.2=B,hC.2=C,hD.2=D,hE.2=E,hG.2=G,hH.2=H,hI.2=I,hJ.2=J at *;refine aJ ?_;simp only[bD,eE,dP,wi,jt,aW,bp,hl1,hl2,jT,lQ,mr] at q0 qA qB qC qD qE qG qH qI qJ w1 w2 qs qf qr qz qa qi ⊢;simp only[aaA,E11,q0,qA,qB,qC,qD,qE,qG,qH,qI,qJ,w1,w2,qs,qf,qr,qz,qa,qi,e1,e2,e3,e4,e5,e6,e7,e8,e9,g3,g41,g51,g52,g61,hl1,hl2,aW,bp,av,aH,aI,jT,jK,ow,mu,g42,g52,g62,mr,EW,seval]
end
def Lv{l:List Piece}{t:Tree}{s:Bytes}{g:Int}(h:(sG l t s g).2≠0):(sG l t s g).1=l:=by
 unfold sG at h ⊢
 repeat' split
 all_goals first
  |rfl
  |(rename_i h1 h2 h3 h4; rw[ak h1,ak h2,ak h3,ak h4] at h; exact absurd rfl h)
def Ui{x:List Piece×Tree}{s:kf}(h:(stepT x s).2.err≠0):(stepT x s).1=x:=by
 unfold stepT at h ⊢;have hk:s.kind.toNat % 5<5:=iI _ (by omega)
 generalize s.kind.toNat % 5=k at hk h ⊢;rcases(show k=0\/k=1\/k=2\/k=3\/k=4 by omega) with rfl|rfl|rfl|rfl|rfl
 ·exact fF rfl (JV h)
 ·exact fF (Lv h) rfl
 ·exact fF (Lv h) rfl
 ·exact fF (CW h) rfl
 ·exact fF (Db h) rfl
section
attribute [local irreducible] fS fp kH gK dv kr aq aM cv bJ
def Y9{x:List Piece×Tree}(h:FI x.1 x.2)(M:aL):aM (aq iR) 18 [.agg (bD (c8 x)),.agg (bD (c8 x))] M=some (.bool true,M):=lG (h.abc M)
set_option maxRecDepth 100000 in
def H5(n:UInt8)(xs:List kf)(s:kf):aq iR 8 [mL n,oS xs,qp s] []=some (.bool true,[]):=by
 refine aJ ?_;have q1:=cP vC;have q2:=fun M=>lG (Uu xs M)
 have q3:=fun M=>lG (Uu [s] M)
 cases h1:sI xs<;>rw[h1] at q2
 case true=>simp only[fn8,E8,mL,qp,eH,dP,aX,aY,q1,q2,si,EW,seval]
 cases h2:sI [s]<;>rw[h2] at q3<;>simp only[oS,qp,eH,dP,mL,jt,aW,bp,aX,aY] at q3
 case true =>
  simp only[fn8,E8,mL,qp,eH,dP,aX,aY,q1,q2,q3,si,EW,seval]
 obtain⟨hn,ho⟩:=sq h1;obtain⟨-,hs⟩:=sq h2;obtain⟨hs1,hs2⟩:=hs s aD;have q4:=fun M=>cO (Zb (c14 n hn ho)) M
 have hf:=FI.made (rf n) xs;have q5:=fun M=>cO (c36 hf hs1 hs2) M
 have hf2:=hf.stepT s;have r1:=hf.BS;have r2:=hf2.BS;have qs:=Y9 hf;have he:=Ui (x:=uq (pY n) xs) (s:=s);generalize uq (pY n) xs=x at *;generalize stepT x s=y at *;simp only[mL] at q4;cases h3:y.2.err==0
 ·rw[he (by simpa using h3)] at q5 r2
  generalize c8 x=f at *;simp only[bD,eH,dP,eE,mL,jt,aX,aY] at q4 q5 r1 qs;simp only[fn8,E8,mL,qp,eH,dP,aX,aY,q1,q2,q3,q4,q5,r1,qs,h3,si,EW,seval]
 ·generalize c8 x=f at *;generalize c8 y.1=g at *;simp only[bD,eH,dP,eE,mL,jt,aX,aY] at q4 q5 r1 r2;simp only[fn8,E8,mL,qp,eH,dP,aX,aY,q1,q2,q3,q4,q5,r1,r2,h3,si,EW,seval]
end
def Lc(r:Wt):Prop:=r.2.1.names.length<=100000/\r.2.1.data=[]
def tw{c:Prop}[Decidable c]{a b:Wt}(ha:Lc a)(hb:Lc b):Lc (if c then a else b):=by split<;>assumption
def La{t:Tree}(ht:Rt t)(o:oW):Lc (fa t o):=by
 refine tw ?_ (tw ?_ (tw ?_ (tw ?_ (tw ?_ (tw ?_ ?_)))))
 ·unfold rQ; split<;>exact⟨cA _,rfl⟩
 ·unfold uJ; dsimp only; (repeat' split)<;>exact⟨cA _,rfl⟩
 ·unfold tQ; dsimp only; (repeat' split)<;>exact⟨cA _,rfl⟩
 ·unfold nJ; dsimp only; (repeat' split)<;>exact⟨cA _,rfl⟩
 ·unfold lM; dsimp only; (repeat' split)<;>exact⟨cA _,rfl⟩
 ·unfold tT; dsimp only; (repeat' split)<;>first|exact⟨cA _,rfl⟩|exact⟨by simp only[aI]; exact Aq ht _ _ _,rfl⟩
 ·unfold rT; dsimp only; split<;>exact⟨cA _,rfl⟩
def Bs{t:Tree}(ht:Rt t)(o:oW):(pB t o).2.names.length<=100000/\(pB t o).2.data.length<=100000:=by
 obtain⟨h1,h2⟩:=La ht o;unfold pB;split
 ·exact⟨cA _,cA _⟩
 ·exact⟨h1,by simp[h2]⟩
section
attribute [local irreducible] fS fp kH gK dv kr aq aM cv bJ
set_option maxRecDepth 100000 in
set_option maxHeartbeats 4000000 in
def H2(n:UInt8)(xs:List kf)(o:oW):aq iR 3 [mL n,oS xs,ue o] []=some (.bool true,[]):=by
 refine aJ ?_;have q1:=cP vC;have q2:=fun M=>lG (Uu xs M)
 have q3:=fun M=>lG (k13 o M)
 cases h1:sI xs<;>rw[h1] at q2
 case true=>simp only[Y5,E3,mL,ue,dP,q1,q2,si,EW,seval]
 cases h2:zm o<;>rw[h2] at q3
 case true =>
  simp only[dP] at q3;simp only[Y5,E3,mL,ue,dP,q1,q2,q3,si,EW,seval]
 cases h3:decide (o.jz<0)
 case true =>
  simp only[dP] at q3;simp only[Y5,E3,mL,ue,dP,q1,q2,q3,h3,si,EW,seval]
 cases h4:decide (16<=o.jz)
 case true =>
  simp only[dP] at q3;simp only[Y5,E3,mL,ue,dP,q1,q2,q3,h3,h4,si,EW,seval]
 by_cases hk:1<=o.kind/\o.kind<=7
 rotate_left
 ·simp only[dP] at q3;have g1:(o.kind != 1)=true:=by rw[gj]; omega
  have g2:(o.kind != 2)=true:=by rw[gj]; omega
  have g3:(o.kind != 3)=true:=by rw[gj]; omega
  have g4:(o.kind != 4)=true:=by rw[gj]; omega
  have g5:(o.kind != 5)=true:=by rw[gj]; omega
  have g6:(o.kind != 6)=true:=by rw[gj]; omega
  have g7:(o.kind != 7)=true:=by rw[gj]; omega
  simp only[Y5,E3,mL,ue,dP,q1,q2,q3,h3,h4,g1,g2,g3,g4,g5,g6,g7,si,EW,seval]
 obtain⟨hn,hs⟩:=sq h1;have ho:=Gj h2
 have hkb:p7 o=true:=by
  simp only[dq] at h3 h4;unfold p7; simp; omega
 have q4:=fun M=>cO (Zb (c14 n hn hs)) M
 have hf:=FI.made (rf n) xs;generalize uq (pY n) xs=x at *;have q5:=VM hf ho;have w1:=hf.sW;have q6:=fun M=>cO (Zb (hf.plain o ho hk)) M
 have hf2:=hf.ze o;have w2:=hf2.sW;have hd:(ze x o).2=(mW x.1 x.2 o).2:=rfl;have ht:(ze x o).1.2=(mW x.1 x.2 o).1:=rfl;have eY:(c8 x).pieces=x.1:=rfl
 by_cases he:(mW x.1 x.2 o).2.err=91\/(mW x.1 x.2 o).2.err=180
 ·have hone:=ac4 hf hkb he;have e0:=JV (l:=x.1) (t:=x.2) (o:=o) (by omega)
  have ex:(ze x o).1=x:=fF rfl e0;have qs:=Y9 hf;have hl1:decide ((1:Int)<(x.1.length:Int))=true:=by simp; omega
  rw[ex,hd] at q5;rw[<-hd] at he;rw[<-hd] at q5;generalize (ze x o).2=a at *;generalize c8 x=f at *;simp only[bD,dP,eE,bK,bd,ue,sk,mL,eY] at q3 q4 q5 q6 w1 qs;rcases he with he|he<;>rw[he] at q5 <;>
  rcases(show o.kind=1\/o.kind=2\/o.kind=3\/o.kind=4\/o.kind=5\/o.kind=6\/o.kind=7 by omega) with g|g|g|g|g|g|g<;>simp only[g] at q3 q5 q6 <;>
  simp only[Y5,E3,mL,ue,dP,q1,q2,q3,q4,q5,q6,w1,qs,h3,h4,g,hl1,eY,aI,si,EW,seval]
 ·have hp:=Hp (l:=x.1) (t:=x.2) hkb (fun h=>he (.inl h)) (fun h=>he (.inr h))
  have e1:((mW x.1 x.2 o).2.err==91)=false:=by rw[bM]; exact fun h=>he (.inl h)
  have e2:((mW x.1 x.2 o).2.err==180)=false:=by rw[bM]; exact fun h=>he (.inr h)
  obtain⟨n1,n2⟩:=Bs hf.rt o;rw[<-hp] at q6 n1 n2;have qa:=fun M=>lG (cO (c19 _ n1 n2) M)
  have qt:=QF hf2.rt;rw[ht] at w2 qt;rw[hd] at q5;generalize mW x.1 x.2 o=d at *;generalize (ze x o).1=y at *;obtain⟨u,a⟩:=d;simp only at q6 w2 qt qa e1 e2 q5;generalize c8 x=f at *;generalize c8 y=g at *;simp only[bD,dP,eE,bK,bd,ue,sk,mL] at q3 q4 q5 q6 w1 w2 qa qt;rcases(show o.kind=1\/o.kind=2\/o.kind=3\/o.kind=4\/o.kind=5\/o.kind=6\/o.kind=7 by omega) with k|k|k|k|k|k|k<;>simp only[k] at q3 q5 q6 <;>
  simp only[Y5,E3,mL,ue,dP,q1,q2,q3,q4,q5,q6,w1,w2,qa,qt,h3,h4,k,e1,e2,si,EW,seval]
end
end Go.Proofs.YtcbopkblmebjiaaGreatDoor
