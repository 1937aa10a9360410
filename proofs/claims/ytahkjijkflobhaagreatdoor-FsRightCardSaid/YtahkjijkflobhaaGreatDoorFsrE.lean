import Derived.Test.YtahkjijkflobhaaGreatDoorProg
import Derived.WalkKit
import Derived.LaidEql
import Derived.Stop.Asserts
import Derived.RowKitTokens
import Derived.KernelRfl
import Derived.Defers
import Derived.Recover
import Derived.Test.YtahkjijkflobhaaGreatDoorFsrD
set_option linter.unusedSimpArgs false
set_option linter.unusedVariables false
set_option linter.unusedSectionVars false
set_option linter.defProp false
open Go.Proofs.Tryz
namespace Go.Proofs.YtahkjijkflobhaaGreatDoor
section
open Go Go.Abs
structure dZ where
 cD:Int
 handle:Int
 aq:Int
 deriving DecidableEq,Inhabited
structure cv where
 aq:Int
 ae:Int
 bytes:Int
 deriving DecidableEq,Inhabited
structure mP where
 jh:Int
 nS:Int
 node:Node
 deriving DecidableEq,Inhabited
structure j5 where
 id:Int
 aq:Int
 at':Int
 deriving DecidableEq,Inhabited
structure ga where
 now:Tree
 tick:Int
 since:List Int
 dw:List mP
 cp:List j5
 next:Int
 deriving DecidableEq,Inhabited
structure aa where
 s:ga
 holds:List dZ
 cL:List cv
 deriving DecidableEq,Inhabited
structure jz where
 kind:Int
 cD:Int
 c8:Bytes
 r9:Bytes
 n:Int
 m:Int
 handle:Int
 data:Bytes
 deriving DecidableEq,Inhabited
structure LU where
 err:Int
 aq:Int
 kind:Int
 n:Int
 m:Int
 names:List Bytes
 data:Bytes
 deriving DecidableEq,Inhabited
structure IA where
 cD:Int
 seq:Int
 ans:LU
 deriving DecidableEq,Inhabited
def hV(h:dZ):List ag:=[.int .i64 h.cD,.int .i64 h.handle,.int .i64 h.aq]
def gm(h:dZ):ag := .agg (hV h)
abbrev eo(l:List dZ):ag := .slice .sh (l.map gm)
def gU(q:cv):List ag:=[.int .i64 q.aq,.int .i64 q.ae,.int .i64 q.bytes]
def dM(q:cv):ag := .agg (gU q)
abbrev cJ(l:List cv):ag := .slice .sh (l.map dM)
def fL(p:mP):List ag := .int .i64 p.jh :: .int .i64 p.nS::aF p.node
def iC(p:mP):ag := .agg (fL p)
abbrev ug(l:List mP):ag := .slice .sh (l.map iC)
def gv(s:j5):List ag:=[.int .i64 s.id,.int .i64 s.aq,.int .i64 s.at']
def jN(s:j5):ag := .agg (gv s)
abbrev kc(l:List j5):ag := .slice .sh (l.map jN)
abbrev we(l:List Int):ag := .slice .sh (l.map kv)
abbrev c9(l:List Bytes):ag := .slice .sh (l.map ag.str)
def bl(s:ga):List ag:=[aN s.now.ae,.int .i64 s.now.next,.int .i64 s.now.aj,.int .i64 s.tick,we s.since,ug s.dw,kc s.cp,.int .i64 s.next]
def pz(s:ga):ag := .agg (bl s)
def cG(f:aa):List ag:=[aN f.s.now.ae,.int .i64 f.s.now.next,.int .i64 f.s.now.aj,.int .i64 f.s.tick,we f.s.since,ug f.s.dw,kc f.s.cp,.int .i64 f.s.next,eo f.holds,cJ f.cL]
def ep(o:jz):List ag:=[.int .i64 o.kind,.int .i64 o.cD,.str o.c8,.str o.r9,.int .i64 o.n,.int .i64 o.m,.int .i64 o.handle,cX o.data]
def N7(o:jz):ag := .agg (ep o)
def dr(a:LU):List ag:=[.int .i64 a.err,.int .i64 a.aq,.int .i64 a.kind,.int .i64 a.n,.int .i64 a.m,c9 a.names,cX a.data]
def x8(s:IA):List ag := .int .i64 s.cD :: .int .i64 s.seq::dr s.ans
def O9(s:IA):ag := .agg (x8 s)
def Gn(n:dZ):(gm n).cells=hV n:=rfl
def E5(n:cv):(dM n).cells=gU n:=rfl
def Gq(n:mP):(iC n).cells=fL n:=rfl
def Gs(n:j5):(jN n).cells=gv n:=rfl
def Gr(n:IA):(O9 n).cells=x8 n:=rfl
def JG(n:dZ):(hV n).length=3:=rfl
def Hq(n:cv):(gU n).length=3:=rfl
def JI(n:mP):(fL n).length=8:=rfl
def JK(n:j5):(gv n).length=3:=rfl
def JJ(n:IA):(x8 n).length=9:=rfl
def sF{α:Type}(f:α->ag)(k:Nat)(h:∀a,(f a).cells.length=k)(l:List α):wid (l.map f) k=True:=by
 simp only[eH,im];intro x hx;obtain⟨n,_,rfl⟩:=cE.1 hx;exact h n
def NW(l:List dZ):wid (l.map gm) 3=True:=sF gm _ (fun _=>rfl) l
def Kf(l:List cv):wid (l.map dM) 3=True:=sF dM _ (fun _=>rfl) l
def NX(l:List mP):wid (l.map iC) 8=True:=sF iC _ (fun _=>rfl) l
def NZ(l:List j5):wid (l.map jN) 3=True:=sF jN _ (fun _=>rfl) l
def NY(l:List IA):wid (l.map O9) 9=True:=sF O9 _ (fun _=>rfl) l
def Vc(l:List Bytes):wid (l.map ag.str) 1=True:=sF ag.str _ (fun _=>rfl) l
def tkH(n:dZ):List.take 3 (hV n)=hV n:=rfl
def shH(n:dZ):List.map ag.shut (hV n)=hV n:=rfl
def tkQ(n:cv):List.take 3 (gU n)=gU n:=rfl
def shQ(n:cv):List.map ag.shut (gU n)=gU n:=rfl
def tkP(n:mP):List.take 8 (fL n)=fL n:=rfl
def shP(n:mP):List.map ag.shut (fL n)=fL n:=rfl
def tkS(n:j5):List.take 3 (gv n)=gv n:=rfl
def shS(n:j5):List.map ag.shut (gv n)=gv n:=rfl
def tkU(n:IA):List.take 9 (x8 n)=x8 n:=rfl
def shU(n:IA):List.map ag.shut (x8 n)=x8 n:=rfl
def aja:((2:Nat):Int)=2:=rfl
def aga:Int.toNat 0=0:=rfl
def agb:Int.toNat 1=1:=rfl
def apY(a b c d:Int):kl [FK.i,FK.i] [aE a,aE b] [aE c,aE d]=some (a==c&&b==d):=by
 simp[kl,jW]
def We(a b c a' b' c':Int):kl [FK.i,FK.i,FK.i] [aE a,aE b,aE c] [aE a',aE b',aE c']=some (a==a'&&(b==b'&&c==c')):=by
 simp[kl,jW]
set_option linter.defProp false in
def EVF:=bM @apY (bM @We (bM @eL.{0} (bM @eb.{0} (bM @aja (bM @aga (bM @agb (bM @jS (bM @fG (bM @Gn (bM @E5 (bM @Gq (bM @Gs (bM @Gr (bM @JG (bM @Hq (bM @JI (bM @JK (bM @JJ (bM @NW (bM @Kf (bM @NX (bM @NZ (bM @NY (bM @Vc (bM @tkH (bM @shH (bM @tkQ (bM @shQ (bM @tkP (bM @shP (bM @tkS (bM @shS (bM @tkU (bM @shU (bM @tkN (bM @shN (bM @tkE (@shE))))))))))))))))))))))))))))))))))))))
set_option linter.defProp false in
def EW:=And.intro EVF EN
section
attribute [local irreducible] eW fQ lh gK dW kr ar aM cq bI
def c87(h:dZ):ar bK 87 [.agg (hV h)] []=some (.agg [aE h.cD,aE h.handle],[]):=by
 refine aw ?_;simp only[aj9,E87,gm,hV,EW,seval]
def k87 h:=cP (c87 h)
def fO(n:Node):Bool:=n.kind==1&&n.dz==0
def aoz(n:Node):ar bK 163 [.agg (aF n)] []=some (.bool (fO n),[]):=by
 refine aw ?_;simp only[aah,agI,bD,aF,EW,seval]
 repeat' ((first|apply bq|apply bU|apply dE)<;>intro hb<;>simp only[hb,EW,agI,seval])
 all_goals (simp_all only[fO,pj,↓reduceIte,reduceCtorEq,an]; done)
def adm n:=cP (aoz n)
def yY(c h:Int):Bool:=decide (0<=c)&&decide (c<16)&&decide (0<=h)&&decide (h<100)
def c88(c h:Int):ar bK 88 [.agg [aE c,aE h]] []=some (.bool (yY c h),[]):=by
 refine aw ?_;simp only[aka,E88,EW,seval]
 repeat' ((first|apply bq|apply bU|apply dE)<;>intro hb<;>simp only[hb,EW,E88,seval])
 all_goals (simp_all only[yY,pj,↓reduceIte,reduceCtorEq,an]; done)
def k88 c h:=cP (c88 c h)
def YP(a b:Int):Int:=if a != 0 then a else b
def arE(a b:Int)(ha:(a != 0)=false):YP a b=b:=by simp[YP,ha]
def aor(a b:Int):ar bK 153 [gH [aE a,aE b]] []=some (aE (YP a b),[]):=by
 refine aw ?_;simp only[PC,FV,EW,seval];rw[bt];simp only[PC,FV,EW,seval];refine bq (fun hb=>?_) (fun hb=>?_)
 ·simp only[FV,hb,YP,EW,seval]
 ·have w1:IntKind.i64.wrap 1=1:=fW (by decide) (by decide)
  have w2:IntKind.i64.wrap 2=2:=fW (by decide) (by decide)
  simp only[FV,hb,arE a b hb,w1,EW,seval];rw[bt];simp only[FV,EW,seval];refine bq (fun hc=>?_) (fun hc=>?_)
  ·simp only[FV,hc,EW,seval]
  ·simp only[FV,hc,w2,EW,seval];rw[bt];simp only[FV,EW,seval];have:b=0:=by simpa using hc
   rw[this]
def akJ a b:=cP (aor a b)
def gb(x:dZ)(c h:Int):Int:=YP (om x.cD c) (om x.handle h)
def c89(c h a b:Int)(x:dZ):ar bK 89 [.agg [aE c,aE h],.agg (hV x),.agg [aE a,aE b]] []=some (aE (gb x c h),[]):=by
 refine aw ?_;simp only[akb,E89,gm,k87,Qj,akJ,gb,EW,seval]
def k89 c h a b x:=cP (c89 c h a b x)
def pf(c h:Int)(x:dZ):Bool:=x.cD==c&&x.handle==h
def aph(c h:Int)(x:dZ):ar bK 222 [.agg [aE c,aE h],.agg (hV x)] []=some (.bool (pf c h x),[]):=by
 refine aw ?_;simp only[aaO,ana,gm,k87,pf,EW,seval]
def aqM c h x:=cP (aph c h x)
end
section
def sn{α:Type}(p:α->Bool):List α->Nat->Int
 | [],_ => -1
 |x::r,i=>if p x then (i:Int) else sn p r (i+1)
theorem D0{α:Type}(p:α->Bool):∀(l:List α)(i:Nat),decide (0<=sn p l i)=l.any p
 | [],_=>rfl
 |x::r,i=>by
  rw[sn,kY]
  by_cases h:p x=true
  ·grind
  ·simp[h];exact D0 p r _
def Cp{α:Type}(p:α->Bool)(l:List α):decide (0<=sn p l 0)=l.any p:=D0 p l 0
theorem xa{α:Type}(p:α->Bool):∀(l:List α)(i:Nat),(sn p l i = -1/\l.find? p=none)\/∃(m:Nat) (x:α),sn p l i=((i+m:Nat):Int)/\l[m]?=some x/\l.find? p=some x/\l.eraseIdx m=l.eraseP p
 | [],i => .inl ⟨rfl,rfl⟩
 |x::r,i=>by
  rw[sn]
  by_cases h:p x=true
  ·grind
  ·rcases xa p r (i+1) with ⟨h1,h2⟩|⟨m,y,h1,h2,h3,h4⟩
   ·exact .inl ⟨by simp[h,h1],by simp[h,h2]⟩
   ·grind
structure Ow{α:Type}(lt:α->Bool)(l:List α)(b:Nat):Prop where
 le:b<=l.length
 lt:∀h n,l[h]?=some n->(lt n=true↔h<b)
def kx{α:Type}(lt:α->Bool)(l:List α):Nat:=(l.takeWhile lt).length
theorem Ft{α:Type}{lt:α->Bool}:∀ {l:List α},l.Pairwise (fun a b=>lt b=true->lt a=true)->Ow lt l (kx lt l)
 | [],_=>⟨aC _,fun h n hn=>by simp_all⟩
 |a::r,h=>by
  obtain⟨h1,h2⟩:=cd.1 h;obtain⟨i1,i2⟩:=Ft h2;unfold kx at i1 i2 ⊢
  by_cases ha:lt a=true
  ·rw[gZ,bh ha];refine⟨by grind,fun k n hn=>?_⟩
   grind
  ·rw[gZ,aQ ha];refine⟨by simp,fun k n hn=>?_⟩
   grind
def qy{α:Type}(eq:α->Bool)(l:List α)(b:Nat):Bool:=match l[b]? with
 |some n=>eq n
 |none=>false
def wZ{C:eB}{f p:Nat}{vs:List ag}{r:ag}{M:aH}{cs:List ag}(hM:nth M p=some (.cells cs))(h:C f (vs++[bX 0]) [.cells cs]=some (r,[.cells cs]))(h1:vs.all ag.flat=true)(h2:vs.flatMap ag.ids=[])(h3:r.vA=true)
  (h4:vs.map (ag.pv (hZ [p]))=vs) (h5:r.Ao (vN [p])=r) (h6:cs.all ag.uG=true) (h7:cs.flatMap ag.ml=[]) (h8:cs.map (ag.rN (hZ [p]))=cs) (h10:cs.map (ag.rN (vN [p]))=cs) :
  aM C f (vs++[bX p]) M=some (r,M):=by
 have hids:(vs++[ag.ptr p 0]).flatMap ag.ids=[p]:=by simp[ag.ids,ag.ml,ag.ib,h2]
 have hi:pG M [p]=[]:=by simp_all [pG,dv.ids]
 have e0:ky M [p]=[p]:=by simp[ky,hi,j6]
 have e1:reach M [p]=[p]:=by
  have ea:j6 [] [p]=[p]:=rfl;simp only[reach,ea,e0]
 have hfl:(vs++[ag.ptr p 0]).all ag.flat=true:=by rw[List.all_append,h1]; rfl
 simp_all [aM,iU,hZ,dv.flat,dv.pv,bT,ag.pv,bu,ag.rN,ag.sx,kR,rq]
def Ua(z:Int):iU [bO [aE z]] (hZ [0]) [0]=some [bO [aE z]]:=rfl
def J2(u v:Int):iU [bO [aE u],bO [aE v]] (hZ [0,1]) [0,1]=some [bO [aE u],bO [aE v]]:=rfl
attribute [local irreducible] eW fQ lh gK dW kr ar aM cq bI
def aoA(x:dZ)(z:Int):ar bK 165 [gm x,bX 0] [bO [aE z]]=some (.bool (x.aq==z),[bO [aE z]]):=by
 refine aw ?_;simp[aai,amX,gm,hV,EW]
def ao2(x:dZ)(z:Int):ar bK 199 [gm x,bX 0] [bO [aE z]]=some (.bool (x.aq==z),[bO [aE z]]):=by
 refine aw ?_;simp[aaD,am4,gm,hV,EW]
def apw(q:cv)(aq:Int):ar bK 245 [dM q,aE aq] []=some (aE (om q.aq aq),[]):=by
 refine aw ?_;simp[aa0,ani,dM,gU,Qj,EW]
def ak5(n:cv)(aq:Int)(M:aH):aM (ar bK) 245 [.agg (gU n),aE aq] M=some (aE (om n.aq aq),M):=cO (apw n _) M
def aox(n:Node)(aq:Int):ar bK 161 [bD n,aE aq] []=some (aE (om n.aq aq),[]):=by
 refine aw ?_;simp[aaf,amW,bD,aF,Qj,EW]
def akK(n:Node)(aq:Int)(M:aH):aM (ar bK) 161 [.agg (aF n),aE aq] M=some (aE (om n.aq aq),M):=cO (aox n _) M
def tx(jh nS:Int)(x:j5):Bool:=decide (jh<=x.at')&&decide (x.at'<nS)
def apr(x:j5)(a b:Int):ar bK 238 [jN x,bX 0,bX 1] [bO [aE a],bO [aE b]]=some (.bool (tx a b x),[bO [aE a],bO [aE b]]):=by
 refine aw ?_;simp only[aaV,anf,jN,gv,EW,seval]
 repeat' ((first|refine bq _ _|refine bU (fun hb=>?_) (fun hb=>?_)|refine dE _ _)<;>simp only[hb,EW,seval])
 all_goals (simp_all only[tx,pj]; done)
def Tq{xs:List dZ}{c g:Int}(hn:xs.length<=100000){k:List K}{R:Int->Option (ag×aH)}
  (hx:∀e,kr (ar bK) [.tmp 4] 0 k ⟨.exit 0,e,[]⟩=R (-1)) (hr:∀(i:Nat),kr (ar bK) [.tmp 4] 0 k ⟨.ret,[(4,aE i)],[]⟩=R i) :
  ∀(l pre:List dZ),xs=pre++l->eW (ar bK) [.tmp 4] 0 k (.loop [0,1,7,8] Fq) [(0,gH (xs.map gm)),(1,.pC 222 [.agg [aE c,aE g]]),(7,aE xs.length),(8,aE pre.length)] []=R (sn (pf c g) l pre.length):=by
 intro l;induction l with
 |nil =>
  intro pre h;rw[bt];simp only[vH,gM h,EW,seval];exact hx _
 |cons n rest ih =>
  intro pre h;rw[bt];have dR:pre.length+1<=100000:=by rw[h] at hn; simp at hn; omega
  have hw:IntKind.i64.wrap ((pre.length:Int)+1)=((pre++[n]).length:Int):=by rw[fW (by omega) (by omega)]; simp
  have hi:=ih (pre++[n]) (by rw[h]; simp)
  simp only[aD,au,av] at hi;have hk  := fun x=>aqM c g x []
  rw[sn];simp only[vH,fV h,fc h,hk,EW,seval];refine bq (fun hb=>?_) (fun hb=>?_)
  ·simp only[vH,hb,EW,seval];simp_all
  ·simp only[vH,hb,hw,af,EW,seval];exact hi
def ai4(xs:List dZ)(c g:Int)(hn:xs.length<=100000):ar bK 221 [gH (xs.map gm),.pC 222 [.agg [aE c,aE g]]] []=some (aE (sn (pf c g) xs 0),[]):=by
 refine aw ?_;simp only[KS,vH,EW,seval];exact Tq (R:=fun i=>some (aE i,[])) hn (fun e=>by simp[vH,EW]) (fun i=>by simp[EW]) xs [] rfl
def abj(xs:List dZ)(c g:Int)(hn:xs.length<=100000)(M:aH):aM (ar bK) 221 [gH (xs.map gm),.pC 222 [.agg [aE c,aE g]]] M=some (aE (sn (pf c g) xs 0),M):=cO (ai4 _ c g hn) M
theorem Tn{xs:List dZ}{z:Int}(hn:xs.length<=100000){k:List K}{R:Int->Option (ag×aH)}
  (hx:∀e,kr (ar bK) [.tmp 4] 1 k ⟨.exit 0,e,[bO [aE z]]⟩=R (-1)) (hr:∀(i:Nat),kr (ar bK) [.tmp 4] 1 k ⟨.ret,[(4,aE i)],[bO [aE z]]⟩=R i) :
  ∀(l pre:List dZ),xs=pre++l->eW (ar bK) [.tmp 4] 1 k (.loop [0,1,7,8] Fq) [(0,gH (xs.map gm)),(1,.func 165 [bX 0]),(7,aE xs.length),(8,aE pre.length)] [bO [aE z]]=R (sn (fun x:dZ=>x.aq==z) l pre.length):=by
 intro l;induction l with
 |nil =>
  intro pre h;rw[bt];simp only[vH,gM h,EW,seval];exact hx _
 |cons n rest ih =>
  intro pre h;rw[bt];have dR:pre.length+1<=100000:=by rw[h] at hn; grind
  have hw:IntKind.i64.wrap ((pre.length:Int)+1)=((pre++[n]).length:Int):=by rw[fW (by omega) (by omega)]; simp
  have hi:=ih (pre++[n]) (by rw[h]; simp)
  simp only[aD,au,av] at hi;have hk:∀x:dZ,aM (ar bK) 165 [.agg (hV x),bX 0] [bO [aE z]]=some _:=fun x=>wZ (f:=165) (p:=0) (vs:=[.agg (hV x)]) (M:=[bO [aE z]]) rfl (aoA x z) rfl rfl rfl rfl rfl rfl rfl rfl rfl
  rw[sn];simp only[vH,fV h,fc h,hk,EW,seval];refine bq (fun hb=>?_) (fun hb=>?_)
  ·simp only[vH,hb,EW,seval];exact hr _
  ·simp only[vH,hb,hw,af,EW,seval];exact hi
def ai2(xs:List dZ)(z:Int)(hn:xs.length<=100000):ar bK 221 [gH (xs.map gm),.func 165 [bX 0]] [bO [aE z]]=some (aE (sn (fun x:dZ=>x.aq==z) xs 0),[bO [aE z]]):=by
 refine aw ?_;simp only[KS,vH,EW,seval];exact Tn (R:=fun i=>some (aE i,[bO [aE z]])) hn (fun e=>by simp only[vH,EW,seval]) (fun i=>by simp[EW]) xs [] rfl
def aiU(xs:List dZ)(z:Int)(hn:xs.length<=100000):ar bK 164 [gH (xs.map gm),.func 165 [bX 0]] [bO [aE z]]=some (.bool (xs.any (fun x:dZ=>x.aq==z)),[bO [aE z]]):=by
 refine aw ?_;have hk:aM (ar bK) 221 [gH (xs.map gm),.func 165 [bX 0]] _=some (aE _,[bO [aE z]]):=jc (ids:=[0]) rfl rfl (Ua z) rfl rfl (ai2 xs z hn) rfl rfl rfl rfl rfl;simp only[PE,agJ,hk,Cp,EW,seval]
def Tp{xs:List dZ}{z:Int}(hn:xs.length<=100000){k:List K}{R:Int->Option (ag×aH)}
  (hx:∀e,kr (ar bK) [.tmp 4] 1 k ⟨.exit 0,e,[bO [aE z]]⟩=R (-1)) (hr:∀(i:Nat),kr (ar bK) [.tmp 4] 1 k ⟨.ret,[(4,aE i)],[bO [aE z]]⟩=R i) :
  ∀(l pre:List dZ),xs=pre++l->eW (ar bK) [.tmp 4] 1 k (.loop [0,1,7,8] Fq) [(0,gH (xs.map gm)),(1,.func 199 [bX 0]),(7,aE xs.length),(8,aE pre.length)] [bO [aE z]]=R (sn (fun x:dZ=>x.aq==z) l pre.length):=by
 intro l;induction l with
 |nil =>
  intro pre h;rw[bt];simp only[vH,gM h,EW,seval];exact hx _
 |cons n rest ih =>
  intro pre h;rw[bt];have dR:pre.length+1<=100000:=by rw[h] at hn; simp at hn; omega
  have hw:=vu pre n;have hi:=ih (pre++[n]) (by rw[h]; simp)
  simp only[aD,au,av] at hi;have hk:∀x:dZ,aM (ar bK) 199 [.agg (hV x),bX 0] [bO [aE z]]=some _:=fun x=>wZ (f:=199) (p:=0) (vs:=[.agg (hV x)]) (M:=[bO [aE z]]) rfl (ao2 x z) rfl rfl rfl rfl rfl rfl rfl rfl rfl
  rw[sn];simp only[vH,fV h,fc h,hk,EW,seval];refine bq (fun hb=>?_) (fun hb=>?_)
  ·simp only[vH,hb,EW,seval];exact hr _
  ·simp only[vH,hb,hw,af,EW,seval];exact hi
def ai3(xs:List dZ)(z:Int)(hn:xs.length<=100000):ar bK 221 [gH (xs.map gm),.func 199 [bX 0]] [bO [aE z]]=some (aE (sn (fun x:dZ=>x.aq==z) xs 0),[bO [aE z]]):=by
 refine aw ?_;simp[KS,vH,EW];exact Tp (R:=fun i=>some (aE i,[dv.cells _])) hn (fun e=>by simp[vH,EW]) (fun i=>by simp[EW]) xs [] rfl
def aiV(xs:List dZ)(z:Int)(hn:xs.length<=100000):ar bK 164 [gH (xs.map gm),.func 199 [bX 0]] [bO [aE z]]=some (.bool (xs.any (fun x:dZ=>x.aq==z)),[bO [aE z]]):=by
 refine aw ?_;have hk:aM (ar bK) 221 [gH (xs.map gm),.func 199 [bX 0]] _=some (aE _,[bO [aE z]]):=jc (ids:=[0]) rfl rfl (Ua z) rfl rfl (ai3 xs z hn) rfl rfl rfl rfl rfl;simp only[PE,agJ,hk,Cp,EW,seval]
def Tw{xs:List j5}{u v:Int}(hn:xs.length<=100000){k:List K}{R:Int->Option (ag×aH)}
  (hx:∀e,kr (ar bK) [.tmp 4] 2 k ⟨.exit 0,e,[bO [aE u],bO [aE v]]⟩=R (-1)) (hr:∀(i:Nat),kr (ar bK) [.tmp 4] 2 k ⟨.ret,[(4,aE i)],[bO [aE u],bO [aE v]]⟩=R i) :
  ∀(l pre:List j5),xs=pre++l->eW (ar bK) [.tmp 4] 2 k (.loop [0,1,7,8] XI) [(0,gH (xs.map jN)),(1,.func 238 [bX 0,bX 1]),(7,aE xs.length),(8,aE pre.length)] [bO [aE u],bO [aE v]]=R (sn (tx u v) l pre.length):=by
 intro l;induction l with
 |nil =>
  intro pre h;rw[bt];simp only[L2,gM h,EW,seval];exact hx _
 |cons n rest ih =>
  intro pre h;rw[bt];have dR:pre.length+1<=100000:=by rw[h] at hn; simp at hn; omega
  have hw:=vu pre n;have hi:=ih (pre++[n]) (by rw[h]; simp)
  simp only[aD,au,av] at hi;have hk:∀x:j5,aM (ar bK) 238 [.agg (gv x),bX 0,bX 1] [bO [aE u],bO [aE v]]=some (.bool ((tx u v) x),[bO [aE u],bO [aE v]]):=fun x=>jc (ids:=[0,1]) rfl rfl (J2 u v) rfl rfl (apr x u v) rfl rfl rfl rfl rfl
  rw[sn];simp only[L2,fV h,fc h,hk,EW,seval];refine bq (fun hb=>?_) (fun hb=>?_)
  ·simp only[L2,hb,EW,seval];exact hr _
  ·simp only[L2,hb,hw,af,EW,seval];exact hi
def ai7(xs:List j5)(u v:Int)(hn:xs.length<=100000):ar bK 275 [gH (xs.map jN),.func 238 [bX 0,bX 1]] [bO [aE u],bO [aE v]]=some (aE (sn (tx u v) xs 0),[bO [aE u],bO [aE v]]):=by
 refine aw ?_;simp only[abb,L2,EW,seval];exact Tw (R:=fun i=>some (aE i,[dv.cells _,dv.cells _])) hn (fun e=>by simp only[L2,EW,seval]) (fun i=>by simp only[EW,seval]) xs [] rfl
def ai5(xs:List j5)(u v:Int)(hn:xs.length<=100000):ar bK 237 [gH (xs.map jN),.func 238 [bX 0,bX 1]] [bO [aE u],bO [aE v]]=some (.bool (xs.any (tx u v)),[bO [aE u],bO [aE v]]):=by
 refine aw ?_;have hk:aM (ar bK) 275 [gH (xs.map jN),.func 238 [bX 0,bX 1]] _=some (aE _,[bO [aE u],bO [aE v]]):=jc (ids:=[0,1]) rfl rfl (J2 u v) rfl rfl (ai7 xs u v hn) rfl rfl rfl rfl rfl;simp only[aaU,ane,hk,Cp,EW,seval]
theorem Yc{xs:List cv}{aq:Int}{b:Nat}(hb:Ow (fun x=>decide (om x.aq aq<0)) xs b)(hn:xs.length<=100000){k:List K}{r:Option (ag×aH)}
  (hx:∀v q,kr (ar bK) [.tmp 6,.tmp 7] 0 k ⟨.exit 0,[(0,gH (xs.map dM)),(1,aE aq),(2,.func 245 []),(8,aE xs.length),(9,aE b),(10,v),(17,q)],[]⟩=r) :
  ∀(f i j:Nat),j-i<=f->i<=b->b<=j->j<=xs.length->eW (ar bK) [.tmp 6,.tmp 7] 0 k (.loop [0,1,2,8,9,10] Xy) [(0,gH (xs.map dM)),(1,aE aq),(2,.func 245 []),(8,aE xs.length),(9,aE i),(10,aE j)] []=r:=by
 intro f;induction f with
 |zero =>
  intro i j h1 h2 h3 h4;obtain rfl:i=b:=by omega
  rw[bt];have cn:((i:Int)<(j:Int))=False:=by grind
  simp only[FY,cn,EW,seval]
  grind
 |succ f ih =>
  intro i j h1 h2 h3 h4;rw[bt]
  by_cases hij:i<j
  ·have cn:((i:Int)<(j:Int))=True:=by grind
   obtain⟨m1,m2,m3,m4,m5⟩:=CJ i j (by omega) (by omega)
   have hmid:(i+j) / 2<xs.length:=by omega
   have hx:=ai hmid;have hl:=hb.lt _ _ hx;have hk:=fun x:cv=>ak5 x aq []
   simp only[FY,cn,m1,m2,m3,m4,hx,hk,EW,seval];refine bq (fun hq=>?_) (fun hq=>?_)
   ·simp only[FY,m5,EW,seval];exact ih ((i+j) / 2+1) j (by omega) (hl.1 hq) h3 h4
   ·simp only[FY,EW,seval];exact ih i ((i+j) / 2) (by omega) h2 (nV.1 fun h=>by rw[hl.2 h] at hq; cases hq) (by omega)
  ·obtain rfl:i=b:=by omega
   have cn:((i:Int)<(j:Int))=False:=by simp; omega
   simp only[FY,cn,EW,seval];exact hx _ _
def apv(xs:List cv)(aq:Int)(b:Nat)(hb:Ow (fun x=>decide (om x.aq aq<0)) xs b)(hn:xs.length<=100000):ar bK 244 [gH (xs.map dM),aE aq,.func 245 []] []=some (.tuple [aE b,.bool (qy (fun x=>om x.aq aq==0) xs b)],[]):=by
 refine aw ?_;simp only[aaZ,FY,EW,seval];refine Yc hb hn (fun v q=>?_) xs.length 0 xs.length (by omega) (by omega) hb.le (by omega)
 have hk:=fun x:cv=>ak5 x aq []
 unfold qy
 by_cases cn:b<xs.length
 ·have hx:=ai cn;have h1:((b:Int)<(xs.length:Int))=True:=by simp; omega
  simp only[FY,hx,h1,hk,EW,seval]
 ·have hx:xs[b]?=none:=ec (by omega)
  have h1:((b:Int)<(xs.length:Int))=False:=by simp; omega
  simp only[FY,hx,h1,EW,seval]
def Te{xs:List Node}{aq:Int}{b:Nat}(hb:Ow (fun x=>decide (om x.aq aq<0)) xs b)(hn:xs.length<=100000){k:List K}{r:Option (ag×aH)}
  (hx:∀v q,kr (ar bK) [.tmp 6,.tmp 7] 0 k ⟨.exit 0,[(0,gH (xs.map bD)),(1,aE aq),(2,.func 161 []),(8,aE xs.length),(9,aE b),(10,v),(17,q)],[]⟩=r) :
  ∀(f i j:Nat),j-i<=f->i<=b->b<=j->j<=xs.length->eW (ar bK) [.tmp 6,.tmp 7] 0 k (.loop [0,1,2,8,9,10] Lf) [(0,gH (xs.map bD)),(1,aE aq),(2,.func 161 []),(8,aE xs.length),(9,aE i),(10,aE j)] []=r:=by
 intro f;induction f with
 |zero =>
  intro i j h1 h2 h3 h4;obtain rfl:i=b:=by omega
  rw[bt];have cn:((i:Int)<(j:Int))=False:=by simp; omega
  simp only[xx,cn,EW,seval];exact hx _ _
 |succ f ih =>
  intro i j h1 h2 h3 h4;rw[bt]
  by_cases hij:i<j
  ·have cn:((i:Int)<(j:Int))=True:=by simp; omega
   obtain⟨m1,m2,m3,m4,m5⟩:=CJ i j (by omega) (by omega)
   have hmid:(i+j) / 2<xs.length:=by omega
   have hx:=ai hmid;have hl:=hb.lt _ _ hx;have hk:=fun x:Node=>akK x aq []
   simp only[xx,cn,m1,m2,m3,m4,hx,hk,EW,seval];refine bq (fun hq=>?_) (fun hq=>?_)
   ·simp only[xx,m5,EW,seval];exact ih ((i+j) / 2+1) j (by omega) (hl.1 hq) h3 h4
   ·simp only[xx,EW,seval];exact ih i ((i+j) / 2) (by omega) h2 (nV.1 fun h=>by rw[hl.2 h] at hq; cases hq) (by omega)
  ·obtain rfl:i=b:=by omega
   have cn:((i:Int)<(j:Int))=False:=by simp; omega
   simp only[xx,cn,EW,seval];exact hx _ _
def aiT(xs:List Node)(aq:Int)(b:Nat)(hb:Ow (fun x=>decide (om x.aq aq<0)) xs b)(hn:xs.length<=100000):ar bK 160 [gH (xs.map bD),aE aq,.func 161 []] []=some (.tuple [aE b,.bool (qy (fun x=>om x.aq aq==0) xs b)],[]):=by
 refine aw ?_;simp only[PD,xx,EW,seval];refine Te hb hn (fun v q=>?_) xs.length 0 xs.length (by omega) (by omega) hb.le (by omega)
 have hk:=fun x:Node=>akK x aq []
 unfold qy
 by_cases cn:b<xs.length
 ·have hx:=ai cn;have h1:((b:Int)<(xs.length:Int))=True:=by simp; omega
  simp only[xx,hx,h1,hk,EW,seval]
 ·have hx:xs[b]?=none:=ec (by omega)
  have h1:((b:Int)<(xs.length:Int))=False:=by simp; omega
  simp only[xx,hx,h1,EW,seval]
def X9{xs:List dZ}{c g:Int}{b:Nat}(hb:Ow (fun x=>decide (gb x c g<0)) xs b)(hn:xs.length<=100000){k:List K}{r:Option (ag×aH)}
  (hx:∀v q,kr (ar bK) [.tmp 6,.tmp 7] 0 k ⟨.exit 0,[(0,gH (xs.map gm)),(2,.pC 89 [.agg [aE c,aE g]]),(4,bX 0),(8,aE xs.length),(9,aE b),(10,v),(17,q)],[bO [aE c,aE g]]⟩=r) :
  ∀(f i j:Nat),j-i<=f->i<=b->b<=j->j<=xs.length->eW (ar bK) [.tmp 6,.tmp 7] 0 k (.loop [0,2,4,8,9,10] Xv) [(0,gH (xs.map gm)),(2,.pC 89 [.agg [aE c,aE g]]),(4,bX 0),(8,aE xs.length),(9,aE i),(10,aE j)] [bO [aE c,aE g]]=r:=by
 intro f;induction f with
 |zero =>
  intro i j h1 h2 h3 h4;obtain rfl:i=b:=by omega
  rw[bt];have cn:((i:Int)<(j:Int))=False:=by simp; omega
  simp only[FX,cn,EW,seval];exact hx _ _
 |succ f ih =>
  intro i j h1 h2 h3 h4;rw[bt]
  by_cases hij:i<j
  ·have cn:((i:Int)<(j:Int))=True:=by simp; omega
   obtain⟨m1,m2,m3,m4,m5⟩:=CJ i j (by omega) (by omega)
   have hmid:(i+j) / 2<xs.length:=by omega
   have hx:=ai hmid;have hl:=hb.lt _ _ hx;have hk:=fun x:dZ=>k89 c g c g x [bO [aE c,aE g]]
   simp only[FX,cn,m1,m2,m3,m4,hx,hk,EW,seval];refine bq (fun hq=>?_) (fun hq=>?_)
   ·simp only[FX,m5,EW,seval];exact ih ((i+j) / 2+1) j (by omega) (hl.1 hq) h3 h4
   ·simp only[FX,EW,seval];exact ih i ((i+j) / 2) (by omega) h2 (nV.1 fun h=>by rw[hl.2 h] at hq; cases hq) (by omega)
  ·obtain rfl:i=b:=by omega
   have cn:((i:Int)<(j:Int))=False:=by simp; omega
   simp only[FX,cn,EW,seval];exact hx _ _
def apg(xs:List dZ)(c g:Int)(b:Nat)(hb:Ow (fun x=>decide (gb x c g<0)) xs b)(hn:xs.length<=100000):ar bK 218 [gH (xs.map gm),.agg [aE c,aE g],.pC 89 [.agg [aE c,aE g]]] []=some (.tuple [aE b,.bool (qy (fun x=>gb x c g==0) xs b)],[]):=by
 refine aw ?_;simp only[aaN,FX,EW,seval];refine X9 hb hn (fun v q=>?_) xs.length 0 xs.length (by omega) (by omega) hb.le (by omega)
 have hk:=fun x:dZ=>k89 c g c g x [bO [aE c,aE g]]
 unfold qy
 by_cases cn:b<xs.length
 ·have hx:=ai cn;have h1:((b:Int)<(xs.length:Int))=True:=by simp; omega
  simp only[FX,hx,h1,hk,EW,seval]
 ·have hx:xs[b]?=none:=ec (by omega)
  have h1:((b:Int)<(xs.length:Int))=False:=by simp; omega
  simp only[FX,hx,h1,EW,seval]
end
section
section
variable {α:Type} (enc:α->ag) {f sz bytes:Nat}
def Bw(hp:bK.mQ f=some (lG sz bytes))(hw:∀a,(enc a).cells.length=sz)(hb:bytes<=1000){l:List α}(h0:l≠[])(hn:l.length<=100000)(M:aH) :
  ar bK f [gH (l.map enc)] M=some (.cN M.length 0 sz 0 l.length,M++[.arr sz 0 (l.map enc)]):=by
 refine eX (g:=lG sz bytes) hp ?_;obtain⟨a,r,rfl⟩:=dV h0;have hw:wid ((a::r).map enc) sz:=by have:=sF enc sz hw (a::r); simpa using this
 have hr:cu ((a::r).map enc).length bytes:=by have:=pW (a:=(a::r).length) (b:=bytes) (by omega) (by omega); simpa using this
 unfold lG;simp only[aP] at hw hr ⊢;rw[dS ⟨hw,hr⟩];simp
def Ck(hp:bK.mQ f=some (lG sz bytes)){l:List α}(h0:l=[])(M:aH):ar bK f [gH (l.map enc)] M=some (.slice .c0 [],M):=by
 subst h0; exact eX (g:=lG sz bytes) hp rfl
def GZ(hp:bK.mQ f=some (km sz bytes))(hb:bytes<=1000){l:List α}{b id v:Nat}(h:b<=l.length)(hn:l.length<=100000)(x:ag)(hx:x.cells.length=sz)(M:aH)(hM:nth M id=some (.arr sz v (l.map enc))) :
  ar bK f [.cN id v sz 0 l.length,aE b,gH [x]] M=some (.cN id (v+1) sz 0 (l.length+1),jk M id (.arr sz (v+1) ((l.map enc).take b++x::(l.map enc).drop b))):=by
 refine eX (g:=km sz bytes) hp ?_;have hr:cu ((l.map enc).length+1) bytes:=by have:=pW (a:=l.length+1) (b:=bytes) (by omega) (by omega); simpa using this
 unfold km;simp only[hM];rw[dS ⟨trivial,trivial,trivial,by simp,by omega,by simpa using h,hx,hr⟩]
 simp
def DU(hp:bK.mQ f=some (km sz bytes)){b:Nat}(h0:b=0)(x:ag)(hx:x.cells.length=sz)(M:aH) :
  ar bK f [.slice .c0 [],aE (b:Int),gH [x]] M=some (.cN M.length 0 sz 0 1,M++[.arr sz 0 [x]]):=by
 subst h0;refine eX (g:=km sz bytes) hp ?_;unfold km;simp only[];rw[dS ⟨rfl,hx⟩]
def akr(hp:bK.mQ f=some (kE sz)){l:List α}{b id v:Nat}(h:b<l.length)(hn:l.length<=100000)(M:aH)(hM:nth M id=some (.arr sz v (l.map enc))) :
  ar bK f [.cN id v sz 0 l.length,aE b,aE ((b+1:Nat):Int)] M=some (.cN id (v+1) sz 0 (l.length-1),jk M id (.arr sz (v+1) ((l.map enc).take b++(l.map enc).drop (b+1)))):=by
 refine eX (g:=kE sz) hp ?_;unfold kE;simp only[hM];rw[dS ⟨trivial,trivial,trivial,by simp,by omega,by simpa using h,by omega,by simp; omega⟩]
 simp
def NI{M:aH}(i:Nat)(a b:dv):jk (jk M i a) i b=jk M i b:=by
 induction M generalizing i with
 |nil=>rfl
 |cons x r ih =>
  cases i with
  |zero=>rfl
  |succ i=>simp only[jk,ih]
def V3{l:List α}{b:Nat}(h:b<l.length):List.take (l.length-1) ((l.map enc).take b++(l.map enc).drop (b+1))=(l.eraseIdx b).map enc:=by
 rw[bS (by simp; omega),List.eraseIdx_eq_take_drop_succ]
 simp
def DT(hp:bK.mQ f=some (rM sz)){l:List α}{b id v:Nat}(h:b<l.length)(hn:l.length<=100000)(M:aH)(hM:nth M id=some (.arr sz v (l.map enc))) :
  ar bK f [.cN id v sz 0 l.length,aE b,aE ((b+1:Nat):Int)] M=some (gH ((l.eraseIdx b).map enc),jk M id (.tick sz (l.length-1))):=by
 refine eX (g:=rM sz) hp ?_;unfold rM kE;simp only[hM];rw[dS ⟨trivial,trivial,trivial,by simp,by omega,by simpa using h,by omega,by simp; omega⟩]
 simp only[bT,ag.vI,ag.oo,FH hM,ag.ids,ag.ml,ag.ib,sm,NI,aG,List.drop_zero,ju,fT];rw[V3 enc h];have:(List.take b (l.map enc)++List.drop (b+1) (l.map enc)).length=l.length-1:=by simp; omega
 rw[this]
def K4{l:List α}{b:Nat}(h:b<=l.length)(x:α):List.take (l.length+1) ((l.map enc).take b++enc x::(l.map enc).drop b)=(l.take b++x::l.drop b).map enc:=by
 rw[bS (by simp; omega)]
 simp
end
attribute [local irreducible] eW fQ lh gK dW kr ar aM cq bI
def Oa(t:Tree)(aq:Int)(ht:Small t)(hr:qx t)(M:aH):aM (ar bK) 86 [.agg [aN t.ae,aE t.next,aE t.aj],aE aq] M=some (.tuple [.agg (aF (aY t.ae aq)),.bool (find t.ae aq).isSome],M) :=
 cO (c86 t aq ht hr) M
def akV(t:Tree)(aq:Int)(ht:Small t)(hr:qx t)(M:aH):aM (ar bK) 200 [.agg [aN t.ae,aE t.next,aE t.aj],aE aq] M=some (.tuple [.agg (aI (jU t aq).1),aE (jU t aq).2],M) :=
 cO (ao3 t aq ht hr) M
end
section
attribute [local irreducible] eW fQ lh gK dW kr ar aM cq bI
def JB(l:List dZ)(c h:Int):Int×Int:=match l.find? (pf c h) with
 |some x=>(x.aq,0)
 |none=>(0,80)
def apj(l:List dZ)(c h:Int)(hn:l.length<=100000):ar bK 226 [eo l,aE c,aE h] []=some (.tuple [aE (JB l c h).1,aE (JB l c h).2],[]):=by
 refine aw ?_;have hk:=abj l c h hn;simp only[aaQ,ab7,hk,EW,seval];unfold JB;rcases xa (pf c h) l 0 with ⟨h1,h2⟩|⟨m,x,h1,h2,h3,_⟩
 ·simp only[ab7,h1,h2,EW,seval]
 ·have cn:(((0+m:Nat):Int)<0)=False:=by simp
  simp only[ab7,h1,h2,h3,cn,hV,EW,seval]
def aqN l c h hn:=cP (apj l c h hn)
def nj(l:List dZ)(aq:Int):Bool:=l.any fun x=>x.aq==aq
def c92(l:List dZ)(aq:Int)(hn:l.length<=100000):ar bK 92 [eo l,aE aq] []=some (.bool (nj l aq),[]):=by
 refine aw ?_;have hk:aM (ar bK) 164 [eo l,.func 165 [bX 0]] [bO [aE aq]]=some (.bool (nj l aq),[bO [aE aq]]):=jc (ids:=[0]) rfl rfl (Ua aq) rfl rfl (aiU l aq hn) rfl rfl rfl rfl rfl;simp only[akd,E92,hk,EW,seval]
def iT(t:Tree):List Int:=(t.ae.filter fO).map Node.aq
def tn(t:Tree)(l:List dZ)(c h aq:Int):List dZ×Int :=
 if !yY c h then (l,1)
 else if !(find t.ae aq).isSome||fO (aY t.ae aq) then (l,70)
 else if (aY t.ae aq).kind==2 then (l,72)
 else if qy (fun x=>gb x c h==0) l (kx (fun x=>decide (gb x c h<0)) l)=true then (l,71)
 else if decide (64<=(l.length:Int)) then (l,76)
 else (l.take (kx (fun x=>decide (gb x c h<0)) l)++⟨c,h,aq⟩::l.drop (kx (fun x=>decide (gb x c h<0)) l),0)
def vl(a b:dZ):Prop:=a.cD<b.cD\/(a.cD=b.cD/\a.handle<b.handle)
abbrev sd(l:List dZ):Prop:=l.Pairwise vl
def pB(x:dZ)(c h:Int):(gb x c h<0)↔(x.cD<c\/(x.cD=c/\x.handle<h)):=by
 unfold gb YP om
 by_cases h1:x.cD<c
 ·simp[h1]
 ·by_cases h2:c<x.cD
  ·simp[h1,h2]; omega
  ·have:x.cD=c:=by omega
   by_cases h3:x.handle<h
   ·simp[h3,this]
   ·by_cases h4:h<x.handle
    ·simp[h3,h4,this]
    ·simp[h3,h4,this]
def yc(x:dZ)(c h:Int):(gb x c h=0)↔(x.cD=c/\x.handle=h):=by
 unfold gb YP om
 by_cases h1:x.cD<c
 ·simp[h1]; omega
 ·by_cases h2:c<x.cD
  ·simp[h1,h2]; omega
  ·have:x.cD=c:=by omega
   by_cases h3:x.handle<h
   ·simp[h3,this]; omega
   ·by_cases h4:h<x.handle
    ·simp[h3,h4,this]; omega
    ·simp[h3,h4,this]; omega
def CE{l:List dZ}(h:sd l)(c g:Int):Ow (fun x=>decide (gb x c g<0)) l (kx (fun x=>decide (gb x c g<0)) l):=by
 refine Ft (h.imp ?_);intro a b hab hb;simp only[ba,pB] at hb ⊢;unfold vl at hab;omega
def aqL(l:List dZ)(c g:Int)(hl:sd l)(hn:l.length<=100000)(M:aH):aM (ar bK) 218 [eo l,.agg [aE c,aE g],.pC 89 [.agg [aE c,aE g]]] M =
  some (.tuple [aE (kx (fun x=>decide (gb x c g<0)) l),.bool (qy (fun x=>gb x c g==0) l (kx (fun x=>decide (gb x c g<0)) l))],M) :=
 cO (apg l c g _ (CE hl c g) hn) M
def aoc(t:Tree)(l:List dZ)(c h aq:Int)(ht:Small t)(hr:qx t)(hl:sd l)(hn:l.length<=64):ar bK 135 [bo t,eo l,aE c,aE h,aE aq] []=some (.tuple [eo (tn t l c h aq).1,aE (tn t l c h aq).2],[]):=by
 refine aw ?_;have q1:=Oa t aq ht hr;have q2:=aqL l c h hl (by omega)
 have hb:=(CE hl c h).le;unfold tn;generalize kx (fun x=>decide (gb x c h<0)) l=b at q2 hb ⊢
 generalize qy (fun x=>gb x c h==0) l b=e at q2 ⊢
 simp only[Py,LV,bo,aI,k88,q1,q2,EW,seval];refine bq (fun h1=>?_) (fun h1=>?_)
 ·simp only[LV,h1,EW,seval]
 ·have q3:=fun M=>adm (aY t.ae aq) M
  simp only[aF] at q3
  by_cases h0:l=[]
  ·have hb0:b=0:=by subst h0; simpa using hb
   have p1:=fun M=>Ck gm (f:=220) (sz:=3) (bytes:=24) rfl h0 M
   have p2:=fun M=>DU (f:=219) (sz:=3) (bytes:=24) rfl hb0 (.agg [aE c,aE h,aE aq]) rfl M
   simp only[LV,h1,q1,q2,q3,aF,EW,seval]
   repeat' ((first|apply bq|apply bU|apply dE)<;>intro hb<;>simp only[hb,EW,LV,q3,p1,p2,aF,seval])
   all_goals clear q1 q2 q3 p1 p2
   all_goals first|(simp_all only[pj,↓reduceIte,reduceCtorEq,an]; done)|(simp_all only[pj,↓reduceIte,reduceCtorEq,an]; rfl)
  ·have hb0:=hb;have p1:=fun M=>Bw gm (f:=220) (sz:=3) (bytes:=24) rfl (fun _=>rfl) (by omega) h0 (by omega) M
   have p2:=fun M=>GZ gm (f:=219) (sz:=3) (bytes:=24) (v:=0) (id:=3) rfl (by omega) hb (by omega) (.agg [aE c,aE h,aE aq]) rfl M
   simp only[LV,h1,q1,q2,q3,aF,EW,seval]
   repeat' ((first|apply bq|apply bU|apply dE)<;>intro hb<;>simp only[hb,EW,LV,q3,p1,p2,aF,seval])
   all_goals clear q1 q2 q3 p1 p2
   all_goals first|(simp_all only[pj,↓reduceIte,reduceCtorEq,an]; done)|(simp_all only[pj,↓reduceIte,reduceCtorEq,an]; exact congrArg (fun z=>some (ag.tuple [ag.slice .sh z,aE 0],([]:aH))) (K4 gm hb0 ⟨c,h,aq⟩))
def aqs(t:Tree)(l:List dZ)(c h aq:Int)(ht:Small t)(hr:qx t)(hl:sd l)(hn:l.length<=64)(M:aH):aM (ar bK) 135 [.agg [aN t.ae,aE t.next,aE t.aj],eo l,aE c,aE h,aE aq] M=some (.tuple [eo (tn t l c h aq).1,aE (tn t l c h aq).2],M) :=
 cO (aoc t l c h aq ht hr hl hn) M
def k92 l aq hn:=cP (c92 l aq hn)
def kU(t:Tree)(l:List dZ)(c h:Int):Tree×List dZ×Int:=match l.find? (pf c h) with
 |none=>(t,l,80)
 |some x=>(if (find t.ae x.aq).isSome&&fO (aY t.ae x.aq) && !nj (l.eraseP (pf c h)) x.aq then (jU t x.aq).1 else t,l.eraseP (pf c h),0)
def aod(t:Tree)(l:List dZ)(c h:Int)(ht:Small t)(hr:qx t)(hn:l.length<=64):ar bK 136 [bo t,eo l,aE c,aE h] []=some (.tuple [bo (kU t l c h).1,eo (kU t l c h).2.1,aE (kU t l c h).2.2],[]):=by
 refine aw ?_;have hk:=abj l c h (by omega)
 unfold kU;rcases xa (pf c h) l 0 with ⟨h1,h2⟩|⟨m,x,h1,h2,h3,h4⟩
 ·simp only[KG,abU,hk,h1,h2,bo,aI,EW,seval]
 ·have cn:(((0+m:Nat):Int)<0)=False:=by simp
  have hm:m<l.length:=(ak.1 h2).1;have hne:l≠[]:=by rintro rfl; simp at hm
  have p1:=fun M=>Bw gm (f:=220) (sz:=3) (bytes:=24) rfl (fun _=>rfl) (by omega) hne (by omega) M
  have p2:=fun M=>DT gm (f:=223) (sz:=3) (v:=0) (id:=2) rfl hm (by omega) M
  have hw:IntKind.i64.wrap ((m:Int)+1)=((m+1:Nat):Int):=by rw[fW (by omega) (by omega)]; rfl
  have q1:=Oa t x.aq ht hr;have q2:=akV t x.aq ht hr;have q3:=fun M=>adm (aY t.ae x.aq) M
  have q4:=k92 (l.eraseP (pf c h)) x.aq (by have:=List.length_eraseP_le (p:=pf c h) (l:=l); omega)
  simp only[h3];generalize jU t x.aq=fr at q2 ⊢;rw[h4] at p2;simp only[aF,aI] at q1 q2 q3;simp only[KG,abU,hk,h1,h2,cn,hV,p1,p2,hw,q1,q3,aF,bo,aI,FZ,sm,EW,seval]
  repeat' ((first|apply bq|apply bU|apply dE)<;>intro hb<;>simp only[hb,EW,abU,hk,h1,h2,cn,p1,p2,hw,q1,q2,q3,q4,aF,FZ,sm,seval])
  all_goals clear q1 q2 q3 q4 p1 p2 hk
  all_goals first|rfl|(simp_all only[pj,↓reduceIte,reduceCtorEq,an]; done)|(simp_all only[pj,↓reduceIte,reduceCtorEq,an]; rfl)|skip
def akF(t:Tree)(l:List dZ)(c h:Int)(ht:Small t)(hr:qx t)(hn:l.length<=64)(M:aH):aM (ar bK) 136 [.agg [aN t.ae,aE t.next,aE t.aj],eo l,aE c,aE h] M=some (.tuple [.agg (aI (kU t l c h).1),eo (kU t l c h).2.1,aE (kU t l c h).2.2],M) :=
 cO (aod t l c h ht hr hn) M
def cF.sz{t:Tree}{cz:Int->Nat}{x:Int}(h:cF t cz x):Sz 200 t where
 ae:=h.ae
 aL:=fun n hn=>by have:=(h.v8 _ _ ((eD h.ja.jd).2 ⟨hn,rfl⟩)).2; omega
 data:=fun n hn=>by
  have hi:=(eD h.ja.jd).2 ⟨hn,rfl⟩;rcases h.kind _ _ hi with h1|h1
  ·have:=(h.file _ _ hi h1).2.2; omega
  ·rw[h.dir _ _ hi h1]; simp
def Sz.FI{b:Nat}{t:Tree}(h:Sz b t)(hb:b<=100000:=by omega):Small t:=h.small hb
def Rt(t:Tree):Prop:=∃cz,cF t cz 0
def Rt.ja{t:Tree}(h:Rt t):qx t:=let ⟨_,g⟩:=h; g.ja
def Rt.sz{t:Tree}(h:Rt t):Sz 200 t:=let ⟨_,g⟩:=h; g.sz
def Rt.small{t:Tree}(h:Rt t):Small t:=h.sz.small (by omega)
def Rt.free{t:Tree}(h:Rt t)(aq:Int):Rt (jU t aq).1:=let ⟨_,g⟩:=h; ⟨_,DR g aq⟩
def Rt.close{t:Tree}(h:Rt t)(l:List dZ)(c g:Int):Rt (kU t l c g).1:=by
 unfold kU;split
 ·exact h
 ·split
  ·exact h.free _
  ·exact h
def x5(t:Tree)(l:List dZ)(c g:Int):(kU t l c g).2.1.length<=l.length:=by
 unfold kU;split
 ·exact aC _
 ·exact List.length_eraseP_le
def Dd(n:Tree)(B:Nat)(M:aH):List.map (ag.kC B M) (aI n)=aI n:=rfl
def ae9{t:Tree}(ht:t.ae.length<=100000){k:List K}{R:List Int->Option (ag×aH)}
  (hx:∀(out:List Int) e,kr (ar bK) [.tmp 2] 0 k ⟨.exit 0,(3,.slice (.own 1) (out.map kv))::e,[bO (aI t),.tick 1 out.length]⟩=R out) :
  ∀(l pre:List Node)(out:List Int),t.ae=pre++l->out.length<=pre.length->eW (ar bK) [.tmp 2] 0 k (.loop [3,7,8,9] ae1) [(3,.slice (.own 1) (out.map kv)),(7,aN t.ae),(8,aE t.ae.length),(9,aE pre.length)] [bO (aI t),.tick 1 out.length]=R (out++(l.filter fO).map Node.aq):=by
 intro l;induction l with
 |nil =>
  intro pre out h ho;rw[bt];simp only[E90,gM h,ll,EW,seval];exact hx _ _
 |cons n rest ih =>
  intro pre out h ho;rw[bt];have dR:pre.length+1<=100000:=by rw[h] at ht; simp at ht; omega
  have hw:=vu pre n;have hi1:=ih (pre++[n]) out (by rw[h]; simp) (by simp; omega)
  have hi2:=ih (pre++[n]) (out++[n.aq]) (by rw[h]; simp) (by simp; omega)
  simp only[aD,au,av,bu,aP,bc] at hi1 hi2;have r1:cu (out.length+1) 8=True:=qm;have q3:=fun M=>adm n M
  simp only[aF] at q3;simp only[E90,fV h,fc h,aF,aI,q3,EW,seval] at hi1 hi2 ⊢;refine bq (fun hb=>?_) (fun hb=>?_)
  ·simp only[E90,hb,r1,rS,hw,EW,seval];simpa[hb] using hi2
  ·simp only[E90,hb,hw,EW,seval];simpa[hb] using hi1
def c90(t:Tree)(ht:t.ae.length<=100000):ar bK 90 [bo t] []=some (we (iT t),[]):=by
 refine aw ?_;have hl:=ae9 ht (k:=[.block 0,.seq al9]) (R:=fun out=>some (we out,[])) (fun out e=>by simp only[E90,EW,seval]) t.ae [] [] rfl (aC _)
 simp only[aI,bc,av] at hl;simp only[adf,E90,bo,aI,EW,seval];exact hl
def k90(t:Tree)(ht:t.ae.length<=100000)(M:aH):aM (ar bK) 90 [.agg [aN t.ae,aE t.next,aE t.aj]] M=some (we (iT t),M):=cO (c90 t ht) M
def pA(c:Int):List dZ->Tree->List dZ->Tree×List dZ
 | [],t,l=>(t,l)
 |x::r,t,l=>if x.cD==c then pA c r (kU t l c x.handle).1 (kU t l c x.handle).2.1 else pA c r t l
def yR(t:Tree)(l:List dZ)(c:Int):Tree×List dZ:=pA c l t l
def XT{h0:List dZ}(c:Int)(h64:h0.length<=64){k:List K}{R:Tree->List dZ->Option (ag×aH)}
  (hx:∀(t:Tree) (l:List dZ) e,kr (ar bK) [.dB 6 3,.tmp 7] 0 k ⟨.exit 0,(1,eo l)::(2,aE c)::(3,bX 0)::(6,bX 1)::e,[bO (aI t),bO [.slice .c0 [],aE 0,aE 0]]⟩=R t l) :
  ∀(r pre:List dZ)(t:Tree)(l:List dZ),h0=pre++r->Rt t->l.length<=64->eW (ar bK) [.dB 6 3,.tmp 7] 0 k (.loop [1,2,3,6,10,11,12] Xa) [(1,eo l),(2,aE c),(3,bX 0),(6,bX 1),(10,eo h0),(11,aE h0.length),(12,aE pre.length)] [bO (aI t),bO [.slice .c0 [],aE 0,aE 0]]=R (pA c r t l).1 (pA c r t l).2:=by
 intro r;induction r with
 |nil =>
  intro pre t l h ht hl;rw[bt];simp only[LX,gM h,pA,EW,seval];exact hx _ _ _
 |cons x rest ih =>
  intro pre t l h ht hl;rw[bt];have dR:pre.length+1<=100000:=by rw[h] at h64; simp at h64; omega
  have hw:=vu pre x;have q1:=akF t l c x.handle ht.small ht.ja hl;have hi1:=ih (pre++[x]) t l (by rw[h]; simp) ht hl
  have hi2:=ih (pre++[x]) _ _ (by rw[h]; simp) (ht.close l c x.handle) (aV (x5 t l c x.handle) hl)
  rw[pA];generalize kU t l c x.handle=cl at q1 hi2 ⊢;simp only[aD,au,av] at hi1 hi2;simp only[LX,fV h,fc h,hV,aI,EW,seval] at q1 hi1 hi2 ⊢;refine bq (fun hb=>?_) (fun hb=>?_)
  ·simp only[LX,hb,q1,hw,EW,seval];exact hi2
  ·simp only[LX,hb,hw,af,EW,seval];exact hi1
def aom(t:Tree)(l:List dZ)(c:Int)(ht:Rt t)(hl:l.length<=64):ar bK 148 [bo t,eo l,aE c] []=some (.tuple [bo (yR t l c).1,eo (yR t l c).2],[]):=by
 refine aw ?_;have hq:=XT (h0:=l) c hl (k:=[.block 0,.seq afL]) (R:=fun t l=>some (.tuple [bo t,eo l],[])) (fun t l e=>by simp only[LX,bo,aI,EW,seval]) l [] t l rfl ht hl
 simp only[aI,av] at hq;simp only[Z8,LX,bo,aI,EW,seval];exact hq
def aqz(t:Tree)(l:List dZ)(c:Int)(ht:Rt t)(hl:l.length<=64)(M:aH):aM (ar bK) 148 [.agg [aN t.ae,aE t.next,aE t.aj],eo l,aE c] M=some (.tuple [.agg (aI (yR t l c).1),eo (yR t l c).2],M) :=
 cO (aom t l c ht hl) M
end
abbrev AM(α:Type):=List (Int×α)
section
variable {α:Type}
def AN(l:AM α):List ag:=l.map fun p => .int .i64 p.1
def pQ(enc:α->ag)(l:AM α):List ag:=l.map fun p=>enc p.2
def dA:AM α->Int->Option α
 | [],_=>none
 |(k',v)::l,k=>if k=k' then some v else dA l k
def lJ:AM α->Int->α->AM α
 | [],k,v=>[(k,v)]
 |(k',v')::l,k,v=>if k=k' then (k,v)::l else (k',v')::lJ l k v
theorem gN:∀(l:AM α)(k:Int)(v:α)(j:Int),dA (lJ l k v) j=if j=k then some v else dA l j
 | [],k,v,j=>by simp only[lJ,dA]
 |(k',v')::l,k,v,j=>by
  simp only[lJ];split
  ·rename_i h;subst h;simp only[dA];split<;>rfl
  ·rename_i h;simp only[dA];split
   ·rename_i h2;rw[aQ (fun hh=>h (hh.symm.trans h2))]
   ·exact gN l k v j
def uO:∀(l:AM α)(k:Int)(v:α),dA l k=some v->(k,v)∈l
 |(k',v')::l,k,v,h=>by
  simp only[dA] at h;split at h
  ·rename_i hk;injection h with h
   subst h; subst hk;exact bj
  ·exact aX _ (uO l k v h)
def CK:∀(l:AM α)(k:Int)(v:α),(lJ l k v).length<=l.length+1
 | [],_,_=>by simp[lJ]
 |(k',v')::l,k,v=>by
  simp only[lJ];split
  ·simp
  ·have:=CK l k v;simp; omega
def mM(enc:α->ag):∀(l:AM α)(k:Int),wz .i (aE k) (AN l) (pQ enc l)=some ((dA l k).map enc)
 | [],k=>rfl
 |(k',v)::l,k=>by
  show bI (jW .i (aE k) (aE k')) (fun b=>xy b (some (some (enc v))) (wz .i (aE k) (AN l) (pQ enc l)))=_
  rw[mM enc l k];simp only[jW,↓reduceIte,bT,dA]
  by_cases h:k=k'
  ·rw[bh h,show(k==k')=true by simpa using h,wD]; rfl
  ·rw[aQ h,show(k==k')=false by simpa using h,nZ]
end
section
variable {α:Type}
def rJ(enc:α->ag):∀(l:AM α)(k:Int)(v:α),wA .i (aE k) (enc v) (AN l) (pQ enc l)=some (AN (lJ l k v),pQ enc (lJ l k v))
 | [],k,v=>by
  show bI (jW .i (aE k) (aE k)) (fun _=>some ([aE k],[enc v]))=_
  simp only[jW,↓reduceIte,bT];rfl
 |(k',v')::l,k,v=>by
  show bI (jW .i (aE k) (aE k')) (fun b=>xy b (some (aE k::AN l,enc v::pQ enc l)) (bI (wA .i (aE k) (enc v) (AN l) (pQ enc l)) fun x=>some (aE k'::x.1,enc v'::x.2)))=_
  rw[rJ enc l k v];simp only[jW,↓reduceIte,bT,lJ]
  by_cases h:k=k'
  ·rw[bh h,show(k==k')=true by simpa using h,wD]; rfl
  ·rw[aQ h,show(k==k')=false by simpa using h,nZ]; rfl
def OS(enc:α->ag)(B:Nat)(M:aH)(h:∀a,(enc a).kg B M=enc a)(l:AM α):List.map (ag.kg B M) (pQ enc l)=pQ enc l:=by
 unfold pQ;rw[jj];exact dx (fun p _=>h p.2)
def P6(enc:α->ag)(h:∀a,(enc a).ids=[])(l:AM α):(pQ enc l).flatMap ag.ids=[]:=by
 unfold pQ;rw[List.flatMap_map];exact lq.2 fun p _=>h p.2
def Jt(enc:α->ag)(h:∀a,(enc a).flat=true)(l:AM α):(pQ enc l).all ag.flat=true:=bH.2 fun x hx=>by
 obtain⟨p,_,rfl⟩:=cE.1 hx;exact h p.2
def UF(enc:α->ag)(ρ:Nat->Nat)(h:∀a,(enc a).pv ρ=enc a)(l:AM α):(pQ enc l).map (ag.pv ρ)=pQ enc l:=by
 unfold pQ;rw[jj];exact dx (fun p _=>h p.2)
def Lj(o:Option Bool):o9 (.bool false) false (o.map ag.bool) = .bool (o.getD false):=by cases o<;>rfl
end
def lC(ae:List Node):Nat->Int->Int×AM Bool->Int×AM Bool
 |0,_,s=>s
 |f+1,aq,s=>(aY ae aq).aL.foldl (fun s e=>if !((dA s.2 e.aq).getD false) then lC ae f e.aq (s.1,lJ s.2 e.aq true) else s) (lK (s.1+(aY ae aq).data.length),s.2)
def uX:ag := .func 166 [.ptr 0 0,.ptr 1 0,.ptr 2 0,.ptr 3 0]
def jl(t:Tree)(s:Int×AM Bool):aH:=[.cells (aI t),.cells [.int .i64 s.1],.cells [.gP 4],.cells [uX],.map (AN s.2) (pQ ag.bool s.2)]
def flB(l:AM Bool):(pQ ag.bool l).all ag.flat=true:=Jt _ (fun _=>rfl) l
def rnB(ρ:Nat->Nat)(l:AM Bool):(pQ ag.bool l).map (ag.pv ρ)=pQ ag.bool l:=UF _ _ (fun _=>rfl) l
def idB(l:AM Bool):(pQ ag.bool l).flatMap ag.ids=[]:=P6 _ (fun _=>rfl) l
def bkB(B:Nat)(M:aH)(l:AM Bool):List.map (ag.kg B M) (pQ ag.bool l)=pQ ag.bool l:=OS _ _ _ (fun _=>rfl) l
def HR(t:Tree)(s:Int×AM Bool):(jl t s).map (dv.pv (hZ [0,1,2,3,4]))=jl t s/\(jl t s).map (dv.pv (vN [0,1,2,3,4]))=jl t s:=by
 constructor
 ·simp only[jl,aP,bc,dv.pv,rnB]; rfl
 ·simp only[jl,aP,bc,dv.pv,rnB]; rfl
def al5(t:Tree)(s:Int×AM Bool)(L:aH):iU (jl t s++L) (hZ [0,1,2,3,4]) [0,1,2,3,4]=some (jl t s):=by
 have h:=(HR t s).1;simp only[jl,aP,bc] at h;injection h with h0 h; injection h with h1 h; injection h with h2 h; injection h with h3 h; injection h with h4 h
 simp only[jl,aU,aW,iU,nth,h0,h1,h2,h3,h4];simp only[dv.flat,flB,aG];rfl
def aqc(t:Tree)(s:Int×AM Bool)(L:aH):pG (jl t s++L) [0,1,2,3]=[4,0,1,2,3]/\pG (jl t s++L) [0,1,2,3,4]=[4,0,1,2,3]:=by
 refine⟨rfl,?_⟩
 show[4,0,1,2,3]++((pQ ag.bool s.2).flatMap ag.ids++[])=_
 rw[idB]; rfl
def UC(t:Tree)(s:Int×AM Bool)(L:aH):reach (jl t s++L) [0,1,2,3]=[0,1,2,3,4]/\ky (jl t s++L) [0,1,2,3,4]=[0,1,2,3,4]:=by
 obtain⟨h1,h2⟩:=aqc t s L;have e0:j6 [] [0,1,2,3]=[0,1,2,3]:=rfl;have e1:j6 [0,1,2,3] [4,0,1,2,3]=[0,1,2,3,4]:=rfl;have e2:j6 [0,1,2,3,4] [4,0,1,2,3]=[0,1,2,3,4]:=rfl;simp only[reach,ky,e0,h1,e1,h2,e2,jT]
def agf(t:Tree)(s s':Int×AM Bool)(L:aH):kR [0,1,2,3,4] (jl t s++L) [0,1,2,3,4] (jl t s')=jl t s'++L:=by
 have h:=(HR t s').2;simp only[jl,aP,bc] at h;injection h with h0 h; injection h with h1 h; injection h with h2 h; injection h with h3 h; injection h with h4 h
 simp only[jl,aU,aW,kR,h0,h1,h2,h3,h4,jk]
def ZL(t:Tree)(s:Int×AM Bool):(jl t s).all dv.flat=true:=by
 simp only[jl,kX,dv.flat,flB]; rfl
def ai9{t:Tree}{aq:Int}{s s':Int×AM Bool}{L:aH}(h:ar bK 166 [aE aq,bX 0,bX 1,bX 2,bX 3] (jl t s)=some (.tuple [],jl t s')) :
  aM (ar bK) 166 [aE aq,bX 0,bX 1,bX 2,bX 3] (jl t s++L)=some (.tuple [],jl t s'++L) :=
 jc (ids:=[0,1,2,3,4]) rfl (UC t s L).1 (al5 t s L) (UC t s L).2 rfl h rfl rfl (ZL t s') rfl (agf t s s' L)
def xN(t:Tree)(s:Int×AM Bool)(n:Node):aH:=[.cells [aN t.ae,.int .i64 t.next,.int .i64 t.aj],.map (AN s.2) (pQ ag.bool s.2),.cells [.gP 1],.cells [.int .i64 s.1],.cells [.func 166 [.ptr 0 0,.ptr 3 0,.ptr 2 0,.ptr 4 0]],.cells (aF n)]
def acT{t:Tree}{aq:Int}{s':Int×AM Bool}(n:Node)(h:ar bK 166 [aE aq,bX 0,bX 1,bX 2,bX 3] (jl t (0,[]))=some (.tuple [],jl t s')) :
  aM (ar bK) 166 [aE aq,bX 0,bX 3,bX 2,bX 4] (xN t (0,[]) n)=some (.tuple [],xN t s' n):=by
 have i1:pG (xN t (0,[]) n) [0,3,2,4]=[1,0,3,2,4]:=rfl;have i2:pG (xN t (0,[]) n) [0,3,2,4,1]=[1,0,3,2,4]:=rfl;have e0:j6 [] [0,3,2,4]=[0,3,2,4]:=rfl;have e1:j6 [0,3,2,4] [1,0,3,2,4]=[0,3,2,4,1]:=rfl;have e2:j6 [0,3,2,4,1] [1,0,3,2,4]=[0,3,2,4,1]:=rfl
 have hr:reach (xN t (0,[]) n) [0,3,2,4]=[0,3,2,4,1]/\ky (xN t (0,[]) n) [0,3,2,4,1]=[0,3,2,4,1]:=by
  simp only[reach,ky,e0,i1,e1,i2,e2,jT]
 have hp:iU (xN t (0,[]) n) (hZ [0,3,2,4,1]) [0,3,2,4,1]=some (jl t (0,[])):=by
  simp only[xN,iU,nth,dv.flat,flB,bT,aG,dv.pv,rnB];rfl
 refine jc (ids:=[0,3,2,4,1]) rfl hr.1 hp hr.2 rfl h rfl rfl (ZL t s') rfl ?_;simp only[jl,xN,kR,dv.pv,rnB,jk];rfl
section
attribute [local irreducible] eW fQ lh gK dW kr ar aM cq bI
def XW{t:Tree}{n:Node}{f:Nat}{k:List K}{R:Int×AM Bool->Option (ag×aH)}(hn:n.aL.length<=100000)
  (ih:∀e,e∈n.aL->∀s,ar bK 166 [aE e.aq,bX 0,bX 1,bX 2,bX 3] (jl t s)=some (.tuple [],jl t (lC t.ae f e.aq s)))
  (hx:∀s e,kr (ar bK) [] 5 k ⟨.exit 0,e,jl t s++[bO (aF n)]⟩=R s) :
  ∀(l pre:List fg)(s:Int×AM Bool),n.aL=pre++l->eW (ar bK) [] 5 k (.loop [3,4,22,23,24] Xc) [(3,bX 2),(4,bX 3),(22,gS n.aL),(23,aE n.aL.length),(24,aE pre.length)] (jl t s++[bO (aF n)]) =
   R (l.foldl (fun s e=>if !((dA s.2 e.aq).getD false) then lC t.ae f e.aq (s.1,lJ s.2 e.aq true) else s) s):=by
 intro l;induction l with
 |nil =>
  intro pre s h;rw[bt];simp only[jl,LZ,gM h,jH,EW,seval] at hx ⊢;exact hx _ _
 |cons x rest ihl =>
  intro pre s h;rw[bt];have dR:pre.length+1<=100000:=by rw[h] at hn; simp at hn; omega
  have hw:=vu pre x;rw[cK];have hi1:=fun s=>ihl (pre++[x]) s (by rw[h]; simp)
  have q:=ai9 (L:=[bO (aF n),bO (fa x)]) (ih x (by rw[h]; simp) (s.1,lJ s.2 x.aq true))
  generalize lC t.ae f x.aq (s.1,lJ s.2 x.aq true)=s' at q ⊢;simp only[jl,uX,aF,fa,aD,au,av,aK,aU,aW] at hi1 q;simp only[jl,uX,LZ,fV h,fc h,aF,fa,mM,Lj,mapOf.eq_1,EW,seval];refine bq (fun hb=>?_) (fun hb=>?_)
  ·simp only[LZ,hb,hw,rJ,q,Dd,bkB,↓reduceIte,EW,seval];exact hi1 _
  ·simp only[LZ,hb,hw,Dd,bkB,af,EW,seval];exact hi1 _
def aoB{t:Tree}{cz:Int->Nat}(h:cF t cz 0):∀(f:Nat)(aq:Int)(s:Int×AM Bool),(∀n,find t.ae aq=some n->n.kind=2->13<f+cz aq)->0<f ->
  ar bK 166 [aE aq,bX 0,bX 1,bX 2,bX 3] (jl t s)=some (.tuple [],jl t (lC t.ae f aq s)):=by
 intro f;induction f with
 |zero=>intro aq s _ h0; omega
 |succ f ih =>
  intro aq s hd _;have q1:=Oa t aq h.sz.FI h.ja
  have hl:=XW (t:=t) (n:=aY t.ae aq) (f:=f) (k:=[.block 0]) (R:=fun s=>some (.tuple [],jl t s)) (by
    cases hi:find t.ae aq with
    |none=>simp[aY,hi,Node.zero]
    |some n=>have:=(h.v8 _ _ hi).2; simp only[aY,hi,bn]; omega) ?_ (fun s e=>by simp only[jl,uX,LZ,aF,Dd,bkB,EW,seval]) (aY t.ae aq).aL [] (lK (s.1+(aY t.ae aq).data.length),s.2) rfl
  ·refine aw ?_;rw[lC];simp only[jl,uX,aF,aU,aW,av] at hl q1;simp only[aaj,LZ,jl,uX,aI,aF,q1,EW,seval];exact hl
  ·intro e he s;cases hi:find t.ae aq with
   |none=>simp[aY,hi,Node.zero] at he
   |some n =>
    simp only[aY,hi,bn] at he
    have hk:n.kind=2:=by
     rcases h.kind _ _ hi with h1|h1
     ·rw[(h.file _ _ hi h1).1] at he; cases he
     ·exact h1
    have h1:=hd n hi hk;have h2:=(h.deep _ _ hi hk).1;obtain⟨_,_,e1,_,m,hm,hu⟩:=h.x9 _ _ _ hi he;refine ih e.aq s (fun n' hn' hk'=>?_) (by omega)
    rw[hm] at hn'; cases hn';have:=(h.n9 _ _ hm hk' e1).1;rw[hu hk'] at this;omega
def jm(ae:List Node)(aq:Int):Int×Int :=
 if (find ae aq).isSome&&(aY ae aq).kind==2 then (((lC ae 14 aq (0,[])).2.length:Int),(lC ae 14 aq (0,[])).1) else (0,0)
def c93{t:Tree}(h:Rt t)(aq:Int):ar bK 93 [bo t,aE aq] []=some (.tuple [aE (jm t.ae aq).1,aE (jm t.ae aq).2],[]):=by
 obtain⟨cz,h⟩:=h;refine aw ?_;have q1:=Oa t aq h.sz.FI h.ja;have q2:=aoB h 14 aq (0,[]) (fun n hn hk=>by omega) (by omega)
 unfold jm;generalize lC t.ae 14 aq (0,[])=s' at q2 ⊢;simp only[aF] at q1;simp only[ake,E93,bo,aI,q1,aF,EW,seval];refine bU (fun hb=>?_) (fun hb=>?_)
 ·simp only[hb,E93,EW,seval];refine bq (fun hc=>?_) (fun hc=>?_)
  ·have q3:=acT (aY t.ae aq) q2;simp only[xN,aF,AN,pQ,bc] at q3;simp only[hb,hc,q3,E93,mapOf.eq_1,EW,seval]
  ·simp only[hb,hc,E93,mapOf.eq_1,dP,af,EW,seval]
 ·simp only[hb,E93,mapOf.eq_1,dy,af,EW,seval]
def k93{t:Tree}(h:Rt t)(aq:Int)(M:aH):aM (ar bK) 93 [.agg [aN t.ae,aE t.next,aE t.aj],aE aq] M=some (.tuple [aE (jm t.ae aq).1,aE (jm t.ae aq).2],M) :=
 cO (c93 h aq) M
end
section
def afB(l:List cv)(o:Int)(b:dv):iU [bO [cJ l],bO [aE o],b] (hZ [0,1]) [0,1]=some [bO [cJ l],bO [aE o]]:=rfl
def afC(l:List cv)(o:Int)(b:dv):iU [b,bO [cJ l],bO [aE o]] (hZ [1,2]) [1,2]=some [bO [cJ l],bO [aE o]]:=rfl
attribute [local irreducible] eW fQ lh gK dW kr ar aM cq bI
abbrev ov(l:List cv):Prop:=l.Pairwise fun a b=>a.aq<b.aq
def vL(l:List cv)(aq:Int):Nat:=kx (fun x=>decide (om x.aq aq<0)) l
def D7(l:List cv)(aq:Int):Bool:=qy (fun x=>om x.aq aq==0) l (vL l aq)
def xe{l:List cv}(h:ov l)(aq:Int):Ow (fun x=>decide (om x.aq aq<0)) l (vL l aq):=by
 refine Ft (h.imp ?_);intro a b hab hb;simp only[ba,w5] at hb ⊢;omega
def aoE(l:List cv)(aq:Int)(h:ov l)(hn:l.length<=100000):ar bK 169 [cJ l,aE aq] []=some (.tuple [aE (vL l aq),.bool (D7 l aq)],[]):=by
 refine aw ?_;have q:=fun M=>cO (apv l aq _ (xe h aq) hn) M
 simp only[aam,amY,q,D7,EW,seval]
def akL l aq h hn:=cP (aoE l aq h hn)
def aoD(l:List cv)(dir o:Int)(h:ov l)(hn:l.length<=100000):ar bK 168 [aE dir,bX 0,bX 1] [bO [cJ l],bO [aE o]] =
  some (.bool ((if D7 l dir then dir else o)==0),[bO [cJ l],bO [aE (if D7 l dir then dir else o)]]):=by
 refine aw ?_;have q:=akL l dir h hn;simp only[aal,ab0,q,EW,seval];refine bq (fun hb=>?_) (fun hb=>?_)
 ·simp only[ab0,hb,aG,EW,seval]
 ·simp only[ab0,hb,af,az,EW,seval]
def rD(ae:List Node)(l:List cv):Nat->Int->Int
 |0,_=>0
 |f+1,dir=>if D7 l dir then dir else if dir != 1 then rD ae l f (aY ae dir).up else 0
def XX{t:Tree}{cz:Int->Nat}(ht:cF t cz 0){l:List cv}(hq:ov l)(hn:l.length<=100000){k:List K}{R:Int->Option (ag×aH)}
  (hx:∀o e,kr (ar bK) [] 2 k ⟨.exit 0,e,[bO [cJ l],bO [aE o],bO (aI t)]⟩=R o) :
  ∀(f:Nat)(dir:Int)(n:Node),find t.ae dir=some n->n.kind=2->cz dir<f->eW (ar bK) [] 2 k (.loop [1,2,3] Xd) [(1,aE dir),(2,.func 168 [bX 0,bX 1]),(3,bX 2)] [bO [cJ l],bO [aE 0],bO (aI t)] =
   R (rD t.ae l f dir):=by
 intro f;induction f with
 |zero=>intro dir n _ _ h; omega
 |succ f ih =>
  intro dir n hi hk hd;rw[bt,rD]
  have q0:aM (ar bK) 168 [aE dir,bX 0,bX 1] [bO [cJ l],bO [aE 0],bO (aI t)] =
    some (.bool ((if D7 l dir then dir else 0)==0),[bO [cJ l],bO [aE (if D7 l dir then dir else 0)],bO (aI t)]) :=
   jc (ids:=[0,1]) rfl rfl (afB l 0 _) rfl rfl (aoD l dir 0 hq hn) rfl rfl rfl rfl rfl
  have q1:=Oa t dir ht.sz.FI ht.ja;have hd1:=(ht.num _ _ hi).1;simp only[aF,aI] at q0 q1 hx;simp only[L0,q0,aI,EW,seval];cases hb:D7 l dir
  ·simp only[hb,af,az]
   by_cases h1:dir=1
   ·subst h1;simp only[L0,an,af,az,EW,seval];exact hx _ _
   ·have h1':(dir != 1)=true:=by simpa using h1
    obtain⟨g1,p,g2,g3⟩:=ht.n9 _ _ hi hk h1;have hi':=ih n.up p g2 g3 (by omega)
    simp only[aI] at hi';simp only[aY,hi,bn] at q1 ⊢;simp only[L0,h1',q1,aF,EW,seval];exact hi'
  ·simp only[hb,aG];have h0:(dir==0)=false:=by simp; omega
   simp only[h0,L0,EW,seval];exact hx _ _
def aoC{t:Tree}{cz:Int->Nat}(ht:cF t cz 0){l:List cv}(hq:ov l)(hn:l.length<=100000){dir:Int}{n:Node}(hi:find t.ae dir=some n)(hk:n.kind=2) :
  ar bK 167 [bo t,aE dir,.func 168 [bX 0,bX 1]] [bO [cJ l],bO [aE 0]]=some (.tuple [],[bO [cJ l],bO [aE (rD t.ae l 13 dir)]]):=by
 refine aw ?_;have hl:=XX ht hq hn (k:=[.block 0]) (R:=fun o=>some (.tuple [],[bO [cJ l],bO [aE o]])) (fun o e=>by simp only[L0,aI,EW,seval]) 13 dir n hi hk (by have:=(ht.deep _ _ hi hk).1; omega)
 simp only[aI] at hl;simp only[aak,L0,bo,aI,EW,seval];exact hl
def jM(ae:List Node)(l:List cv)(dir:Int):Int:=rD ae l 13 dir
def c94{t:Tree}{cz:Int->Nat}(ht:cF t cz 0){l:List cv}(hq:ov l)(hn:l.length<=100000){dir:Int}{n:Node}(hi:find t.ae dir=some n)(hk:n.kind=2) :
  ar bK 94 [bo t,cJ l,aE dir] []=some (aE (jM t.ae l dir),[]):=by
 refine aw ?_
 have q:aM (ar bK) 167 [.agg (aI t),aE dir,.func 168 [bX 1,bX 2]] [bO (aI t),bO [cJ l],bO [aE 0]] =
   some (.tuple [],[bO (aI t),bO [cJ l],bO [aE (rD t.ae l 13 dir)]]) :=
  jc (ids:=[1,2]) rfl rfl (afC l 0 _) rfl rfl (aoC ht hq hn hi hk) rfl rfl rfl rfl rfl
 simp only[aI] at q;simp only[akf,E94,bo,aI,q,jM,EW,seval]
def k94{t:Tree}{cz:Int->Nat}(ht:cF t cz 0){l:List cv}(hq:ov l)(hn:l.length<=100000){dir:Int}{n:Node}(hi:find t.ae dir=some n)(hk:n.kind=2)(M:aH) :
  aM (ar bK) 94 [.agg [aN t.ae,aE t.next,aE t.aj],cJ l,aE dir] M=some (aE (jM t.ae l dir),M):=cO (c94 ht hq hn hi hk) M
def pT(t:Tree)(l:List cv)(aq ae bytes:Int):List cv×Int :=
 if !(find t.ae aq).isSome then (l,70)
 else if (aY t.ae aq).kind != 2 then (l,73)
 else if decide (ae<0) then (if D7 l aq then l.eraseIdx (vL l aq) else l,0)
 else if decide ((jm t.ae aq).1>ae)||decide ((jm t.ae aq).2>bytes) then (l,90)
 else if D7 l aq then (l.set (vL l aq) ⟨aq,ae,bytes⟩,0)
 else if decide ((l.length:Int)>=16) then (l,76)
 else (l.take (vL l aq)++⟨aq,ae,bytes⟩::l.drop (vL l aq),0)
def aog(t:Tree)(l:List cv)(aq ae bytes:Int)(ht:Rt t)(hq:ov l)(hn:l.length<=16):ar bK 141 [bo t,cJ l,aE aq,aE ae,aE bytes] []=some (.tuple [cJ (pT t l aq ae bytes).1,aE (pT t l aq ae bytes).2],[]):=by
 refine aw ?_;have q1:=Oa t aq ht.small ht.ja;have q2:=akL l aq hq (by omega)
 have q3:=k93 ht aq;have hb:=(xe hq aq).le
 have cn:D7 l aq=true->vL l aq<l.length:=by
  intro h;unfold D7 qy at h;split at h
  ·rename_i x hx; exact(ak.1 hx).1
  ·cases h
 unfold pT;generalize jm t.ae aq=u at q3 ⊢;generalize vL l aq=b at q2 hb cn ⊢;generalize D7 l aq=e at q2 cn ⊢;simp only[aF] at q1
 by_cases h0:l=[]
 ·have hb0:b=0:=by subst h0; simpa using hb
  have he:e=false:=by
   cases e
   ·rfl
   ·have:=cn rfl; subst h0; simp at this
  subst he;have p1:=fun M=>Ck dM (f:=202) (sz:=3) (bytes:=24) rfl h0 M
  have p2:=fun M=>DU (f:=229) (sz:=3) (bytes:=24) rfl hb0 (.agg [aE aq,aE ae,aE bytes]) rfl M
  simp only[GK,LW,bo,aI,q1,q2,q3,aF,EW,seval]
  repeat' ((first|apply bq|apply bU|apply dE)<;>intro hb<;>simp only[hb,EW,LW,q1,q2,q3,p1,p2,aF,seval])
  all_goals clear q1 q2 q3 p1 p2
  all_goals first|rfl|(simp_all only[pj,↓reduceIte,reduceCtorEq,an]; done)|(simp_all only[pj,↓reduceIte,reduceCtorEq,an]; rfl)
 ·have hb0:=hb;have p1:=fun M=>Bw dM (f:=202) (sz:=3) (bytes:=24) rfl (fun _=>rfl) (by omega) h0 (by omega) M
  have p2:=fun M=>GZ dM (f:=229) (sz:=3) (bytes:=24) (v:=0) (id:=3) rfl (by omega) hb (by omega) (.agg [aE aq,aE ae,aE bytes]) rfl M
  cases he:e
  ·subst he;simp only[GK,LW,bo,aI,q1,q2,q3,aF,EW,seval]
   repeat' ((first|apply bq|apply bU|apply dE)<;>intro hb<;>simp only[hb,EW,LW,q1,q2,q3,p1,p2,aF,seval])
   all_goals clear q1 q2 q3 p1 p2
   all_goals first|rfl|(simp_all only[pj,↓reduceIte,reduceCtorEq,an]; done)|(simp_all only[pj,↓reduceIte,reduceCtorEq,an]; rfl)|(simp_all only[pj,↓reduceIte,reduceCtorEq,an]; exact congrArg (fun z=>some (ag.tuple [ag.slice .sh z,aE 0],([]:aH))) (K4 dM hb0 ⟨aq,ae,bytes⟩))
  ·subst he;have p3:=fun M=>DT dM (f:=228) (sz:=3) (v:=0) (id:=2) rfl (cn rfl) (by omega) M
   have hbl:=cn rfl;have hx:=ai hbl;generalize l[b]=x at hx;have h1:((b:Int)<((l.length-0:Nat):Int))=True:=by simp; omega
   have hs:jk (l.map dM) b (putCells (dM x) 0 [aE aq,aE ae,aE bytes])=(l.set b ⟨aq,ae,bytes⟩).map dM:=by
    rw[gq,kI]; rfl
   have ht2:List.take l.length ((l.set b ⟨aq,ae,bytes⟩).map dM)=(l.set b ⟨aq,ae,bytes⟩).map dM:=bS (by simp)
   have hw:IntKind.i64.wrap ((b:Int)+1)=((b+1:Nat):Int):=by have:=cn rfl; rw[fW (by omega) (by omega)]; rfl
   simp only[GK,LW,bo,aI,q1,q2,q3,hw,aF,EW,seval]
   repeat' ((first|apply bq|apply bU|apply dE)<;>intro hb<;>simp only[hb,EW,LW,q1,q2,q3,p1,p2,p3,hw,h1,hx,hs,ht2,aF,seval])
   all_goals clear q1 q2 q3 p1 p2 p3
   all_goals first|rfl|(simp_all only[pj,↓reduceIte,reduceCtorEq,an]; done)|(simp_all only[pj,↓reduceIte,reduceCtorEq,an]; rfl)
end
section
attribute [local irreducible] eW fQ lh gK dW kr ar aM cq bI
def rI{α:Type}(key:α->Int)(l:List α)(k:Int):Nat:=kx (fun x=>decide (om (key x) k<0)) l
def Qe{α:Type}(key:α->Int)(l:List α)(k:Int):Bool:=qy (fun x=>om (key x) k==0) l (rI key l k)
def Ll{α:Type}{key:α->Int}{l:List α}(h:l.Pairwise fun a b=>key a<key b)(k:Int):Ow (fun x=>decide (om (key x) k<0)) l (rI key l k):=by
 refine Ft (h.imp ?_);intro a b hab hb;simp only[ba,w5] at hb ⊢;omega
def OL{α:Type}{key:α->Int}{l:List α}(h:l.Pairwise fun a b=>key a<key b)(k:Int) :
  (Qe key l k=true/\∃n,l[rI key l k]?=some n/\key n=k/\l.find? (fun x=>key x==k)=some n)\/(Qe key l k=false/\l.find? (fun x=>key x==k)=none):=by
 obtain⟨l1,l2⟩:=Ll h k;simp only[ba,w5] at l2;cases hf:l.find? (fun x=>key x==k) with
 |some n =>
  left;have hm:=gi hf;have he:key n=k:=by simpa using nt hf
  obtain⟨i,hi⟩:=bJ hm;have hib:¬i<rI key l k:=fun hc=>by have:=(l2 i n hi).2 hc; omega
  have hb:rI key l k<l.length:=by have:=(ak.1 hi).1; omega
  have hx:=ai hb;have hnl:¬key l[rI key l k]<k:=fun hc=>ij _ ((l2 _ _ hx).1 hc)
  have hie:i=rI key l k:=by
   rcases bF (rI key l k) i with cn|hge
   ·have hil:=(ak.1 hi).1;have h3:=bV.1 h _ _ hb hil cn;have h4:l[i]=n:=by rw[ai hil] at hi; injection hi
    rw[h4,he] at h3;exact absurd h3 hnl
   ·omega
  subst hie;exact⟨by unfold Qe qy; rw[hi]; simp[he,E6],n,hi,he,rfl⟩
 |none =>
  right;refine⟨?_,rfl⟩;unfold Qe qy;split
  ·rename_i n hn;have:=dQ.1 hf n (aO hn)
   show(om (key n) k==0)=false
   rw[E6];simpa using this
  ·rfl
def api(x y:Node)(hx:x.aL.length<=100000):ar bK 225 [.agg (aF x),.agg (aF y)] []=some (.bool (decide (x=y)),[]):=by
 have hd:decide (x=y)=(x.aq==y.aq&&(x.kind==y.kind&&(x.dz==y.dz&&(x.up==y.up&&(x.data==y.data&&decide (x.aL=y.aL)))))):=by
  obtain⟨a,b,c,d,e,f⟩:=x;obtain⟨a',b',c',d',e',f'⟩:=y;simp only[Node.mk.injEq]
  by_cases h1:a=a'<;>by_cases h2:b=b'<;>by_cases h3:c=c'<;>by_cases h4:d=d'<;>by_cases h5:e=e'<;>by_cases h6:f=f'<;>simp[h1,h2,h3,h4,h5,h6]
 refine aw ?_;have q:=fun M=>cO (aiM x.aL y.aL hx) M
 rw[hd];simp only[aaP,agP,bD,aF,q,uw,EW,seval]
 repeat' ((first|apply bq|apply bU|apply dE)<;>intro hb<;>simp only[hb,EW,agP,q,uw,seval])
 all_goals (simp only[pj,↓reduceIte,reduceCtorEq,an]; done)
def ak4 x y hx:=cP (api x y hx)
def N4(ae:List Node)(aq:Int):Int:=if Qe Node.aq ae aq then (rI Node.aq ae aq:Int) else -1
def c85(ae:List Node)(aq:Int)(h:lL ae)(hn:ae.length<=100000):ar bK 85 [aN ae,aE aq] []=some (aE (N4 ae aq),[]):=by
 refine aw ?_;have q:∀M,aM (ar bK) 160 [aN ae,aE aq,.func 161 []] M=some (.tuple [aE (rI Node.aq ae aq),.bool (Qe Node.aq ae aq)],M):=fun M=>cO (aiT ae aq _ (Ll h aq) hn) M
 simp only[aj7,E85,q,N4,EW,seval];refine bq (fun hb=>?_) (fun hb=>?_)
 ·have hb':Qe Node.aq ae aq=false:=by simpa using hb
  simp only[E85,hb',af,az,EW,seval]
 ·have hb':Qe Node.aq ae aq=true:=by simpa using hb
  simp only[E85,hb',aG,EW,seval]
def k85 ae aq h hn:=cP (c85 ae aq h hn)
def uU(l:List j5)(a b:Int):Bool:=l.any (tx a b)
def aoq(l:List j5)(a b:Int)(hn:l.length<=100000):ar bK 152 [kc l,aE a,aE b] []=some (.bool (uU l a b),[]):=by
 refine aw ?_
 have q:aM (ar bK) 237 [kc l,.func 238 [bX 0,bX 1]] [bO [aE a],bO [aE b]]=some (.bool (uU l a b),[bO [aE a],bO [aE b]]) :=
  jc (ids:=[0,1]) rfl rfl (J2 a b) rfl rfl (ai5 l a b hn) rfl rfl rfl rfl rfl
 simp only[aab,amU,q,EW,seval]
def adl l a b hn:=cP (aoq l a b hn)
def k41(a b:Tree)(ha:Small a)(M:aH):aM (ar bK) 41 [.agg [aN a.ae,aE a.next,aE a.aj],.agg [aN b.ae,aE b.next,aE b.aj]] M=some (.bool (decide (a=b)),M):=cO (c41 a b ha) M
def iZ(t:Tree)(cp:List j5)(tick:Int):List Node->List Int->List mP
 |n::r,x::y=>(if (decide (N4 t.ae n.aq<0) || !decide (n=aY t.ae n.aq))&&uU cp x tick then [⟨x,tick,n⟩] else [])++iZ t cp tick r y
 |_,_=>[]
def pY(s:ga)(tick:Int)(n:Node):Int :=
 if decide (0<=N4 s.now.ae n.aq)&&decide (n=aY s.now.ae n.aq) then s.since.getD (rI Node.aq s.now.ae n.aq) 0 else tick
def mu(s:ga)(t:Tree):ga:=if decide (s.now=t) then s else
 ⟨t,lK (s.tick+1),t.ae.map (pY s (lK (s.tick+1))),s.dw++iZ t s.cp (lK (s.tick+1)) s.now.ae s.since,s.cp,s.next⟩
def vg{ae:List Node}(h:lL ae)(aq:Int) :
  (Qe Node.aq ae aq=true/\N4 ae aq=(rI Node.aq ae aq:Int)/\ae[rI Node.aq ae aq]?=some (aY ae aq)/\find ae aq=some (aY ae aq))\/(Qe Node.aq ae aq=false/\N4 ae aq = -1/\find ae aq=none):=by
 rcases OL (key:=Node.aq) h aq with ⟨h1,n,h2,_,h4⟩|⟨h1,h2⟩
 ·left;have h4':find ae aq=some n:=h4;have h5:aY ae aq=n:=by simp[aY,h4']
  exact⟨h1,by simp[N4,h1],by rw[h5]; exact h2,by rw[h5]; exact h4'⟩
 ·right;exact⟨h1,by simp[N4,h1],h2⟩
def xz(s:ga)(t:Tree)(P:List mP)(S:List Int):aH :=
 [.cells (bl s),.cells (aI t),.cells [.slice .c0 [],.int .i64 0,.int .i64 0,.int .i64 0,.slice .c0 [],.slice .c0 [],.slice .c0 [],.int .i64 0],.tick 8 P.length,
  .cells [aN t.ae,.int .i64 t.next,.int .i64 t.aj,.int .i64 (lK (s.tick+1)),.slice (.own 5) (S.map kv),.slice (.own 3) (P.map iC),kc s.cp,.int .i64 s.next],.tick 1 S.length]
def Tb{s:ga}{t:Tree}(hs:qx s.now)(hz:Sz 200 s.now)(ht:qx t)(hzt:Sz 200 t)(hk:s.cp.length<=100000)(hl:s.since.length=s.now.ae.length){k:List K}{R:List mP->Option (ag×aH)}
  (hx:∀P e,kr (ar bK) [.dB 4 8] 0 k ⟨.exit 0,(2,bX 0)::(3,bX 1)::(4,bX 2)::(5,bX 4)::e,xz s t P []⟩=R P) :
  ∀(l pre:List Node)(y ypre:List Int)(P:List mP),s.now.ae=pre++l->s.since=ypre++y->ypre.length=pre.length->P.length<=100000+pre.length ->
   eW (ar bK) [.dB 4 8] 0 k (.loop [2,3,4,5,32,33,34] W7) [(2,bX 0),(3,bX 1),(4,bX 2),(5,bX 4),(32,aN s.now.ae),(33,aE s.now.ae.length),(34,aE pre.length)] (xz s t P []) =
   R (P++iZ t s.cp (lK (s.tick+1)) l y):=by
 intro l;induction l with
 |nil =>
  intro pre y ypre P h hy hyl hP;rw[bt];have hy0:y=[]:=by have:=congrArg List.length h; have h2:=congrArg List.length hy; simp at this h2; exact ck.1 (by omega)
  subst hy0;simp only[xz,ES,gM h,iZ,EW,seval] at hx ⊢;exact hx _ _
 |cons n rest ih =>
  intro pre y ypre P h hy hyl hP;rw[bt];have hn200:=hz.ae;have dR:pre.length+1<=200:=by rw[h] at hn200; simp at hn200; omega
  have hw:=vu pre n;cases y with
  |nil=>have h1:=congrArg List.length h; have h2:=congrArg List.length hy; simp at h1 h2; omega
  |cons x y =>
   have hxa:s.since[pre.length]?=some x:=by rw[hy,<-hyl]; simp
   have hi1:=ih (pre++[n]) y (ypre++[x]) P (by rw[h]; simp) (by rw[hy]; simp) (by simp[hyl]) (by simp; omega)
   have hi2:=ih (pre++[n]) y (ypre++[x]) (P++[⟨x,lK (s.tick+1),n⟩]) (by rw[h]; simp) (by rw[hy]; simp) (by simp[hyl]) (by simp; omega)
   have q1:=k85 t.ae n.aq ht.jd (by have:=hzt.ae; omega)
   have q2:=ak4 n (aY t.ae n.aq) (by have:=hz.aL n (by rw[h]; simp); omega)
   have q3:=adl s.cp x (lK (s.tick+1)) hk;have r1:cu (P.length+1) 96=True:=qm;rw[iZ];simp only[xz,aF,aI,bl,aD,au,av,aK,bu,aP,bc] at hi1 hi2 q1 q2 q3;rcases vg ht.jd n.aq with ⟨_,a2,a3,a4⟩|⟨_,a2,a4⟩
   ·have ha0:((rI Node.aq t.ae n.aq:Int)<0)=False:=by simp
    generalize decide (n=aY t.ae n.aq)=e1 at q2 ⊢;generalize uU s.cp x (lK (s.tick+1))=e2 at q3 ⊢;cases e1<;>cases e2<;>simp only[xz,ES,fV h,fc h,aF,aI,bl,q1,q2,q3,a2,a3,ha0,hxa,hw,r1,EW,seval]
    ·simpa using hi1
    ·simpa[iC,fL,aF] using hi2
    ·simpa using hi1
    ·simpa using hi1
   ·have ha0:((-1:Int)<0)=True:=by simp
    generalize decide (n=aY t.ae n.aq)=e1 at q2 ⊢;generalize uU s.cp x (lK (s.tick+1))=e2 at q3 ⊢;cases e2<;>simp only[xz,ES,fV h,fc h,aF,aI,bl,q1,q2,q3,a2,ha0,hxa,hw,r1,EW,seval]
    ·simpa using hi1
    ·simpa[iC,fL,aF] using hi2
def Tc{s:ga}{t:Tree}(hs:qx s.now)(hz:Sz 200 s.now)(hzt:Sz 200 t)(hl:s.since.length=s.now.ae.length)(P:List mP){k:List K}{R:List Int->Option (ag×aH)}
  (hx:∀S e,kr (ar bK) [.dB 4 8] 0 k ⟨.exit 2,(2,bX 0)::(4,bX 2)::(5,bX 4)::e,xz s t P S⟩=R S) :
  ∀(l pre:List Node)(S:List Int),t.ae=pre++l->S.length<=100000+pre.length ->
   eW (ar bK) [.dB 4 8] 0 k (.loop [2,4,5,84,85,86] W8) [(2,bX 0),(4,bX 2),(5,bX 4),(84,aN t.ae),(85,aE t.ae.length),(86,aE pre.length)] (xz s t P S) =
   R (S++l.map (pY s (lK (s.tick+1)))):=by
 intro l;induction l with
 |nil =>
  intro pre S h hS;rw[bt];simp only[xz,ES,gM h,EW,seval] at hx ⊢;exact hx _ _
 |cons n rest ih =>
  intro pre S h hS;rw[bt];have hn200:=hzt.ae;have dR:pre.length+1<=200:=by rw[h] at hn200; simp at hn200; omega
  have hw:=vu pre n;have hi1:=ih (pre++[n]) (S++[pY s (lK (s.tick+1)) n]) (by rw[h]; simp) (by simp; omega)
  have q1:=k85 s.now.ae n.aq hs.jd (by have:=hz.ae; omega)
  have q2:=ak4 n (aY s.now.ae n.aq) (by have:=hzt.aL n (by rw[h]; simp); omega)
  have r1:cu (S.length+1) 8=True:=qm;rw[aP];unfold pY at hi1 ⊢;simp only[xz,aF,aI,bl,aD,au,av,aK,bu,aP,bc] at hi1 q1 q2;rcases vg hs.jd n.aq with ⟨_,a2,a3,a4⟩|⟨_,a2,a4⟩
  ·have ha0:(0<=(rI Node.aq s.now.ae n.aq:Int))=True:=by simp
   have cn:rI Node.aq s.now.ae n.aq<s.since.length:=by rw[hl]; exact(ak.1 a3).1
   have hxa:=ai cn;have hxd:s.since.getD (rI Node.aq s.now.ae n.aq) 0=s.since[rI Node.aq s.now.ae n.aq]:=by simp[List.getD,hxa]
   rw[hxd] at hi1 ⊢;generalize s.since[rI Node.aq s.now.ae n.aq]=x at hxa hi1 ⊢;generalize decide (n=aY s.now.ae n.aq)=e1 at q2 hi1 ⊢;rw[a2] at hi1 ⊢;cases e1<;>simp only[xz,ES,fV h,fc h,aF,aI,bl,q1,q2,a2,a3,ha0,hxa,hw,r1,rS,EW,seval]
   ·simpa using hi1
   ·simpa using hi1
  ·have ha0:(0<=(-1:Int))=False:=by simp
   rw[a2] at hi1 ⊢;simp only[xz,ES,fV h,fc h,aF,aI,bl,q1,q2,a2,ha0,hw,r1,rS,EW,seval];simpa using hi1
def P2{α:Type}(enc:α->ag){f sz bytes:Nat}(hp:bK.mQ f=some (rn sz bytes))(hw:∀a,(enc a).cells.length=sz)(hb:bytes<=1000){l:List α}(hn:l.length<=100000)(M:aH) :
  ar bK f [gH (l.map enc)] M=some (.slice (.own M.length) (l.map enc),M++[.tick sz l.length]):=by
 refine eX (g:=rn sz bytes) hp ?_;have hw':wid (l.map enc) sz:=by have:=sF enc sz hw l; simpa using this
 have hr:cu (l.map enc).length bytes:=by have:=pW (a:=l.length) (b:=bytes) (by omega) (by omega); simpa using this
 unfold rn;simp only[];rw[dS ⟨hw',hr⟩];rw[fT]
def CV{α:Type}(enc:α->ag){f sz bytes:Nat}(hp:bK.mQ f=some (rn sz bytes))(hw:∀a,(enc a).cells.length=sz)(hb:bytes<=1000){l:List α}(hn:l.length<=100000)(M:aH) :
  Am (ar bK) f [gH (l.map enc)] M=some (.slice (.own M.length) (l.map enc),M++[.tick sz l.length]):=by
 unfold Am;rw[bh ⟨rfl,rfl⟩,P2 enc hp hw hb hn,bT];rfl
def aoe(s:ga)(t:Tree)(hs:qx s.now)(hz:Sz 200 s.now)(ht:qx t)(hzt:Sz 200 t)(hk:s.cp.length<=100000)(hl:s.since.length=s.now.ae.length)(hp:s.dw.length<=100000) :
  ar bK 137 [pz s,bo t] []=some (pz (mu s t),[]):=by
 refine aw ?_;have q1:=k41 s.now t (hz.small (by omega))
 have p1:=fun M=>CV iC (f:=224) (sz:=8) (bytes:=96) rfl (fun _=>rfl) (by omega) hp M
 have l2:=fun P=>Tc hs hz hzt hl P (k:=[.block 2,.seq YV]) (R:=fun S=>some (.agg [aN t.ae,aE t.next,aE t.aj,aE (lK (s.tick+1)),we S,ug P,kc s.cp,aE s.next],[]))
  (fun S e=>by simp only[xz,bl,aI,ES,EW,seval]) t.ae [] [] rfl (by simp)
 have l1:=Tb hs hz ht hzt hk hl (k:=[.block 0,.seq YW]) (R:=fun P=>some (.agg [aN t.ae,aE t.next,aE t.aj,aE (lK (s.tick+1)),we (t.ae.map (pY s (lK (s.tick+1)))),ug P,kc s.cp,aE s.next],[]))
  (fun P e=>by
   have:=l2 P;simp only[xz,bl,aI,av,aW] at this;simp only[xz,bl,aI,ES,EW,seval];exact this) s.now.ae [] s.since [] s.dw rfl rfl rfl (by simpa using hp)
 unfold mu;generalize decide (s.now=t)=e1 at q1 ⊢;simp only[xz,bl,aI,av] at l1;cases e1<;>simp only[Pz,ES,pz,bl,bo,aI,q1,p1,or_false,EW,seval]
 exact l1
end
section
def yH{C:eB}{f g p:Nat}{xs:List ag}{r:ag}{M:aH}{c:ag}(hM:nth M p=some (bO [c]))(h:C f [gH xs,.func g [bX 0]] [bO [c]]=some (r,[bO [c]]))(h3:r.vA=true)(h5:r.Ao (vN [p])=r)
  (h6:c.uG&&c.ml.isEmpty=true) (h8:∀ρ,c.rN ρ=c:=by intro ρ; rfl):aM C f [gH xs,.func g [bX p]] M=some (r,M):=by
 simp only[bm,List.isEmpty_iff,ba] at h6;obtain⟨h6,h7⟩:=h6;have hids:[ag.slice .sh xs,.func g [bX p]].flatMap ag.ids=[p]:=rfl;have hi:pG M [p]=[]:=by simp[pG,hM,dv.ids,h7]
 have e0:ky M [p]=[p]:=by simp[ky,hi,j6]
 have e1:reach M [p]=[p]:=by
  have ea:j6 [] [p]=[p]:=rfl;simp only[reach,ea,e0]
 have hfl:[ag.slice .sh xs,.func g [bX p]].all ag.flat=true:=rfl;unfold aM;rw[bh hfl,hids,e1];have hpk:iU M (hZ [p]) [p]=some [bO [c]]:=by simp[iU,hM,dv.flat,h6,dv.pv,h8]
 rw[hpk];simp only[bT];rw[bh e0]
 have hrn:[ag.slice .sh xs,.func g [bX p]].map (ag.pv (hZ [p]))=[gH xs,.func g [bX 0]]:=by
  simp[ag.pv,ag.rN,ag.sx,hZ]
 rw[hrn,h];simp only[bT];rw[bh ⟨by trivial,h3,by simp[dv.flat,h6]⟩,h5]
 simp only[kR,dv.pv,aP,bc,h8];rw[rq hM]
attribute [local irreducible] eW fQ lh gK dW kr ar aM cq bI
def nR(id:Int)(x:j5):Bool:=x.id != id
def tz(tk:List j5)(p:mP):Bool:=uU tk p.jh p.nS
def Qg(n:j5):(gv n).all ag.iM=true:=rfl
def Ud(n:j5):(gv n).all ag.plainCell=true:=rfl
def Uc(n:mP):(fL n).all ag.plainCell=true:=rfl
def Qf(n:mP):(fL n).all ag.iM=true:=rfl
def takeN(s:ga)(aq:Int):ga×Int×Int :=
 if !(find s.now.ae aq).isSome then (s,0,70)
 else if (aY s.now.ae aq).kind != 2 then (s,0,73)
 else if decide ((s.cp.length:Int)>=16)||decide (s.next>=1099511627776) then (s,0,76)
 else (⟨s.now,s.tick,s.since,s.dw,s.cp++[⟨s.next,aq,s.tick⟩],lK (s.next+1)⟩,s.next,0)
def aoh(s:ga)(aq:Int)(hz:Small s.now)(hs:qx s.now)(hk:s.cp.length<=16):ar bK 142 [pz s,aE aq] []=some (.tuple [pz (takeN s aq).1,aE (takeN s aq).2.1,aE (takeN s aq).2.2],[]):=by
 refine aw ?_;have q1:=Oa s.now aq hz hs;have p1:=fun M=>CV jN (f:=230) (sz:=3) (bytes:=24) rfl (fun _=>rfl) (by omega) (l:=s.cp) (by omega) M
 have r1:cu (s.cp.length+1) 24=True:=qm;unfold takeN;simp only[aF] at q1;simp only[PB,agE,pz,bl,q1,aF,EW,seval]
 repeat' ((first|apply bq|apply bU|apply dE)<;>intro hb<;>simp only[hb,EW,agE,q1,p1,r1,or_false,aF,seval])
 all_goals clear q1 p1
 all_goals first|rfl|(simp_all only[pj,↓reduceIte,reduceCtorEq,an]; done)|(simp_all only[pj,↓reduceIte,reduceCtorEq,an,bl]; rfl)|(simp_all only[pj,↓reduceIte,reduceCtorEq,an,bl,kc,bu,aP,bc]; rfl)
def aqv(s:ga)(aq:Int)(hz:Small s.now)(hs:qx s.now)(hk:s.cp.length<=16)(M:aH):aM (ar bK) 142 [.agg (bl s),aE aq] M=some (.tuple [.agg (bl (takeN s aq).1),aE (takeN s aq).2.1,aE (takeN s aq).2.2],M) :=
 cO (aoh s aq hz hs hk) M
def apm(x:j5)(id:Int):ar bK 233 [jN x,bX 0] [bO [aE id]]=some (.bool (nR id x),[bO [aE id]]):=by
 refine aw ?_;simp only[nR,aaS,anb,jN,gv,EW,seval]
def apo(p:mP)(tk:List j5)(hk:tk.length<=100000):ar bK 235 [iC p,bX 0] [bO [kc tk]]=some (.bool (tz tk p),[bO [kc tk]]):=by
 refine aw ?_;unfold tz;have q:=adl tk p.jh p.nS hk;simp only[aaT,anc,iC,fL,aF,q,EW,seval]
def Ya{xs:List j5}{id:Int}  (hn:xs.length<=100000){k:List K}{R:List j5->Option (ag×aH)}
  (hx:∀(out:List j5) e,kr (ar bK) [.tmp 4] 1 k ⟨.exit 0,(1,.func 233 [bX 0])::(5,.slice (.own 1) (out.map jN))::e,[bO [aE id],.tick 3 out.length]⟩=R out) :
  ∀(l pre out:List j5),xs=pre++l->out.length<=pre.length->eW (ar bK) [.tmp 4] 1 k (.loop [1,5,8,9,10] Xw) [(1,.func 233 [bX 0]),(5,.slice (.own 1) (out.map jN)),(8,gH (xs.map jN)),(9,aE xs.length),(10,aE pre.length)] [bO [aE id],.tick 3 out.length] =
   R (out++l.filter (nR id)):=by
 intro l;induction l with
 |nil =>
  intro pre out h ho;rw[bt];simp only[Vw,gM h,ll,EW,seval];exact hx _ _
 |cons n rest ih =>
  intro pre out h ho;rw[bt];have dR:pre.length+1<=100000:=by rw[h] at hn; simp at hn; omega
  have hw:=vu pre n;have hi1:=ih (pre++[n]) out (by rw[h]; simp) (by simp; omega)
  have hi2:=ih (pre++[n]) (out++[n]) (by rw[h]; simp) (by simp; omega)
  simp only[aD,au,av,aK,bu,aP,bc] at hi1 hi2;have r1:cu (out.length+1) 24=True:=qm
  have q1:∀M,nth M 0=some (bO [aE id])->aM (ar bK) 233 [.agg (gv n),bX 0] M=some (.bool ((nR id) n),M) :=
   fun M hM=>wZ (f:=233) (p:=0) (vs:=[.agg (gv n)]) hM (apm n id) rfl rfl rfl rfl rfl rfl rfl rfl rfl
  rw[eu];generalize (nR id) n=e at q1 ⊢;cases e<;>simp only[Vw,fV h,fc h,q1,hw,r1,Qg,Qf,Ud,Uc,aG,af,az,EW,seval]
  ·exact hi1
  ·simpa[jN] using hi2
def apl(xs:List j5)(id:Int)  (hn:xs.length<=100000):ar bK 232 [gH (xs.map jN),.func 233 [bX 0]] [bO [aE id]]=some (gH ((xs.filter (nR id)).map jN),[bO [aE id]]):=by
 refine aw ?_;simp only[PO,Vw,EW,seval];exact Ya  hn (R:=fun out=>some (gH (out.map jN),[bO [aE id]])) (fun out e=>by simp only[Vw,EW,seval]) xs [] [] rfl (aC _)
def Yb{xs:List mP}{tk:List j5}(hk:tk.length<=100000)(hn:xs.length<=100000){k:List K}{R:List mP->Option (ag×aH)}
  (hx:∀(out:List mP) e,kr (ar bK) [.tmp 4] 1 k ⟨.exit 0,(1,.func 235 [bX 0])::(5,.slice (.own 1) (out.map iC))::e,[bO [kc tk],.tick 8 out.length]⟩=R out) :
  ∀(l pre out:List mP),xs=pre++l->out.length<=pre.length->eW (ar bK) [.tmp 4] 1 k (.loop [1,5,8,9,10] Xx) [(1,.func 235 [bX 0]),(5,.slice (.own 1) (out.map iC)),(8,gH (xs.map iC)),(9,aE xs.length),(10,aE pre.length)] [bO [kc tk],.tick 8 out.length] =
   R (out++l.filter (tz tk)):=by
 intro l;induction l with
 |nil =>
  intro pre out h ho;rw[bt];simp only[Vx,gM h,ll,EW,seval];exact hx _ _
 |cons n rest ih =>
  intro pre out h ho;rw[bt];have dR:pre.length+1<=100000:=by rw[h] at hn; simp at hn; omega
  have hw:=vu pre n;have hi1:=ih (pre++[n]) out (by rw[h]; simp) (by simp; omega)
  have hi2:=ih (pre++[n]) (out++[n]) (by rw[h]; simp) (by simp; omega)
  simp only[aD,au,av,aK,bu,aP,bc] at hi1 hi2;have r1:cu (out.length+1) 96=True:=qm
  have q1:∀M,nth M 0=some (bO [kc tk])->aM (ar bK) 235 [.agg (fL n),bX 0] M=some (.bool ((tz tk) n),M) :=
   fun M hM=>wZ (f:=235) (p:=0) (vs:=[.agg (fL n)]) hM (apo n tk hk) rfl rfl rfl rfl rfl rfl rfl rfl rfl
  rw[eu];generalize (tz tk) n=e at q1 ⊢;cases e<;>simp only[Vx,fV h,fc h,q1,hw,r1,Qg,Qf,Ud,Uc,aG,af,az,EW,seval]
  ·exact hi1
  ·simpa[iC] using hi2
def apn(xs:List mP)(tk:List j5)(hk:tk.length<=100000)(hn:xs.length<=100000):ar bK 234 [gH (xs.map iC),.func 235 [bX 0]] [bO [kc tk]]=some (gH ((xs.filter (tz tk)).map iC),[bO [kc tk]]):=by
 refine aw ?_;simp only[PQ,Vx,EW,seval];exact Yb hk hn (R:=fun out=>some (gH (out.map iC),[bO [kc tk]])) (fun out e=>by simp only[Vx,EW,seval]) xs [] [] rfl (aC _)
def nN(s:ga)(id:Int):ga×Int :=
 if ((s.cp.filter (nR id)).length:Int)==(s.cp.length:Int) then (s,100)
 else (⟨s.now,s.tick,s.since,s.dw.filter (tz (s.cp.filter (nR id))),s.cp.filter (nR id),s.next⟩,0)
def aol(s:ga)(id:Int)(hk:s.cp.length<=100000)(hp:s.dw.length<=100000):ar bK 147 [pz s,aE id] []=some (.tuple [pz (nN s id).1,aE (nN s id).2],[]):=by
 refine aw ?_;have hf:(s.cp.filter (nR id)).length<=100000:=aV (bZ _ _) hk
 have q1:∀M,nth M 1=some (bO [aE id])->aM (ar bK) 232 [kc s.cp,.func 233 [bX 1]] M=some (kc (s.cp.filter (nR id)),M):=by
  intro M hM;exact yH hM (apl s.cp id hk) rfl rfl rfl
 unfold nN;generalize (s.cp.filter (nR id))=tk at q1 hf ⊢
 have q2:∀M,nth M 3=some (bO [kc tk])->aM (ar bK) 234 [ug s.dw,.func 235 [bX 3]] M=some (ug (s.dw.filter (tz tk)),M):=by
  intro M hM;exact yH hM (apn s.dw tk hf hp) rfl rfl rfl
 simp only[Z7,agF,pz,bl,q1,EW,seval]
 repeat' ((first|apply bq|apply bU|apply dE)<;>intro hb<;>simp only[hb,EW,agF,q1,q2,seval])
 all_goals clear q1 q2
 all_goals first|rfl|(simp_all only[pj,↓reduceIte,reduceCtorEq,an]; done)|(simp_all only[pj,↓reduceIte,reduceCtorEq,an,bl]; rfl)
def aqy(s:ga)(id:Int)(hk:s.cp.length<=100000)(hp:s.dw.length<=100000)(M:aH):aM (ar bK) 147 [.agg (bl s),aE id] M=some (.tuple [.agg (bl (nN s id).1),aE (nN s id).2],M) :=
 cO (aol s id hk hp) M
def c37(t:Tree)(ht:t.ae.length<=100000):ar bK 37 [bo t] []=some (pz ⟨t,0,List.replicate t.ae.length 0,[],[],1⟩,[]):=by
 refine aw ?_;have r1:cu t.ae.length 8=True:=qm;simp only[ajT,E37,bo,aI,pz,bl,r1,ag.norm,we,gF,EW,seval];rfl
end
abbrev eU:Unit->ag:=fun _ => .agg []
def flN(l:AM Node):(pQ bD l).all ag.flat=true:=Jt _ (fun _=>rfl) l
def rnN(ρ:Nat->Nat)(l:AM Node):(pQ bD l).map (ag.pv ρ)=pQ bD l:=UF _ _ (fun _=>rfl) l
def akz(l:AM Node):(pQ bD l).flatMap ag.ids=[]:=P6 _ (fun _=>rfl) l
def VX(B:Nat)(M:aH)(l:AM Node):List.map (ag.kg B M) (pQ bD l)=pQ bD l:=OS _ _ _ (fun _=>rfl) l
def flU(l:AM Unit):(pQ eU l).all ag.flat=true:=Jt _ (fun _=>rfl) l
def rnU(ρ:Nat->Nat)(l:AM Unit):(pQ eU l).map (ag.pv ρ)=pQ eU l:=UF _ _ (fun _=>rfl) l
def aqb(l:AM Unit):(pQ eU l).flatMap ag.ids=[]:=P6 _ (fun _=>rfl) l
def bkU(B:Nat)(M:aH)(l:AM Unit):List.map (ag.kg B M) (pQ eU l)=pQ eU l:=OS _ _ _ (fun _=>rfl) l
abbrev VS:=AM Unit×List Node
def gd(all:AM Node):Nat->Int->VS->Bool×VS
 |0,_,st=>(false,st)
 |f+1,aq,st =>
  if (dA st.1 aq).isSome=true then (true,st) else
  if !(dA all aq).isSome then (false,(lJ st.1 aq (),st.2)) else
  ((dA all aq).getD Node.zero).aL.foldl (fun w e=>((gd all f e.aq w.2).1&&w.1,(gd all f e.aq w.2).2)) (true,(lJ st.1 aq (),st.2++[(dA all aq).getD Node.zero]))
def missing(all:AM Node)(met:AM Unit):Nat:=(all.filter fun p=>(dA met p.1).isNone).length
def rK(all:AM Node)(met:AM Unit)(aq:Int):missing all (lJ met aq ())<=missing all met:=by
 unfold missing;simp only[gN];induction all with
 |nil=>simp
 |cons p r ih =>
  simp only[eu]
  by_cases h:p.1=aq
  ·simp only[h,aG,Option.isNone_some,af,az];split
   ·simp only[au]; omega
   ·exact ih
  ·simp only[h,az];split
   ·simp only[au]; omega
   ·exact ih
def yl{all:AM Node}{met:AM Unit}{aq:Int}{n:Node}(h:dA all aq=some n)(h0:dA met aq=none):missing all (lJ met aq ())<missing all met:=by
 have hm:=uO _ _ _ h;clear h;unfold missing;induction all with
 |nil=>cases hm
 |cons p r ih =>
  simp only[eu,gN]
  by_cases hp:p.1=aq
  ·have h1:=rK r met aq;unfold missing at h1;simp only[gN] at h1;simp only[hp,aG,Option.isNone_some,af,az,h0,Option.isNone_none];simp only[au];omega
  ·rcases bC.1 hm with h2|h2
   ·exact absurd (by rw[<-h2]) hp
   ·have:=ih h2;simp only[gN] at this;simp only[hp,az];split
    ·simp only[au]; omega
    ·exact this
structure ur(all:AM Node)(st st':VS):Prop where
 len:st'.2.length+missing all st'.1<=st.2.length+missing all st.1
 Hz:missing all st'.1<=missing all st.1
 met:∀j,(dA st.1 j).isSome=true->(dA st'.1 j).isSome=true
 nodup:(st.2.map Node.aq).Nodup->(∀n,n∈st.2->(dA st.1 n.aq).isSome=true)->(st'.2.map Node.aq).Nodup/\∀n,n∈st'.2->(dA st'.1 n.aq).isSome=true
theorem ur.refl(all:AM Node)(st:VS):ur all st st:=⟨aC _,aC _,fun _ h=>h,fun h1 h2=>⟨h1,h2⟩⟩
theorem ur.trans{all:AM Node}{a b c:VS}(h:ur all a b)(k:ur all b c):ur all a c :=
 ⟨aV k.len h.len,aV k.Hz h.Hz,fun j hj=>k.met j (h.met j hj),fun h1 h2=>let ⟨g1,g2⟩:=h.nodup h1 h2; k.nodup g1 g2⟩
def Own(all:AM Node):Prop:=∀k n,dA all k=some n->n.aq=k
def tY{all:AM Node}(ho:Own all):∀(f:Nat)(aq:Int)(st:VS),ur all st (gd all f aq st).2:=by
 intro f;induction f with
 |zero=>intro aq st; exact ur.refl _ _
 |succ f ih =>
  intro aq st;rw[gd];split
  ·exact ur.refl _ _
  ·rename_i h0;have h0:dA st.1 aq=none:=by simpa using h0
   have hput:ur all st (lJ st.1 aq (),st.2):=by
    refine⟨?_,rK _ _ _,fun j hj=>?_,fun h1 h2=>⟨h1,fun n hn=>?_⟩⟩
    ·have:=rK all st.1 aq;simp only;omega
    ·simp only[gN]; split
     ·rfl
     ·exact hj
    ·simp only[gN]; split
     ·rfl
     ·exact h2 n hn
   split
   ·exact hput
   ·rename_i h1;cases hn:dA all aq with
    |none=>simp[hn] at h1
    |some n =>
     simp only[bn]
     have hstep:ur all st (lJ st.1 aq (),st.2++[n]):=by
      have cn:=yl hn h0;refine⟨by simp; omega,rK _ _ _,hput.met,fun g1 g2=>?_⟩
      have hni:=ho _ _ hn;refine⟨?_,fun m hm=>?_⟩
      ·rw[bu,List.nodup_append];refine⟨g1,by simp,?_⟩
       intro a ha b hb;simp only[aP,bc,bP] at hb;subst hb;intro hab;obtain⟨m,hm,rfl⟩:=cE.1 ha;have:=g2 m hm;rw[hab,hni,h0] at this;cases this
      ·rcases bB.1 hm with h|h
       ·exact(hput.nodup g1 g2).2 m h
       ·simp only[bP] at h;subst h;simp only[gN,hni,aG,bW]
     have hfold:∀(l:List fg)(w:Bool×VS),ur all w.2 (l.foldl (fun w e=>((gd all f e.aq w.2).1&&w.1,(gd all f e.aq w.2).2)) w).2:=by
      intro l;induction l with
      |nil=>intro w; exact ur.refl _ _
      |cons e r ihr =>
       intro w;rw[cK];exact(ih e.aq w.2).trans (ihr ((gd all f e.aq w.2).1&&w.1,(gd all f e.aq w.2).2))
     exact hstep.trans (hfold n.aL (true,(lJ st.1 aq (),st.2++[n])))
def tX:ag := .func 157 [.ptr 0 0,.ptr 1 0,.ptr 2 0,.ptr 3 0]
def mf(all:AM Node)(st:VS):aH:=[.cells [.gP 4],.cells [.gP 5],.cells [.cN 6 st.2.length 6 0 st.2.length],.cells [tX],.map (AN st.1) (pQ eU st.1),.map (AN all) (pQ bD all),.arr 6 st.2.length (st.2.map bD)]
def LF(all:AM Node)(st:VS):(mf all st).map (dv.pv (hZ [0,1,2,3,4,5,6]))=mf all st/\(mf all st).map (dv.pv (vN [0,1,2,3,4,5,6]))=mf all st:=by
 constructor
 ·simp only[mf,aP,bc,dv.pv,rnN,rnU]; rfl
 ·simp only[mf,aP,bc,dv.pv,rnN,rnU]; rfl
def al6(all:AM Node)(st:VS)(L:aH):iU (mf all st++L) (hZ [0,1,2,3,4,5,6]) [0,1,2,3,4,5,6]=some (mf all st):=by
 have h:=(LF all st).1;simp only[mf,aP,bc] at h;injection h with h0 h; injection h with h1 h; injection h with h2 h; injection h with h3 h; injection h with h4 h; injection h with h5 h; injection h with h6 h
 simp only[mf,aU,aW,iU,nth,h0,h1,h2,h3,h4,h5,h6];simp only[dv.flat,flN,flU,aG];rfl
def aqd(all:AM Node)(st:VS)(L:aH):pG (mf all st++L) [0,1,2,3]=[4,5,6,0,1,2,3]/\pG (mf all st++L) [0,1,2,3,4,5,6]=[4,5,6,0,1,2,3]:=by
 refine⟨rfl,?_⟩
 show[4,5,6,0,1,2,3]++((pQ eU st.1).flatMap ag.ids++((pQ bD all).flatMap ag.ids++([]++[])))=_
 rw[aqb,akz]; rfl
def UD(all:AM Node)(st:VS)(L:aH):reach (mf all st++L) [0,1,2,3]=[0,1,2,3,4,5,6]/\ky (mf all st++L) [0,1,2,3,4,5,6]=[0,1,2,3,4,5,6]:=by
 obtain⟨h1,h2⟩:=aqd all st L;have e0:j6 [] [0,1,2,3]=[0,1,2,3]:=rfl;have e1:j6 [0,1,2,3] [4,5,6,0,1,2,3]=[0,1,2,3,4,5,6]:=rfl;have e2:j6 [0,1,2,3,4,5,6] [4,5,6,0,1,2,3]=[0,1,2,3,4,5,6]:=rfl;simp only[reach,ky,e0,h1,e1,h2,e2,jT]
def agh(all:AM Node)(st st':VS)(L:aH):kR [0,1,2,3,4,5,6] (mf all st++L) [0,1,2,3,4,5,6] (mf all st')=mf all st'++L:=by
 have h:=(LF all st').2;simp only[mf,aP,bc] at h;injection h with h0 h; injection h with h1 h; injection h with h2 h; injection h with h3 h; injection h with h4 h; injection h with h5 h; injection h with h6 h
 simp only[mf,aU,aW,kR,h0,h1,h2,h3,h4,h5,h6,jk]
def ZM(all:AM Node)(st:VS):(mf all st).all dv.flat=true:=by
 simp only[mf,kX,dv.flat,flN,flU]; rfl
def acU{all:AM Node}{aq:Int}{st st':VS}{b:Bool}{L:aH}(h:ar bK 157 [aE aq,bX 0,bX 1,bX 2,bX 3] (mf all st)=some (.bool b,mf all st')) :
  aM (ar bK) 157 [aE aq,bX 0,bX 1,bX 2,bX 3] (mf all st++L)=some (.bool b,mf all st'++L) :=
 jc (ids:=[0,1,2,3,4,5,6]) rfl (UD all st L).1 (al6 all st L) (UD all st L).2 rfl h rfl rfl (ZM all st') rfl (agh all st st' L)
section
attribute [local irreducible] eW fQ lh gK dW kr ar aM cq bI
def XU{all:AM Node}{n:Node}{f:Nat}(ho:Own all){k:List K}{R:Bool×VS->Option (ag×aH)}(hn:n.aL.length<=100000)
  (ih:∀e,e∈n.aL->∀st,missing all st.1<f->st.2.length+missing all st.1<=200000->ar bK 157 [aE e.aq,bX 0,bX 1,bX 2,bX 3] (mf all st)=some (.bool (gd all f e.aq st).1,mf all (gd all f e.aq st).2))
  (hx:∀w e,kr (ar bK) [.tmp 6] 7 k ⟨.exit 0,(4,bX 3)::(11,.bool w.1)::e,mf all w.2++[bO [],bO (aF n)]⟩=R w) :
  ∀(l pre:List fg)(w:Bool×VS),n.aL=pre++l->missing all w.2.1<f->w.2.2.length+missing all w.2.1<=200000->eW (ar bK) [.tmp 6] 7 k (.loop [4,11,37,38,39] Xb) [(4,bX 3),(11,.bool w.1),(37,gS n.aL),(38,aE n.aL.length),(39,aE pre.length)] (mf all w.2++[bO [],bO (aF n)]) =
   R (l.foldl (fun w e=>((gd all f e.aq w.2).1&&w.1,(gd all f e.aq w.2).2)) w):=by
 intro l;induction l with
 |nil =>
  intro pre w h _ _;rw[bt];simp only[mf,LY,gM h,jH,EW,seval] at hx ⊢;exact hx _ _
 |cons x rest ihl =>
  intro pre w h hm hl;rw[bt];have dR:pre.length+1<=100000:=by rw[h] at hn; simp at hn; omega
  have hw:=vu pre x;rw[cK];have hg:=tY ho f x.aq w.2;have q:=acU (L:=[bO [],bO (aF n),bO (fa x)]) (ih x (by rw[h]; simp) w.2 hm hl)
  have hi1:=ihl (pre++[x]) ((gd all f x.aq w.2).1&&w.1,(gd all f x.aq w.2).2) (by rw[h]; simp) (by have:=hg.Hz; simp only; omega) (by have:=hg.len; simp only; omega)
  generalize gd all f x.aq w.2=v at q hi1 ⊢;clear hg ih;simp only[mf,tX,aF,fa,aD,au,av,aK,aU,aW] at hi1 q;obtain⟨b,st'⟩:=v;cases b<;>simp only[mf,tX,LY,fV h,fc h,aF,fa,q,hw,VX,bkU,dD,dy,EW,seval] at hi1 ⊢
  ·exact hi1
  ·exact hi1
def Lk(z x:ag):o9 z true (some x) = .tuple [x,.bool true]:=rfl
def S6(z:ag):o9 z true none = .tuple [z,.bool false]:=rfl
def aov{all:AM Node}(ho:Own all)(hb:∀k n,dA all k=some n->n.aL.length<=100000):∀(f:Nat)(aq:Int)(st:VS),missing all st.1<f->st.2.length+missing all st.1<=200000 ->
  ar bK 157 [aE aq,bX 0,bX 1,bX 2,bX 3] (mf all st)=some (.bool (gd all f aq st).1,mf all (gd all f aq st).2):=by
 intro f;induction f with
 |zero=>intro aq st h; omega
 |succ f ih =>
  intro aq st hm hl;refine aw ?_;rw[gd];have p1:=rJ eU st.1 aq ();cases h0:dA st.1 aq with
  |some u =>
   simp only[bW,aG];simp only[mf,tX,KK,LY,mM,Lk,eU,mapOf.eq_1,h0,VX,bkU,EW,seval]
  |none =>
   simp only[eA,af,az];have hp:=rK all st.1 aq;cases hn:dA all aq with
   |none =>
    simp only[mf,tX,KK,LY,mM,Lk,S6,mapOf.eq_1,h0,hn,p1,nv,eA,aG,VX,bkU,EW,seval]
   |some n =>
    have cn:=yl hn h0;have r1:cu (st.2.length+1) 80=True:=qm;have hl1:=XU ho (hb aq n hn) (f:=f) (k:=[.block 0,.seq afM]) (R:=fun w=>some (.bool w.1,mf all w.2)) (fun e he st h1 h2=>ih e.aq st h1 h2) (fun w e=>by simp only[mf,tX,LY,aF,VX,bkU,EW,seval]) n.aL [] (true,(lJ st.1 aq (),st.2++[n])) rfl (by simp only; omega) (by simp; omega)
    clear ih;simp only[mf,tX,aF,av,aU,aW,aD,au,aK,bu,aP,bc,bD] at hl1;simp only[mf,tX,KK,LY,mM,Lk,S6,mapOf.eq_1,h0,hn,p1,r1,aF,bD,nv,bW,bn,af,az,EW,seval];exact hl1
end
section
def yd(x:Node):List Node->List Node
 | []=>[x]
 |y::r=>if x.aq<y.aq then x::y::r else y::yd x r
def xK:List Node->List Node
 | []=>[]
 |x::r=>yd x (xK r)
def aq6(n:Node):sr 0 (bD n)=n.aq:=rfl
def D5(x:Node):∀l:List Node,Cq 0 (bD x) (l.map bD)=(yd x l).map bD
 | []=>rfl
 |y::r=>by
  simp only[aP,Cq,yd,aq6]
  by_cases h:x.aq<y.aq
  ·simp only[h,aG,aP]
  ·simp only[h,az,aP,D5 x r]
def C4:∀l:List Node,pZ 0 (l.map bD)=(xK l).map bD
 | []=>rfl
 |x::r=>by simp only[aP,pZ,xK,C4 r,D5]
def jQ(a:Int)(m:AM Node)(p:mP):AM Node:=if decide (p.jh<=a)&&decide (a<p.nS) then lJ m p.node.aq p.node else m
def pg(a:Int):List Node->List Int->AM Node->AM Node
 |n::r,y::ys,m=>pg a r ys (if decide (y<=a) then lJ m n.aq n else m)
 |_,_,m=>m
def qS(s:ga)(a:Int):AM Node:=pg a s.now.ae s.since (s.dw.foldl (jQ a) [])
structure xB(m:AM Node):Prop where
 own:Own m
 aL:∀k n,dA m k=some n->n.aL.length<=100000
def xB.put{m:AM Node}(h:xB m)(n:Node)(hn:n.aL.length<=100000):xB (lJ m n.aq n) where
 own:=fun k x hx=>by
  rw[gN] at hx;split at hx
  ·rename_i e; injection hx with hx; rw[<-hx,e]
  ·exact h.own k x hx
 aL:=fun k x hx=>by
  rw[gN] at hx;split at hx
  ·injection hx with hx; rw[<-hx]; exact hn
  ·exact h.aL k x hx
def tV(a:Int):∀(l:List mP)(m:AM Node),xB m->(∀p,p∈l->p.node.aL.length<=100000)->xB (l.foldl (jQ a) m)/\(l.foldl (jQ a) m).length<=m.length+l.length
 | [],m,h,_=>⟨h,aC _⟩
 |p::r,m,h,hp=>by
  rw[cK]
  have h1:xB (jQ a m p)/\(jQ a m p).length<=m.length+1:=by
   unfold jQ;split
   ·exact⟨h.put _ (hp p (by simp)),CK _ _ _⟩
   ·exact⟨h,by omega⟩
  obtain⟨g1,g2⟩:=tV a r _ h1.1 (fun q hq=>hp q (by simp[hq]))
  exact⟨g1,by simp only[au]; omega⟩
def xg(a:Int):∀(l:List Node)(y:List Int)(m:AM Node),xB m->(∀p,p∈l->p.aL.length<=100000)->xB (pg a l y m)/\(pg a l y m).length<=m.length+l.length
 | [],_,m,h,_=>by unfold pg; exact⟨h,aC _⟩
 |n::r,[],m,h,_=>by unfold pg; exact⟨h,by omega⟩
 |n::r,y::ys,m,h,hp=>by
  rw[pg]
  have h1:xB (if decide (y<=a) then lJ m n.aq n else m)/\(if decide (y<=a) then lJ m n.aq n else m).length<=m.length+1:=by
   split
   ·exact⟨h.put _ (hp n (by simp)),CK _ _ _⟩
   ·exact⟨h,by omega⟩
  obtain⟨g1,g2⟩:=xg a r ys _ h1.1 (fun q hq=>hp q (by simp[hq]))
  exact⟨g1,by simp only[au]; omega⟩
def re(m:AM Node)(met:AM Unit):missing m met<=m.length:=bZ _ _
def tK(s:ga)(x:j5):Bool×VS:=gd (qS s x.at') 200001 x.aq ([],[])
def rU(s:ga)(x:j5):List Node:=xK (tK s x).2.2
attribute [local irreducible] eW fQ lh gK dW kr ar aM cq bI
def yT(s:ga)(x:j5)(m:AM Node):aH:=[.cells (bl s),.cells (gv x),.map (AN m) (pQ bD m),.cells [.gP 2]]
def Yv{s:ga}{x:j5}(hn:s.dw.length<=100000){k:List K}{fin:AM Node}{r:Option (ag×aH)}
  (hx:∀e,kr (ar bK) [.tmp 4,.tmp 5] 0 k ⟨.exit 0,(2,bX 0)::(3,bX 1)::(6,bX 3)::e,yT s x fin⟩=r) :
  ∀(l pre:List mP)(m:AM Node),s.dw=pre++l->l.foldl (jQ x.at') m=fin->eW (ar bK) [.tmp 4,.tmp 5] 0 k (.loop [2,3,6,17,18,19] aeZ) [(2,bX 0),(3,bX 1),(6,bX 3),(17,ug s.dw),(18,aE s.dw.length),(19,aE pre.length)] (yT s x m)=r:=by
 intro l;induction l with
 |nil =>
  intro pre m h hfin;rw[bt];rw[jH] at hfin;subst hfin;simp only[yT,VD,gM h,EW,seval] at hx ⊢;exact hx _
 |cons p rest ih =>
  intro pre m h hfin;rw[bt];have dR:pre.length+1<=100000:=by rw[h] at hn; simp at hn; omega
  have hw:=vu pre p;rw[cK] at hfin;have hi1:=ih (pre++[p]) (jQ x.at' m p) (by rw[h]; simp) hfin
  clear hfin;have hput:=rJ bD m p.node.aq p.node;unfold jQ at hi1;simp only[yT,bl,gv,bD,aF,aD,au,av,aK] at hi1 hput;simp only[yT,VD,fV h,fc h,bl,gv,fL,aF,EW,seval];cases h1:decide (p.jh<=x.at')<;>cases h2:decide (x.at'<p.nS)<;>simp only[h1,h2,VD,hw,hput,mapOf.eq_1,dP,af,aG,az,VX,EW,seval] at hi1 ⊢
  all_goals exact hi1
def Yw{s:ga}{x:j5}(hn:s.now.ae.length<=100000)(hl:s.since.length=s.now.ae.length){k:List K}{fin:AM Node}{r:Option (ag×aH)}
  (hx:∀e,kr (ar bK) [.tmp 4,.tmp 5] 0 k ⟨.exit 2,(2,bX 0)::(3,bX 1)::(6,bX 3)::e,yT s x fin⟩=r) :
  ∀(l pre:List Node)(y ypre:List Int)(m:AM Node),s.now.ae=pre++l->s.since=ypre++y->ypre.length=pre.length->pg x.at' l y m=fin->eW (ar bK) [.tmp 4,.tmp 5] 0 k (.loop [2,3,6,44,45,46] ae0) [(2,bX 0),(3,bX 1),(6,bX 3),(44,aN s.now.ae),(45,aE s.now.ae.length),(46,aE pre.length)] (yT s x m)=r:=by
 intro l;induction l with
 |nil =>
  intro pre y ypre m h hy hyl hfin;rw[bt];have hg:pg x.at' [] y m=m:=by unfold pg; rfl
  rw[hg] at hfin;subst hfin;simp only[yT,VD,gM h,EW,seval] at hx ⊢;exact hx _
 |cons n rest ih =>
  intro pre y ypre m h hy hyl hfin;rw[bt];have dR:pre.length+1<=100000:=by rw[h] at hn; simp at hn; omega
  have hw:=vu pre n;cases y with
  |nil=>have h1:=congrArg List.length h; have h2:=congrArg List.length hy; simp at h1 h2; omega
  |cons c y =>
   have hxa:s.since[pre.length]?=some c:=by rw[hy,<-hyl]; simp
   have hi1:=ih (pre++[n]) y (ypre++[c]) (if decide (c<=x.at') then lJ m n.aq n else m) (by rw[h]; simp) (by rw[hy]; simp) (by simp[hyl]) (by rw[<-hfin,pg])
   clear hfin;have hput:=rJ bD m n.aq n;simp only[yT,bl,gv,bD,aF,aD,au,av,aK] at hi1 hput;simp only[yT,VD,fV h,fc h,bl,gv,aF,hxa,EW,seval];cases h1:decide (c<=x.at')<;>simp only[h1,VD,hw,hput,mapOf.eq_1,af,aG,az,VX,EW,seval] at hi1 ⊢
   all_goals exact hi1
def Du(s:ga)(x:j5)(all:AM Node)(st:VS):aH:=[.cells (bl s),.cells (gv x),.map (AN all) (pQ bD all),.cells [.gP 2],.map (AN st.1) (pQ eU st.1),.cells [.gP 4],.arr 6 st.2.length (st.2.map bD),.cells [.cN 6 st.2.length 6 0 st.2.length],.cells [.func 157 [.ptr 5 0,.ptr 3 0,.ptr 7 0,.ptr 8 0]]]
end
section
def Fc{α:Type}:AN ([]:AM α)=[]:=rfl
def Fe{α:Type}(enc:α->ag):pQ enc ([]:AM α)=[]:=rfl
def ai8{s:ga}{x:j5}{all:AM Node}{aq:Int}{st':VS}{b:Bool}(h:ar bK 157 [aE aq,bX 0,bX 1,bX 2,bX 3] (mf all ([],[]))=some (.bool b,mf all st')) :
  aM (ar bK) 157 [aE aq,bX 5,bX 3,bX 7,bX 8] (Du s x all ([],[]))=some (.bool b,Du s x all st'):=by
 have i1:pG (Du s x all ([],[])) [5,3,7,8]=[4,2,6,5,3,7,8]:=rfl
 have i2:pG (Du s x all ([],[])) [5,3,7,8,4,2,6]=[4,2,6,5,3,7,8]:=by
  show[4,2,6,5,3,7,8]++([]++((pQ bD all).flatMap ag.ids++([]++[])))=_
  rw[akz]; rfl
 have e0:j6 [] [5,3,7,8]=[5,3,7,8]:=rfl;have e1:j6 [5,3,7,8] [4,2,6,5,3,7,8]=[5,3,7,8,4,2,6]:=rfl;have e2:j6 [5,3,7,8,4,2,6] [4,2,6,5,3,7,8]=[5,3,7,8,4,2,6]:=rfl
 have hr:reach (Du s x all ([],[])) [5,3,7,8]=[5,3,7,8,4,2,6]/\ky (Du s x all ([],[])) [5,3,7,8,4,2,6]=[5,3,7,8,4,2,6]:=by
  simp only[reach,ky,e0,i1,e1,i2,e2,jT]
 have hp:iU (Du s x all ([],[])) (hZ [5,3,7,8,4,2,6]) [5,3,7,8,4,2,6]=some (mf all ([],[])):=by
  simp only[Du,iU,nth,dv.flat,flN,flU,bT,aG,dv.pv,rnN,rnU];rfl
 refine jc (ids:=[5,3,7,8,4,2,6]) rfl hr.1 hp hr.2 rfl h rfl rfl (ZM all st') rfl ?_;simp only[mf,Du,kR,dv.pv,rnN,rnU,jk];rfl
def al4(n:Nat)(xs:List ag)(b0 b1 b2 b3 b4 b5 b7 b8:dv):iU [b0,b1,b2,b3,b4,b5,.arr 6 n xs,b7,b8] (hZ [6]) [6]=some [.arr 6 n xs]:=rfl
def NB{l:List Node}(hl:l.length<=1000000)(hn:(l.map Node.aq).Nodup):ar bK 158 [.cN 0 l.length 6 0 l.length,.func 159 []] [.arr 6 l.length (l.map bD)]=some (.tuple [],[.arr 6 l.length ((xK l).map bD)]):=by
 refine eX (g:=tU 6 0 159) rfl ?_;unfold tU;simp only[nth];have ht:(l.map bD).take l.length=l.map bD:=bS (by simp)
 have hd:(l.map bD).drop l.length=[]:=iQ (by simp)
 rw[ht,hd,C4,cW];rw[dS]
 ·rfl
 ·refine⟨trivial,trivial,trivial,by simp,trivial,by omega,?_,?_⟩
  ·intro x hx;obtain⟨n,_,rfl⟩:=cE.1 hx;rfl
  ·rw[jj];exact hn
attribute [local irreducible] eW fQ lh gK dW kr ar aM cq bI
def He(x:Node):∀l,(yd x l).length=l.length+1
 | []=>rfl
 |y::r=>by simp only[yd]; split<;>simp[He x r]
def xm:∀l,(xK l).length=l.length
 | []=>rfl
 |x::r=>by simp[xK,He,xm r]
def c84(s:ga)(x:j5)(hp:s.dw.length<=100000)(hpe:∀p,p∈s.dw->p.node.aL.length<=100000)(hz:Sz 200 s.now)(hl:s.since.length=s.now.ae.length) :
  ar bK 84 [pz s,jN x] []=some (.tuple [aN (rU s x),.bool (tK s x).1],[]):=by
 refine aw ?_;obtain⟨g1,g2⟩:=tV x.at' s.dw [] ⟨fun k n h=>(by cases h),fun k n h=>(by cases h)⟩ hpe
 obtain⟨g3,g4⟩:=xg x.at' s.now.ae s.since (s.dw.foldl (jQ x.at') []) g1 (fun n hn=>by have:=hz.aL n hn; omega)
 have hall:(qS s x.at').length<=100200:=by have:=hz.ae; simp at g2; unfold qS; omega
 have hv:=aov (all:=qS s x.at') g3.own g3.aL 200001 x.aq ([],[]) (by have:=re (qS s x.at') []; simp only; omega) (by have:=re (qS s x.at') []; simp only[av]; omega)
 have hg:=tY (all:=qS s x.at') g3.own 200001 x.aq ([],[]);have hnd:=(hg.nodup (by simp) (by simp)).1
 have dR:(tK s x).2.2.length<=100200:=by have:=hg.len; have h2:=re (qS s x.at') []; simp only[av] at this; unfold tK; omega
 have q:=ai8 (s:=s) (x:=x) hv;have hs:=NB (l:=(tK s x).2.2) (by omega) hnd
 have q2:∀b0 b1 b2 b3 b4 b5 b7 b8,aM (ar bK) 158 [.cN 6 (tK s x).2.2.length 6 0 (tK s x).2.2.length,.func 159 []] [b0,b1,b2,b3,b4,b5,.arr 6 (tK s x).2.2.length ((tK s x).2.2.map bD),b7,b8] =
   some (.tuple [],[b0,b1,b2,b3,b4,b5,.arr 6 (tK s x).2.2.length ((rU s x).map bD),b7,b8]):=fun b0 b1 b2 b3 b4 b5 b7 b8 =>
  jc (ids:=[6]) rfl rfl (al4 _ _ ..) rfl rfl hs rfl rfl rfl rfl rfl
 have ht:List.take (tK s x).2.2.length ((rU s x).map bD)=(rU s x).map bD:=bS (by simp[rU,xm])
 have l2:=Yw (s:=s) (x:=x) (by have:=hz.ae; omega) hl (fin:=qS s x.at') (r:=some (.tuple [aN (rU s x),.bool (tK s x).1],[])) (k:=[.block 2,.seq afR]) (fun e=>by
  clear g1 g2 g3 g4 hv hg hnd hs;have hvv:gd (qS s x.at') 200001 x.aq ([],[])=tK s x:=rfl;rw[hvv] at q;generalize tK s x=v at q q2 ht dR ⊢;obtain⟨b,met,out⟩:=v;simp only[Du,bl,gv,av,bc,Fc,Fe] at q q2 ht;simp only[yT,bl,gv,VD,q,q2,ht,EW,seval]) s.now.ae [] s.since [] (s.dw.foldl (jQ x.at') []) rfl rfl rfl rfl
 have l1:=Yv (s:=s) (x:=x) hp (fin:=s.dw.foldl (jQ x.at') []) (r:=some (.tuple [aN (rU s x),.bool (tK s x).1],[])) (k:=[.block 0,.seq afS]) (fun e=>by
  simp only[yT,bl,gv,av] at l2;simp only[yT,bl,gv,VD,EW,seval];exact l2) s.dw [] [] rfl rfl
 simp only[yT,bl,gv,av,Fc,Fe] at l1;simp only[ade,VD,pz,jN,bl,gv,EW,seval];exact l1
def k84(s:ga)(x:j5)(hp:s.dw.length<=100000)(hpe:∀p,p∈s.dw->p.node.aL.length<=100000)(hz:Sz 200 s.now)(hl:s.since.length=s.now.ae.length)(M:aH) :
  aM (ar bK) 84 [.agg (bl s),.agg (gv x)] M=some (.tuple [aN (rU s x),.bool (tK s x).1],M):=cO (c84 s x hp hpe hz hl) M
def Bl(s:ga)(id:Int):Int×List Node×Int:=match s.cp.find? (fun x=>x.id==id) with
 |some x=>(x.aq,rU s x,0)
 |none=>(0,[],100)
def XQ{s:ga}{id:Int}(hk:s.cp.length<=100000)(hp:s.dw.length<=100000)(hpe:∀p,p∈s.dw->p.node.aL.length<=100000)(hz:Sz 200 s.now)(hl:s.since.length=s.now.ae.length) :
  ∀(l pre:List j5),s.cp=pre++l->eW (ar bK) [.tmp 4,.tmp 5,.tmp 6] 0 [.block 0,.seq afK] (.loop [1,2,12,13,14] W9) [(1,aE id),(2,bX 0),(12,kc s.cp),(13,aE s.cp.length),(14,aE pre.length)] [bO (bl s)] =
   some (match l.find? (fun x=>x.id==id) with|some x => .tuple [aE x.aq,aN (rU s x),aE 0]|none => .tuple [aE 0,aN [],aE 100],[]):=by
 intro l;induction l with
 |nil =>
  intro pre h;rw[bt];simp only[Vo,gM h,List.find?_nil,bl,EW,seval];rfl
 |cons x rest ih =>
  intro pre h;rw[bt];have dR:pre.length+1<=100000:=by rw[h] at hk; simp at hk; omega
  have hw:=vu pre x;have hi1:=ih (pre++[x]) (by rw[h]; simp)
  have q:=k84 s x hp hpe hz hl;simp only[aD,au,av,aK,bl,gv] at hi1 q;rw[List.find?_cons];simp only[Vo,fV h,fc h,bl,gv,EW,seval];cases he:x.id==id<;>simp only[Vo,he,q,hw,EW,seval]
  exact hi1
def aoi(s:ga)(id:Int)(hk:s.cp.length<=100000)(hp:s.dw.length<=100000)(hpe:∀p,p∈s.dw->p.node.aL.length<=100000)(hz:Sz 200 s.now)(hl:s.since.length=s.now.ae.length) :
  ar bK 143 [pz s,aE id] []=some (.tuple [aE (Bl s id).1,aN (Bl s id).2.1,aE (Bl s id).2.2],[]):=by
 refine aw ?_;have hq:=XQ (id:=id) hk hp hpe hz hl s.cp [] rfl;simp only[bl,av] at hq;simp only[Z5,Vo,pz,bl,EW,seval];refine ik hq ?_;unfold Bl;split<;>rfl
def aqw(s:ga)(id:Int)(hk:s.cp.length<=100000)(hp:s.dw.length<=100000)(hpe:∀p,p∈s.dw->p.node.aL.length<=100000)(hz:Sz 200 s.now)(hl:s.since.length=s.now.ae.length)(M:aH) :
  aM (ar bK) 143 [.agg (bl s),aE id] M=some (.tuple [aE (Bl s id).1,aN (Bl s id).2.1,aE (Bl s id).2.2],M):=cO (aoi s id hk hp hpe hz hl) M
end
noncomputable def sy:yz:=⟨fun f=>if f=201 then some GP else code f,mQ⟩
def Y6:vV Tryz.prog sy:=by
 refine⟨fun f fn h=>?_,Lw⟩
 simp only[sy] at h;split at h
 ·rename_i hf;cases h; subst hf;exact⟨_,_,func201,alM⟩
 ·exact Kx f fn h
def af5:oQ Tryz.prog (ar sy):=ry (by kernel_rfl) Y6
def Ic:∀n,va (jy bK n) (jy sy n)
 |0,f,a,M,x,h=>by rw[jy] at h ⊢; exact h
 |n+1,f,a,M,x,h=>by
  rw[jy] at h ⊢;have hp:sy.mQ f=bK.mQ f:=rfl;rw[hp];split at h
  ·rename_i g hg; exact h
  ·rename_i hg;split at h
   ·cases h
   ·rename_i fn hfn
    have hc:sy.code f=some fn:=by
     simp only[sy];split
     ·rename_i hf; subst hf; cases hfn
     ·exact hfn
    rw[hc];split at h
    ·rename_i hl;simp only[bh hl];obtain⟨o,ho,h⟩:=bg h;rw[jF (Ic n) _ ho,bT];exact h
    ·cases h
def Y8{f:Nat}{a:List ag}{M:aH}{x:ag×aH}(h:ar bK f a M=some x):ar sy f a M=some x:=by
 obtain⟨n,hn⟩:=vn h;exact oV (fun n x h=>qQ sy n f a M x h) (Ic n f a M x hn)
def lW{f:Nat}{vs:List ag}{M:aH}{x:ag×aH}(h:aM (ar bK) f vs M=some x):aM (ar sy) f vs M=some x:=by
 obtain⟨a,B,y,h1,h2⟩:=qW h;exact h2 _ (Y8 h1)
def xH(t:Tree)(q:cv):Bool := !(find t.ae q.aq).isSome
def kV(n:cv):(gU n).all ag.iM=true:=rfl
def afD(xs:List ag)(z:Tree):iU [.arr 3 0 xs,bO (aI z)] (hZ [0,1]) [0,1]=some [.arr 3 0 xs,bO (aI z)]:=rfl
section
def afE(z:Tree):iU [bO (aI z)] (hZ [0]) [0]=some [bO (aI z)]:=rfl
section
attribute [local irreducible] eW fQ lh gK dW kr ar aM cq bI
def ao5(q:cv)(t:Tree)(ht:Rt t):ar sy 203 [dM q,bX 0] [bO (aI t)]=some (.bool (xH t q),[bO (aI t)]):=by
 refine aw ?_;have q1:=fun M=>lW (Oa t q.aq ht.small ht.ja M)
 unfold xH;simp only[aF] at q1;simp only[aaF,am5,dM,gU,aI,q1,aF,Dd,kV,EW,seval]
def akX(q:cv)(t:Tree)(ht:Rt t)(p:Nat)(M:aH)(hM:nth M p=some (bO (aI t))):aM (ar sy) 203 [.agg (gU q),bX p] M=some (.bool (xH t q),M) :=
 wZ (f:=203) (p:=p) (vs:=[.agg (gU q)]) hM (ao5 q t ht) rfl rfl rfl rfl rfl rfl rfl rfl rfl
def Ac(z:Tree):List cv->Nat->Int
 | [],_ => -1
 |e::r,i=>if xH z e then (i:Int) else Ac z r (i+1)
def Ye{xs:List cv}{z:Tree}(hz:Rt z)(hn:xs.length<=100000){k:List K}{R:Int->Option (ag×aH)}
  (hx:∀e,kr (ar sy) [.tmp 4] 2 k ⟨.exit 0,e,[.arr 3 0 (xs.map dM),bO (aI z)]⟩=R (-1)) (hr:∀(i:Nat),kr (ar sy) [.tmp 4] 2 k ⟨.ret,[(4,aE i)],[.arr 3 0 (xs.map dM),bO (aI z)]⟩=R i) :
  ∀(l pre:List cv),xs=pre++l->eW (ar sy) [.tmp 4] 2 k (.loop [0,1,7,8] XF) [(0,.cN 0 0 3 0 xs.length),(1,.func 203 [bX 1]),(7,aE xs.length),(8,aE pre.length)] [.arr 3 0 (xs.map dM),bO (aI z)]=R (Ac z l pre.length):=by
 intro l;induction l with
 |nil =>
  intro pre h;rw[bt];simp only[EZ,gM h,Dd,kV,EW,seval];exact hx _
 |cons n rest ih =>
  intro pre h;rw[bt];have dR:pre.length+1<=100000:=by rw[h] at hn; simp at hn; omega
  have hw:=vu pre n;have hi:=ih (pre++[n]) (by rw[h]; simp)
  simp only[aD,au,av] at hi;have q59:=fun e=>akX e z hz 1 [.arr 3 0 (xs.map dM),bO (aI z)] rfl
  have cn:((pre.length:Int)<((xs.length-0:Nat):Int))=True:=by simp only[eH,im]; rw[h]; simp; omega
  rw[Ac];simp only[EZ,fV h,fc h,tkQ,shQ,q59,cn,Dd,kV,EW,seval];refine bq (fun hb=>?_) (fun hb=>?_)
  ·simp only[EZ,hb,Dd,kV,EW,seval];exact hr _
  ·simp only[EZ,hb,hw,af,Dd,kV,EW,seval];exact hi
def apH(xs:List cv)(z:Tree)(hz:Rt z)(hn:xs.length<=100000):ar sy 259 [.cN 0 0 3 0 xs.length,.func 203 [bX 1]] [.arr 3 0 (xs.map dM),bO (aI z)]=some (aE (Ac z xs 0),[.arr 3 0 (xs.map dM),bO (aI z)]):=by
 refine aw ?_;simp only[PU,EZ,bN,Dd,kV,EW,seval];exact Ye hz hn (R:=fun i=>some (aE i,[.arr 3 0 (xs.map dM),bO (aI z)])) (fun e=>by simp only[EZ,Dd,kV,EW,seval]) (fun i=>by simp only[EZ,Dd,kV,EW,seval]) xs [] rfl
def aqT(xs:List cv)(z:Tree)(hz:Rt z)(hn:xs.length<=100000):aM (ar sy) 259 [.cN 0 0 3 0 xs.length,.func 203 [bX 1]] [.arr 3 0 (xs.map dM),bO (aI z)]=some (aE (Ac z xs 0),[.arr 3 0 (xs.map dM),bO (aI z)]) :=
 jc (ids:=[0,1]) rfl rfl (afD ..) rfl rfl (apH xs z hz hn) rfl rfl rfl rfl rfl
def jC(z:Tree)(l:List cv):List cv:=l.filter fun e => !xH z e
def yf(z:Tree)(x:cv)(l:List cv):jC z (x::l)=if xH z x then jC z l else x::jC z l:=by
 unfold jC;rw[eu];cases xH z x<;>rfl
def UU(xs:List cv)(b:Nat)(o n:cv)(h:xs[b]?=some o):(jk (xs.map dM) b (putCells (dM o) 0 (gU n)))=(xs.set b n).map dM:=by
 have:putCells (dM o) 0 (gU n)=dM n:=rfl;rw[this,gq,kI]
def afH(x:cv):(gU x).all ag.plainCell=true:=rfl
def X5{z:Tree}(hz:Rt z){N:Nat}(hN:N<=100000){k:List K}{R:List cv->Nat->Option (ag×aH)}
  (hx:∀(A G:List cv) v q,A.length+G.length=N->G≠[]->kr (ar sy) [.tmp 4] 2 k ⟨.exit 0,[(0,.cN 0 0 3 0 N),(1,.func 203 [bX 1]),(5,aE A.length),(6,v),(19,q)],[.arr 3 0 ((A++G).map dM),bO (aI z)]⟩=R A G.length) :
  ∀(T A G:List cv),A.length+G.length+T.length=N->G≠[]->eW (ar sy) [.tmp 4] 2 k (.loop [0,1,5,6] Xr) [(0,.cN 0 0 3 0 N),(1,.func 203 [bX 1]),(5,aE A.length),(6,aE ((A.length+G.length:Nat):Int))] [.arr 3 0 ((A++G++T).map dM),bO (aI z)]=R (A++jC z T) (N-(A++jC z T).length):=by
 intro T;induction T with
 |nil =>
  intro A G hl hg;have cn:(((A.length+G.length:Nat):Int)<((N-0:Nat):Int))=False:=by simp only[eH,o5]; simp at hl ⊢; omega
  have hk:jC z []=[]:=rfl;have hgl:N-(A++jC z []).length=G.length:=by rw[hk]; simp at hl ⊢; omega
  rw[hgl,hk,cW,cW];rw[bt];simp only[EX,cn,Dd,kV,EW,seval];exact hx A G _ _ (by simpa using hl) hg
 |cons x T ih =>
  intro A G hl hg;simp only[au] at hl;have cn:(((A.length+G.length:Nat):Int)<((N-0:Nat):Int))=True:=uq;have hnn:((0:Int)<=((A.length+G.length:Nat):Int))=True:=uq
  have hat:(A++G++x::T)[A.length+G.length]?=some x:=by
   rw[bz (by simp)]; simp
  have hw:IntKind.i64.wrap (((A.length+G.length:Nat):Int)+1)=((A.length+G.length+1:Nat):Int):=by rw[fW (by omega) (by omega)]; omega
  have hw1:IntKind.i64.wrap ((A.length:Int)+1)=((A.length+1:Nat):Int):=by rw[fW (by omega) (by omega)]; omega
  have q59:=fun e a b M=>akX e z hz 1 (a :: bO (aI z)::b::M) rfl
  obtain⟨g,G',hG⟩:=dV hg;have hga:(A++G++x::T)[A.length]?=some g:=by rw[hG]; simp
  have hset:(A++G++x::T).set A.length x=(A++[x])++(G'++[x])++T:=by rw[hG]; simp
  have hlt2:((A.length:Int)<((N-0:Nat):Int))=True:=uq;have h1:=ih (A++[x]) (G'++[x]) (by rw[hG] at hl; simp at hl ⊢; omega) (by simp)
  have h2:=ih A (G++[x]) (by simp; omega) (by simp)
  have hl1:(((A++[x]).length+(G'++[x]).length:Nat):Int)=((A.length+G.length+1:Nat):Int):=by rw[hG]; simp; omega
  have hl2:((A.length+(G++[x]).length:Nat):Int)=((A.length+G.length+1:Nat):Int):=by simp; omega
  have hl3:((A++[x]).length:Int)=((A.length+1:Nat):Int):=by simp
  have e2:A++(G++[x])++T=A++G++x::T:=by simp
  have e1:A++[x]++jC z T=A++x::jC z T:=by simp
  rw[hl1,hl3,e1] at h1;rw[hl2,e2] at h2;simp only[aD,au] at h1 h2;have hput:=UU (A++G++x::T) A.length g x hga;rw[hset] at hput;rw[yf];rw[bt];simp only[EX,cn,hnn,hat,tkQ,shQ,OE,q59,Dd,kV,EW,seval];refine bq (fun hb=>?_) (fun hb=>?_)
  ·have hb':xH z x=false:=by simpa using hb
   simp only[EX,hb',hlt2,hga,hput,tkQ,shQ,afH,hw,hw1,af,Dd,kV,EW,seval];exact h1
  ·have hb':xH z x=true:=by simpa using hb
   simp only[EX,hb',hw,Dd,kV,EW,seval];exact h2
def Kh:cv:=⟨0,0,0⟩
def D1(z:Tree):∀(l:List cv)(i:Nat),Ac z l i = -1->jC z l=l
 | [],_,_=>rfl
 |x::l,i,h=>by
  rw[Ac] at h;split at h
  ·omega
  ·rename_i hx;rw[yf,aQ hx,D1 z l _ h]
def D2(z:Tree):∀(l:List cv)(i:Nat),Ac z l i ≠ -1->∃A x T,l=A++x::T/\Ac z l i=((i+A.length:Nat):Int)/\jC z l=A++jC z T
 | [],_,h=>absurd rfl h
 |x::l,i,h=>by
  rw[Ac] at h ⊢;rw[yf];split
  ·rename_i hx; exact⟨[],x,l,rfl,rfl,rfl⟩
  ·rename_i hx;rw[aQ hx] at h;obtain⟨A,y,T,h1,h2,h3⟩:=D2 z l (i+1) h;exact⟨x::A,y,T,by rw[h1]; rfl,by rw[h2]; simp; omega,by rw[h3]; rfl⟩
def NG(m:Nat):ag:=if m=0 then .slice .sh [] else .cN 0 0 3 0 m
def Mm(A G:List cv):((A++G).map dM).take A.length++(List.replicate G.length (ag.agg [aE 0,aE 0,aE 0])++((A++G).map dM).drop (A++G).length)=(A++List.replicate G.length Kh).map dM:=by
 have h1:((A++G).map dM).take A.length=A.map dM:=by simp[fx]
 have h2:((A++G).map dM).drop (A++G).length=[]:=by rw[List.drop_eq_nil_iff]; simp
 rw[h1,h2];simp[gF];exact .inr rfl
def ao4(xs:List cv)(z:Tree)(hz:Rt z)(hn:xs.length<=100000)(h0:xs≠[]):ar sy 201 [.cN 0 0 3 0 xs.length,.func 203 [bX 1]] [.arr 3 0 (xs.map dM),bO (aI z)] =
  some (NG (jC z xs).length,[.arr 3 0 ((jC z xs++List.replicate (xs.length-(jC z xs).length) Kh).map dM),bO (aI z)]):=by
 have q168:=aqT xs z hz hn;refine aw ?_
 by_cases hi:Ac z xs 0 = -1
 ·have hk:=D1 z xs 0 hi;have hb:(Ac z xs 0 == -1)=true:=by simpa using hi
  have hl:xs.length≠0:=fun hh=>h0 (ck.1 hh)
  rw[hk];simp only[GP,EX,q168,hb,Dd,kV,EW,seval];simp[NG,hl]
 ·obtain⟨A,x,T,h1,h2,h3⟩:=D2 z xs 0 hi;have hb:(Ac z xs 0 == -1)=false:=by simpa using hi
  simp only[aK] at h2;have dR:xs.length=A.length+(T.length+1):=by rw[h1]; simp
  have hw:IntKind.i64.wrap ((A.length:Int)+1)=((A.length+[x].length:Nat):Int):=by rw[fW (by omega) (by omega)]; simp
  have hlp:=fun k R hx=>X5 (z:=z) hz hn (k:=k) (R:=R) hx T A [x] (by simp; omega) (by simp)
  have e1:A++[x]++T=xs:=by rw[h1]; simp
  rw[e1] at hlp;rw[h2] at hb q168;rw[h3];simp only[GP,EX,q168,hb,hw,Dd,kV,EW,seval];refine(hlp _ (fun A' g=>some (NG A'.length,[.arr 3 0 ((A'++List.replicate g Kh).map dM),bO (aI z)])) (fun A' G v q hl hg=>?_)).trans (by simp only[aD])
  have hgl:G.length≠0:=fun hh=>hg (ck.1 hh)
  have b1:(((A'.length:Nat):Int)<=(xs.length:Int))=True:=uq;have b2:(((A'.length:Nat):Int)==(xs.length:Int))=false:=by simp; omega
  have hcl:=Mm A' G;have hN:(A'++G).length=xs.length:=by simp; omega
  have hd:xs.length-A'.length=G.length:=by omega
  rw[hN] at hcl;have hz0:Int.toNat ((0:Nat):Int)=0:=rfl;have hb0:((0:Int)<=((A'.length:Nat):Int))=True:=by simp
  by_cases hA:A'.length=0
  ·have b3:((0:Int)==((A'.length:Nat):Int))=true:=by simp[hA]
   simp only[EX,fy,bN,cZ,b1,b2,hd,hcl,b3,hz0,hb0,Dd,kV,EW,seval];simp[NG,hA]
  ·have b3:((0:Int)==((A'.length:Nat):Int))=false:=by simp; omega
   simp only[EX,fy,bN,cZ,b1,b2,hd,hcl,b3,hz0,hb0,Dd,kV,EW,seval];simp[NG,hA]
end
def ai6(z:Tree):ar sy 259 [gH [],.func 203 [bX 0]] [bO (aI z)]=some (aE (-1),[bO (aI z)]):=by
 refine aw ?_;simp only[PU,EZ,aI,Dd,kV,EW,seval];rw[bt];have h0:((0:Int)<((0:Nat):Int))=False:=by simp
 simp only[EZ,aI,h0,Dd,kV,EW,seval]
def aiY(z:Tree):ar sy 201 [gH [],.func 203 [bX 0]] [bO (aI z)]=some (gH [],[bO (aI z)]):=by
 have h11:((-1:Int) == -1)=true:=rfl;have q:aM (ar sy) 259 [gH [],.func 203 [bX 0]] [bO (aI z)]=some (aE (-1),[bO (aI z)]):=jc (ids:=[0]) rfl rfl (afE z) rfl rfl (ai6 z) rfl rfl rfl rfl rfl;refine aw ?_;simp only[aI] at q;simp only[GP,EX,aI,q,h11,Dd,kV,EW,seval]
end
noncomputable def A4(args:List ag)(M:aH):Option (ag×aH):=bI (ar sy 201 args M) fun x=>cq (x.1.jx=false) (some (x.1.vI x.2,sm x.2 x.1.ids))
def I9{args:List ag}{M:aH}{x:ag×aH}(h:A4 args M=some x):dC Tryz.prog 201 args M x:=by
 obtain⟨y,h1,h2⟩:=bg h;obtain⟨hp,h2⟩:=da h2;cases h2;exact DS (af5 _ _ _ _ h1).2 hp
def Ny(z:Tree):A4 [gH [],.func 203 [bX 0]] [bO (aI z)]=some (gH [],[bO (aI z)]):=by
 unfold A4;rw[aiY,bT];exact dS rfl
def Still(b:dv):Prop:=(∀B M,b.back B M=b)/\b.flat=true/\(∀ρ,b.pv ρ=b)
def T6(xs:List cv)(z:Tree)(hz:Rt z)(hn:xs.length<=100000)(h0:xs≠[]):∃b,Still b/\A4 [.cN 0 0 3 0 xs.length,.func 203 [bX 1]] [.arr 3 0 (xs.map dM),bO (aI z)]=some (cJ (jC z xs),[b,bO (aI z)]):=by
 have h:=ao4 xs z hz hn h0;unfold A4;rw[h,bT];unfold NG
 by_cases hl:(jC z xs).length=0
 ·have h1:jC z xs=[]:=ck.1 hl;refine⟨.arr 3 0 ((jC z xs++List.replicate (xs.length-(jC z xs).length) Kh).map dM),⟨fun _ _=>rfl,rfl,fun _=>rfl⟩,?_⟩
  rw[bh hl];refine(dS rfl).trans ?_;rw[h1];rfl
 ·refine⟨.tick 3 ((jC z xs++List.replicate (xs.length-(jC z xs).length) Kh).map dM).length,⟨fun _ _=>rfl,rfl,fun _=>rfl⟩,?_⟩
  rw[aQ hl];refine(dS rfl).trans ?_
  have ht:List.drop 0 (List.take (jC z xs).length ((jC z xs++List.replicate (xs.length-(jC z xs).length) Kh).map dM))=(jC z xs).map dM:=by
   simp[fx]
  show some (ag.slice .sh (List.drop 0 (List.take (jC z xs).length ((jC z xs++List.replicate (xs.length-(jC z xs).length) Kh).map dM))),_)=_
  rw[ht];rfl
noncomputable def nU(T:yz)(f0:Nat)(g:List ag->aH->Option (ag×aH)):yz:=⟨T.code,fun f=>if f=f0 then some g else T.mQ f⟩
def wS{P:Program}{T:yz}(hT:vV P T){f0:Nat}{g:List ag->aH->Option (ag×aH)}(he:lQ P f0=true)(hg:∀ {args:List ag} {M:aH} {x:ag×aH},g args M=some x->dC P f0 args M x):vV P (nU T f0 g):=by
 refine⟨hT.code,fun f g' h args M x hx=>?_⟩
 simp only[nU] at h;split at h
 ·rename_i hf;cases h; subst hf;exact⟨he,hg hx⟩
 ·exact hT.mQ f g' h args M x hx
def zA{T:yz}{f0:Nat}{g:List ag->aH->Option (ag×aH)}(h1:T.code f0=none)(h2:T.mQ f0=none):∀n,va (jy T n) (jy (nU T f0 g) n)
 |0,f,a,M,x,h=>by
  by_cases hf:f=f0
  ·subst hf;rw[jy,h2] at h;cases h
  ·have hp:(nU T f0 g).mQ f=T.mQ f:=by simp[nU,hf]
   rw[jy] at h ⊢;rw[hp];exact h
 |n+1,f,a,M,x,h=>by
  by_cases hf:f=f0
  ·subst hf;rw[jy,h2,h1] at h;cases h
  ·have hp:(nU T f0 g).mQ f=T.mQ f:=by simp[nU,hf]
   rw[jy] at h ⊢;rw[hp];split at h
   ·rename_i g hg; exact h
   ·rename_i hg;have hc:(nU T f0 g).code f=T.code f:=rfl;rw[hc];split at h
    ·cases h
    ·rename_i fn hfn;split at h
     ·rename_i hl;simp only[bh hl];obtain⟨o,ho,h⟩:=bg h;rw[jF (zA h1 h2 n) _ ho,bT];exact h
     ·cases h
def wR{T:yz}{f0:Nat}{g:List ag->aH->Option (ag×aH)}(h1:T.code f0=none)(h2:T.mQ f0=none){f:Nat}{a:List ag}{M:aH}{x:ag×aH}(h:ar T f a M=some x):ar (nU T f0 g) f a M=some x:=by
 obtain⟨n,hn⟩:=vn h;exact oV (fun n x h=>qQ _ n f a M x h) (zA h1 h2 n f a M x hn)
noncomputable def amo:yz:=nU bK 201 A4
def Y7:vV Tryz.prog amo:=wS U5 (by kernel_rfl) (fun h=>I9 h)
noncomputable def gj:yz:=nU amo 144 CQ
def LO:vV Tryz.prog gj:=wS Y7 (by kernel_rfl) (fun h=>NM h)
def Ka:oQ Tryz.prog (ar gj):=ry (by kernel_rfl) LO
def LP{f:Nat}{a:List ag}{M:aH}{x:ag×aH}(h:ar bK f a M=some x):ar gj f a M=some x:=wR rfl rfl (wR rfl rfl h)
def lS'{f:Nat}{a:List ag}{M:aH}{x:ag×aH}(h:ar bK f a M=some x):ar gj f a M=some x:=LP h
def lS{f:Nat}{vs:List ag}{M:aH}{x:ag×aH}(h:aM (ar bK) f vs M=some x):aM (ar gj) f vs M=some x:=by
 obtain⟨a,B,y,h1,h2⟩:=qW h;exact h2 _ (LP h1)
def adk(s:Bytes)(hs:s.length<=100000)(M:aH):aM (ar gj) 144 [.str s] M=some (.tuple [c9 (gx s).1,aE (gx s).2],M):=by
 have h:ar gj 144 [.str s] []=some (.tuple [c9 (gx s).1,aE (gx s).2],[]):=by
  refine eX (g:=CQ) rfl ?_;unfold CQ;simp only[];rw[bh ⟨trivial,hs⟩]
 exact cO h M
section
def nD{s:Bytes}(h:fD s=true):s.length<=32:=by
 unfold fD at h;simp only[bm,gV,kB,dq] at h;omega
def H9:∀(x:List (Bytes×Bool)) (n:Nat) (l:List Bytes),pt x n=some l->n<=12->(∀s,s∈l->fD s=true)/\l.length+n<=12
 | [],n,l,h,hn=>by
  simp only[pt,eS] at h;subst h;exact⟨fun s hs=>by simp at hs,by simp; omega⟩
 |x::r,n,l,h,hn=>by
  rw[pt] at h;split at h
  ·cases h
  ·rename_i hb;cases hr:pt r (n+1) with
   |none=>rw[hr] at h; cases h
   |some k =>
    rw[hr] at h;simp only[eM,eS] at h;subst h;have hb':Dl x n=false:=by simpa using hb
    unfold Dl at hb';simp only[kB,jY,jL] at hb';obtain⟨g1,g2⟩:=H9 r (n+1) k hr (by omega)
    refine⟨fun s hs=>?_,by simp; omega⟩
    rcases bC.1 hs with h1|h1
    ·subst h1; exact hb'.1.2
    ·exact g1 s h1
def xn(s:Bytes):(∀x,x∈(gx s).1->fD x=true)/\(gx s).1.length<=12:=by
 unfold gx;split
 ·exact⟨fun s hs=>by simp at hs,by simp⟩
 ·split
  ·exact⟨fun s hs=>by simp at hs,by simp⟩
  ·exact⟨fun s hs=>by simp at hs,by simp⟩
  ·rename_i l hl;obtain⟨g1,g2⟩:=H9 _ 0 _ hl (by omega)
   exact⟨g1,by omega⟩
def C7:∀l:List Bytes,Aw (l.map ag.str)=some l
 | []=>rfl
 |s::r=>by
  show bI (Aw (r.map ag.str)) (fun l=>some (s::l))=_
  rw[C7 r]; rfl
def Cw(l:List Bytes)(h:∀x,x∈l->fD x=true):(Lib.join l [47]).length<=33*l.length:=by
 induction l with
 |nil=>simp[Lib.join]
 |cons a r ih =>
  have h1:=nD (h a (by simp))
  have h2:=ih (fun x hx=>h x (by simp[hx]))
  cases r with
  |nil=>simp[Lib.join]; omega
  |cons b r=>simp[Lib.join] at h2 ⊢; omega
def Hh(l:List Bytes):Bytes:=if (l.length:Int)==0 then [47] else [47]++Lib.join l [47]
def MV(l:List Bytes)(h:∀x,x∈l->fD x=true)(hl:l.length<=12):(Hh l).length<=1000:=by
 unfold Hh;have:=Cw l h;split<;>simp<;>omega
def aqZ(l:List Bytes)(h:∀x,x∈l->fD x=true)(hl:l.length<=12)(M:aH):aM (ar bK) 289 [c9 l,.str [47]] M=some (.str (Lib.join l [47]),M):=by
 have hq:ar bK 289 [c9 l,.str [47]] []=some (.str (Lib.join l [47]),[]):=by
  refine eX (g:=HH) rfl ?_;unfold HH;simp only[];rw[C7,bT,bh];have:=Cw l h;omega
 exact cO hq M
attribute [local irreducible] eW fQ lh gK dW kr ar aM cq bI
def apE(l:List Bytes)(h:∀x,x∈l->fD x=true)(hl:l.length<=12):ar bK 253 [c9 l] []=some (.str (Hh l),[]):=by
 refine aw ?_;have q:=aqZ l h hl;have hm:(IntKind.i64.max<((1+(Lib.join l [47]).length:Nat):Int))=False:=max_lt _ (by have:=Cw l h; omega)
 unfold Hh;simp only[aa3,agR,q,EW,seval];cases h0:(l.length:Int)==0<;>simp only[agR,h0,af,aG,az,q,hm,EW,seval]
def aqS l h hl:=cP (apE l h hl)
def tg(s:Bytes):Bytes×Bytes×Int :=
 if (gx s).2 != 0||(((gx s).1.length:Int)==0) then ([],[],60)
 else ((gx s).1.getD ((gx s).1.length-1) [],Hh ((gx s).1.take ((gx s).1.length-1)),0)
def ao0(s:Bytes)(hs:s.length<=100000):ar gj 195 [.str s] []=some (.tuple [.str (tg s).1,.str (tg s).2.1,aE (tg s).2.2],[]):=by
 refine aw ?_;have q:=adk s hs;obtain⟨h1,h2⟩:=xn s;unfold tg;generalize gx s=l at q h1 h2 ⊢;obtain⟨l,e⟩:=l;simp only at h1 h2;have q2:=fun M=>lS (aqS (l.take (l.length-1)) (fun x hx=>h1 x (dI hx)) (by simp; omega) M)
 simp only[c9,eO] at q2;simp only[aaB,Vs,q,EW,seval];cases he:e != 0
 ·cases h0:(l.length:Int)==0
  ·have hne:0<l.length:=by
    have:¬((l.length:Int)=0):=by simpa using h0
    omega
   have hw:IntKind.i64.wrap ((l.length:Int)-1)=((l.length-1:Nat):Int):=by rw[fW (by omega) (by omega)]; omega
   have hx:=ai (show l.length-1<l.length by omega)
   have hg:l.getD (l.length-1) []=l[l.length-1]:=by simp[List.getD,hx]
   have hle:((l.length-1:Nat):Int)<=(l.length:Int):=by omega
   have hz:((0:Int)<=((l.length-1:Nat):Int))=True:=by simp
   simp only[Vs,he,h0,hw,hx,q2,hg,hle,hz,eR,af,az,EW,seval]
  ·simp only[Vs,he,h0,ei,aG,EW,seval]
 ·simp only[Vs,he,dH,aG,EW,seval]
def aqG s hs:=cP (ao0 s hs)
def Eb(s:Bytes)(_hs:s.length<=100000):(tg s).1.length<=1000/\(tg s).2.1.length<=1000:=by
 obtain⟨h1,h2⟩:=xn s;unfold tg;split
 ·exact⟨by simp,by simp⟩
 ·refine⟨?_,MV _ (fun x hx=>h1 x (dI hx)) (by simp; omega)⟩
  simp only[List.getD];cases hx:(gx s).1[(gx s).1.length-1]? with
  |none=>simp
  |some x=>have:=nD (h1 x (aO hx)); simp; omega
def AB(ae:List Node):List Bytes->Int->Int×Int
 | [],aq=>(aq,0)
 |s::r,aq=>if (eE ae aq s).2 != 0 then (0,(eE ae aq s).2) else AB ae r (eE ae aq s).1
def jn(t:Tree)(c8:Bytes):Int×Int:=if (gx c8).2 != 0 then (0,(gx c8).2) else AB t.ae (gx c8).1 1
def X4{t:Tree}(ht:Small t)(hr:qx t){xs:List Bytes}(hxs:∀x,x∈xs->x.length<=100000)(hn:xs.length<=100000) :
  ∀(l pre:List Bytes)(aq:Int),xs=pre++l->eW (ar gj) [.tmp 4,.tmp 5] 0 [.block 0,.seq afN] (.loop [2,8,19,20,21] Xq) [(2,bX 0),(8,aE aq),(19,c9 xs),(20,aE xs.length),(21,aE pre.length)] [bO (aI t)] =
   some (.tuple [aE (AB t.ae l aq).1,aE (AB t.ae l aq).2],[]):=by
 intro l;induction l with
 |nil =>
  intro pre aq h;rw[bt];simp only[It,gM h,aI,AB,EW,seval]
 |cons s rest ih =>
  intro pre aq h;rw[bt];have dR:pre.length+1<=100000:=by rw[h] at hn; simp at hn; omega
  have hw:=vu pre s;have hi1:=ih (pre++[s]) (eE t.ae aq s).1 (by rw[h]; simp)
  have q:=fun M=>lS (WH t.ae t.next t.aj aq s ht hr (hxs s (by rw[h]; simp)) trivial M)
  rw[AB];generalize eE t.ae aq s=v at q hi1 ⊢;simp only[aD,au,av,aK,aI] at hi1;simp only[It,fV h,fc h,aI,q,EW,seval];cases he:v.2 != 0
  ·simp only[It,he,hw,af,az,EW,seval];exact hi1
  ·simp only[It,he,aG,EW,seval]
def c193(t:Tree)(c8:Bytes)(ht:Small t)(hr:qx t)(hp:c8.length<=100000):ar gj 193 [bo t,.str c8] []=some (.tuple [aE (jn t c8).1,aE (jn t c8).2],[]):=by
 refine aw ?_;have q:=adk c8 hp;obtain⟨h1,h2⟩:=xn c8;have hl:=X4 ht hr (xs:=(gx c8).1) (fun x hx=>by have:=nD (h1 x hx); omega) (by omega) (gx c8).1 [] 1 rfl
 unfold jn;generalize gx c8=v at q hl ⊢;simp only[aI,av] at hl;simp only[aaz,It,bo,aI,q,EW,seval];cases he:v.2 != 0
 ·simp only[It,he,af,az,EW,seval];exact hl
 ·simp only[It,he,aG,EW,seval]
def akS(t:Tree)(c8:Bytes)(ht:Small t)(hr:qx t)(hp:c8.length<=100000)(M:aH):aM (ar gj) 193 [.agg [aN t.ae,aE t.next,aE t.aj],.str c8] M=some (.tuple [aE (jn t c8).1,aE (jn t c8).2],M) :=
 cO (c193 t c8 ht hr hp) M
def fM(e:Int):ag := .mw (.iface 42 (.int .i64 e))
def c78(e:Int):ar gj 78 [aE e] []=some (if e != 0 then fM e else .tuple [],[]):=by
 refine aw ?_;simp only[aj1,E78,EW,seval];cases he:e != 0
 ·simp only[E78,af,az,EW,seval]
 ·simp only[E78,aG,valOf,fM,EW,seval]
def tH(e:Int)(M:aH):aM (ar gj) 78 [aE e] M=some (if e != 0 then fM e else .tuple [],M) :=
 Bu (c78 e) rfl rfl (by split<;>rfl) rfl (by split<;>rfl) M
def c28(b:Bool)(e:Int)(he:(e != 0)=true):ar gj 28 [.bool b,aE e] []=some (if b then .tuple [] else fM e,[]):=by
 refine aw ?_;have q:=tH e;rw[bh he] at q;cases b<;>simp only[ajK,E28,q,fM,af,aG,az,EW,seval]
def N9(b:Bool)(e:Int)(he:(e != 0)=true)(M:aH):aM (ar gj) 28 [.bool b,aE e] M=some (if b then .tuple [] else fM e,M) :=
 Bu (c28 b e he) rfl rfl (by split<;>rfl) rfl (by split<;>rfl) M
end
section
attribute [local irreducible] eW fQ lh gK dW kr ar aM cq bI
def b9(f:aa)(o:jz):List ag:=[aN f.s.now.ae,.int .i64 f.s.now.next,.int .i64 f.s.now.aj,.int .i64 f.s.tick,we f.s.since,ug f.s.dw,kc f.s.cp,.int .i64 f.s.next,eo f.holds,cJ f.cL,
 .int .i64 o.kind,.int .i64 o.cD,.str o.c8,.str o.r9,.int .i64 o.n,.int .i64 o.m,.int .i64 o.handle,cX o.data,
 .int .i64 0,.int .i64 0,.int .i64 0,.int .i64 0,.int .i64 0,.slice .c0 [],.slice .c0 []]
abbrev cf(f:aa)(o:jz):dv := .cells (b9 f o)
def du(f:aa)(o:jz)(a:LU)(x y:ag):dv := .cells [aN f.s.now.ae,.int .i64 f.s.now.next,.int .i64 f.s.now.aj,.int .i64 f.s.tick,we f.s.since,ug f.s.dw,kc f.s.cp,.int .i64 f.s.next,eo f.holds,cJ f.cL,
 .int .i64 o.kind,.int .i64 o.cD,.str o.c8,.str o.r9,.int .i64 o.n,.int .i64 o.m,.int .i64 o.handle,cX o.data,
 .int .i64 a.err,.int .i64 a.aq,.int .i64 a.kind,.int .i64 a.n,.int .i64 a.m,x,y]
def Row(x:ag)(xs:List ag):Prop:=x = .slice .sh xs\/(x = .slice .c0 []/\xs=[])
def oj(K:Nat)(f:aa)(o:jz)(r:aa×LU×Int):Prop :=
 ∃x y,Row x (r.2.1.names.map ag.str)/\Row y (r.2.1.data.map pE)/\ar gj K [.ptr 0 0] [.cells (b9 f o)]=some (if r.2.2 != 0 then fM r.2.2 else .tuple [],[du r.1 o r.2.1 x y])
def fJ:LU:=⟨0,0,0,0,0,[],[]⟩
def Hi{C:eB}{g p:Nat}{vs:List ag}{r:ag}{M:aH}{f f':aa}{o o':jz}(hM:nth M p=some (cf f o))(h:C g (.ptr 0 0::vs) [cf f o]=some (r,[cf f' o']))
  (h1:vs.all ag.flat=true) (h2:vs.flatMap ag.ids=[]) (h3:r.vA=true) (h4:∀p,vs.map (ag.pv (hZ [p]))=vs) (h5:∀p,r.Ao (vN [p])=r) :
  aM C g (.ptr p 0::vs) M=some (r,jk M p (cf f' o')) :=
 pM hM h h1 h2 h3 (h4 p) (h5 p) rfl rfl rfl rfl rfl
def c194(f:aa)(o:jz)(aq:Int)(ht:Small f.s.now)(hr:qx f.s.now):ar gj 194 [bX 0,aE aq] [cf f o]=some (.agg (aF (aY f.s.now.ae aq)),[cf f o]):=by
 refine aw ?_;have q:=fun M=>lS (Oa f.s.now aq ht hr M)
 simp only[aF] at q;simp only[aaA,am3,cf,b9,q,aF,EW,seval]
def akT(f:aa)(o:jz)(aq:Int)(ht:Small f.s.now)(hr:qx f.s.now){p:Nat}{M:aH}(hM:nth M p=some (cf f o)):aM (ar gj) 194 [bX p,aE aq] M=some (.agg (aF (aY f.s.now.ae aq)),M):=by
 have:=Hi hM (c194 f o aq ht hr) rfl rfl rfl (fun _=>rfl) (fun _=>rfl)
 rwa[rq hM] at this
def an1(f:aa)(o:jz)(c8:Bytes)(ht:Small f.s.now)(hr:qx f.s.now)(hp:c8.length<=100000):ar gj 124 [bX 0,.str c8] [cf f o] =
  some (if (jn f.s.now c8).2 != 0 then fM (jn f.s.now c8).2 else .agg (aF (aY f.s.now.ae (jn f.s.now c8).1)),[cf f o]):=by
 refine aw ?_;have q1:=akS f.s.now c8 ht hr hp;generalize jn f.s.now c8=v at q1 ⊢;have q2:=tH v.2;have q3:∀b,aM (ar gj) 194 [bX 0,aE v.1] [cf f o,b]=some (.agg (aF (aY f.s.now.ae v.1)),[cf f o,b]):=fun b=>akT f o v.1 ht hr (p:=0) rfl
 simp only[cf,b9,aF] at q3;simp only[ZX,abQ,cf,b9,q1,EW,seval];cases he:v.2 != 0<;>simp only[he,af,aG,az,fM] at q2 ⊢
 ·simp only[abQ,q2,q3,aF,EW,seval]
 ·simp only[abQ,q2,EW,seval]
def JC(f:aa)(o:jz)(c8:Bytes)(ht:Small f.s.now)(hr:qx f.s.now)(hp:c8.length<=100000){p:Nat}{M:aH}(hM:nth M p=some (cf f o)):aM (ar gj) 124 [bX p,.str c8] M =
  some (if (jn f.s.now c8).2 != 0 then fM (jn f.s.now c8).2 else .agg (aF (aY f.s.now.ae (jn f.s.now c8).1)),M):=by
 have:=Hi hM (an1 f o c8 ht hr hp) rfl rfl (by split<;>rfl) (fun _=>rfl) (fun _=>by split<;>rfl)
 rwa[rq hM] at this
def ig(t:Tree)(c8:Bytes):Int×Bytes×Int :=
 if (tg c8).2.2 != 0 then (0,[],(tg c8).2.2)
 else if (jn t (tg c8).2.1).2 != 0 then (0,[],(jn t (tg c8).2.1).2)
 else ((jn t (tg c8).2.1).1,(tg c8).1,0)
def an2(f:aa)(o:jz)(c8:Bytes)(ht:Small f.s.now)(hr:qx f.s.now)(hp:c8.length<=100000):ar gj 125 [bX 0,.str c8] [cf f o] =
  some (if (ig f.s.now c8).2.2 != 0 then fM (ig f.s.now c8).2.2 else .tuple [aE (ig f.s.now c8).1,.str (ig f.s.now c8).2.1],[cf f o]):=by
 refine aw ?_;have q1:=aqG c8 hp;have hl:=Eb c8 hp;have q4:=akS f.s.now (tg c8).2.1 ht hr (by omega)
 unfold ig;generalize tg c8=l at q1 q4 ⊢;have q2:=tH l.2.2;generalize jn f.s.now l.2.1=v at q4 ⊢;have q3:=tH v.2;simp only[ZY,Vm,cf,b9,q1,EW,seval];cases he:l.2.2 != 0<;>simp only[he,af,aG,az,fM] at q2 ⊢
 ·cases hv:v.2 != 0<;>simp only[hv,af,aG,az,fM] at q3 ⊢
  ·simp only[Vm,q2,q4,q3,an,af,az,EW,seval]
  ·simp only[Vm,q2,q4,q3,hv,aG,EW,seval]
 ·simp only[Vm,q2,he,aG,EW,seval]
def Qi(f:aa)(o:jz)(c8:Bytes)(ht:Small f.s.now)(hr:qx f.s.now)(hp:c8.length<=100000){p:Nat}{M:aH}(hM:nth M p=some (cf f o)):aM (ar gj) 125 [bX p,.str c8] M =
  some (if (ig f.s.now c8).2.2 != 0 then fM (ig f.s.now c8).2.2 else .tuple [aE (ig f.s.now c8).1,.str (ig f.s.now c8).2.1],M):=by
 have:=Hi hM (an2 f o c8 ht hr hp) rfl rfl (by split<;>rfl) (fun _=>rfl) (fun _=>by split<;>rfl)
 rwa[rq hM] at this
def Bb(n:Node):Int:=if (n.data.length:Int)<(n.aL.length:Int) then (n.aL.length:Int) else (n.data.length:Int)
def aob(n:Node):ar gj 134 [.agg (aF n)] []=some (aE (Bb n),[]):=by
 refine aw ?_;simp only[Z4,amS,bD,aF,Bb,EW,seval]
def XP{xs:List fg}(hn:xs.length<=100000){k:List K}{R:List Bytes->Option (ag×aH)}
  (hx:∀(out:List Bytes) e,kr (ar gj) [.tmp 2] 0 k ⟨.exit 0,(3,.slice (.own 0) (out.map ag.str))::e,[.tick 1 out.length]⟩=R out) :
  ∀(l pre:List fg)(out:List Bytes),xs=pre++l->out.length<=pre.length->eW (ar gj) [.tmp 2] 0 k (.loop [3,6,7,8] W6) [(3,.slice (.own 0) (out.map ag.str)),(6,gS xs),(7,aE xs.length),(8,aE pre.length)] [.tick 1 out.length]=R (out++l.map fg.name):=by
 intro l;induction l with
 |nil =>
  intro pre out h ho;rw[bt];simp only[Vn,gM h,EW,seval];exact hx _ _
 |cons n rest ih =>
  intro pre out h ho;rw[bt];have dR:pre.length+1<=100000:=by rw[h] at hn; simp at hn; omega
  have hw:=vu pre n;have hi:=ih (pre++[n]) (out++[n.name]) (by rw[h]; simp) (by simp; omega)
  simp only[aD,au,av,bu,aP,bc,aK,fm,aU,aW] at hi;have r1:cu (out.length+1) 16=True:=qm;simp only[Vn,fV h,fc h,fa,r1,hw,EW,seval];exact hi
def aoa(l:List fg)(hn:l.length<=100000):ar gj 133 [gS l] []=some (c9 (l.map fg.name),[]):=by
 refine aw ?_;have hl:=XP hn (k:=[.block 0,.seq afJ]) (R:=fun out=>some (c9 out,[])) (fun out e=>by simp only[Vn,EW,seval]) l [] [] rfl (aC _)
 simp only[bc,av] at hl;simp only[Px,Vn,EW,seval];exact hl
def adh l hn:=cP (aoa l hn)
def adi n:=cP (aob n)
end
section
abbrev eI:Int->ag:=fun n => .int .i64 n
def bkI(B:Nat)(M:aH)(l:AM Int):List.map (ag.kg B M) (pQ eI l)=pQ eI l:=OS _ _ _ (fun _=>rfl) l
attribute [local irreducible] eW fQ lh gK dW kr ar aM cq bI
def pO(ae:List Node)(dom:Int):List fg->AM Int->Option (AM Int)
 | [],m=>some m
 |e::r,m=>if (aY ae e.aq).kind==1&&(dA m e.aq).isSome&&((dA m e.aq).getD 0 != dom) then none else pO ae dom r (lJ m e.aq dom)
def oU(ae:List Node)(l:List cv):List Node->AM Int->Bool
 | [],_=>true
 |d::r,m=>if (d.aL.length:Int)==0 then oU ae l r m else match pO ae (jM ae l d.aq) d.aL m with
  |none=>false
  |some m'=>oU ae l r m'
def oX(t:Tree)(l:List cv):Bool:=oU t.ae l t.ae []
def Yi{t:Tree}(ht:Small t)(hr:qx t){ql:List cv}{d:Node}{dom i n0:Int}{k:List K}{R:Option (AM Int)->Option (ag×aH)}(hn:d.aL.length<=100000)
  (hx:∀m e,kr (ar bK) [.tmp 4] 0 k ⟨.exit 2,(1,cJ ql)::(2,bX 0)::(5,.gP 1)::(8,aE dom)::(17,aN t.ae)::(18,aE n0)::(19,aE i)::e,[bO (aI t),.map (AN m) (pQ eI m),bO (aF d)]⟩=R (some m))
  (hret:∀m b1 b2,kr (ar bK) [.tmp 4] 0 k ⟨.ret,[(4,.bool false)],[bO (aI t),.map (AN m) (pQ eI m),bO (aF d),b1,b2]⟩=R none) :
  ∀(l pre:List fg)(m:AM Int),d.aL=pre++l->eW (ar bK) [.tmp 4] 0 k (.loop [1,2,5,8,17,18,19,33,34,35] aeJ) [(1,cJ ql),(2,bX 0),(5,.gP 1),(8,aE dom),(17,aN t.ae),(18,aE n0),(19,aE i),(33,gS d.aL),(34,aE d.aL.length),(35,aE pre.length)] [bO (aI t),.map (AN m) (pQ eI m),bO (aF d)] =
   R (pO t.ae dom l m):=by
 simp only[aI,aF] at hx hret ⊢;intro l;induction l with
 |nil =>
  intro pre m h;rw[bt];simp only[Oo,gM h,pO,bkI,EW,seval];exact hx _ _
 |cons e rest ih =>
  intro pre m h;rw[bt];have dR:pre.length+1<=100000:=by rw[h] at hn; simp at hn; omega
  have hw:=vu pre e;have q1:=Oa t e.aq ht hr;have hput:=rJ eI m e.aq dom;have hi:=ih (pre++[e]) (lJ m e.aq dom) (by rw[h]; simp)
  rw[pO];simp only[aF,aD,au,av,aK] at q1 hi;simp only[Oo,fV h,fc h,fa,q1,mM,mapOf.eq_1,EW,seval];cases hm:dA m e.aq with
  |none =>
   cases hk:(aY t.ae e.aq).kind==1<;>simp only[Oo,hm,hk,S6,hput,hw,mapOf.eq_1,bkI,nv,eA,dP,dy,af,az,EW,seval]
   ·exact hi
   ·exact hi
  |some v =>
   cases hk:(aY t.ae e.aq).kind==1<;>cases hd:v != dom<;>simp only[Oo,hm,hk,hd,Lk,hput,hw,mapOf.eq_1,bkI,bW,bn,dP,dy,dD,af,aG,az,EW,seval]
   ·exact hi
   ·exact hi
   ·exact hi
   ·exact hret _ _ _
def Yj{t:Tree}{cz:Int->Nat}(ht:cF t cz 0){ql:List cv}(hq:ov ql)(hql:ql.length<=100000) :
  ∀(l pre:List Node)(m:AM Int),t.ae=pre++l->eW (ar bK) [.tmp 4] 0 [.block 0,.seq Uz] (.loop [1,2,5,17,18,19] S4) [(1,cJ ql),(2,bX 0),(5,.gP 1),(17,aN t.ae),(18,aE t.ae.length),(19,aE pre.length)] [bO (aI t),.map (AN m) (pQ eI m)] =
   some (.bool (oU t.ae ql l m),[]):=by
 intro l;induction l with
 |nil =>
  intro pre m h;rw[bt];simp only[Oo,gM h,oU,aI,EW,seval]
 |cons d rest ih =>
  intro pre m h;rw[bt];have hn:=ht.ae;have dR:pre.length+1<=200:=by rw[h] at hn; simp at hn; omega
  have hw:=vu pre d;have hi:=fun m=>ih (pre++[d]) m (by rw[h]; simp)
  have hfd:find t.ae d.aq=some d:=(eD ht.ja.jd).2 ⟨by rw[h]; simp,rfl⟩
  rw[oU];simp only[aI,aD,au,av,aK] at hi;simp only[Oo,fV h,fc h,aI,aF,EW,seval];cases he:(d.aL.length:Int)==0
  ·have hk:d.kind=2:=by
    rcases ht.kind _ _ hfd with h1|h1
    ·rw[(ht.file _ _ hfd h1).1] at he; simp at he
    ·exact h1
   have q1:=k94 ht hq hql hfd hk
   have hin:=Yi ht.sz.FI ht.ja (ql:=ql) (d:=d) (dom:=jM t.ae ql d.aq) (i:=pre.length) (n0:=t.ae.length) (k:=[.block 2,.block 1,.seq afO,.loop [1,2,5,17,18,19] 2 S4,.block 0,.seq Uz])
    (R:=fun o=>some (.bool (match o with|none=>false|some m'=>oU t.ae ql rest m'),[])) (by have:=(ht.v8 _ _ hfd).2; omega)
    (fun m e=>by
     have:=hi m;simp only[aI,aF,Oo,hw,bkI,EW,seval];exact this)
    (fun m b1 b2=>by simp only[aI,aF,Oo,EW,seval]) d.aL [] m rfl
   simp only[aI,aF,av] at hin;simp only[Oo,he,q1,af,az,EW,seval];refine hin.trans ?_;rfl
  ·simp only[Oo,he,hw,aG,bkI,EW,seval];exact hi m
def c32(t:Tree)(l:List cv)(ht:Rt t)(hq:ov l)(hl:l.length<=100000):ar bK 32 [bo t,cJ l] []=some (.bool (oX t l),[]):=by
 obtain⟨cz,ht⟩:=ht;refine aw ?_;have h:=Yj ht hq hl t.ae [] [] rfl;simp only[aI,av] at h;simp only[ajP,Oo,bo,aI,EW,seval];exact h
def k32(t:Tree)(l:List cv)(ht:Rt t)(hq:ov l)(hl:l.length<=100000)(M:aH):aM (ar bK) 32 [.agg [aN t.ae,aE t.next,aE t.aj],cJ l] M=some (.bool (oX t l),M):=cO (c32 t l ht hq hl) M
end
section
def Em{args:List ag}{M:aH}{x:ag×aH}(h:A4 args M=some x):ar gj 201 args M=some x:=eX (T:=gj) (g:=A4) rfl h
def al2(xs:List ag)(z:Tree)(W:dv):iU [W,bO (aI z),.arr 3 0 xs] (hZ [2,1]) [2,1]=some [.arr 3 0 xs,bO (aI z)]:=rfl
def afy(z:Tree)(W:dv):iU [W,bO (aI z)] (hZ [1]) [1]=some [bO (aI z)]:=rfl
attribute [local irreducible] eW fQ lh gK dW kr ar aM cq bI
def akW(z:Tree)(W:dv):aM (ar gj) 201 [gH [],.func 203 [bX 1]] [W,bO (aI z)]=some (gH [],[W,bO (aI z)]) :=
 jc (ids:=[1]) rfl rfl (afy z W) rfl rfl (Em (Ny z)) rfl rfl rfl rfl rfl
def aqH(xs:List cv)(z:Tree)(hz:Rt z)(hn:xs.length<=100000)(h0:xs≠[])(W:dv):∃b,Still b/\aM (ar gj) 201 [.cN 2 0 3 0 xs.length,.func 203 [bX 1]] [W,bO (aI z),.arr 3 0 (xs.map dM)] =
  some (cJ (jC z xs),[W,bO (aI z),b]):=by
 obtain⟨b,hb,h⟩:=T6 xs z hz hn h0;refine⟨b,hb,jc (ids:=[2,1]) rfl rfl (al2 _ z W) rfl rfl (Em h) rfl rfl ?_ rfl ?_⟩
 ·simp only[kX,hb.2.1]; rfl
 ·simp only[kR,hb.2.2]; rfl
def nC(l:List dZ):List Int->Tree->Tree
 | [],t=>t
 |i::r,t=>nC l r (if !nj l i then (jU t i).1 else t)
def uH(l:List dZ):∀(r:List Int)(t:Tree),Rt t->Rt (nC l r t)
 | [],t,h=>h
 |i::r,t,h=>by
  rw[nC];refine uH l r _ ?_;split
  ·exact h.free i
  ·exact h
def Ta{f:aa}{o:jz}{q:List cv}(hh:f.holds.length<=100000){xs:List Int}(hn:xs.length<=100000){fin:Tree}{k:List K}{r:Option (ag×aH)}
  (hx:∀e,kr (ar gj) [] 1 k ⟨.exit 0,(0,bX 0)::(2,cJ q)::(4,bX 1)::e,[cf f o,bO (aI fin)]⟩=r) :
  ∀(l pre:List Int)(t:Tree),xs=pre++l->Rt t->nC f.holds l t=fin->eW (ar gj) [] 1 k (.loop [0,2,4,13,14,15] W0) [(0,bX 0),(2,cJ q),(4,bX 1),(13,we xs),(14,aE xs.length),(15,aE pre.length)] [cf f o,bO (aI t)]=r:=by
 simp only[cf,b9,aI] at hx ⊢;intro l;induction l with
 |nil =>
  intro pre t h ht hfin;rw[bt];rw[nC] at hfin;subst hfin;simp only[se,gM h,EW,seval];exact hx _
 |cons i rest ih =>
  intro pre t h ht hfin;rw[bt];have dR:pre.length+1<=100000:=by rw[h] at hn; simp at hn; omega
  have hw:=vu pre i;rw[nC] at hfin;have hi1:=ih (pre++[i]) t (by rw[h]; simp) ht
  have hi2:=ih (pre++[i]) (jU t i).1 (by rw[h]; simp) (ht.free i)
  have q1:∀M,nth M 2=some (bO [aE i])->aM (ar gj) 164 [eo f.holds,.func 199 [bX 2]] M=some (.bool (nj f.holds i),M):=fun M hM=>lS (yH hM (aiV f.holds i hh) rfl rfl rfl)
  have q2:=fun M=>lS (akV t i ht.small ht.ja M)
  simp only[aI,aD,au,av,aK] at hi1 hi2 q2;simp only[se,fV h,fc h,q1,EW,seval];cases he:nj f.holds i<;>rw[he] at hfin
  ·simp only[ft,aG] at hfin;have:=hi2 hfin;simp only[se,he,q2,hw,EW,seval];exact this
  ·simp only[di,af,az] at hfin;have:=hi1 hfin;simp only[se,he,hw,EW,seval];exact this
def kP(t:Tree)(q:cv):Bool := !(decide ((jm t.ae q.aq).1<=q.ae)&&decide ((jm t.ae q.aq).2<=q.bytes))
def Na{f:aa}{o:jz}{t:Tree}(ht:Rt t){xs:List cv}(hn:xs.length<=100000){k:List K}{r:Option (ag×aH)}
  (hx:∀e,xs.any (kP t)=false->kr (ar gj) [] 1 k ⟨.exit 2,(0,bX 0)::(2,cJ xs)::(4,bX 1)::e,[cf f o,bO (aI t)]⟩=r)
  (hp:∀c,xs.any (kP t)=true->kr (ar gj) [] 1 k ⟨.mw (.iface 42 (.int .i64 90)),[],[cf f o,bO (aI t),c]⟩=r) :
  ∀(l pre:List cv),xs=pre++l->pre.any (kP t)=false->eW (ar gj) [] 1 k (.loop [0,2,4,42,43,44] Lc) [(0,bX 0),(2,cJ xs),(4,bX 1),(42,cJ xs),(43,aE xs.length),(44,aE pre.length)] [cf f o,bO (aI t)]=r:=by
 simp only[cf,b9,aI] at hx hp ⊢;intro l;induction l with
 |nil =>
  intro pre h hpre;rw[bt];have hany:xs.any (kP t)=false:=by rw[h,cW]; exact hpre
  simp only[se,gM h,EW,seval];exact hx _ hany
 |cons q rest ih =>
  intro pre h hpre;rw[bt];have dR:pre.length+1<=100000:=by rw[h] at hn; simp at hn; omega
  have hw:=vu pre q;have q1:=fun M=>lS (k93 ht q.aq M)
  have q2:=fun bb=>N9 bb 90 rfl
  have hov:∀z,kP t q=z->(decide ((jm t.ae q.aq).1<=q.ae)&&decide ((jm t.ae q.aq).2<=q.bytes)) = !z:=fun z hz=>by rw[<-hz]; unfold kP; simp
  simp only[se,fV h,fc h,gU,q1,EW,seval];cases ho:kP t q
  ·have hi:=ih (pre++[q]) (by rw[h]; simp) (by simp[hpre,ho])
   have hv:=hov _ ho;simp only[aD,au,av,aK] at hi;simp only[ft,bm] at hv;simp only[se,hv.1,hv.2,q2,hw,aG,EW,seval];exact hi
  ·have hany:xs.any (kP t)=true:=by rw[h]; simp[ho]
   have hv:=hov _ ho;cases h1:decide ((jm t.ae q.aq).1<=q.ae)<;>cases h2:decide ((jm t.ae q.aq).2<=q.bytes)<;>simp only[h1,h2,j7,di] at hv
   ·simp only[se,h1,h2,q2,fM,af,az,EW,seval];exact hp _ hany
   ·simp only[se,h1,h2,q2,fM,af,az,EW,seval];exact hp _ hany
   ·simp only[se,h1,h2,q2,fM,af,az,EW,seval];exact hp _ hany
   ·cases hv
def M9{f:aa}{o:jz}{t:Tree}(ht:Rt t){xs:List cv}(hn:xs.length<=100000){b:dv}(hbb:Still b){k:List K}{r:Option (ag×aH)}
  (hx:∀e,xs.any (kP t)=false->kr (ar gj) [] 1 k ⟨.exit 2,(0,bX 0)::(2,cJ xs)::(4,bX 1)::e,[cf f o,bO (aI t),b]⟩=r)
  (hp:∀c,xs.any (kP t)=true->kr (ar gj) [] 1 k ⟨.mw (.iface 42 (.int .i64 90)),[],[cf f o,bO (aI t),b,c]⟩=r) :
  ∀(l pre:List cv),xs=pre++l->pre.any (kP t)=false->eW (ar gj) [] 1 k (.loop [0,2,4,42,43,44] Lc) [(0,bX 0),(2,cJ xs),(4,bX 1),(42,cJ xs),(43,aE xs.length),(44,aE pre.length)] [cf f o,bO (aI t),b]=r:=by
 simp only[cf,b9,aI] at hx hp ⊢;intro l;induction l with
 |nil =>
  intro pre h hpre;rw[bt];have hany:xs.any (kP t)=false:=by rw[h,cW]; exact hpre
  simp only[se,gM h,EW,seval];exact hx _ hany
 |cons q rest ih =>
  intro pre h hpre;rw[bt];have dR:pre.length+1<=100000:=by rw[h] at hn; simp at hn; omega
  have hw:=vu pre q;have q1:=fun M=>lS (k93 ht q.aq M)
  have q2:=fun bb=>N9 bb 90 rfl
  have hov:∀z,kP t q=z->(decide ((jm t.ae q.aq).1<=q.ae)&&decide ((jm t.ae q.aq).2<=q.bytes)) = !z:=fun z hz=>by rw[<-hz]; unfold kP; simp
  simp only[se,fV h,fc h,gU,q1,EW,seval];cases ho:kP t q
  ·have hi:=ih (pre++[q]) (by rw[h]; simp) (by simp[hpre,ho])
   have hv:=hov _ ho;simp only[aD,au,av,aK] at hi;simp only[ft,bm] at hv;simp only[se,hv.1,hv.2,q2,hw,aG,hbb.1,EW,seval];exact hi
  ·have hany:xs.any (kP t)=true:=by rw[h]; simp[ho]
   have hv:=hov _ ho;cases h1:decide ((jm t.ae q.aq).1<=q.ae)<;>cases h2:decide ((jm t.ae q.aq).2<=q.bytes)<;>simp only[h1,h2,j7,di] at hv
   ·simp only[se,h1,h2,q2,fM,af,az,EW,seval];exact hp _ hany
   ·simp only[se,h1,h2,q2,fM,af,az,EW,seval];exact hp _ hany
   ·simp only[se,h1,h2,q2,fM,af,az,EW,seval];exact hp _ hany
   ·cases hv
def iw(f:aa)(t:Tree)(q:List cv):aa×Int :=
 if !oX (nC f.holds (iT t) t) (jC (nC f.holds (iT t) t) q) then (f,91)
 else if (jC (nC f.holds (iT t) t) q).any (kP (nC f.holds (iT t) t)) then (f,90)
 else (⟨mu f.s (nC f.holds (iT t) t),f.holds,jC (nC f.holds (iT t) t) q⟩,0)
structure sR(f:aa):Prop where
 rt:Rt f.s.now
 len:f.s.since.length=f.s.now.ae.length
 dw:f.s.dw.length<=90000
 Br:∀p,p∈f.s.dw->p.node.aL.length<=64/\p.node.data.length<=4096
 cp:f.s.cp.length<=16
 holds:sd f.holds
 dR:f.holds.length<=64
 cL:ov f.cL
 qv:f.cL.length<=16
def akG(s:ga)(t:Tree)(hs:qx s.now)(hz:Sz 200 s.now)(ht:qx t)(hzt:Sz 200 t)(hk:s.cp.length<=100000)(hl:s.since.length=s.now.ae.length)(hp:s.dw.length<=100000)(M:aH) :
  aM (ar bK) 137 [.agg (bl s),.agg [aN t.ae,aE t.next,aE t.aj]] M=some (.agg (bl (mu s t)),M):=cO (aoe s t hs hz ht hzt hk hl hp) M
def D9{t:Tree}{q:List cv}(h:ov q):ov (jC t q):=jv _ h
def Af(t:Tree)(q:List cv):(jC t q).length<=q.length:=bZ _ _
def an4(f:aa)(o:jz)(t:Tree)(q:List cv)(hf:sR f)(ht:Rt t)(hq:ov q)(hql:q.length<=16):ar gj 127 [bX 0,bo t,cJ q] [cf f o] =
  some (if (iw f t q).2 != 0 then fM (iw f t q).2 else .tuple [],[cf (iw f t q).1 o]):=by
 refine aw ?_;have q0:=fun M=>lS (k90 t (by have:=ht.sz.ae; omega) M)
 have hor:(iT t).length<=100000:=by have:=ht.sz.ae; have h2:=bZ fO t.ae; unfold iT; simp; omega
 have hl:=Ta (f:=f) (o:=o) (q:=q) (by have:=hf.dR; omega) (xs:=iT t) hor (fin:=nC f.holds (iT t) t) (k:=[.block 0,.seq YU])
  (r:=some (if (iw f t q).2 != 0 then fM (iw f t q).2 else .tuple [],[cf (iw f t q).1 o])) ?_ (iT t) [] t rfl ht rfl
 ·simp only[cf,b9,aI,av] at hl;simp only[Pw,se,cf,b9,bo,aI,q0,EW,seval];exact hl
 ·intro e;have ht1:=uH f.holds (iT t) t ht;unfold iw;generalize nC f.holds (iT t) t=t1 at ht1 ⊢;have q1:=fun M=>lS (k32 t1 (jC t1 q) ht1 (D9 hq) (by have:=Af t1 q; omega) M)
  have q2:=fun bb=>N9 bb 91 rfl
  have q3:=fun M=>lS (akG f.s t1 hf.rt.ja hf.rt.sz ht1.ja ht1.sz (by have:=hf.cp; omega) hf.len (by have:=hf.dw; omega) M)
  generalize mu f.s t1=ps at q3 ⊢;simp only[bl] at q3
  by_cases h0:q=[]
  ·have p1:=fun M=>lS' (Ck dM (f:=202) (sz:=3) (bytes:=24) rfl h0 M)
   have hk0:jC t1 q=[]:=by subst h0; rfl
   rw[hk0] at q1 ⊢;have q1:∀M,aM (ar gj) 32 [.agg [aN t1.ae,aE t1.next,aE t1.aj],gH []] M=some (.bool (oX t1 []),M):=q1
   have p2:=akW t1 (cf f o);cases hd:oX t1 []
   ·rw[hd] at q1;simp only[cf,b9,aI,fM] at p2 ⊢;simp only[se,p1,p2,q1,q2,fM,hd,af,aG,az,EW,seval]
   ·rw[hd] at q1
    have hlp:=Na (f:=f) (o:=o) (t:=t1) ht1 (xs:=[]) (by simp) (k:=[.block 2,.seq Lz]) (r:=some (.tuple [],[cf ⟨ps,f.holds,[]⟩ o]))
     (fun e _=>by simp only[cf,b9,aI,se,q3,bl,EW,seval]; rfl) (fun c h=>by cases h) [] [] rfl rfl
    simp only[cf,b9,aI,fM,av] at p2 hlp ⊢;simp only[se,p1,p2,q1,q2,hd,fM,af,aG,az,List.any_nil,an,EW,seval];exact hlp
  ·obtain⟨b,hb,p2⟩:=aqH q t1 ht1 (by omega) h0 (cf f o)
   have p1:=fun M=>lS' (Bw dM (f:=202) (sz:=3) (bytes:=24) rfl (fun _=>rfl) (by omega) h0 (by omega) M)
   have hkl:(jC t1 q).length<=100000:=by have:=Af t1 q; omega
   generalize jC t1 q=kq at q1 p2 hkl ⊢;cases hd:oX t1 kq
   ·rw[hd] at q1;simp only[cf,b9,aI,fM] at p2 ⊢;simp only[se,p1,p2,q1,q2,fM,hd,hb.1,af,aG,az,EW,seval]
   ·rw[hd] at q1
    have hlp:=M9 (f:=f) (o:=o) (t:=t1) ht1 (xs:=kq) hkl hb (k:=[.block 2,.seq Lz]) (r:=some (if kq.any (kP t1) then fM 90 else .tuple [],[cf (if kq.any (kP t1) then f else ⟨ps,f.holds,kq⟩) o]))
     (fun e h=>by simp only[h,af,az,cf,b9,aI,se,q3,bl,EW,seval]) (fun c h=>by simp only[h,aG,cf,b9,aI,se,fM,EW,seval]) kq [] rfl rfl
    simp only[cf,b9,aI,fM,av] at p2 hlp ⊢;simp only[se,p1,p2,q1,q2,hd,fM,af,aG,az,EW,seval];refine hlp.trans ?_;cases kq.any (kP t1)<;>rfl
end
section
attribute [local irreducible] eW fQ lh gK dW kr ar aM cq bI
structure yy(o:jz):Prop where
 c8:o.c8.length<=90000
 r9:o.r9.length<=90000
 data:o.data.length<=90000
def cF.Vi{t:Tree}{cz:Int->Nat}(h:cF t cz 0)(to:Int)(nm:Bytes):∀e,fb (gA t.ae to).1.aL nm=some e->(aY t.ae e.aq).aq≠to:=by
 intro e he;unfold gA at he;split at he
 ·cases he
 ·rename_i n hn;split at he
  ·have hem:=(gY he).1;obtain⟨_,_,_,_,m,hm,_⟩:=h.x9 _ _ e hn hem;simp only[aY,hm,bn,(bR hm).2];exact h.wg hn hem
  ·cases he
def MW(f:aa)(o:jz)(t:Tree)(q:List cv)(hf:sR f)(ht:Rt t)(hq:ov q)(hql:q.length<=16){p:Nat}{M:aH}(hM:nth M p=some (cf f o)):aM (ar gj) 127 [bX p,.agg [aN t.ae,aE t.next,aE t.aj],cJ q] M =
  some (if (iw f t q).2 != 0 then fM (iw f t q).2 else .tuple [],jk M p (cf (iw f t q).1 o)) :=
 Hi hM (an4 f o t q hf ht hq hql) rfl rfl (by split<;>rfl) (fun _=>rfl) (fun _=>by split<;>rfl)
def aqn(t:Tree)(ht:Rt t)(dir:Int)(s:Bytes)(kind:Int)(hs:s.length<=100000)(M:aH):aM (ar gj) 126 [.agg [aN t.ae,aE t.next,aE t.aj],aE dir,.str s,aE kind] M =
  some (.tuple [.agg [aN (qR t dir s kind).1.ae,aE (qR t dir s kind).1.next,aE (qR t dir s kind).1.aj],aE (qR t dir s kind).2.1,aE (qR t dir s kind).2.2],M):=by
 obtain⟨cz,h⟩:=ht;have:=an3 t dir s kind (h.sz.up (by omega)) h.ja hs trivial h.je
 rw[VF h] at this;exact lS (cO this M)
def aqo(t:Tree)(ht:Rt t)(aq dir:Int)(s:Bytes)(hs:s.length<=100000)(M:aH):aM (ar gj) 128 [.agg [aN t.ae,aE t.next,aE t.aj],aE aq,aE dir,.str s] M =
  some (.tuple [.agg [aN (Bp t aq dir s).1.ae,aE (Bp t aq dir s).1.next,aE (Bp t aq dir s).1.aj],aE (Bp t aq dir s).2],M):=by
 obtain⟨cz,h⟩:=ht;have:=an5 t aq dir s (h.sz.up (by omega)) h.ja hs trivial
 rw[ae4 h] at this;exact lS (cO this M)
def aqp(t:Tree)(ht:Rt t)(dir:Int)(s:Bytes)(hs:s.length<=100000)(M:aH):aM (ar gj) 129 [.agg [aN t.ae,aE t.next,aE t.aj],aE dir,.str s] M =
  some (.tuple [.agg [aN (AA t dir s).1.ae,aE (AA t dir s).1.next,aE (AA t dir s).1.aj],aE (AA t dir s).2.1,aE (AA t dir s).2.2],M):=by
 obtain⟨cz,h⟩:=ht;have:=an6 t dir s (h.sz.up (by omega)) h.ja hs trivial
 rw[age h] at this;exact lS (cO this M)
def aqq(t:Tree)(ht:Rt t)(dir:Int)(s:Bytes)(to:Int)(nm:Bytes)(hs:s.length<=100000)(hn:nm.length<=100000)(M:aH):aM (ar gj) 131 [.agg [aN t.ae,aE t.next,aE t.aj],aE dir,.str s,aE to,.str nm] M =
  some (.tuple [.agg [aN (vO t dir s to nm).1.ae,aE (vO t dir s to nm).1.next,aE (vO t dir s to nm).1.aj],aE (vO t dir s to nm).2.1,aE (vO t dir s to nm).2.2],M):=by
 obtain⟨cz,h⟩:=ht;have:=an8 t dir s to nm (h.sz.up (by omega)) h.ja hs trivial hn trivial (fun e he=>h.Vi to nm e he)
 rw[afc h] at this;exact lS (cO this M)
def aq7(t:Tree)(ht:Rt t)(aq:Int)(s:Bytes)(hs:s.length<=100000)(M:aH):aM (ar gj) 130 [.agg [aN t.ae,aE t.next,aE t.aj],aE aq,.str s] M =
  some (.tuple [aE (eE t.ae aq s).1,aE (eE t.ae aq s).2],M):=lS (WH t.ae t.next t.aj aq s ht.small ht.ja hs trivial M)
def ale(t:Tree)(ht:Rt t)(aq:Int)(d:Bytes)(hd:d.length<=100000)(M:aH):aM (ar gj) 227 [.agg [aN t.ae,aE t.next,aE t.aj],aE aq,cX d] M =
  some (.tuple [.agg [aN (qt t aq d).1.ae,aE (qt t aq d).1.next,aE (qt t aq d).1.aj],aE (qt t aq d).2],M):=lS (cO (apk t aq d ht.small ht.ja hd) M)
def Rt.add{t:Tree}(h:Rt t)(dir:Int)(s:Bytes)(kind:Int):Rt (qR t dir s kind).1:=let ⟨_,g⟩:=h; OC g dir s kind (fun h=>h)
def Rt.ln{t:Tree}(h:Rt t)(aq dir:Int)(s:Bytes):Rt (Bp t aq dir s).1:=let ⟨_,g⟩:=h; ⟨_,XK g aq dir s (fun h=>h)⟩
def Rt.un{t:Tree}(h:Rt t)(dir:Int)(s:Bytes):Rt (AA t dir s).1:=let ⟨_,g⟩:=h; ⟨_,Zb g dir s⟩
def Rt.mv{t:Tree}(h:Rt t)(dir:Int)(s:Bytes)(to:Int)(nm:Bytes):Rt (vO t dir s to nm).1:=let ⟨_,g⟩:=h; Yz g dir s to nm (fun h=>h)
def Rt.put{t:Tree}(h:Rt t)(aq:Int)(d:Bytes):Rt (qt t aq d).1:=let ⟨_,g⟩:=h; ⟨_,Uf g aq d⟩
def uV(t:Tree)(s:Bytes)(hs:s.length<=100000):(ig t s).2.1.length<=1000:=by
 have:=Eb s hs;unfold ig;split
 ·simp
 ·split
  ·simp
  ·simp only; omega
abbrev Wk:=aa×LU×Int
def wv(f:aa)(o:jz):Wk :=
 if (jn f.s.now o.c8).2 != 0 then (f,fJ,(jn f.s.now o.c8).2)
 else (f,⟨0,(aY f.s.now.ae (jn f.s.now o.c8).1).aq,(aY f.s.now.ae (jn f.s.now o.c8).1).kind,0,0,[],[]⟩,0)
def c61(f:aa)(o:jz)(hf:sR f)(ho:yy o):oj 61 f o (wv f o):=by
 unfold oj;refine⟨.slice .c0 [],.slice .c0 [],.inr ⟨rfl,?_⟩,.inr ⟨rfl,?_⟩,aw ?_⟩
 ·unfold wv; split<;>rfl
 ·unfold wv; split<;>rfl
 have q1:=fun {M}=>JC f o o.c8 hf.rt.small hf.rt.ja (by have:=ho.c8; omega) (p:=0) (M:=M)
 unfold wv;generalize jn f.s.now o.c8=v at q1 ⊢;simp only[cf,b9,aF] at q1;cases he:v.2 != 0
 ·simp only[he,af,az] at q1 ⊢;simp only[ac8,E61,cf,b9,du,q1,an,af,az,EW,seval]
 ·simp only[he,aG,fM] at q1 ⊢;simp only[ac8,E61,cf,b9,du,fJ,q1,he,aG,fM,EW,seval]
def wy(f:aa)(o:jz):Wk :=
 let v:=ig f.s.now o.c8
 let w:=qR f.s.now v.1 v.2.1 o.n
 let r:=iw f w.1 f.cL
 if v.2.2 != 0 then (f,fJ,v.2.2)
 else if w.2.2 != 0 then (f,fJ,w.2.2)
 else if r.2 != 0 then (r.1,fJ,r.2)
 else (r.1,⟨0,w.2.1,o.n,0,0,[],[]⟩,0)
def c62(f:aa)(o:jz)(hf:sR f)(ho:yy o):oj 62 f o (wy f o):=by
 unfold oj;refine⟨.slice .c0 [],.slice .c0 [],.inr ⟨rfl,?_⟩,.inr ⟨rfl,?_⟩,aw ?_⟩
 ·unfold wy; simp only[]; split<;>(try split)<;>(try split)<;>rfl
 ·unfold wy; simp only[]; split<;>(try split)<;>(try split)<;>rfl
 have hp:o.c8.length<=100000:=by have:=ho.c8; omega
 have q1:=fun {M}=>Qi f o o.c8 hf.rt.small hf.rt.ja hp (p:=0) (M:=M)
 have hl:=uV f.s.now o.c8 hp;unfold wy;simp only[];generalize ig f.s.now o.c8=v at q1 hl ⊢;have q2:=aqn f.s.now hf.rt v.1 v.2.1 o.n (by omega)
 have hr:=hf.rt.add v.1 v.2.1 o.n;generalize qR f.s.now v.1 v.2.1 o.n=w at q2 hr ⊢;have q3:=tH w.2.2;have q4:=fun {M}=>MW f o w.1 f.cL hf hr hf.cL hf.qv (p:=0) (M:=M)
 generalize iw f w.1 f.cL=r at q4 ⊢;simp only[cf,b9] at q1 q4;cases he:v.2.2 != 0
 ·simp only[he,af,az] at q1 ⊢;cases hw:w.2.2 != 0
  ·simp only[hw,af,az] at q3 ⊢;cases hs:r.2 != 0
   ·simp only[hs,af,az] at q4 ⊢;simp only[PW,E62,cf,b9,du,q1,q2,q3,q4,an,af,az,EW,seval]
   ·simp only[hs,aG,fM] at q4 ⊢;simp only[PW,E62,cf,b9,du,fJ,q1,q2,q3,q4,hs,aG,EW,seval]
  ·simp only[hw,aG,fM] at q3 ⊢;simp only[PW,E62,cf,b9,du,fJ,q1,q2,q3,hw,aG,EW,seval]
 ·simp only[he,aG,fM] at q1 ⊢;simp only[PW,E62,cf,b9,du,fJ,q1,he,aG,EW,seval]
def aq8(t:Tree)(ht:Rt t)(l:List dZ)(c h aq:Int)(hl:sd l)(hn:l.length<=64)(M:aH):aM (ar gj) 135 [.agg [aN t.ae,aE t.next,aE t.aj],eo l,aE c,aE h,aE aq] M=some (.tuple [eo (tn t l c h aq).1,aE (tn t l c h aq).2],M):=lS (aqs t l c h aq ht.small ht.ja hl hn M)
def aq9(t:Tree)(ht:Rt t)(l:List dZ)(c h:Int)(hn:l.length<=64)(M:aH):aM (ar gj) 136 [.agg [aN t.ae,aE t.next,aE t.aj],eo l,aE c,aE h] M=some (.tuple [.agg (aI (kU t l c h).1),eo (kU t l c h).2.1,aE (kU t l c h).2.2],M):=lS (akF t l c h ht.small ht.ja hn M)
def aqu(t:Tree)(l:List cv)(aq ae bytes:Int)(ht:Rt t)(hq:ov l)(hn:l.length<=16)(M:aH):aM (ar gj) 141 [.agg [aN t.ae,aE t.next,aE t.aj],cJ l,aE aq,aE ae,aE bytes] M=some (.tuple [cJ (pT t l aq ae bytes).1,aE (pT t l aq ae bytes).2],M) :=
 lS (cO (aog t l aq ae bytes ht hq hn) M)
def alf(f:aa)(hf:sR f)(t:Tree)(ht:Rt t)(M:aH):aM (ar gj) 137 [.agg (bl f.s),.agg [aN t.ae,aE t.next,aE t.aj]] M=some (.agg (bl (mu f.s t)),M) :=
 lS (akG f.s t hf.rt.ja hf.rt.sz ht.ja ht.sz (by have:=hf.cp; omega) hf.len (by have:=hf.dw; omega) M)
def Rt.gone{t:Tree}(h:Rt t)(c:Int):∀(l k:List dZ),Rt (pA c l t k).1:=by
 intro l;induction l generalizing t with
 |nil=>intro k; exact h
 |cons x r ih =>
  intro k;rw[pA];split
  ·exact ih (h.close _ _ _) _
  ·exact ih h _
def K3{α:Type}{lt:α->Bool}{R:α->α->Prop}{l:List α}{b:Nat}(h:l.Pairwise R)(hl:Ow lt l b){x:α}(h1:∀y,y∈l->lt y=true->R y x)(h2:∀y,y∈l->lt y=false->R x y)(ht:∀a b c,R a b->R b c->R a c):(l.take b++x::l.drop b).Pairwise R:=by
 have hT:∀y,y∈l.take b->R y x:=by
  intro y hy;obtain⟨i,hi⟩:=bJ hy;rw[gD] at hi;split at hi
  ·rename_i hib;exact h1 y (aO hi) ((hl.lt i y hi).2 hib)
  ·cases hi
 have hD:∀y,y∈l.drop b->R x y:=by
  intro y hy;obtain⟨i,hi⟩:=bJ hy;rw[cH] at hi;refine h2 y (aO hi) ?_;cases he:lt y
  ·rfl
  ·have:=(hl.lt _ y hi).1 he; omega
 rw[dn];refine⟨h.sublist (List.take_sublist _ _),cd.2 ⟨hD,h.sublist (List.drop_sublist _ _)⟩,?_⟩;intro a ha c hc;rcases bC.1 hc with rfl|hc
 ·exact hT a ha
 ·exact ht _ _ _ (hT a ha) (hD c hc)
def Et{t:Tree}{l:List cv}(hq:ov l)(hn:l.length<=16)(aq ae bytes:Int):ov (pT t l aq ae bytes).1/\(pT t l aq ae bytes).1.length<=16:=by
 have hlow:=xe hq aq;have hat:=OL (key:=cv.aq) hq aq;have e1:Qe cv.aq l aq=D7 l aq:=rfl;have e2:rI cv.aq l aq=vL l aq:=rfl;rw[e1,e2] at hat;unfold pT;split
 ·exact⟨hq,hn⟩
 split
 ·exact⟨hq,hn⟩
 split
 ·split
  ·exact⟨hq.sublist (List.eraseIdx_sublist _ _),aV (List.eraseIdx_sublist _ _).length_le hn⟩
  ·exact⟨hq,hn⟩
 split
 ·exact⟨hq,hn⟩
 split
 ·rename_i hi;rcases hat with ⟨_,n,h2,h3,_⟩|⟨h1,_⟩
  ·refine⟨?_,by simpa using hn⟩
   have hm:((l.set (vL l aq) ⟨aq,ae,bytes⟩).map cv.aq)=l.map cv.aq:=by
    rw[kI];have cn:=(ak.1 h2).1;refine dL fun i=>?_
    rw[List.getElem?_set];split
    ·rename_i hh;subst hh;simp only[fT,cn,aG,bd,h2,eM,h3]
    ·rfl
   have:((l.set (vL l aq) ⟨aq,ae,bytes⟩).map cv.aq).Pairwise (· < ·):=by rw[hm]; exact iy.2 hq
   exact iy.1 this
  ·rw[hi] at h1; cases h1
 split
 ·exact⟨hq,hn⟩
 ·rename_i hi dR
  have hne:∀y,y∈l->y.aq≠aq:=by
   rcases hat with ⟨h1,_⟩|⟨_,h2⟩
   ·exact absurd h1 hi
   ·intro y hy; have:=dQ.1 h2 y hy; simpa using this
  simp only[o4,ba] at dR;refine⟨K3 hq hlow (fun y hy h=>?_) (fun y hy h=>?_) (fun a b c h1 h2=>Int.lt_trans h1 h2),by simp; have:=hlow.le; omega⟩
  ·simp only[ba,w5] at h; exact h
  ·simp only[dq,w5] at h; have:=hne y hy; simp only; omega
def wq(f:aa)(o:jz):Wk :=
 let v:=jn f.s.now o.c8
 let n:=aY f.s.now.ae v.1
 let s:=ig f.s.now o.r9
 let w:=Bp f.s.now n.aq s.1 s.2.1
 let r:=iw f w.1 f.cL
 if v.2 != 0 then (f,fJ,v.2) else
 if s.2.2 != 0 then (f,fJ,s.2.2) else
 if w.2 != 0 then (f,fJ,w.2) else
 if r.2 != 0 then (r.1,fJ,r.2) else
 (r.1,⟨0,n.aq,0,0,0,[],[]⟩,0)
def c63(f:aa)(o:jz)(hf:sR f)(ho:yy o):oj 63 f o (wq f o):=by
 unfold oj;have hp:o.c8.length<=100000:=by have:=ho.c8; omega
 have hto:o.r9.length<=100000:=by have:=ho.r9; omega
 refine⟨.slice .c0 [],.slice .c0 [],.inr ⟨rfl,?_⟩,.inr ⟨rfl,?_⟩,aw ?_⟩
 ·unfold wq; simp only[]; split<;>(try split)<;>(try split)<;>(try split)<;>rfl
 ·unfold wq; simp only[]; split<;>(try split)<;>(try split)<;>(try split)<;>rfl
 unfold wq;simp only[];have q1:=fun {M}=>JC f o o.c8 hf.rt.small hf.rt.ja hp (p:=0) (M:=M)
 generalize jn f.s.now o.c8=v at q1 ⊢;have q1:=@q1;generalize aY f.s.now.ae v.1=n at q1 ⊢;have hl:=uV f.s.now o.r9 hto;have q2:=fun {M}=>Qi f o o.r9 hf.rt.small hf.rt.ja hto (p:=0) (M:=M)
 have hl:=hl;generalize ig f.s.now o.r9=s at q2 hl ⊢;have q3:=aqo f.s.now hf.rt n.aq s.1 s.2.1 (by omega)
 have hr:=hf.rt.ln n.aq s.1 s.2.1;generalize Bp f.s.now n.aq s.1 s.2.1=w at q3 hr ⊢;have q5:=fun {M}=>MW f o w.1 f.cL hf hr hf.cL hf.qv (p:=0) (M:=M)
 generalize iw f w.1 f.cL=r at q5 ⊢;simp only[cf,b9,aF,bl,aI] at q1 q2 q3 q5;cases h0:v.2 != 0
 ·cases h1:s.2.2 != 0
  ·cases h2:w.2 != 0
   ·cases h3:r.2 != 0
    ·simp only[MI,E63,cf,b9,du,fJ,q1,q2,q3,q5,h0,h1,h2,h3,tH,an,af,aG,az,EW,seval]
    ·simp only[MI,E63,cf,b9,du,fJ,q1,q2,q3,q5,h0,h1,h2,h3,fM,tH,an,af,aG,az,EW,seval]
   ·simp only[MI,E63,cf,b9,du,fJ,q1,q2,q3,q5,h0,h1,h2,fM,tH,an,af,aG,az,EW,seval]
  ·simp only[MI,E63,cf,b9,du,fJ,q1,q2,q3,q5,h0,h1,fM,tH,an,af,aG,az,EW,seval]
 ·simp only[MI,E63,cf,b9,du,fJ,q1,q2,q3,q5,h0,fM,tH,an,af,aG,az,EW,seval]
def p7(f:aa)(o:jz):Wk :=
 let s:=ig f.s.now o.c8
 let w:=AA f.s.now s.1 s.2.1
 let r:=iw f w.1 f.cL
 if s.2.2 != 0 then (f,fJ,s.2.2) else
 if w.2.2 != 0 then (f,fJ,w.2.2) else
 if r.2 != 0 then (r.1,fJ,r.2) else
 (r.1,⟨0,w.2.1,0,0,0,[],[]⟩,0)
def c64(f:aa)(o:jz)(hf:sR f)(ho:yy o):oj 64 f o (p7 f o):=by
 unfold oj;have hp:o.c8.length<=100000:=by have:=ho.c8; omega
 have hto:o.r9.length<=100000:=by have:=ho.r9; omega
 refine⟨.slice .c0 [],.slice .c0 [],.inr ⟨rfl,?_⟩,.inr ⟨rfl,?_⟩,aw ?_⟩
 ·unfold p7; simp only[]; split<;>(try split)<;>(try split)<;>rfl
 ·unfold p7; simp only[]; split<;>(try split)<;>(try split)<;>rfl
 unfold p7;simp only[];have hl:=uV f.s.now o.c8 hp;have q2:=fun {M}=>Qi f o o.c8 hf.rt.small hf.rt.ja hp (p:=0) (M:=M)
 have hl:=hl;generalize ig f.s.now o.c8=s at q2 hl ⊢;have q3:=aqp f.s.now hf.rt s.1 s.2.1 (by omega)
 have hr:=hf.rt.un s.1 s.2.1;generalize AA f.s.now s.1 s.2.1=w at q3 hr ⊢;have q5:=fun {M}=>MW f o w.1 f.cL hf hr hf.cL hf.qv (p:=0) (M:=M)
 generalize iw f w.1 f.cL=r at q5 ⊢;simp only[cf,b9,aF,bl,aI] at q2 q3 q5;cases h0:s.2.2 != 0
 ·cases h1:w.2.2 != 0
  ·cases h2:r.2 != 0
   ·simp only[PX,E64,cf,b9,du,fJ,q2,q3,q5,h0,h1,h2,tH,an,af,aG,az,EW,seval]
   ·simp only[PX,E64,cf,b9,du,fJ,q2,q3,q5,h0,h1,h2,fM,tH,an,af,aG,az,EW,seval]
  ·simp only[PX,E64,cf,b9,du,fJ,q2,q3,q5,h0,h1,fM,tH,an,af,aG,az,EW,seval]
 ·simp only[PX,E64,cf,b9,du,fJ,q2,q3,q5,h0,fM,tH,an,af,aG,az,EW,seval]
def pV(f:aa)(o:jz):Wk :=
 let s:=ig f.s.now o.c8
 let u:=ig f.s.now o.r9
 let l:=eE f.s.now.ae s.1 s.2.1
 let w:=vO f.s.now s.1 s.2.1 u.1 u.2.1
 let r:=iw f w.1 f.cL
 if s.2.2 != 0 then (f,fJ,s.2.2) else
 if u.2.2 != 0 then (f,fJ,u.2.2) else
 if l.2 != 0 then (f,fJ,l.2) else
 if w.2.2 != 0 then (f,fJ,w.2.2) else
 if r.2 != 0 then (r.1,fJ,r.2) else
 (r.1,⟨0,l.1,0,0,0,[],[]⟩,0)
def c65(f:aa)(o:jz)(hf:sR f)(ho:yy o):oj 65 f o (pV f o):=by
 unfold oj;have hp:o.c8.length<=100000:=by have:=ho.c8; omega
 have hto:o.r9.length<=100000:=by have:=ho.r9; omega
 refine⟨.slice .c0 [],.slice .c0 [],.inr ⟨rfl,?_⟩,.inr ⟨rfl,?_⟩,aw ?_⟩
 ·unfold pV; simp only[]; split<;>(try split)<;>(try split)<;>(try split)<;>(try split)<;>rfl
 ·unfold pV; simp only[]; split<;>(try split)<;>(try split)<;>(try split)<;>(try split)<;>rfl
 unfold pV;simp only[];have hl:=uV f.s.now o.c8 hp;have q1:=fun {M}=>Qi f o o.c8 hf.rt.small hf.rt.ja hp (p:=0) (M:=M)
 have hl:=hl;generalize ig f.s.now o.c8=s at q1 hl ⊢;have hl2:=uV f.s.now o.r9 hto;have q2:=fun {M}=>Qi f o o.r9 hf.rt.small hf.rt.ja hto (p:=0) (M:=M)
 have hl2:=hl2;generalize ig f.s.now o.r9=u at q2 hl2 ⊢;have q3:=aq7 f.s.now hf.rt s.1 s.2.1 (by omega)
 generalize eE f.s.now.ae s.1 s.2.1=l at q3 ⊢;have q4:=aqq f.s.now hf.rt s.1 s.2.1 u.1 u.2.1 (by omega) (by omega)
 have hr:=hf.rt.mv s.1 s.2.1 u.1 u.2.1;generalize vO f.s.now s.1 s.2.1 u.1 u.2.1=w at q4 hr ⊢;have q5:=fun {M}=>MW f o w.1 f.cL hf hr hf.cL hf.qv (p:=0) (M:=M)
 generalize iw f w.1 f.cL=r at q5 ⊢;simp only[cf,b9,aF,bl,aI] at q1 q2 q3 q4 q5;cases h0:s.2.2 != 0
 ·cases h1:u.2.2 != 0
  ·cases h2:l.2 != 0
   ·cases h3:w.2.2 != 0
    ·cases h4:r.2 != 0
     ·simp only[Jv,E65,cf,b9,du,fJ,q1,q2,q3,q4,q5,h0,h1,h2,h3,h4,tH,an,af,aG,az,EW,seval]
     ·simp only[Jv,E65,cf,b9,du,fJ,q1,q2,q3,q4,q5,h0,h1,h2,h3,h4,fM,tH,an,af,aG,az,EW,seval]
    ·simp only[Jv,E65,cf,b9,du,fJ,q1,q2,q3,q4,q5,h0,h1,h2,h3,fM,tH,an,af,aG,az,EW,seval]
   ·simp only[Jv,E65,cf,b9,du,fJ,q1,q2,q3,q4,q5,h0,h1,h2,fM,tH,an,af,aG,az,EW,seval]
  ·simp only[Jv,E65,cf,b9,du,fJ,q1,q2,q3,q4,q5,h0,h1,fM,tH,an,af,aG,az,EW,seval]
 ·simp only[Jv,E65,cf,b9,du,fJ,q1,q2,q3,q4,q5,h0,fM,tH,an,af,aG,az,EW,seval]
def wM(f:aa)(o:jz):Wk :=
 let v:=jn f.s.now o.c8
 let n:=aY f.s.now.ae v.1
 if v.2 != 0 then (f,fJ,v.2) else
 (f,⟨0,n.aq,n.kind,n.dz,Bb n,[],[]⟩,0)
def c67(f:aa)(o:jz)(hf:sR f)(ho:yy o):oj 67 f o (wM f o):=by
 unfold oj;have hp:o.c8.length<=100000:=by have:=ho.c8; omega
 have hto:o.r9.length<=100000:=by have:=ho.r9; omega
 refine⟨.slice .c0 [],.slice .c0 [],.inr ⟨rfl,?_⟩,.inr ⟨rfl,?_⟩,aw ?_⟩
 ·unfold wM; simp only[]; split<;>rfl
 ·unfold wM; simp only[]; split<;>rfl
 unfold wM;simp only[];have q1:=fun {M}=>JC f o o.c8 hf.rt.small hf.rt.ja hp (p:=0) (M:=M)
 generalize jn f.s.now o.c8=v at q1 ⊢;have q1:=@q1;generalize aY f.s.now.ae v.1=n at q1 ⊢;have q2:=fun M=>adi n M
 simp only[cf,b9,aF,bl,aI] at q1 q2;cases h0:v.2 != 0
 ·simp only[ac9,E67,cf,b9,du,fJ,q1,q2,h0,an,af,aG,az,EW,seval]
 ·simp only[ac9,E67,cf,b9,du,fJ,q1,q2,h0,fM,an,af,aG,az,EW,seval]
def wE(f:aa)(o:jz):Wk :=
 let v:=jn f.s.now o.c8
 let n:=aY f.s.now.ae v.1
 let w:=tn f.s.now f.holds o.cD o.handle n.aq
 if v.2 != 0 then (f,fJ,v.2) else
 if w.2 != 0 then (f,fJ,w.2) else
 (⟨f.s,w.1,f.cL⟩,⟨0,n.aq,0,0,0,[],[]⟩,0)
def c68(f:aa)(o:jz)(hf:sR f)(ho:yy o):oj 68 f o (wE f o):=by
 unfold oj;have hp:o.c8.length<=100000:=by have:=ho.c8; omega
 have hto:o.r9.length<=100000:=by have:=ho.r9; omega
 refine⟨.slice .c0 [],.slice .c0 [],.inr ⟨rfl,?_⟩,.inr ⟨rfl,?_⟩,aw ?_⟩
 ·unfold wE; simp only[]; split<;>(try split)<;>rfl
 ·unfold wE; simp only[]; split<;>(try split)<;>rfl
 unfold wE;simp only[];have q1:=fun {M}=>JC f o o.c8 hf.rt.small hf.rt.ja hp (p:=0) (M:=M)
 generalize jn f.s.now o.c8=v at q1 ⊢;have q1:=@q1;generalize aY f.s.now.ae v.1=n at q1 ⊢;have q2:=aq8 f.s.now hf.rt f.holds o.cD o.handle n.aq hf.holds hf.dR;generalize tn f.s.now f.holds o.cD o.handle n.aq=w at q2 ⊢;simp only[cf,b9,aF,bl,aI] at q1 q2;cases h0:v.2 != 0
 ·cases h1:w.2 != 0
  ·simp only[Ws,E68,cf,b9,du,fJ,q1,q2,h0,h1,tH,an,af,aG,az,EW,seval]
  ·simp only[Ws,E68,cf,b9,du,fJ,q1,q2,h0,h1,fM,tH,an,af,aG,az,EW,seval]
 ·simp only[Ws,E68,cf,b9,du,fJ,q1,q2,h0,fM,tH,an,af,aG,az,EW,seval]
def sZ(f:aa)(o:jz):Wk :=
 let w:=kU f.s.now f.holds o.cD o.handle
 let p:=mu f.s w.1
 if w.2.2 != 0 then (f,fJ,w.2.2) else
 (⟨p,w.2.1,f.cL⟩,fJ,0)
def c69(f:aa)(o:jz)(hf:sR f)(ho:yy o):oj 69 f o (sZ f o):=by
 unfold oj;have hp:o.c8.length<=100000:=by have:=ho.c8; omega
 have hto:o.r9.length<=100000:=by have:=ho.r9; omega
 refine⟨.slice .c0 [],.slice .c0 [],.inr ⟨rfl,?_⟩,.inr ⟨rfl,?_⟩,aw ?_⟩
 ·unfold sZ; simp only[]; split<;>rfl
 ·unfold sZ; simp only[]; split<;>rfl
 unfold sZ;simp only[];have q2:=aq9 f.s.now hf.rt f.holds o.cD o.handle hf.dR;have hr:=hf.rt.close f.holds o.cD o.handle;generalize kU f.s.now f.holds o.cD o.handle=w at q2 hr ⊢;have q3:=alf f hf w.1 hr;generalize mu f.s w.1=p at q3 ⊢;simp only[cf,b9,aF,bl,aI] at q2 q3;cases h0:w.2.2 != 0
 ·simp only[ada,E69,cf,b9,du,fJ,q2,q3,h0,tH,an,af,aG,az,EW,seval]
 ·simp only[ada,E69,cf,b9,du,fJ,q2,q3,h0,fM,tH,an,af,aG,az,EW,seval]
def th(f:aa)(o:jz):Wk :=
 let v:=jn f.s.now o.c8
 let n:=aY f.s.now.ae v.1
 let w:=pT f.s.now f.cL n.aq o.n o.m
 let r:=iw f f.s.now w.1
 if v.2 != 0 then (f,fJ,v.2) else
 if w.2 != 0 then (f,fJ,w.2) else
 if r.2 != 0 then (r.1,fJ,r.2) else
 (r.1,⟨0,n.aq,0,0,0,[],[]⟩,0)
def c73(f:aa)(o:jz)(hf:sR f)(ho:yy o):oj 73 f o (th f o):=by
 unfold oj;have hp:o.c8.length<=100000:=by have:=ho.c8; omega
 have hto:o.r9.length<=100000:=by have:=ho.r9; omega
 refine⟨.slice .c0 [],.slice .c0 [],.inr ⟨rfl,?_⟩,.inr ⟨rfl,?_⟩,aw ?_⟩
 ·unfold th; simp only[]; split<;>(try split)<;>(try split)<;>rfl
 ·unfold th; simp only[]; split<;>(try split)<;>(try split)<;>rfl
 unfold th;simp only[];have q1:=fun {M}=>JC f o o.c8 hf.rt.small hf.rt.ja hp (p:=0) (M:=M)
 generalize jn f.s.now o.c8=v at q1 ⊢;have q1:=@q1;generalize aY f.s.now.ae v.1=n at q1 ⊢;have q2:=aqu f.s.now f.cL n.aq o.n o.m hf.rt hf.cL hf.qv;have hr:=Et (t:=f.s.now) hf.cL hf.qv n.aq o.n o.m;generalize pT f.s.now f.cL n.aq o.n o.m=w at q2 hr ⊢;have q5:=fun {M}=>MW f o f.s.now w.1 hf hf.rt hr.1 hr.2 (p:=0) (M:=M)
 generalize iw f f.s.now w.1=r at q5 ⊢;simp only[cf,b9,aF,bl,aI] at q1 q2 q5;cases h0:v.2 != 0
 ·cases h1:w.2 != 0
  ·cases h2:r.2 != 0
   ·simp only[PY,E73,cf,b9,du,fJ,q1,q2,q5,h0,h1,h2,tH,an,af,aG,az,EW,seval]
   ·simp only[PY,E73,cf,b9,du,fJ,q1,q2,q5,h0,h1,h2,fM,tH,an,af,aG,az,EW,seval]
  ·simp only[PY,E73,cf,b9,du,fJ,q1,q2,q5,h0,h1,fM,tH,an,af,aG,az,EW,seval]
 ·simp only[PY,E73,cf,b9,du,fJ,q1,q2,q5,h0,fM,tH,an,af,aG,az,EW,seval]
def wQ(f:aa)(o:jz):Wk :=
 let v:=jn f.s.now o.c8
 let n:=aY f.s.now.ae v.1
 let w:=takeN f.s n.aq
 if v.2 != 0 then (f,fJ,v.2) else
 if w.2.2 != 0 then (f,fJ,w.2.2) else
 (⟨w.1,f.holds,f.cL⟩,⟨0,0,0,w.2.1,0,[],[]⟩,0)
def c74(f:aa)(o:jz)(hf:sR f)(ho:yy o):oj 74 f o (wQ f o):=by
 unfold oj;have hp:o.c8.length<=100000:=by have:=ho.c8; omega
 have hto:o.r9.length<=100000:=by have:=ho.r9; omega
 refine⟨.slice .c0 [],.slice .c0 [],.inr ⟨rfl,?_⟩,.inr ⟨rfl,?_⟩,aw ?_⟩
 ·unfold wQ; simp only[]; split<;>(try split)<;>rfl
 ·unfold wQ; simp only[]; split<;>(try split)<;>rfl
 unfold wQ;simp only[];have q1:=fun {M}=>JC f o o.c8 hf.rt.small hf.rt.ja hp (p:=0) (M:=M)
 generalize jn f.s.now o.c8=v at q1 ⊢;have q1:=@q1;generalize aY f.s.now.ae v.1=n at q1 ⊢;have q2:=fun M=>lS (aqv f.s n.aq hf.rt.small hf.rt.ja hf.cp M)
 generalize takeN f.s n.aq=w at q2 ⊢;simp only[cf,b9,aF,bl,aI] at q1 q2;cases h0:v.2 != 0
 ·cases h1:w.2.2 != 0
  ·simp only[Wu,E74,cf,b9,du,fJ,q1,q2,h0,h1,tH,an,af,aG,az,EW,seval]
  ·simp only[Wu,E74,cf,b9,du,fJ,q1,q2,h0,h1,fM,tH,an,af,aG,az,EW,seval]
 ·simp only[Wu,E74,cf,b9,du,fJ,q1,q2,h0,fM,tH,an,af,aG,az,EW,seval]
def wc(f:aa)(o:jz):Wk :=
 let w:=nN f.s o.n
 if w.2 != 0 then (f,fJ,w.2) else
 (⟨w.1,f.holds,f.cL⟩,fJ,0)
def c76(f:aa)(o:jz)(hf:sR f)(ho:yy o):oj 76 f o (wc f o):=by
 unfold oj;have hp:o.c8.length<=100000:=by have:=ho.c8; omega
 have hto:o.r9.length<=100000:=by have:=ho.r9; omega
 refine⟨.slice .c0 [],.slice .c0 [],.inr ⟨rfl,?_⟩,.inr ⟨rfl,?_⟩,aw ?_⟩
 ·unfold wc; simp only[]; split<;>rfl
 ·unfold wc; simp only[]; split<;>rfl
 unfold wc;simp only[];have q2:=fun M=>lS (aqy f.s o.n (by have:=hf.cp; omega) (by have:=hf.dw; omega) M)
 generalize nN f.s o.n=w at q2 ⊢;simp only[cf,b9,aF,bl,aI] at q2;cases h0:w.2 != 0
 ·simp only[adb,E76,cf,b9,du,fJ,q2,h0,tH,an,af,aG,az,EW,seval]
 ·simp only[adb,E76,cf,b9,du,fJ,q2,h0,fM,tH,an,af,aG,az,EW,seval]
def ue(f:aa)(o:jz):Wk :=
 let w:=yR f.s.now f.holds o.cD
 let p:=mu f.s w.1
 (⟨p,w.2,f.cL⟩,fJ,0)
def c77(f:aa)(o:jz)(hf:sR f)(ho:yy o):oj 77 f o (ue f o):=by
 unfold oj;have hp:o.c8.length<=100000:=by have:=ho.c8; omega
 have hto:o.r9.length<=100000:=by have:=ho.r9; omega
 refine⟨.slice .c0 [],.slice .c0 [],.inr ⟨rfl,?_⟩,.inr ⟨rfl,?_⟩,aw ?_⟩
 ·unfold ue; simp only[]; skip<;>rfl
 ·unfold ue; simp only[]; skip<;>rfl
 unfold ue;simp only[];have q2:=fun M=>lS (aqz f.s.now f.holds o.cD hf.rt hf.dR M)
 have hr:=(show Rt (yR f.s.now f.holds o.cD).1 from hf.rt.gone o.cD _ _)
 generalize yR f.s.now f.holds o.cD=w at q2 hr ⊢;have q3:=alf f hf w.1 hr;generalize mu f.s w.1=p at q3 ⊢;simp only[cf,b9,aF,bl,aI] at q2 q3;simp only[aj0,E77,cf,b9,du,fJ,q2,q3,an,af,aG,az,EW,seval]
def iE(f:aa)(o:jz):Node×Int :=
 if (JB f.holds o.cD o.handle).2 != 0 then (Node.zero,(JB f.holds o.cD o.handle).2)
 else if decide (0<=o.n) then (aY f.s.now.ae (JB f.holds o.cD o.handle).1,0) else (Node.zero,1)
def c138(f:aa)(o:jz)(hf:sR f):ar gj 138 [bX 0] [cf f o]=some (if (iE f o).2 != 0 then fM (iE f o).2 else .agg (aF (iE f o).1),[cf f o]):=by
 refine aw ?_;have q1:=fun M=>lS (aqN f.holds o.cD o.handle (by have:=hf.dR; omega) M)
 have q2:=fun bb=>N9 bb 1 rfl
 unfold iE;generalize JB f.holds o.cD o.handle=v at q1 ⊢;have q3:=fun {M}=>akT f o v.1 hf.rt.small hf.rt.ja (p:=0) (M:=M)
 simp only[cf,b9,aF] at q3;cases h0:v.2 != 0
 ·cases h1:decide (0<=o.n)
  ·simp only[KH,abV,cf,b9,aF,q1,q2,q3,tH,h0,h1,fM,an,af,aG,az,EW,seval]
  ·simp only[KH,abV,cf,b9,aF,q1,q2,q3,tH,h0,h1,fM,an,af,aG,az,EW,seval]
 ·simp only[KH,abV,cf,b9,aF,q1,q2,q3,tH,h0,fM,an,af,aG,az,EW,seval]
def adj(f:aa)(o:jz)(hf:sR f){p:Nat}{M:aH}(hM:nth M p=some (cf f o)):aM (ar gj) 138 [bX p] M=some (if (iE f o).2 != 0 then fM (iE f o).2 else .agg (aF (iE f o).1),M):=by
 have:=Hi (vs:=[]) hM (c138 f o hf) rfl rfl (by split<;>rfl) (fun _=>rfl) (fun _=>by split<;>rfl)
 rwa[rq hM] at this
def oh(f:aa)(o:jz)(aq:Int)(d:Bytes):Wk :=
 let w:=qt f.s.now aq d
 let r:=iw f w.1 f.cL
 if w.2 != 0 then (f,fJ,w.2) else
 if r.2 != 0 then (r.1,fJ,r.2) else
 (r.1,⟨0,aq,0,0,d.length,[],[]⟩,0)
def aof(f:aa)(o:jz)(hf:sR f)(aq:Int)(d:Bytes)(hd:d.length<=100000):ar gj 140 [bX 0,aE aq,cX d] [cf f o] =
  some (if (oh f o aq d).2.2 != 0 then fM (oh f o aq d).2.2 else .tuple [],[du (oh f o aq d).1 o (oh f o aq d).2.1 (.slice .c0 []) (.slice .c0 [])]):=by
 refine aw ?_;unfold oh;simp only[];have q1:=ale f.s.now hf.rt aq d hd;have hr:=hf.rt.put aq d;generalize qt f.s.now aq d=w at q1 hr ⊢;have q5:=fun {M}=>MW f o w.1 f.cL hf hr hf.cL hf.qv (p:=0) (M:=M)
 generalize iw f w.1 f.cL=r at q5 ⊢;simp only[cf,b9] at q5;cases h0:w.2 != 0
 ·cases h1:r.2 != 0
  ·simp only[KI,abW,cf,b9,du,fJ,q1,q5,tH,h0,h1,an,af,aG,az,EW,seval]
  ·simp only[KI,abW,cf,b9,du,fJ,q1,q5,tH,h0,h1,fM,an,af,aG,az,EW,seval]
 ·simp only[KI,abW,cf,b9,du,fJ,q1,q5,tH,h0,fM,an,af,aG,az,EW,seval]
def akH(f:aa)(o:jz)(hf:sR f)(aq:Int)(d:Bytes)(hd:d.length<=100000){p:Nat}{M:aH}(hM:nth M p=some (cf f o)):aM (ar gj) 140 [bX p,aE aq,cX d] M =
  some (if (oh f o aq d).2.2 != 0 then fM (oh f o aq d).2.2 else .tuple [],jk M p (du (oh f o aq d).1 o (oh f o aq d).2.1 (.slice .c0 []) (.slice .c0 []))) :=
 pM hM (aof f o hf aq d hd) rfl rfl (by split<;>rfl) rfl (by split<;>rfl) rfl rfl rfl rfl rfl
end
section
def ara(d:Bytes)(hd:d.length<=100000)(M:aH):aM (ar gj) 139 [cX d] M=some (cX d,M):=by
 have h:ar bK 139 [cX d] []=some (cX d,[]):=by
  refine eX (g:=pCC 1 1) rfl ?_
  show HF 1 1 [cX d] []=_
  unfold HF;simp only[];have hw:wid (d.map pE) 1:=by have:=rh d; simpa using this
  have hr:cu (d.map pE).length 1:=by have:=pW (a:=d.length) (b:=1) (by omega) (by omega); simpa using this
  exact dS ⟨hw,hr⟩
 exact lS (cO h M)
def Ay(X w:Bytes)(N:Nat)(h:N+w.length<=X.length):List.take X.length (List.take N (X.map pE)++(List.take w.length (w.map pE)++List.drop (N+w.length) (X.map pE)))=(X.take N++(w++X.drop (N+w.length))).map pE:=by
 rw[bS (by simp; omega),bS (l:=w.map pE) (by simp)]
 simp
def Ij(k:Nat):List.replicate k (ag.agg [.int .u8 0]).norm=(List.replicate k (0:UInt8)).map pE:=by
 rw[gF]; rfl
def P1(M:aH)(id ver sz lo hi:Nat):ag.vI M (.cN id ver sz lo hi)=match nth M id with
  |some (.arr _ v xs)=>if v=ver then gH ((xs.take hi).drop lo) else .any
  |_ => .any:=rfl
def p93{d:Bytes}(h0:d≠[])(hd:d.length<=100000)(b:dv)(M:aH):ar gj 139 [gH (d.map pE)] (b::M)=some (.cN (M.length+1) 0 1 0 d.length,(b::M)++[.arr 1 0 (d.map pE)]):=by
 refine lS' (eX (g:=pCC 1 1) rfl ?_)
 show lG 1 1 [gH (d.map pE)] (b::M)=_
 obtain⟨a,r,rfl⟩:=dV h0;have hw:wid ((a::r).map pE) 1:=by have:=rh (a::r); simpa using this
 have hr:cu ((a::r).map pE).length 1:=by have:=pW (a:=(a::r).length) (b:=1) (by omega) (by omega); simpa using this
 unfold lG;simp only[aP] at hw hr ⊢;rw[dS ⟨hw,hr⟩];simp
def alZ{d:Bytes}(h0:d=[])(b:dv)(M:aH):ar gj 139 [gH (d.map pE)] (b::M)=some (.slice .c0 [],b::M):=by
 subst h0;exact lS' (eX (g:=pCC 1 1) rfl rfl)
def Ah(a:Int)(n:Nat):Nat:=(if (n:Int)<a then (n:Int) else a).toNat
def zb{a:Int}(h:0<=a)(n:Nat):(if (n:Int)<a then (n:Int) else a)=(Ah a n:Int)/\Ah a n<=n:=by
 unfold Ah; split<;>omega
def Fj{f:aa}{o:jz}(h:((iE f o).2 != 0)=false):0<=o.n/\∃i,(iE f o).1=aY f.s.now.ae i:=by
 unfold iE at h ⊢;split at h
 ·rename_i h1; rw[h1] at h; cases h
 ·rename_i h1;split at h
  ·rename_i h2; rw[aQ h1,bh h2]; exact⟨by simpa using h2,_,rfl⟩
  ·cases h
def zd{f:aa}(hf:sR f)(i:Int):(aY f.s.now.ae i).data.length<=4096/\(aY f.s.now.ae i).aL.length<=64:=by
 obtain⟨cz,h⟩:=hf.rt;unfold aY;cases hi:find f.s.now.ae i with
 |none=>simp[Node.zero]
 |some n =>
  simp only[bn];refine⟨?_,(h.v8 _ _ hi).2⟩;rcases h.kind _ _ hi with h1|h1
  ·exact(h.file _ _ hi h1).2.2
  ·rw[h.dir _ _ hi h1]; simp
attribute [local irreducible] eW fQ lh gK dW kr ar aM cq bI
def B5(f:aa)(o:jz):Wk :=
 if (iE f o).2 != 0 then (f,fJ,(iE f o).2)
 else oh f o (iE f o).1.aq ((iE f o).1.data.take (Ah o.n (iE f o).1.data.length))
def w9(f:aa)(o:jz)(aq:Int)(d:Bytes):(oh f o aq d).2.1.names=[]/\(oh f o aq d).2.1.data=[]:=by
 unfold oh; simp only[]; split
 ·exact⟨rfl,rfl⟩
 ·split<;>exact⟨rfl,rfl⟩
def c72(f:aa)(o:jz)(hf:sR f)(ho:yy o):oj 72 f o (B5 f o):=by
 unfold oj;refine⟨.slice .c0 [],.slice .c0 [],.inr ⟨rfl,?_⟩,.inr ⟨rfl,?_⟩,aw ?_⟩
 ·unfold B5; split
  ·rfl
  ·rw[(w9 ..).1]; rfl
 ·unfold B5; split
  ·rfl
  ·rw[(w9 ..).2]; rfl
 have q1:=fun {M}=>adj f o hf (p:=0) (M:=M)
 have hn:=Fj (f:=f) (o:=o);unfold B5;cases h0:(iE f o).2 != 0
 ·obtain⟨hn0,i,hi⟩:=hn h0;have hsz:=(zd hf i).1;rw[<-hi] at hsz;generalize (iE f o).1=n at q1 hsz ⊢;generalize (iE f o).2=e at q1 h0 ⊢;obtain⟨m1,m2⟩:=zb hn0 n.data.length;generalize Ah o.n n.data.length=mn at m1 m2 ⊢;have q2:=fun {M}=>akH f o hf n.aq (n.data.take mn) (by simp; omega) (p:=0) (M:=M)
  generalize oh f o n.aq (n.data.take mn)=r at q2 ⊢;have hle:((mn:Int)<=(n.data.length:Int))=True:=by simp; omega
  have hz:((0:Int)<=(mn:Int))=True:=by simp
  simp only[cf,b9,du,aF,cX,eO] at q1 q2;cases h1:r.2.2 != 0
  ·simp only[Wt,E72,cf,b9,du,aF,q1,q2,h0,h1,m1,hle,hz,fy,fM,af,aG,az,EW,seval]
  ·simp only[Wt,E72,cf,b9,du,aF,q1,q2,h0,h1,m1,hle,hz,fy,fM,af,aG,az,EW,seval]
 ·simp only[cf,b9,aF] at q1;simp only[Wt,E72,cf,b9,du,fJ,aF,q1,h0,fM,af,aG,az,EW,seval]
def zu(f:aa)(o:jz):Wk :=
 if (iE f o).2 != 0 then (f,fJ,(iE f o).2) else
 if !(decide (0<=o.m)&&decide (o.m<=4096)) then (f,fJ,1) else
 (f,⟨0,(iE f o).1.aq,0,0,0,[],((iE f o).1.data.drop (Ah o.n (iE f o).1.data.length)).take (Ah o.m ((iE f o).1.data.length-Ah o.n (iE f o).1.data.length))⟩,0)
def c70(f:aa)(o:jz)(hf:sR f)(ho:yy o):oj 70 f o (zu f o):=by
 unfold oj;have q1:=fun {M}=>adj f o hf (p:=0) (M:=M)
 have hn:=Fj (f:=f) (o:=o);have q2:=fun bb=>N9 bb 1 rfl
 unfold zu;cases h0:(iE f o).2 != 0
 ·obtain⟨hn0,i,hi⟩:=hn h0;have hsz:=(zd hf i).1;rw[<-hi] at hsz;generalize (iE f o).1=n at q1 hsz ⊢;generalize (iE f o).2=e at q1 h0 ⊢;obtain⟨m1,m2⟩:=zb hn0 n.data.length;generalize Ah o.n n.data.length=mn at m1 m2 ⊢;have hle:((mn:Int)<=(n.data.length:Int))=True:=by simp; omega
  have hz:∀k:Nat,((0:Int)<=(k:Int))=True:=fun k=>by simp
  have ht:List.take n.data.length (n.data.map pE)=n.data.map pE:=bS (by simp)
  have dR:(List.drop mn (n.data.map pE)).length=n.data.length-mn:=by simp
  cases h1:(!(decide (0<=o.m)&&decide (o.m<=4096)))
  ·have h1':decide (0<=o.m)=true/\decide (o.m<=4096)=true:=by simpa using h1
   have hm0:0<=o.m:=by simpa using h1'.1
   obtain⟨p1,p2⟩:=zb hm0 (n.data.length-mn);generalize Ah o.m (n.data.length-mn)=mm at p1 p2 ⊢;have hle2:((mm:Int)<=((n.data.length-mn:Nat):Int))=True:=by simp; omega
   have hw1:wid (List.drop mn (n.data.map pE)) 1=True:=by have:=rh (n.data.drop mn); rwa[jw] at this
   have q3:=fun M=>ara ((n.data.drop mn).take mm) (by simp; omega) M
   refine⟨.slice .c0 [],cX ((n.data.drop mn).take mm),.inr ⟨rfl,rfl⟩,.inl rfl,aw ?_⟩;simp only[cf,b9,aF,cX,eO,jw] at q1 q3;simp only[MJ,E70,cf,b9,du,aF,q1,q2,q3,h0,h1'.1,h1'.2,m1,p1,hle,hle2,hz,ht,dR,hw1,fy,cX,jw,cZ,an,af,aG,az,EW,seval]
  ·refine⟨.slice .c0 [],.slice .c0 [],.inr ⟨rfl,rfl⟩,.inr ⟨rfl,rfl⟩,aw ?_⟩
   have h1':(decide (0<=o.m)&&decide (o.m<=4096))=false:=by
    cases hx:(decide (0<=o.m)&&decide (o.m<=4096))
    ·rfl
    ·rw[hx] at h1; cases h1
   simp only[cf,b9,aF,cX] at q1;cases ha:decide (0<=o.m)<;>cases hb:decide (o.m<=4096)<;>simp only[ha,hb,j7,dP,dy,gJ] at h1'
   ·simp only[MJ,E70,cf,b9,du,fJ,aF,q1,q2,h0,ha,hb,fM,af,aG,az,EW,seval]
   ·simp only[MJ,E70,cf,b9,du,fJ,aF,q1,q2,h0,ha,hb,fM,af,aG,az,EW,seval]
   ·simp only[MJ,E70,cf,b9,du,fJ,aF,q1,q2,h0,ha,hb,fM,af,aG,az,EW,seval]
   ·cases h1'
 ·refine⟨.slice .c0 [],.slice .c0 [],.inr ⟨rfl,rfl⟩,.inr ⟨rfl,rfl⟩,aw ?_⟩;simp only[cf,b9,aF] at q1;simp only[MJ,E70,cf,b9,du,fJ,aF,q1,h0,fM,af,aG,az,EW,seval]
def mO(d:Bytes)(n:Nat)(w:Bytes):Bytes :=
 if w=[] then d else (d++List.replicate (n+w.length-d.length) 0).take n++(w++(d++List.replicate (n+w.length-d.length) 0).drop (n+w.length))
def tE(f:aa)(o:jz):Wk :=
 if (iE f o).2 != 0 then (f,fJ,(iE f o).2) else
 if !decide (o.n<=4096) then (f,fJ,1) else
 if !decide (((o.n.toNat+o.data.length:Nat):Int)<=4096) then (f,fJ,2) else
 oh f o (iE f o).1.aq (mO (iE f o).1.data o.n.toNat o.data)
def c71(f:aa)(o:jz)(hf:sR f)(ho:yy o):oj 71 f o (tE f o):=by
 unfold oj;refine⟨.slice .c0 [],.slice .c0 [],.inr ⟨rfl,?_⟩,.inr ⟨rfl,?_⟩,aw ?_⟩
 ·unfold tE; split
  ·rfl
  ·split
   ·rfl
   ·split
    ·rfl
    ·rw[(w9 ..).1]; rfl
 ·unfold tE; split
  ·rfl
  ·split
   ·rfl
   ·split
    ·rfl
    ·rw[(w9 ..).2]; rfl
 have q1:=fun {M}=>adj f o hf (p:=0) (M:=M)
 have hn:=Fj (f:=f) (o:=o);have q2:=fun bb=>N9 bb 1 rfl
 have q3:=fun bb=>N9 bb 2 rfl
 unfold tE;cases h0:(iE f o).2 != 0
 ·obtain⟨hn0,i,hi⟩:=hn h0;have hsz:=(zd hf i).1;rw[<-hi] at hsz;generalize (iE f o).1=n at q1 hsz ⊢;generalize (iE f o).2=e at q1 h0 ⊢;simp only[cf,b9,aF] at q1;cases h1:decide (o.n<=4096)
  ·simp only[Dt,Zn,cf,b9,du,fJ,aF,q1,q2,h0,h1,fM,af,aG,az,EW,seval]
  ·have hn1:o.n<=4096:=by simpa using h1
   obtain⟨N,hN⟩:∃N:Nat,o.n=(N:Int):=⟨o.n.toNat,by omega⟩
   have hdl:=ho.data;have hw:IntKind.i64.wrap ((N:Int)+(o.data.length:Int))=((N+o.data.length:Nat):Int):=by rw[fW (by omega) (by omega)]; omega
   have hT:o.n.toNat=N:=by omega
   rw[hT];rw[hN] at q1 h1;cases h2:decide (((N+o.data.length:Nat):Int)<=4096)
   ·simp only[Dt,Zn,cf,b9,du,fJ,aF,q1,q2,q3,h0,h1,h2,hw,hN,fM,af,aG,az,EW,seval]
   ·have hE:N+o.data.length<=4096:=by
     have:((N+o.data.length:Nat):Int)<=4096:=by simpa using h2
     omega
    have hwl:(mO n.data N o.data).length<=100000:=by
     unfold mO; split
     ·omega
     ·simp; omega
    have q4:=fun {M}=>akH f o hf n.aq (mO n.data N o.data) hwl (p:=0) (M:=M)
    generalize oh f o n.aq (mO n.data N o.data)=r at q4 ⊢;simp only[cf,b9,du,cX,hN] at q4
    by_cases hD:o.data=[]
    ·have hg:((0:Int)<(o.data.length:Int))=False:=by simp[hD]
     have hwr:mO n.data N o.data=n.data:=by unfold mO; rw[bh hD]
     rw[hwr] at q4
     by_cases hd0:n.data=[]
     ·have p1:=alZ (d:=n.data) hd0;rw[hd0] at q4;simp only[bc] at q4;cases h3:r.2.2 != 0<;>simp only[Dt,Zn,cf,b9,du,aF,q1,q2,q3,q4,p1,h0,h1,h2,h3,hN,hw,hg,fM,cX,FZ,P1,sm,af,aG,az,EW,seval]
     ·have p1:=p93 (d:=n.data) hd0 (by omega)
      have ht:List.take n.data.length (n.data.map pE)=n.data.map pE:=bS (by simp)
      cases h3:r.2.2 != 0<;>simp only[Dt,Zn,cf,b9,du,aF,q1,q2,q3,q4,p1,h0,h1,h2,h3,hN,hw,hg,ht,fM,cX,FZ,P1,sm,af,aG,az,EW,seval]
    ·have hdl0:0<o.data.length:=gk.2 hD;have hg:((0:Int)<(o.data.length:Int))=True:=by simp; omega
     have hwb:=rh o.data
     by_cases hd0:n.data=[]
     ·have p1:=alZ (d:=n.data) hd0;have hk:IntKind.i64.wrap (((N+o.data.length:Nat):Int)-0)=((N+o.data.length:Nat):Int):=by rw[fW (by omega) (by omega)]; simp
      have hm:(((N+o.data.length:Nat):Int)<0)=False:=by simp; omega
      have hmi:min o.data.length (N+o.data.length-N)=o.data.length:=by omega
      have rk:cu (N+o.data.length) 1=True:=qm;have b0:(((N+o.data.length:Nat):Int)==0)=false:=by simp; omega
      have b1:((N:Int)==((N+o.data.length:Nat):Int))=false:=by simp; omega
      have b2:((N:Int)<=((N+o.data.length:Nat):Int))=True:=by simp; omega
      have b3:(((N+o.data.length:Nat):Int)<=((N+o.data.length:Nat):Int))=True:=by simp
      have hz:=Ij (N+o.data.length);have htl:=Ay (List.replicate (N+o.data.length) 0) o.data N (by simp)
      have hwr:mO n.data N o.data=(List.replicate (N+o.data.length) 0).take N++(o.data++(List.replicate (N+o.data.length) 0).drop (N+o.data.length)):=by
       unfold mO; rw[aQ hD,hd0]; simp
      rw[hwr,<-htl] at q4;rw[kh] at q4;have l1:(0<((List.replicate (N+o.data.length) (0:UInt8)).map pE).length)=True:=by simp; omega
      generalize (List.replicate (N+o.data.length) (0:UInt8)).map pE=X at hz q4 l1;cases h3:r.2.2 != 0<;>simp only[Dt,Zn,cf,b9,du,aF,q1,q2,q3,q4,p1,h0,h1,h2,h3,hN,hw,hg,hk,hm,hmi,hwb,rk,b0,b1,b2,b3,hz,l1,fy,fM,cX,FZ,P1,sm,bN,af,aG,az,EW,seval]
     ·have p1:=p93 (d:=n.data) hd0 (by omega)
      have hL0:0<n.data.length:=gk.2 hd0;have l0:(0<n.data.length)=True:=by simp; omega
      have hwn:=rh n.data
      by_cases hE2:N+o.data.length<=n.data.length
      ·have hk:IntKind.i64.wrap (((N+o.data.length:Nat):Int)-(n.data.length:Int))=((N+o.data.length:Nat):Int)-(n.data.length:Int):=fW (by omega) (by omega)
       have hmx:(if ((N+o.data.length:Nat):Int)-(n.data.length:Int)<0 then (0:Int) else ((N+o.data.length:Nat):Int)-(n.data.length:Int))=0:=by split<;>omega
       have hmi:min o.data.length (n.data.length-N)=o.data.length:=by omega
       have rk:cu (n.data.length+0) 1=True:=qm;have rk0:cu n.data.length 1=True:=qm;have b1:((N:Int)==(n.data.length:Int))=false:=by simp; omega
       have b2:((N:Int)<=(n.data.length:Int))=True:=by simp; omega
       have htl:=Ay n.data o.data N hE2
       have hwr:mO n.data N o.data=n.data.take N++(o.data++n.data.drop (N+o.data.length)):=by
        unfold mO; rw[aQ hD,show N+o.data.length-n.data.length=0 by omega]; simp
       rw[hwr,<-htl] at q4;cases h3:r.2.2 != 0<;>simp only[Dt,Zn,cf,b9,du,aF,q1,q2,q3,q4,p1,h0,h1,h2,h3,hN,hw,hg,hk,hmx,hmi,hwb,hwn,rk,rk0,l0,b1,b2,fy,fM,cX,cZ,FZ,P1,sm,bN,af,aG,az,EW,seval]
      ·have hk:IntKind.i64.wrap (((N+o.data.length:Nat):Int)-(n.data.length:Int))=((N+o.data.length:Nat):Int)-(n.data.length:Int):=fW (by omega) (by omega)
       have hmx:(if ((N+o.data.length:Nat):Int)-(n.data.length:Int)<0 then (0:Int) else ((N+o.data.length:Nat):Int)-(n.data.length:Int))=((N+o.data.length-n.data.length:Nat):Int):=by split<;>omega
       have hsum:n.data.length+(N+o.data.length-n.data.length)=N+o.data.length:=by omega
       have hmi:min o.data.length (N+o.data.length-N)=o.data.length:=by omega
       have rk:cu (N+o.data.length) 1=True:=qm;have b0:(((N+o.data.length-n.data.length:Nat):Int)==0)=false:=by simp; omega
       have b1:((N:Int)==((N+o.data.length:Nat):Int))=false:=by simp; omega
       have b2:((N:Int)<=((N+o.data.length:Nat):Int))=True:=by simp; omega
       have hz:=Ij (N+o.data.length-n.data.length);have htl:=Ay (n.data++List.replicate (N+o.data.length-n.data.length) 0) o.data N (by simp; omega)
       have hwr:mO n.data N o.data=(n.data++List.replicate (N+o.data.length-n.data.length) 0).take N++(o.data++(n.data++List.replicate (N+o.data.length-n.data.length) 0).drop (N+o.data.length)):=by
        unfold mO; rw[aQ hD]
       rw[hwr,<-htl] at q4;have hlX:(n.data++List.replicate (N+o.data.length-n.data.length) (0:UInt8)).length=N+o.data.length:=by simp; omega
       rw[hlX,bu] at q4;have l1:(0<N+o.data.length)=True:=by simp; omega
       have lz:((List.replicate (N+o.data.length-n.data.length) (0:UInt8)).map pE).length=N+o.data.length-n.data.length:=by simp
       generalize (List.replicate (N+o.data.length-n.data.length) (0:UInt8)).map pE=Z at hz q4 lz;cases h3:r.2.2 != 0<;>simp only[Dt,Zn,cf,b9,du,aF,q1,q2,q3,q4,p1,h0,h1,h2,h3,hN,hw,hg,hk,hmx,hsum,hmi,hwb,hwn,rk,l0,l1,lz,b0,b1,b2,hz,fy,fM,cX,cZ,FZ,P1,sm,bN,af,aG,az,EW,seval]
 ·simp only[cf,b9,aF] at q1;simp only[Dt,Zn,cf,b9,du,fJ,aF,q1,h0,fM,af,aG,az,EW,seval]
end
section
attribute [local irreducible] eW fQ lh gK dW kr ar aM cq bI
def aiQ(z:Int):ar bK 145 [gH [],.func 215 [bX 0]] [bO [aE z]]=some (aE (-1),[bO [aE z]]):=by
 have h00:decide ((0:Int)<0)=false:=rfl;have hz:((0:Nat):Int)=0:=rfl;refine aw ?_;simp only[KJ,xw,hz,EN,seval];rw[bt];simp only[xw,h00,EN,seval]
end
def akI(z:Int):aM (ar bK) 145 [gH [],.func 215 [bX 0]] [bO [aE z]]=some (aE (-1),[bO [aE z]]) :=
 jc (ids:=[0]) rfl rfl (show iU [bO [aE z]] (hZ [0]) [0]=some [bO [aE z]] from rfl) rfl rfl (aiQ z) rfl rfl rfl rfl rfl
section
attribute [local irreducible] eW fQ lh gK dW kr ar aM cq bI
def ai1(z:Int):ar bK 213 [gH [],.func 215 [bX 0]] [bO [aE z]]=some (gH [],[bO [aE z]]):=by
 have h11:((-1:Int) == -1)=true:=rfl;refine aw ?_;simp only[KR,EY,akI,h11,EN,seval]
end
def ak1(z:Int)(b0 b2 b3:dv):aM (ar bK) 213 [gH [],.func 215 [bX 1]] [b0,bO [aE z],b2,b3]=some (gH [],[b0,bO [aE z],b2,b3]) :=
 jc (ids:=[1]) rfl rfl (show iU [b0,bO [aE z],b2,b3] (hZ [1]) [1]=some [bO [aE z]] from rfl) rfl rfl (ai1 z) rfl rfl rfl rfl rfl
def abv(b0 b2 b3:dv)(xs:List ag)(z:Int):iU [b0,bO [aE z],b2,b3,.arr 3 0 xs] (hZ [4,1]) [4,1]=some [.arr 3 0 xs,bO [aE z]]:=rfl
def aqJ(xs:List fg)(z:Int)(hn:xs.length<=100000)(h0:xs≠[])(hk:kM z xs≠[])(b0 b2 b3:dv):aM (ar bK) 213 [.cN 4 0 3 0 xs.length,.func 215 [bX 1]] [b0,bO [aE z],b2,b3,.arr 3 0 (xs.map fH)] =
  some (.cN 4 0 3 0 (kM z xs).length,[b0,bO [aE z],b2,b3,.arr 3 0 ((kM z xs++List.replicate (xs.length-(kM z xs).length) Ii).map fH)]):=by
 have h:=ai0 xs z hn h0;have hl:(kM z xs).length≠0:=fun hh=>hk (ck.1 hh)
 have hr:FF (kM z xs).length = .cN 0 0 3 0 (kM z xs).length:=by simp[FF,hl]
 rw[hr] at h;exact jc (ids:=[4,1]) rfl rfl (abv ..) rfl rfl h rfl rfl rfl rfl rfl
def ak2(xs:List fg)(z:Int)(hn:xs.length<=100000)(h0:xs≠[])(hk:kM z xs=[])(b0 b2 b3:dv):aM (ar bK) 213 [.cN 4 0 3 0 xs.length,.func 215 [bX 1]] [b0,bO [aE z],b2,b3,.arr 3 0 (xs.map fH)] =
  some (gH [],[b0,bO [aE z],b2,b3,.arr 3 0 ((List.replicate xs.length Ii).map fH)]):=by
 have h:=ai0 xs z hn h0;have hr:FF (kM z xs).length = gH []:=by simp[FF,hk]
 rw[hr,hk] at h;simp only[aW,av,bN] at h;exact jc (ids:=[4,1]) rfl rfl (abv ..) rfl rfl h rfl rfl rfl rfl rfl
section
attribute [local irreducible] eW fQ lh gK dW kr ar aM cq bI
end
section
def D3(x:fg):List fg->List fg
 | []=>[x]
 |y::r=>if x.aj<y.aj then x::y::r else y::D3 x r
def tC:List fg->List fg
 | []=>[]
 |x::r=>D3 x (tC r)
def aq5(n:fg):sr 2 (fH n)=n.aj:=rfl
def G9(x:fg):∀l:List fg,Cq 2 (fH x) (l.map fH)=(D3 x l).map fH
 | []=>rfl
 |y::r=>by
  simp only[aP,Cq,D3,aq5]
  by_cases h:x.aj<y.aj
  ·simp only[h,aG,aP]
  ·simp only[h,az,aP,G9 x r]
def Ey:∀l:List fg,pZ 2 (l.map fH)=(tC l).map fH
 | []=>rfl
 |x::r=>by simp only[aP,pZ,tC,Ey r,G9]
def D4(x:fg):∀l,(D3 x l).length=l.length+1
 | []=>rfl
 |y::r=>by simp only[D3]; split<;>simp[D4 x r]
def yu:∀l,(tC l).length=l.length
 | []=>rfl
 |x::r=>by simp[tC,D4,yu r]
def J3{l Z:List fg}{v:Nat}(hl:l.length<=1000000)(hn:(l.map fg.aj).Nodup):ar bK 216 [.cN 0 v 3 0 l.length,.func 217 []] [.arr 3 v ((l++Z).map fH)]=some (.tuple [],[.arr 3 v ((tC l++Z).map fH)]):=by
 refine eX (g:=tU 3 2 217) rfl ?_;unfold tU;simp only[nth];have ht:((l++Z).map fH).take l.length=l.map fH:=by simp[fx]
 have hd:((l++Z).map fH).drop l.length=Z.map fH:=by simp
 rw[ht,hd,Ey,<-bu];rw[dS]
 ·rfl
 ·refine⟨trivial,trivial,trivial,by simp,trivial,by omega,?_,?_⟩
  ·intro x hx;obtain⟨n,_,rfl⟩:=cE.1 hx;rfl
  ·rw[jj];exact hn
def al3(xs:List ag)(v:Nat)(b0 b1 b2 b3:dv):iU [b0,b1,b2,b3,.arr 3 v xs] (hZ [4]) [4]=some [.arr 3 v xs]:=rfl
attribute [local irreducible] eW fQ lh gK dW kr ar aM cq bI
def aqK{l Z:List fg}{v:Nat}(hl:l.length<=1000000)(hn:(l.map fg.aj).Nodup)(b0 b1 b2 b3:dv):aM (ar bK) 216 [.cN 4 v 3 0 l.length,.func 217 []] [b0,b1,b2,b3,.arr 3 v ((l++Z).map fH)]=some (.tuple [],[b0,b1,b2,b3,.arr 3 v ((tC l++Z).map fH)]) :=
 jc (ids:=[4]) rfl rfl (al3 _ _ ..) rfl rfl (J3 hl hn) rfl rfl rfl rfl rfl
def abi(M:aH):aM (ar bK) 216 [gH [],.func 217 []] M=some (.tuple [],M):=by
 have h:ar bK 216 [gH [],.func 217 []] []=some (.tuple [],[]):=by
  refine eX (g:=tU 3 2 217) rfl ?_;unfold tU;simp only[aG]
 exact cO h M
def Ci(ae:List Node)(aq z:Int):List fg:=tC (kM z (gA ae aq).1.aL)
def wu(t:Tree)(aq z m:Int):List fg×Int×Int :=
 if decide (z<0)||(decide (m<1)||decide (64<m)) then ([],0,1)
 else if (gA t.ae aq).2 != 0 then ([],0,(gA t.ae aq).2)
 else if decide (((Ci t.ae aq z).length:Int)<=m) then (Ci t.ae aq z,0,0)
 else ((Ci t.ae aq z).take m.toNat,lK (((Ci t.ae aq z).getD (m.toNat-1) Ii).aj+1),0)
def zP{t:Tree}{cz:Int->Nat}(h:cF t cz 0)(aq:Int):((gA t.ae aq).1.aL.map fg.aj).Nodup/\(gA t.ae aq).1.aL.length<=64:=by
 unfold gA;cases hi:find t.ae aq with
 |none=>exact⟨oc,by simp[Node.zero]⟩
 |some n =>
  simp only;split
  ·exact⟨by rw[List.nodup_iff_pairwise_ne,iy]; exact(h.v8 _ _ hi).1,(h.v8 _ _ hi).2⟩
  ·exact⟨oc,by simp[Node.zero]⟩
def an9(t:Tree)(ht:Rt t)(aq z m:Int):ar bK 132 [bo t,aE aq,aE z,aE m] []=some (.tuple [gS (wu t aq z m).1,aE (wu t aq z m).2.1,aE (wu t aq z m).2.2],[]):=by
 obtain⟨cz,h⟩:=ht;refine aw ?_;have q1:=fun b c M=>WL t.ae t.next t.aj aq h.ja.jd (by have:=h.ae; omega) 2 (b::c :: bO [aN t.ae,aE t.next,aE t.aj]::M) rfl
 obtain⟨hnd,h64⟩:=zP h aq;have hknd:((kM z (gA t.ae aq).1.aL).map fg.aj).Nodup:=(List.filter_sublist.map _).nodup hnd;have hkl:(kM z (gA t.ae aq).1.aL).length<=64:=aV (bZ _ _) h64;unfold wu Ci;generalize gA t.ae aq=d at q1 hnd h64 hknd hkl ⊢;simp only[bD,aF] at q1;cases g1:decide (z<0)
 ·cases g2:decide (m<1)
  ·cases g3:decide (64<m)
   ·cases g4:d.2 != 0
    ·obtain⟨M,hM⟩:∃M:Nat,m=(M:Int):=⟨m.toNat,by simp at g2; omega⟩
     subst hM;have hM1:1<=M:=by simp at g2; omega
     have hM64:M<=64:=by simp at g3; omega
     generalize hE:d.1.aL=E at q1 hknd hkl h64 ⊢;have c0:∀b0 b2 b3,aM (ar bK) 213 [gH [],.func 215 [bX 1]] [b0,bO [aE z],b2,b3]=some (gH [],[b0,bO [aE z],b2,b3]):=fun b0 b2 b3=>ak1 z b0 b2 b3
     have z0:((0:Int)<=(M:Int))=True:=by simp
     by_cases hE0:E=[]
     ·have p1:∀M,ar bK 214 [gS E] M=some (.slice .c0 [],M):=fun M=>by subst hE0; exact alY M
      have hk:tC (kM z E)=[]:=by subst hE0; rfl
      rw[hk];simp only[xG,FU,bo,aI,q1,g1,g2,g3,g4,p1,c0,abi,z0,av,aF,eR,af,aG,az,EW,seval];rfl
     ·have p1:=fun M=>p58 (l:=E) hE0 (by omega) M
      by_cases hK0:kM z E=[]
      ·have p2:=fun b0 b2 b3=>ak2 E z (by omega) hE0 hK0 b0 b2 b3
       have hk:tC (kM z E)=[]:=by rw[hK0]; rfl
       rw[hk];simp only[xG,FU,bo,aI,q1,g1,g2,g3,g4,p1,p2,abi,z0,av,aF,eR,af,aG,az,EW,seval];rfl
      ·have p2:=fun b0 b2 b3=>aqJ E z (by omega) hE0 hK0 b0 b2 b3
       have hsl:=yu (kM z E);generalize kM z E=kk at p2 hknd hkl hK0 hsl ⊢;generalize List.replicate (E.length-kk.length) Ii=Z at p2;have p3:=fun b0 b1 b2 b3=>aqK (l:=kk) (Z:=Z) (v:=0) (by omega) hknd b0 b1 b2 b3
       generalize tC kk=ss at p3 hsl ⊢;have tk:List.take kk.length ((ss++Z).map fH)=ss.map fH:=by rw[<-hsl]; simp[fx]
       cases g5:decide ((kk.length:Int)<=(M:Int))
       ·have cn:M<kk.length:=by simp at g5; omega
        have g6:decide ((ss.length:Int)<=(M:Int))=false:=by rw[hsl]; exact g5
        have hw1:IntKind.i64.wrap ((M:Int)-1)=((M-1:Nat):Int):=by rw[fW (by omega) (by omega)]; omega
        have hx:=ai (show M-1<ss.length by omega)
        have hg:ss.getD (M-1) Ii=ss[M-1]:=by simp[List.getD,hx]
        have hat:(ss++Z)[M-1]?=some ss[M-1]:=by rw[bA (by omega)]; exact hx
        have tm:List.take M ((ss++Z).map fH)=(ss.take M).map fH:=by
         rw[<-eO,fx (by omega)]
        have b1:((M:Int)<=(kk.length:Int))=True:=by simp; omega
        have b2:((M:Int)==0)=false:=by simp; omega
        have b3:((0:Int)==(M:Int))=false:=by simp; omega
        have b4:(((M-1:Nat):Int)<(kk.length:Int))=True:=by simp; omega
        simp only[xG,FU,bo,aI,q1,g1,g2,g3,g4,g5,g6,p1,p2,p3,z0,hw1,hg,hat,tm,b1,b2,b3,b4,fy,cZ,bN,fa,aF,eR,af,aG,az,EW,seval];rw[<-eO]
       ·have g6:decide ((ss.length:Int)<=(M:Int))=true:=by rw[hsl]; exact g5
        simp only[xG,FU,bo,aI,q1,g1,g2,g3,g4,g5,g6,p1,p2,p3,tk,bN,aF,eR,af,aG,az,EW,seval]
    ·simp only[xG,FU,bo,aI,q1,g1,g2,g3,g4,aF,eR,af,aG,az,EW,seval];rfl
   ·simp only[xG,FU,bo,aI,g1,g2,g3,aF,ei,eR,af,aG,az,EW,seval];rfl
  ·simp only[xG,FU,bo,aI,g1,g2,aF,dH,ei,eR,af,aG,az,EW,seval];rfl
 ·simp only[xG,FU,bo,aI,g1,aF,dH,eR,af,aG,az,EW,seval];rfl
def aqr(t:Tree)(ht:Rt t)(aq z m:Int)(M:aH):aM (ar gj) 132 [.agg [aN t.ae,aE t.next,aE t.aj],aE aq,aE z,aE m] M=some (.tuple [gS (wu t aq z m).1,aE (wu t aq z m).2.1,aE (wu t aq z m).2.2],M) :=
 lS (cO (an9 t ht aq z m) M)
def M8{t:Tree}(ht:Rt t)(aq z m:Int):(wu t aq z m).1.length<=100000:=by
 obtain⟨cz,h⟩:=ht;have h64:=(zP h aq).2;have hf:(Ci t.ae aq z).length<=64:=by unfold Ci; rw[yu]; exact aV (bZ _ _) h64
 unfold wu;split
 ·simp
 ·split
  ·simp
  ·split
   ·simp only; omega
   ·simp; omega
def yZ(f:aa)(o:jz):Wk :=
 let v:=jn f.s.now o.c8
 let l:=wu f.s.now (aY f.s.now.ae v.1).aq o.n o.m
 if v.2 != 0 then (f,fJ,v.2) else
 if l.2.2 != 0 then (f,fJ,l.2.2) else
 (f,⟨0,0,0,l.2.1,0,l.1.map fg.name,[]⟩,0)
def c66(f:aa)(o:jz)(hf:sR f)(ho:yy o):oj 66 f o (yZ f o):=by
 unfold oj;have q1:=fun {M}=>JC f o o.c8 hf.rt.small hf.rt.ja (by have:=ho.c8; omega) (p:=0) (M:=M)
 unfold yZ;simp only[];generalize jn f.s.now o.c8=v at q1 ⊢;generalize aY f.s.now.ae v.1=n at q1 ⊢;have q2:=aqr f.s.now hf.rt n.aq o.n o.m;have hl:=M8 hf.rt n.aq o.n o.m;generalize wu f.s.now n.aq o.n o.m=l at q2 hl ⊢;have q3:=adh l.1 hl;simp only[cf,b9,aF] at q1;cases h0:v.2 != 0
 ·cases h1:l.2.2 != 0
  ·refine⟨c9 (l.1.map fg.name),.slice .c0 [],.inl rfl,.inr ⟨rfl,rfl⟩,aw ?_⟩;simp only[Wr,E66,cf,b9,du,aF,q1,q2,q3,tH,h0,h1,an,af,aG,az,EW,seval]
  ·refine⟨.slice .c0 [],.slice .c0 [],.inr ⟨rfl,rfl⟩,.inr ⟨rfl,rfl⟩,aw ?_⟩;simp only[Wr,E66,cf,b9,du,fJ,aF,q1,q2,q3,tH,h0,h1,fM,an,af,aG,az,EW,seval]
 ·refine⟨.slice .c0 [],.slice .c0 [],.inr ⟨rfl,rfl⟩,.inr ⟨rfl,rfl⟩,aw ?_⟩;simp only[Wr,E66,cf,b9,du,fJ,aF,q1,h0,fM,an,af,aG,az,EW,seval]
end
section
attribute [local irreducible] eW fQ lh gK dW kr ar aM cq bI
def aok(e:fg)(s:Bytes):ar bK 146 [fH e,bX 0] [bO [.str s]]=some (.bool (e.name==s),[bO [.str s]]):=by
 refine aw ?_;simp only[Z6,amT,fH,fa,EW,seval]
def Td{xs:List fg}{s:Bytes}(hn:xs.length<=100000){k:List K}{R:Int->Option (ag×aH)}
  (hx:∀e,kr (ar bK) [.tmp 4] 1 k ⟨.exit 0,e,[bO [.str s]]⟩=R (-1)) (hr:∀(i:Nat),kr (ar bK) [.tmp 4] 1 k ⟨.ret,[(4,aE i)],[bO [.str s]]⟩=R i) :
  ∀(l pre:List fg),xs=pre++l->eW (ar bK) [.tmp 4] 1 k (.loop [0,1,7,8] Ld) [(0,gH (xs.map fH)),(1,.func 146 [bX 0]),(7,aE xs.length),(8,aE pre.length)] [bO [.str s]]=R (sn (fun e:fg=>e.name==s) l pre.length):=by
 intro l;induction l with
 |nil =>
  intro pre h;rw[bt];simp only[xw,gM h,EW,seval];exact hx _
 |cons n rest ih =>
  intro pre h;rw[bt];have dR:pre.length+1<=100000:=by rw[h] at hn; simp at hn; omega
  have hw:=vu pre n;have hi:=ih (pre++[n]) (by rw[h]; simp)
  simp only[aD,au,av] at hi;have hk:∀x:fg,aM (ar bK) 146 [.agg (fa x),bX 0] [bO [.str s]]=some (.bool ((fun e:fg=>e.name==s) x),[bO [.str s]]):=fun x=>wZ (f:=146) (p:=0) (vs:=[.agg (fa x)]) (M:=[bO [.str s]]) rfl (aok x s) rfl rfl rfl rfl rfl rfl rfl rfl rfl
  rw[sn];simp only[xw,fV h,fc h,hk,EW,seval];refine bq (fun hb=>?_) (fun hb=>?_)
  ·simp only[xw,hb,EW,seval];exact hr _
  ·simp only[xw,hb,hw,af,EW,seval];exact hi
def aiR(xs:List fg)(s:Bytes)(hn:xs.length<=100000):ar bK 145 [gH (xs.map fH),.func 146 [bX 0]] [bO [.str s]]=some (aE (sn (fun e:fg=>e.name==s) xs 0),[bO [.str s]]):=by
 refine aw ?_;simp only[KJ,xw,EW,seval];exact Td (R:=fun i=>some (aE i,[bO [.str s]])) hn (fun e=>by simp only[xw,EW,seval]) (fun i=>by simp only[xw,EW,seval]) xs [] rfl
def LR:List ag:=[.int .i64 0,.int .i64 0,.int .i64 0,.slice .c0 [],.slice .c0 [],.int .i64 0]
def vJ(o:Option Node):List ag:=match o with
 |some n=>aF n
 |none=>LR
def abk(o:Option Node):o9 (.agg [aE 0,aE 0,aE 0,.slice .c0 [],.slice .c0 [],aE 0]) false (o.map bD) = .agg (vJ o):=by cases o<;>rfl
def jr(all:AM Node):List Bytes->Option Node->Option Node×Int
 | [],o=>(o,0)
 |s::r,o=>if !((o.getD Node.zero).kind==2) then (o,73) else match (o.getD Node.zero).aL.find? (fun e=>e.name==s) with
  |none=>(o,70)
  |some e=>jr all r (dA all e.aq)
def fX(l:List Node)(m:AM Node):AM Node:=l.foldl (fun m n=>lJ m n.aq n) m
def Yt{W:aa×jz}{at':Int}{p:List Bytes}{xs:List Node}(hn:xs.length<=200000){fin:AM Node}{k:List K}{r:Option (ag×aH)}
  (hx:∀e,kr (ar gj) [] 1 k ⟨.exit 0,(0,bX 0)::(2,aE at')::(5,c9 p)::(6,.gP 1)::e,[cf W.1 W.2,.map (AN fin) (pQ bD fin)]⟩=r) :
  ∀(l pre:List Node)(m:AM Node),xs=pre++l->fX l m=fin->eW (ar gj) [] 1 k (.loop [0,2,5,6,42,43,44] aeX) [(0,bX 0),(2,aE at'),(5,c9 p),(6,.gP 1),(42,aN xs),(43,aE xs.length),(44,aE pre.length)] [cf W.1 W.2,.map (AN m) (pQ bD m)]=r:=by
 obtain⟨f,o⟩:=W;simp only[cf,b9] at hx ⊢;intro l;induction l with
 |nil =>
  intro pre m h hfin;rw[bt];simp only[fX,jH] at hfin;subst hfin;simp only[Ki,gM h,EW,seval];exact hx _
 |cons n rest ih =>
  intro pre m h hfin;rw[bt];have dR:pre.length+1<=200000:=by rw[h] at hn; simp at hn; omega
  have hw:=vu pre n;have hi1:=ih (pre++[n]) (lJ m n.aq n) (by rw[h]; simp) hfin
  have hput:=rJ bD m n.aq n;simp only[bD,aF,aD,au,av,aK] at hi1 hput;simp only[Ki,fV h,fc h,aF,hw,hput,mapOf.eq_1,VX,EW,seval];exact hi1
def Yu{W:aa×jz}{all:AM Node}(hall:∀k n,dA all k=some n->n.aL.length<=100000){xs:List Bytes}(hn:xs.length<=100000){fin:Option Node×Int}{k:List K}{r:Option (ag×aH)}
  (hx:fin.2=0->∀e,kr (ar gj) [] 1 k ⟨.exit 2,(0,bX 0)::(6,.gP 1)::(9,bX 2)::e,[cf W.1 W.2,.map (AN all) (pQ bD all),bO (vJ fin.1)]⟩=r)
  (hp:(fin.2 != 0)=true->∀c d,kr (ar gj) [] 1 k ⟨.mw (.iface 42 (.int .i64 fin.2)),[],[cf W.1 W.2,.map (AN all) (pQ bD all),.cells c,d]⟩=r) :
  ∀(l pre:List Bytes)(o:Option Node),xs=pre++l->(∀n,o=some n->n.aL.length<=100000)->jr all l o=fin->eW (ar gj) [] 1 k (.loop [0,6,9,56,57,58] aeY) [(0,bX 0),(6,.gP 1),(9,bX 2),(56,c9 xs),(57,aE xs.length),(58,aE pre.length)] [cf W.1 W.2,.map (AN all) (pQ bD all),bO (vJ o)]=r:=by
 obtain⟨f,op⟩:=W;simp only[cf,b9] at hx hp ⊢;intro l;induction l with
 |nil =>
  intro pre o h ho hfin;rw[bt];rw[jr] at hfin;subst hfin;cases o<;>simp only[vJ,LR,aF,Ki,gM h,VX,EW,seval] at hx ⊢ <;> exact hx trivial _
 |cons s rest ih =>
  intro pre o h ho hfin;rw[bt];have dR:pre.length+1<=100000:=by rw[h] at hn; simp at hn; omega
  have hw:=vu pre s;have q2:=fun bb=>N9 bb 73 rfl
  have q3:=fun bb=>N9 bb 70 rfl
  cases o with
  |none =>
   have hf:jr all (s::rest) none=(none,73):=rfl;rw[hf] at hfin;subst hfin;have h02:((0:Int)==2)=false:=rfl;simp only[vJ,LR,Ki,fV h,fc h,h02,q2,fM,af,az,EW,seval];exact hp rfl _ _
  |some n =>
   rw[jr] at hfin;simp only[bn] at hfin;cases hk:n.kind==2
   ·rw[hk] at hfin;simp only[ft,aG] at hfin;subst hfin;simp only[vJ,aF,Ki,fV h,fc h,hk,q2,fM,af,az,EW,seval];exact hp rfl _ _
   ·rw[hk] at hfin;simp only[di,af,az] at hfin;have hne:=ho n rfl;have q4:∀M,nth M 3=some (bO [.str s])->aM (ar gj) 145 [gS n.aL,.func 146 [bX 3]] M=some (aE (sn (fun e:fg=>e.name==s) n.aL 0),M):=fun M hM=>lS (yH hM (aiR n.aL s hne) rfl rfl rfl)
    rcases xa (fun e:fg=>e.name==s) n.aL 0 with ⟨i1,i2⟩|⟨j,e,i1,i2,i3,_⟩
    ·rw[i2] at hfin;simp only at hfin;subst hfin;rw[i1] at q4;have hneg:(0<=(-1:Int))=False:=by simp
     simp only[vJ,aF,Ki,fV h,fc h,hk,q2,q3,q4,hneg,fM,af,aG,az,EW,seval];exact hp rfl _ _
    ·rw[i3] at hfin;simp only at hfin;rw[i1,aK] at q4;have hi:=ih (pre++[s]) (dA all e.aq) (by rw[h]; simp) (fun m hm=>hall _ _ hm) hfin
     have hlg:=abk (dA all e.aq);simp only[aD,au,av,aK] at hi;have hisC:(vJ (dA all e.aq)).all ag.iM=true:=by cases dA all e.aq<;>rfl
     have hlC:(vJ (dA all e.aq)).length=6:=by cases dA all e.aq<;>rfl
     have hbC:∀B M,List.map (ag.kC B M) (vJ (dA all e.aq))=vJ (dA all e.aq):=fun B M=>by cases dA all e.aq<;>rfl
     generalize vJ (dA all e.aq)=gc at hi hlg hisC hlC hbC;simp only[vJ,aF,fa,Ki,fV h,fc h,hk,q2,q3,q4,i2,mM,hlg,hisC,hlC,hbC,hw,mapOf.eq_1,VX,af,aG,az,EW,seval];exact hi
def ED{all:AM Node}{P:Node->Prop}(hall:∀k n,dA all k=some n->P n):∀(f:Nat)(aq:Int)(st:VS),(∀n,n∈st.2->P n)->∀n,n∈(gd all f aq st).2.2->P n:=by
 intro f;induction f with
 |zero=>intro aq st h; exact h
 |succ f ih =>
  intro aq st h;rw[gd];split
  ·exact h
  ·split
   ·exact h
   ·rename_i h1;cases hn:dA all aq with
    |none=>simp[hn] at h1
    |some n =>
     simp only[bn]
     have hfold:∀(l:List fg)(w:Bool×VS),(∀n,n∈w.2.2->P n)->∀n,n∈(l.foldl (fun w e=>((gd all f e.aq w.2).1&&w.1,(gd all f e.aq w.2).2)) w).2.2->P n:=by
      intro l;induction l with
      |nil=>intro w hw; exact hw
      |cons e r ihr =>
       intro w hw;rw[cK];exact ihr _ (ih e.aq w.2 hw)
     refine hfold _ _ ?_;intro m hm;simp only[bB,bP] at hm;rcases hm with hm|rfl
     ·exact h m hm
     ·exact hall _ _ hn
def CH(x y:Node):∀l:List Node,y∈yd x l->y=x\/y∈l
 | [],h=>by simp[yd] at h; exact .inl h
 |z::r,h=>by
  simp only[yd] at h;split at h
  ·simpa using h
  ·rcases bC.1 h with h|h
   ·exact .inr (by simp[h])
   ·rcases CH x y r h with h|h
    ·exact .inl h
    ·exact .inr (by simp[h])
def uM(y:Node):∀l:List Node,y∈xK l->y∈l
 | [],h=>h
 |x::r,h=>by
  rcases CH x y _ h with h|h
  ·simp[h]
  ·exact aX _ (uM y r h)
def CI:∀(l:List Node)(m:AM Node)(k:Int)(n:Node),dA (fX l m) k=some n->n∈l\/dA m k=some n
 | [],m,k,n,h => .inr h
 |x::r,m,k,n,h=>by
  have h':dA (fX r (lJ m x.aq x)) k=some n:=h;rcases CI r _ k n h' with h|h
  ·exact .inl (by simp[h])
  ·rw[gN] at h;split at h
   ·injection h with h; exact .inl (by simp[h])
   ·exact .inr h
def sR.all{f:aa}(hf:sR f)(a:Int):xB (qS f.s a)/\(qS f.s a).length<=100200:=by
 obtain⟨g1,g2⟩:=tV a f.s.dw [] ⟨fun k n h=>(by cases h),fun k n h=>(by cases h)⟩ (fun p hp=>by have:=(hf.Br p hp).1; omega)
 obtain⟨g3,g4⟩:=xg a f.s.now.ae f.s.since (f.s.dw.foldl (jQ a) []) g1 (fun n hn=>by have:=hf.rt.sz.aL n hn; omega)
 refine⟨g3,?_⟩;have:=hf.rt.sz.ae; have h3:=hf.dw;simp at g2; unfold qS; omega
def acn{f:aa}(hf:sR f)(id:Int):(Bl f.s id).2.1.length<=200000/\∀n,n∈(Bl f.s id).2.1->n.aL.length<=100000:=by
 unfold Bl;split
 ·rename_i x _;obtain⟨h1,h2⟩:=hf.all x.at';have hg:=tY (all:=qS f.s x.at') h1.own 200001 x.aq ([],[]);refine⟨?_,fun n hn=>?_⟩
  ·have:=hg.len; have h3:=re (qS f.s x.at') [];simp only[av] at this;simp only[rU,xm,tK]; omega
  ·have:=uM n _ hn;exact ED (P:=fun n=>n.aL.length<=100000) h1.aL 200001 x.aq ([],[]) (fun n h=>by cases h) n this
 ·exact⟨by simp,fun n h=>by cases h⟩
def zh(f:aa)(o:jz):Wk :=
 let a:=Bl f.s o.n
 let p:=gx o.c8
 let r:=jr (fX a.2.1 []) p.1 (dA (fX a.2.1 []) a.1)
 if a.2.2 != 0 then (f,fJ,a.2.2) else
 if p.2 != 0 then (f,fJ,p.2) else
 if r.2 != 0 then (f,fJ,r.2) else
 (f,⟨0,(r.1.getD Node.zero).aq,(r.1.getD Node.zero).kind,(r.1.getD Node.zero).dz,Bb (r.1.getD Node.zero),(r.1.getD Node.zero).aL.map fg.name,(r.1.getD Node.zero).data⟩,0)
def A6{all:AM Node}(hall:∀k n,dA all k=some n->n.aL.length<=100000):∀(p:List Bytes)(o:Option Node),(∀n,o=some n->n.aL.length<=100000)->∀n,(jr all p o).1=some n->n.aL.length<=100000
 | [],o,ho,n,h=>ho n h
 |s::r,o,ho,n,h=>by
  rw[jr] at h;split at h
  ·exact ho n h
  ·split at h
   ·exact ho n h
   ·exact A6 hall r _ (fun m hm=>hall _ _ hm) n h
def c75(f:aa)(o:jz)(hf:sR f)(ho:yy o):oj 75 f o (zh f o):=by
 unfold oj;have q1:=fun M=>lS (aqw f.s o.n (by have:=hf.cp; omega) (by have:=hf.dw; omega) (fun p hp=>by have:=(hf.Br p hp).1; omega) hf.rt.sz hf.len M)
 have ha:=acn hf o.n;have q2:=adk o.c8 (by have:=ho.c8; omega)
 have hp:=(xn o.c8).2;unfold zh;simp only[];generalize Bl f.s o.n=a at q1 ha ⊢;generalize gx o.c8=p at q2 hp ⊢
 have hall:∀k n,dA (fX a.2.1 []) k=some n->n.aL.length<=100000:=fun k n h=>by
  rcases CI _ _ _ _ h with h|h
  ·exact ha.2 n h
  ·cases h
 have hpe:=A6 hall p.1 (dA (fX a.2.1 []) a.1) (fun n h=>hall _ _ h)
 simp only[bl] at q1;have k134z:∀M,aM (ar gj) 134 [.agg [aE 0,aE 0,aE 0,gH [],gH [],aE 0]] M=some (aE (Bb Node.zero),M):=fun M=>adi Node.zero M
 have k133z:∀M,aM (ar gj) 133 [gH []] M=some (gH [],M):=fun M=>adh [] (by simp) M
 cases h0:a.2.2 != 0
 ·cases h1:p.2 != 0
  ·have hlg:=abk (dA (fX a.2.1 []) a.1);have hisC:(vJ (dA (fX a.2.1 []) a.1)).all ag.iM=true:=by cases dA (fX a.2.1 []) a.1<;>rfl
   have hlC:(vJ (dA (fX a.2.1 []) a.1)).length=6:=by cases dA (fX a.2.1 []) a.1<;>rfl
   have main:∀x y,(Row x (((jr (fX a.2.1 []) p.1 (dA (fX a.2.1 []) a.1)).1.getD Node.zero).aL.map fg.name |>.map ag.str)/\x=c9 (((jr (fX a.2.1 []) p.1 (dA (fX a.2.1 []) a.1)).1.getD Node.zero).aL.map fg.name)) ->
     (y=match (jr (fX a.2.1 []) p.1 (dA (fX a.2.1 []) a.1)).1 with|some n=>cX n.data|none => .slice .c0 []) ->
     ar gj 75 [bX 0] [bO (b9 f o)]=some (if (jr (fX a.2.1 []) p.1 (dA (fX a.2.1 []) a.1)).2 != 0 then fM (jr (fX a.2.1 []) p.1 (dA (fX a.2.1 []) a.1)).2 else .tuple [],
      [if (jr (fX a.2.1 []) p.1 (dA (fX a.2.1 []) a.1)).2 != 0 then du f o fJ (.slice .c0 []) (.slice .c0 []) else
       du f o ⟨0,((jr (fX a.2.1 []) p.1 (dA (fX a.2.1 []) a.1)).1.getD Node.zero).aq,((jr (fX a.2.1 []) p.1 (dA (fX a.2.1 []) a.1)).1.getD Node.zero).kind,((jr (fX a.2.1 []) p.1 (dA (fX a.2.1 []) a.1)).1.getD Node.zero).dz,Bb ((jr (fX a.2.1 []) p.1 (dA (fX a.2.1 []) a.1)).1.getD Node.zero),[],[]⟩ x y]):=by
    rintro x y ⟨_,hx⟩ hy;subst hx hy;refine aw ?_
    have hb:=Yu (W:=(f,o)) hall (xs:=p.1) (by omega) (fin:=jr (fX a.2.1 []) p.1 (dA (fX a.2.1 []) a.1)) (k:=[.block 2,.seq afP]) (r:=some (if (jr (fX a.2.1 []) p.1 (dA (fX a.2.1 []) a.1)).2 != 0 then fM (jr (fX a.2.1 []) p.1 (dA (fX a.2.1 []) a.1)).2 else .tuple [],
      [if (jr (fX a.2.1 []) p.1 (dA (fX a.2.1 []) a.1)).2 != 0 then du f o fJ (.slice .c0 []) (.slice .c0 []) else
       du f o ⟨0,((jr (fX a.2.1 []) p.1 (dA (fX a.2.1 []) a.1)).1.getD Node.zero).aq,((jr (fX a.2.1 []) p.1 (dA (fX a.2.1 []) a.1)).1.getD Node.zero).kind,((jr (fX a.2.1 []) p.1 (dA (fX a.2.1 []) a.1)).1.getD Node.zero).dz,Bb ((jr (fX a.2.1 []) p.1 (dA (fX a.2.1 []) a.1)).1.getD Node.zero),[],[]⟩ (c9 (((jr (fX a.2.1 []) p.1 (dA (fX a.2.1 []) a.1)).1.getD Node.zero).aL.map fg.name)) (match (jr (fX a.2.1 []) p.1 (dA (fX a.2.1 []) a.1)).1 with|some n=>cX n.data|none => .slice .c0 [])]))
     (fun hz e=>by
      generalize jr (fX a.2.1 []) p.1 (dA (fX a.2.1 []) a.1)=r at hz hpe ⊢;obtain⟨o',e'⟩:=r;simp only at hz;subst hz;cases o' with
      |none =>
       simp only[cf,b9,du,vJ,LR,k133z,k134z,Ki,iY,an,af,az,EW,seval];rfl
      |some n =>
       have q5:=adh n.aL (hpe n rfl);have q6:=adi n;simp only[aF] at q6;simp only[cf,b9,du,vJ,aF,q5,q6,Ki,bn,an,af,az,EW,seval])
     (fun hz c d=>by
      rw[bh hz,bh hz];simp only[cf,b9,du,fJ,Ki,fM,EW,seval]) p.1 [] (dA (fX a.2.1 []) a.1) rfl (fun n h=>hall _ _ h) rfl
    generalize jr (fX a.2.1 []) p.1 (dA (fX a.2.1 []) a.1)=r at hb ⊢
    have hl:=Yt (W:=(f,o)) (at':=a.1) (p:=p.1) (xs:=a.2.1) ha.1 (fin:=fX a.2.1 []) (k:=[.block 0,.seq afQ]) (r:=some (if r.2 != 0 then fM r.2 else .tuple [],[if r.2 != 0 then du f o fJ (.slice .c0 []) (.slice .c0 []) else
       du f o ⟨0,(r.1.getD Node.zero).aq,(r.1.getD Node.zero).kind,(r.1.getD Node.zero).dz,Bb (r.1.getD Node.zero),[],[]⟩ (c9 ((r.1.getD Node.zero).aL.map fg.name)) (match r.1 with|some n=>cX n.data|none => .slice .c0 [])]))
     (fun e=>by
      generalize fX a.2.1 []=al at hlg hisC hlC hb ⊢;generalize vJ (dA al a.1)=gc at hlg hisC hlC hb;simp only[cf,b9,av] at hb;simp only[cf,b9,Ki,mM,mapOf.eq_1,hlg,hisC,hlC,EW,seval];exact hb) a.2.1 [] [] rfl rfl
    simp only[cf,b9,av,Fc,Fe] at hl;simp only[Wv,Ki,cf,b9,q1,q2,tH,h0,h1,af,az,EW,seval];exact hl
   generalize jr (fX a.2.1 []) p.1 (dA (fX a.2.1 []) a.1)=r at main ⊢;cases h2:r.2 != 0
   ·refine⟨c9 ((r.1.getD Node.zero).aL.map fg.name),(match r.1 with|some n=>cX n.data|none => .slice .c0 []),.inl rfl,?_,?_⟩
    ·obtain⟨o',e'⟩:=r;cases o'
     ·exact .inr ⟨rfl,rfl⟩
     ·exact .inl rfl
    ·have:=main _ _ ⟨.inl rfl,rfl⟩ rfl;rw[h2] at this;simpa only[af,az,an,du] using this
   ·refine⟨.slice .c0 [],.slice .c0 [],.inr ⟨rfl,rfl⟩,.inr ⟨rfl,rfl⟩,?_⟩;have:=main _ _ ⟨.inl rfl,rfl⟩ rfl;rw[h2] at this;simpa only[af,aG,az,h2] using this
  ·refine⟨.slice .c0 [],.slice .c0 [],.inr ⟨rfl,rfl⟩,.inr ⟨rfl,rfl⟩,aw ?_⟩;simp only[Wv,Ki,cf,b9,du,fJ,q1,q2,tH,h0,h1,fM,af,aG,az,EW,seval]
 ·refine⟨.slice .c0 [],.slice .c0 [],.inr ⟨rfl,rfl⟩,.inr ⟨rfl,rfl⟩,aw ?_⟩;simp only[Wv,Ki,cf,b9,du,fJ,q1,tH,h0,fM,af,aG,az,EW,seval]
end
end
section
open Go Go.RowKit Go.Extern.Stop Go.Stop Go.Extern
def JS (h:Value) (w:World):(Go.method 486 177 (.agg #[h]) "Kind").run Tryz.prog w = .ok (349,h) w:=by kernel_rfl
def JR (h:Value) (w:World):(Go.method 486 177 (.agg #[h]) "Elem").run Tryz.prog w = .ok (359,.agg #[h]) w:=by kernel_rfl
def Ag (h:Value) (w:World):(Go.method 486 177 (.agg #[h]) "Implements").run Tryz.prog w = .ok (360,.agg #[h]) w:=by kernel_rfl
def yj (h:Value) (w:World):(Go.method 486 177 (.agg #[h]) "AssignableTo").run Tryz.prog w = .ok (357,.agg #[h]) w:=by kernel_rfl
def rlm(z:Sem Value)(f:TypeId->Addr->Nat->Nat->Sem Value)(v:Value) :
  ReflectliteValue.method z f #[v]=(do match <-ReflectliteValue.parts v with|none=>z|some (t,a,fl)=>f t a fl (fl % 32)):=rfl
theorem rls:∃s1 s2 s3 s4 s5:String,∀v x:Value,ReflectliteValue.set #[v,x]=(do
  let (some (dst,a,fl),some (src,b,_)):=(<-ReflectliteValue.parts v,<-ReflectliteValue.parts x)
   |unsupported (.noEntry s1)
  if fl / ReflectliteValue.flagAddr % 2==0 then unsupported (.noEntry s2)
  let val <-loadVar src b
  if <-Rtype.directlyAssignable dst src then storeVar dst a val
  else if <-Rtype.implements dst src then
   if (<-Rtype.kind src)==20 then
    match val with
    | .nilIface=>unsupported (.noEntry s3)
    |_=>storeVar dst a val
   else storeVar dst a (.iface src val)
  else panicString (s4 ++ (<-Rtype.spelt src) ++ s5 ++ (<-Rtype.spelt dst))
  pure (.tuple #[])):=⟨_,_,_,_,_,fun v x=>rfl⟩
def Jn(t:Addr)(w:World):(ReflectliteValue.unpack (.iface 73 (.pointer (some t)))).run Tryz.prog w
  = .ok (.agg #[.pointer (some ⟨2,73,none⟩),.pointer (some ⟨w.heap.size,0,none⟩),.int .u64 150]) (w.alloc (.cells #[.pointer (some t)] 73)):=by kernel_rfl
def Wl (a:Addr) (w:World):(ReflectliteValue.methodAny (ReflectliteValue.valueError "reflectlite.Value.Type" 0) (fun t _ _ _=>ReflectliteType.toType t) #[.agg #[.pointer (some ⟨2,73,none⟩),.pointer (some a),.int .u64 150]]).run Tryz.prog w
  = .ok (.iface 177 (.agg #[.pointer (some ⟨2,73,none⟩)])) w:=by kernel_rfl
def Wi(w:World):((ReflectliteType.abiMethod fun t=>Functor.map (fun a:Nat=>Value.int IntKind.u8 (a:Int)) (Rtype.kind t)) #[.pointer (some ⟨2,73,none⟩)]).run Tryz.prog w = .ok (.int .u8 22) w:=by kernel_rfl
def Wj(w:World):((ReflectliteType.abiMethod fun t=>Functor.map (fun a:Nat=>Value.int IntKind.u8 (a:Int)) (Rtype.kind t)) #[.pointer (some ⟨2,42,none⟩)]).run Tryz.prog w = .ok (.int .u8 2) w:=by kernel_rfl
def GC(a:Addr)(w:World):(ReflectliteValue.parts (.agg #[.pointer (some ⟨2,73,none⟩),.pointer (some a),.int .u64 150])).run Tryz.prog w = .ok (some (73,a,150)) w:=by kernel_rfl
def Pc(a p:Addr)(W:World)(ha:W.cell? a=some (.pointer (some p))) :
  (ReflectliteValue.method (ReflectliteValue.valueError "reflectlite.Value.IsNil" 0) ReflectliteValue.isNil #[.agg #[.pointer (some ⟨2,73,none⟩),.pointer (some a),.int .u64 150]]).run Tryz.prog W = .ok (.bool false) W:=by
 rw[rlm];simp only[Sem.run_bind,GC,Result.andThen];simp[ReflectliteValue.isNil,loadVar,isAgg,underlying,underlying73,ha,Result.andThen]
def Wh(w:World):(ReflectliteType.method ReflectliteType.elem #[.agg #[.pointer (some ⟨2,73,none⟩)]]).run Tryz.prog w = .ok (.iface 177 (.agg #[.pointer (some ⟨2,42,none⟩)])) w:=by kernel_rfl
def Dr (w:World):(ReflectliteType.relation "Implements" ReflectliteType.implements_ #[.agg #[.pointer (some ⟨2,42,none⟩)],.iface 177 (.agg #[.pointer (some ⟨2,70,none⟩)])]).run Tryz.prog w = .ok (.bool true) w:=by kernel_rfl
def MC(v:Value)(w:World):(ReflectliteType.typeOf #[.iface 42 v]).run Tryz.prog w = .ok (.iface 177 (.agg #[.pointer (some ⟨2,42,none⟩)])) w:=by kernel_rfl
def Dp (w:World):(ReflectliteType.relation "AssignableTo" ReflectliteType.assignableTo #[.agg #[.pointer (some ⟨2,42,none⟩)],.iface 177 (.agg #[.pointer (some ⟨2,42,none⟩)])]).run Tryz.prog w = .ok (.bool true) w:=by kernel_rfl
def Jo(e:Int)(w:World):(ReflectliteValue.unpack (.iface 42 (.int .i64 e))).run Tryz.prog w
  = .ok (.agg #[.pointer (some ⟨2,42,none⟩),.pointer (some ⟨w.heap.size,0,none⟩),.int .u64 130]) (w.alloc (.cells #[.int .i64 e] 42)):=by kernel_rfl
def MA(w:World):(Rtype.elem? 73).run Tryz.prog w = .ok (some 42) w:=by kernel_rfl
def ajw(p:Addr)(w:World):(ReflectliteValue.mk 42 p ReflectliteValue.flagAddr).run Tryz.prog w = .ok (.agg #[.pointer (some ⟨2,42,none⟩),.pointer (some p),.int .u64 386]) w:=by kernel_rfl
def Pb(a p:Addr)(W:World)(ha:W.cell? a=some (.pointer (some p))) :
  (ReflectliteValue.method (ReflectliteValue.valueError "reflectlite.Value.Elem" 0) ReflectliteValue.elem #[.agg #[.pointer (some ⟨2,73,none⟩),.pointer (some a),.int .u64 150]]).run Tryz.prog W
   = .ok (.agg #[.pointer (some ⟨2,42,none⟩),.pointer (some p),.int .u64 386]) W:=by
 rw[rlm];simp only[Sem.run_bind,GC,Result.andThen];simp[ReflectliteValue.elem,loadVar,isAgg,underlying,underlying73,ha,Result.andThen,MA,ajw]
def MB(a:Addr)(w:World):(ReflectliteValue.parts (.agg #[.pointer (some ⟨2,42,none⟩),.pointer (some a),.int .u64 386])).run Tryz.prog w = .ok (some (42,a,386)) w:=by kernel_rfl
def Pd(a:Addr)(w:World):(ReflectliteValue.parts (.agg #[.pointer (some ⟨2,42,none⟩),.pointer (some a),.int .u64 130])).run Tryz.prog w = .ok (some (42,a,130)) w:=by kernel_rfl
def Mz(w:World):(Rtype.directlyAssignable 42 42).run Tryz.prog w = .ok true w:=by kernel_rfl
def ac5(ta b:Addr)(e:Int)(uo:Value)(W:World)(hb:W.cell? b=some (.int .i64 e))(ht:W.cell? ta=some uo)(hf:W.frozen? ta=false) :
  (ReflectliteValue.set #[.agg #[.pointer (some ⟨2,42,none⟩),.pointer (some ta),.int .u64 386],.agg #[.pointer (some ⟨2,42,none⟩),.pointer (some b),.int .u64 130]]).run Tryz.prog W
   = .ok (.tuple #[]) (W.setCell ta (.int .i64 e)):=by
 have hz:=sizeOf42;have hadd:∀a:Addr,a.add 0=a:=fun a=>by simp[Addr.add]
 obtain⟨s1,s2,s3,s4,s5,rls⟩:=rls;rw[rls];simp only[Sem.run_bind,MB,Pd,Result.andThen];simp[ReflectliteValue.flagAddr,loadVar,isAgg,underlying,underlying42,hb,Result.andThen,Mz,storeVar,Value.cells,storeCells,loadCells,loadCellsFrom,hz,hadd];rw[run_store Tryz.prog W ta _ _ (by rfl)]
 simp[ht,hf]
set_option maxHeartbeats 4000000 in
set_option maxRecDepth 40000 in
def ajv(e:Int)(t:Addr)(uo:Value)(w:World)(hg:w.cell? ⟨0,0,none⟩=some (.iface 177 (.agg #[.pointer (some ⟨2,70,none⟩)])))(ht0:w.cell? t=some uo)(hf0:w.frozen? t=false) :
  Calls Tryz.prog 26 #[.iface 42 (.int .i64 e),.iface 73 (.pointer (some t))] w fun ev w'=>ev = .returned (.bool true)/\w'=((((w.alloc (.cells #[.pointer (some t)] 73)).alloc (.cells #[.pointer (some ⟨2,73,none⟩),.pointer (some ⟨w.heap.size,0,none⟩),.int .u64 150] 117)).alloc (.cells #[.pointer (some ⟨2,73,none⟩),.pointer (some ⟨w.heap.size,0,none⟩),.int .u64 150] 117)).alloc (.cells #[.int .i64 e] 42)).setCell t (.int .i64 e):=by
 have h6:=@run_callFunc_extern Tryz.prog 57 _ (fun args=>ReflectliteValue.unpack (args.getD 0 (.tuple #[]))) func57 (by kernel_rfl) (by kernel_rfl) (by kernel_rfl) (by kernel_rfl)
 have h7:=@run_callFunc_extern Tryz.prog 58 _ (ReflectliteValue.methodAny (ReflectliteValue.valueError "reflectlite.Value.Type" 0) (fun t _ _ _=>ReflectliteType.toType t)) func58 (by kernel_rfl) (by kernel_rfl) (by kernel_rfl) (by kernel_rfl)
 have h8:=@run_callFunc_extern Tryz.prog 59 _ (ReflectliteValue.method (ReflectliteValue.valueError "reflectlite.Value.IsNil" 0) ReflectliteValue.isNil) func59 (by kernel_rfl) (by kernel_rfl) (by kernel_rfl) (by kernel_rfl)
 have h27:=@run_callFunc_extern Tryz.prog 349 _ (ReflectliteType.abiMethod fun t=>do pure (.int .u8 (<-Rtype.kind t))) func349 (by kernel_rfl) (by kernel_rfl) (by kernel_rfl) (by kernel_rfl)
 have h37:=@run_callFunc_extern Tryz.prog 359 _ (ReflectliteType.method ReflectliteType.elem) func359 (by kernel_rfl) (by kernel_rfl) (by kernel_rfl) (by kernel_rfl)
 have h38:=@run_callFunc_extern Tryz.prog 360 _ (ReflectliteType.relation "Implements" ReflectliteType.implements_) func360 (by kernel_rfl) (by kernel_rfl) (by kernel_rfl) (by kernel_rfl)
 have h10:=@run_callFunc_extern Tryz.prog 121 _ ReflectliteType.typeOf func121 (by kernel_rfl) (by kernel_rfl) (by kernel_rfl) (by kernel_rfl)
 have h35:=@run_callFunc_extern Tryz.prog 357 _ (ReflectliteType.relation "AssignableTo" ReflectliteType.assignableTo) func357 (by kernel_rfl) (by kernel_rfl) (by kernel_rfl) (by kernel_rfl)
 have h11:=@run_callFunc_extern Tryz.prog 122 _ (ReflectliteValue.method (ReflectliteValue.valueError "reflectlite.Value.Elem" 0) ReflectliteValue.elem) func122 (by kernel_rfl) (by kernel_rfl) (by kernel_rfl) (by kernel_rfl)
 have h12:=@run_callFunc_extern Tryz.prog 123 _ ReflectliteValue.set func123 (by kernel_rfl) (by kernel_rfl) (by kernel_rfl) (by kernel_rfl)
 have tO:=MC;have mA:=yj;have a25:=Dp;have v25:=Jo;have f6:=Jn;have f7:=Wl;have mK:=JS;have mE:=JR;have mI:=Ag;have k27:=Wi;have k25:=Wj;have e27:=Wh;have i25:=Dr;have n8:=Pc ⟨w.heap.size,0,none⟩ t ((w.alloc (.cells #[.pointer (some t)] 73)).alloc (.cells #[.pointer (some ⟨2,73,none⟩),.pointer (some ⟨w.heap.size,0,none⟩),.int .u64 150] 117)) (by simp)
 have cn:0<w.heap.size:=by
  rcases fA w.heap.size with h0|h
  ·simp[World.cell?,h0] at hg
  ·exact h
 have hg2:((w.alloc (.cells #[.pointer (some t)] 73)).alloc (.cells #[.pointer (some ⟨2,73,none⟩),.pointer (some ⟨w.heap.size,0,none⟩),.int .u64 150] 117)).cell? ⟨0,0,none⟩=some (.iface 177 (.agg #[.pointer (some ⟨2,70,none⟩)])):=by
  rw[World.cell?_alloc_lt _ _ ⟨0,0,none⟩ (by simp),World.cell?_alloc_lt _ _ ⟨0,0,none⟩ cn]; exact hg
 have htl:t.block<w.heap.size:=by
  rcases bF t.block w.heap.size with h|h
  ·exact h
  ·simp[World.cell?,gX h] at ht0
 have el:=Pb ⟨w.heap.size,0,none⟩ t (((w.alloc (.cells #[.pointer (some t)] 73)).alloc (.cells #[.pointer (some ⟨2,73,none⟩),.pointer (some ⟨w.heap.size,0,none⟩),.int .u64 150] 117)).alloc (.cells #[.pointer (some ⟨2,73,none⟩),.pointer (some ⟨w.heap.size,0,none⟩),.int .u64 150] 117)) (by rw[World.cell?_alloc_lt _ _ ⟨w.heap.size,0,none⟩ (by simp; omega)]; simp)
 have st:=ac5 t ⟨w.heap.size+1+1+1,0,none⟩ e uo ((((w.alloc (.cells #[.pointer (some t)] 73)).alloc (.cells #[.pointer (some ⟨2,73,none⟩),.pointer (some ⟨w.heap.size,0,none⟩),.int .u64 150] 117)).alloc (.cells #[.pointer (some ⟨2,73,none⟩),.pointer (some ⟨w.heap.size,0,none⟩),.int .u64 150] 117)).alloc (.cells #[.int .i64 e] 42))
  (by rw[World.cell?_alloc_at _ _ _ _ (by simp)]; rfl)
  (by rw[World.cell?_alloc_lt _ _ t (by simp; omega),World.cell?_alloc_lt _ _ t (by simp; omega),World.cell?_alloc_lt _ _ t (by simp; omega),World.cell?_alloc_lt _ _ t htl]; exact ht0)
  (by rw[World.frozen?_alloc_old _ _ t (by simp; omega),World.frozen?_alloc_old _ _ t (by simp; omega),World.frozen?_alloc_old _ _ t (by simp; omega),World.frozen?_alloc_old _ _ t (gI htl)]; exact hf0)
 go_enter func26,ntmps26
 go_wp2
 refine wp_loop_rounds 1 ?_;rw[rounds_succ]
 go_wp2
 go_ret
 exact⟨rfl,rfl⟩
end
end Go.Proofs.YtahkjijkflobhaaGreatDoor
set_option linter.defProp false
namespace Go.Proofs.YtahkjijkflobhaaGreatDoor
open Go Go.Abs
def Eo:cA :=
 (.seq (.region [
 ob 36 (.mv (.tmp 8)),
 ob 37 (.V1 (.tmp 36)),
 ob 38 (.iR 0 (.tmp 37)),
 ob 39 (.kN 10 (.tmp 38)),
 ob 40 (.mv (.tmp 8)),
 ob 41 (.V1 (.tmp 40)),
 ob 42 (.iR 18 (.tmp 41)),
 ob 43 (.kN 7 (.tmp 42)),
 ⟨none,.store 10 (.tmp 4) (.tmp 39),none,true,false,[42],true⟩,
 ox (.store 7 (.tmp 5) (.tmp 43))] true [4,5]) (.ret))
def Ep:cA :=
 (.seq (.region [
 ob 33 (.mv (.tmp 6)),
 ob 34 (.mv (.tmp 8)),
 ob 35 (.vx (.tmp 33) [(.tmp 34)])] false [4,5,8]) Eo)
def Er:cA :=
 (.seq (.region [
 ob 29 (.kN 10 (.tmp 2)),
 ob 30 (.kN 8 (.tmp 3)),
 ob 31 (.build [(.slice .c0 []),(.int .i64 0),(.int .i64 0),(.int .i64 0),(.slice .c0 []),(.slice .c0 []),(.slice .c0 []),(.int .i64 0),(.slice .c0 []),(.slice .c0 []),(.int .i64 0),(.int .i64 0),(.str []),(.str []),(.int .i64 0),(.int .i64 0),(.int .i64 0),(.slice .c0 []),(.int .i64 0),(.int .i64 0),(.int .i64 0),(.int .i64 0),(.int .i64 0),(.slice .c0 []),(.slice .c0 [])] [(0,10,(.tmp 29)),(10,8,(.tmp 30))]),
 ob 32 (.box (.tmp 31)),
 ob 8 (.mv (.tmp 32))] false [4,5,6,8]) Ep)
def Es:cA :=
 (.seq (.region [
 ob 17 (.mv (.tmp 7)),
 ob 18 (.mv (.tmp 17)),
 og 19 18 true (.iR 1 (.tmp 3)),
 og 20 18 true (.ic (.tmp 19)),
 og 21 18 true (.bin .geq (.tmp 20) (.kb (.int .i64 0))),
 ob 22 (.pick (.tmp 18) (.tmp 21) (.kb (.bool false))),
 ob 23 (.mv (.tmp 22)),
 og 24 23 true (.iR 1 (.tmp 3)),
 og 25 23 true (.ic (.tmp 24)),
 og 26 23 true (.bin .lss (.tmp 25) (.kb (.int .i64 16))),
 ob 27 (.pick (.tmp 23) (.tmp 26) (.kb (.bool false))),
 ob 28 (.call 28 [(.tmp 27),(.kb (.int .i64 1))])] false [2,3,4,5,6]) Er)
noncomputable def ZC:Code:=match Tryz.f14.body with|some (.seq _ (.seq _ r))=>r|_ => .skip
def OH:De:={ n:=44,own:=[],lv:=[(2,[2,3,4,5,6,7]),(3,[2,3,4,5,6]),(4,[4,5,6,8]),(5,[4,5,8]),(6,[4,5])],lp:=[] }
def vy:cA :=
 (.seq (.region [
 ⟨(some 11),.call 27 [],none,true,false,[],false⟩,
 ob 12 (.iR 0 (.tmp 3)),
 ob 13 (.ic (.tmp 12)),
 ob 14 (.look .i (.raw .nilFunc) true (.tmp 11) (.tmp 13)),
 ob 10 (.mv (.tmp 14)),
 ob 15 (.extract (.tmp 10) 0),
 ob 16 (.extract (.tmp 10) 1),
 ob 6 (.mv (.tmp 15)),
 ob 7 (.mv (.tmp 16))] true [2,3,4,5,6,7]) Es)
def alD:comp Tryz.prog OH ZC=some vy:=by kernel_rfl
noncomputable def ZD:Code:=match Tryz.f25.body with|some (.seq _ (.seq _ (.cond _ (.seq _ (.seq _ r)) _)))=>r|_ => .skip
def acj:De:={ n:=20,own:=[],lv:=[(5,[])],lp:=[] }
def xE:cA :=
 (.region [
 ob 17 (.kN 10 (.tmp 0)),
 ob 18 (.ic (.tmp 5)),
 ob 19 (.build [(.int .i64 0),(.int .i64 0),(.int .i64 0),(.int .i64 0),(.int .i64 0),(.slice .c0 []),(.slice .c0 [])] [(0,1,(.tmp 18))]),
 ox (.store 10 (.tmp 1) (.tmp 17)),
 ox (.store 7 (.tmp 2) (.tmp 19))] false [])
def alW:comp Tryz.prog acj ZD=some xE:=by kernel_rfl
noncomputable def ZB:Code:=match Tryz.f14.body with|some (.seq r _)=>r|_ => .skip
def ach:De:={ n:=44,own:=[],lv:=[(0,[2,3,4,5])],lp:=[] }
def Kt:cA :=
 (.region [
 ob 2 (.box (.tmp 0)),
 ob 3 (.box (.tmp 1)),
 ob 4 (.pq [(.slice .c0 []),(.int .i64 0),(.int .i64 0),(.int .i64 0),(.slice .c0 []),(.slice .c0 []),(.slice .c0 []),(.int .i64 0),(.slice .c0 []),(.slice .c0 [])]),
 ob 5 (.pq [(.int .i64 0),(.int .i64 0),(.int .i64 0),(.int .i64 0),(.int .i64 0),(.slice .c0 []),(.slice .c0 [])])] false [2,3,4,5])
def alC:comp Tryz.prog ach ZB=some Kt:=by kernel_rfl
end Go.Proofs.YtahkjijkflobhaaGreatDoor
namespace Go.Proofs.YtahkjijkflobhaaGreatDoor
open Go Go.Abs
def IK(w:World):(Instr.typeAssert .nilIface 20 70 true).run Tryz.prog w = .ok (.tuple #[.nilIface,.bool false]) w:=by kernel_rfl
def IJ(v:Value)(w:World):(Instr.typeAssert (.iface 42 v) 20 70 true).run Tryz.prog w = .ok (.tuple #[.iface 42 v,.bool true]) w:=by kernel_rfl
set_option maxRecDepth 40000 in
def IV(p q r:Value)(w:World) :
  CallsD Tryz.prog 25 #[p,q,r] .returning w fun e u' w'=>e = .returned (.tuple #[])/\u' = .returning/\w'=w:=by
 refine callsD_of_wpS func25 rfl fun c₀ cs hu=>?_
 simp only[ntmps25,cR,au,av,Nat.reduceAdd,Nat.reduceSub,js,jt,ku,jG,aU,aW];apply wpS_seq;apply wpS_region;simp[wpOpsS,go_sem,recoverD,hu,Exit.thenS,IK];apply wpS_seq;apply wpS_region;simp[wpOpsS,go_sem,Exit.thenS];refine wpS_cond (t:=false) (by simp[Act.eval]) ?_
 simp only[af,az];refine wpS_of_wp (wp_skip ?_);cases c₀;simp_all [bodyPostS,results,Tryz.results25]
def E2(w:World)(o:Obj):(w.alloc o).heap=w.heap.push o:=rfl
def Ue{e:Int}{j:J}{M:aH}{w W:World}(hr:Rel j M w)(hsz:w.heap.size<W.heap.size)(hos:W.os=w.os)(ht:W.tape=w.tape)(hou:W.output=w.output)(je:W.heap[w.heap.size]?=some (.cells #[.int .i64 e] 42 (0,0)))(hb:∀b,b<w.heap.size->W.heap[b]?=w.heap[b]?) :
  Rel (gy j M.length (some w.heap.size)) (M++[.cells [.int .i64 e]]) W/\Ext j M w (gy j M.length (some w.heap.size)) (M++[.cells [.int .i64 e]]) W:=by
 have hob:∀b,some w.heap.size=some b->w.heap.size<=b/\b<W.heap.size:=fun b h=>by injection h with h; omega
 have q:Quiet w W:=⟨by omega,hos,ht,hou⟩
 refine⟨hr.push hob q hb (fun _=>⟨_,rfl,fun j' M' _=>⟨_,_,je,rfl,fun i c v hc hv=>?_⟩⟩) (fun sz n b h=>by cases h),Ext.push (fun b h=>(hob b h).1) q hb⟩
 match i with
 |0 =>
  simp at hc hv;subst hc; subst hv;exact .plain (.int _ _)
 |i+1=>simp at hc
def Mi{e:Int}{j:J}{M:aH}{w:World}(hr:Rel j M w)(hG:rT j M w){p q r:Value}{xp xq xr:ag}(hp:fY j M w xp p)(hq:fY j M w xq q)(hr':fY j M w xr r){o:Out}
  (ho:eP (ar gj) xE [(0,xp),(1,xq),(2,xr),(5,.ptr M.length 0)] (M++[.cells [.int .i64 e]])=some o) (hn:o.e = .normal) :
  CallsD Tryz.prog 25 #[p,q,r] (.panicking [{ v := .iface 42 (.int .i64 e),recovered:=false }]) w fun ed u' w' =>
   ed = .returned (.tuple #[])/\u' = .panicking [{ v := .iface 42 (.int .i64 e),recovered:=true }]/\∃j',Rel j' o.mem w'/\Ext j M w j' o.mem w':=by
 have hg:=(hG.g 0 [GD] 0 GD rfl rfl).2;have cn:0<w.heap.size:=(hG.g 0 [GD] 0 GD rfl rfl).1.lt;refine callsD_of_wpS func25 rfl fun c₀ cs hu=>?_
 simp only[ntmps25,cR,au,av,Nat.reduceAdd,Nat.reduceSub,js,jt,ku,jG,aU,aW];apply wpS_seq;apply wpS_region;simp[wpOpsS,go_sem,recoverD,hu,Exit.thenS,IJ];apply wpS_seq;apply wpS_region;simp[wpOpsS,go_sem,Exit.thenS];refine wpS_cond (t:=true) (by simp[Act.eval]) ?_
 simp only[aG];refine wpS_of_wp ?_;refine wp_seq (wp_region ?_);simp[wpOps,go_sem,Exit.then]
 refine .inl (wp_seq (wp_seq (wp_region ?_)));simp[wpOps,go_sem,Exit.then]
 repeat' refine Or.inl ?_
 refine(ajv e ⟨w.heap.size,0,none⟩ (.int .i64 0) _ ?_ ?_ ?_).mono ?_
 ·rw[World.cell?_alloc_lt _ _ ⟨0,0,none⟩ cn]; exact hg
 ·simp
 ·simp
 rintro ev w' ⟨rfl,rfl⟩;simp[go_sem];refine .inl (wp_cond (t:=false) ?_ ?_)
 ·simp[Act.eval]
 simp only[af,az];refine wp_skip ?_;simp only[Exit.then]
 have hR:=Ue (e:=e) hr (W:=((((w.alloc (.cells #[.int .i64 e] 42)).alloc (.cells #[.pointer (some ⟨w.heap.size,0,none⟩)] 73)).alloc (.cells #[.pointer (some ⟨2,73,none⟩),.pointer (some ⟨w.heap.size+1,0,none⟩),.int .u64 150] 117)).alloc (.cells #[.pointer (some ⟨2,73,none⟩),.pointer (some ⟨w.heap.size+1,0,none⟩),.int .u64 150] 117)).alloc (.cells #[.int .i64 e] 42))
  (by simp only[E2,Array.size_push]; omega) rfl rfl rfl (by
   have h2:w.heap.size≠w.heap.size+1+1:=by omega
   have h3:w.heap.size≠w.heap.size+1+1+1:=by omega
   have h4:w.heap.size≠w.heap.size+1+1+1+1:=by omega
   simp only[E2]; simp[fI,h2,h3,h4]) (fun b hb=>by
   have h1:b≠w.heap.size:=by omega
   have h2:b≠w.heap.size+1:=by omega
   have h3:b≠w.heap.size+1+1:=by omega
   have h4:b≠w.heap.size+1+1+1:=by omega
   have h5:b≠w.heap.size+1+1+1+1:=by omega
   simp only[E2]; simp[fI,h1,h2,h3,h4,h5])
 have hG':=hG.mono hR.2;have key:=wpIn_wide.1 (lB (rd:=none) (nd:=0) (by kernel_rfl) Ka ZD alW ho hR.1 hG' (a:={ tmps := #[p,q,r,.iface 42 (.int .i64 e),.bool true,.pointer (some ⟨w.heap.size,0,none⟩),.tuple #[.iface 42 (.int .i64 e),.bool true],.iface 42 (.int .i64 e),.tuple #[.iface 42 (.int .i64 e),.bool true],.iface 42 (.int .i64 e),.bool true,.bool true,.iface 42 (.int .i64 e),.iface 73 (.pointer (some ⟨w.heap.size,0,none⟩)),.bool true,.bool false,undef,undef,undef,undef],defers:=[] }) ?_ rfl)
 ·refine wp_mono key ?_;rintro ex a' w' ⟨h1,h2,h3,j',h4,h5,h6⟩;rw[hn] at h1;simp only[qq] at h1;subst h1;simp[bodyPostS,results,Tryz.results25,h3];exact⟨j',h4,hR.2.trans h6⟩
 ·refine⟨fun t=>?_,hG'⟩
  match t with
  |0=>exact hp.mono hR.2
  |1=>exact hq.mono hR.2
  |2=>exact hr'.mono hR.2
  |5=>exact .ptr (by simp) ⟨_,lX⟩ (by simp[gy])
  |3=>exact .any _
  |4=>exact .any _
  |t+6=>exact .any _
end Go.Proofs.YtahkjijkflobhaaGreatDoor
namespace Go.Abs
open Go
variable [kf]
def Ug{a:Act}{d:Option Nat}{v:Value}{t:Nat}(h:d≠some t):(a.put d v).tmps.getD t undef=a.tmps.getD t undef:=by
 cases d with
 |none=>rfl
 |some s =>
  have hne:s≠t:=fun e=>h (by rw[e])
  simp[Act.put,dh,fh hne]
def Ql{F:Fence}{n:Nat}{P:Program}{ops:Array Oper}{Q:Exit->Act->World->Prop}{ks:List Nat}{v0:Nat->Value}:∀(l:List Nat)(a:Act)(w:World),
  (∀i o,i∈l->ops[i]?=some o->∀t,t∈ks->o.dst≠some t)->(∀t,t∈ks->a.tmps.getD t undef=v0 t)->wpOpsIn F n P ops Q l a w->wpOpsIn F n P ops (fun e a' w'=>Q e a' w'/\(e = .outgrown\/∀t,t∈ks->a'.tmps.getD t undef=v0 t)) l a w:=by
 intro l;induction l with
 |nil=>exact fun a w _ hv h=>⟨h,.inr hv⟩
 |cons i rest ih =>
  intro a w hd hv h;have hd':∀i o,i∈rest->ops[i]?=some o->∀t,t∈ks->o.dst≠some t:=fun i o hi=>hd i o (aX _ hi)
  simp only[wpOpsIn] at h ⊢;cases ho:ops[i]? with
  |none=>rw[ho] at h; exact ih a w hd' hv h
  |some o =>
   rw[ho] at h;have hdo:=hd i o bj ho;have hp:∀(a:Act) v,(∀t,t∈ks->a.tmps.getD t undef=v0 t)->∀t,t∈ks->(a.put o.dst v).tmps.getD t undef=v0 t:=fun a v h t ht=>(Ug (hdo t ht)).trans (h t ht)
   simp only at h ⊢;split at h
   ·rename_i hw;rw[bh hw];refine⟨h.1,?_⟩;have h:=h.2;unfold Oper.uponIn at h ⊢;split at h
    ·exact ih _ _ hd' (hp _ _ hv) h
    ·exact ih _ _ hd' (hp _ _ hv) h
    ·exact ih _ _ hd' (hp _ _ hv) h
    ·refine⟨h.1,h.2.mono fun e w' h=>?_⟩
     cases e with
     |returned v=>exact ih _ _ hd' (hp _ _ hv) h
     |panicked c=>exact⟨h,.inr hv⟩
     |outgrown=>obtain⟨a1,w1,h⟩:=h; exact⟨a1,w1,h,.inl rfl⟩
    ·exact⟨h.1,h.2.mono fun v w' h=>ih _ _ hd' (hp _ _ hv) h⟩
    ·refine⟨h.1,h.2.mono fun e w' h=>?_⟩
     cases e with
     |returned v=>exact ih _ _ hd' (hp _ _ hv) h
     |panicked c=>exact⟨h,.inr hv⟩
     |outgrown=>obtain⟨a1,w1,h⟩:=h; exact⟨a1,w1,h,.inl rfl⟩
    ·exact⟨h,.inr hv⟩
    ·exact h.elim
   ·rename_i hw;rw[aQ hw];exact⟨h.1,ih _ _ hd' (hp _ _ hv) h.2⟩
def Bq(ks:List Nat)(br:Env)(o:Out):Out:=match o.e with
 | .mw v=>⟨.mw v,lF br ks,o.mem⟩
 |_=>o
noncomputable def rQ(C:eB)(ks:List Nat):cA->Env->aH->Option Out
 | .seq x y,br,M=>bI (rQ C ks x br M) fun o=>uh o (rQ C ks y)
 | .region ops d live,br,M=>bI (eP C (.region ops d live) br M) fun o=>some (if d then o else Bq ks br o)
 |c,br,M=>eP C c br M
def GY(ks:List Nat):Code->Bool
 | .seq x y=>GY ks x&&GY ks y
 | .region _ ops _=>ops.toList.all fun o=>match o.dst with|some d => !ks.contains d|none=>true
 |_=>true
def H4{P:Program}{C:eB}{A:De}(hmix:P.follows .mixedOrders=true)(hC:oQ P C){rd:Option Nat}{nd:Nat}{ks:List Nat}:∀(c:Code){ac:cA},comp P A c=some ac->GY ks c=true->∀ {br:Env} {M:aH} {o:Out},rQ C ks ac br M=some o ->
  ∀ {j:J} {w:World} {a:Act},Rel j M w->rT j M w->cm j M w br a->a.tmps.size=A.n->c.wpIn (Wd rd) nd P (VE A j M w a o) a w:=by
 intro c;induction c with
 |seq x y ihx ihy =>
  intro ac hc hf br M o h j w a hr hG he hs;simp only[comp] at hc;obtain⟨ax,hx,hc⟩:=aZ hc;obtain⟨ay,hy,hc⟩:=aZ hc;cases hc;simp only[GY,bm] at hf;simp only[rQ] at h;obtain⟨o1,h1,h⟩:=bg h;refine wpIn_seq (wpIn_mono (ihx hx hf.1 h1 hr hG he hs) ?_);rintro e a1 w1 ⟨he1,hs1,hd1,j1,r1,e1,x1⟩;rcases te h with ⟨hn,h2⟩|⟨hn,h2⟩
  ·rw[hn] at he1;subst he1;refine wpIn_mono (ihy hy hf.2 h2 r1 (hG.mono x1) e1 hs1) ?_;rintro e a2 w2 ⟨he2,hs2,hd2,j2,r2,e2,x2⟩;exact⟨he2,hs2,hd2.trans hd1,j2,r2,e2,x1.trans x2⟩
  ·subst h2;have:qq o.e ≠ .normal:=by cases ho:o.e<;>simp_all [qq]
   subst he1
   cases hx:qq o.e<;>first
    |exact absurd hx this
    |exact⟨hx.symm,hs1,hd1,j1,r1,e1,x1⟩
 |region id ops draw =>
  intro ac hc hf br M o h j w a hr hG he hs;cases draw with
  |true =>
   have hc0:=hc;simp only[comp,aG] at hc;obtain⟨l0,hl0,hc⟩:=aZ hc;obtain⟨l,hl,hc⟩:=aZ hc;cases hc;simp only[rQ,aG] at h;obtain⟨o1,h1,h⟩:=bg h;cases h;exact lB hmix hC _ hc0 h1 hr hG he hs
  |false =>
   have hc0:=hc;simp only[comp,af,az] at hc;obtain⟨l,hl,hc⟩:=aZ hc;cases hc;simp only[rQ,af,az] at h;obtain⟨o1,h1,h⟩:=bg h;cases h;simp only[eP] at h1;obtain⟨x,hx,h1⟩:=bg h1;cases h1
   have hdst:∀i o,i∈List.range ops.size->ops[i]?=some o->∀t,t∈ks->o.dst≠some t:=by
    intro i o _ hio t ht hd;simp only[GY,bH] at hf;have:=hf o (Array.mem_toList_iff.2 (Array.mem_of_getElem? hio));rw[hd] at this;simp[ht] at this
   refine wpIn_mono (wpIn_region (Ql (v0:=fun t=>a.tmps.getD t undef) _ a w hdst (fun _ _=>rfl) (by
    rw[mG];exact xh hC (grow:=[]) ops.toList 0 (by simp) hl hx hr hG he hs fun a' w' j' h1 h2 h3 h4 h5=>Al (live:=find A.lv id) h1 h2 h3 h4 h5))) ?_
   rintro e a1 w1 ⟨⟨he1,hs1,hd1,j1,r1,e1,x1⟩,hk⟩;clear hx;generalize x.oq (find A.lv id)=y at he1 r1 e1 x1 ⊢;cases hye:y.e with
   |mw v =>
    have hp:Bq ks br y=⟨.mw v,lF br ks,y.mem⟩:=by unfold Bq; rw[hye]
    rw[hp];have hk':=hk.resolve_left (by rw[he1,hye]; simp[qq])
    refine⟨by rw[he1,hye],hs1,hd1,j1,r1,⟨fun t=>?_,hG.mono x1⟩,x1⟩
    rw[yb];split
    ·rename_i ht;rw[hk' t ht];exact(he.at' t).mono x1
    ·exact .any _
   |normal =>
    have hp:Bq ks br y=y:=by unfold Bq; rw[hye]
    rw[hp]; exact⟨he1,hs1,hd1,j1,r1,e1,x1⟩
   |ret =>
    have hp:Bq ks br y=y:=by unfold Bq; rw[hye]
    rw[hp]; exact⟨he1,hs1,hd1,j1,r1,e1,x1⟩
   |exit i =>
    have hp:Bq ks br y=y:=by unfold Bq; rw[hye]
    rw[hp]; exact⟨he1,hs1,hd1,j1,r1,e1,x1⟩
 |_ =>
  intro ac hc hf br M o h j w a hr hG he hs;refine lB hmix hC _ hc (o:=o) ?_ hr hG he hs;simp only[comp] at hc
  first
   |(cases hc; exact h)
   |(obtain⟨_,_,hc⟩:=aZ hc; cases hc; exact h)
   |(obtain⟨_,_,hc⟩:=aZ hc; obtain⟨_,_,hc⟩:=aZ hc; obtain⟨_,_,hc⟩:=aZ hc; cases hc; exact h)
   |cases hc
end Go.Abs
namespace Go.Proofs.YtahkjijkflobhaaGreatDoor
open Go Go.Abs
def Y0:List sb:=[.dB 4 10,.dB 5 7]
noncomputable def Kz(o1 o2:Out):Option (ag×aH) :=
 match o2.e with
 | .ret=>bI (rY o2.br o2.mem Y0) fun l=>some ((Abs.one l).lY 0 o2.mem,lA 0 o2.mem)
 | .mw (.iface 42 (.int .i64 e)) =>
  bI (eP (ar gj) xE [(0,iv o1.br 2),(1,iv o1.br 4),(2,iv o1.br 5),(5,.ptr o2.mem.length 0)] (o2.mem++[.cells [.int .i64 e]])) fun o3 =>
  match o3.e with
  | .normal=>bI (rY o2.br o3.mem Y0) fun l=>some ((Abs.one l).lY 0 o3.mem,lA 0 o3.mem)
  |_=>none
 |_=>none
noncomputable def pDo:List ag->aH->Option (ag×aH):=fun args M =>
 match M with
 |_::_=>none
 | []=>if args.length=2 then
   bI (eP (ar gj) Kt (fq 0 args) []) fun o1 =>
   match o1.e with
   | .normal=>bI (rQ (ar gj) [4,5] vy (lF o1.br [2,3,4,5]) o1.mem) fun o2=>Kz o1 o2
   |_=>none
  else none
def O7{args:List ag}{M:aH}{x:ag×aH}(h:pDo args M=some x):dC Tryz.prog 14 args M x:=by
 unfold pDo at h;split at h
 ·cases h
 split at h
 rotate_left
 ·cases h
 rename_i dR;obtain⟨o1,ho1,h⟩:=bg h;split at h
 rotate_left
 ·cases h
 rename_i hn1;obtain⟨o2,ho2,h⟩:=bg h;intro j w vs hr hG hvl hv;refine calls_of_wp_defers func14 rfl ?_;refine wp_seq ?_;have hsz:(vs++Array.replicate (Tryz.f14.ntmps-vs.size) undef).size=44:=by rw[ntmps14]; simp; omega
 have he:cm j [] w (fq 0 args) { tmps:=vs++Array.replicate (Tryz.f14.ntmps-vs.size) undef,defers:=[] }:=by
  refine⟨fun t=>?_,hG⟩
  rw[z7,bh (cS _),bN];rcases bF t args.length with ht|ht
  ·have h1:=ai ht;have cn:t<vs.size:=by omega
   have h2:=a8 cn;rw[h1];have h3:=hv t _ _ h1 h2
   have:(vs++Array.replicate (Tryz.f14.ntmps-vs.size) undef).getD t undef=vs[t]:=by
    simp[dh,cj cn,h2]
   rw[this];exact h3
  ·rw[ec ht]; exact .any _
 refine wp_mono (wpIn_wide.1 (lB (rd:=none) (nd:=0) (by kernel_rfl) Ka ZB alC ho1 hr hG he hsz)) ?_
 rintro ex a1 w1 ⟨h1,h2,h3,j1,r1,e1,x1⟩;rw[hn1] at h1;simp only[qq] at h1;subst h1;simp only[Exit.then]
 refine wp_seq (wp_region ?_);obtain⟨t1,d1⟩:=a1;simp only at h2 h3;subst h3;have hmf:∀(fn:Fn)(first cap:Array Value)(w:World),(Instr.makeFunc fn first cap).run Tryz.prog w = .ok (.func fn first cap) w:=fun _ _ _ _=>rfl
 have h2':t1.size=44:=h2;have h9:9<t1.size:=by omega
 simp[wpOps,go_sem,Exit.then,hmf,h9,Array.getElem?_setIfInBounds,gG]
 repeat' refine Or.inl ?_
 have key:∀d:List Deferred,cm j1 o1.mem w1 (lF o1.br [2,3,4,5]) { tmps:=t1.setIfInBounds 9 (.func (.func 25) #[] #[t1[2]?.getD undef,t1[4]?.getD undef,t1[5]?.getD undef]),defers:=d }:=fun d=>by
  refine⟨fun t=>?_,e1.gl⟩
  rw[yb];split
  ·rename_i hm;have hne:9≠t:=by rintro rfl; simp at hm
   have:=e1.at' t;simp only[dh] at this ⊢;rw[fh hne];exact this
  ·exact .any _
 refine wp_mono (wpIn_wide.1 (H4 (rd:=none) (nd:=0) (by kernel_rfl) Ka ZC alD (by kernel_rfl) ho2 r1 e1.gl (key _) (by simpa[OH] using h2'))) ?_
 rintro ex a2 w2 ⟨g1,g2,g3,j2,r2,e2,x2⟩;have hp:=(e1.at' 2).mono x2;have hq:=(e1.at' 4).mono x2;have hs:=(e1.at' 5).mono x2;simp only[dh] at hp hq hs;have hb0:0<=o2.mem.length:=cS _
 have fin:∀(j3:J)(M3:aH)(w3:World)(y:ag×aH),Rel j3 M3 w3->cm j3 M3 w3 o2.br a2->Ext j [] w j3 M3 w3->(bI (rY o2.br M3 Y0) fun l=>some ((Abs.one l).lY 0 M3,lA 0 M3))=some y ->
   ∃v,(results f14 a2.tmps).run Tryz.prog w3 = .ok v w3/\u9 j [] w y (.returned v) w3:=by
  intro j3 M3 w3 y r3 e3 x3 hy;obtain⟨l,hl,hy⟩:=bg hy;cases hy;obtain⟨us,u1,u2,u3⟩:=BE (P:=Tryz.prog) (rs:=Tryz.f14.results.toList) r3 e3 (by kernel_rfl:Gk Tryz.prog Tryz.f14.results.toList=some Y0) hl
  have hres:(results f14 a2.tmps).run Tryz.prog w3 = .ok (if h:us.toArray.size=1 then us.toArray[0] else .tuple us.toArray) w3:=by
   unfold results;rw[kH,Sem.run_bind,Sem.run_map];refine ik (congrArg (fun r:Result (List Value)=>Result.andThen (r.andThen fun a w' => .ok a.toArray w') _) (ik ?_ u1)) rfl
   rfl
  exact⟨_,hres,.inl ⟨_,rfl,j3,yG (cS _) r3,vX (cS _) rfl x3,DE (cS _) r3 (Lq u2 u3)⟩⟩
 unfold Kz at h;split at h
 ·rename_i hret;rw[hret] at g1;simp only[qq] at g1;subst g1;simp only[bodyPostD,g3];refine leaves_cons (f:=25) (args := #[t1[2]?.getD undef,t1[4]?.getD undef,t1[5]?.getD undef]) (by simp) (by simp[go_sem]) ?_
  refine(IV _ _ _ _).mono ?_;rintro ed u' w'' ⟨rfl,rfl,rfl⟩;simp only[Leaves,settle];exact fin _ _ _ _ r2 e2 (x1.trans x2) h
 ·rename_i e hpan;obtain⟨o3,ho3,h⟩:=bg h;split at h
  rotate_left
  ·cases h
  rename_i hn3;rw[hpan] at g1;simp only[qq] at g1;subst g1;simp only[bodyPostD,g3];refine leaves_cons (f:=25) (args := #[t1[2]?.getD undef,t1[4]?.getD undef,t1[5]?.getD undef]) (by simp) (by simp[go_sem]) ?_
  refine(Mi r2 e2.gl hp hq hs ho3 hn3).mono ?_;rintro ed u' w'' ⟨rfl,rfl,j3,r3,x3⟩;simp only[Leaves,settle];exact fin _ _ _ _ r3 (e2.mono x3) ((x1.trans x2).trans x3) h
 ·cases h
noncomputable def tJ:yz:=nU gj 14 pDo
def Y4:vV Tryz.prog tJ:=wS LO (by kernel_rfl) (fun h=>O7 h)
def af4:oQ Tryz.prog (ar tJ):=ry (by kernel_rfl) Y4
def U4{f:Nat}{a:List ag}{M:aH}{x:ag×aH}(h:ar gj f a M=some x):ar tJ f a M=some x:=wR rfl rfl h
def lD{f:Nat}{vs:List ag}{M:aH}{x:ag×aH}(h:aM (ar gj) f vs M=some x):aM (ar tJ) f vs M=some x:=by
 obtain⟨a,B,y,h1,h2⟩:=qW h;exact h2 _ (U4 h1)
section
attribute [local irreducible] eW fQ lh gK dW kr ar aM cq bI
def p9:AM Nat:=[(1,61),(2,62),(3,63),(4,64),(5,65),(6,66),(7,67),(8,68),(9,69),(10,70),(11,71),(12,72),(13,73),(14,74),(15,75),(16,76),(17,77)]
def fnV(K:Nat):ag := .raw (.func (.func K) ⟨[]⟩ ⟨[]⟩)
def c27:ar gj 27 [] []=some (.iL (AN p9) (pQ fnV p9),[]):=by
 refine aw ?_;simp only[ajJ,E27,wA,jW,Int.reduceBEq,Int.reduceEq,↓reduceIte,an,EW,seval];rfl
end
def qO(K:Nat)(f:aa)(o:jz):aa×LU×Int :=
 if K=61 then wv f o else if K=62 then wy f o else if K=63 then wq f o else if K=64 then p7 f o else if K=65 then pV f o else if K=66 then yZ f o else if K=67 then wM f o else if K=68 then wE f o else if K=69 then sZ f o else if K=70 then zu f o else if K=71 then tE f o else if K=72 then B5 f o else if K=73 then th f o else if K=74 then wQ f o else if K=75 then zh f o else if K=76 then wc f o else if K=77 then ue f o else (f,fJ,0)
def O8{k:Int}{K:Nat}(hk:dA p9 k=some K){f:aa}{o:jz}(hf:sR f)(ho:yy o):oj K f o (qO K f o):=by
 have hm:=uO _ _ _ hk;simp only[p9,bC,Prod.mk.injEq,List.not_mem_nil,or_false] at hm;rcases hm with ⟨_,rfl⟩|⟨_,rfl⟩|⟨_,rfl⟩|⟨_,rfl⟩|⟨_,rfl⟩|⟨_,rfl⟩|⟨_,rfl⟩|⟨_,rfl⟩|⟨_,rfl⟩|⟨_,rfl⟩|⟨_,rfl⟩|⟨_,rfl⟩|⟨_,rfl⟩|⟨_,rfl⟩|⟨_,rfl⟩|⟨_,rfl⟩|⟨_,rfl⟩
 ·exact c61 f o hf ho
 ·exact c62 f o hf ho
 ·exact c63 f o hf ho
 ·exact c64 f o hf ho
 ·exact c65 f o hf ho
 ·exact c66 f o hf ho
 ·exact c67 f o hf ho
 ·exact c68 f o hf ho
 ·exact c69 f o hf ho
 ·exact c70 f o hf ho
 ·exact c71 f o hf ho
 ·exact c72 f o hf ho
 ·exact c73 f o hf ho
 ·exact c74 f o hf ho
 ·exact c75 f o hf ho
 ·exact c76 f o hf ho
 ·exact c77 f o hf ho
def wF(c:Bool)(b:Bool)(M:aH)(k:Option Out):A7 c ((.bool b),M) k=k:=rfl
def zl(c:Bool)(i:IntKind)(n:Int)(M:aH)(k:Option Out):A7 c ((.int i n),M) k=k:=rfl
def zp(c:Bool)(b:Bytes)(M:aH)(k:Option Out):A7 c ((.str b),M) k=k:=rfl
def uR(c:Bool)(t:Tk)(l:List ag)(M:aH)(k:Option Out):A7 c ((.slice t l),M) k=k:=rfl
def zj(c:Bool)(l:List ag)(M:aH)(k:Option Out):A7 c ((.agg l),M) k=k:=rfl
def uS(c:Bool)(l:List ag)(M:aH)(k:Option Out):A7 c ((.tuple l),M) k=k:=rfl
def zn(c:Bool)(i n:Nat)(M:aH)(k:Option Out):A7 c ((.ptr i n),M) k=k:=rfl
def wG(c:Bool)(a b:List ag)(M:aH)(k:Option Out):A7 c ((.iL a b),M) k=k:=rfl
def zo(c:Bool)(v:Value)(M:aH)(k:Option Out):A7 c ((.raw v),M) k=k:=rfl
def zk(c:Bool)  (M:aH)(k:Option Out):A7 c (.any,M) k=k:=rfl
def zm(v:Value)(M:aH)(k:Option Out):A7 true (.mw v,M) k=some ⟨.mw v,[],M⟩:=rfl
def Cl(e:Env)(M:aH)(k:Env->aH->Option Out):uh ⟨.normal,e,M⟩ k=k e M:=rfl
def Cm(v:Value)(e:Env)(M:aH)(k:Env->aH->Option Out):uh ⟨.mw v,e,M⟩ k=some ⟨.mw v,e,M⟩:=rfl
def P3(e:Env)(M:aH)(k:Env->aH->Option Out):uh ⟨.ret,e,M⟩ k=some ⟨.ret,e,M⟩:=rfl
def Qm(live:List Nat)(e:Env)(M:aH):Out.oq live ⟨.ret,e,M⟩=⟨.ret,e,M⟩:=rfl
def T8(ks:List Nat)(br e:Env)(M:aH):Bq ks br ⟨.ret,e,M⟩=⟨.ret,e,M⟩:=rfl
def Cx(live:List Nat)(e:Env)(M:aH):Out.oq live ⟨.normal,e,M⟩=⟨.normal,lF e live,M⟩:=rfl
def Cy(live:List Nat)(v:Value)(e:Env)(M:aH):Out.oq live ⟨.mw v,e,M⟩=⟨.mw v,e,M⟩:=rfl
def CR(ks:List Nat)(br e:Env)(M:aH):Bq ks br ⟨.normal,e,M⟩=⟨.normal,e,M⟩:=rfl
def CS(ks:List Nat)(br:Env)(v:Value)(e:Env)(M:aH):Bq ks br ⟨.mw v,e,M⟩=⟨.mw v,lF br ks,M⟩:=rfl
def Gh:(false==true)=false:=rfl
def Gi:(true==false)=false:=rfl
def Gg:(false==false)=true:=rfl
def Gj:(true==true)=true:=rfl
def gw(e:Int):LU:=⟨e,0,0,0,0,[],[]⟩
def vz(f:aa)(o:jz):aa×LU :=
 match dA p9 o.kind with
 |none=>(f,gw 1)
 |some K=>if 0<=o.cD/\o.cD<16 then (if (qO K f o).2.2=0 then ((qO K f o).1,(qO K f o).2.1) else (f,gw (qO K f o).2.2)) else (f,gw 1)
def rZ:List ag:=[.slice .c0 [],.int .i64 0,.int .i64 0,.int .i64 0,.slice .c0 [],.slice .c0 [],.slice .c0 [],.int .i64 0,.slice .c0 [],.slice .c0 []]
def pJ:List ag:=[.int .i64 0,.int .i64 0,.int .i64 0,.int .i64 0,.int .i64 0,.slice .c0 [],.slice .c0 []]
def xC(f:aa)(o:jz):aH:=[.cells (cG f),.cells (ep o),.cells rZ,.cells pJ]
def tN:Env:=[(2,.ptr 0 0),(3,.ptr 1 0),(4,.ptr 2 0),(5,.ptr 3 0)]
def AK(a:LU)(x y:ag):List ag:=[.int .i64 a.err,.int .i64 a.aq,.int .i64 a.kind,.int .i64 a.n,.int .i64 a.m,x,y]
section
attribute [local irreducible] ar aM cq bI
def afW(f:aa)(o:jz):eP (ar gj) Kt (fq 0 [.agg (cG f),.agg (ep o)]) []=some ⟨.normal,tN,xC f o⟩:=by
 simp only[Kt,cG,ep,xC,tN,rZ,pJ,eP,fK,uh,vE,A7,EV,seval];rfl
def k27:=cP c27
def UM(f:aa)(o:jz)(e:Int):eP (ar gj) xE [(0,bX 0),(1,bX 2),(2,bX 3),(5,bX 4)] (xC f o++[bO [aE e]]) =
  some ⟨.normal,[],bO (cG f) :: bO (ep o) :: bO (cG f) :: bO (AK (gw e) (.slice .c0 []) (.slice .c0 []))::[bO [aE e]]⟩:=by
 simp only[xE,cG,ep,xC,rZ,pJ,AK,gw,eP,fK,uh,vE,A7,EV,seval];rfl
def af0(f:aa)(o:jz)(b:dv)(e:Int):eP (ar gj) xE [(0,bX 0),(1,bX 2),(2,bX 3),(5,bX 5)] (xC f o++[b]++[bO [aE e]]) =
  some ⟨.normal,[],bO (cG f) :: bO (ep o) :: bO (cG f) :: bO (AK (gw e) (.slice .c0 []) (.slice .c0 []))::[b,bO [aE e]]⟩:=by
 simp only[xE,cG,ep,xC,rZ,pJ,AK,gw,eP,fK,uh,vE,A7,EV,seval];rfl
def afY(f:aa)(o:jz)(h:dA p9 o.kind=none):rQ (ar gj) [4,5] vy (lF tN [2,3,4,5]) (xC f o)=some ⟨.mw (.iface 42 (.int .i64 1)),[(4,bX 2),(5,bX 3)],xC f o⟩:=by
 have g:=mM fnV p9 o.kind;rw[h] at g;have q:=fun M=>N9 false 1 rfl M
 simp only[af,az,fM] at q;have q0:=k27;simp only[vy,Eo,Ep,Er,Es,cG,ep,xC,tN,rQ,eP,fK,wF,zl,zp,uR,zj,uS,zn,wG,zo,zk,zm,Cl,Cm,Cx,Cy,CR,CS,Gh,Gi,Gg,Gj,af,aG,az,mapOf.eq_2,o9,q0,g,q,nv,iY,eA,EV,seval]
def afX(f:aa)(o:jz)(K:Nat)(h:dA p9 o.kind=some K)(hc:¬(0<=o.cD/\o.cD<16)):rQ (ar gj) [4,5] vy (lF tN [2,3,4,5]) (xC f o)=some ⟨.mw (.iface 42 (.int .i64 1)),[(4,bX 2),(5,bX 3)],xC f o⟩:=by
 have g:=mM fnV p9 o.kind;rw[h] at g;have q:=fun M=>N9 false 1 rfl M
 simp only[af,az,fM] at q;have q0:=k27
 by_cases h1:0<=o.cD
 ·have h2:(o.cD<16)=False:=oyf;have h1:(0<=o.cD)=True:=by simp only[eH,im]; exact h1
  simp only[vy,Eo,Ep,Er,Es,cG,ep,xC,tN,rQ,eP,fK,wF,zl,zp,uR,zj,uS,zn,wG,zo,zk,zm,Cl,Cm,Cx,Cy,CR,CS,Gh,Gi,Gg,Gj,af,aG,az,mapOf.eq_2,o9,q0,g,q,bn,bW,fnV,h1,h2,EV,seval]
 ·have h1:(0<=o.cD)=False:=by simp only[eH,o5]; exact h1
  simp only[vy,Eo,Ep,Er,Es,cG,ep,xC,tN,rQ,eP,fK,wF,zl,zp,uR,zj,uS,zn,wG,zo,zk,zm,Cl,Cm,Cx,Cy,CR,CS,Gh,Gi,Gg,Gj,af,aG,az,mapOf.eq_2,o9,q0,g,q,bn,bW,fnV,h1,EV,seval]
def afZ(f:aa)(o:jz)(K:Nat)(r:aa×LU×Int)(h:dA p9 o.kind=some K)(hc0:0<=o.cD)(hc1:o.cD<16)(hd:oj K f o r) :
  ∃x y,Row x (r.2.1.names.map ag.str)/\Row y (r.2.1.data.map pE)/\rQ (ar gj) [4,5] vy (lF tN [2,3,4,5]) (xC f o) =
   some (if r.2.2 != 0 then ⟨.mw (.iface 42 (.int .i64 r.2.2)),[(4,bX 2),(5,bX 3)],xC f o++[du r.1 o r.2.1 x y]⟩
    else ⟨.ret,[(4,bX 2),(5,bX 3)],[bO (cG f),bO (ep o),bO (cG r.1),bO (AK r.2.1 x y),du r.1 o r.2.1 x y]⟩):=by
 obtain⟨x,y,hx,hy,ha⟩:=hd;refine⟨x,y,hx,hy,?_⟩;have cx:x.iM=true:=by rcases hx with h|⟨h,_⟩<;>rw[h]<;>rfl
 have cy:y.iM=true:=by rcases hy with h|⟨h,_⟩<;>rw[h]<;>rfl
 have g:=mM fnV p9 o.kind;rw[h] at g;have q:=fun M=>N9 true 1 rfl M
 simp only[aG] at q;have q0:=k27;have h1:(0<=o.cD)=True:=by simp only[eH,im]; exact hc0
 have h2:(o.cD<16)=True:=by simp only[eH,im]; exact hc1
 have q5:aM (ar gj) K [bX 4] (xC f o++[bO (b9 f o)])=some (if r.2.2 != 0 then fM r.2.2 else .tuple [],xC f o++[du r.1 o r.2.1 x y]):=by
  obtain⟨f',a,e⟩:=r;simp only at hx hy ha ⊢;unfold du at ha ⊢;rcases hx with rfl|⟨rfl,_⟩<;>rcases hy with rfl|⟨rfl,_⟩<;>exact pM (vs:=[]) (p:=4) rfl ha rfl rfl (by split<;>rfl) rfl (by split<;>rfl) rfl rfl rfl rfl rfl
 obtain⟨f',a,e⟩:=r;simp only at q5 ⊢;simp only[xC,cG,ep,b9,du,rZ,pJ,aU,aW,fM] at q5 ⊢;cases he:e != 0<;>simp only[he,af,aG,az] at q5 ⊢
 ·simp only[rZ,pJ,P3,Qm,T8,vy,Eo,Ep,Er,Es,cG,ep,xC,tN,rQ,eP,fK,wF,zl,zp,uR,zj,uS,zn,wG,zo,zk,zm,Cl,Cm,Cx,Cy,CR,CS,Gh,Gi,Gg,Gj,af,aG,az,mapOf.eq_2,o9,q0,g,q,bn,bW,fnV,h1,h2,q5,AK,cx,cy,dD,EV,seval]
 ·simp only[rZ,pJ,P3,Qm,T8,vy,Eo,Ep,Er,Es,cG,ep,xC,tN,rQ,eP,fK,wF,zl,zp,uR,zj,uS,zn,wG,zo,zk,zm,Cl,Cm,Cx,Cy,CR,CS,Gh,Gi,Gg,Gj,af,aG,az,mapOf.eq_2,o9,q0,g,q,bn,bW,fnV,h1,h2,q5,EV,seval]
end
def My(f:aa)(o:jz)(e:Int){R:aH}{M3:aH}(h:eP (ar gj) xE [(0,bX 0),(1,bX 2),(2,bX 3),(5,.ptr (xC f o++R).length 0)] (xC f o++R++[bO [aE e]])=some ⟨.normal,[],bO (cG f) :: bO (ep o) :: bO (cG f) :: bO (AK (gw e) (.slice .c0 []) (.slice .c0 []))::M3⟩) :
  Kz ⟨.normal,tN,xC f o⟩ ⟨.mw (.iface 42 (.int .i64 e)),[(4,bX 2),(5,bX 3)],xC f o++R⟩=some (.tuple [.agg (cG f),.agg (dr (gw e))],[]):=by
 show bI (eP (ar gj) xE [(0,bX 0),(1,bX 2),(2,bX 3),(5,.ptr (xC f o++R).length 0)] (xC f o++R++[bO [aE e]])) _=_
 rw[h,bT];rfl
def T7(f:aa)(o:jz):pDo [.agg (cG f),.agg (ep o)] []=bI (rQ (ar gj) [4,5] vy (lF tN [2,3,4,5]) (xC f o)) fun o2=>Kz ⟨.normal,tN,xC f o⟩ o2:=by
 unfold pDo;simp only[];have h2:[ag.agg (cG f),ag.agg (ep o)].length=2:=rfl;rw[bh h2,afW,bT]
def c14(f:aa)(o:jz)(hf:sR f)(ho:yy o):ar tJ 14 [.agg (cG f),.agg (ep o)] []=some (.tuple [.agg (cG (vz f o).1),.agg (dr (vz f o).2)],[]):=by
 have bad:∀e,vz f o=(f,gw e)->∀R M3,rQ (ar gj) [4,5] vy (lF tN [2,3,4,5]) (xC f o)=some ⟨.mw (.iface 42 (.int .i64 e)),[(4,bX 2),(5,bX 3)],xC f o++R⟩ ->
   eP (ar gj) xE [(0,bX 0),(1,bX 2),(2,bX 3),(5,.ptr (xC f o++R).length 0)] (xC f o++R++[bO [aE e]])=some ⟨.normal,[],bO (cG f) :: bO (ep o) :: bO (cG f) :: bO (AK (gw e) (.slice .c0 []) (.slice .c0 []))::M3⟩ ->
   ar tJ 14 [.agg (cG f),.agg (ep o)] []=some (.tuple [.agg (cG (vz f o).1),.agg (dr (vz f o).2)],[]):=by
  intro e he R M3 h1 h2;rw[he];refine eX (g:=pDo) rfl ?_;rw[T7,h1,bT];exact My f o e h2
 cases hk:dA p9 o.kind with
 |none =>
  refine bad 1 (by unfold vz; rw[hk]) [] [bO [aE 1]] ?_ ?_
  ·rw[afY f o hk,cW]
  ·rw[cW]; exact UM f o 1
 |some K =>
  by_cases hc:0<=o.cD/\o.cD<16
  ·obtain⟨x,y,hx,hy,hs⟩:=afZ f o K (qO K f o) hk hc.1 hc.2 (O8 hk hf ho)
   by_cases he:(qO K f o).2.2=0
   ·have hd:vz f o=((qO K f o).1,(qO K f o).2.1):=by unfold vz; rw[hk]; simp only[bh hc,bh he]
    rw[hd];refine eX (g:=pDo) rfl ?_;rw[T7,hs,aQ (by simp[he]),bT]
    generalize qO K f o=r at hx hy ⊢;obtain⟨f',⟨a1,a2,a3,a4,a5,ns,dt⟩,e⟩:=r;simp only at hx hy;rcases hx with rfl|⟨rfl,hn⟩<;>rcases hy with rfl|⟨rfl,hm⟩
    ·rfl
    ·rw[nu] at hm; subst hm; rfl
    ·rw[nu] at hn; subst hn; rfl
    ·rw[nu] at hn hm; subst hn; subst hm; rfl
   ·refine bad (qO K f o).2.2 (by unfold vz; rw[hk]; simp only[bh hc,aQ he]) [du (qO K f o).1 o (qO K f o).2.1 x y] _ ?_ (af0 f o _ _)
    rw[hs,bh (by simpa using he)]
  ·refine bad 1 (by unfold vz; rw[hk]; simp only[aQ hc]) [] [bO [aE 1]] ?_ ?_
   ·rw[afX f o K hk hc,cW]
   ·rw[cW]; exact UM f o 1
def Wd(ae:List Node)(i:Int):Nat:=(aY ae i).data.length
def jD(m:AM Bool):List Int:=m.map Prod.fst
def wP(ae:List Node)(l:List Int):Nat:=(l.map (Wd ae)).sum
structure Seen(ae:List Node)(m:AM Bool):Prop where
 nd:(jD m).Nodup
 tr:∀p,p∈m->p.2=true
 P9:∀k,k∈jD m->(find ae k).isSome=true
inductive Rch(ae:List Node):Int->Int->Prop
 |one {i:Int} {e:fg}:e∈(aY ae i).aL->Rch ae i e.aq
 |step {i x:Int} {e:fg}:e∈(aY ae i).aL->Rch ae e.aq x->Rch ae i x
def Hy:∀(m:AM Bool)(k:Int),k∈jD m->∃v,dA m k=some v
 | [],k,h=>by simp[jD] at h
 |(a,v)::m,k,h=>by
  rw[dA];split
  ·exact⟨v,rfl⟩
  ·rename_i hk;refine Hy m k ?_;simp only[jD,aP,bC] at h ⊢;exact h.resolve_left hk
def Seen.get{ae:List Node}{m:AM Bool}(h:Seen ae m)(k:Int):(dA m k).getD false=true↔k∈jD m:=by
 constructor
 ·intro hg;cases hm:dA m k with
  |none=>rw[hm] at hg; cases hg
  |some v=>exact cE.2 ⟨_,uO _ _ _ hm,rfl⟩
 ·intro hk;obtain⟨v,hv⟩:=Hy m k hk;have:=h.tr _ (uO _ _ _ hv);rw[hv]; exact this
def HA:∀(m:AM Bool)(k:Int)(v:Bool),k∉jD m->lJ m k v=m++[(k,v)]
 | [],k,v,_=>rfl
 |(a,w)::m,k,v,h=>by
  simp only[jD,aP,bC,mL] at h;rw[lJ,aQ h.1,HA m k v h.2]; rfl
def Seen.put{ae:List Node}{m:AM Bool}(h:Seen ae m){k:Int}(hk:k∉jD m)(hf:(find ae k).isSome=true):Seen ae (lJ m k true)/\jD (lJ m k true)=jD m++[k]:=by
 rw[HA m k true hk];have e:jD (m++[(k,true)])=jD m++[k]:=by simp[jD]
 refine⟨⟨?_,fun p hp=>?_,fun x hx=>?_⟩,e⟩
 ·rw[e];refine List.nodup_append.2 ⟨h.nd,by simp,fun a ha b hb=>?_⟩
  rw[bP.1 hb];rintro rfl; exact hk ha
 ·rcases bB.1 hp with hp|hp
  ·exact h.tr p hp
  ·rw[bP.1 hp]
 ·rw[e] at hx;rcases bB.1 hx with hx|hx
  ·exact h.P9 x hx
  ·rw[bP.1 hx]; exact hf
def Zu{t:Tree}{cz:Int->Nat}(h:cF t cz 0)(i:Int):Wd t.ae i<=4096:=by
 unfold Wd aY;cases hi:find t.ae i with
 |none=>simp[Node.zero]
 |some n =>
  rcases h.kind _ _ hi with h1|h1
  ·exact(h.file _ _ hi h1).2.2
  ·simp[h.dir _ _ hi h1]
def LM{t:Tree}{cz:Int->Nat}(h:cF t cz 0):∀l:List Int,wP t.ae l<=4096*l.length
 | []=>by simp[wP]
 |i::l=>by
  have h1:=Zu h i;have h2:=LM h l;simp only[wP,aP,mJ,au] at h2 ⊢;omega
def Seen.len{t:Tree}{cz:Int->Nat}(h:cF t cz 0){m:AM Bool}(hs:Seen t.ae m):(jD m).length<=200:=by
 have:=ze (jD m) (t.ae.map Node.aq) hs.nd (fun x hx=>by
  obtain⟨n,hn⟩:=ct.1 (hs.P9 x hx);exact cE.2 ⟨n,(bR hn).1,(bR hn).2⟩)
 have h2:=h.ae;simp at this; omega
structure Fol(ae:List Node)(r i:Int)(l:List fg)(s s':Int×AM Bool):Prop where
 seen:Seen ae s'.2
 sum:s'.1=(Wd ae r:Int)+wP ae (jD s'.2)
 sub:∀x,x∈jD s.2->x∈jD s'.2
 all:∀e,e∈l->e.aq∈jD s'.2
 new:∀x,x∈jD s'.2->x∈jD s.2\/((∀e,e∈(aY ae x).aL->e.aq∈jD s'.2)/\Rch ae i x)
def GX{t:Tree}{cz:Int->Nat}(h:cF t cz 0)(r:Int):∀(f:Nat)(aq:Int)(s:Int×AM Bool),(∀n,find t.ae aq=some n->n.kind=2->13<f+cz aq)->0<f ->
  Seen t.ae s.2->s.1+Wd t.ae aq=(Wd t.ae r:Int)+wP t.ae (jD s.2)->Fol t.ae r aq (aY t.ae aq).aL s (lC t.ae f aq s):=by
 intro f;induction f with
 |zero=>intro _ _ _ h0; omega
 |succ f ih =>
  intro aq s hd _ hs hq
  have key:∀(l:List fg)(u:Int×AM Bool),(∀e,e∈l->e∈(aY t.ae aq).aL)->Seen t.ae u.2->u.1=(Wd t.ae r:Int)+wP t.ae (jD u.2) ->
    Fol t.ae r aq l u (l.foldl (fun s e=>if !((dA s.2 e.aq).getD false) then lC t.ae f e.aq (s.1,lJ s.2 e.aq true) else s) u):=by
   intro l;induction l with
   |nil=>intro u _ h1 h2; exact⟨h1,h2,fun x hx=>hx,fun e he=>(by cases he),fun x hx => .inl hx⟩
   |cons e l ihl =>
    intro u hl h1 h2;rw[cK];have he:=hl e bj
    by_cases hk:e.aq∈jD u.2
    ·rw[aQ (by rw[(h1.get _).2 hk]; simp)]
     have g:=ihl u (fun x hx=>hl x (aX _ hx)) h1 h2
     refine⟨g.seen,g.sum,g.sub,fun x hx=>?_,g.new⟩
     rcases bC.1 hx with rfl|hx
     ·exact g.sub _ hk
     ·exact g.all x hx
    ·have hb:(dA u.2 e.aq).getD false=false:=by
      cases hc:(dA u.2 e.aq).getD false with
      |false=>rfl
      |true=>exact absurd ((h1.get _).1 hc) hk
     rw[hb,bh (show(!false)=true from rfl)]
     obtain⟨n,hi⟩:∃n,find t.ae aq=some n:=by
      cases hi:find t.ae aq with
      |none=>simp[aY,hi,Node.zero] at he
      |some n=>exact⟨n,rfl⟩
     have he':e∈n.aL:=by simpa[aY,hi] using he
     have hk2:n.kind=2:=by
      rcases h.kind _ _ hi with h3|h3
      ·rw[(h.file _ _ hi h3).1] at he'; cases he'
      ·exact h3
     obtain⟨_,_,e1,_,m,hm,hu⟩:=h.x9 _ _ _ hi he';obtain⟨p1,p2⟩:=h1.put hk (by rw[hm]; rfl)
     have hsum:wP t.ae (jD (lJ u.2 e.aq true))=wP t.ae (jD u.2)+Wd t.ae e.aq:=by rw[p2]; simp[wP]
     have g1:=ih e.aq (u.1,lJ u.2 e.aq true) (fun n' hn' hk'=>by
      rw[hm] at hn'; cases hn';have h3:=(h.n9 _ _ hm hk' e1).1;have h4:=hd n hi hk2;rw[hu hk'] at h3;omega) (by
      have h4:=hd n hi hk2;have h5:=(h.deep _ _ hi hk2).1;omega) p1 (by simp only; rw[hsum,h2]; omega)
     have g2:=ihl _ (fun x hx=>hl x (aX _ hx)) g1.seen g1.sum
     have hin:e.aq∈jD (lJ u.2 e.aq true):=by rw[p2]; simp
     refine⟨g2.seen,g2.sum,fun x hx=>g2.sub _ (g1.sub _ (by simp only; rw[p2]; simp[hx])),fun x hx=>?_,fun x hx=>?_⟩
     ·rcases bC.1 hx with rfl|hx
      ·exact g2.sub _ (g1.sub _ hin)
      ·exact g2.all x hx
     ·rcases g2.new x hx with hx|hx
      ·rcases g1.new x hx with hx|⟨hx,hr⟩
       ·simp only at hx;rw[p2] at hx;rcases bB.1 hx with hx|hx
        ·exact .inl hx
        ·rw[bP.1 hx];exact .inr ⟨fun e' he'=>g2.sub _ (g1.all e' he'),.one he⟩
       ·exact .inr ⟨fun e' he'=>g2.sub _ (hx e' he'),.step he hr⟩
      ·exact .inr hx
  have hw:lK (s.1+(aY t.ae aq).data.length)=s.1+Wd t.ae aq:=by
   have h1:=Zu h r;have h2:=LM h (jD s.2);have h3:=hs.len h;have hW:((aY t.ae aq).data.length:Int)=(Wd t.ae aq:Int):=rfl;rw[hW];exact fW (by omega) (by omega)
  have g:=key (aY t.ae aq).aL (s.1+Wd t.ae aq,s.2) (fun _ h=>h) hs hq
  rw[lC,hw];exact⟨g.seen,g.sum,g.sub,g.all,g.new⟩
def Vf(ae:List Node)(aq x:Int):Prop:=∃d e,d∈ae/\d.kind=2/\hU ae d.aq aq=true/\e∈d.aL/\e.aq=x
def afT{t:Tree}{cz:Int->Nat}(h:cF t cz 0){aq:Int}:∀ {i x:Int},Rch t.ae i x->(∃d,find t.ae i=some d/\(d.kind=2->hU t.ae i aq=true))->Vf t.ae aq x:=by
 intro i x hr;induction hr with
 |one he =>
  rintro⟨d,hd,hb⟩;rename_i i e;have he':e∈d.aL:=by simpa[aY,hd] using he
  have hk:d.kind=2:=by
   rcases h.kind _ _ hd with h3|h3
   ·rw[(h.file _ _ hd h3).1] at he'; cases he'
   ·exact h3
  exact⟨d,e,(bR hd).1,hk,by rw[(bR hd).2]; exact hb hk,he',rfl⟩
 |step he _ ih =>
  rintro⟨d,hd,hb⟩;rename_i i x e _;have he':e∈d.aL:=by simpa[aY,hd] using he
  have hk:d.kind=2:=by
   rcases h.kind _ _ hd with h3|h3
   ·rw[(h.file _ _ hd h3).1] at he'; cases he'
   ·exact h3
  obtain⟨_,_,e1,_,m,hm,hu⟩:=h.x9 _ _ _ hd he';refine ih ⟨m,hm,fun hk'=>?_⟩
  by_cases ho:e.aq=aq
  ·rw[ho]; exact cF.ka aq
  ·rw[h.po hm hk' e1 ho,hu hk'];exact hb hk
def zy{t:Tree}{cz:Int->Nat}(h:cF t cz 0){aq:Int}{d:Node}(hd:find t.ae aq=some d)(hk:d.kind=2) :
  ∃K:List Int,K.Nodup/\(∀x,x∈K↔Vf t.ae aq x)/\(∀x,x∈K->(find t.ae x).isSome=true)/\jm t.ae aq=((K.length:Int),(wP t.ae K:Int)):=by
 have g:=GX h aq 14 aq (0,[]) (fun n hn hk=>by omega) (by omega) ⟨by simp[jD],fun p hp=>(by cases hp),fun k hk=>(by simp[jD] at hk)⟩ (by simp[jD,wP])
 have hu:jm t.ae aq=(((lC t.ae 14 aq (0,[])).2.length:Int),(lC t.ae 14 aq (0,[])).1):=by
  unfold jm;rw[bh (by simp[aY,hd,hk])]
 generalize lC t.ae 14 aq (0,[])=s' at g hu;have w0:Wd t.ae aq=0:=by simp[Wd,aY,hd,h.dir _ _ hd hk]
 have cl:∀x,x∈jD s'.2->∀e,e∈(aY t.ae x).aL->e.aq∈jD s'.2:=fun x hx=>by
  rcases g.new x hx with h1|h1
  ·simp[jD] at h1
  ·exact h1.1
 refine⟨jD s'.2,g.seen.nd,fun x=>⟨fun hx=>?_,fun hx=>?_⟩,g.seen.P9,?_⟩
 ·rcases g.new x hx with h1|h1
  ·simp[jD] at h1
  ·exact afT h h1.2 ⟨d,hd,fun _=>cF.ka aq⟩
 ·obtain⟨p,e,hp,hpk,hb,he,rfl⟩:=hx
  have key:∀(m:Nat)(i:Int)(n:Node),find t.ae i=some n->n.kind=2->cz i=m->hU t.ae i aq=true->∀e,e∈n.aL->e.aq∈jD s'.2:=by
   intro m;induction m with
   |zero =>
    intro i n hi hnk hm hb e he
    by_cases ho:i=aq
    ·subst ho;exact g.all e (by simpa[aY,hi] using he)
    ·by_cases h1:i=1
     ·subst h1;rw[cF.nz (fun hh=>ho hh.symm)] at hb; cases hb
     ·have:=(h.n9 _ _ hi hnk h1).1; omega
   |succ m ihm =>
    intro i n hi hnk hm hb e he
    by_cases ho:i=aq
    ·subst ho;exact g.all e (by simpa[aY,hi] using he)
    ·have h1:i≠1:=fun hh=>by subst hh; have:=h.yL; omega
     rw[h.po hi hnk h1 ho] at hb;obtain⟨a,q,hq,hqk⟩:=h.n9 _ _ hi hnk h1;obtain⟨p,e',p1,p2,p3,p4⟩:=h.named hi hnk h1 (by have:=(h.num _ _ hi).1; omega)
     have:=ihm n.up p p1 p2 (by omega) hb e' p3
     rw[p4] at this;exact cl i this e (by simpa[aY,hi] using he)
  have hpf:find t.ae p.aq=some p:=(eD h.ja.jd).2 ⟨hp,rfl⟩;exact key _ _ p hpf hpk rfl hb e he
 ·rw[hu,g.sum,w0];simp[jD]
def Lm(e:Int)(ae:List Node)(met:List Bool):List Bool:=List.zipWith (fun n b=>b||n.aq==e) ae met
def TA(ae:List Node)(aq:Int)(met:List Bool)(d:Node):List Bool:=if d.kind==2&&hU ae d.aq aq then d.aL.foldl (fun m e=>Lm e.aq ae m) met else met
def rC(ae:List Node)(aq:Int):List Bool:=ae.foldl (TA ae aq) (ae.map fun _=>false)
def Ms(met:List Bool):Nat:=met.countP id
def FR(ae:List Node)(met:List Bool):Nat:=((ae.zip met).map fun p=>if p.2 then p.1.data.length else 0).sum
def Eg(e:Int)(p:Node->Bool):∀l:List Node,Lm e l (l.map p)=l.map fun n=>p n||n.aq==e
 | []=>rfl
 |n::l=>by
  have:=Eg e p l;simp only[Lm,aP,List.zipWith_cons_cons] at this ⊢;rw[this]
def CG(ae:List Node):∀(l:List fg)(p:Node->Bool),l.foldl (fun m e=>Lm e.aq ae m) (ae.map p)=ae.map fun n=>p n||l.any fun e=>n.aq==e.aq
 | [],p=>by simp
 |e::l,p=>by
  rw[cK,Eg,CG ae l];simp only[kY,Bool.or_assoc]
def x6(ae:List Node)(aq:Int):∀(l:List Node)(p:Node->Bool),∃q:Node->Bool,l.foldl (TA ae aq) (ae.map p)=ae.map q /\
  ∀n,q n=true↔p n=true\/∃d e,d∈l/\d.kind=2/\hU ae d.aq aq=true/\e∈d.aL/\e.aq=n.aq
 | [],p=>⟨p,rfl,fun n=>by simp⟩
 |d::l,p=>by
  rw[cK,TA]
  by_cases hd:(d.kind==2&&hU ae d.aq aq)=true
  ·rw[bh hd,CG];obtain⟨q,h1,h2⟩:=x6 ae aq l fun n=>p n||d.aL.any fun e=>n.aq==e.aq
   refine⟨q,h1,fun n=>?_⟩
   rw[h2];rw[bm,eG] at hd;simp only[dj,fZ,eG,bC];constructor
   ·rintro((h|⟨e,h3,h4⟩)|⟨d',e,h3,h4⟩)
    ·exact .inl h
    ·exact .inr ⟨d,e,.inl rfl,hd.1,hd.2,h3,h4.symm⟩
    ·exact .inr ⟨d',e,.inr h3,h4⟩
   ·rintro(h|⟨d',e,rfl|h3,h4,h5,h6,h7⟩)
    ·exact .inl (.inl h)
    ·exact .inl (.inr ⟨e,h6,h7.symm⟩)
    ·exact .inr ⟨d',e,h3,h4,h5,h6,h7⟩
  ·rw[aQ hd];obtain⟨q,h1,h2⟩:=x6 ae aq l p;refine⟨q,h1,fun n=>?_⟩
   rw[h2];rw[bm,eG] at hd;simp only[bC];constructor
   ·rintro(h|⟨d',e,h3,h4⟩)
    ·exact .inl h
    ·exact .inr ⟨d',e,.inr h3,h4⟩
   ·rintro(h|⟨d',e,rfl|h3,h4,h5,h6⟩)
    ·exact .inl h
    ·exact absurd ⟨h4,h5⟩ hd
    ·exact .inr ⟨d',e,h3,h4,h5,h6⟩
def wa(ae:List Node)(aq:Int):∃q:Node->Bool,rC ae aq=ae.map q/\∀n,q n=true↔Vf ae aq n.aq:=by
 obtain⟨q,h1,h2⟩:=x6 ae aq ae fun _=>false
 exact⟨q,h1,fun n=>by rw[h2]; simp[Vf]⟩
def B3(q:Node->Bool):∀l:List Node,Ms (l.map q)=(l.filter q).length
 | []=>rfl
 |n::l=>by
  have:=B3 q l;simp only[Ms,aP,kK,eu,id] at this ⊢;split<;>simp[this]
def FM(q:Node->Bool):∀l:List Node,FR l (l.map q)=((l.filter q).map fun n=>n.data.length).sum
 | []=>rfl
 |n::l=>by
  have:=FM q l;simp only[FR,aP,List.zip_cons_cons,mJ,eu] at this ⊢;rw[this];split<;>simp
def Fa{t:Tree}{cz:Int->Nat}(h:cF t cz 0){aq:Int}{d:Node}(hd:find t.ae aq=some d)(hk:d.kind=2) :
  jm t.ae aq=((Ms (rC t.ae aq):Int),(FR t.ae (rC t.ae aq):Int)):=by
 obtain⟨K,k1,k2,k3,k4⟩:=zy h hd hk;obtain⟨q,q1,q2⟩:=wa t.ae aq;have hasc:=h.ja.jd
 have hp:K.Perm ((t.ae.filter q).map Node.aq):=by
  refine(List.perm_ext_iff_of_nodup k1 ?_).2 fun x=>?_
  ·have:((t.ae.filter q).map Node.aq).Pairwise (· < ·):=iy.2 (jv _ hasc)
   exact this.imp fun h=>by omega
  ·rw[k2];constructor
   ·intro hx;obtain⟨n,hn⟩:=ct.1 (k3 x ((k2 x).2 hx));refine cE.2 ⟨n,cr.2 ⟨(bR hn).1,(q2 n).2 ?_⟩,(bR hn).2⟩;rw[(bR hn).2]; exact hx
   ·intro hx;obtain⟨n,hn,rfl⟩:=cE.1 hx;exact(q2 n).1 (cr.1 hn).2
 rw[k4,q1,B3,FM];have h1:K.length=(t.ae.filter q).length:=by rw[hp.length_eq,fT]
 have h2:wP t.ae K=((t.ae.filter q).map fun n=>n.data.length).sum:=by
  unfold wP;rw[(hp.map (Wd t.ae)).sum_nat,jj];congr 1;refine dx fun n hn=>?_
  have:find t.ae n.aq=some n:=(eD hasc).2 ⟨(cr.1 hn).1,rfl⟩;simp[Wd,aY,this]
 rw[h1,h2]
end Go.Proofs.YtahkjijkflobhaaGreatDoor
