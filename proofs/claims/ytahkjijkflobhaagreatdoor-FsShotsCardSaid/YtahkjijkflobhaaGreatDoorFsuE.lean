import Derived.Test.YtahkjijkflobhaaGreatDoorProg
import Derived.WalkKit
import Derived.LaidEql
import Derived.Stop.Asserts
import Derived.RowKitTokens
import Derived.KernelRfl
import Derived.Defers
import Derived.Recover
import Derived.Test.YtahkjijkflobhaaGreatDoorFsuD
set_option linter.unusedSimpArgs false
set_option linter.unusedVariables false
set_option linter.unusedSectionVars false
set_option linter.defProp false
open Go.Proofs.Tryz
namespace Go.Proofs.YtahkjijkflobhaaGreatDoor
section
open Go Go.Abs
structure eB where
 cH:Int
 handle:Int
 an:Int
 deriving DecidableEq,Inhabited
structure cF where
 an:Int
 ae:Int
 bytes:Int
 deriving DecidableEq,Inhabited
structure pj where
 jw:Int
 pT:Int
 node:Node
 deriving DecidableEq,Inhabited
structure jm where
 id:Int
 an:Int
 at':Int
 deriving DecidableEq,Inhabited
structure gh where
 now:Tree
 tick:Int
 since:List Int
 dz:List pj
 cf:List jm
 next:Int
 deriving DecidableEq,Inhabited
structure aa where
 s:gh
 holds:List eB
 cq:List cF
 deriving DecidableEq,Inhabited
structure jk where
 kind:Int
 cH:Int
 da:Bytes
 tZ:Bytes
 n:Int
 m:Int
 handle:Int
 data:Bytes
 deriving DecidableEq,Inhabited
structure Eu where
 err:Int
 an:Int
 kind:Int
 n:Int
 m:Int
 names:List Bytes
 data:Bytes
 deriving DecidableEq,Inhabited
structure JZ where
 cH:Int
 seq:Int
 ans:Eu
 deriving DecidableEq,Inhabited
def iA(h:eB):List ag:=[.int .i64 h.cH,.int .i64 h.handle,.int .i64 h.an]
def gx(h:eB):ag := .agg (iA h)
abbrev fO(l:List eB):ag := .slice .sh (l.map gx)
def il(q:cF):List ag:=[.int .i64 q.an,.int .i64 q.ae,.int .i64 q.bytes]
def dU(q:cF):ag := .agg (il q)
abbrev cY(l:List cF):ag := .slice .sh (l.map dU)
def mL(p:pj):List ag := .int .i64 p.jw :: .int .i64 p.pT::aI p.node
def kI(p:pj):ag := .agg (mL p)
abbrev vO(l:List pj):ag := .slice .sh (l.map kI)
def gS(s:jm):List ag:=[.int .i64 s.id,.int .i64 s.an,.int .i64 s.at']
def j6(s:jm):ag := .agg (gS s)
abbrev kO(l:List jm):ag := .slice .sh (l.map j6)
abbrev wU(l:List Int):ag := .slice .sh (l.map mb)
abbrev dh(l:List Bytes):ag := .slice .sh (l.map ag.str)
def bo(s:gh):List ag:=[aY s.now.ae,.int .i64 s.now.next,.int .i64 s.now.aj,.int .i64 s.tick,wU s.since,vO s.dz,kO s.cf,.int .i64 s.next]
def pQ(s:gh):ag := .agg (bo s)
def ck(f:aa):List ag:=[aY f.s.now.ae,.int .i64 f.s.now.next,.int .i64 f.s.now.aj,.int .i64 f.s.tick,wU f.s.since,vO f.s.dz,kO f.s.cf,.int .i64 f.s.next,fO f.holds,cY f.cq]
def eA(o:jk):List ag:=[.int .i64 o.kind,.int .i64 o.cH,.str o.da,.str o.tZ,.int .i64 o.n,.int .i64 o.m,.int .i64 o.handle,cR o.data]
def eOp(o:jk):ag := .agg (eA o)
def cQ(a:Eu):List ag:=[.int .i64 a.err,.int .i64 a.an,.int .i64 a.kind,.int .i64 a.n,.int .i64 a.m,dh a.names,cR a.data]
def yI(s:JZ):List ag := .int .i64 s.cH :: .int .i64 s.seq::cQ s.ans
def Qq(s:JZ):ag := .agg (yI s)
def HB(n:eB):(gx n).cells=iA n:=rfl
def Gi(n:cF):(dU n).cells=il n:=rfl
def HD(n:pj):(kI n).cells=mL n:=rfl
def HF(n:jm):(j6 n).cells=gS n:=rfl
def HE(n:JZ):(Qq n).cells=yI n:=rfl
def KW(n:eB):(iA n).length=3:=rfl
def Iz(n:cF):(il n).length=3:=rfl
def KY(n:pj):(mL n).length=8:=rfl
def K0(n:jm):(gS n).length=3:=rfl
def KZ(n:JZ):(yI n).length=9:=rfl
def td{α:Type}(f:α->ag)(k:Nat)(h:∀a,(f a).cells.length=k)(l:List α):wid (l.map f) k=True:=by
 simp only[fq,jc];intro x hx;obtain⟨n,_,rfl⟩:=dj.1 hx;exact h n
def Po(l:List eB):wid (l.map gx) 3=True:=td gx _ (fun _=>rfl) l
def Lx(l:List cF):wid (l.map dU) 3=True:=td dU _ (fun _=>rfl) l
def Pp(l:List pj):wid (l.map kI) 8=True:=td kI _ (fun _=>rfl) l
def Pr(l:List jm):wid (l.map j6) 3=True:=td j6 _ (fun _=>rfl) l
def Pq(l:List JZ):wid (l.map Qq) 9=True:=td Qq _ (fun _=>rfl) l
def Wa(l:List Bytes):wid (l.map ag.str) 1=True:=td ag.str _ (fun _=>rfl) l
def tkH(n:eB):List.take 3 (iA n)=iA n:=rfl
def shH(n:eB):List.map ag.shut (iA n)=iA n:=rfl
def tkQ(n:cF):List.take 3 (il n)=il n:=rfl
def shQ(n:cF):List.map ag.shut (il n)=il n:=rfl
def tkP(n:pj):List.take 8 (mL n)=mL n:=rfl
def shP(n:pj):List.map ag.shut (mL n)=mL n:=rfl
def tkS(n:jm):List.take 3 (gS n)=gS n:=rfl
def shS(n:jm):List.map ag.shut (gS n)=gS n:=rfl
def tkU(n:JZ):List.take 9 (yI n)=yI n:=rfl
def shU(n:JZ):List.map ag.shut (yI n)=yI n:=rfl
def ajF:((2:Nat):Int)=2:=rfl
def agP:Int.toNat 0=0:=rfl
def agQ:Int.toNat 1=1:=rfl
def aqm(a b c d:Int):ko [FK.i,FK.i] [aF a,aF b] [aF c,aF d]=some (a==c&&b==d):=by
 simp[ko,mc]
def Xg(a b c a' b' c':Int):ko [FK.i,FK.i,FK.i] [aF a,aF b,aF c] [aF a',aF b',aF c']=some (a==a'&&(b==b'&&c==c')):=by
 simp[ko,mc]
set_option linter.defProp false in
def EVF:=bO @aqm (bO @Xg (bO @fy.{0} (bO @eO.{0} (bO @ajF (bO @agP (bO @agQ (bO @jY (bO @fN (bO @HB (bO @Gi (bO @HD (bO @HF (bO @HE (bO @KW (bO @Iz (bO @KY (bO @K0 (bO @KZ (bO @Po (bO @Lx (bO @Pp (bO @Pr (bO @Pq (bO @Wa (bO @tkH (bO @shH (bO @tkQ (bO @shQ (bO @tkP (bO @shP (bO @tkS (bO @shS (bO @tkU (bO @shU (bO @tkN (bO @shN (bO @tkE (@shE))))))))))))))))))))))))))))))))))))))
set_option linter.defProp false in
def EW:=And.intro EVF EN
section
attribute [local irreducible] eV fZ je gK eo kr ar aU cA bH
def c87(h:eB):ar bN 87 [.agg (iA h)] []=some (.agg [aF h.cH,aF h.handle],[]):=by
 refine az ?_;simp only[aky,E87,gx,iA,EW,seval]
def k87 h:=cP (c87 h)
def ep(n:Node):Bool:=n.kind==1&&n.cL==0
def aoV(n:Node):ar bN 163 [.agg (aI n)] []=some (.bool (ep n),[]):=by
 refine az ?_;simp only[aa7,ahk,bG,aI,EW,seval]
 repeat' ((first|apply bp|apply bR|apply dE)<;>intro hb<;>simp only[hb,EW,ahk,seval])
 all_goals (simp_all only[ep,pE,↓reduceIte,reduceCtorEq,ak]; done)
def ad3 n:=cP (aoV n)
def zO(c h:Int):Bool:=decide (0<=c)&&decide (c<16)&&decide (0<=h)&&decide (h<100)
def c88(c h:Int):ar bN 88 [.agg [aF c,aF h]] []=some (.bool (zO c h),[]):=by
 refine az ?_;simp only[akz,E88,EW,seval]
 repeat' ((first|apply bp|apply bR|apply dE)<;>intro hb<;>simp only[hb,EW,E88,seval])
 all_goals (simp_all only[zO,pE,↓reduceIte,reduceCtorEq,ak]; done)
def k88 c h:=cP (c88 c h)
def orI(a b:Int):Int:=if a != 0 then a else b
def asq(a b:Int)(ha:(a != 0)=false):orI a b=b:=by simp[orI,ha]
def aoP(a b:Int):ar bN 153 [hZ [aF a,aF b]] []=some (aF (orI a b),[]):=by
 refine az ?_;simp only[QR,Hc,EW,seval];rw[bt];simp only[QR,Hc,EW,seval];refine bp (fun hb=>?_) (fun hb=>?_)
 ·simp only[Hc,hb,orI,EW,seval]
 ·have w1:IntKind.i64.wrap 1=1:=gn (by decide) (by decide)
  have w2:IntKind.i64.wrap 2=2:=gn (by decide) (by decide)
  simp only[Hc,hb,asq a b hb,w1,EW,seval];rw[bt];simp only[Hc,EW,seval];refine bp (fun hc=>?_) (fun hc=>?_)
  ·simp only[Hc,hc,EW,seval]
  ·simp only[Hc,hc,w2,EW,seval];rw[bt];simp only[Hc,EW,seval];have:b=0:=by simpa using hc
   rw[this]
def ara a b:=cP (aoP a b)
def gF(x:eB)(c h:Int):Int:=orI (pB x.cH c) (pB x.handle h)
def c89(c h a b:Int)(x:eB):ar bN 89 [.agg [aF c,aF h],.agg (iA x),.agg [aF a,aF b]] []=some (aF (gF x c h),[]):=by
 refine az ?_;simp only[akA,E89,gx,k87,XD,ara,gF,EW,seval]
def k89 c h a b x:=cP (c89 c h a b x)
def lP(c h:Int)(x:eB):Bool:=x.cH==c&&x.handle==h
def apH(c h:Int)(x:eB):ar bN 222 [.agg [aF c,aF h],.agg (iA x)] []=some (.bool (lP c h x),[]):=by
 refine az ?_;simp only[abF,anw,gx,k87,lP,EW,seval]
def aro c h x:=cP (apH c h x)
end
section
def sP{α:Type}(p:α->Bool):List α->Nat->Int
 | [],_ => -1
 |x::r,i=>if p x then (i:Int) else sP p r (i+1)
theorem E9{α:Type}(p:α->Bool):∀(l:List α)(i:Nat),decide (0<=sP p l i)=l.any p
 | [],_=>rfl
 |x::r,i=>by
  rw[sP,lr]
  by_cases h:p x=true
  ·grind
  ·simp[h];exact E9 p r _
def Di{α:Type}(p:α->Bool)(l:List α):decide (0<=sP p l 0)=l.any p:=E9 p l 0
theorem xM{α:Type}(p:α->Bool):∀(l:List α)(i:Nat),(sP p l i = -1/\l.find? p=none)\/∃(m:Nat) (x:α),sP p l i=((i+m:Nat):Int)/\l[m]?=some x/\l.find? p=some x/\l.eraseIdx m=l.eraseP p
 | [],i => .inl ⟨rfl,rfl⟩
 |x::r,i=>by
  rw[sP]
  by_cases h:p x=true
  ·grind
  ·rcases xM p r (i+1) with ⟨h1,h2⟩|⟨m,y,h1,h2,h3,h4⟩
   ·exact .inl ⟨by simp[h,h1],by simp[h,h2]⟩
   ·grind
structure PS{α:Type}(lt:α->Bool)(l:List α)(b:Nat):Prop where
 le:b<=l.length
 lt:∀h n,l[h]?=some n->(lt n=true↔h<b)
def kV{α:Type}(lt:α->Bool)(l:List α):Nat:=(l.takeWhile lt).length
theorem GI{α:Type}{lt:α->Bool}:∀ {l:List α},l.Pairwise (fun a b=>lt b=true->lt a=true)->PS lt l (kV lt l)
 | [],_=>⟨aC _,fun h n hn=>by simp_all⟩
 |a::r,h=>by
  obtain⟨h1,h2⟩:=cv.1 h;obtain⟨i1,i2⟩:=GI h2;unfold kV at i1 i2 ⊢
  by_cases ha:lt a=true
  ·rw[hV,bc ha];refine⟨by grind,fun k n hn=>?_⟩
   grind
  ·rw[hV,aH ha];refine⟨by simp,fun k n hn=>?_⟩
   grind
def qy{α:Type}(eq:α->Bool)(l:List α)(b:Nat):Bool:=match l[b]? with
 |some n=>eq n
 |none=>false
def xE{C:eK}{f p:Nat}{vs:List ag}{r:ag}{M:aG}{cs:List ag}(hM:nth M p=some (.cells cs))(h:C f (vs++[b9 0]) [.cells cs]=some (r,[.cells cs]))(h1:vs.all ag.flat=true)(h2:vs.flatMap ag.ids=[])(h3:r.we=true)
  (h4:vs.map (ag.pL (iy [p]))=vs) (h5:r.Bg (wD [p])=r) (h6:cs.all ag.vf=true) (h7:cs.flatMap ag.mM=[]) (h8:cs.map (ag.r8 (iy [p]))=cs) (h10:cs.map (ag.r8 (wD [p]))=cs) :
  aU C f (vs++[b9 p]) M=some (r,M):=by
 have hids:(vs++[ag.ptr p 0]).flatMap ag.ids=[p]:=by simp[ag.ids,ag.mM,ag.ig,h2]
 have hi:pX M [p]=[]:=by simp_all [pX,dy.ids]
 have e0:kD M [p]=[p]:=by simp[kD,hi,j8]
 have e1:reach M [p]=[p]:=by
  have ea:j8 [] [p]=[p]:=rfl;simp only[reach,ea,e0]
 have hfl:(vs++[ag.ptr p 0]).all ag.flat=true:=by rw[List.all_append,h1]; rfl
 simp_all [aU,jE,iy,dy.flat,dy.pL,bV,ag.pL,bu,ag.r8,ag.sZ,kY,uC]
def Vi(z:Int):jE [bT [aF z]] (iy [0]) [0]=some [bT [aF z]]:=rfl
def Lh(u v:Int):jE [bT [aF u],bT [aF v]] (iy [0,1]) [0,1]=some [bT [aF u],bT [aF v]]:=rfl
attribute [local irreducible] eV fZ je gK eo kr ar aU cA bH
def aoW(x:eB)(z:Int):ar bN 165 [gx x,b9 0] [bT [aF z]]=some (.bool (x.an==z),[bT [aF z]]):=by
 refine az ?_;simp[aa8,ani,gx,iA,EW]
def aps(x:eB)(z:Int):ar bN 199 [gx x,b9 0] [bT [aF z]]=some (.bool (x.an==z),[bT [aF z]]):=by
 refine az ?_;simp[abu,anp,gx,iA,EW]
def apT(q:cF)(an:Int):ar bN 245 [dU q,aF an] []=some (aF (pB q.an an),[]):=by
 refine az ?_;simp[abR,anF,dU,il,XD,EW]
def als(n:cF)(an:Int)(M:aG):aU (ar bN) 245 [.agg (il n),aF an] M=some (aF (pB n.an an),M):=cO (apT n _) M
def aoT(n:Node)(an:Int):ar bN 161 [bG n,aF an] []=some (aF (pB n.an an),[]):=by
 refine az ?_;simp[aa5,anh,bG,aI,XD,EW]
def ak6(n:Node)(an:Int)(M:aG):aU (ar bN) 161 [.agg (aI n),aF an] M=some (aF (pB n.an an),M):=cO (aoT n _) M
def tW(jw pT:Int)(x:jm):Bool:=decide (jw<=x.at')&&decide (x.at'<pT)
def apP(x:jm)(a b:Int):ar bN 238 [j6 x,b9 0,b9 1] [bT [aF a],bT [aF b]]=some (.bool (tW a b x),[bT [aF a],bT [aF b]]):=by
 refine az ?_;simp only[abN,anB,j6,gS,EW,seval]
 repeat' ((first|refine bp _ _|refine bR (fun hb=>?_) (fun hb=>?_)|refine dE _ _)<;>simp only[hb,EW,seval])
 all_goals (simp_all only[tW,pE]; done)
def Uy{xs:List eB}{c g:Int}(hn:xs.length<=100000){k:List K}{R:Int->Option (ag×aG)}
  (hx:∀e,kr (ar bN) [.tmp 4] 0 k ⟨.exit 0,e,[]⟩=R (-1)) (hr:∀(i:Nat),kr (ar bN) [.tmp 4] 0 k ⟨.ret,[(4,aF i)],[]⟩=R i) :
  ∀(l pre:List eB),xs=pre++l->eV (ar bN) [.tmp 4] 0 k (.loop [0,1,7,8] GG) [(0,hZ (xs.map gx)),(1,.pR 222 [.agg [aF c,aF g]]),(7,aF xs.length),(8,aF pre.length)] []=R (sP (lP c g) l pre.length):=by
 intro l;induction l with
 |nil =>
  intro pre h;rw[bt];simp only[wv,gU h,EW,seval];exact hx _
 |cons n rest ih =>
  intro pre h;rw[bt];have dQ:pre.length+1<=100000:=by rw[h] at hn; simp at hn; omega
  have hw:IntKind.i64.wrap ((pre.length:Int)+1)=((pre++[n]).length:Int):=by rw[gn (by omega) (by omega)]; simp
  have hi:=ih (pre++[n]) (by rw[h]; simp)
  simp only[aD,au,av] at hi;have hk  := fun x=>aro c g x []
  rw[sP];simp only[wv,gd h,fc h,hk,EW,seval];refine bp (fun hb=>?_) (fun hb=>?_)
  ·simp only[wv,hb,EW,seval];simp_all
  ·simp only[wv,hb,hw,af,EW,seval];exact hi
def ajz(xs:List eB)(c g:Int)(hn:xs.length<=100000):ar bN 221 [hZ (xs.map gx),.pR 222 [.agg [aF c,aF g]]] []=some (aF (sP (lP c g) xs 0),[]):=by
 refine az ?_;simp only[Mb,wv,EW,seval];exact Uy (R:=fun i=>some (aF i,[])) hn (fun e=>by simp[wv,EW]) (fun i=>by simp[EW]) xs [] rfl
def acd(xs:List eB)(c g:Int)(hn:xs.length<=100000)(M:aG):aU (ar bN) 221 [hZ (xs.map gx),.pR 222 [.agg [aF c,aF g]]] M=some (aF (sP (lP c g) xs 0),M):=cO (ajz _ c g hn) M
theorem Uw{xs:List eB}{z:Int}(hn:xs.length<=100000){k:List K}{R:Int->Option (ag×aG)}
  (hx:∀e,kr (ar bN) [.tmp 4] 1 k ⟨.exit 0,e,[bT [aF z]]⟩=R (-1)) (hr:∀(i:Nat),kr (ar bN) [.tmp 4] 1 k ⟨.ret,[(4,aF i)],[bT [aF z]]⟩=R i) :
  ∀(l pre:List eB),xs=pre++l->eV (ar bN) [.tmp 4] 1 k (.loop [0,1,7,8] GG) [(0,hZ (xs.map gx)),(1,.func 165 [b9 0]),(7,aF xs.length),(8,aF pre.length)] [bT [aF z]]=R (sP (fun x:eB=>x.an==z) l pre.length):=by
 intro l;induction l with
 |nil =>
  intro pre h;rw[bt];simp only[wv,gU h,EW,seval];exact hx _
 |cons n rest ih =>
  intro pre h;rw[bt];have dQ:pre.length+1<=100000:=by rw[h] at hn; grind
  have hw:IntKind.i64.wrap ((pre.length:Int)+1)=((pre++[n]).length:Int):=by rw[gn (by omega) (by omega)]; simp
  have hi:=ih (pre++[n]) (by rw[h]; simp)
  simp only[aD,au,av] at hi;have hk:∀x:eB,aU (ar bN) 165 [.agg (iA x),b9 0] [bT [aF z]]=some _:=fun x=>xE (f:=165) (p:=0) (vs:=[.agg (iA x)]) (M:=[bT [aF z]]) rfl (aoW x z) rfl rfl rfl rfl rfl rfl rfl rfl rfl
  rw[sP];simp only[wv,gd h,fc h,hk,EW,seval];refine bp (fun hb=>?_) (fun hb=>?_)
  ·simp only[wv,hb,EW,seval];exact hr _
  ·simp only[wv,hb,hw,af,EW,seval];exact hi
def ajx(xs:List eB)(z:Int)(hn:xs.length<=100000):ar bN 221 [hZ (xs.map gx),.func 165 [b9 0]] [bT [aF z]]=some (aF (sP (fun x:eB=>x.an==z) xs 0),[bT [aF z]]):=by
 refine az ?_;simp only[Mb,wv,EW,seval];exact Uw (R:=fun i=>some (aF i,[bT [aF z]])) hn (fun e=>by simp only[wv,EW,seval]) (fun i=>by simp[EW]) xs [] rfl
def ajp(xs:List eB)(z:Int)(hn:xs.length<=100000):ar bN 164 [hZ (xs.map gx),.func 165 [b9 0]] [bT [aF z]]=some (.bool (xs.any (fun x:eB=>x.an==z)),[bT [aF z]]):=by
 refine az ?_;have hk:aU (ar bN) 221 [hZ (xs.map gx),.func 165 [b9 0]] _=some (aF _,[bT [aF z]]):=kB (ids:=[0]) rfl rfl (Vi z) rfl rfl (ajx xs z hn) rfl rfl rfl rfl rfl;simp only[QT,ahl,hk,Di,EW,seval]
def Ux{xs:List eB}{z:Int}(hn:xs.length<=100000){k:List K}{R:Int->Option (ag×aG)}
  (hx:∀e,kr (ar bN) [.tmp 4] 1 k ⟨.exit 0,e,[bT [aF z]]⟩=R (-1)) (hr:∀(i:Nat),kr (ar bN) [.tmp 4] 1 k ⟨.ret,[(4,aF i)],[bT [aF z]]⟩=R i) :
  ∀(l pre:List eB),xs=pre++l->eV (ar bN) [.tmp 4] 1 k (.loop [0,1,7,8] GG) [(0,hZ (xs.map gx)),(1,.func 199 [b9 0]),(7,aF xs.length),(8,aF pre.length)] [bT [aF z]]=R (sP (fun x:eB=>x.an==z) l pre.length):=by
 intro l;induction l with
 |nil =>
  intro pre h;rw[bt];simp only[wv,gU h,EW,seval];exact hx _
 |cons n rest ih =>
  intro pre h;rw[bt];have dQ:pre.length+1<=100000:=by rw[h] at hn; simp at hn; omega
  have hw:=vY pre n;have hi:=ih (pre++[n]) (by rw[h]; simp)
  simp only[aD,au,av] at hi;have hk:∀x:eB,aU (ar bN) 199 [.agg (iA x),b9 0] [bT [aF z]]=some _:=fun x=>xE (f:=199) (p:=0) (vs:=[.agg (iA x)]) (M:=[bT [aF z]]) rfl (aps x z) rfl rfl rfl rfl rfl rfl rfl rfl rfl
  rw[sP];simp only[wv,gd h,fc h,hk,EW,seval];refine bp (fun hb=>?_) (fun hb=>?_)
  ·simp only[wv,hb,EW,seval];exact hr _
  ·simp only[wv,hb,hw,af,EW,seval];exact hi
def ajy(xs:List eB)(z:Int)(hn:xs.length<=100000):ar bN 221 [hZ (xs.map gx),.func 199 [b9 0]] [bT [aF z]]=some (aF (sP (fun x:eB=>x.an==z) xs 0),[bT [aF z]]):=by
 refine az ?_;simp[Mb,wv,EW];exact Ux (R:=fun i=>some (aF i,[dy.cells _])) hn (fun e=>by simp[wv,EW]) (fun i=>by simp[EW]) xs [] rfl
def ajq(xs:List eB)(z:Int)(hn:xs.length<=100000):ar bN 164 [hZ (xs.map gx),.func 199 [b9 0]] [bT [aF z]]=some (.bool (xs.any (fun x:eB=>x.an==z)),[bT [aF z]]):=by
 refine az ?_;have hk:aU (ar bN) 221 [hZ (xs.map gx),.func 199 [b9 0]] _=some (aF _,[bT [aF z]]):=kB (ids:=[0]) rfl rfl (Vi z) rfl rfl (ajy xs z hn) rfl rfl rfl rfl rfl;simp only[QT,ahl,hk,Di,EW,seval]
def UE{xs:List jm}{u v:Int}(hn:xs.length<=100000){k:List K}{R:Int->Option (ag×aG)}
  (hx:∀e,kr (ar bN) [.tmp 4] 2 k ⟨.exit 0,e,[bT [aF u],bT [aF v]]⟩=R (-1)) (hr:∀(i:Nat),kr (ar bN) [.tmp 4] 2 k ⟨.ret,[(4,aF i)],[bT [aF u],bT [aF v]]⟩=R i) :
  ∀(l pre:List jm),xs=pre++l->eV (ar bN) [.tmp 4] 2 k (.loop [0,1,7,8] Yz) [(0,hZ (xs.map j6)),(1,.func 238 [b9 0,b9 1]),(7,aF xs.length),(8,aF pre.length)] [bT [aF u],bT [aF v]]=R (sP (tW u v) l pre.length):=by
 intro l;induction l with
 |nil =>
  intro pre h;rw[bt];simp only[Nn,gU h,EW,seval];exact hx _
 |cons n rest ih =>
  intro pre h;rw[bt];have dQ:pre.length+1<=100000:=by rw[h] at hn; simp at hn; omega
  have hw:=vY pre n;have hi:=ih (pre++[n]) (by rw[h]; simp)
  simp only[aD,au,av] at hi;have hk:∀x:jm,aU (ar bN) 238 [.agg (gS x),b9 0,b9 1] [bT [aF u],bT [aF v]]=some (.bool ((tW u v) x),[bT [aF u],bT [aF v]]):=fun x=>kB (ids:=[0,1]) rfl rfl (Lh u v) rfl rfl (apP x u v) rfl rfl rfl rfl rfl
  rw[sP];simp only[Nn,gd h,fc h,hk,EW,seval];refine bp (fun hb=>?_) (fun hb=>?_)
  ·simp only[Nn,hb,EW,seval];exact hr _
  ·simp only[Nn,hb,hw,af,EW,seval];exact hi
def ajC(xs:List jm)(u v:Int)(hn:xs.length<=100000):ar bN 275 [hZ (xs.map j6),.func 238 [b9 0,b9 1]] [bT [aF u],bT [aF v]]=some (aF (sP (tW u v) xs 0),[bT [aF u],bT [aF v]]):=by
 refine az ?_;simp only[ab3,Nn,EW,seval];exact UE (R:=fun i=>some (aF i,[dy.cells _,dy.cells _])) hn (fun e=>by simp only[Nn,EW,seval]) (fun i=>by simp only[EW,seval]) xs [] rfl
def ajA(xs:List jm)(u v:Int)(hn:xs.length<=100000):ar bN 237 [hZ (xs.map j6),.func 238 [b9 0,b9 1]] [bT [aF u],bT [aF v]]=some (.bool (xs.any (tW u v)),[bT [aF u],bT [aF v]]):=by
 refine az ?_;have hk:aU (ar bN) 275 [hZ (xs.map j6),.func 238 [b9 0,b9 1]] _=some (aF _,[bT [aF u],bT [aF v]]):=kB (ids:=[0,1]) rfl rfl (Lh u v) rfl rfl (ajC xs u v hn) rfl rfl rfl rfl rfl;simp only[abM,anA,hk,Di,EW,seval]
theorem Y6{xs:List cF}{an:Int}{b:Nat}(hb:PS (fun x=>decide (pB x.an an<0)) xs b)(hn:xs.length<=100000){k:List K}{r:Option (ag×aG)}
  (hx:∀v q,kr (ar bN) [.tmp 6,.tmp 7] 0 k ⟨.exit 0,[(0,hZ (xs.map dU)),(1,aF an),(2,.func 245 []),(8,aF xs.length),(9,aF b),(10,v),(17,q)],[]⟩=r) :
  ∀(f i j:Nat),j-i<=f->i<=b->b<=j->j<=xs.length->eV (ar bN) [.tmp 6,.tmp 7] 0 k (.loop [0,1,2,8,9,10] Yo) [(0,hZ (xs.map dU)),(1,aF an),(2,.func 245 []),(8,aF xs.length),(9,aF i),(10,aF j)] []=r:=by
 intro f;induction f with
 |zero =>
  intro i j h1 h2 h3 h4;obtain rfl:i=b:=by omega
  rw[bt];have cz:((i:Int)<(j:Int))=False:=by grind
  simp only[Hg,cz,EW,seval]
  grind
 |succ f ih =>
  intro i j h1 h2 h3 h4;rw[bt]
  by_cases hij:i<j
  ·have cz:((i:Int)<(j:Int))=True:=by grind
   obtain⟨m1,m2,m3,m4,m5⟩:=DC i j (by omega) (by omega)
   have hmid:(i+j) / 2<xs.length:=by omega
   have hx:=ai hmid;have hl:=hb.lt _ _ hx;have hk:=fun x:cF=>als x an []
   simp only[Hg,cz,m1,m2,m3,m4,hx,hk,EW,seval];refine bp (fun hq=>?_) (fun hq=>?_)
   ·simp only[Hg,m5,EW,seval];exact ih ((i+j) / 2+1) j (by omega) (hl.1 hq) h3 h4
   ·simp only[Hg,EW,seval];exact ih i ((i+j) / 2) (by omega) h2 (n9.1 fun h=>by rw[hl.2 h] at hq; cases hq) (by omega)
  ·obtain rfl:i=b:=by omega
   have cz:((i:Int)<(j:Int))=False:=by simp; omega
   simp only[Hg,cz,EW,seval];exact hx _ _
def apS(xs:List cF)(an:Int)(b:Nat)(hb:PS (fun x=>decide (pB x.an an<0)) xs b)(hn:xs.length<=100000):ar bN 244 [hZ (xs.map dU),aF an,.func 245 []] []=some (.tuple [aF b,.bool (qy (fun x=>pB x.an an==0) xs b)],[]):=by
 refine az ?_;simp only[abQ,Hg,EW,seval];refine Y6 hb hn (fun v q=>?_) xs.length 0 xs.length (by omega) (by omega) hb.le (by omega)
 have hk:=fun x:cF=>als x an []
 unfold qy
 by_cases cz:b<xs.length
 ·have hx:=ai cz;have h1:((b:Int)<(xs.length:Int))=True:=by simp; omega
  simp only[Hg,hx,h1,hk,EW,seval]
 ·have hx:xs[b]?=none:=er (by omega)
  have h1:((b:Int)<(xs.length:Int))=False:=by simp; omega
  simp only[Hg,hx,h1,EW,seval]
def Un{xs:List Node}{an:Int}{b:Nat}(hb:PS (fun x=>decide (pB x.an an<0)) xs b)(hn:xs.length<=100000){k:List K}{r:Option (ag×aG)}
  (hx:∀v q,kr (ar bN) [.tmp 6,.tmp 7] 0 k ⟨.exit 0,[(0,hZ (xs.map bG)),(1,aF an),(2,.func 161 []),(8,aF xs.length),(9,aF b),(10,v),(17,q)],[]⟩=r) :
  ∀(f i j:Nat),j-i<=f->i<=b->b<=j->j<=xs.length->eV (ar bN) [.tmp 6,.tmp 7] 0 k (.loop [0,1,2,8,9,10] Mu) [(0,hZ (xs.map bG)),(1,aF an),(2,.func 161 []),(8,aF xs.length),(9,aF i),(10,aF j)] []=r:=by
 intro f;induction f with
 |zero =>
  intro i j h1 h2 h3 h4;obtain rfl:i=b:=by omega
  rw[bt];have cz:((i:Int)<(j:Int))=False:=by simp; omega
  simp only[x8,cz,EW,seval];exact hx _ _
 |succ f ih =>
  intro i j h1 h2 h3 h4;rw[bt]
  by_cases hij:i<j
  ·have cz:((i:Int)<(j:Int))=True:=by simp; omega
   obtain⟨m1,m2,m3,m4,m5⟩:=DC i j (by omega) (by omega)
   have hmid:(i+j) / 2<xs.length:=by omega
   have hx:=ai hmid;have hl:=hb.lt _ _ hx;have hk:=fun x:Node=>ak6 x an []
   simp only[x8,cz,m1,m2,m3,m4,hx,hk,EW,seval];refine bp (fun hq=>?_) (fun hq=>?_)
   ·simp only[x8,m5,EW,seval];exact ih ((i+j) / 2+1) j (by omega) (hl.1 hq) h3 h4
   ·simp only[x8,EW,seval];exact ih i ((i+j) / 2) (by omega) h2 (n9.1 fun h=>by rw[hl.2 h] at hq; cases hq) (by omega)
  ·obtain rfl:i=b:=by omega
   have cz:((i:Int)<(j:Int))=False:=by simp; omega
   simp only[x8,cz,EW,seval];exact hx _ _
def ajo(xs:List Node)(an:Int)(b:Nat)(hb:PS (fun x=>decide (pB x.an an<0)) xs b)(hn:xs.length<=100000):ar bN 160 [hZ (xs.map bG),aF an,.func 161 []] []=some (.tuple [aF b,.bool (qy (fun x=>pB x.an an==0) xs b)],[]):=by
 refine az ?_;simp only[QS,x8,EW,seval];refine Un hb hn (fun v q=>?_) xs.length 0 xs.length (by omega) (by omega) hb.le (by omega)
 have hk:=fun x:Node=>ak6 x an []
 unfold qy
 by_cases cz:b<xs.length
 ·have hx:=ai cz;have h1:((b:Int)<(xs.length:Int))=True:=by simp; omega
  simp only[x8,hx,h1,hk,EW,seval]
 ·have hx:xs[b]?=none:=er (by omega)
  have h1:((b:Int)<(xs.length:Int))=False:=by simp; omega
  simp only[x8,hx,h1,EW,seval]
def Y3{xs:List eB}{c g:Int}{b:Nat}(hb:PS (fun x=>decide (gF x c g<0)) xs b)(hn:xs.length<=100000){k:List K}{r:Option (ag×aG)}
  (hx:∀v q,kr (ar bN) [.tmp 6,.tmp 7] 0 k ⟨.exit 0,[(0,hZ (xs.map gx)),(2,.pR 89 [.agg [aF c,aF g]]),(4,b9 0),(8,aF xs.length),(9,aF b),(10,v),(17,q)],[bT [aF c,aF g]]⟩=r) :
  ∀(f i j:Nat),j-i<=f->i<=b->b<=j->j<=xs.length->eV (ar bN) [.tmp 6,.tmp 7] 0 k (.loop [0,2,4,8,9,10] Yk) [(0,hZ (xs.map gx)),(2,.pR 89 [.agg [aF c,aF g]]),(4,b9 0),(8,aF xs.length),(9,aF i),(10,aF j)] [bT [aF c,aF g]]=r:=by
 intro f;induction f with
 |zero =>
  intro i j h1 h2 h3 h4;obtain rfl:i=b:=by omega
  rw[bt];have cz:((i:Int)<(j:Int))=False:=by simp; omega
  simp only[Hf,cz,EW,seval];exact hx _ _
 |succ f ih =>
  intro i j h1 h2 h3 h4;rw[bt]
  by_cases hij:i<j
  ·have cz:((i:Int)<(j:Int))=True:=by simp; omega
   obtain⟨m1,m2,m3,m4,m5⟩:=DC i j (by omega) (by omega)
   have hmid:(i+j) / 2<xs.length:=by omega
   have hx:=ai hmid;have hl:=hb.lt _ _ hx;have hk:=fun x:eB=>k89 c g c g x [bT [aF c,aF g]]
   simp only[Hf,cz,m1,m2,m3,m4,hx,hk,EW,seval];refine bp (fun hq=>?_) (fun hq=>?_)
   ·simp only[Hf,m5,EW,seval];exact ih ((i+j) / 2+1) j (by omega) (hl.1 hq) h3 h4
   ·simp only[Hf,EW,seval];exact ih i ((i+j) / 2) (by omega) h2 (n9.1 fun h=>by rw[hl.2 h] at hq; cases hq) (by omega)
  ·obtain rfl:i=b:=by omega
   have cz:((i:Int)<(j:Int))=False:=by simp; omega
   simp only[Hf,cz,EW,seval];exact hx _ _
def apG(xs:List eB)(c g:Int)(b:Nat)(hb:PS (fun x=>decide (gF x c g<0)) xs b)(hn:xs.length<=100000):ar bN 218 [hZ (xs.map gx),.agg [aF c,aF g],.pR 89 [.agg [aF c,aF g]]] []=some (.tuple [aF b,.bool (qy (fun x=>gF x c g==0) xs b)],[]):=by
 refine az ?_;simp only[abE,Hf,EW,seval];refine Y3 hb hn (fun v q=>?_) xs.length 0 xs.length (by omega) (by omega) hb.le (by omega)
 have hk:=fun x:eB=>k89 c g c g x [bT [aF c,aF g]]
 unfold qy
 by_cases cz:b<xs.length
 ·have hx:=ai cz;have h1:((b:Int)<(xs.length:Int))=True:=by simp; omega
  simp only[Hf,hx,h1,hk,EW,seval]
 ·have hx:xs[b]?=none:=er (by omega)
  have h1:((b:Int)<(xs.length:Int))=False:=by simp; omega
  simp only[Hf,hx,h1,EW,seval]
end
section
section
variable {α:Type} (enc:α->ag) {f sz bytes:Nat}
def Cl(hp:bN.nc f=some (lV sz bytes))(hw:∀a,(enc a).cells.length=sz)(hb:bytes<=1000){l:List α}(h0:l≠[])(hn:l.length<=100000)(M:aG) :
  ar bN f [hZ (l.map enc)] M=some (.cS M.length 0 sz 0 l.length,M++[.arr sz 0 (l.map enc)]):=by
 refine eY (g:=lV sz bytes) hp ?_;obtain⟨a,r,rfl⟩:=ec h0;have hw:wid ((a::r).map enc) sz:=by have:=td enc sz hw (a::r); simpa using this
 have hr:cu ((a::r).map enc).length bytes:=by have:=qS (a:=(a::r).length) (b:=bytes) (by omega) (by omega); simpa using this
 unfold lV;simp only[aP] at hw hr ⊢;rw[dV ⟨hw,hr⟩];simp
def Dd(hp:bN.nc f=some (lV sz bytes)){l:List α}(h0:l=[])(M:aG):ar bN f [hZ (l.map enc)] M=some (.slice .c0 [],M):=by
 subst h0; exact eY (g:=lV sz bytes) hp rfl
def H6(hp:bN.nc f=some (ku sz bytes))(hb:bytes<=1000){l:List α}{b id v:Nat}(h:b<=l.length)(hn:l.length<=100000)(x:ag)(hx:x.cells.length=sz)(M:aG)(hM:nth M id=some (.arr sz v (l.map enc))) :
  ar bN f [.cS id v sz 0 l.length,aF b,hZ [x]] M=some (.cS id (v+1) sz 0 (l.length+1),jj M id (.arr sz (v+1) ((l.map enc).take b++x::(l.map enc).drop b))):=by
 refine eY (g:=ku sz bytes) hp ?_;have hr:cu ((l.map enc).length+1) bytes:=by have:=qS (a:=l.length+1) (b:=bytes) (by omega) (by omega); simpa using this
 unfold ku;simp only[hM];rw[dV ⟨trivial,trivial,trivial,by simp,by omega,by simpa using h,hx,hr⟩]
 simp
def EZ(hp:bN.nc f=some (ku sz bytes)){b:Nat}(h0:b=0)(x:ag)(hx:x.cells.length=sz)(M:aG) :
  ar bN f [.slice .c0 [],aF (b:Int),hZ [x]] M=some (.cS M.length 0 sz 0 1,M++[.arr sz 0 [x]]):=by
 subst h0;refine eY (g:=ku sz bytes) hp ?_;unfold ku;simp only[];rw[dV ⟨rfl,hx⟩]
def akP(hp:bN.nc f=some (kK sz)){l:List α}{b id v:Nat}(h:b<l.length)(hn:l.length<=100000)(M:aG)(hM:nth M id=some (.arr sz v (l.map enc))) :
  ar bN f [.cS id v sz 0 l.length,aF b,aF ((b+1:Nat):Int)] M=some (.cS id (v+1) sz 0 (l.length-1),jj M id (.arr sz (v+1) ((l.map enc).take b++(l.map enc).drop (b+1)))):=by
 refine eY (g:=kK sz) hp ?_;unfold kK;simp only[hM];rw[dV ⟨trivial,trivial,trivial,by simp,by omega,by simpa using h,by omega,by simp; omega⟩]
 simp
def O8{M:aG}(i:Nat)(a b:dy):jj (jj M i a) i b=jj M i b:=by
 induction M generalizing i with
 |nil=>rfl
 |cons x r ih =>
  cases i with
  |zero=>rfl
  |succ i=>simp only[jj,ih]
def W7{l:List α}{b:Nat}(h:b<l.length):List.take (l.length-1) ((l.map enc).take b++(l.map enc).drop (b+1))=(l.eraseIdx b).map enc:=by
 rw[bQ (by simp; omega),List.eraseIdx_eq_take_drop_succ]
 simp
def EY(hp:bN.nc f=some (rZ sz)){l:List α}{b id v:Nat}(h:b<l.length)(hn:l.length<=100000)(M:aG)(hM:nth M id=some (.arr sz v (l.map enc))) :
  ar bN f [.cS id v sz 0 l.length,aF b,aF ((b+1:Nat):Int)] M=some (hZ ((l.eraseIdx b).map enc),jj M id (.tick sz (l.length-1))):=by
 refine eY (g:=rZ sz) hp ?_;unfold rZ kK;simp only[hM];rw[dV ⟨trivial,trivial,trivial,by simp,by omega,by simpa using h,by omega,by simp; omega⟩]
 simp only[bV,ag.wx,ag.ou,GY hM,ag.ids,ag.mM,ag.ig,sO,O8,aE,List.drop_zero,js,fH];rw[W7 enc h];have:(List.take b (l.map enc)++List.drop (b+1) (l.map enc)).length=l.length-1:=by simp; omega
 rw[this]
def Mp{l:List α}{b:Nat}(h:b<=l.length)(x:α):List.take (l.length+1) ((l.map enc).take b++enc x::(l.map enc).drop b)=(l.take b++x::l.drop b).map enc:=by
 rw[bQ (by simp; omega)]
 simp
end
attribute [local irreducible] eV fZ je gK eo kr ar aU cA bH
def Wj(t:Tree)(an:Int)(ht:Small t)(hr:rh t)(M:aG):aU (ar bN) 86 [.agg [aY t.ae,aF t.next,aF t.aj],aF an] M=some (.tuple [.agg (aI (aX t.ae an)),.bool (find t.ae an).isSome],M) :=
 cO (c86 t an ht hr) M
def alh(t:Tree)(an:Int)(ht:Small t)(hr:rh t)(M:aG):aU (ar bN) 200 [.agg [aY t.ae,aF t.next,aF t.aj],aF an] M=some (.tuple [.agg (aJ (jO t an).1),aF (jO t an).2],M) :=
 cO (apt t an ht hr) M
end
section
attribute [local irreducible] eV fZ je gK eo kr ar aU cA bH
def Gy(l:List eB)(c h:Int):Int×Int:=match l.find? (lP c h) with
 |some x=>(x.an,0)
 |none=>(0,80)
def apJ(l:List eB)(c h:Int)(hn:l.length<=100000):ar bN 226 [fO l,aF c,aF h] []=some (.tuple [aF (Gy l c h).1,aF (Gy l c h).2],[]):=by
 refine az ?_;have hk:=acd l c h hn;simp only[abH,acU,hk,EW,seval];unfold Gy;rcases xM (lP c h) l 0 with ⟨h1,h2⟩|⟨m,x,h1,h2,h3,_⟩
 ·simp only[acU,h1,h2,EW,seval]
 ·have cz:(((0+m:Nat):Int)<0)=False:=by simp
  simp only[acU,h1,h2,h3,cz,iA,EW,seval]
def arp l c h hn:=cP (apJ l c h hn)
def mP(l:List eB)(an:Int):Bool:=l.any fun x=>x.an==an
def c92(l:List eB)(an:Int)(hn:l.length<=100000):ar bN 92 [fO l,aF an] []=some (.bool (mP l an),[]):=by
 refine az ?_;have hk:aU (ar bN) 164 [fO l,.func 165 [b9 0]] [bT [aF an]]=some (.bool (mP l an),[bT [aF an]]):=kB (ids:=[0]) rfl rfl (Vi an) rfl rfl (ajp l an hn) rfl rfl rfl rfl rfl;simp only[akB,E92,hk,EW,seval]
def jS(t:Tree):List Int:=(t.ae.filter ep).map Node.an
def sq(t:Tree)(l:List eB)(c h an:Int):List eB×Int :=
 if !zO c h then (l,1)
 else if !(find t.ae an).isSome||ep (aX t.ae an) then (l,70)
 else if (aX t.ae an).kind==2 then (l,72)
 else if qy (fun x=>gF x c h==0) l (kV (fun x=>decide (gF x c h<0)) l)=true then (l,71)
 else if decide (64<=(l.length:Int)) then (l,76)
 else (l.take (kV (fun x=>decide (gF x c h<0)) l)++⟨c,h,an⟩::l.drop (kV (fun x=>decide (gF x c h<0)) l),0)
def vQ(a b:eB):Prop:=a.cH<b.cH\/(a.cH=b.cH/\a.handle<b.handle)
abbrev tq(l:List eB):Prop:=l.Pairwise vQ
def o8(x:eB)(c h:Int):(gF x c h<0)↔(x.cH<c\/(x.cH=c/\x.handle<h)):=by
 unfold gF orI pB
 by_cases h1:x.cH<c
 ·simp[h1]
 ·by_cases h2:c<x.cH
  ·simp[h1,h2]; omega
  ·have:x.cH=c:=by omega
   by_cases h3:x.handle<h
   ·simp[h3,this]
   ·by_cases h4:h<x.handle
    ·simp[h3,h4,this]
    ·simp[h3,h4,this]
def Dh(x:eB)(c h:Int):(gF x c h=0)↔(x.cH=c/\x.handle=h):=by
 unfold gF orI pB
 by_cases h1:x.cH<c
 ·simp[h1]; omega
 ·by_cases h2:c<x.cH
  ·simp[h1,h2]; omega
  ·have:x.cH=c:=by omega
   by_cases h3:x.handle<h
   ·simp[h3,this]; omega
   ·by_cases h4:h<x.handle
    ·simp[h3,h4,this]; omega
    ·simp[h3,h4,this]; omega
def zU{l:List eB}(h:tq l)(c g:Int):PS (fun x=>decide (gF x c g<0)) l (kV (fun x=>decide (gF x c g<0)) l):=by
 refine GI (h.imp ?_);intro a b hab hb;simp only[bg,o8] at hb ⊢;unfold vQ at hab;omega
def arn(l:List eB)(c g:Int)(hl:tq l)(hn:l.length<=100000)(M:aG):aU (ar bN) 218 [fO l,.agg [aF c,aF g],.pR 89 [.agg [aF c,aF g]]] M =
  some (.tuple [aF (kV (fun x=>decide (gF x c g<0)) l),.bool (qy (fun x=>gF x c g==0) l (kV (fun x=>decide (gF x c g<0)) l))],M) :=
 cO (apG l c g _ (zU hl c g) hn) M
def aoD(t:Tree)(l:List eB)(c h an:Int)(ht:Small t)(hr:rh t)(hl:tq l)(hn:l.length<=64):ar bN 135 [bq t,fO l,aF c,aF h,aF an] []=some (.tuple [fO (sq t l c h an).1,aF (sq t l c h an).2],[]):=by
 refine az ?_;have q1:=Wj t an ht hr;have q2:=arn l c h hl (by omega)
 have hb:=(zU hl c h).le;unfold sq;generalize kV (fun x=>decide (gF x c h<0)) l=b at q2 hb ⊢
 generalize qy (fun x=>gF x c h==0) l b=e at q2 ⊢
 simp only[QO,Nd,bq,aJ,k88,q1,q2,EW,seval];refine bp (fun h1=>?_) (fun h1=>?_)
 ·simp only[Nd,h1,EW,seval]
 ·have q3:=fun M=>ad3 (aX t.ae an) M
  simp only[aI] at q3
  by_cases h0:l=[]
  ·have hb0:b=0:=by subst h0; simpa using hb
   have p1:=fun M=>Dd gx (f:=220) (sz:=3) (bytes:=24) rfl h0 M
   have p2:=fun M=>EZ (f:=219) (sz:=3) (bytes:=24) rfl hb0 (.agg [aF c,aF h,aF an]) rfl M
   simp only[Nd,h1,q1,q2,q3,aI,EW,seval]
   repeat' ((first|apply bp|apply bR|apply dE)<;>intro hb<;>simp only[hb,EW,Nd,q3,p1,p2,aI,seval])
   all_goals clear q1 q2 q3 p1 p2
   all_goals first|(simp_all only[pE,↓reduceIte,reduceCtorEq,ak]; done)|(simp_all only[pE,↓reduceIte,reduceCtorEq,ak]; rfl)
  ·have hb0:=hb;have p1:=fun M=>Cl gx (f:=220) (sz:=3) (bytes:=24) rfl (fun _=>rfl) (by omega) h0 (by omega) M
   have p2:=fun M=>H6 gx (f:=219) (sz:=3) (bytes:=24) (v:=0) (id:=3) rfl (by omega) hb (by omega) (.agg [aF c,aF h,aF an]) rfl M
   simp only[Nd,h1,q1,q2,q3,aI,EW,seval]
   repeat' ((first|apply bp|apply bR|apply dE)<;>intro hb<;>simp only[hb,EW,Nd,q3,p1,p2,aI,seval])
   all_goals clear q1 q2 q3 p1 p2
   all_goals first|(simp_all only[pE,↓reduceIte,reduceCtorEq,ak]; done)|(simp_all only[pE,↓reduceIte,reduceCtorEq,ak]; exact congrArg (fun z=>some (ag.tuple [ag.slice .sh z,aF 0],([]:aG))) (Mp gx hb0 ⟨c,h,an⟩))
def aq2(t:Tree)(l:List eB)(c h an:Int)(ht:Small t)(hr:rh t)(hl:tq l)(hn:l.length<=64)(M:aG):aU (ar bN) 135 [.agg [aY t.ae,aF t.next,aF t.aj],fO l,aF c,aF h,aF an] M=some (.tuple [fO (sq t l c h an).1,aF (sq t l c h an).2],M) :=
 cO (aoD t l c h an ht hr hl hn) M
def k92 l an hn:=cP (c92 l an hn)
def lL(t:Tree)(l:List eB)(c h:Int):Tree×List eB×Int:=match l.find? (lP c h) with
 |none=>(t,l,80)
 |some x=>(if (find t.ae x.an).isSome&&ep (aX t.ae x.an) && !mP (l.eraseP (lP c h)) x.an then (jO t x.an).1 else t,l.eraseP (lP c h),0)
def aoE(t:Tree)(l:List eB)(c h:Int)(ht:Small t)(hr:rh t)(hn:l.length<=64):ar bN 136 [bq t,fO l,aF c,aF h] []=some (.tuple [bq (lL t l c h).1,fO (lL t l c h).2.1,aF (lL t l c h).2.2],[]):=by
 refine az ?_;have hk:=acd l c h (by omega)
 unfold lL;rcases xM (lP c h) l 0 with ⟨h1,h2⟩|⟨m,x,h1,h2,h3,h4⟩
 ·simp only[L1,acJ,hk,h1,h2,bq,aJ,EW,seval]
 ·have cz:(((0+m:Nat):Int)<0)=False:=by simp
  have hm:m<l.length:=(aq.1 h2).1;have hne:l≠[]:=by rintro rfl; simp at hm
  have p1:=fun M=>Cl gx (f:=220) (sz:=3) (bytes:=24) rfl (fun _=>rfl) (by omega) hne (by omega) M
  have p2:=fun M=>EY gx (f:=223) (sz:=3) (v:=0) (id:=2) rfl hm (by omega) M
  have hw:IntKind.i64.wrap ((m:Int)+1)=((m+1:Nat):Int):=by rw[gn (by omega) (by omega)]; rfl
  have q1:=Wj t x.an ht hr;have q2:=alh t x.an ht hr;have q3:=fun M=>ad3 (aX t.ae x.an) M
  have q4:=k92 (l.eraseP (lP c h)) x.an (by have:=List.length_eraseP_le (p:=lP c h) (l:=l); omega)
  simp only[h3];generalize jO t x.an=fr at q2 ⊢;rw[h4] at p2;simp only[aI,aJ] at q1 q2 q3;simp only[L1,acJ,hk,h1,h2,cz,iA,p1,p2,hw,q1,q3,aI,bq,aJ,FZ,sO,EW,seval]
  repeat' ((first|apply bp|apply bR|apply dE)<;>intro hb<;>simp only[hb,EW,acJ,hk,h1,h2,cz,p1,p2,hw,q1,q2,q3,q4,aI,FZ,sO,seval])
  all_goals clear q1 q2 q3 q4 p1 p2 hk
  all_goals first|rfl|(simp_all only[pE,↓reduceIte,reduceCtorEq,ak]; done)|(simp_all only[pE,↓reduceIte,reduceCtorEq,ak]; rfl)|skip
def ak1(t:Tree)(l:List eB)(c h:Int)(ht:Small t)(hr:rh t)(hn:l.length<=64)(M:aG):aU (ar bN) 136 [.agg [aY t.ae,aF t.next,aF t.aj],fO l,aF c,aF h] M=some (.tuple [.agg (aJ (lL t l c h).1),fO (lL t l c h).2.1,aF (lL t l c h).2.2],M) :=
 cO (aoE t l c h ht hr hn) M
def cr.sz{t:Tree}{cE:Int->Nat}{x:Int}(h:cr t cE x):Sz 200 t where
 ae:=h.ae
 aM:=fun n hn=>by have:=(h.x9 _ _ ((fC h.jo.jv).2 ⟨hn,rfl⟩)).2; omega
 data:=fun n hn=>by
  have hi:=(fC h.jo.jv).2 ⟨hn,rfl⟩;rcases h.kind _ _ hi with h1|h1
  ·have:=(h.file _ _ hi h1).2.2; omega
  ·rw[h.dir _ _ hi h1]; simp
def Sz.GZ{b:Nat}{t:Tree}(h:Sz b t)(hb:b<=100000:=by omega):Small t:=h.small hb
def Rt(t:Tree):Prop:=∃cE,cr t cE 0
def Rt.jo{t:Tree}(h:Rt t):rh t:=let ⟨_,g⟩:=h; g.jo
def Rt.sz{t:Tree}(h:Rt t):Sz 200 t:=let ⟨_,g⟩:=h; g.sz
def Rt.small{t:Tree}(h:Rt t):Small t:=h.sz.small (by omega)
def Rt.free{t:Tree}(h:Rt t)(an:Int):Rt (jO t an).1:=let ⟨_,g⟩:=h; ⟨_,EU g an⟩
def Rt.close{t:Tree}(h:Rt t)(l:List eB)(c g:Int):Rt (lL t l c g).1:=by
 unfold lL;split
 ·exact h
 ·split
  ·exact h.free _
  ·exact h
def yF(t:Tree)(l:List eB)(c g:Int):(lL t l c g).2.1.length<=l.length:=by
 unfold lL;split
 ·exact aC _
 ·exact List.length_eraseP_le
def D7(n:Tree)(B:Nat)(M:aG):List.map (ag.kE B M) (aJ n)=aJ n:=rfl
def afI{t:Tree}(ht:t.ae.length<=100000){k:List K}{R:List Int->Option (ag×aG)}
  (hx:∀(out:List Int) e,kr (ar bN) [.tmp 2] 0 k ⟨.exit 0,(3,.slice (.own 1) (out.map mb))::e,[bT (aJ t),.tick 1 out.length]⟩=R out) :
  ∀(l pre:List Node)(out:List Int),t.ae=pre++l->out.length<=pre.length->eV (ar bN) [.tmp 2] 0 k (.loop [3,7,8,9] afA) [(3,.slice (.own 1) (out.map mb)),(7,aY t.ae),(8,aF t.ae.length),(9,aF pre.length)] [bT (aJ t),.tick 1 out.length]=R (out++(l.filter ep).map Node.an):=by
 intro l;induction l with
 |nil =>
  intro pre out h ho;rw[bt];simp only[E90,gU h,lG,EW,seval];exact hx _ _
 |cons n rest ih =>
  intro pre out h ho;rw[bt];have dQ:pre.length+1<=100000:=by rw[h] at ht; simp at ht; omega
  have hw:=vY pre n;have hi1:=ih (pre++[n]) out (by rw[h]; simp) (by simp; omega)
  have hi2:=ih (pre++[n]) (out++[n.an]) (by rw[h]; simp) (by simp; omega)
  simp only[aD,au,av,bu,aP,a8] at hi1 hi2;have r1:cu (out.length+1) 8=True:=rb;have q3:=fun M=>ad3 n M
  simp only[aI] at q3;simp only[E90,gd h,fc h,aI,aJ,q3,EW,seval] at hi1 hi2 ⊢;refine bp (fun hb=>?_) (fun hb=>?_)
  ·simp only[E90,hb,r1,ud,hw,EW,seval];simpa[hb] using hi2
  ·simp only[E90,hb,hw,EW,seval];simpa[hb] using hi1
def c90(t:Tree)(ht:t.ae.length<=100000):ar bN 90 [bq t] []=some (wU (jS t),[]):=by
 refine az ?_;have hl:=afI ht (k:=[.block 0,.seq amD]) (R:=fun out=>some (wU out,[])) (fun out e=>by simp only[E90,EW,seval]) t.ae [] [] rfl (aC _)
 simp only[aJ,a8,av] at hl;simp only[adW,E90,bq,aJ,EW,seval];exact hl
def k90(t:Tree)(ht:t.ae.length<=100000)(M:aG):aU (ar bN) 90 [.agg [aY t.ae,aF t.next,aF t.aj]] M=some (wU (jS t),M):=cO (c90 t ht) M
def si(c:Int):List eB->Tree->List eB->Tree×List eB
 | [],t,l=>(t,l)
 |x::r,t,l=>if x.cH==c then si c r (lL t l c x.handle).1 (lL t l c x.handle).2.1 else si c r t l
def BE(t:Tree)(l:List eB)(c:Int):Tree×List eB:=si c l t l
def YM{h0:List eB}(c:Int)(h64:h0.length<=64){k:List K}{R:Tree->List eB->Option (ag×aG)}
  (hx:∀(t:Tree) (l:List eB) e,kr (ar bN) [.dC 6 3,.tmp 7] 0 k ⟨.exit 0,(1,fO l)::(2,aF c)::(3,b9 0)::(6,b9 1)::e,[bT (aJ t),bT [.slice .c0 [],aF 0,aF 0]]⟩=R t l) :
  ∀(r pre:List eB)(t:Tree)(l:List eB),h0=pre++r->Rt t->l.length<=64->eV (ar bN) [.dC 6 3,.tmp 7] 0 k (.loop [1,2,3,6,10,11,12] X0) [(1,fO l),(2,aF c),(3,b9 0),(6,b9 1),(10,fO h0),(11,aF h0.length),(12,aF pre.length)] [bT (aJ t),bT [.slice .c0 [],aF 0,aF 0]]=R (si c r t l).1 (si c r t l).2:=by
 intro r;induction r with
 |nil =>
  intro pre t l h ht hl;rw[bt];simp only[Ng,gU h,si,EW,seval];exact hx _ _ _
 |cons x rest ih =>
  intro pre t l h ht hl;rw[bt];have dQ:pre.length+1<=100000:=by rw[h] at h64; simp at h64; omega
  have hw:=vY pre x;have q1:=ak1 t l c x.handle ht.small ht.jo hl;have hi1:=ih (pre++[x]) t l (by rw[h]; simp) ht hl
  have hi2:=ih (pre++[x]) _ _ (by rw[h]; simp) (ht.close l c x.handle) (aW (yF t l c x.handle) hl)
  rw[si];generalize lL t l c x.handle=cl at q1 hi2 ⊢;simp only[aD,au,av] at hi1 hi2;simp only[Ng,gd h,fc h,iA,aJ,EW,seval] at q1 hi1 hi2 ⊢;refine bp (fun hb=>?_) (fun hb=>?_)
  ·simp only[Ng,hb,q1,hw,EW,seval];exact hi2
  ·simp only[Ng,hb,hw,af,EW,seval];exact hi1
def aoN(t:Tree)(l:List eB)(c:Int)(ht:Rt t)(hl:l.length<=64):ar bN 148 [bq t,fO l,aF c] []=some (.tuple [bq (BE t l c).1,fO (BE t l c).2],[]):=by
 refine az ?_;have hq:=YM (h0:=l) c hl (k:=[.block 0,.seq agf]) (R:=fun t l=>some (.tuple [bq t,fO l],[])) (fun t l e=>by simp only[Ng,bq,aJ,EW,seval]) l [] t l rfl ht hl
 simp only[aJ,av] at hq;simp only[aa2,Ng,bq,aJ,EW,seval];exact hq
def aq9(t:Tree)(l:List eB)(c:Int)(ht:Rt t)(hl:l.length<=64)(M:aG):aU (ar bN) 148 [.agg [aY t.ae,aF t.next,aF t.aj],fO l,aF c] M=some (.tuple [.agg (aJ (BE t l c).1),fO (BE t l c).2],M) :=
 cO (aoN t l c ht hl) M
end
abbrev AM(α:Type):=List (Int×α)
section
variable {α:Type}
def Ca(l:AM α):List ag:=l.map fun p => .int .i64 p.1
def ra(enc:α->ag)(l:AM α):List ag:=l.map fun p=>enc p.2
def dx:AM α->Int->Option α
 | [],_=>none
 |(k',v)::l,k=>if k=k' then some v else dx l k
def lR:AM α->Int->α->AM α
 | [],k,v=>[(k,v)]
 |(k',v')::l,k,v=>if k=k' then (k,v)::l else (k',v')::lR l k v
theorem gZ:∀(l:AM α)(k:Int)(v:α)(j:Int),dx (lR l k v) j=if j=k then some v else dx l j
 | [],k,v,j=>by simp only[lR,dx]
 |(k',v')::l,k,v,j=>by
  simp only[lR];split
  ·rename_i h;subst h;simp only[dx];split<;>rfl
  ·rename_i h;simp only[dx];split
   ·rename_i h2;rw[aH (fun hh=>h (hh.symm.trans h2))]
   ·exact gZ l k v j
def vo:∀(l:AM α)(k:Int)(v:α),dx l k=some v->(k,v)∈l
 |(k',v')::l,k,v,h=>by
  simp only[dx] at h;split at h
  ·rename_i hk;injection h with h
   subst h; subst hk;exact aV
  ·exact aO _ (vo l k v h)
def DD:∀(l:AM α)(k:Int)(v:α),(lR l k v).length<=l.length+1
 | [],_,_=>by simp[lR]
 |(k',v')::l,k,v=>by
  simp only[lR];split
  ·simp
  ·have:=DD l k v;simp; omega
def pc(enc:α->ag):∀(l:AM α)(k:Int),A4 .i (aF k) (Ca l) (ra enc l)=some ((dx l k).map enc)
 | [],k=>rfl
 |(k',v)::l,k=>by
  show bH (mc .i (aF k) (aF k')) (fun b=>yX b (some (some (enc v))) (A4 .i (aF k) (Ca l) (ra enc l)))=_
  rw[pc enc l k];simp only[mc,↓reduceIte,bV,dx]
  by_cases h:k=k'
  ·rw[bc h,show(k==k')=true by simpa using h,xd]; rfl
  ·rw[aH h,show(k==k')=false by simpa using h,p6]
end
section
variable {α:Type}
def tI(enc:α->ag):∀(l:AM α)(k:Int)(v:α),A5 .i (aF k) (enc v) (Ca l) (ra enc l)=some (Ca (lR l k v),ra enc (lR l k v))
 | [],k,v=>by
  show bH (mc .i (aF k) (aF k)) (fun _=>some ([aF k],[enc v]))=_
  simp only[mc,↓reduceIte,bV];rfl
 |(k',v')::l,k,v=>by
  show bH (mc .i (aF k) (aF k')) (fun b=>yX b (some (aF k::Ca l,enc v::ra enc l)) (bH (A5 .i (aF k) (enc v) (Ca l) (ra enc l)) fun x=>some (aF k'::x.1,enc v'::x.2)))=_
  rw[tI enc l k v];simp only[mc,↓reduceIte,bV,lR]
  by_cases h:k=k'
  ·rw[bc h,show(k==k')=true by simpa using h,xd]; rfl
  ·rw[aH h,show(k==k')=false by simpa using h,p6]; rfl
def WW(enc:α->ag)(B:Nat)(M:aG)(h:∀a,(enc a).kG B M=enc a)(l:AM α):List.map (ag.kG B M) (ra enc l)=ra enc l:=by
 unfold ra;rw[jX];exact dH (fun p _=>h p.2)
def Rj(enc:α->ag)(h:∀a,(enc a).ids=[])(l:AM α):(ra enc l).flatMap ag.ids=[]:=by
 unfold ra;rw[List.flatMap_map];exact lH.2 fun p _=>h p.2
def KJ(enc:α->ag)(h:∀a,(enc a).flat=true)(l:AM α):(ra enc l).all ag.flat=true:=bI.2 fun x hx=>by
 obtain⟨p,_,rfl⟩:=dj.1 hx;exact h p.2
def VC(enc:α->ag)(ρ:Nat->Nat)(h:∀a,(enc a).pL ρ=enc a)(l:AM α):(ra enc l).map (ag.pL ρ)=ra enc l:=by
 unfold ra;rw[jX];exact dH (fun p _=>h p.2)
def Mw(o:Option Bool):qF (.bool false) false (o.map ag.bool) = .bool (o.getD false):=by cases o<;>rfl
end
def lO(ae:List Node):Nat->Int->Int×AM Bool->Int×AM Bool
 |0,_,s=>s
 |f+1,an,s=>(aX ae an).aM.foldl (fun s e=>if !((dx s.2 e.an).getD false) then lO ae f e.an (s.1,lR s.2 e.an true) else s) (kR (s.1+(aX ae an).data.length),s.2)
def vC:ag := .func 166 [.ptr 0 0,.ptr 1 0,.ptr 2 0,.ptr 3 0]
def jl(t:Tree)(s:Int×AM Bool):aG:=[.cells (aJ t),.cells [.int .i64 s.1],.cells [.ia 4],.cells [vC],.map (Ca s.2) (ra ag.bool s.2)]
def flB(l:AM Bool):(ra ag.bool l).all ag.flat=true:=KJ _ (fun _=>rfl) l
def rnB(ρ:Nat->Nat)(l:AM Bool):(ra ag.bool l).map (ag.pL ρ)=ra ag.bool l:=VC _ _ (fun _=>rfl) l
def idB(l:AM Bool):(ra ag.bool l).flatMap ag.ids=[]:=Rj _ (fun _=>rfl) l
def bkB(B:Nat)(M:aG)(l:AM Bool):List.map (ag.kG B M) (ra ag.bool l)=ra ag.bool l:=WW _ _ _ (fun _=>rfl) l
def Jd(t:Tree)(s:Int×AM Bool):(jl t s).map (dy.pL (iy [0,1,2,3,4]))=jl t s/\(jl t s).map (dy.pL (wD [0,1,2,3,4]))=jl t s:=by
 constructor
 ·simp only[jl,aP,a8,dy.pL,rnB]; rfl
 ·simp only[jl,aP,a8,dy.pL,rnB]; rfl
def amz(t:Tree)(s:Int×AM Bool)(L:aG):jE (jl t s++L) (iy [0,1,2,3,4]) [0,1,2,3,4]=some (jl t s):=by
 have h:=(Jd t s).1;simp only[jl,aP,a8] at h;injection h with h0 h; injection h with h1 h; injection h with h2 h; injection h with h3 h; injection h with h4 h
 simp only[jl,aR,aZ,jE,nth,h0,h1,h2,h3,h4];simp only[dy.flat,flB,aE];rfl
def aqL(t:Tree)(s:Int×AM Bool)(L:aG):pX (jl t s++L) [0,1,2,3]=[4,0,1,2,3]/\pX (jl t s++L) [0,1,2,3,4]=[4,0,1,2,3]:=by
 refine⟨rfl,?_⟩
 show[4,0,1,2,3]++((ra ag.bool s.2).flatMap ag.ids++[])=_
 rw[idB]; rfl
def Vz(t:Tree)(s:Int×AM Bool)(L:aG):reach (jl t s++L) [0,1,2,3]=[0,1,2,3,4]/\kD (jl t s++L) [0,1,2,3,4]=[0,1,2,3,4]:=by
 obtain⟨h1,h2⟩:=aqL t s L;have e0:j8 [] [0,1,2,3]=[0,1,2,3]:=rfl;have e1:j8 [0,1,2,3] [4,0,1,2,3]=[0,1,2,3,4]:=rfl;have e2:j8 [0,1,2,3,4] [4,0,1,2,3]=[0,1,2,3,4]:=rfl;simp only[reach,kD,e0,h1,e1,h2,e2,jZ]
def agV(t:Tree)(s s':Int×AM Bool)(L:aG):kY [0,1,2,3,4] (jl t s++L) [0,1,2,3,4] (jl t s')=jl t s'++L:=by
 have h:=(Jd t s').2;simp only[jl,aP,a8] at h;injection h with h0 h; injection h with h1 h; injection h with h2 h; injection h with h3 h; injection h with h4 h
 simp only[jl,aR,aZ,kY,h0,h1,h2,h3,h4,jj]
def aaG(t:Tree)(s:Int×AM Bool):(jl t s).all dy.flat=true:=by
 simp only[jl,lq,dy.flat,flB]; rfl
def ajE{t:Tree}{an:Int}{s s':Int×AM Bool}{L:aG}(h:ar bN 166 [aF an,b9 0,b9 1,b9 2,b9 3] (jl t s)=some (.tuple [],jl t s')) :
  aU (ar bN) 166 [aF an,b9 0,b9 1,b9 2,b9 3] (jl t s++L)=some (.tuple [],jl t s'++L) :=
 kB (ids:=[0,1,2,3,4]) rfl (Vz t s L).1 (amz t s L) (Vz t s L).2 rfl h rfl rfl (aaG t s') rfl (agV t s s' L)
def yu(t:Tree)(s:Int×AM Bool)(n:Node):aG:=[.cells [aY t.ae,.int .i64 t.next,.int .i64 t.aj],.map (Ca s.2) (ra ag.bool s.2),.cells [.ia 1],.cells [.int .i64 s.1],.cells [.func 166 [.ptr 0 0,.ptr 3 0,.ptr 2 0,.ptr 4 0]],.cells (aI n)]
def adF{t:Tree}{an:Int}{s':Int×AM Bool}(n:Node)(h:ar bN 166 [aF an,b9 0,b9 1,b9 2,b9 3] (jl t (0,[]))=some (.tuple [],jl t s')) :
  aU (ar bN) 166 [aF an,b9 0,b9 3,b9 2,b9 4] (yu t (0,[]) n)=some (.tuple [],yu t s' n):=by
 have i1:pX (yu t (0,[]) n) [0,3,2,4]=[1,0,3,2,4]:=rfl;have i2:pX (yu t (0,[]) n) [0,3,2,4,1]=[1,0,3,2,4]:=rfl;have e0:j8 [] [0,3,2,4]=[0,3,2,4]:=rfl;have e1:j8 [0,3,2,4] [1,0,3,2,4]=[0,3,2,4,1]:=rfl;have e2:j8 [0,3,2,4,1] [1,0,3,2,4]=[0,3,2,4,1]:=rfl
 have hr:reach (yu t (0,[]) n) [0,3,2,4]=[0,3,2,4,1]/\kD (yu t (0,[]) n) [0,3,2,4,1]=[0,3,2,4,1]:=by
  simp only[reach,kD,e0,i1,e1,i2,e2,jZ]
 have hp:jE (yu t (0,[]) n) (iy [0,3,2,4,1]) [0,3,2,4,1]=some (jl t (0,[])):=by
  simp only[yu,jE,nth,dy.flat,flB,bV,aE,dy.pL,rnB];rfl
 refine kB (ids:=[0,3,2,4,1]) rfl hr.1 hp hr.2 rfl h rfl rfl (aaG t s') rfl ?_;simp only[jl,yu,kY,dy.pL,rnB,jj];rfl
section
attribute [local irreducible] eV fZ je gK eo kr ar aU cA bH
def YP{t:Tree}{n:Node}{f:Nat}{k:List K}{R:Int×AM Bool->Option (ag×aG)}(hn:n.aM.length<=100000)
  (ih:∀e,e∈n.aM->∀s,ar bN 166 [aF e.an,b9 0,b9 1,b9 2,b9 3] (jl t s)=some (.tuple [],jl t (lO t.ae f e.an s)))
  (hx:∀s e,kr (ar bN) [] 5 k ⟨.exit 0,e,jl t s++[bT (aI n)]⟩=R s) :
  ∀(l pre:List fp)(s:Int×AM Bool),n.aM=pre++l->eV (ar bN) [] 5 k (.loop [3,4,22,23,24] X2) [(3,b9 2),(4,b9 3),(22,ic n.aM),(23,aF n.aM.length),(24,aF pre.length)] (jl t s++[bT (aI n)]) =
   R (l.foldl (fun s e=>if !((dx s.2 e.an).getD false) then lO t.ae f e.an (s.1,lR s.2 e.an true) else s) s):=by
 intro l;induction l with
 |nil =>
  intro pre s h;rw[bt];simp only[jl,Nj,gU h,mo,EW,seval] at hx ⊢;exact hx _ _
 |cons x rest ihl =>
  intro pre s h;rw[bt];have dQ:pre.length+1<=100000:=by rw[h] at hn; simp at hn; omega
  have hw:=vY pre x;rw[dZ];have hi1:=fun s=>ihl (pre++[x]) s (by rw[h]; simp)
  have q:=ajE (L:=[bT (aI n),bT (fm x)]) (ih x (by rw[h]; simp) (s.1,lR s.2 x.an true))
  generalize lO t.ae f x.an (s.1,lR s.2 x.an true)=s' at q ⊢;simp only[jl,vC,aI,fm,aD,au,av,aL,aR,aZ] at hi1 q;simp only[jl,vC,Nj,gd h,fc h,aI,fm,pc,Mw,mapOf.eq_1,EW,seval];refine bp (fun hb=>?_) (fun hb=>?_)
  ·simp only[Nj,hb,hw,tI,q,D7,bkB,↓reduceIte,EW,seval];exact hi1 _
  ·simp only[Nj,hb,hw,D7,bkB,af,EW,seval];exact hi1 _
def aoX{t:Tree}{cE:Int->Nat}(h:cr t cE 0):∀(f:Nat)(an:Int)(s:Int×AM Bool),(∀n,find t.ae an=some n->n.kind=2->13<f+cE an)->0<f ->
  ar bN 166 [aF an,b9 0,b9 1,b9 2,b9 3] (jl t s)=some (.tuple [],jl t (lO t.ae f an s)):=by
 intro f;induction f with
 |zero=>intro an s _ h0; omega
 |succ f ih =>
  intro an s hd _;have q1:=Wj t an h.sz.GZ h.jo
  have hl:=YP (t:=t) (n:=aX t.ae an) (f:=f) (k:=[.block 0]) (R:=fun s=>some (.tuple [],jl t s)) (by
    cases hi:find t.ae an with
    |none=>simp[aX,hi,Node.zero]
    |some n=>have:=(h.x9 _ _ hi).2; simp only[aX,hi,bh]; omega) ?_ (fun s e=>by simp only[jl,vC,Nj,aI,D7,bkB,EW,seval]) (aX t.ae an).aM [] (kR (s.1+(aX t.ae an).data.length),s.2) rfl
  ·refine az ?_;rw[lO];simp only[jl,vC,aI,aR,aZ,av] at hl q1;simp only[aa9,Nj,jl,vC,aJ,aI,q1,EW,seval];exact hl
  ·intro e he s;cases hi:find t.ae an with
   |none=>simp[aX,hi,Node.zero] at he
   |some n =>
    simp only[aX,hi,bh] at he
    have hk:n.kind=2:=by
     rcases h.kind _ _ hi with h1|h1
     ·rw[(h.file _ _ hi h1).1] at he; cases he
     ·exact h1
    have h1:=hd n hi hk;have h2:=(h.deep _ _ hi hk).1;obtain⟨_,_,e1,_,m,hm,hu⟩:=h.Au _ _ _ hi he;refine ih e.an s (fun n' hn' hk'=>?_) (by omega)
    rw[hm] at hn'; cases hn';have:=(h.oZ _ _ hm hk' e1).1;rw[hu hk'] at this;omega
def jU(ae:List Node)(an:Int):Int×Int :=
 if (find ae an).isSome&&(aX ae an).kind==2 then (((lO ae 14 an (0,[])).2.length:Int),(lO ae 14 an (0,[])).1) else (0,0)
def c93{t:Tree}(h:Rt t)(an:Int):ar bN 93 [bq t,aF an] []=some (.tuple [aF (jU t.ae an).1,aF (jU t.ae an).2],[]):=by
 obtain⟨cE,h⟩:=h;refine az ?_;have q1:=Wj t an h.sz.GZ h.jo;have q2:=aoX h 14 an (0,[]) (fun n hn hk=>by omega) (by omega)
 unfold jU;generalize lO t.ae 14 an (0,[])=s' at q2 ⊢;simp only[aI] at q1;simp only[akC,E93,bq,aJ,q1,aI,EW,seval];refine bR (fun hb=>?_) (fun hb=>?_)
 ·simp only[hb,E93,EW,seval];refine bp (fun hc=>?_) (fun hc=>?_)
  ·have q3:=adF (aX t.ae an) q2;simp only[yu,aI,Ca,ra,a8] at q3;simp only[hb,hc,q3,E93,mapOf.eq_1,EW,seval]
  ·simp only[hb,hc,E93,mapOf.eq_1,dG,af,EW,seval]
 ·simp only[hb,E93,mapOf.eq_1,dw,af,EW,seval]
def k93{t:Tree}(h:Rt t)(an:Int)(M:aG):aU (ar bN) 93 [.agg [aY t.ae,aF t.next,aF t.aj],aF an] M=some (.tuple [aF (jU t.ae an).1,aF (jU t.ae an).2],M) :=
 cO (c93 h an) M
end
section
def af7(l:List cF)(o:Int)(b:dy):jE [bT [cY l],bT [aF o],b] (iy [0,1]) [0,1]=some [bT [cY l],bT [aF o]]:=rfl
def af8(l:List cF)(o:Int)(b:dy):jE [b,bT [cY l],bT [aF o]] (iy [1,2]) [1,2]=some [bT [cY l],bT [aF o]]:=rfl
attribute [local irreducible] eV fZ je gK eo kr ar aU cA bH
abbrev oz(l:List cF):Prop:=l.Pairwise fun a b=>a.an<b.an
def wB(l:List cF)(an:Int):Nat:=kV (fun x=>decide (pB x.an an<0)) l
def Fh(l:List cF)(an:Int):Bool:=qy (fun x=>pB x.an an==0) l (wB l an)
def xQ{l:List cF}(h:oz l)(an:Int):PS (fun x=>decide (pB x.an an<0)) l (wB l an):=by
 refine GI (h.imp ?_);intro a b hab hb;simp only[bg,xF] at hb ⊢;omega
def ao0(l:List cF)(an:Int)(h:oz l)(hn:l.length<=100000):ar bN 169 [cY l,aF an] []=some (.tuple [aF (wB l an),.bool (Fh l an)],[]):=by
 refine az ?_;have q:=fun M=>cO (apS l an _ (xQ h an) hn) M
 simp only[abc,anj,q,Fh,EW,seval]
def ak7 l an h hn:=cP (ao0 l an h hn)
def aoZ(l:List cF)(dir o:Int)(h:oz l)(hn:l.length<=100000):ar bN 168 [aF dir,b9 0,b9 1] [bT [cY l],bT [aF o]] =
  some (.bool ((if Fh l dir then dir else o)==0),[bT [cY l],bT [aF (if Fh l dir then dir else o)]]):=by
 refine az ?_;have q:=ak7 l dir h hn;simp only[abb,acN,q,EW,seval];refine bp (fun hb=>?_) (fun hb=>?_)
 ·simp only[acN,hb,aE,EW,seval]
 ·simp only[acN,hb,af,aw,EW,seval]
def rP(ae:List Node)(l:List cF):Nat->Int->Int
 |0,_=>0
 |f+1,dir=>if Fh l dir then dir else if dir != 1 then rP ae l f (aX ae dir).up else 0
def YQ{t:Tree}{cE:Int->Nat}(ht:cr t cE 0){l:List cF}(hq:oz l)(hn:l.length<=100000){k:List K}{R:Int->Option (ag×aG)}
  (hx:∀o e,kr (ar bN) [] 2 k ⟨.exit 0,e,[bT [cY l],bT [aF o],bT (aJ t)]⟩=R o) :
  ∀(f:Nat)(dir:Int)(n:Node),find t.ae dir=some n->n.kind=2->cE dir<f->eV (ar bN) [] 2 k (.loop [1,2,3] X3) [(1,aF dir),(2,.func 168 [b9 0,b9 1]),(3,b9 2)] [bT [cY l],bT [aF 0],bT (aJ t)] =
   R (rP t.ae l f dir):=by
 intro f;induction f with
 |zero=>intro dir n _ _ h; omega
 |succ f ih =>
  intro dir n hi hk hd;rw[bt,rP]
  have q0:aU (ar bN) 168 [aF dir,b9 0,b9 1] [bT [cY l],bT [aF 0],bT (aJ t)] =
    some (.bool ((if Fh l dir then dir else 0)==0),[bT [cY l],bT [aF (if Fh l dir then dir else 0)],bT (aJ t)]) :=
   kB (ids:=[0,1]) rfl rfl (af7 l 0 _) rfl rfl (aoZ l dir 0 hq hn) rfl rfl rfl rfl rfl
  have q1:=Wj t dir ht.sz.GZ ht.jo;have hd1:=(ht.num _ _ hi).1;simp only[aI,aJ] at q0 q1 hx;simp only[Nk,q0,aJ,EW,seval];cases hb:Fh l dir
  ·simp only[hb,af,aw]
   by_cases h1:dir=1
   ·subst h1;simp only[Nk,ak,af,aw,EW,seval];exact hx _ _
   ·have h1':(dir != 1)=true:=by simpa using h1
    obtain⟨g1,p,g2,g3⟩:=ht.oZ _ _ hi hk h1;have hi':=ih n.up p g2 g3 (by omega)
    simp only[aJ] at hi';simp only[aX,hi,bh] at q1 ⊢;simp only[Nk,h1',q1,aI,EW,seval];exact hi'
  ·simp only[hb,aE];have h0:(dir==0)=false:=by simp; omega
   simp only[h0,Nk,EW,seval];exact hx _ _
def aoY{t:Tree}{cE:Int->Nat}(ht:cr t cE 0){l:List cF}(hq:oz l)(hn:l.length<=100000){dir:Int}{n:Node}(hi:find t.ae dir=some n)(hk:n.kind=2) :
  ar bN 167 [bq t,aF dir,.func 168 [b9 0,b9 1]] [bT [cY l],bT [aF 0]]=some (.tuple [],[bT [cY l],bT [aF (rP t.ae l 13 dir)]]):=by
 refine az ?_;have hl:=YQ ht hq hn (k:=[.block 0]) (R:=fun o=>some (.tuple [],[bT [cY l],bT [aF o]])) (fun o e=>by simp only[Nk,aJ,EW,seval]) 13 dir n hi hk (by have:=(ht.deep _ _ hi hk).1; omega)
 simp only[aJ] at hl;simp only[aba,Nk,bq,aJ,EW,seval];exact hl
def jN(ae:List Node)(l:List cF)(dir:Int):Int:=rP ae l 13 dir
def c94{t:Tree}{cE:Int->Nat}(ht:cr t cE 0){l:List cF}(hq:oz l)(hn:l.length<=100000){dir:Int}{n:Node}(hi:find t.ae dir=some n)(hk:n.kind=2) :
  ar bN 94 [bq t,cY l,aF dir] []=some (aF (jN t.ae l dir),[]):=by
 refine az ?_
 have q:aU (ar bN) 167 [.agg (aJ t),aF dir,.func 168 [b9 1,b9 2]] [bT (aJ t),bT [cY l],bT [aF 0]] =
   some (.tuple [],[bT (aJ t),bT [cY l],bT [aF (rP t.ae l 13 dir)]]) :=
  kB (ids:=[1,2]) rfl rfl (af8 l 0 _) rfl rfl (aoY ht hq hn hi hk) rfl rfl rfl rfl rfl
 simp only[aJ] at q;simp only[akD,E94,bq,aJ,q,jN,EW,seval]
def k94{t:Tree}{cE:Int->Nat}(ht:cr t cE 0){l:List cF}(hq:oz l)(hn:l.length<=100000){dir:Int}{n:Node}(hi:find t.ae dir=some n)(hk:n.kind=2)(M:aG) :
  aU (ar bN) 94 [.agg [aY t.ae,aF t.next,aF t.aj],cY l,aF dir] M=some (aF (jN t.ae l dir),M):=cO (c94 ht hq hn hi hk) M
def tP(t:Tree)(l:List cF)(an ae bytes:Int):List cF×Int :=
 if !(find t.ae an).isSome then (l,70)
 else if (aX t.ae an).kind != 2 then (l,73)
 else if decide (ae<0) then (if Fh l an then l.eraseIdx (wB l an) else l,0)
 else if decide ((jU t.ae an).1>ae)||decide ((jU t.ae an).2>bytes) then (l,90)
 else if Fh l an then (l.set (wB l an) ⟨an,ae,bytes⟩,0)
 else if decide ((l.length:Int)>=16) then (l,76)
 else (l.take (wB l an)++⟨an,ae,bytes⟩::l.drop (wB l an),0)
def aoH(t:Tree)(l:List cF)(an ae bytes:Int)(ht:Rt t)(hq:oz l)(hn:l.length<=16):ar bN 141 [bq t,cY l,aF an,aF ae,aF bytes] []=some (.tuple [cY (tP t l an ae bytes).1,aF (tP t l an ae bytes).2],[]):=by
 refine az ?_;have q1:=Wj t an ht.small ht.jo;have q2:=ak7 l an hq (by omega)
 have q3:=k93 ht an;have hb:=(xQ hq an).le
 have cz:Fh l an=true->wB l an<l.length:=by
  intro h;unfold Fh qy at h;split at h
  ·rename_i x hx; exact(aq.1 hx).1
  ·cases h
 unfold tP;generalize jU t.ae an=u at q3 ⊢;generalize wB l an=b at q2 hb cz ⊢;generalize Fh l an=e at q2 cz ⊢;simp only[aI] at q1
 by_cases h0:l=[]
 ·have hb0:b=0:=by subst h0; simpa using hb
  have he:e=false:=by
   cases e
   ·rfl
   ·have:=cz rfl; subst h0; simp at this
  subst he;have p1:=fun M=>Dd dU (f:=202) (sz:=3) (bytes:=24) rfl h0 M
  have p2:=fun M=>EZ (f:=229) (sz:=3) (bytes:=24) rfl hb0 (.agg [aF an,aF ae,aF bytes]) rfl M
  simp only[HU,Nf,bq,aJ,q1,q2,q3,aI,EW,seval]
  repeat' ((first|apply bp|apply bR|apply dE)<;>intro hb<;>simp only[hb,EW,Nf,q1,q2,q3,p1,p2,aI,seval])
  all_goals clear q1 q2 q3 p1 p2
  all_goals first|rfl|(simp_all only[pE,↓reduceIte,reduceCtorEq,ak]; done)|(simp_all only[pE,↓reduceIte,reduceCtorEq,ak]; rfl)
 ·have hb0:=hb;have p1:=fun M=>Cl dU (f:=202) (sz:=3) (bytes:=24) rfl (fun _=>rfl) (by omega) h0 (by omega) M
  have p2:=fun M=>H6 dU (f:=229) (sz:=3) (bytes:=24) (v:=0) (id:=3) rfl (by omega) hb (by omega) (.agg [aF an,aF ae,aF bytes]) rfl M
  cases he:e
  ·subst he;simp only[HU,Nf,bq,aJ,q1,q2,q3,aI,EW,seval]
   repeat' ((first|apply bp|apply bR|apply dE)<;>intro hb<;>simp only[hb,EW,Nf,q1,q2,q3,p1,p2,aI,seval])
   all_goals clear q1 q2 q3 p1 p2
   all_goals first|rfl|(simp_all only[pE,↓reduceIte,reduceCtorEq,ak]; done)|(simp_all only[pE,↓reduceIte,reduceCtorEq,ak]; rfl)|(simp_all only[pE,↓reduceIte,reduceCtorEq,ak]; exact congrArg (fun z=>some (ag.tuple [ag.slice .sh z,aF 0],([]:aG))) (Mp dU hb0 ⟨an,ae,bytes⟩))
  ·subst he;have p3:=fun M=>EY dU (f:=228) (sz:=3) (v:=0) (id:=2) rfl (cz rfl) (by omega) M
   have hbl:=cz rfl;have hx:=ai hbl;generalize l[b]=x at hx;have h1:((b:Int)<((l.length-0:Nat):Int))=True:=by simp; omega
   have hs:jj (l.map dU) b (putCells (dU x) 0 [aF an,aF ae,aF bytes])=(l.set b ⟨an,ae,bytes⟩).map dU:=by
    rw[gy,kN]; rfl
   have ht2:List.take l.length ((l.set b ⟨an,ae,bytes⟩).map dU)=(l.set b ⟨an,ae,bytes⟩).map dU:=bQ (by simp)
   have hw:IntKind.i64.wrap ((b:Int)+1)=((b+1:Nat):Int):=by have:=cz rfl; rw[gn (by omega) (by omega)]; rfl
   simp only[HU,Nf,bq,aJ,q1,q2,q3,hw,aI,EW,seval]
   repeat' ((first|apply bp|apply bR|apply dE)<;>intro hb<;>simp only[hb,EW,Nf,q1,q2,q3,p1,p2,p3,hw,h1,hx,hs,ht2,aI,seval])
   all_goals clear q1 q2 q3 p1 p2 p3
   all_goals first|rfl|(simp_all only[pE,↓reduceIte,reduceCtorEq,ak]; done)|(simp_all only[pE,↓reduceIte,reduceCtorEq,ak]; rfl)
end
section
attribute [local irreducible] eV fZ je gK eo kr ar aU cA bH
def vl{α:Type}(key:α->Int)(l:List α)(k:Int):Nat:=kV (fun x=>decide (pB (key x) k<0)) l
def Rq{α:Type}(key:α->Int)(l:List α)(k:Int):Bool:=qy (fun x=>pB (key x) k==0) l (vl key l k)
def My{α:Type}{key:α->Int}{l:List α}(h:l.Pairwise fun a b=>key a<key b)(k:Int):PS (fun x=>decide (pB (key x) k<0)) l (vl key l k):=by
 refine GI (h.imp ?_);intro a b hab hb;simp only[bg,xF] at hb ⊢;omega
def P4{α:Type}{key:α->Int}{l:List α}(h:l.Pairwise fun a b=>key a<key b)(k:Int) :
  (Rq key l k=true/\∃n,l[vl key l k]?=some n/\key n=k/\l.find? (fun x=>key x==k)=some n)\/(Rq key l k=false/\l.find? (fun x=>key x==k)=none):=by
 obtain⟨l1,l2⟩:=My h k;simp only[bg,xF] at l2;cases hf:l.find? (fun x=>key x==k) with
 |some n =>
  left;have hm:=fI hf;have he:key n=k:=by simpa using nF hf
  obtain⟨i,hi⟩:=bE hm;have hib:¬i<vl key l k:=fun hc=>by have:=(l2 i n hi).2 hc; omega
  have hb:vl key l k<l.length:=by have:=(aq.1 hi).1; omega
  have hx:=ai hb;have hnl:¬key l[vl key l k]<k:=fun hc=>im _ ((l2 _ _ hx).1 hc)
  have hie:i=vl key l k:=by
   rcases bD (vl key l k) i with cz|hge
   ·have hil:=(aq.1 hi).1;have h3:=bS.1 h _ _ hb hil cz;have h4:l[i]=n:=by rw[ai hil] at hi; injection hi
    rw[h4,he] at h3;exact absurd h3 hnl
   ·omega
  subst hie;exact⟨by unfold Rq qy; rw[hi]; simp[he,Gj],n,hi,he,rfl⟩
 |none =>
  right;refine⟨?_,rfl⟩;unfold Rq qy;split
  ·rename_i n hn;have:=df.1 hf n (aQ hn)
   show(pB (key n) k==0)=false
   rw[Gj];simpa using this
  ·rfl
def apI(x y:Node)(hx:x.aM.length<=100000):ar bN 225 [.agg (aI x),.agg (aI y)] []=some (.bool (decide (x=y)),[]):=by
 have hd:decide (x=y)=(x.an==y.an&&(x.kind==y.kind&&(x.cL==y.cL&&(x.up==y.up&&(x.data==y.data&&decide (x.aM=y.aM)))))):=by
  obtain⟨a,b,c,d,e,f⟩:=x;obtain⟨a',b',c',d',e',f'⟩:=y;simp only[Node.mk.injEq]
  by_cases h1:a=a'<;>by_cases h2:b=b'<;>by_cases h3:c=c'<;>by_cases h4:d=d'<;>by_cases h5:e=e'<;>by_cases h6:f=f'<;>simp[h1,h2,h3,h4,h5,h6]
 refine az ?_;have q:=fun M=>cO (aji x.aM y.aM hx) M
 rw[hd];simp only[abG,ahr,bG,aI,q,uX,EW,seval]
 repeat' ((first|apply bp|apply bR|apply dE)<;>intro hb<;>simp only[hb,EW,ahr,q,uX,seval])
 all_goals (simp only[pE,↓reduceIte,reduceCtorEq,ak]; done)
def alr x y hx:=cP (apI x y hx)
def Wh(ae:List Node)(an:Int):Int:=if Rq Node.an ae an then (vl Node.an ae an:Int) else -1
def c85(ae:List Node)(an:Int)(h:mG ae)(hn:ae.length<=100000):ar bN 85 [aY ae,aF an] []=some (aF (Wh ae an),[]):=by
 refine az ?_;have q:∀M,aU (ar bN) 160 [aY ae,aF an,.func 161 []] M=some (.tuple [aF (vl Node.an ae an),.bool (Rq Node.an ae an)],M):=fun M=>cO (ajo ae an _ (My h an) hn) M
 simp only[akw,E85,q,Wh,EW,seval];refine bp (fun hb=>?_) (fun hb=>?_)
 ·have hb':Rq Node.an ae an=false:=by simpa using hb
  simp only[E85,hb',af,aw,EW,seval]
 ·have hb':Rq Node.an ae an=true:=by simpa using hb
  simp only[E85,hb',aE,EW,seval]
def k85 ae an h hn:=cP (c85 ae an h hn)
def vx(l:List jm)(a b:Int):Bool:=l.any (tW a b)
def aoO(l:List jm)(a b:Int)(hn:l.length<=100000):ar bN 152 [kO l,aF a,aF b] []=some (.bool (vx l a b),[]):=by
 refine az ?_
 have q:aU (ar bN) 237 [kO l,.func 238 [b9 0,b9 1]] [bT [aF a],bT [aF b]]=some (.bool (vx l a b),[bT [aF a],bT [aF b]]) :=
  kB (ids:=[0,1]) rfl rfl (Lh a b) rfl rfl (ajA l a b hn) rfl rfl rfl rfl rfl
 simp only[aa3,ang,q,EW,seval]
def ak5 l a b hn:=cP (aoO l a b hn)
def k41(a b:Tree)(ha:Small a)(M:aG):aU (ar bN) 41 [.agg [aY a.ae,aF a.next,aF a.aj],.agg [aY b.ae,aF b.next,aF b.aj]] M=some (.bool (decide (a=b)),M):=cO (c41 a b ha) M
def ja(t:Tree)(cf:List jm)(tick:Int):List Node->List Int->List pj
 |n::r,x::y=>(if (decide (Wh t.ae n.an<0) || !decide (n=aX t.ae n.an))&&vx cf x tick then [⟨x,tick,n⟩] else [])++ja t cf tick r y
 |_,_=>[]
def qU(s:gh)(tick:Int)(n:Node):Int :=
 if decide (0<=Wh s.now.ae n.an)&&decide (n=aX s.now.ae n.an) then s.since.getD (vl Node.an s.now.ae n.an) 0 else tick
def ki(s:gh)(t:Tree):gh:=if decide (s.now=t) then s else
 ⟨t,kR (s.tick+1),t.ae.map (qU s (kR (s.tick+1))),s.dz++ja t s.cf (kR (s.tick+1)) s.now.ae s.since,s.cf,s.next⟩
def zp{ae:List Node}(h:mG ae)(an:Int) :
  (Rq Node.an ae an=true/\Wh ae an=(vl Node.an ae an:Int)/\ae[vl Node.an ae an]?=some (aX ae an)/\find ae an=some (aX ae an))\/(Rq Node.an ae an=false/\Wh ae an = -1/\find ae an=none):=by
 rcases P4 (key:=Node.an) h an with ⟨h1,n,h2,_,h4⟩|⟨h1,h2⟩
 ·left;have h4':find ae an=some n:=h4;have h5:aX ae an=n:=by simp[aX,h4']
  exact⟨h1,by simp[Wh,h1],by rw[h5]; exact h2,by rw[h5]; exact h4'⟩
 ·right;exact⟨h1,by simp[Wh,h1],h2⟩
def yd(s:gh)(t:Tree)(P:List pj)(S:List Int):aG :=
 [.cells (bo s),.cells (aJ t),.cells [.slice .c0 [],.int .i64 0,.int .i64 0,.int .i64 0,.slice .c0 [],.slice .c0 [],.slice .c0 [],.int .i64 0],.tick 8 P.length,
  .cells [aY t.ae,.int .i64 t.next,.int .i64 t.aj,.int .i64 (kR (s.tick+1)),.slice (.own 5) (S.map mb),.slice (.own 3) (P.map kI),kO s.cf,.int .i64 s.next],.tick 1 S.length]
def Uk{s:gh}{t:Tree}(hs:rh s.now)(hz:Sz 200 s.now)(ht:rh t)(hzt:Sz 200 t)(hk:s.cf.length<=100000)(hl:s.since.length=s.now.ae.length){k:List K}{R:List pj->Option (ag×aG)}
  (hx:∀P e,kr (ar bN) [.dC 4 8] 0 k ⟨.exit 0,(2,b9 0)::(3,b9 1)::(4,b9 2)::(5,b9 4)::e,yd s t P []⟩=R P) :
  ∀(l pre:List Node)(y ypre:List Int)(P:List pj),s.now.ae=pre++l->s.since=ypre++y->ypre.length=pre.length->P.length<=100000+pre.length ->
   eV (ar bN) [.dC 4 8] 0 k (.loop [2,3,4,5,32,33,34] XX) [(2,b9 0),(3,b9 1),(4,b9 2),(5,b9 4),(32,aY s.now.ae),(33,aF s.now.ae.length),(34,aF pre.length)] (yd s t P []) =
   R (P++ja t s.cf (kR (s.tick+1)) l y):=by
 intro l;induction l with
 |nil =>
  intro pre y ypre P h hy hyl hP;rw[bt];have hy0:y=[]:=by have:=congrArg List.length h; have h2:=congrArg List.length hy; simp at this h2; exact cj.1 (by omega)
  subst hy0;simp only[yd,F4,gU h,ja,EW,seval] at hx ⊢;exact hx _ _
 |cons n rest ih =>
  intro pre y ypre P h hy hyl hP;rw[bt];have hn200:=hz.ae;have dQ:pre.length+1<=200:=by rw[h] at hn200; simp at hn200; omega
  have hw:=vY pre n;cases y with
  |nil=>have h1:=congrArg List.length h; have h2:=congrArg List.length hy; simp at h1 h2; omega
  |cons x y =>
   have hxa:s.since[pre.length]?=some x:=by rw[hy,<-hyl]; simp
   have hi1:=ih (pre++[n]) y (ypre++[x]) P (by rw[h]; simp) (by rw[hy]; simp) (by simp[hyl]) (by simp; omega)
   have hi2:=ih (pre++[n]) y (ypre++[x]) (P++[⟨x,kR (s.tick+1),n⟩]) (by rw[h]; simp) (by rw[hy]; simp) (by simp[hyl]) (by simp; omega)
   have q1:=k85 t.ae n.an ht.jv (by have:=hzt.ae; omega)
   have q2:=alr n (aX t.ae n.an) (by have:=hz.aM n (by rw[h]; simp); omega)
   have q3:=ak5 s.cf x (kR (s.tick+1)) hk;have r1:cu (P.length+1) 96=True:=rb;rw[ja];simp only[yd,aI,aJ,bo,aD,au,av,aL,bu,aP,a8] at hi1 hi2 q1 q2 q3;rcases zp ht.jv n.an with ⟨_,a2,a3,a4⟩|⟨_,a2,a4⟩
   ·have ha0:((vl Node.an t.ae n.an:Int)<0)=False:=by simp
    generalize decide (n=aX t.ae n.an)=e1 at q2 ⊢;generalize vx s.cf x (kR (s.tick+1))=e2 at q3 ⊢;cases e1<;>cases e2<;>simp only[yd,F4,gd h,fc h,aI,aJ,bo,q1,q2,q3,a2,a3,ha0,hxa,hw,r1,EW,seval]
    ·simpa using hi1
    ·simpa[kI,mL,aI] using hi2
    ·simpa using hi1
    ·simpa using hi1
   ·have ha0:((-1:Int)<0)=True:=by simp
    generalize decide (n=aX t.ae n.an)=e1 at q2 ⊢;generalize vx s.cf x (kR (s.tick+1))=e2 at q3 ⊢;cases e2<;>simp only[yd,F4,gd h,fc h,aI,aJ,bo,q1,q2,q3,a2,ha0,hxa,hw,r1,EW,seval]
    ·simpa using hi1
    ·simpa[kI,mL,aI] using hi2
def Ul{s:gh}{t:Tree}(hs:rh s.now)(hz:Sz 200 s.now)(hzt:Sz 200 t)(hl:s.since.length=s.now.ae.length)(P:List pj){k:List K}{R:List Int->Option (ag×aG)}
  (hx:∀S e,kr (ar bN) [.dC 4 8] 0 k ⟨.exit 2,(2,b9 0)::(4,b9 2)::(5,b9 4)::e,yd s t P S⟩=R S) :
  ∀(l pre:List Node)(S:List Int),t.ae=pre++l->S.length<=100000+pre.length ->
   eV (ar bN) [.dC 4 8] 0 k (.loop [2,4,5,84,85,86] XY) [(2,b9 0),(4,b9 2),(5,b9 4),(84,aY t.ae),(85,aF t.ae.length),(86,aF pre.length)] (yd s t P S) =
   R (S++l.map (qU s (kR (s.tick+1)))):=by
 intro l;induction l with
 |nil =>
  intro pre S h hS;rw[bt];simp only[yd,F4,gU h,EW,seval] at hx ⊢;exact hx _ _
 |cons n rest ih =>
  intro pre S h hS;rw[bt];have hn200:=hzt.ae;have dQ:pre.length+1<=200:=by rw[h] at hn200; simp at hn200; omega
  have hw:=vY pre n;have hi1:=ih (pre++[n]) (S++[qU s (kR (s.tick+1)) n]) (by rw[h]; simp) (by simp; omega)
  have q1:=k85 s.now.ae n.an hs.jv (by have:=hz.ae; omega)
  have q2:=alr n (aX s.now.ae n.an) (by have:=hzt.aM n (by rw[h]; simp); omega)
  have r1:cu (S.length+1) 8=True:=rb;rw[aP];unfold qU at hi1 ⊢;simp only[yd,aI,aJ,bo,aD,au,av,aL,bu,aP,a8] at hi1 q1 q2;rcases zp hs.jv n.an with ⟨_,a2,a3,a4⟩|⟨_,a2,a4⟩
  ·have ha0:(0<=(vl Node.an s.now.ae n.an:Int))=True:=by simp
   have cz:vl Node.an s.now.ae n.an<s.since.length:=by rw[hl]; exact(aq.1 a3).1
   have hxa:=ai cz;have hxd:s.since.getD (vl Node.an s.now.ae n.an) 0=s.since[vl Node.an s.now.ae n.an]:=by simp[List.getD,hxa]
   rw[hxd] at hi1 ⊢;generalize s.since[vl Node.an s.now.ae n.an]=x at hxa hi1 ⊢;generalize decide (n=aX s.now.ae n.an)=e1 at q2 hi1 ⊢;rw[a2] at hi1 ⊢;cases e1<;>simp only[yd,F4,gd h,fc h,aI,aJ,bo,q1,q2,a2,a3,ha0,hxa,hw,r1,ud,EW,seval]
   ·simpa using hi1
   ·simpa using hi1
  ·have ha0:(0<=(-1:Int))=False:=by simp
   rw[a2] at hi1 ⊢;simp only[yd,F4,gd h,fc h,aI,aJ,bo,q1,q2,a2,ha0,hw,r1,ud,EW,seval];simpa using hi1
def Rf{α:Type}(enc:α->ag){f sz bytes:Nat}(hp:bN.nc f=some (rF sz bytes))(hw:∀a,(enc a).cells.length=sz)(hb:bytes<=1000){l:List α}(hn:l.length<=100000)(M:aG) :
  ar bN f [hZ (l.map enc)] M=some (.slice (.own M.length) (l.map enc),M++[.tick sz l.length]):=by
 refine eY (g:=rF sz bytes) hp ?_;have hw':wid (l.map enc) sz:=by have:=td enc sz hw l; simpa using this
 have hr:cu (l.map enc).length bytes:=by have:=qS (a:=l.length) (b:=bytes) (by omega) (by omega); simpa using this
 unfold rF;simp only[];rw[dV ⟨hw',hr⟩];rw[fH]
def DP{α:Type}(enc:α->ag){f sz bytes:Nat}(hp:bN.nc f=some (rF sz bytes))(hw:∀a,(enc a).cells.length=sz)(hb:bytes<=1000){l:List α}(hn:l.length<=100000)(M:aG) :
  Be (ar bN) f [hZ (l.map enc)] M=some (.slice (.own M.length) (l.map enc),M++[.tick sz l.length]):=by
 unfold Be;rw[bc ⟨rfl,rfl⟩,Rf enc hp hw hb hn,bV];rfl
def aoF(s:gh)(t:Tree)(hs:rh s.now)(hz:Sz 200 s.now)(ht:rh t)(hzt:Sz 200 t)(hk:s.cf.length<=100000)(hl:s.since.length=s.now.ae.length)(hp:s.dz.length<=100000) :
  ar bN 137 [pQ s,bq t] []=some (pQ (ki s t),[]):=by
 refine az ?_;have q1:=k41 s.now t (hz.small (by omega))
 have p1:=fun M=>DP kI (f:=224) (sz:=8) (bytes:=96) rfl (fun _=>rfl) (by omega) hp M
 have l2:=fun P=>Ul hs hz hzt hl P (k:=[.block 2,.seq ZN]) (R:=fun S=>some (.agg [aY t.ae,aF t.next,aF t.aj,aF (kR (s.tick+1)),wU S,vO P,kO s.cf,aF s.next],[]))
  (fun S e=>by simp only[yd,bo,aJ,F4,EW,seval]) t.ae [] [] rfl (by simp)
 have l1:=Uk hs hz ht hzt hk hl (k:=[.block 0,.seq ZO]) (R:=fun P=>some (.agg [aY t.ae,aF t.next,aF t.aj,aF (kR (s.tick+1)),wU (t.ae.map (qU s (kR (s.tick+1)))),vO P,kO s.cf,aF s.next],[]))
  (fun P e=>by
   have:=l2 P;simp only[yd,bo,aJ,av,aZ] at this;simp only[yd,bo,aJ,F4,EW,seval];exact this) s.now.ae [] s.since [] s.dz rfl rfl rfl (by simpa using hp)
 unfold ki;generalize decide (s.now=t)=e1 at q1 ⊢;simp only[yd,bo,aJ,av] at l1;cases e1<;>simp only[QP,F4,pQ,bo,bq,aJ,q1,p1,or_false,EW,seval]
 exact l1
end
section
def zu{C:eK}{f g p:Nat}{xs:List ag}{r:ag}{M:aG}{c:ag}(hM:nth M p=some (bT [c]))(h:C f [hZ xs,.func g [b9 0]] [bT [c]]=some (r,[bT [c]]))(h3:r.we=true)(h5:r.Bg (wD [p])=r)
  (h6:c.vf&&c.mM.isEmpty=true) (h8:∀ρ,c.r8 ρ=c:=by intro ρ; rfl):aU C f [hZ xs,.func g [b9 p]] M=some (r,M):=by
 simp only[bn,List.isEmpty_iff,bg] at h6;obtain⟨h6,h7⟩:=h6;have hids:[ag.slice .sh xs,.func g [b9 p]].flatMap ag.ids=[p]:=rfl;have hi:pX M [p]=[]:=by simp[pX,hM,dy.ids,h7]
 have e0:kD M [p]=[p]:=by simp[kD,hi,j8]
 have e1:reach M [p]=[p]:=by
  have ea:j8 [] [p]=[p]:=rfl;simp only[reach,ea,e0]
 have hfl:[ag.slice .sh xs,.func g [b9 p]].all ag.flat=true:=rfl;unfold aU;rw[bc hfl,hids,e1];have hpk:jE M (iy [p]) [p]=some [bT [c]]:=by simp[jE,hM,dy.flat,h6,dy.pL,h8]
 rw[hpk];simp only[bV];rw[bc e0]
 have hrn:[ag.slice .sh xs,.func g [b9 p]].map (ag.pL (iy [p]))=[hZ xs,.func g [b9 0]]:=by
  simp[ag.pL,ag.r8,ag.sZ,iy]
 rw[hrn,h];simp only[bV];rw[bc ⟨by trivial,h3,by simp[dy.flat,h6]⟩,h5]
 simp only[kY,dy.pL,aP,a8,h8];rw[uC hM]
attribute [local irreducible] eV fZ je gK eo kr ar aU cA bH
def kJ(id:Int)(x:jm):Bool:=x.id != id
def ri(tk:List jm)(p:pj):Bool:=vx tk p.jw p.pT
def Rs(n:jm):(gS n).all ag.iP=true:=rfl
def Vl(n:jm):(gS n).all ag.plainCell=true:=rfl
def Vk(n:pj):(mL n).all ag.plainCell=true:=rfl
def Rr(n:pj):(mL n).all ag.iP=true:=rfl
def takeN(s:gh)(an:Int):gh×Int×Int :=
 if !(find s.now.ae an).isSome then (s,0,70)
 else if (aX s.now.ae an).kind != 2 then (s,0,73)
 else if decide ((s.cf.length:Int)>=16)||decide (s.next>=1099511627776) then (s,0,76)
 else (⟨s.now,s.tick,s.since,s.dz,s.cf++[⟨s.next,an,s.tick⟩],kR (s.next+1)⟩,s.next,0)
def aoI(s:gh)(an:Int)(hz:Small s.now)(hs:rh s.now)(hk:s.cf.length<=16):ar bN 142 [pQ s,aF an] []=some (.tuple [pQ (takeN s an).1,aF (takeN s an).2.1,aF (takeN s an).2.2],[]):=by
 refine az ?_;have q1:=Wj s.now an hz hs;have p1:=fun M=>DP j6 (f:=230) (sz:=3) (bytes:=24) rfl (fun _=>rfl) (by omega) (l:=s.cf) (by omega) M
 have r1:cu (s.cf.length+1) 24=True:=rb;unfold takeN;simp only[aI] at q1;simp only[QQ,ahh,pQ,bo,q1,aI,EW,seval]
 repeat' ((first|apply bp|apply bR|apply dE)<;>intro hb<;>simp only[hb,EW,ahh,q1,p1,r1,or_false,aI,seval])
 all_goals clear q1 p1
 all_goals first|rfl|(simp_all only[pE,↓reduceIte,reduceCtorEq,ak]; done)|(simp_all only[pE,↓reduceIte,reduceCtorEq,ak,bo]; rfl)|(simp_all only[pE,↓reduceIte,reduceCtorEq,ak,bo,kO,bu,aP,a8]; rfl)
def aq5(s:gh)(an:Int)(hz:Small s.now)(hs:rh s.now)(hk:s.cf.length<=16)(M:aG):aU (ar bN) 142 [.agg (bo s),aF an] M=some (.tuple [.agg (bo (takeN s an).1),aF (takeN s an).2.1,aF (takeN s an).2.2],M) :=
 cO (aoI s an hz hs hk) M
def apM(x:jm)(id:Int):ar bN 233 [j6 x,b9 0] [bT [aF id]]=some (.bool (kJ id x),[bT [aF id]]):=by
 refine az ?_;simp only[kJ,abJ,anx,j6,gS,EW,seval]
def apO(p:pj)(tk:List jm)(hk:tk.length<=100000):ar bN 235 [kI p,b9 0] [bT [kO tk]]=some (.bool (ri tk p),[bT [kO tk]]):=by
 refine az ?_;unfold ri;have q:=ak5 tk p.jw p.pT hk;simp only[abK,anz,kI,mL,aI,q,EW,seval]
def Y4{xs:List jm}{id:Int}  (hn:xs.length<=100000){k:List K}{R:List jm->Option (ag×aG)}
  (hx:∀(out:List jm) e,kr (ar bN) [.tmp 4] 1 k ⟨.exit 0,(1,.func 233 [b9 0])::(5,.slice (.own 1) (out.map j6))::e,[bT [aF id],.tick 3 out.length]⟩=R out) :
  ∀(l pre out:List jm),xs=pre++l->out.length<=pre.length->eV (ar bN) [.tmp 4] 1 k (.loop [1,5,8,9,10] Yl) [(1,.func 233 [b9 0]),(5,.slice (.own 1) (out.map j6)),(8,hZ (xs.map j6)),(9,aF xs.length),(10,aF pre.length)] [bT [aF id],.tick 3 out.length] =
   R (out++l.filter (kJ id)):=by
 intro l;induction l with
 |nil =>
  intro pre out h ho;rw[bt];simp only[Wx,gU h,lG,EW,seval];exact hx _ _
 |cons n rest ih =>
  intro pre out h ho;rw[bt];have dQ:pre.length+1<=100000:=by rw[h] at hn; simp at hn; omega
  have hw:=vY pre n;have hi1:=ih (pre++[n]) out (by rw[h]; simp) (by simp; omega)
  have hi2:=ih (pre++[n]) (out++[n]) (by rw[h]; simp) (by simp; omega)
  simp only[aD,au,av,aL,bu,aP,a8] at hi1 hi2;have r1:cu (out.length+1) 24=True:=rb
  have q1:∀M,nth M 0=some (bT [aF id])->aU (ar bN) 233 [.agg (gS n),b9 0] M=some (.bool ((kJ id) n),M) :=
   fun M hM=>xE (f:=233) (p:=0) (vs:=[.agg (gS n)]) hM (apM n id) rfl rfl rfl rfl rfl rfl rfl rfl rfl
  rw[eF];generalize (kJ id) n=e at q1 ⊢;cases e<;>simp only[Wx,gd h,fc h,q1,hw,r1,Rs,Rr,Vl,Vk,aE,af,aw,EW,seval]
  ·exact hi1
  ·simpa[j6] using hi2
def apL(xs:List jm)(id:Int)  (hn:xs.length<=100000):ar bN 232 [hZ (xs.map j6),.func 233 [b9 0]] [bT [aF id]]=some (hZ ((xs.filter (kJ id)).map j6),[bT [aF id]]):=by
 refine az ?_;simp only[Q3,Wx,EW,seval];exact Y4  hn (R:=fun out=>some (hZ (out.map j6),[bT [aF id]])) (fun out e=>by simp only[Wx,EW,seval]) xs [] [] rfl (aC _)
def Y5{xs:List pj}{tk:List jm}(hk:tk.length<=100000)(hn:xs.length<=100000){k:List K}{R:List pj->Option (ag×aG)}
  (hx:∀(out:List pj) e,kr (ar bN) [.tmp 4] 1 k ⟨.exit 0,(1,.func 235 [b9 0])::(5,.slice (.own 1) (out.map kI))::e,[bT [kO tk],.tick 8 out.length]⟩=R out) :
  ∀(l pre out:List pj),xs=pre++l->out.length<=pre.length->eV (ar bN) [.tmp 4] 1 k (.loop [1,5,8,9,10] Ym) [(1,.func 235 [b9 0]),(5,.slice (.own 1) (out.map kI)),(8,hZ (xs.map kI)),(9,aF xs.length),(10,aF pre.length)] [bT [kO tk],.tick 8 out.length] =
   R (out++l.filter (ri tk)):=by
 intro l;induction l with
 |nil =>
  intro pre out h ho;rw[bt];simp only[Wy,gU h,lG,EW,seval];exact hx _ _
 |cons n rest ih =>
  intro pre out h ho;rw[bt];have dQ:pre.length+1<=100000:=by rw[h] at hn; simp at hn; omega
  have hw:=vY pre n;have hi1:=ih (pre++[n]) out (by rw[h]; simp) (by simp; omega)
  have hi2:=ih (pre++[n]) (out++[n]) (by rw[h]; simp) (by simp; omega)
  simp only[aD,au,av,aL,bu,aP,a8] at hi1 hi2;have r1:cu (out.length+1) 96=True:=rb
  have q1:∀M,nth M 0=some (bT [kO tk])->aU (ar bN) 235 [.agg (mL n),b9 0] M=some (.bool ((ri tk) n),M) :=
   fun M hM=>xE (f:=235) (p:=0) (vs:=[.agg (mL n)]) hM (apO n tk hk) rfl rfl rfl rfl rfl rfl rfl rfl rfl
  rw[eF];generalize (ri tk) n=e at q1 ⊢;cases e<;>simp only[Wy,gd h,fc h,q1,hw,r1,Rs,Rr,Vl,Vk,aE,af,aw,EW,seval]
  ·exact hi1
  ·simpa[kI] using hi2
def apN(xs:List pj)(tk:List jm)(hk:tk.length<=100000)(hn:xs.length<=100000):ar bN 234 [hZ (xs.map kI),.func 235 [b9 0]] [bT [kO tk]]=some (hZ ((xs.filter (ri tk)).map kI),[bT [kO tk]]):=by
 refine az ?_;simp only[Q4,Wy,EW,seval];exact Y5 hk hn (R:=fun out=>some (hZ (out.map kI),[bT [kO tk]])) (fun out e=>by simp only[Wy,EW,seval]) xs [] [] rfl (aC _)
def nV(s:gh)(id:Int):gh×Int :=
 if ((s.cf.filter (kJ id)).length:Int)==(s.cf.length:Int) then (s,100)
 else (⟨s.now,s.tick,s.since,s.dz.filter (ri (s.cf.filter (kJ id))),s.cf.filter (kJ id),s.next⟩,0)
def aoM(s:gh)(id:Int)(hk:s.cf.length<=100000)(hp:s.dz.length<=100000):ar bN 147 [pQ s,aF id] []=some (.tuple [pQ (nV s id).1,aF (nV s id).2],[]):=by
 refine az ?_;have hf:(s.cf.filter (kJ id)).length<=100000:=aW (bU _ _) hk
 have q1:∀M,nth M 1=some (bT [aF id])->aU (ar bN) 232 [kO s.cf,.func 233 [b9 1]] M=some (kO (s.cf.filter (kJ id)),M):=by
  intro M hM;exact zu hM (apL s.cf id hk) rfl rfl rfl
 unfold nV;generalize (s.cf.filter (kJ id))=tk at q1 hf ⊢
 have q2:∀M,nth M 3=some (bT [kO tk])->aU (ar bN) 234 [vO s.dz,.func 235 [b9 3]] M=some (vO (s.dz.filter (ri tk)),M):=by
  intro M hM;exact zu hM (apN s.dz tk hf hp) rfl rfl rfl
 simp only[aa1,ahi,pQ,bo,q1,EW,seval]
 repeat' ((first|apply bp|apply bR|apply dE)<;>intro hb<;>simp only[hb,EW,ahi,q1,q2,seval])
 all_goals clear q1 q2
 all_goals first|rfl|(simp_all only[pE,↓reduceIte,reduceCtorEq,ak]; done)|(simp_all only[pE,↓reduceIte,reduceCtorEq,ak,bo]; rfl)
def aq8(s:gh)(id:Int)(hk:s.cf.length<=100000)(hp:s.dz.length<=100000)(M:aG):aU (ar bN) 147 [.agg (bo s),aF id] M=some (.tuple [.agg (bo (nV s id).1),aF (nV s id).2],M) :=
 cO (aoM s id hk hp) M
def c37(t:Tree)(ht:t.ae.length<=100000):ar bN 37 [bq t] []=some (pQ ⟨t,0,List.replicate t.ae.length 0,[],[],1⟩,[]):=by
 refine az ?_;have r1:cu t.ae.length 8=True:=rb;simp only[akm,E37,bq,aJ,pQ,bo,r1,ag.norm,wU,gJ,EW,seval];rfl
end
abbrev eU:Unit->ag:=fun _ => .agg []
def flN(l:AM Node):(ra bG l).all ag.flat=true:=KJ _ (fun _=>rfl) l
def rnN(ρ:Nat->Nat)(l:AM Node):(ra bG l).map (ag.pL ρ)=ra bG l:=VC _ _ (fun _=>rfl) l
def akV(l:AM Node):(ra bG l).flatMap ag.ids=[]:=Rj _ (fun _=>rfl) l
def WV(B:Nat)(M:aG)(l:AM Node):List.map (ag.kG B M) (ra bG l)=ra bG l:=WW _ _ _ (fun _=>rfl) l
def flU(l:AM Unit):(ra eU l).all ag.flat=true:=KJ _ (fun _=>rfl) l
def rnU(ρ:Nat->Nat)(l:AM Unit):(ra eU l).map (ag.pL ρ)=ra eU l:=VC _ _ (fun _=>rfl) l
def aqK(l:AM Unit):(ra eU l).flatMap ag.ids=[]:=Rj _ (fun _=>rfl) l
def bkU(B:Nat)(M:aG)(l:AM Unit):List.map (ag.kG B M) (ra eU l)=ra eU l:=WW _ _ _ (fun _=>rfl) l
abbrev VS:=AM Unit×List Node
def fU(all:AM Node):Nat->Int->VS->Bool×VS
 |0,_,st=>(false,st)
 |f+1,an,st =>
  if (dx st.1 an).isSome=true then (true,st) else
  if !(dx all an).isSome then (false,(lR st.1 an (),st.2)) else
  ((dx all an).getD Node.zero).aM.foldl (fun w e=>((fU all f e.an w.2).1&&w.1,(fU all f e.an w.2).2)) (true,(lR st.1 an (),st.2++[(dx all an).getD Node.zero]))
def missing(all:AM Node)(met:AM Unit):Nat:=(all.filter fun p=>(dx met p.1).isNone).length
def rX(all:AM Node)(met:AM Unit)(an:Int):missing all (lR met an ())<=missing all met:=by
 unfold missing;simp only[gZ];induction all with
 |nil=>simp
 |cons p r ih =>
  simp only[eF]
  by_cases h:p.1=an
  ·simp only[h,aE,Option.isNone_some,af,aw];split
   ·simp only[au]; omega
   ·exact ih
  ·simp only[h,aw];split
   ·simp only[au]; omega
   ·exact ih
def yW{all:AM Node}{met:AM Unit}{an:Int}{n:Node}(h:dx all an=some n)(h0:dx met an=none):missing all (lR met an ())<missing all met:=by
 have hm:=vo _ _ _ h;clear h;unfold missing;induction all with
 |nil=>cases hm
 |cons p r ih =>
  simp only[eF,gZ]
  by_cases hp:p.1=an
  ·have h1:=rX r met an;unfold missing at h1;simp only[gZ] at h1;simp only[hp,aE,Option.isNone_some,af,aw,h0,Option.isNone_none];simp only[au];omega
  ·rcases bC.1 hm with h2|h2
   ·exact absurd (by rw[<-h2]) hp
   ·have:=ih h2;simp only[gZ] at this;simp only[hp,aw];split
    ·simp only[au]; omega
    ·exact this
structure uV(all:AM Node)(st st':VS):Prop where
 len:st'.2.length+missing all st'.1<=st.2.length+missing all st.1
 IL:missing all st'.1<=missing all st.1
 met:∀j,(dx st.1 j).isSome=true->(dx st'.1 j).isSome=true
 nodup:(st.2.map Node.an).Nodup->(∀n,n∈st.2->(dx st.1 n.an).isSome=true)->(st'.2.map Node.an).Nodup/\∀n,n∈st'.2->(dx st'.1 n.an).isSome=true
def uV.refl(all:AM Node)(st:VS):uV all st st:=⟨aC _,aC _,fun _ h=>h,fun h1 h2=>⟨h1,h2⟩⟩
theorem uV.trans{all:AM Node}{a b c:VS}(h:uV all a b)(k:uV all b c):uV all a c :=
 ⟨aW k.len h.len,aW k.IL h.IL,fun j hj=>k.met j (h.met j hj),fun h1 h2=>let ⟨g1,g2⟩:=h.nodup h1 h2; k.nodup g1 g2⟩
def Own(all:AM Node):Prop:=∀k n,dx all k=some n->n.an=k
def xv{all:AM Node}(ho:Own all):∀(f:Nat)(an:Int)(st:VS),uV all st (fU all f an st).2:=by
 intro f;induction f with
 |zero=>intro an st; exact uV.refl _ _
 |succ f ih =>
  intro an st;rw[fU];split
  ·exact uV.refl _ _
  ·rename_i h0;have h0:dx st.1 an=none:=by simpa using h0
   have hput:uV all st (lR st.1 an (),st.2):=by
    refine⟨?_,rX _ _ _,fun j hj=>?_,fun h1 h2=>⟨h1,fun n hn=>?_⟩⟩
    ·have:=rX all st.1 an;simp only;omega
    ·simp only[gZ]; split
     ·rfl
     ·exact hj
    ·simp only[gZ]; split
     ·rfl
     ·exact h2 n hn
   split
   ·exact hput
   ·rename_i h1;cases hn:dx all an with
    |none=>simp[hn] at h1
    |some n =>
     simp only[bh]
     have hstep:uV all st (lR st.1 an (),st.2++[n]):=by
      have cz:=yW hn h0;refine⟨by simp; omega,rX _ _ _,hput.met,fun g1 g2=>?_⟩
      have hni:=ho _ _ hn;refine⟨?_,fun m hm=>?_⟩
      ·rw[bu,List.nodup_append];refine⟨g1,by simp,?_⟩
       intro a ha b hb;simp only[aP,a8,bM] at hb;subst hb;intro hab;obtain⟨m,hm,rfl⟩:=dj.1 ha;have:=g2 m hm;rw[hab,hni,h0] at this;cases this
      ·rcases bm.1 hm with h|h
       ·exact(hput.nodup g1 g2).2 m h
       ·simp only[bM] at h;subst h;simp only[gZ,hni,aE,bZ]
     have hfold:∀(l:List fp)(w:Bool×VS),uV all w.2 (l.foldl (fun w e=>((fU all f e.an w.2).1&&w.1,(fU all f e.an w.2).2)) w).2:=by
      intro l;induction l with
      |nil=>intro w; exact uV.refl _ _
      |cons e r ihr =>
       intro w;rw[dZ];exact(ih e.an w.2).trans (ihr ((fU all f e.an w.2).1&&w.1,(fU all f e.an w.2).2))
     exact hstep.trans (hfold n.aM (true,(lR st.1 an (),st.2++[n])))
def uE:ag := .func 157 [.ptr 0 0,.ptr 1 0,.ptr 2 0,.ptr 3 0]
def mD(all:AM Node)(st:VS):aG:=[.cells [.ia 4],.cells [.ia 5],.cells [.cS 6 st.2.length 6 0 st.2.length],.cells [uE],.map (Ca st.1) (ra eU st.1),.map (Ca all) (ra bG all),.arr 6 st.2.length (st.2.map bG)]
def MR(all:AM Node)(st:VS):(mD all st).map (dy.pL (iy [0,1,2,3,4,5,6]))=mD all st/\(mD all st).map (dy.pL (wD [0,1,2,3,4,5,6]))=mD all st:=by
 constructor
 ·simp only[mD,aP,a8,dy.pL,rnN,rnU]; rfl
 ·simp only[mD,aP,a8,dy.pL,rnN,rnU]; rfl
def amA(all:AM Node)(st:VS)(L:aG):jE (mD all st++L) (iy [0,1,2,3,4,5,6]) [0,1,2,3,4,5,6]=some (mD all st):=by
 have h:=(MR all st).1;simp only[mD,aP,a8] at h;injection h with h0 h; injection h with h1 h; injection h with h2 h; injection h with h3 h; injection h with h4 h; injection h with h5 h; injection h with h6 h
 simp only[mD,aR,aZ,jE,nth,h0,h1,h2,h3,h4,h5,h6];simp only[dy.flat,flN,flU,aE];rfl
def aqM(all:AM Node)(st:VS)(L:aG):pX (mD all st++L) [0,1,2,3]=[4,5,6,0,1,2,3]/\pX (mD all st++L) [0,1,2,3,4,5,6]=[4,5,6,0,1,2,3]:=by
 refine⟨rfl,?_⟩
 show[4,5,6,0,1,2,3]++((ra eU st.1).flatMap ag.ids++((ra bG all).flatMap ag.ids++([]++[])))=_
 rw[aqK,akV]; rfl
def VA(all:AM Node)(st:VS)(L:aG):reach (mD all st++L) [0,1,2,3]=[0,1,2,3,4,5,6]/\kD (mD all st++L) [0,1,2,3,4,5,6]=[0,1,2,3,4,5,6]:=by
 obtain⟨h1,h2⟩:=aqM all st L;have e0:j8 [] [0,1,2,3]=[0,1,2,3]:=rfl;have e1:j8 [0,1,2,3] [4,5,6,0,1,2,3]=[0,1,2,3,4,5,6]:=rfl;have e2:j8 [0,1,2,3,4,5,6] [4,5,6,0,1,2,3]=[0,1,2,3,4,5,6]:=rfl;simp only[reach,kD,e0,h1,e1,h2,e2,jZ]
def agW(all:AM Node)(st st':VS)(L:aG):kY [0,1,2,3,4,5,6] (mD all st++L) [0,1,2,3,4,5,6] (mD all st')=mD all st'++L:=by
 have h:=(MR all st').2;simp only[mD,aP,a8] at h;injection h with h0 h; injection h with h1 h; injection h with h2 h; injection h with h3 h; injection h with h4 h; injection h with h5 h; injection h with h6 h
 simp only[mD,aR,aZ,kY,h0,h1,h2,h3,h4,h5,h6,jj]
def aaH(all:AM Node)(st:VS):(mD all st).all dy.flat=true:=by
 simp only[mD,lq,dy.flat,flN,flU]; rfl
def adG{all:AM Node}{an:Int}{st st':VS}{b:Bool}{L:aG}(h:ar bN 157 [aF an,b9 0,b9 1,b9 2,b9 3] (mD all st)=some (.bool b,mD all st')) :
  aU (ar bN) 157 [aF an,b9 0,b9 1,b9 2,b9 3] (mD all st++L)=some (.bool b,mD all st'++L) :=
 kB (ids:=[0,1,2,3,4,5,6]) rfl (VA all st L).1 (amA all st L) (VA all st L).2 rfl h rfl rfl (aaH all st') rfl (agW all st st' L)
section
attribute [local irreducible] eV fZ je gK eo kr ar aU cA bH
def YN{all:AM Node}{n:Node}{f:Nat}(ho:Own all){k:List K}{R:Bool×VS->Option (ag×aG)}(hn:n.aM.length<=100000)
  (ih:∀e,e∈n.aM->∀st,missing all st.1<f->st.2.length+missing all st.1<=200000->ar bN 157 [aF e.an,b9 0,b9 1,b9 2,b9 3] (mD all st)=some (.bool (fU all f e.an st).1,mD all (fU all f e.an st).2))
  (hx:∀w e,kr (ar bN) [.tmp 6] 7 k ⟨.exit 0,(4,b9 3)::(11,.bool w.1)::e,mD all w.2++[bT [],bT (aI n)]⟩=R w) :
  ∀(l pre:List fp)(w:Bool×VS),n.aM=pre++l->missing all w.2.1<f->w.2.2.length+missing all w.2.1<=200000->eV (ar bN) [.tmp 6] 7 k (.loop [4,11,37,38,39] X1) [(4,b9 3),(11,.bool w.1),(37,ic n.aM),(38,aF n.aM.length),(39,aF pre.length)] (mD all w.2++[bT [],bT (aI n)]) =
   R (l.foldl (fun w e=>((fU all f e.an w.2).1&&w.1,(fU all f e.an w.2).2)) w):=by
 intro l;induction l with
 |nil =>
  intro pre w h _ _;rw[bt];simp only[mD,Nh,gU h,mo,EW,seval] at hx ⊢;exact hx _ _
 |cons x rest ihl =>
  intro pre w h hm hl;rw[bt];have dQ:pre.length+1<=100000:=by rw[h] at hn; simp at hn; omega
  have hw:=vY pre x;rw[dZ];have hg:=xv ho f x.an w.2;have q:=adG (L:=[bT [],bT (aI n),bT (fm x)]) (ih x (by rw[h]; simp) w.2 hm hl)
  have hi1:=ihl (pre++[x]) ((fU all f x.an w.2).1&&w.1,(fU all f x.an w.2).2) (by rw[h]; simp) (by have:=hg.IL; simp only; omega) (by have:=hg.len; simp only; omega)
  generalize fU all f x.an w.2=v at q hi1 ⊢;clear hg ih;simp only[mD,uE,aI,fm,aD,au,av,aL,aR,aZ] at hi1 q;obtain⟨b,st'⟩:=v;cases b<;>simp only[mD,uE,Nh,gd h,fc h,aI,fm,q,hw,WV,bkU,c9,dw,EW,seval] at hi1 ⊢
  ·exact hi1
  ·exact hi1
def Mx(z x:ag):qF z true (some x) = .tuple [x,.bool true]:=rfl
def Uf(z:ag):qF z true none = .tuple [z,.bool false]:=rfl
def aoR{all:AM Node}(ho:Own all)(hb:∀k n,dx all k=some n->n.aM.length<=100000):∀(f:Nat)(an:Int)(st:VS),missing all st.1<f->st.2.length+missing all st.1<=200000 ->
  ar bN 157 [aF an,b9 0,b9 1,b9 2,b9 3] (mD all st)=some (.bool (fU all f an st).1,mD all (fU all f an st).2):=by
 intro f;induction f with
 |zero=>intro an st h; omega
 |succ f ih =>
  intro an st hm hl;refine az ?_;rw[fU];have p1:=tI eU st.1 an ();cases h0:dx st.1 an with
  |some u =>
   simp only[bZ,aE];simp only[mD,uE,L5,Nh,pc,Mx,eU,mapOf.eq_1,h0,WV,bkU,EW,seval]
  |none =>
   simp only[eJ,af,aw];have hp:=rX all st.1 an;cases hn:dx all an with
   |none =>
    simp only[mD,uE,L5,Nh,pc,Mx,Uf,mapOf.eq_1,h0,hn,p1,nI,eJ,aE,WV,bkU,EW,seval]
   |some n =>
    have cz:=yW hn h0;have r1:cu (st.2.length+1) 80=True:=rb;have hl1:=YN ho (hb an n hn) (f:=f) (k:=[.block 0,.seq agh]) (R:=fun w=>some (.bool w.1,mD all w.2)) (fun e he st h1 h2=>ih e.an st h1 h2) (fun w e=>by simp only[mD,uE,Nh,aI,WV,bkU,EW,seval]) n.aM [] (true,(lR st.1 an (),st.2++[n])) rfl (by simp only; omega) (by simp; omega)
    clear ih;simp only[mD,uE,aI,av,aR,aZ,aD,au,aL,bu,aP,a8,bG] at hl1;simp only[mD,uE,L5,Nh,pc,Mx,Uf,mapOf.eq_1,h0,hn,p1,r1,aI,bG,nI,bZ,bh,af,aw,EW,seval];exact hl1
end
section
def Cc(x:Node):List Node->List Node
 | []=>[x]
 |y::r=>if x.an<y.an then x::y::r else y::Cc x r
def Ai:List Node->List Node
 | []=>[]
 |x::r=>Cc x (Ai r)
def arK(n:Node):sR 0 (bG n)=n.an:=rfl
def Ff(x:Node):∀l:List Node,Dk 0 (bG x) (l.map bG)=(Cc x l).map bG
 | []=>rfl
 |y::r=>by
  simp only[aP,Dk,Cc,arK]
  by_cases h:x.an<y.an
  ·simp only[h,aE,aP]
  ·simp only[h,aw,aP,Ff x r]
def DU:∀l:List Node,qV 0 (l.map bG)=(Ai l).map bG
 | []=>rfl
 |x::r=>by simp only[aP,qV,Ai,DU r,Ff]
def jy(a:Int)(m:AM Node)(p:pj):AM Node:=if decide (p.jw<=a)&&decide (a<p.pT) then lR m p.node.an p.node else m
def oj(a:Int):List Node->List Int->AM Node->AM Node
 |n::r,y::ys,m=>oj a r ys (if decide (y<=a) then lR m n.an n else m)
 |_,_,m=>m
def sf(s:gh)(a:Int):AM Node:=oj a s.now.ae s.since (s.dz.foldl (jy a) [])
structure yf(m:AM Node):Prop where
 own:Own m
 aM:∀k n,dx m k=some n->n.aM.length<=100000
def yf.put{m:AM Node}(h:yf m)(n:Node)(hn:n.aM.length<=100000):yf (lR m n.an n) where
 own:=fun k x hx=>by
  rw[gZ] at hx;split at hx
  ·rename_i e; injection hx with hx; rw[<-hx,e]
  ·exact h.own k x hx
 aM:=fun k x hx=>by
  rw[gZ] at hx;split at hx
  ·injection hx with hx; rw[<-hx]; exact hn
  ·exact h.aM k x hx
def xe(a:Int):∀(l:List pj)(m:AM Node),yf m->(∀p,p∈l->p.node.aM.length<=100000)->yf (l.foldl (jy a) m)/\(l.foldl (jy a) m).length<=m.length+l.length
 | [],m,h,_=>⟨h,aC _⟩
 |p::r,m,h,hp=>by
  rw[dZ]
  have h1:yf (jy a m p)/\(jy a m p).length<=m.length+1:=by
   unfold jy;split
   ·exact⟨h.put _ (hp p (by simp)),DD _ _ _⟩
   ·exact⟨h,by omega⟩
  obtain⟨g1,g2⟩:=xe a r _ h1.1 (fun q hq=>hp q (by simp[hq]))
  exact⟨g1,by simp only[au]; omega⟩
def A7(a:Int):∀(l:List Node)(y:List Int)(m:AM Node),yf m->(∀p,p∈l->p.aM.length<=100000)->yf (oj a l y m)/\(oj a l y m).length<=m.length+l.length
 | [],_,m,h,_=>by unfold oj; exact⟨h,aC _⟩
 |n::r,[],m,h,_=>by unfold oj; exact⟨h,by omega⟩
 |n::r,y::ys,m,h,hp=>by
  rw[oj]
  have h1:yf (if decide (y<=a) then lR m n.an n else m)/\(if decide (y<=a) then lR m n.an n else m).length<=m.length+1:=by
   split
   ·exact⟨h.put _ (hp n (by simp)),DD _ _ _⟩
   ·exact⟨h,by omega⟩
  obtain⟨g1,g2⟩:=A7 a r ys _ h1.1 (fun q hq=>hp q (by simp[hq]))
  exact⟨g1,by simp only[au]; omega⟩
def tJ(m:AM Node)(met:AM Unit):missing m met<=m.length:=bU _ _
def uc(s:gh)(x:jm):Bool×VS:=fU (sf s x.at') 200001 x.an ([],[])
def rT(s:gh)(x:jm):List Node:=Ai (uc s x).2.2
attribute [local irreducible] eV fZ je gK eo kr ar aU cA bH
def zJ(s:gh)(x:jm)(m:AM Node):aG:=[.cells (bo s),.cells (gS x),.map (Ca m) (ra bG m),.cells [.ia 2]]
def Zo{s:gh}{x:jm}(hn:s.dz.length<=100000){k:List K}{fin:AM Node}{r:Option (ag×aG)}
  (hx:∀e,kr (ar bN) [.tmp 4,.tmp 5] 0 k ⟨.exit 0,(2,b9 0)::(3,b9 1)::(6,b9 3)::e,zJ s x fin⟩=r) :
  ∀(l pre:List pj)(m:AM Node),s.dz=pre++l->l.foldl (jy x.at') m=fin->eV (ar bN) [.tmp 4,.tmp 5] 0 k (.loop [2,3,6,17,18,19] afy) [(2,b9 0),(3,b9 1),(6,b9 3),(17,vO s.dz),(18,aF s.dz.length),(19,aF pre.length)] (zJ s x m)=r:=by
 intro l;induction l with
 |nil =>
  intro pre m h hfin;rw[bt];rw[mo] at hfin;subst hfin;simp only[zJ,WD,gU h,EW,seval] at hx ⊢;exact hx _
 |cons p rest ih =>
  intro pre m h hfin;rw[bt];have dQ:pre.length+1<=100000:=by rw[h] at hn; simp at hn; omega
  have hw:=vY pre p;rw[dZ] at hfin;have hi1:=ih (pre++[p]) (jy x.at' m p) (by rw[h]; simp) hfin
  clear hfin;have hput:=tI bG m p.node.an p.node;unfold jy at hi1;simp only[zJ,bo,gS,bG,aI,aD,au,av,aL] at hi1 hput;simp only[zJ,WD,gd h,fc h,bo,gS,mL,aI,EW,seval];cases h1:decide (p.jw<=x.at')<;>cases h2:decide (x.at'<p.pT)<;>simp only[h1,h2,WD,hw,hput,mapOf.eq_1,dG,af,aE,aw,WV,EW,seval] at hi1 ⊢
  all_goals exact hi1
def Zp{s:gh}{x:jm}(hn:s.now.ae.length<=100000)(hl:s.since.length=s.now.ae.length){k:List K}{fin:AM Node}{r:Option (ag×aG)}
  (hx:∀e,kr (ar bN) [.tmp 4,.tmp 5] 0 k ⟨.exit 2,(2,b9 0)::(3,b9 1)::(6,b9 3)::e,zJ s x fin⟩=r) :
  ∀(l pre:List Node)(y ypre:List Int)(m:AM Node),s.now.ae=pre++l->s.since=ypre++y->ypre.length=pre.length->oj x.at' l y m=fin->eV (ar bN) [.tmp 4,.tmp 5] 0 k (.loop [2,3,6,44,45,46] afz) [(2,b9 0),(3,b9 1),(6,b9 3),(44,aY s.now.ae),(45,aF s.now.ae.length),(46,aF pre.length)] (zJ s x m)=r:=by
 intro l;induction l with
 |nil =>
  intro pre y ypre m h hy hyl hfin;rw[bt];have hg:oj x.at' [] y m=m:=by unfold oj; rfl
  rw[hg] at hfin;subst hfin;simp only[zJ,WD,gU h,EW,seval] at hx ⊢;exact hx _
 |cons n rest ih =>
  intro pre y ypre m h hy hyl hfin;rw[bt];have dQ:pre.length+1<=100000:=by rw[h] at hn; simp at hn; omega
  have hw:=vY pre n;cases y with
  |nil=>have h1:=congrArg List.length h; have h2:=congrArg List.length hy; simp at h1 h2; omega
  |cons c y =>
   have hxa:s.since[pre.length]?=some c:=by rw[hy,<-hyl]; simp
   have hi1:=ih (pre++[n]) y (ypre++[c]) (if decide (c<=x.at') then lR m n.an n else m) (by rw[h]; simp) (by rw[hy]; simp) (by simp[hyl]) (by rw[<-hfin,oj])
   clear hfin;have hput:=tI bG m n.an n;simp only[zJ,bo,gS,bG,aI,aD,au,av,aL] at hi1 hput;simp only[zJ,WD,gd h,fc h,bo,gS,aI,hxa,EW,seval];cases h1:decide (c<=x.at')<;>simp only[h1,WD,hw,hput,mapOf.eq_1,af,aE,aw,WV,EW,seval] at hi1 ⊢
   all_goals exact hi1
def Em(s:gh)(x:jm)(all:AM Node)(st:VS):aG:=[.cells (bo s),.cells (gS x),.map (Ca all) (ra bG all),.cells [.ia 2],.map (Ca st.1) (ra eU st.1),.cells [.ia 4],.arr 6 st.2.length (st.2.map bG),.cells [.cS 6 st.2.length 6 0 st.2.length],.cells [.func 157 [.ptr 5 0,.ptr 3 0,.ptr 7 0,.ptr 8 0]]]
end
section
def Gp{α:Type}:Ca ([]:AM α)=[]:=rfl
def Gq{α:Type}(enc:α->ag):ra enc ([]:AM α)=[]:=rfl
def ajD{s:gh}{x:jm}{all:AM Node}{an:Int}{st':VS}{b:Bool}(h:ar bN 157 [aF an,b9 0,b9 1,b9 2,b9 3] (mD all ([],[]))=some (.bool b,mD all st')) :
  aU (ar bN) 157 [aF an,b9 5,b9 3,b9 7,b9 8] (Em s x all ([],[]))=some (.bool b,Em s x all st'):=by
 have i1:pX (Em s x all ([],[])) [5,3,7,8]=[4,2,6,5,3,7,8]:=rfl
 have i2:pX (Em s x all ([],[])) [5,3,7,8,4,2,6]=[4,2,6,5,3,7,8]:=by
  show[4,2,6,5,3,7,8]++([]++((ra bG all).flatMap ag.ids++([]++[])))=_
  rw[akV]; rfl
 have e0:j8 [] [5,3,7,8]=[5,3,7,8]:=rfl;have e1:j8 [5,3,7,8] [4,2,6,5,3,7,8]=[5,3,7,8,4,2,6]:=rfl;have e2:j8 [5,3,7,8,4,2,6] [4,2,6,5,3,7,8]=[5,3,7,8,4,2,6]:=rfl
 have hr:reach (Em s x all ([],[])) [5,3,7,8]=[5,3,7,8,4,2,6]/\kD (Em s x all ([],[])) [5,3,7,8,4,2,6]=[5,3,7,8,4,2,6]:=by
  simp only[reach,kD,e0,i1,e1,i2,e2,jZ]
 have hp:jE (Em s x all ([],[])) (iy [5,3,7,8,4,2,6]) [5,3,7,8,4,2,6]=some (mD all ([],[])):=by
  simp only[Em,jE,nth,dy.flat,flN,flU,bV,aE,dy.pL,rnN,rnU];rfl
 refine kB (ids:=[5,3,7,8,4,2,6]) rfl hr.1 hp hr.2 rfl h rfl rfl (aaH all st') rfl ?_;simp only[mD,Em,kY,dy.pL,rnN,rnU,jj];rfl
def amy(n:Nat)(xs:List ag)(b0 b1 b2 b3 b4 b5 b7 b8:dy):jE [b0,b1,b2,b3,b4,b5,.arr 6 n xs,b7,b8] (iy [6]) [6]=some [.arr 6 n xs]:=rfl
def O4{l:List Node}(hl:l.length<=1000000)(hn:(l.map Node.an).Nodup):ar bN 158 [.cS 0 l.length 6 0 l.length,.func 159 []] [.arr 6 l.length (l.map bG)]=some (.tuple [],[.arr 6 l.length ((Ai l).map bG)]):=by
 refine eY (g:=uB 6 0 159) rfl ?_;unfold uB;simp only[nth];have ht:(l.map bG).take l.length=l.map bG:=bQ (by simp)
 have hd:(l.map bG).drop l.length=[]:=iR (by simp)
 rw[ht,hd,DU,cZ];rw[dV]
 ·rfl
 ·refine⟨trivial,trivial,trivial,by simp,trivial,by omega,?_,?_⟩
  ·intro x hx;obtain⟨n,_,rfl⟩:=dj.1 hx;rfl
  ·rw[jX];exact hn
attribute [local irreducible] eV fZ je gK eo kr ar aU cA bH
def Ii(x:Node):∀l,(Cc x l).length=l.length+1
 | []=>rfl
 |y::r=>by simp only[Cc]; split<;>simp[Ii x r]
def Bj:∀l,(Ai l).length=l.length
 | []=>rfl
 |x::r=>by simp[Ai,Ii,Bj r]
def c84(s:gh)(x:jm)(hp:s.dz.length<=100000)(hpe:∀p,p∈s.dz->p.node.aM.length<=100000)(hz:Sz 200 s.now)(hl:s.since.length=s.now.ae.length) :
  ar bN 84 [pQ s,j6 x] []=some (.tuple [aY (rT s x),.bool (uc s x).1],[]):=by
 refine az ?_;obtain⟨g1,g2⟩:=xe x.at' s.dz [] ⟨fun k n h=>(by cases h),fun k n h=>(by cases h)⟩ hpe
 obtain⟨g3,g4⟩:=A7 x.at' s.now.ae s.since (s.dz.foldl (jy x.at') []) g1 (fun n hn=>by have:=hz.aM n hn; omega)
 have hall:(sf s x.at').length<=100200:=by have:=hz.ae; simp at g2; unfold sf; omega
 have hv:=aoR (all:=sf s x.at') g3.own g3.aM 200001 x.an ([],[]) (by have:=tJ (sf s x.at') []; simp only; omega) (by have:=tJ (sf s x.at') []; simp only[av]; omega)
 have hg:=xv (all:=sf s x.at') g3.own 200001 x.an ([],[]);have hnd:=(hg.nodup (by simp) (by simp)).1
 have dQ:(uc s x).2.2.length<=100200:=by have:=hg.len; have h2:=tJ (sf s x.at') []; simp only[av] at this; unfold uc; omega
 have q:=ajD (s:=s) (x:=x) hv;have hs:=O4 (l:=(uc s x).2.2) (by omega) hnd
 have q2:∀b0 b1 b2 b3 b4 b5 b7 b8,aU (ar bN) 158 [.cS 6 (uc s x).2.2.length 6 0 (uc s x).2.2.length,.func 159 []] [b0,b1,b2,b3,b4,b5,.arr 6 (uc s x).2.2.length ((uc s x).2.2.map bG),b7,b8] =
   some (.tuple [],[b0,b1,b2,b3,b4,b5,.arr 6 (uc s x).2.2.length ((rT s x).map bG),b7,b8]):=fun b0 b1 b2 b3 b4 b5 b7 b8 =>
  kB (ids:=[6]) rfl rfl (amy _ _ ..) rfl rfl hs rfl rfl rfl rfl rfl
 have ht:List.take (uc s x).2.2.length ((rT s x).map bG)=(rT s x).map bG:=bQ (by simp[rT,Bj])
 have l2:=Zp (s:=s) (x:=x) (by have:=hz.ae; omega) hl (fin:=sf s x.at') (r:=some (.tuple [aY (rT s x),.bool (uc s x).1],[])) (k:=[.block 2,.seq agw]) (fun e=>by
  clear g1 g2 g3 g4 hv hg hnd hs;have hvv:fU (sf s x.at') 200001 x.an ([],[])=uc s x:=rfl;rw[hvv] at q;generalize uc s x=v at q q2 ht dQ ⊢;obtain⟨b,met,out⟩:=v;simp only[Em,bo,gS,av,a8,Gp,Gq] at q q2 ht;simp only[zJ,bo,gS,WD,q,q2,ht,EW,seval]) s.now.ae [] s.since [] (s.dz.foldl (jy x.at') []) rfl rfl rfl rfl
 have l1:=Zo (s:=s) (x:=x) hp (fin:=s.dz.foldl (jy x.at') []) (r:=some (.tuple [aY (rT s x),.bool (uc s x).1],[])) (k:=[.block 0,.seq agx]) (fun e=>by
  simp only[zJ,bo,gS,av] at l2;simp only[zJ,bo,gS,WD,EW,seval];exact l2) s.dz [] [] rfl rfl
 simp only[zJ,bo,gS,av,Gp,Gq] at l1;simp only[adV,WD,pQ,j6,bo,gS,EW,seval];exact l1
def k84(s:gh)(x:jm)(hp:s.dz.length<=100000)(hpe:∀p,p∈s.dz->p.node.aM.length<=100000)(hz:Sz 200 s.now)(hl:s.since.length=s.now.ae.length)(M:aG) :
  aU (ar bN) 84 [.agg (bo s),.agg (gS x)] M=some (.tuple [aY (rT s x),.bool (uc s x).1],M):=cO (c84 s x hp hpe hz hl) M
def rL(s:gh)(id:Int):Int×List Node×Int:=match s.cf.find? (fun x=>x.id==id) with
 |some x=>(x.an,rT s x,0)
 |none=>(0,[],100)
def YK{s:gh}{id:Int}(hk:s.cf.length<=100000)(hp:s.dz.length<=100000)(hpe:∀p,p∈s.dz->p.node.aM.length<=100000)(hz:Sz 200 s.now)(hl:s.since.length=s.now.ae.length) :
  ∀(l pre:List jm),s.cf=pre++l->eV (ar bN) [.tmp 4,.tmp 5,.tmp 6] 0 [.block 0,.seq age] (.loop [1,2,12,13,14] XZ) [(1,aF id),(2,b9 0),(12,kO s.cf),(13,aF s.cf.length),(14,aF pre.length)] [bT (bo s)] =
   some (match l.find? (fun x=>x.id==id) with|some x => .tuple [aF x.an,aY (rT s x),aF 0]|none => .tuple [aF 0,aY [],aF 100],[]):=by
 intro l;induction l with
 |nil =>
  intro pre h;rw[bt];simp only[Wq,gU h,List.find?_nil,bo,EW,seval];rfl
 |cons x rest ih =>
  intro pre h;rw[bt];have dQ:pre.length+1<=100000:=by rw[h] at hk; simp at hk; omega
  have hw:=vY pre x;have hi1:=ih (pre++[x]) (by rw[h]; simp)
  have q:=k84 s x hp hpe hz hl;simp only[aD,au,av,aL,bo,gS] at hi1 q;rw[List.find?_cons];simp only[Wq,gd h,fc h,bo,gS,EW,seval];cases he:x.id==id<;>simp only[Wq,he,q,hw,EW,seval]
  exact hi1
def aoJ(s:gh)(id:Int)(hk:s.cf.length<=100000)(hp:s.dz.length<=100000)(hpe:∀p,p∈s.dz->p.node.aM.length<=100000)(hz:Sz 200 s.now)(hl:s.since.length=s.now.ae.length) :
  ar bN 143 [pQ s,aF id] []=some (.tuple [aF (rL s id).1,aY (rL s id).2.1,aF (rL s id).2.2],[]):=by
 refine az ?_;have hq:=YK (id:=id) hk hp hpe hz hl s.cf [] rfl;simp only[bo,av] at hq;simp only[aaZ,Wq,pQ,bo,EW,seval];refine iq hq ?_;unfold rL;split<;>rfl
def aq6(s:gh)(id:Int)(hk:s.cf.length<=100000)(hp:s.dz.length<=100000)(hpe:∀p,p∈s.dz->p.node.aM.length<=100000)(hz:Sz 200 s.now)(hl:s.since.length=s.now.ae.length)(M:aG) :
  aU (ar bN) 143 [.agg (bo s),aF id] M=some (.tuple [aF (rL s id).1,aY (rL s id).2.1,aF (rL s id).2.2],M):=cO (aoJ s id hk hp hpe hz hl) M
end
noncomputable def tc:zg:=⟨fun f=>if f=201 then some HY else code f,nc⟩
def Z2:wN Tryz.prog tc:=by
 refine⟨fun f fn h=>?_,MJ⟩
 simp only[tc] at h;split at h
 ·rename_i hf;cases h; subst hf;exact⟨_,_,func201,amg⟩
 ·exact LP f fn h
def agK:oV Tryz.prog (ar tc):=rK (by kernel_rfl) Z2
def JF:∀n,vI (jz bN n) (jz tc n)
 |0,f,a,M,x,h=>by rw[jz] at h ⊢; exact h
 |n+1,f,a,M,x,h=>by
  rw[jz] at h ⊢;have hp:tc.nc f=bN.nc f:=rfl;rw[hp];split at h
  ·rename_i g hg; exact h
  ·rename_i hg;split at h
   ·cases h
   ·rename_i fn hfn
    have hc:tc.code f=some fn:=by
     simp only[tc];split
     ·rename_i hf; subst hf; cases hfn
     ·exact hfn
    rw[hc];split at h
    ·rename_i hl;simp only[bc hl];obtain⟨o,ho,h⟩:=bl h;rw[jG (JF n) _ ho,bV];exact h
    ·cases h
def Z4{f:Nat}{a:List ag}{M:aG}{x:ag×aG}(h:ar bN f a M=some x):ar tc f a M=some x:=by
 obtain⟨n,hn⟩:=vS h;exact o9 (fun n x h=>rj tc n f a M x h) (JF n f a M x hn)
def lW{f:Nat}{vs:List ag}{M:aG}{x:ag×aG}(h:aU (ar bN) f vs M=some x):aU (ar tc) f vs M=some x:=by
 obtain⟨a,B,y,h1,h2⟩:=rq h;exact h2 _ (Z4 h1)
def wX(t:Tree)(q:cF):Bool := !(find t.ae q.an).isSome
def lh(n:cF):(il n).all ag.iP=true:=rfl
def af9(xs:List ag)(z:Tree):jE [.arr 3 0 xs,bT (aJ z)] (iy [0,1]) [0,1]=some [.arr 3 0 xs,bT (aJ z)]:=rfl
section
def aga(z:Tree):jE [bT (aJ z)] (iy [0]) [0]=some [bT (aJ z)]:=rfl
section
attribute [local irreducible] eV fZ je gK eo kr ar aU cA bH
def apv(q:cF)(t:Tree)(ht:Rt t):ar tc 203 [dU q,b9 0] [bT (aJ t)]=some (.bool (wX t q),[bT (aJ t)]):=by
 refine az ?_;have q1:=fun M=>lW (Wj t q.an ht.small ht.jo M)
 unfold wX;simp only[aI] at q1;simp only[abw,anq,dU,il,aJ,q1,aI,D7,lh,EW,seval]
def alj(q:cF)(t:Tree)(ht:Rt t)(p:Nat)(M:aG)(hM:nth M p=some (bT (aJ t))):aU (ar tc) 203 [.agg (il q),b9 p] M=some (.bool (wX t q),M) :=
 xE (f:=203) (p:=p) (vs:=[.agg (il q)]) hM (apv q t ht) rfl rfl rfl rfl rfl rfl rfl rfl rfl
def AY(z:Tree):List cF->Nat->Int
 | [],_ => -1
 |e::r,i=>if wX z e then (i:Int) else AY z r (i+1)
def Y8{xs:List cF}{z:Tree}(hz:Rt z)(hn:xs.length<=100000){k:List K}{R:Int->Option (ag×aG)}
  (hx:∀e,kr (ar tc) [.tmp 4] 2 k ⟨.exit 0,e,[.arr 3 0 (xs.map dU),bT (aJ z)]⟩=R (-1)) (hr:∀(i:Nat),kr (ar tc) [.tmp 4] 2 k ⟨.ret,[(4,aF i)],[.arr 3 0 (xs.map dU),bT (aJ z)]⟩=R i) :
  ∀(l pre:List cF),xs=pre++l->eV (ar tc) [.tmp 4] 2 k (.loop [0,1,7,8] Yw) [(0,.cS 0 0 3 0 xs.length),(1,.func 203 [b9 1]),(7,aF xs.length),(8,aF pre.length)] [.arr 3 0 (xs.map dU),bT (aJ z)]=R (AY z l pre.length):=by
 intro l;induction l with
 |nil =>
  intro pre h;rw[bt];simp only[F9,gU h,D7,lh,EW,seval];exact hx _
 |cons n rest ih =>
  intro pre h;rw[bt];have dQ:pre.length+1<=100000:=by rw[h] at hn; simp at hn; omega
  have hw:=vY pre n;have hi:=ih (pre++[n]) (by rw[h]; simp)
  simp only[aD,au,av] at hi;have q59:=fun e=>alj e z hz 1 [.arr 3 0 (xs.map dU),bT (aJ z)] rfl
  have cz:((pre.length:Int)<((xs.length-0:Nat):Int))=True:=by simp only[fq,jc]; rw[h]; simp; omega
  rw[AY];simp only[F9,gd h,fc h,tkQ,shQ,q59,cz,D7,lh,EW,seval];refine bp (fun hb=>?_) (fun hb=>?_)
  ·simp only[F9,hb,D7,lh,EW,seval];exact hr _
  ·simp only[F9,hb,hw,af,D7,lh,EW,seval];exact hi
def ap4(xs:List cF)(z:Tree)(hz:Rt z)(hn:xs.length<=100000):ar tc 259 [.cS 0 0 3 0 xs.length,.func 203 [b9 1]] [.arr 3 0 (xs.map dU),bT (aJ z)]=some (aF (AY z xs 0),[.arr 3 0 (xs.map dU),bT (aJ z)]):=by
 refine az ?_;simp only[Q7,F9,bK,D7,lh,EW,seval];exact Y8 hz hn (R:=fun i=>some (aF i,[.arr 3 0 (xs.map dU),bT (aJ z)])) (fun e=>by simp only[F9,D7,lh,EW,seval]) (fun i=>by simp only[F9,D7,lh,EW,seval]) xs [] rfl
def arw(xs:List cF)(z:Tree)(hz:Rt z)(hn:xs.length<=100000):aU (ar tc) 259 [.cS 0 0 3 0 xs.length,.func 203 [b9 1]] [.arr 3 0 (xs.map dU),bT (aJ z)]=some (aF (AY z xs 0),[.arr 3 0 (xs.map dU),bT (aJ z)]) :=
 kB (ids:=[0,1]) rfl rfl (af9 ..) rfl rfl (ap4 xs z hz hn) rfl rfl rfl rfl rfl
def jd(z:Tree)(l:List cF):List cF:=l.filter fun e => !wX z e
def yO(z:Tree)(x:cF)(l:List cF):jd z (x::l)=if wX z x then jd z l else x::jd z l:=by
 unfold jd;rw[eF];cases wX z x<;>rfl
def VQ(xs:List cF)(b:Nat)(o n:cF)(h:xs[b]?=some o):(jj (xs.map dU) b (putCells (dU o) 0 (il n)))=(xs.set b n).map dU:=by
 have:putCells (dU o) 0 (il n)=dU n:=rfl;rw[this,gy,kN]
def agc(x:cF):(il x).all ag.plainCell=true:=rfl
def YZ{z:Tree}(hz:Rt z){N:Nat}(hN:N<=100000){k:List K}{R:List cF->Nat->Option (ag×aG)}
  (hx:∀(A G:List cF) v q,A.length+G.length=N->G≠[]->kr (ar tc) [.tmp 4] 2 k ⟨.exit 0,[(0,.cS 0 0 3 0 N),(1,.func 203 [b9 1]),(5,aF A.length),(6,v),(19,q)],[.arr 3 0 ((A++G).map dU),bT (aJ z)]⟩=R A G.length) :
  ∀(T A G:List cF),A.length+G.length+T.length=N->G≠[]->eV (ar tc) [.tmp 4] 2 k (.loop [0,1,5,6] Yh) [(0,.cS 0 0 3 0 N),(1,.func 203 [b9 1]),(5,aF A.length),(6,aF ((A.length+G.length:Nat):Int))] [.arr 3 0 ((A++G++T).map dU),bT (aJ z)]=R (A++jd z T) (N-(A++jd z T).length):=by
 intro T;induction T with
 |nil =>
  intro A G hl hg;have cz:(((A.length+G.length:Nat):Int)<((N-0:Nat):Int))=False:=by simp only[fq,pn]; simp at hl ⊢; omega
  have hk:jd z []=[]:=rfl;have hgl:N-(A++jd z []).length=G.length:=by rw[hk]; simp at hl ⊢; omega
  rw[hgl,hk,cZ,cZ];rw[bt];simp only[F7,cz,D7,lh,EW,seval];exact hx A G _ _ (by simpa using hl) hg
 |cons x T ih =>
  intro A G hl hg;simp only[au] at hl;have cz:(((A.length+G.length:Nat):Int)<((N-0:Nat):Int))=True:=vG;have hnn:((0:Int)<=((A.length+G.length:Nat):Int))=True:=vG
  have hat:(A++G++x::T)[A.length+G.length]?=some x:=by
   rw[bA (by simp)]; simp
  have hw:IntKind.i64.wrap (((A.length+G.length:Nat):Int)+1)=((A.length+G.length+1:Nat):Int):=by rw[gn (by omega) (by omega)]; omega
  have hw1:IntKind.i64.wrap ((A.length:Int)+1)=((A.length+1:Nat):Int):=by rw[gn (by omega) (by omega)]; omega
  have q59:=fun e a b M=>alj e z hz 1 (a :: bT (aJ z)::b::M) rfl
  obtain⟨g,G',hG⟩:=ec hg;have hga:(A++G++x::T)[A.length]?=some g:=by rw[hG]; simp
  have hset:(A++G++x::T).set A.length x=(A++[x])++(G'++[x])++T:=by rw[hG]; simp
  have hlt2:((A.length:Int)<((N-0:Nat):Int))=True:=vG;have h1:=ih (A++[x]) (G'++[x]) (by rw[hG] at hl; simp at hl ⊢; omega) (by simp)
  have h2:=ih A (G++[x]) (by simp; omega) (by simp)
  have hl1:(((A++[x]).length+(G'++[x]).length:Nat):Int)=((A.length+G.length+1:Nat):Int):=by rw[hG]; simp; omega
  have hl2:((A.length+(G++[x]).length:Nat):Int)=((A.length+G.length+1:Nat):Int):=by simp; omega
  have hl3:((A++[x]).length:Int)=((A.length+1:Nat):Int):=by simp
  have e2:A++(G++[x])++T=A++G++x::T:=by simp
  have e1:A++[x]++jd z T=A++x::jd z T:=by simp
  rw[hl1,hl3,e1] at h1;rw[hl2,e2] at h2;simp only[aD,au] at h1 h2;have hput:=VQ (A++G++x::T) A.length g x hga;rw[hset] at hput;rw[yO];rw[bt];simp only[F7,cz,hnn,hat,tkQ,shQ,PZ,q59,D7,lh,EW,seval];refine bp (fun hb=>?_) (fun hb=>?_)
  ·have hb':wX z x=false:=by simpa using hb
   simp only[F7,hb',hlt2,hga,hput,tkQ,shQ,agc,hw,hw1,af,D7,lh,EW,seval];exact h1
  ·have hb':wX z x=true:=by simpa using hb
   simp only[F7,hb',hw,D7,lh,EW,seval];exact h2
def Lz:cF:=⟨0,0,0⟩
def Fa(z:Tree):∀(l:List cF)(i:Nat),AY z l i = -1->jd z l=l
 | [],_,_=>rfl
 |x::l,i,h=>by
  rw[AY] at h;split at h
  ·omega
  ·rename_i hx;rw[yO,aH hx,Fa z l _ h]
def Fb(z:Tree):∀(l:List cF)(i:Nat),AY z l i ≠ -1->∃A x T,l=A++x::T/\AY z l i=((i+A.length:Nat):Int)/\jd z l=A++jd z T
 | [],_,h=>absurd rfl h
 |x::l,i,h=>by
  rw[AY] at h ⊢;rw[yO];split
  ·rename_i hx; exact⟨[],x,l,rfl,rfl,rfl⟩
  ·rename_i hx;rw[aH hx] at h;obtain⟨A,y,T,h1,h2,h3⟩:=Fb z l (i+1) h;exact⟨x::A,y,T,by rw[h1]; rfl,by rw[h2]; simp; omega,by rw[h3]; rfl⟩
def O6(m:Nat):ag:=if m=0 then .slice .sh [] else .cS 0 0 3 0 m
def NH(A G:List cF):((A++G).map dU).take A.length++(List.replicate G.length (ag.agg [aF 0,aF 0,aF 0])++((A++G).map dU).drop (A++G).length)=(A++List.replicate G.length Lz).map dU:=by
 have h1:((A++G).map dU).take A.length=A.map dU:=by simp[fE]
 have h2:((A++G).map dU).drop (A++G).length=[]:=by rw[List.drop_eq_nil_iff]; simp
 rw[h1,h2];simp[gJ];exact .inr rfl
def apu(xs:List cF)(z:Tree)(hz:Rt z)(hn:xs.length<=100000)(h0:xs≠[]):ar tc 201 [.cS 0 0 3 0 xs.length,.func 203 [b9 1]] [.arr 3 0 (xs.map dU),bT (aJ z)] =
  some (O6 (jd z xs).length,[.arr 3 0 ((jd z xs++List.replicate (xs.length-(jd z xs).length) Lz).map dU),bT (aJ z)]):=by
 have q168:=arw xs z hz hn;refine az ?_
 by_cases hi:AY z xs 0 = -1
 ·have hk:=Fa z xs 0 hi;have hb:(AY z xs 0 == -1)=true:=by simpa using hi
  have hl:xs.length≠0:=fun hh=>h0 (cj.1 hh)
  rw[hk];simp only[HY,F7,q168,hb,D7,lh,EW,seval];simp[O6,hl]
 ·obtain⟨A,x,T,h1,h2,h3⟩:=Fb z xs 0 hi;have hb:(AY z xs 0 == -1)=false:=by simpa using hi
  simp only[aL] at h2;have dQ:xs.length=A.length+(T.length+1):=by rw[h1]; simp
  have hw:IntKind.i64.wrap ((A.length:Int)+1)=((A.length+[x].length:Nat):Int):=by rw[gn (by omega) (by omega)]; simp
  have hlp:=fun k R hx=>YZ (z:=z) hz hn (k:=k) (R:=R) hx T A [x] (by simp; omega) (by simp)
  have e1:A++[x]++T=xs:=by rw[h1]; simp
  rw[e1] at hlp;rw[h2] at hb q168;rw[h3];simp only[HY,F7,q168,hb,hw,D7,lh,EW,seval];refine(hlp _ (fun A' g=>some (O6 A'.length,[.arr 3 0 ((A'++List.replicate g Lz).map dU),bT (aJ z)])) (fun A' G v q hl hg=>?_)).trans (by simp only[aD])
  have hgl:G.length≠0:=fun hh=>hg (cj.1 hh)
  have b1:(((A'.length:Nat):Int)<=(xs.length:Int))=True:=vG;have b2:(((A'.length:Nat):Int)==(xs.length:Int))=false:=by simp; omega
  have hcl:=NH A' G;have hN:(A'++G).length=xs.length:=by simp; omega
  have hd:xs.length-A'.length=G.length:=by omega
  rw[hN] at hcl;have hz0:Int.toNat ((0:Nat):Int)=0:=rfl;have hb0:((0:Int)<=((A'.length:Nat):Int))=True:=by simp
  by_cases hA:A'.length=0
  ·have b3:((0:Int)==((A'.length:Nat):Int))=true:=by simp[hA]
   simp only[F7,fF,bK,cp,b1,b2,hd,hcl,b3,hz0,hb0,D7,lh,EW,seval];simp[O6,hA]
  ·have b3:((0:Int)==((A'.length:Nat):Int))=false:=by simp; omega
   simp only[F7,fF,bK,cp,b1,b2,hd,hcl,b3,hz0,hb0,D7,lh,EW,seval];simp[O6,hA]
end
def ajB(z:Tree):ar tc 259 [hZ [],.func 203 [b9 0]] [bT (aJ z)]=some (aF (-1),[bT (aJ z)]):=by
 refine az ?_;simp only[Q7,F9,aJ,D7,lh,EW,seval];rw[bt];have h0:((0:Int)<((0:Nat):Int))=False:=by simp
 simp only[F9,aJ,h0,D7,lh,EW,seval]
def ajt(z:Tree):ar tc 201 [hZ [],.func 203 [b9 0]] [bT (aJ z)]=some (hZ [],[bT (aJ z)]):=by
 have h11:((-1:Int) == -1)=true:=rfl;have q:aU (ar tc) 259 [hZ [],.func 203 [b9 0]] [bT (aJ z)]=some (aF (-1),[bT (aJ z)]):=kB (ids:=[0]) rfl rfl (aga z) rfl rfl (ajB z) rfl rfl rfl rfl rfl;refine az ?_;simp only[aJ] at q;simp only[HY,F7,aJ,q,h11,D7,lh,EW,seval]
end
noncomputable def BQ(args:List ag)(M:aG):Option (ag×aG):=bH (ar tc 201 args M) fun x=>cA (x.1.jx=false) (some (x.1.wx x.2,sO x.2 x.1.ids))
def Ks{args:List ag}{M:aG}{x:ag×aG}(h:BQ args M=some x):dD Tryz.prog 201 args M x:=by
 obtain⟨y,h1,h2⟩:=bl h;obtain⟨hp,h2⟩:=db h2;cases h2;exact EX (agK _ _ _ _ h1).2 hp
def OZ(z:Tree):BQ [hZ [],.func 203 [b9 0]] [bT (aJ z)]=some (hZ [],[bT (aJ z)]):=by
 unfold BQ;rw[ajt,bV];exact dV rfl
def Still(b:dy):Prop:=(∀B M,b.back B M=b)/\b.flat=true/\(∀ρ,b.pL ρ=b)
def Vf(xs:List cF)(z:Tree)(hz:Rt z)(hn:xs.length<=100000)(h0:xs≠[]):∃b,Still b/\BQ [.cS 0 0 3 0 xs.length,.func 203 [b9 1]] [.arr 3 0 (xs.map dU),bT (aJ z)]=some (cY (jd z xs),[b,bT (aJ z)]):=by
 have h:=apu xs z hz hn h0;unfold BQ;rw[h,bV];unfold O6
 by_cases hl:(jd z xs).length=0
 ·have h1:jd z xs=[]:=cj.1 hl;refine⟨.arr 3 0 ((jd z xs++List.replicate (xs.length-(jd z xs).length) Lz).map dU),⟨fun _ _=>rfl,rfl,fun _=>rfl⟩,?_⟩
  rw[bc hl];refine(dV rfl).trans ?_;rw[h1];rfl
 ·refine⟨.tick 3 ((jd z xs++List.replicate (xs.length-(jd z xs).length) Lz).map dU).length,⟨fun _ _=>rfl,rfl,fun _=>rfl⟩,?_⟩
  rw[aH hl];refine(dV rfl).trans ?_
  have ht:List.drop 0 (List.take (jd z xs).length ((jd z xs++List.replicate (xs.length-(jd z xs).length) Lz).map dU))=(jd z xs).map dU:=by
   simp[fE]
  show some (ag.slice .sh (List.drop 0 (List.take (jd z xs).length ((jd z xs++List.replicate (xs.length-(jd z xs).length) Lz).map dU))),_)=_
  rw[ht];rfl
noncomputable def nZ(T:zg)(f0:Nat)(g:List ag->aG->Option (ag×aG)):zg:=⟨T.code,fun f=>if f=f0 then some g else T.nc f⟩
def xx{P:Program}{T:zg}(hT:wN P T){f0:Nat}{g:List ag->aG->Option (ag×aG)}(he:mi P f0=true)(hg:∀ {args:List ag} {M:aG} {x:ag×aG},g args M=some x->dD P f0 args M x):wN P (nZ T f0 g):=by
 refine⟨hT.code,fun f g' h args M x hx=>?_⟩
 simp only[nZ] at h;split at h
 ·rename_i hf;cases h; subst hf;exact⟨he,hg hx⟩
 ·exact hT.nc f g' h args M x hx
def Ao{T:zg}{f0:Nat}{g:List ag->aG->Option (ag×aG)}(h1:T.code f0=none)(h2:T.nc f0=none):∀n,vI (jz T n) (jz (nZ T f0 g) n)
 |0,f,a,M,x,h=>by
  by_cases hf:f=f0
  ·subst hf;rw[jz,h2] at h;cases h
  ·have hp:(nZ T f0 g).nc f=T.nc f:=by simp[nZ,hf]
   rw[jz] at h ⊢;rw[hp];exact h
 |n+1,f,a,M,x,h=>by
  by_cases hf:f=f0
  ·subst hf;rw[jz,h2,h1] at h;cases h
  ·have hp:(nZ T f0 g).nc f=T.nc f:=by simp[nZ,hf]
   rw[jz] at h ⊢;rw[hp];split at h
   ·rename_i g hg; exact h
   ·rename_i hg;have hc:(nZ T f0 g).code f=T.code f:=rfl;rw[hc];split at h
    ·cases h
    ·rename_i fn hfn;split at h
     ·rename_i hl;simp only[bc hl];obtain⟨o,ho,h⟩:=bl h;rw[jG (Ao h1 h2 n) _ ho,bV];exact h
     ·cases h
def xw{T:zg}{f0:Nat}{g:List ag->aG->Option (ag×aG)}(h1:T.code f0=none)(h2:T.nc f0=none){f:Nat}{a:List ag}{M:aG}{x:ag×aG}(h:ar T f a M=some x):ar (nZ T f0 g) f a M=some x:=by
 obtain⟨n,hn⟩:=vS h;exact o9 (fun n x h=>rj _ n f a M x h) (Ao h1 h2 n f a M x hn)
noncomputable def amQ:zg:=nZ bN 201 BQ
def Z3:wN Tryz.prog amQ:=xx V1 (by kernel_rfl) (fun h=>Ks h)
noncomputable def gv:zg:=nZ amQ 144 DI
def MZ:wN Tryz.prog gv:=xx Z3 (by kernel_rfl) (fun h=>Pe h)
def Lq:oV Tryz.prog (ar gv):=rK (by kernel_rfl) MZ
def M1{f:Nat}{a:List ag}{M:aG}{x:ag×aG}(h:ar bN f a M=some x):ar gv f a M=some x:=xw rfl rfl (xw rfl rfl h)
def lS'{f:Nat}{a:List ag}{M:aG}{x:ag×aG}(h:ar bN f a M=some x):ar gv f a M=some x:=M1 h
def lS{f:Nat}{vs:List ag}{M:aG}{x:ag×aG}(h:aU (ar bN) f vs M=some x):aU (ar gv) f vs M=some x:=by
 obtain⟨a,B,y,h1,h2⟩:=rq h;exact h2 _ (M1 h1)
def ad2(s:Bytes)(hs:s.length<=100000)(M:aG):aU (ar gv) 144 [.str s] M=some (.tuple [dh (dW s).1,aF (dW s).2],M):=by
 have h:ar gv 144 [.str s] []=some (.tuple [dh (dW s).1,aF (dW s).2],[]):=by
  refine eY (g:=DI) rfl ?_;unfold DI;simp only[];rw[bc ⟨trivial,hs⟩]
 exact cO h M
section
def lU{s:Bytes}(h:eh s=true):s.length<=32:=by
 unfold eh at h;simp only[bn,gW,mT,dP] at h;omega
def JB:∀(x:List (Bytes×Bool)) (n:Nat) (l:List Bytes),na x n=some l->n<=12->(∀s,s∈l->eh s=true)/\l.length+n<=12
 | [],n,l,h,hn=>by
  simp only[na,eX] at h;subst h;exact⟨fun s hs=>by simp at hs,by simp; omega⟩
 |x::r,n,l,h,hn=>by
  rw[na] at h;split at h
  ·cases h
  ·rename_i hb;cases hr:na r (n+1) with
   |none=>rw[hr] at h; cases h
   |some k =>
    rw[hr] at h;simp only[eP,eX] at h;subst h;have hb':AA x n=false:=by simpa using hb
    unfold AA at hb';simp only[mT,lX,jL] at hb';obtain⟨g1,g2⟩:=JB r (n+1) k hr (by omega)
    refine⟨fun s hs=>?_,by simp; omega⟩
    rcases bC.1 hs with h1|h1
    ·subst h1; exact hb'.1.2
    ·exact g1 s h1
def mj(s:Bytes):(∀x,x∈(dW s).1->eh x=true)/\(dW s).1.length<=12:=by
 unfold dW;split
 ·exact⟨fun s hs=>by simp at hs,by simp⟩
 ·split
  ·exact⟨fun s hs=>by simp at hs,by simp⟩
  ·exact⟨fun s hs=>by simp at hs,by simp⟩
  ·rename_i l hl;obtain⟨g1,g2⟩:=JB _ 0 _ hl (by omega)
   exact⟨g1,by omega⟩
def D0:∀l:List Bytes,Bm (l.map ag.str)=some l
 | []=>rfl
 |s::r=>by
  show bH (Bm (r.map ag.str)) (fun l=>some (s::l))=_
  rw[D0 r]; rfl
def Dr(l:List Bytes)(h:∀x,x∈l->eh x=true):(Lib.join l [47]).length<=33*l.length:=by
 induction l with
 |nil=>simp[Lib.join]
 |cons a r ih =>
  have h1:=lU (h a (by simp))
  have h2:=ih (fun x hx=>h x (by simp[hx]))
  cases r with
  |nil=>simp[Lib.join]; omega
  |cons b r=>simp[Lib.join] at h2 ⊢; omega
def Dq(l:List Bytes):Bytes:=if (l.length:Int)==0 then [47] else [47]++Lib.join l [47]
def Oh(l:List Bytes)(h:∀x,x∈l->eh x=true)(hl:l.length<=12):(Dq l).length<=1000:=by
 unfold Dq;have:=Dr l h;split<;>simp<;>omega
def arC(l:List Bytes)(h:∀x,x∈l->eh x=true)(hl:l.length<=12)(M:aG):aU (ar bN) 289 [dh l,.str [47]] M=some (.str (Lib.join l [47]),M):=by
 have hq:ar bN 289 [dh l,.str [47]] []=some (.str (Lib.join l [47]),[]):=by
  refine eY (g:=I1) rfl ?_;unfold I1;simp only[];rw[D0,bV,bc];have:=Dr l h;omega
 exact cO hq M
attribute [local irreducible] eV fZ je gK eo kr ar aU cA bH
def ap1(l:List Bytes)(h:∀x,x∈l->eh x=true)(hl:l.length<=12):ar bN 253 [dh l] []=some (.str (Dq l),[]):=by
 refine az ?_;have q:=arC l h hl;have hm:(IntKind.i64.max<((1+(Lib.join l [47]).length:Nat):Int))=False:=max_lt _ (by have:=Dr l h; omega)
 unfold Dq;simp only[abV,aht,q,EW,seval];cases h0:(l.length:Int)==0<;>simp only[aht,h0,af,aE,aw,q,hm,EW,seval]
def arv l h hl:=cP (ap1 l h hl)
def pY(s:Bytes):Bytes×Bytes×Int :=
 if (dW s).2 != 0||(((dW s).1.length:Int)==0) then ([],[],60)
 else ((dW s).1.getD ((dW s).1.length-1) [],Dq ((dW s).1.take ((dW s).1.length-1)),0)
def apq(s:Bytes)(hs:s.length<=100000):ar gv 195 [.str s] []=some (.tuple [.str (pY s).1,.str (pY s).2.1,aF (pY s).2.2],[]):=by
 refine az ?_;have q:=ad2 s hs;obtain⟨h1,h2⟩:=mj s;unfold pY;generalize dW s=l at q h1 h2 ⊢;obtain⟨l,e⟩:=l;simp only at h1 h2;have q2:=fun M=>lS (arv (l.take (l.length-1)) (fun x hx=>h1 x (dI hx)) (by simp; omega) M)
 simp only[dh,fj] at q2;simp only[abr,Wt,q,EW,seval];cases he:e != 0
 ·cases h0:(l.length:Int)==0
  ·have hne:0<l.length:=by
    have:¬((l.length:Int)=0):=by simpa using h0
    omega
   have hw:IntKind.i64.wrap ((l.length:Int)-1)=((l.length-1:Nat):Int):=by rw[gn (by omega) (by omega)]; omega
   have hx:=ai (show l.length-1<l.length by omega)
   have hg:l.getD (l.length-1) []=l[l.length-1]:=by simp[List.getD,hx]
   have hle:((l.length-1:Nat):Int)<=(l.length:Int):=by omega
   have hz:((0:Int)<=((l.length-1:Nat):Int))=True:=by simp
   simp only[Wt,he,h0,hw,hx,q2,hg,hle,hz,eH,af,aw,EW,seval]
  ·simp only[Wt,he,h0,dS,aE,EW,seval]
 ·simp only[Wt,he,dA,aE,EW,seval]
def arh s hs:=cP (apq s hs)
def Fk(s:Bytes)(_hs:s.length<=100000):(pY s).1.length<=1000/\(pY s).2.1.length<=1000:=by
 obtain⟨h1,h2⟩:=mj s;unfold pY;split
 ·exact⟨by simp,by simp⟩
 ·refine⟨?_,Oh _ (fun x hx=>h1 x (dI hx)) (by simp; omega)⟩
  simp only[List.getD];cases hx:(dW s).1[(dW s).1.length-1]? with
  |none=>simp
  |some x=>have:=lU (h1 x (aQ hx)); simp; omega
def nQ(ae:List Node):List Bytes->Int->Int×Int
 | [],an=>(an,0)
 |s::r,an=>if (dX ae an s).2 != 0 then (0,(dX ae an s).2) else nQ ae r (dX ae an s).1
def fY(t:Tree)(da:Bytes):Int×Int:=if (dW da).2 != 0 then (0,(dW da).2) else nQ t.ae (dW da).1 1
def YY{t:Tree}(ht:Small t)(hr:rh t){xs:List Bytes}(hxs:∀x,x∈xs->x.length<=100000)(hn:xs.length<=100000) :
  ∀(l pre:List Bytes)(an:Int),xs=pre++l->eV (ar gv) [.tmp 4,.tmp 5] 0 [.block 0,.seq agi] (.loop [2,8,19,20,21] Yg) [(2,b9 0),(8,aF an),(19,dh xs),(20,aF xs.length),(21,aF pre.length)] [bT (aJ t)] =
   some (.tuple [aF (nQ t.ae l an).1,aF (nQ t.ae l an).2],[]):=by
 intro l;induction l with
 |nil =>
  intro pre an h;rw[bt];simp only[JU,gU h,aJ,nQ,EW,seval]
 |cons s rest ih =>
  intro pre an h;rw[bt];have dQ:pre.length+1<=100000:=by rw[h] at hn; simp at hn; omega
  have hw:=vY pre s;have hi1:=ih (pre++[s]) (dX t.ae an s).1 (by rw[h]; simp)
  have q:=fun M=>lS (XC t.ae t.next t.aj an s ht hr (hxs s (by rw[h]; simp)) trivial M)
  rw[nQ];generalize dX t.ae an s=v at q hi1 ⊢;simp only[aD,au,av,aL,aJ] at hi1;simp only[JU,gd h,fc h,aJ,q,EW,seval];cases he:v.2 != 0
  ·simp only[JU,he,hw,af,aw,EW,seval];exact hi1
  ·simp only[JU,he,aE,EW,seval]
def c193(t:Tree)(da:Bytes)(ht:Small t)(hr:rh t)(hp:da.length<=100000):ar gv 193 [bq t,.str da] []=some (.tuple [aF (fY t da).1,aF (fY t da).2],[]):=by
 refine az ?_;have q:=ad2 da hp;obtain⟨h1,h2⟩:=mj da;have hl:=YY ht hr (xs:=(dW da).1) (fun x hx=>by have:=lU (h1 x hx); omega) (by omega) (dW da).1 [] 1 rfl
 unfold fY;generalize dW da=v at q hl ⊢;simp only[aJ,av] at hl;simp only[abp,JU,bq,aJ,q,EW,seval];cases he:v.2 != 0
 ·simp only[JU,he,af,aw,EW,seval];exact hl
 ·simp only[JU,he,aE,EW,seval]
def ale(t:Tree)(da:Bytes)(ht:Small t)(hr:rh t)(hp:da.length<=100000)(M:aG):aU (ar gv) 193 [.agg [aY t.ae,aF t.next,aF t.aj],.str da] M=some (.tuple [aF (fY t da).1,aF (fY t da).2],M) :=
 cO (c193 t da ht hr hp) M
def fS(e:Int):ag := .mQ (.iface 42 (.int .i64 e))
def c78(e:Int):ar gv 78 [aF e] []=some (if e != 0 then fS e else .tuple [],[]):=by
 refine az ?_;simp only[akv,E78,EW,seval];cases he:e != 0
 ·simp only[E78,af,aw,EW,seval]
 ·simp only[E78,aE,valOf,fS,EW,seval]
def uh(e:Int)(M:aG):aU (ar gv) 78 [aF e] M=some (if e != 0 then fS e else .tuple [],M) :=
 Cj (c78 e) rfl rfl (by split<;>rfl) rfl (by split<;>rfl) M
def c28(b:Bool)(e:Int)(he:(e != 0)=true):ar gv 28 [.bool b,aF e] []=some (if b then .tuple [] else fS e,[]):=by
 refine az ?_;have q:=uh e;rw[bc he] at q;cases b<;>simp only[aki,E28,q,fS,af,aE,aw,EW,seval]
def PB(b:Bool)(e:Int)(he:(e != 0)=true)(M:aG):aU (ar gv) 28 [.bool b,aF e] M=some (if b then .tuple [] else fS e,M) :=
 Cj (c28 b e he) rfl rfl (by split<;>rfl) rfl (by split<;>rfl) M
end
section
attribute [local irreducible] eV fZ je gK eo kr ar aU cA bH
def bX(f:aa)(o:jk):List ag:=[aY f.s.now.ae,.int .i64 f.s.now.next,.int .i64 f.s.now.aj,.int .i64 f.s.tick,wU f.s.since,vO f.s.dz,kO f.s.cf,.int .i64 f.s.next,fO f.holds,cY f.cq,
 .int .i64 o.kind,.int .i64 o.cH,.str o.da,.str o.tZ,.int .i64 o.n,.int .i64 o.m,.int .i64 o.handle,cR o.data,
 .int .i64 0,.int .i64 0,.int .i64 0,.int .i64 0,.int .i64 0,.slice .c0 [],.slice .c0 []]
abbrev cd(f:aa)(o:jk):dy := .cells (bX f o)
def dv(f:aa)(o:jk)(a:Eu)(x y:ag):dy := .cells [aY f.s.now.ae,.int .i64 f.s.now.next,.int .i64 f.s.now.aj,.int .i64 f.s.tick,wU f.s.since,vO f.s.dz,kO f.s.cf,.int .i64 f.s.next,fO f.holds,cY f.cq,
 .int .i64 o.kind,.int .i64 o.cH,.str o.da,.str o.tZ,.int .i64 o.n,.int .i64 o.m,.int .i64 o.handle,cR o.data,
 .int .i64 a.err,.int .i64 a.an,.int .i64 a.kind,.int .i64 a.n,.int .i64 a.m,x,y]
def Row(x:ag)(xs:List ag):Prop:=x = .slice .sh xs\/(x = .slice .c0 []/\xs=[])
def ot(K:Nat)(f:aa)(o:jk)(r:aa×Eu×Int):Prop :=
 ∃x y,Row x (r.2.1.names.map ag.str)/\Row y (r.2.1.data.map pU)/\ar gv K [.ptr 0 0] [.cells (bX f o)]=some (if r.2.2 != 0 then fS r.2.2 else .tuple [],[dv r.1 o r.2.1 x y])
def fL:Eu:=⟨0,0,0,0,0,[],[]⟩
def Ip{C:eK}{g p:Nat}{vs:List ag}{r:ag}{M:aG}{f f':aa}{o o':jk}(hM:nth M p=some (cd f o))(h:C g (.ptr 0 0::vs) [cd f o]=some (r,[cd f' o']))
  (h1:vs.all ag.flat=true) (h2:vs.flatMap ag.ids=[]) (h3:r.we=true) (h4:∀p,vs.map (ag.pL (iy [p]))=vs) (h5:∀p,r.Bg (wD [p])=r) :
  aU C g (.ptr p 0::vs) M=some (r,jj M p (cd f' o')) :=
 sI hM h h1 h2 h3 (h4 p) (h5 p) rfl rfl rfl rfl rfl
def c194(f:aa)(o:jk)(an:Int)(ht:Small f.s.now)(hr:rh f.s.now):ar gv 194 [b9 0,aF an] [cd f o]=some (.agg (aI (aX f.s.now.ae an)),[cd f o]):=by
 refine az ?_;have q:=fun M=>lS (Wj f.s.now an ht hr M)
 simp only[aI] at q;simp only[abq,ano,cd,bX,q,aI,EW,seval]
def alf(f:aa)(o:jk)(an:Int)(ht:Small f.s.now)(hr:rh f.s.now){p:Nat}{M:aG}(hM:nth M p=some (cd f o)):aU (ar gv) 194 [b9 p,aF an] M=some (.agg (aI (aX f.s.now.ae an)),M):=by
 have:=Ip hM (c194 f o an ht hr) rfl rfl rfl (fun _=>rfl) (fun _=>rfl)
 rwa[uC hM] at this
def aor(f:aa)(o:jk)(da:Bytes)(ht:Small f.s.now)(hr:rh f.s.now)(hp:da.length<=100000):ar gv 124 [b9 0,.str da] [cd f o] =
  some (if (fY f.s.now da).2 != 0 then fS (fY f.s.now da).2 else .agg (aI (aX f.s.now.ae (fY f.s.now da).1)),[cd f o]):=by
 refine az ?_;have q1:=ale f.s.now da ht hr hp;generalize fY f.s.now da=v at q1 ⊢;have q2:=uh v.2;have q3:∀b,aU (ar gv) 194 [b9 0,aF v.1] [cd f o,b]=some (.agg (aI (aX f.s.now.ae v.1)),[cd f o,b]):=fun b=>alf f o v.1 ht hr (p:=0) rfl
 simp only[cd,bX,aI] at q3;simp only[aaR,acG,cd,bX,q1,EW,seval];cases he:v.2 != 0<;>simp only[he,af,aE,aw,fS] at q2 ⊢
 ·simp only[acG,q2,q3,aI,EW,seval]
 ·simp only[acG,q2,EW,seval]
def KS(f:aa)(o:jk)(da:Bytes)(ht:Small f.s.now)(hr:rh f.s.now)(hp:da.length<=100000){p:Nat}{M:aG}(hM:nth M p=some (cd f o)):aU (ar gv) 124 [b9 p,.str da] M =
  some (if (fY f.s.now da).2 != 0 then fS (fY f.s.now da).2 else .agg (aI (aX f.s.now.ae (fY f.s.now da).1)),M):=by
 have:=Ip hM (aor f o da ht hr hp) rfl rfl (by split<;>rfl) (fun _=>rfl) (fun _=>by split<;>rfl)
 rwa[uC hM] at this
def iK(t:Tree)(da:Bytes):Int×Bytes×Int :=
 if (pY da).2.2 != 0 then (0,[],(pY da).2.2)
 else if (fY t (pY da).2.1).2 != 0 then (0,[],(fY t (pY da).2.1).2)
 else ((fY t (pY da).2.1).1,(pY da).1,0)
def aos(f:aa)(o:jk)(da:Bytes)(ht:Small f.s.now)(hr:rh f.s.now)(hp:da.length<=100000):ar gv 125 [b9 0,.str da] [cd f o] =
  some (if (iK f.s.now da).2.2 != 0 then fS (iK f.s.now da).2.2 else .tuple [aF (iK f.s.now da).1,.str (iK f.s.now da).2.1],[cd f o]):=by
 refine az ?_;have q1:=arh da hp;have hl:=Fk da hp;have q4:=ale f.s.now (pY da).2.1 ht hr (by omega)
 unfold iK;generalize pY da=l at q1 q4 ⊢;have q2:=uh l.2.2;generalize fY f.s.now l.2.1=v at q4 ⊢;have q3:=uh v.2;simp only[aaS,Wo,cd,bX,q1,EW,seval];cases he:l.2.2 != 0<;>simp only[he,af,aE,aw,fS] at q2 ⊢
 ·cases hv:v.2 != 0<;>simp only[hv,af,aE,aw,fS] at q3 ⊢
  ·simp only[Wo,q2,q4,q3,ak,af,aw,EW,seval]
  ·simp only[Wo,q2,q4,q3,hv,aE,EW,seval]
 ·simp only[Wo,q2,he,aE,EW,seval]
def Ru(f:aa)(o:jk)(da:Bytes)(ht:Small f.s.now)(hr:rh f.s.now)(hp:da.length<=100000){p:Nat}{M:aG}(hM:nth M p=some (cd f o)):aU (ar gv) 125 [b9 p,.str da] M =
  some (if (iK f.s.now da).2.2 != 0 then fS (iK f.s.now da).2.2 else .tuple [aF (iK f.s.now da).1,.str (iK f.s.now da).2.1],M):=by
 have:=Ip hM (aos f o da ht hr hp) rfl rfl (by split<;>rfl) (fun _=>rfl) (fun _=>by split<;>rfl)
 rwa[uC hM] at this
def vy(n:Node):Int:=if (n.data.length:Int)<(n.aM.length:Int) then (n.aM.length:Int) else (n.data.length:Int)
def aoC(n:Node):ar gv 134 [.agg (aI n)] []=some (aF (vy n),[]):=by
 refine az ?_;simp only[aaY,ane,bG,aI,vy,EW,seval]
def YJ{xs:List fp}(hn:xs.length<=100000){k:List K}{R:List Bytes->Option (ag×aG)}
  (hx:∀(out:List Bytes) e,kr (ar gv) [.tmp 2] 0 k ⟨.exit 0,(3,.slice (.own 0) (out.map ag.str))::e,[.tick 1 out.length]⟩=R out) :
  ∀(l pre:List fp)(out:List Bytes),xs=pre++l->out.length<=pre.length->eV (ar gv) [.tmp 2] 0 k (.loop [3,6,7,8] XW) [(3,.slice (.own 0) (out.map ag.str)),(6,ic xs),(7,aF xs.length),(8,aF pre.length)] [.tick 1 out.length]=R (out++l.map fp.name):=by
 intro l;induction l with
 |nil =>
  intro pre out h ho;rw[bt];simp only[Wp,gU h,EW,seval];exact hx _ _
 |cons n rest ih =>
  intro pre out h ho;rw[bt];have dQ:pre.length+1<=100000:=by rw[h] at hn; simp at hn; omega
  have hw:=vY pre n;have hi:=ih (pre++[n]) (out++[n.name]) (by rw[h]; simp) (by simp; omega)
  simp only[aD,au,av,bu,aP,a8,aL,fx,aR,aZ] at hi;have r1:cu (out.length+1) 16=True:=rb;simp only[Wp,gd h,fc h,fm,r1,hw,EW,seval];exact hi
def aoB(l:List fp)(hn:l.length<=100000):ar gv 133 [ic l] []=some (dh (l.map fp.name),[]):=by
 refine az ?_;have hl:=YJ hn (k:=[.block 0,.seq agd]) (R:=fun out=>some (dh out,[])) (fun out e=>by simp only[Wp,EW,seval]) l [] [] rfl (aC _)
 simp only[a8,av] at hl;simp only[QN,Wp,EW,seval];exact hl
def adZ l hn:=cP (aoB l hn)
def ad0 n:=cP (aoC n)
end
section
abbrev eI:Int->ag:=fun n => .int .i64 n
def bkI(B:Nat)(M:aG)(l:AM Int):List.map (ag.kG B M) (ra eI l)=ra eI l:=WW _ _ _ (fun _=>rfl) l
attribute [local irreducible] eV fZ je gK eo kr ar aU cA bH
def vN(ae:List Node)(dom:Int):List fp->AM Int->Option (AM Int)
 | [],m=>some m
 |e::r,m=>if (aX ae e.an).kind==1&&(dx m e.an).isSome&&((dx m e.an).getD 0 != dom) then none else vN ae dom r (lR m e.an dom)
def qt(ae:List Node)(l:List cF):List Node->AM Int->Bool
 | [],_=>true
 |d::r,m=>if (d.aM.length:Int)==0 then qt ae l r m else match vN ae (jN ae l d.an) d.aM m with
  |none=>false
  |some m'=>qt ae l r m'
def pd(t:Tree)(l:List cF):Bool:=qt t.ae l t.ae []
def Zc{t:Tree}(ht:Small t)(hr:rh t){ql:List cF}{d:Node}{dom i n0:Int}{k:List K}{R:Option (AM Int)->Option (ag×aG)}(hn:d.aM.length<=100000)
  (hx:∀m e,kr (ar bN) [.tmp 4] 0 k ⟨.exit 2,(1,cY ql)::(2,b9 0)::(5,.ia 1)::(8,aF dom)::(17,aY t.ae)::(18,aF n0)::(19,aF i)::e,[bT (aJ t),.map (Ca m) (ra eI m),bT (aI d)]⟩=R (some m))
  (hret:∀m b1 b2,kr (ar bN) [.tmp 4] 0 k ⟨.ret,[(4,.bool false)],[bT (aJ t),.map (Ca m) (ra eI m),bT (aI d),b1,b2]⟩=R none) :
  ∀(l pre:List fp)(m:AM Int),d.aM=pre++l->eV (ar bN) [.tmp 4] 0 k (.loop [1,2,5,8,17,18,19,33,34,35] afi) [(1,cY ql),(2,b9 0),(5,.ia 1),(8,aF dom),(17,aY t.ae),(18,aF n0),(19,aF i),(33,ic d.aM),(34,aF d.aM.length),(35,aF pre.length)] [bT (aJ t),.map (Ca m) (ra eI m),bT (aI d)] =
   R (vN t.ae dom l m):=by
 simp only[aJ,aI] at hx hret ⊢;intro l;induction l with
 |nil =>
  intro pre m h;rw[bt];simp only[PN,gU h,vN,bkI,EW,seval];exact hx _ _
 |cons e rest ih =>
  intro pre m h;rw[bt];have dQ:pre.length+1<=100000:=by rw[h] at hn; simp at hn; omega
  have hw:=vY pre e;have q1:=Wj t e.an ht hr;have hput:=tI eI m e.an dom;have hi:=ih (pre++[e]) (lR m e.an dom) (by rw[h]; simp)
  rw[vN];simp only[aI,aD,au,av,aL] at q1 hi;simp only[PN,gd h,fc h,fm,q1,pc,mapOf.eq_1,EW,seval];cases hm:dx m e.an with
  |none =>
   cases hk:(aX t.ae e.an).kind==1<;>simp only[PN,hm,hk,Uf,hput,hw,mapOf.eq_1,bkI,nI,eJ,dG,dw,af,aw,EW,seval]
   ·exact hi
   ·exact hi
  |some v =>
   cases hk:(aX t.ae e.an).kind==1<;>cases hd:v != dom<;>simp only[PN,hm,hk,hd,Mx,hput,hw,mapOf.eq_1,bkI,bZ,bh,dG,dw,c9,af,aE,aw,EW,seval]
   ·exact hi
   ·exact hi
   ·exact hi
   ·exact hret _ _ _
def Zd{t:Tree}{cE:Int->Nat}(ht:cr t cE 0){ql:List cF}(hq:oz ql)(hql:ql.length<=100000) :
  ∀(l pre:List Node)(m:AM Int),t.ae=pre++l->eV (ar bN) [.tmp 4] 0 [.block 0,.seq Vw] (.loop [1,2,5,17,18,19] Uc) [(1,cY ql),(2,b9 0),(5,.ia 1),(17,aY t.ae),(18,aF t.ae.length),(19,aF pre.length)] [bT (aJ t),.map (Ca m) (ra eI m)] =
   some (.bool (qt t.ae ql l m),[]):=by
 intro l;induction l with
 |nil =>
  intro pre m h;rw[bt];simp only[PN,gU h,qt,aJ,EW,seval]
 |cons d rest ih =>
  intro pre m h;rw[bt];have hn:=ht.ae;have dQ:pre.length+1<=200:=by rw[h] at hn; simp at hn; omega
  have hw:=vY pre d;have hi:=fun m=>ih (pre++[d]) m (by rw[h]; simp)
  have hfd:find t.ae d.an=some d:=(fC ht.jo.jv).2 ⟨by rw[h]; simp,rfl⟩
  rw[qt];simp only[aJ,aD,au,av,aL] at hi;simp only[PN,gd h,fc h,aJ,aI,EW,seval];cases he:(d.aM.length:Int)==0
  ·have hk:d.kind=2:=by
    rcases ht.kind _ _ hfd with h1|h1
    ·rw[(ht.file _ _ hfd h1).1] at he; simp at he
    ·exact h1
   have q1:=k94 ht hq hql hfd hk
   have hin:=Zc ht.sz.GZ ht.jo (ql:=ql) (d:=d) (dom:=jN t.ae ql d.an) (i:=pre.length) (n0:=t.ae.length) (k:=[.block 2,.block 1,.seq agt,.loop [1,2,5,17,18,19] 2 Uc,.block 0,.seq Vw])
    (R:=fun o=>some (.bool (match o with|none=>false|some m'=>qt t.ae ql rest m'),[])) (by have:=(ht.x9 _ _ hfd).2; omega)
    (fun m e=>by
     have:=hi m;simp only[aJ,aI,PN,hw,bkI,EW,seval];exact this)
    (fun m b1 b2=>by simp only[aJ,aI,PN,EW,seval]) d.aM [] m rfl
   simp only[aJ,aI,av] at hin;simp only[PN,he,q1,af,aw,EW,seval];refine hin.trans ?_;rfl
  ·simp only[PN,he,hw,aE,bkI,EW,seval];exact hi m
def c32(t:Tree)(l:List cF)(ht:Rt t)(hq:oz l)(hl:l.length<=100000):ar bN 32 [bq t,cY l] []=some (.bool (pd t l),[]):=by
 obtain⟨cE,ht⟩:=ht;refine az ?_;have h:=Zd ht hq hl t.ae [] [] rfl;simp only[aJ,av] at h;simp only[akj,PN,bq,aJ,EW,seval];exact h
def k32(t:Tree)(l:List cF)(ht:Rt t)(hq:oz l)(hl:l.length<=100000)(M:aG):aU (ar bN) 32 [.agg [aY t.ae,aF t.next,aF t.aj],cY l] M=some (.bool (pd t l),M):=cO (c32 t l ht hq hl) M
end
section
def Fy{args:List ag}{M:aG}{x:ag×aG}(h:BQ args M=some x):ar gv 201 args M=some x:=eY (T:=gv) (g:=BQ) rfl h
def amw(xs:List ag)(z:Tree)(W:dy):jE [W,bT (aJ z),.arr 3 0 xs] (iy [2,1]) [2,1]=some [.arr 3 0 xs,bT (aJ z)]:=rfl
def af6(z:Tree)(W:dy):jE [W,bT (aJ z)] (iy [1]) [1]=some [bT (aJ z)]:=rfl
attribute [local irreducible] eV fZ je gK eo kr ar aU cA bH
def ali(z:Tree)(W:dy):aU (ar gv) 201 [hZ [],.func 203 [b9 1]] [W,bT (aJ z)]=some (hZ [],[W,bT (aJ z)]) :=
 kB (ids:=[1]) rfl rfl (af6 z W) rfl rfl (Fy (OZ z)) rfl rfl rfl rfl rfl
def ari(xs:List cF)(z:Tree)(hz:Rt z)(hn:xs.length<=100000)(h0:xs≠[])(W:dy):∃b,Still b/\aU (ar gv) 201 [.cS 2 0 3 0 xs.length,.func 203 [b9 1]] [W,bT (aJ z),.arr 3 0 (xs.map dU)] =
  some (cY (jd z xs),[W,bT (aJ z),b]):=by
 obtain⟨b,hb,h⟩:=Vf xs z hz hn h0;refine⟨b,hb,kB (ids:=[2,1]) rfl rfl (amw _ z W) rfl rfl (Fy h) rfl rfl ?_ rfl ?_⟩
 ·simp only[lq,hb.2.1]; rfl
 ·simp only[kY,hb.2.2]; rfl
def lg(l:List eB):List Int->Tree->Tree
 | [],t=>t
 |i::r,t=>lg l r (if !mP l i then (jO t i).1 else t)
def vg(l:List eB):∀(r:List Int)(t:Tree),Rt t->Rt (lg l r t)
 | [],t,h=>h
 |i::r,t,h=>by
  rw[lg];refine vg l r _ ?_;split
  ·exact h.free i
  ·exact h
def Uj{f:aa}{o:jk}{q:List cF}(hh:f.holds.length<=100000){xs:List Int}(hn:xs.length<=100000){fin:Tree}{k:List K}{r:Option (ag×aG)}
  (hx:∀e,kr (ar gv) [] 1 k ⟨.exit 0,(0,b9 0)::(2,cY q)::(4,b9 1)::e,[cd f o,bT (aJ fin)]⟩=r) :
  ∀(l pre:List Int)(t:Tree),xs=pre++l->Rt t->lg f.holds l t=fin->eV (ar gv) [] 1 k (.loop [0,2,4,13,14,15] XV) [(0,b9 0),(2,cY q),(4,b9 1),(13,wU xs),(14,aF xs.length),(15,aF pre.length)] [cd f o,bT (aJ t)]=r:=by
 simp only[cd,bX,aJ] at hx ⊢;intro l;induction l with
 |nil =>
  intro pre t h ht hfin;rw[bt];rw[lg] at hfin;subst hfin;simp only[sw,gU h,EW,seval];exact hx _
 |cons i rest ih =>
  intro pre t h ht hfin;rw[bt];have dQ:pre.length+1<=100000:=by rw[h] at hn; simp at hn; omega
  have hw:=vY pre i;rw[lg] at hfin;have hi1:=ih (pre++[i]) t (by rw[h]; simp) ht
  have hi2:=ih (pre++[i]) (jO t i).1 (by rw[h]; simp) (ht.free i)
  have q1:∀M,nth M 2=some (bT [aF i])->aU (ar gv) 164 [fO f.holds,.func 199 [b9 2]] M=some (.bool (mP f.holds i),M):=fun M hM=>lS (zu hM (ajq f.holds i hh) rfl rfl rfl)
  have q2:=fun M=>lS (alh t i ht.small ht.jo M)
  simp only[aJ,aD,au,av,aL] at hi1 hi2 q2;simp only[sw,gd h,fc h,q1,EW,seval];cases he:mP f.holds i<;>rw[he] at hfin
  ·simp only[fg,aE] at hfin;have:=hi2 hfin;simp only[sw,he,q2,hw,EW,seval];exact this
  ·simp only[c8,af,aw] at hfin;have:=hi1 hfin;simp only[sw,he,hw,EW,seval];exact this
def kW(t:Tree)(q:cF):Bool := !(decide ((jU t.ae q.an).1<=q.ae)&&decide ((jU t.ae q.an).2<=q.bytes))
def Oz{f:aa}{o:jk}{t:Tree}(ht:Rt t){xs:List cF}(hn:xs.length<=100000){k:List K}{r:Option (ag×aG)}
  (hx:∀e,xs.any (kW t)=false->kr (ar gv) [] 1 k ⟨.exit 2,(0,b9 0)::(2,cY xs)::(4,b9 1)::e,[cd f o,bT (aJ t)]⟩=r)
  (hp:∀c,xs.any (kW t)=true->kr (ar gv) [] 1 k ⟨.mQ (.iface 42 (.int .i64 90)),[],[cd f o,bT (aJ t),c]⟩=r) :
  ∀(l pre:List cF),xs=pre++l->pre.any (kW t)=false->eV (ar gv) [] 1 k (.loop [0,2,4,42,43,44] Ms) [(0,b9 0),(2,cY xs),(4,b9 1),(42,cY xs),(43,aF xs.length),(44,aF pre.length)] [cd f o,bT (aJ t)]=r:=by
 simp only[cd,bX,aJ] at hx hp ⊢;intro l;induction l with
 |nil =>
  intro pre h hpre;rw[bt];have hany:xs.any (kW t)=false:=by rw[h,cZ]; exact hpre
  simp only[sw,gU h,EW,seval];exact hx _ hany
 |cons q rest ih =>
  intro pre h hpre;rw[bt];have dQ:pre.length+1<=100000:=by rw[h] at hn; simp at hn; omega
  have hw:=vY pre q;have q1:=fun M=>lS (k93 ht q.an M)
  have q2:=fun bb=>PB bb 90 rfl
  have hov:∀z,kW t q=z->(decide ((jU t.ae q.an).1<=q.ae)&&decide ((jU t.ae q.an).2<=q.bytes)) = !z:=fun z hz=>by rw[<-hz]; unfold kW; simp
  simp only[sw,gd h,fc h,il,q1,EW,seval];cases ho:kW t q
  ·have hi:=ih (pre++[q]) (by rw[h]; simp) (by simp[hpre,ho])
   have hv:=hov _ ho;simp only[aD,au,av,aL] at hi;simp only[fg,bn] at hv;simp only[sw,hv.1,hv.2,q2,hw,aE,EW,seval];exact hi
  ·have hany:xs.any (kW t)=true:=by rw[h]; simp[ho]
   have hv:=hov _ ho;cases h1:decide ((jU t.ae q.an).1<=q.ae)<;>cases h2:decide ((jU t.ae q.an).2<=q.bytes)<;>simp only[h1,h2,j9,c8] at hv
   ·simp only[sw,h1,h2,q2,fS,af,aw,EW,seval];exact hp _ hany
   ·simp only[sw,h1,h2,q2,fS,af,aw,EW,seval];exact hp _ hany
   ·simp only[sw,h1,h2,q2,fS,af,aw,EW,seval];exact hp _ hany
   ·cases hv
def Oy{f:aa}{o:jk}{t:Tree}(ht:Rt t){xs:List cF}(hn:xs.length<=100000){b:dy}(hbb:Still b){k:List K}{r:Option (ag×aG)}
  (hx:∀e,xs.any (kW t)=false->kr (ar gv) [] 1 k ⟨.exit 2,(0,b9 0)::(2,cY xs)::(4,b9 1)::e,[cd f o,bT (aJ t),b]⟩=r)
  (hp:∀c,xs.any (kW t)=true->kr (ar gv) [] 1 k ⟨.mQ (.iface 42 (.int .i64 90)),[],[cd f o,bT (aJ t),b,c]⟩=r) :
  ∀(l pre:List cF),xs=pre++l->pre.any (kW t)=false->eV (ar gv) [] 1 k (.loop [0,2,4,42,43,44] Ms) [(0,b9 0),(2,cY xs),(4,b9 1),(42,cY xs),(43,aF xs.length),(44,aF pre.length)] [cd f o,bT (aJ t),b]=r:=by
 simp only[cd,bX,aJ] at hx hp ⊢;intro l;induction l with
 |nil =>
  intro pre h hpre;rw[bt];have hany:xs.any (kW t)=false:=by rw[h,cZ]; exact hpre
  simp only[sw,gU h,EW,seval];exact hx _ hany
 |cons q rest ih =>
  intro pre h hpre;rw[bt];have dQ:pre.length+1<=100000:=by rw[h] at hn; simp at hn; omega
  have hw:=vY pre q;have q1:=fun M=>lS (k93 ht q.an M)
  have q2:=fun bb=>PB bb 90 rfl
  have hov:∀z,kW t q=z->(decide ((jU t.ae q.an).1<=q.ae)&&decide ((jU t.ae q.an).2<=q.bytes)) = !z:=fun z hz=>by rw[<-hz]; unfold kW; simp
  simp only[sw,gd h,fc h,il,q1,EW,seval];cases ho:kW t q
  ·have hi:=ih (pre++[q]) (by rw[h]; simp) (by simp[hpre,ho])
   have hv:=hov _ ho;simp only[aD,au,av,aL] at hi;simp only[fg,bn] at hv;simp only[sw,hv.1,hv.2,q2,hw,aE,hbb.1,EW,seval];exact hi
  ·have hany:xs.any (kW t)=true:=by rw[h]; simp[ho]
   have hv:=hov _ ho;cases h1:decide ((jU t.ae q.an).1<=q.ae)<;>cases h2:decide ((jU t.ae q.an).2<=q.bytes)<;>simp only[h1,h2,j9,c8] at hv
   ·simp only[sw,h1,h2,q2,fS,af,aw,EW,seval];exact hp _ hany
   ·simp only[sw,h1,h2,q2,fS,af,aw,EW,seval];exact hp _ hany
   ·simp only[sw,h1,h2,q2,fS,af,aw,EW,seval];exact hp _ hany
   ·cases hv
def gz(f:aa)(t:Tree)(q:List cF):aa×Int :=
 if !pd (lg f.holds (jS t) t) (jd (lg f.holds (jS t) t) q) then (f,91)
 else if (jd (lg f.holds (jS t) t) q).any (kW (lg f.holds (jS t) t)) then (f,90)
 else (⟨ki f.s (lg f.holds (jS t) t),f.holds,jd (lg f.holds (jS t) t) q⟩,0)
structure uo(f:aa):Prop where
 rt:Rt f.s.now
 len:f.s.since.length=f.s.now.ae.length
 dz:f.s.dz.length<=90000
 Cf:∀p,p∈f.s.dz->p.node.aM.length<=64/\p.node.data.length<=4096
 cf:f.s.cf.length<=16
 holds:tq f.holds
 dQ:f.holds.length<=64
 cq:oz f.cq
 rB:f.cq.length<=16
def ak2(s:gh)(t:Tree)(hs:rh s.now)(hz:Sz 200 s.now)(ht:rh t)(hzt:Sz 200 t)(hk:s.cf.length<=100000)(hl:s.since.length=s.now.ae.length)(hp:s.dz.length<=100000)(M:aG) :
  aU (ar bN) 137 [.agg (bo s),.agg [aY t.ae,aF t.next,aF t.aj]] M=some (.agg (bo (ki s t)),M):=cO (aoF s t hs hz ht hzt hk hl hp) M
def Fi{t:Tree}{q:List cF}(h:oz q):oz (jd t q):=jt _ h
def A3(t:Tree)(q:List cF):(jd t q).length<=q.length:=bU _ _
def aou(f:aa)(o:jk)(t:Tree)(q:List cF)(hf:uo f)(ht:Rt t)(hq:oz q)(hql:q.length<=16):ar gv 127 [b9 0,bq t,cY q] [cd f o] =
  some (if (gz f t q).2 != 0 then fS (gz f t q).2 else .tuple [],[cd (gz f t q).1 o]):=by
 refine az ?_;have q0:=fun M=>lS (k90 t (by have:=ht.sz.ae; omega) M)
 have hor:(jS t).length<=100000:=by have:=ht.sz.ae; have h2:=bU ep t.ae; unfold jS; simp; omega
 have hl:=Uj (f:=f) (o:=o) (q:=q) (by have:=hf.dQ; omega) (xs:=jS t) hor (fin:=lg f.holds (jS t) t) (k:=[.block 0,.seq ZM])
  (r:=some (if (gz f t q).2 != 0 then fS (gz f t q).2 else .tuple [],[cd (gz f t q).1 o])) ?_ (jS t) [] t rfl ht rfl
 ·simp only[cd,bX,aJ,av] at hl;simp only[QM,sw,cd,bX,bq,aJ,q0,EW,seval];exact hl
 ·intro e;have ht1:=vg f.holds (jS t) t ht;unfold gz;generalize lg f.holds (jS t) t=t1 at ht1 ⊢;have q1:=fun M=>lS (k32 t1 (jd t1 q) ht1 (Fi hq) (by have:=A3 t1 q; omega) M)
  have q2:=fun bb=>PB bb 91 rfl
  have q3:=fun M=>lS (ak2 f.s t1 hf.rt.jo hf.rt.sz ht1.jo ht1.sz (by have:=hf.cf; omega) hf.len (by have:=hf.dz; omega) M)
  generalize ki f.s t1=ps at q3 ⊢;simp only[bo] at q3
  by_cases h0:q=[]
  ·have p1:=fun M=>lS' (Dd dU (f:=202) (sz:=3) (bytes:=24) rfl h0 M)
   have hk0:jd t1 q=[]:=by subst h0; rfl
   rw[hk0] at q1 ⊢;have q1:∀M,aU (ar gv) 32 [.agg [aY t1.ae,aF t1.next,aF t1.aj],hZ []] M=some (.bool (pd t1 []),M):=q1
   have p2:=ali t1 (cd f o);cases hd:pd t1 []
   ·rw[hd] at q1;simp only[cd,bX,aJ,fS] at p2 ⊢;simp only[sw,p1,p2,q1,q2,fS,hd,af,aE,aw,EW,seval]
   ·rw[hd] at q1
    have hlp:=Oz (f:=f) (o:=o) (t:=t1) ht1 (xs:=[]) (by simp) (k:=[.block 2,.seq MN]) (r:=some (.tuple [],[cd ⟨ps,f.holds,[]⟩ o]))
     (fun e _=>by simp only[cd,bX,aJ,sw,q3,bo,EW,seval]; rfl) (fun c h=>by cases h) [] [] rfl rfl
    simp only[cd,bX,aJ,fS,av] at p2 hlp ⊢;simp only[sw,p1,p2,q1,q2,hd,fS,af,aE,aw,List.any_nil,ak,EW,seval];exact hlp
  ·obtain⟨b,hb,p2⟩:=ari q t1 ht1 (by omega) h0 (cd f o)
   have p1:=fun M=>lS' (Cl dU (f:=202) (sz:=3) (bytes:=24) rfl (fun _=>rfl) (by omega) h0 (by omega) M)
   have hkl:(jd t1 q).length<=100000:=by have:=A3 t1 q; omega
   generalize jd t1 q=kq at q1 p2 hkl ⊢;cases hd:pd t1 kq
   ·rw[hd] at q1;simp only[cd,bX,aJ,fS] at p2 ⊢;simp only[sw,p1,p2,q1,q2,fS,hd,hb.1,af,aE,aw,EW,seval]
   ·rw[hd] at q1
    have hlp:=Oy (f:=f) (o:=o) (t:=t1) ht1 (xs:=kq) hkl hb (k:=[.block 2,.seq MN]) (r:=some (if kq.any (kW t1) then fS 90 else .tuple [],[cd (if kq.any (kW t1) then f else ⟨ps,f.holds,kq⟩) o]))
     (fun e h=>by simp only[h,af,aw,cd,bX,aJ,sw,q3,bo,EW,seval]) (fun c h=>by simp only[h,aE,cd,bX,aJ,sw,fS,EW,seval]) kq [] rfl rfl
    simp only[cd,bX,aJ,fS,av] at p2 hlp ⊢;simp only[sw,p1,p2,q1,q2,hd,fS,af,aE,aw,EW,seval];refine hlp.trans ?_;cases kq.any (kW t1)<;>rfl
end
section
attribute [local irreducible] eV fZ je gK eo kr ar aU cA bH
structure wL(o:jk):Prop where
 da:o.da.length<=90000
 tZ:o.tZ.length<=90000
 data:o.data.length<=90000
def cr.Px{t:Tree}{cE:Int->Nat}(h:cr t cE 0)(to:Int)(nm:Bytes):∀e,eG (gr t.ae to).1.aM nm=some e->(aX t.ae e.an).an≠to:=by
 intro e he;unfold gr at he;split at he
 ·cases he
 ·rename_i n hn;split at he
  ·have hem:=(gu he).1;obtain⟨_,_,_,_,m,hm,_⟩:=h.Au _ _ e hn hem;simp only[aX,hm,bh,(bP hm).2];exact h.wV hn hem
  ·cases he
def Oi(f:aa)(o:jk)(t:Tree)(q:List cF)(hf:uo f)(ht:Rt t)(hq:oz q)(hql:q.length<=16){p:Nat}{M:aG}(hM:nth M p=some (cd f o)):aU (ar gv) 127 [b9 p,.agg [aY t.ae,aF t.next,aF t.aj],cY q] M =
  some (if (gz f t q).2 != 0 then fS (gz f t q).2 else .tuple [],jj M p (cd (gz f t q).1 o)) :=
 Ip hM (aou f o t q hf ht hq hql) rfl rfl (by split<;>rfl) (fun _=>rfl) (fun _=>by split<;>rfl)
def aqX(t:Tree)(ht:Rt t)(dir:Int)(s:Bytes)(kind:Int)(hs:s.length<=100000)(M:aG):aU (ar gv) 126 [.agg [aY t.ae,aF t.next,aF t.aj],aF dir,.str s,aF kind] M =
  some (.tuple [.agg [aY (rl t dir s kind).1.ae,aF (rl t dir s kind).1.next,aF (rl t dir s kind).1.aj],aF (rl t dir s kind).2.1,aF (rl t dir s kind).2.2],M):=by
 obtain⟨cE,h⟩:=ht;have:=aot t dir s kind (h.sz.up (by omega)) h.jo hs trivial h.jf
 rw[WG h] at this;exact lS (cO this M)
def aqY(t:Tree)(ht:Rt t)(an dir:Int)(s:Bytes)(hs:s.length<=100000)(M:aG):aU (ar gv) 128 [.agg [aY t.ae,aF t.next,aF t.aj],aF an,aF dir,.str s] M =
  some (.tuple [.agg [aY (Cd t an dir s).1.ae,aF (Cd t an dir s).1.next,aF (Cd t an dir s).1.aj],aF (Cd t an dir s).2],M):=by
 obtain⟨cE,h⟩:=ht;have:=aov t an dir s (h.sz.up (by omega)) h.jo hs trivial
 rw[afD h] at this;exact lS (cO this M)
def aqZ(t:Tree)(ht:Rt t)(dir:Int)(s:Bytes)(hs:s.length<=100000)(M:aG):aU (ar gv) 129 [.agg [aY t.ae,aF t.next,aF t.aj],aF dir,.str s] M =
  some (.tuple [.agg [aY (Aj t dir s).1.ae,aF (Aj t dir s).1.next,aF (Aj t dir s).1.aj],aF (Aj t dir s).2.1,aF (Aj t dir s).2.2],M):=by
 obtain⟨cE,h⟩:=ht;have:=aow t dir s (h.sz.up (by omega)) h.jo hs trivial
 rw[agS h] at this;exact lS (cO this M)
def aq0(t:Tree)(ht:Rt t)(dir:Int)(s:Bytes)(to:Int)(nm:Bytes)(hs:s.length<=100000)(hn:nm.length<=100000)(M:aG):aU (ar gv) 131 [.agg [aY t.ae,aF t.next,aF t.aj],aF dir,.str s,aF to,.str nm] M =
  some (.tuple [.agg [aY (wE t dir s to nm).1.ae,aF (wE t dir s to nm).1.next,aF (wE t dir s to nm).1.aj],aF (wE t dir s to nm).2.1,aF (wE t dir s to nm).2.2],M):=by
 obtain⟨cE,h⟩:=ht;have:=aoz t dir s to nm (h.sz.up (by omega)) h.jo hs trivial hn trivial (fun e he=>h.Px to nm e he)
 rw[afL h] at this;exact lS (cO this M)
def arL(t:Tree)(ht:Rt t)(an:Int)(s:Bytes)(hs:s.length<=100000)(M:aG):aU (ar gv) 130 [.agg [aY t.ae,aF t.next,aF t.aj],aF an,.str s] M =
  some (.tuple [aF (dX t.ae an s).1,aF (dX t.ae an s).2],M):=lS (XC t.ae t.next t.aj an s ht.small ht.jo hs trivial M)
def alD(t:Tree)(ht:Rt t)(an:Int)(d:Bytes)(hd:d.length<=100000)(M:aG):aU (ar gv) 227 [.agg [aY t.ae,aF t.next,aF t.aj],aF an,cR d] M =
  some (.tuple [.agg [aY (rf t an d).1.ae,aF (rf t an d).1.next,aF (rf t an d).1.aj],aF (rf t an d).2],M):=lS (cO (apK t an d ht.small ht.jo hd) M)
def Rt.add{t:Tree}(h:Rt t)(dir:Int)(s:Bytes)(kind:Int):Rt (rl t dir s kind).1:=let ⟨_,g⟩:=h; PY g dir s kind (fun h=>h)
def Rt.ln{t:Tree}(h:Rt t)(an dir:Int)(s:Bytes):Rt (Cd t an dir s).1:=let ⟨_,g⟩:=h; ⟨_,YC g an dir s (fun h=>h)⟩
def Rt.un{t:Tree}(h:Rt t)(dir:Int)(s:Bytes):Rt (Aj t dir s).1:=let ⟨_,g⟩:=h; ⟨_,M5 g dir s⟩
def Rt.mv{t:Tree}(h:Rt t)(dir:Int)(s:Bytes)(to:Int)(nm:Bytes):Rt (wE t dir s to nm).1:=let ⟨_,g⟩:=h; Zu g dir s to nm (fun h=>h)
def Rt.put{t:Tree}(h:Rt t)(an:Int)(d:Bytes):Rt (rf t an d).1:=let ⟨_,g⟩:=h; ⟨_,Vn g an d⟩
def vA(t:Tree)(s:Bytes)(hs:s.length<=100000):(iK t s).2.1.length<=1000:=by
 have:=Fk s hs;unfold iK;split
 ·simp
 ·split
  ·simp
  ·simp only; omega
abbrev Wk:=aa×Eu×Int
def wj(f:aa)(o:jk):Wk :=
 if (fY f.s.now o.da).2 != 0 then (f,fL,(fY f.s.now o.da).2)
 else (f,⟨0,(aX f.s.now.ae (fY f.s.now o.da).1).an,(aX f.s.now.ae (fY f.s.now o.da).1).kind,0,0,[],[]⟩,0)
def c61(f:aa)(o:jk)(hf:uo f)(ho:wL o):ot 61 f o (wj f o):=by
 unfold ot;refine⟨.slice .c0 [],.slice .c0 [],.inr ⟨rfl,?_⟩,.inr ⟨rfl,?_⟩,az ?_⟩
 ·unfold wj; split<;>rfl
 ·unfold wj; split<;>rfl
 have q1:=fun {M}=>KS f o o.da hf.rt.small hf.rt.jo (by have:=ho.da; omega) (p:=0) (M:=M)
 unfold wj;generalize fY f.s.now o.da=v at q1 ⊢;simp only[cd,bX,aI] at q1;cases he:v.2 != 0
 ·simp only[he,af,aw] at q1 ⊢;simp only[adQ,E61,cd,bX,dv,q1,ak,af,aw,EW,seval]
 ·simp only[he,aE,fS] at q1 ⊢;simp only[adQ,E61,cd,bX,dv,fL,q1,he,aE,fS,EW,seval]
def yo(f:aa)(o:jk):Wk :=
 let v:=iK f.s.now o.da
 let w:=rl f.s.now v.1 v.2.1 o.n
 let r:=gz f w.1 f.cq
 if v.2.2 != 0 then (f,fL,v.2.2)
 else if w.2.2 != 0 then (f,fL,w.2.2)
 else if r.2 != 0 then (r.1,fL,r.2)
 else (r.1,⟨0,w.2.1,o.n,0,0,[],[]⟩,0)
def c62(f:aa)(o:jk)(hf:uo f)(ho:wL o):ot 62 f o (yo f o):=by
 unfold ot;refine⟨.slice .c0 [],.slice .c0 [],.inr ⟨rfl,?_⟩,.inr ⟨rfl,?_⟩,az ?_⟩
 ·unfold yo; simp only[]; split<;>(try split)<;>(try split)<;>rfl
 ·unfold yo; simp only[]; split<;>(try split)<;>(try split)<;>rfl
 have hp:o.da.length<=100000:=by have:=ho.da; omega
 have q1:=fun {M}=>Ru f o o.da hf.rt.small hf.rt.jo hp (p:=0) (M:=M)
 have hl:=vA f.s.now o.da hp;unfold yo;simp only[];generalize iK f.s.now o.da=v at q1 hl ⊢;have q2:=aqX f.s.now hf.rt v.1 v.2.1 o.n (by omega)
 have hr:=hf.rt.add v.1 v.2.1 o.n;generalize rl f.s.now v.1 v.2.1 o.n=w at q2 hr ⊢;have q3:=uh w.2.2;have q4:=fun {M}=>Oi f o w.1 f.cq hf hr hf.cq hf.rB (p:=0) (M:=M)
 generalize gz f w.1 f.cq=r at q4 ⊢;simp only[cd,bX] at q1 q4;cases he:v.2.2 != 0
 ·simp only[he,af,aw] at q1 ⊢;cases hw:w.2.2 != 0
  ·simp only[hw,af,aw] at q3 ⊢;cases hs:r.2 != 0
   ·simp only[hs,af,aw] at q4 ⊢;simp only[Q9,E62,cd,bX,dv,q1,q2,q3,q4,ak,af,aw,EW,seval]
   ·simp only[hs,aE,fS] at q4 ⊢;simp only[Q9,E62,cd,bX,dv,fL,q1,q2,q3,q4,hs,aE,EW,seval]
  ·simp only[hw,aE,fS] at q3 ⊢;simp only[Q9,E62,cd,bX,dv,fL,q1,q2,q3,hw,aE,EW,seval]
 ·simp only[he,aE,fS] at q1 ⊢;simp only[Q9,E62,cd,bX,dv,fL,q1,he,aE,EW,seval]
def arM(t:Tree)(ht:Rt t)(l:List eB)(c h an:Int)(hl:tq l)(hn:l.length<=64)(M:aG):aU (ar gv) 135 [.agg [aY t.ae,aF t.next,aF t.aj],fO l,aF c,aF h,aF an] M=some (.tuple [fO (sq t l c h an).1,aF (sq t l c h an).2],M):=lS (aq2 t l c h an ht.small ht.jo hl hn M)
def arN(t:Tree)(ht:Rt t)(l:List eB)(c h:Int)(hn:l.length<=64)(M:aG):aU (ar gv) 136 [.agg [aY t.ae,aF t.next,aF t.aj],fO l,aF c,aF h] M=some (.tuple [.agg (aJ (lL t l c h).1),fO (lL t l c h).2.1,aF (lL t l c h).2.2],M):=lS (ak1 t l c h ht.small ht.jo hn M)
def aq4(t:Tree)(l:List cF)(an ae bytes:Int)(ht:Rt t)(hq:oz l)(hn:l.length<=16)(M:aG):aU (ar gv) 141 [.agg [aY t.ae,aF t.next,aF t.aj],cY l,aF an,aF ae,aF bytes] M=some (.tuple [cY (tP t l an ae bytes).1,aF (tP t l an ae bytes).2],M) :=
 lS (cO (aoH t l an ae bytes ht hq hn) M)
def alE(f:aa)(hf:uo f)(t:Tree)(ht:Rt t)(M:aG):aU (ar gv) 137 [.agg (bo f.s),.agg [aY t.ae,aF t.next,aF t.aj]] M=some (.agg (bo (ki f.s t)),M) :=
 lS (ak2 f.s t hf.rt.jo hf.rt.sz ht.jo ht.sz (by have:=hf.cf; omega) hf.len (by have:=hf.dz; omega) M)
def Rt.gone{t:Tree}(h:Rt t)(c:Int):∀(l k:List eB),Rt (si c l t k).1:=by
 intro l;induction l generalizing t with
 |nil=>intro k; exact h
 |cons x r ih =>
  intro k;rw[si];split
  ·exact ih (h.close _ _ _) _
  ·exact ih h _
def Mo{α:Type}{lt:α->Bool}{R:α->α->Prop}{l:List α}{b:Nat}(h:l.Pairwise R)(hl:PS lt l b){x:α}(h1:∀y,y∈l->lt y=true->R y x)(h2:∀y,y∈l->lt y=false->R x y)(ht:∀a b c,R a b->R b c->R a c):(l.take b++x::l.drop b).Pairwise R:=by
 have hT:∀y,y∈l.take b->R y x:=by
  intro y hy;obtain⟨i,hi⟩:=bE hy;rw[gI] at hi;split at hi
  ·rename_i hib;exact h1 y (aQ hi) ((hl.lt i y hi).2 hib)
  ·cases hi
 have hD:∀y,y∈l.drop b->R x y:=by
  intro y hy;obtain⟨i,hi⟩:=bE hy;rw[cI] at hi;refine h2 y (aQ hi) ?_;cases he:lt y
  ·rfl
  ·have:=(hl.lt _ y hi).1 he; omega
 rw[dJ];refine⟨h.sublist (List.take_sublist _ _),cv.2 ⟨hD,h.sublist (List.drop_sublist _ _)⟩,?_⟩;intro a ha c hc;rcases bC.1 hc with rfl|hc
 ·exact hT a ha
 ·exact ht _ _ _ (hT a ha) (hD c hc)
def FF{t:Tree}{l:List cF}(hq:oz l)(hn:l.length<=16)(an ae bytes:Int):oz (tP t l an ae bytes).1/\(tP t l an ae bytes).1.length<=16:=by
 have hlow:=xQ hq an;have hat:=P4 (key:=cF.an) hq an;have e1:Rq cF.an l an=Fh l an:=rfl;have e2:vl cF.an l an=wB l an:=rfl;rw[e1,e2] at hat;unfold tP;split
 ·exact⟨hq,hn⟩
 split
 ·exact⟨hq,hn⟩
 split
 ·split
  ·exact⟨hq.sublist (List.eraseIdx_sublist _ _),aW (List.eraseIdx_sublist _ _).length_le hn⟩
  ·exact⟨hq,hn⟩
 split
 ·exact⟨hq,hn⟩
 split
 ·rename_i hi;rcases hat with ⟨_,n,h2,h3,_⟩|⟨h1,_⟩
  ·refine⟨?_,by simpa using hn⟩
   have hm:((l.set (wB l an) ⟨an,ae,bytes⟩).map cF.an)=l.map cF.an:=by
    rw[kN];have cz:=(aq.1 h2).1;refine dM fun i=>?_
    rw[List.getElem?_set];split
    ·rename_i hh;subst hh;simp only[fH,cz,aE,bf,h2,eP,h3]
    ·rfl
   have:((l.set (wB l an) ⟨an,ae,bytes⟩).map cF.an).Pairwise (· < ·):=by rw[hm]; exact iC.2 hq
   exact iC.1 this
  ·rw[hi] at h1; cases h1
 split
 ·exact⟨hq,hn⟩
 ·rename_i hi dQ
  have hne:∀y,y∈l->y.an≠an:=by
   rcases hat with ⟨h1,_⟩|⟨_,h2⟩
   ·exact absurd h1 hi
   ·intro y hy; have:=df.1 h2 y hy; simpa using this
  simp only[pk,bg] at dQ;refine⟨Mo hq hlow (fun y hy h=>?_) (fun y hy h=>?_) (fun a b c h1 h2=>Int.lt_trans h1 h2),by simp; have:=hlow.le; omega⟩
  ·simp only[bg,xF] at h; exact h
  ·simp only[dP,xF] at h; have:=hne y hy; simp only; omega
def yn(f:aa)(o:jk):Wk :=
 let v:=fY f.s.now o.da
 let n:=aX f.s.now.ae v.1
 let s:=iK f.s.now o.tZ
 let w:=Cd f.s.now n.an s.1 s.2.1
 let r:=gz f w.1 f.cq
 if v.2 != 0 then (f,fL,v.2) else
 if s.2.2 != 0 then (f,fL,s.2.2) else
 if w.2 != 0 then (f,fL,w.2) else
 if r.2 != 0 then (r.1,fL,r.2) else
 (r.1,⟨0,n.an,0,0,0,[],[]⟩,0)
def c63(f:aa)(o:jk)(hf:uo f)(ho:wL o):ot 63 f o (yn f o):=by
 unfold ot;have hp:o.da.length<=100000:=by have:=ho.da; omega
 have hto:o.tZ.length<=100000:=by have:=ho.tZ; omega
 refine⟨.slice .c0 [],.slice .c0 [],.inr ⟨rfl,?_⟩,.inr ⟨rfl,?_⟩,az ?_⟩
 ·unfold yn; simp only[]; split<;>(try split)<;>(try split)<;>(try split)<;>rfl
 ·unfold yn; simp only[]; split<;>(try split)<;>(try split)<;>(try split)<;>rfl
 unfold yn;simp only[];have q1:=fun {M}=>KS f o o.da hf.rt.small hf.rt.jo hp (p:=0) (M:=M)
 generalize fY f.s.now o.da=v at q1 ⊢;have q1:=@q1;generalize aX f.s.now.ae v.1=n at q1 ⊢;have hl:=vA f.s.now o.tZ hto;have q2:=fun {M}=>Ru f o o.tZ hf.rt.small hf.rt.jo hto (p:=0) (M:=M)
 have hl:=hl;generalize iK f.s.now o.tZ=s at q2 hl ⊢;have q3:=aqY f.s.now hf.rt n.an s.1 s.2.1 (by omega)
 have hr:=hf.rt.ln n.an s.1 s.2.1;generalize Cd f.s.now n.an s.1 s.2.1=w at q3 hr ⊢;have q5:=fun {M}=>Oi f o w.1 f.cq hf hr hf.cq hf.rB (p:=0) (M:=M)
 generalize gz f w.1 f.cq=r at q5 ⊢;simp only[cd,bX,aI,bo,aJ] at q1 q2 q3 q5;cases h0:v.2 != 0
 ·cases h1:s.2.2 != 0
  ·cases h2:w.2 != 0
   ·cases h3:r.2 != 0
    ·simp only[N4,E63,cd,bX,dv,fL,q1,q2,q3,q5,h0,h1,h2,h3,uh,ak,af,aE,aw,EW,seval]
    ·simp only[N4,E63,cd,bX,dv,fL,q1,q2,q3,q5,h0,h1,h2,h3,fS,uh,ak,af,aE,aw,EW,seval]
   ·simp only[N4,E63,cd,bX,dv,fL,q1,q2,q3,q5,h0,h1,h2,fS,uh,ak,af,aE,aw,EW,seval]
  ·simp only[N4,E63,cd,bX,dv,fL,q1,q2,q3,q5,h0,h1,fS,uh,ak,af,aE,aw,EW,seval]
 ·simp only[N4,E63,cd,bX,dv,fL,q1,q2,q3,q5,h0,fS,uh,ak,af,aE,aw,EW,seval]
def py(f:aa)(o:jk):Wk :=
 let s:=iK f.s.now o.da
 let w:=Aj f.s.now s.1 s.2.1
 let r:=gz f w.1 f.cq
 if s.2.2 != 0 then (f,fL,s.2.2) else
 if w.2.2 != 0 then (f,fL,w.2.2) else
 if r.2 != 0 then (r.1,fL,r.2) else
 (r.1,⟨0,w.2.1,0,0,0,[],[]⟩,0)
def c64(f:aa)(o:jk)(hf:uo f)(ho:wL o):ot 64 f o (py f o):=by
 unfold ot;have hp:o.da.length<=100000:=by have:=ho.da; omega
 have hto:o.tZ.length<=100000:=by have:=ho.tZ; omega
 refine⟨.slice .c0 [],.slice .c0 [],.inr ⟨rfl,?_⟩,.inr ⟨rfl,?_⟩,az ?_⟩
 ·unfold py; simp only[]; split<;>(try split)<;>(try split)<;>rfl
 ·unfold py; simp only[]; split<;>(try split)<;>(try split)<;>rfl
 unfold py;simp only[];have hl:=vA f.s.now o.da hp;have q2:=fun {M}=>Ru f o o.da hf.rt.small hf.rt.jo hp (p:=0) (M:=M)
 have hl:=hl;generalize iK f.s.now o.da=s at q2 hl ⊢;have q3:=aqZ f.s.now hf.rt s.1 s.2.1 (by omega)
 have hr:=hf.rt.un s.1 s.2.1;generalize Aj f.s.now s.1 s.2.1=w at q3 hr ⊢;have q5:=fun {M}=>Oi f o w.1 f.cq hf hr hf.cq hf.rB (p:=0) (M:=M)
 generalize gz f w.1 f.cq=r at q5 ⊢;simp only[cd,bX,aI,bo,aJ] at q2 q3 q5;cases h0:s.2.2 != 0
 ·cases h1:w.2.2 != 0
  ·cases h2:r.2 != 0
   ·simp only[Ra,E64,cd,bX,dv,fL,q2,q3,q5,h0,h1,h2,uh,ak,af,aE,aw,EW,seval]
   ·simp only[Ra,E64,cd,bX,dv,fL,q2,q3,q5,h0,h1,h2,fS,uh,ak,af,aE,aw,EW,seval]
  ·simp only[Ra,E64,cd,bX,dv,fL,q2,q3,q5,h0,h1,fS,uh,ak,af,aE,aw,EW,seval]
 ·simp only[Ra,E64,cd,bX,dv,fL,q2,q3,q5,h0,fS,uh,ak,af,aE,aw,EW,seval]
def pw(f:aa)(o:jk):Wk :=
 let s:=iK f.s.now o.da
 let u:=iK f.s.now o.tZ
 let l:=dX f.s.now.ae s.1 s.2.1
 let w:=wE f.s.now s.1 s.2.1 u.1 u.2.1
 let r:=gz f w.1 f.cq
 if s.2.2 != 0 then (f,fL,s.2.2) else
 if u.2.2 != 0 then (f,fL,u.2.2) else
 if l.2 != 0 then (f,fL,l.2) else
 if w.2.2 != 0 then (f,fL,w.2.2) else
 if r.2 != 0 then (r.1,fL,r.2) else
 (r.1,⟨0,l.1,0,0,0,[],[]⟩,0)
def c65(f:aa)(o:jk)(hf:uo f)(ho:wL o):ot 65 f o (pw f o):=by
 unfold ot;have hp:o.da.length<=100000:=by have:=ho.da; omega
 have hto:o.tZ.length<=100000:=by have:=ho.tZ; omega
 refine⟨.slice .c0 [],.slice .c0 [],.inr ⟨rfl,?_⟩,.inr ⟨rfl,?_⟩,az ?_⟩
 ·unfold pw; simp only[]; split<;>(try split)<;>(try split)<;>(try split)<;>(try split)<;>rfl
 ·unfold pw; simp only[]; split<;>(try split)<;>(try split)<;>(try split)<;>(try split)<;>rfl
 unfold pw;simp only[];have hl:=vA f.s.now o.da hp;have q1:=fun {M}=>Ru f o o.da hf.rt.small hf.rt.jo hp (p:=0) (M:=M)
 have hl:=hl;generalize iK f.s.now o.da=s at q1 hl ⊢;have hl2:=vA f.s.now o.tZ hto;have q2:=fun {M}=>Ru f o o.tZ hf.rt.small hf.rt.jo hto (p:=0) (M:=M)
 have hl2:=hl2;generalize iK f.s.now o.tZ=u at q2 hl2 ⊢;have q3:=arL f.s.now hf.rt s.1 s.2.1 (by omega)
 generalize dX f.s.now.ae s.1 s.2.1=l at q3 ⊢;have q4:=aq0 f.s.now hf.rt s.1 s.2.1 u.1 u.2.1 (by omega) (by omega)
 have hr:=hf.rt.mv s.1 s.2.1 u.1 u.2.1;generalize wE f.s.now s.1 s.2.1 u.1 u.2.1=w at q4 hr ⊢;have q5:=fun {M}=>Oi f o w.1 f.cq hf hr hf.cq hf.rB (p:=0) (M:=M)
 generalize gz f w.1 f.cq=r at q5 ⊢;simp only[cd,bX,aI,bo,aJ] at q1 q2 q3 q4 q5;cases h0:s.2.2 != 0
 ·cases h1:u.2.2 != 0
  ·cases h2:l.2 != 0
   ·cases h3:w.2.2 != 0
    ·cases h4:r.2 != 0
     ·simp only[KL,E65,cd,bX,dv,fL,q1,q2,q3,q4,q5,h0,h1,h2,h3,h4,uh,ak,af,aE,aw,EW,seval]
     ·simp only[KL,E65,cd,bX,dv,fL,q1,q2,q3,q4,q5,h0,h1,h2,h3,h4,fS,uh,ak,af,aE,aw,EW,seval]
    ·simp only[KL,E65,cd,bX,dv,fL,q1,q2,q3,q4,q5,h0,h1,h2,h3,fS,uh,ak,af,aE,aw,EW,seval]
   ·simp only[KL,E65,cd,bX,dv,fL,q1,q2,q3,q4,q5,h0,h1,h2,fS,uh,ak,af,aE,aw,EW,seval]
  ·simp only[KL,E65,cd,bX,dv,fL,q1,q2,q3,q4,q5,h0,h1,fS,uh,ak,af,aE,aw,EW,seval]
 ·simp only[KL,E65,cd,bX,dv,fL,q1,q2,q3,q4,q5,h0,fS,uh,ak,af,aE,aw,EW,seval]
def wq(f:aa)(o:jk):Wk :=
 let v:=fY f.s.now o.da
 let n:=aX f.s.now.ae v.1
 if v.2 != 0 then (f,fL,v.2) else
 (f,⟨0,n.an,n.kind,n.cL,vy n,[],[]⟩,0)
def c67(f:aa)(o:jk)(hf:uo f)(ho:wL o):ot 67 f o (wq f o):=by
 unfold ot;have hp:o.da.length<=100000:=by have:=ho.da; omega
 have hto:o.tZ.length<=100000:=by have:=ho.tZ; omega
 refine⟨.slice .c0 [],.slice .c0 [],.inr ⟨rfl,?_⟩,.inr ⟨rfl,?_⟩,az ?_⟩
 ·unfold wq; simp only[]; split<;>rfl
 ·unfold wq; simp only[]; split<;>rfl
 unfold wq;simp only[];have q1:=fun {M}=>KS f o o.da hf.rt.small hf.rt.jo hp (p:=0) (M:=M)
 generalize fY f.s.now o.da=v at q1 ⊢;have q1:=@q1;generalize aX f.s.now.ae v.1=n at q1 ⊢;have q2:=fun M=>ad0 n M
 simp only[cd,bX,aI,bo,aJ] at q1 q2;cases h0:v.2 != 0
 ·simp only[adR,E67,cd,bX,dv,fL,q1,q2,h0,ak,af,aE,aw,EW,seval]
 ·simp only[adR,E67,cd,bX,dv,fL,q1,q2,h0,fS,ak,af,aE,aw,EW,seval]
def vr(f:aa)(o:jk):Wk :=
 let v:=fY f.s.now o.da
 let n:=aX f.s.now.ae v.1
 let w:=sq f.s.now f.holds o.cH o.handle n.an
 if v.2 != 0 then (f,fL,v.2) else
 if w.2 != 0 then (f,fL,w.2) else
 (⟨f.s,w.1,f.cq⟩,⟨0,n.an,0,0,0,[],[]⟩,0)
def c68(f:aa)(o:jk)(hf:uo f)(ho:wL o):ot 68 f o (vr f o):=by
 unfold ot;have hp:o.da.length<=100000:=by have:=ho.da; omega
 have hto:o.tZ.length<=100000:=by have:=ho.tZ; omega
 refine⟨.slice .c0 [],.slice .c0 [],.inr ⟨rfl,?_⟩,.inr ⟨rfl,?_⟩,az ?_⟩
 ·unfold vr; simp only[]; split<;>(try split)<;>rfl
 ·unfold vr; simp only[]; split<;>(try split)<;>rfl
 unfold vr;simp only[];have q1:=fun {M}=>KS f o o.da hf.rt.small hf.rt.jo hp (p:=0) (M:=M)
 generalize fY f.s.now o.da=v at q1 ⊢;have q1:=@q1;generalize aX f.s.now.ae v.1=n at q1 ⊢;have q2:=arM f.s.now hf.rt f.holds o.cH o.handle n.an hf.holds hf.dQ;generalize sq f.s.now f.holds o.cH o.handle n.an=w at q2 ⊢;simp only[cd,bX,aI,bo,aJ] at q1 q2;cases h0:v.2 != 0
 ·cases h1:w.2 != 0
  ·simp only[Xt,E68,cd,bX,dv,fL,q1,q2,h0,h1,uh,ak,af,aE,aw,EW,seval]
  ·simp only[Xt,E68,cd,bX,dv,fL,q1,q2,h0,h1,fS,uh,ak,af,aE,aw,EW,seval]
 ·simp only[Xt,E68,cd,bX,dv,fL,q1,q2,h0,fS,uh,ak,af,aE,aw,EW,seval]
def sg(f:aa)(o:jk):Wk :=
 let w:=lL f.s.now f.holds o.cH o.handle
 let p:=ki f.s w.1
 if w.2.2 != 0 then (f,fL,w.2.2) else
 (⟨p,w.2.1,f.cq⟩,fL,0)
def c69(f:aa)(o:jk)(hf:uo f)(ho:wL o):ot 69 f o (sg f o):=by
 unfold ot;have hp:o.da.length<=100000:=by have:=ho.da; omega
 have hto:o.tZ.length<=100000:=by have:=ho.tZ; omega
 refine⟨.slice .c0 [],.slice .c0 [],.inr ⟨rfl,?_⟩,.inr ⟨rfl,?_⟩,az ?_⟩
 ·unfold sg; simp only[]; split<;>rfl
 ·unfold sg; simp only[]; split<;>rfl
 unfold sg;simp only[];have q2:=arN f.s.now hf.rt f.holds o.cH o.handle hf.dQ;have hr:=hf.rt.close f.holds o.cH o.handle;generalize lL f.s.now f.holds o.cH o.handle=w at q2 hr ⊢;have q3:=alE f hf w.1 hr;generalize ki f.s w.1=p at q3 ⊢;simp only[cd,bX,aI,bo,aJ] at q2 q3;cases h0:w.2.2 != 0
 ·simp only[adS,E69,cd,bX,dv,fL,q2,q3,h0,uh,ak,af,aE,aw,EW,seval]
 ·simp only[adS,E69,cd,bX,dv,fL,q2,q3,h0,fS,uh,ak,af,aE,aw,EW,seval]
def uO(f:aa)(o:jk):Wk :=
 let v:=fY f.s.now o.da
 let n:=aX f.s.now.ae v.1
 let w:=tP f.s.now f.cq n.an o.n o.m
 let r:=gz f f.s.now w.1
 if v.2 != 0 then (f,fL,v.2) else
 if w.2 != 0 then (f,fL,w.2) else
 if r.2 != 0 then (r.1,fL,r.2) else
 (r.1,⟨0,n.an,0,0,0,[],[]⟩,0)
def c73(f:aa)(o:jk)(hf:uo f)(ho:wL o):ot 73 f o (uO f o):=by
 unfold ot;have hp:o.da.length<=100000:=by have:=ho.da; omega
 have hto:o.tZ.length<=100000:=by have:=ho.tZ; omega
 refine⟨.slice .c0 [],.slice .c0 [],.inr ⟨rfl,?_⟩,.inr ⟨rfl,?_⟩,az ?_⟩
 ·unfold uO; simp only[]; split<;>(try split)<;>(try split)<;>rfl
 ·unfold uO; simp only[]; split<;>(try split)<;>(try split)<;>rfl
 unfold uO;simp only[];have q1:=fun {M}=>KS f o o.da hf.rt.small hf.rt.jo hp (p:=0) (M:=M)
 generalize fY f.s.now o.da=v at q1 ⊢;have q1:=@q1;generalize aX f.s.now.ae v.1=n at q1 ⊢;have q2:=aq4 f.s.now f.cq n.an o.n o.m hf.rt hf.cq hf.rB;have hr:=FF (t:=f.s.now) hf.cq hf.rB n.an o.n o.m;generalize tP f.s.now f.cq n.an o.n o.m=w at q2 hr ⊢;have q5:=fun {M}=>Oi f o f.s.now w.1 hf hf.rt hr.1 hr.2 (p:=0) (M:=M)
 generalize gz f f.s.now w.1=r at q5 ⊢;simp only[cd,bX,aI,bo,aJ] at q1 q2 q5;cases h0:v.2 != 0
 ·cases h1:w.2 != 0
  ·cases h2:r.2 != 0
   ·simp only[Rb,E73,cd,bX,dv,fL,q1,q2,q5,h0,h1,h2,uh,ak,af,aE,aw,EW,seval]
   ·simp only[Rb,E73,cd,bX,dv,fL,q1,q2,q5,h0,h1,h2,fS,uh,ak,af,aE,aw,EW,seval]
  ·simp only[Rb,E73,cd,bX,dv,fL,q1,q2,q5,h0,h1,fS,uh,ak,af,aE,aw,EW,seval]
 ·simp only[Rb,E73,cd,bX,dv,fL,q1,q2,q5,h0,fS,uh,ak,af,aE,aw,EW,seval]
def su(f:aa)(o:jk):Wk :=
 let v:=fY f.s.now o.da
 let n:=aX f.s.now.ae v.1
 let w:=takeN f.s n.an
 if v.2 != 0 then (f,fL,v.2) else
 if w.2.2 != 0 then (f,fL,w.2.2) else
 (⟨w.1,f.holds,f.cq⟩,⟨0,0,0,w.2.1,0,[],[]⟩,0)
def c74(f:aa)(o:jk)(hf:uo f)(ho:wL o):ot 74 f o (su f o):=by
 unfold ot;have hp:o.da.length<=100000:=by have:=ho.da; omega
 have hto:o.tZ.length<=100000:=by have:=ho.tZ; omega
 refine⟨.slice .c0 [],.slice .c0 [],.inr ⟨rfl,?_⟩,.inr ⟨rfl,?_⟩,az ?_⟩
 ·unfold su; simp only[]; split<;>(try split)<;>rfl
 ·unfold su; simp only[]; split<;>(try split)<;>rfl
 unfold su;simp only[];have q1:=fun {M}=>KS f o o.da hf.rt.small hf.rt.jo hp (p:=0) (M:=M)
 generalize fY f.s.now o.da=v at q1 ⊢;have q1:=@q1;generalize aX f.s.now.ae v.1=n at q1 ⊢;have q2:=fun M=>lS (aq5 f.s n.an hf.rt.small hf.rt.jo hf.cf M)
 generalize takeN f.s n.an=w at q2 ⊢;simp only[cd,bX,aI,bo,aJ] at q1 q2;cases h0:v.2 != 0
 ·cases h1:w.2.2 != 0
  ·simp only[Xv,E74,cd,bX,dv,fL,q1,q2,h0,h1,uh,ak,af,aE,aw,EW,seval]
  ·simp only[Xv,E74,cd,bX,dv,fL,q1,q2,h0,h1,fS,uh,ak,af,aE,aw,EW,seval]
 ·simp only[Xv,E74,cd,bX,dv,fL,q1,q2,h0,fS,uh,ak,af,aE,aw,EW,seval]
def wc(f:aa)(o:jk):Wk :=
 let w:=nV f.s o.n
 if w.2 != 0 then (f,fL,w.2) else
 (⟨w.1,f.holds,f.cq⟩,fL,0)
def c76(f:aa)(o:jk)(hf:uo f)(ho:wL o):ot 76 f o (wc f o):=by
 unfold ot;have hp:o.da.length<=100000:=by have:=ho.da; omega
 have hto:o.tZ.length<=100000:=by have:=ho.tZ; omega
 refine⟨.slice .c0 [],.slice .c0 [],.inr ⟨rfl,?_⟩,.inr ⟨rfl,?_⟩,az ?_⟩
 ·unfold wc; simp only[]; split<;>rfl
 ·unfold wc; simp only[]; split<;>rfl
 unfold wc;simp only[];have q2:=fun M=>lS (aq8 f.s o.n (by have:=hf.cf; omega) (by have:=hf.dz; omega) M)
 generalize nV f.s o.n=w at q2 ⊢;simp only[cd,bX,aI,bo,aJ] at q2;cases h0:w.2 != 0
 ·simp only[adU,E76,cd,bX,dv,fL,q2,h0,uh,ak,af,aE,aw,EW,seval]
 ·simp only[adU,E76,cd,bX,dv,fL,q2,h0,fS,uh,ak,af,aE,aw,EW,seval]
def wT(f:aa)(o:jk):Wk :=
 let w:=BE f.s.now f.holds o.cH
 let p:=ki f.s w.1
 (⟨p,w.2,f.cq⟩,fL,0)
def c77(f:aa)(o:jk)(hf:uo f)(ho:wL o):ot 77 f o (wT f o):=by
 unfold ot;have hp:o.da.length<=100000:=by have:=ho.da; omega
 have hto:o.tZ.length<=100000:=by have:=ho.tZ; omega
 refine⟨.slice .c0 [],.slice .c0 [],.inr ⟨rfl,?_⟩,.inr ⟨rfl,?_⟩,az ?_⟩
 ·unfold wT; simp only[]; skip<;>rfl
 ·unfold wT; simp only[]; skip<;>rfl
 unfold wT;simp only[];have q2:=fun M=>lS (aq9 f.s.now f.holds o.cH hf.rt hf.dQ M)
 have hr:=(show Rt (BE f.s.now f.holds o.cH).1 from hf.rt.gone o.cH _ _)
 generalize BE f.s.now f.holds o.cH=w at q2 hr ⊢;have q3:=alE f hf w.1 hr;generalize ki f.s w.1=p at q3 ⊢;simp only[cd,bX,aI,bo,aJ] at q2 q3;simp only[aku,E77,cd,bX,dv,fL,q2,q3,ak,af,aE,aw,EW,seval]
def iv(f:aa)(o:jk):Node×Int :=
 if (Gy f.holds o.cH o.handle).2 != 0 then (Node.zero,(Gy f.holds o.cH o.handle).2)
 else if decide (0<=o.n) then (aX f.s.now.ae (Gy f.holds o.cH o.handle).1,0) else (Node.zero,1)
def c138(f:aa)(o:jk)(hf:uo f):ar gv 138 [b9 0] [cd f o]=some (if (iv f o).2 != 0 then fS (iv f o).2 else .agg (aI (iv f o).1),[cd f o]):=by
 refine az ?_;have q1:=fun M=>lS (arp f.holds o.cH o.handle (by have:=hf.dQ; omega) M)
 have q2:=fun bb=>PB bb 1 rfl
 unfold iv;generalize Gy f.holds o.cH o.handle=v at q1 ⊢;have q3:=fun {M}=>alf f o v.1 hf.rt.small hf.rt.jo (p:=0) (M:=M)
 simp only[cd,bX,aI] at q3;cases h0:v.2 != 0
 ·cases h1:decide (0<=o.n)
  ·simp only[L2,acK,cd,bX,aI,q1,q2,q3,uh,h0,h1,fS,ak,af,aE,aw,EW,seval]
  ·simp only[L2,acK,cd,bX,aI,q1,q2,q3,uh,h0,h1,fS,ak,af,aE,aw,EW,seval]
 ·simp only[L2,acK,cd,bX,aI,q1,q2,q3,uh,h0,fS,ak,af,aE,aw,EW,seval]
def ad1(f:aa)(o:jk)(hf:uo f){p:Nat}{M:aG}(hM:nth M p=some (cd f o)):aU (ar gv) 138 [b9 p] M=some (if (iv f o).2 != 0 then fS (iv f o).2 else .agg (aI (iv f o).1),M):=by
 have:=Ip (vs:=[]) hM (c138 f o hf) rfl rfl (by split<;>rfl) (fun _=>rfl) (fun _=>by split<;>rfl)
 rwa[uC hM] at this
def pK(f:aa)(o:jk)(an:Int)(d:Bytes):Wk :=
 let w:=rf f.s.now an d
 let r:=gz f w.1 f.cq
 if w.2 != 0 then (f,fL,w.2) else
 if r.2 != 0 then (r.1,fL,r.2) else
 (r.1,⟨0,an,0,0,d.length,[],[]⟩,0)
def aoG(f:aa)(o:jk)(hf:uo f)(an:Int)(d:Bytes)(hd:d.length<=100000):ar gv 140 [b9 0,aF an,cR d] [cd f o] =
  some (if (pK f o an d).2.2 != 0 then fS (pK f o an d).2.2 else .tuple [],[dv (pK f o an d).1 o (pK f o an d).2.1 (.slice .c0 []) (.slice .c0 [])]):=by
 refine az ?_;unfold pK;simp only[];have q1:=alD f.s.now hf.rt an d hd;have hr:=hf.rt.put an d;generalize rf f.s.now an d=w at q1 hr ⊢;have q5:=fun {M}=>Oi f o w.1 f.cq hf hr hf.cq hf.rB (p:=0) (M:=M)
 generalize gz f w.1 f.cq=r at q5 ⊢;simp only[cd,bX] at q5;cases h0:w.2 != 0
 ·cases h1:r.2 != 0
  ·simp only[L3,acL,cd,bX,dv,fL,q1,q5,uh,h0,h1,ak,af,aE,aw,EW,seval]
  ·simp only[L3,acL,cd,bX,dv,fL,q1,q5,uh,h0,h1,fS,ak,af,aE,aw,EW,seval]
 ·simp only[L3,acL,cd,bX,dv,fL,q1,q5,uh,h0,fS,ak,af,aE,aw,EW,seval]
def ak3(f:aa)(o:jk)(hf:uo f)(an:Int)(d:Bytes)(hd:d.length<=100000){p:Nat}{M:aG}(hM:nth M p=some (cd f o)):aU (ar gv) 140 [b9 p,aF an,cR d] M =
  some (if (pK f o an d).2.2 != 0 then fS (pK f o an d).2.2 else .tuple [],jj M p (dv (pK f o an d).1 o (pK f o an d).2.1 (.slice .c0 []) (.slice .c0 []))) :=
 sI hM (aoG f o hf an d hd) rfl rfl (by split<;>rfl) rfl (by split<;>rfl) rfl rfl rfl rfl rfl
end
section
def arO(d:Bytes)(hd:d.length<=100000)(M:aG):aU (ar gv) 139 [cR d] M=some (cR d,M):=by
 have h:ar bN 139 [cR d] []=some (cR d,[]):=by
  refine eY (g:=pCC 1 1) rfl ?_
  show IZ 1 1 [cR d] []=_
  unfold IZ;simp only[];have hw:wid (d.map pU) 1:=by have:=rC d; simpa using this
  have hr:cu (d.map pU).length 1:=by have:=qS (a:=d.length) (b:=1) (by omega) (by omega); simpa using this
  exact dV ⟨hw,hr⟩
 exact lS (cO h M)
def Bo(X w:Bytes)(N:Nat)(h:N+w.length<=X.length):List.take X.length (List.take N (X.map pU)++(List.take w.length (w.map pU)++List.drop (N+w.length) (X.map pU)))=(X.take N++(w++X.drop (N+w.length))).map pU:=by
 rw[bQ (by simp; omega),bQ (l:=w.map pU) (by simp)]
 simp
def JL(k:Nat):List.replicate k (ag.agg [.int .u8 0]).norm=(List.replicate k (0:UInt8)).map pU:=by
 rw[gJ]; rfl
def Re(M:aG)(id ver sz lo hi:Nat):ag.wx M (.cS id ver sz lo hi)=match nth M id with
  |some (.arr _ v xs)=>if v=ver then hZ ((xs.take hi).drop lo) else .any
  |_ => .any:=rfl
def p93{d:Bytes}(h0:d≠[])(hd:d.length<=100000)(b:dy)(M:aG):ar gv 139 [hZ (d.map pU)] (b::M)=some (.cS (M.length+1) 0 1 0 d.length,(b::M)++[.arr 1 0 (d.map pU)]):=by
 refine lS' (eY (g:=pCC 1 1) rfl ?_)
 show lV 1 1 [hZ (d.map pU)] (b::M)=_
 obtain⟨a,r,rfl⟩:=ec h0;have hw:wid ((a::r).map pU) 1:=by have:=rC (a::r); simpa using this
 have hr:cu ((a::r).map pU).length 1:=by have:=qS (a:=(a::r).length) (b:=1) (by omega) (by omega); simpa using this
 unfold lV;simp only[aP] at hw hr ⊢;rw[dV ⟨hw,hr⟩];simp
def amt{d:Bytes}(h0:d=[])(b:dy)(M:aG):ar gv 139 [hZ (d.map pU)] (b::M)=some (.slice .c0 [],b::M):=by
 subst h0;exact lS' (eY (g:=pCC 1 1) rfl rfl)
def yb(a:Int)(n:Nat):Nat:=(if (n:Int)<a then (n:Int) else a).toNat
def zW{a:Int}(h:0<=a)(n:Nat):(if (n:Int)<a then (n:Int) else a)=(yb a n:Int)/\yb a n<=n:=by
 unfold yb; split<;>omega
def Cm{f:aa}{o:jk}(h:((iv f o).2 != 0)=false):0<=o.n/\∃i,(iv f o).1=aX f.s.now.ae i:=by
 unfold iv at h ⊢;split at h
 ·rename_i h1; rw[h1] at h; cases h
 ·rename_i h1;split at h
  ·rename_i h2; rw[aH h1,bc h2]; exact⟨by simpa using h2,_,rfl⟩
  ·cases h
def xb{f:aa}(hf:uo f)(i:Int):(aX f.s.now.ae i).data.length<=4096/\(aX f.s.now.ae i).aM.length<=64:=by
 obtain⟨cE,h⟩:=hf.rt;unfold aX;cases hi:find f.s.now.ae i with
 |none=>simp[Node.zero]
 |some n =>
  simp only[bh];refine⟨?_,(h.x9 _ _ hi).2⟩;rcases h.kind _ _ hi with h1|h1
  ·exact(h.file _ _ hi h1).2.2
  ·rw[h.dir _ _ hi h1]; simp
attribute [local irreducible] eV fZ je gK eo kr ar aU cA bH
def Ee(f:aa)(o:jk):Wk :=
 if (iv f o).2 != 0 then (f,fL,(iv f o).2)
 else pK f o (iv f o).1.an ((iv f o).1.data.take (yb o.n (iv f o).1.data.length))
def ti(f:aa)(o:jk)(an:Int)(d:Bytes):(pK f o an d).2.1.names=[]/\(pK f o an d).2.1.data=[]:=by
 unfold pK; simp only[]; split
 ·exact⟨rfl,rfl⟩
 ·split<;>exact⟨rfl,rfl⟩
def c72(f:aa)(o:jk)(hf:uo f)(ho:wL o):ot 72 f o (Ee f o):=by
 unfold ot;refine⟨.slice .c0 [],.slice .c0 [],.inr ⟨rfl,?_⟩,.inr ⟨rfl,?_⟩,az ?_⟩
 ·unfold Ee; split
  ·rfl
  ·rw[(ti ..).1]; rfl
 ·unfold Ee; split
  ·rfl
  ·rw[(ti ..).2]; rfl
 have q1:=fun {M}=>ad1 f o hf (p:=0) (M:=M)
 have hn:=Cm (f:=f) (o:=o);unfold Ee;cases h0:(iv f o).2 != 0
 ·obtain⟨hn0,i,hi⟩:=hn h0;have hsz:=(xb hf i).1;rw[<-hi] at hsz;generalize (iv f o).1=n at q1 hsz ⊢;generalize (iv f o).2=e at q1 h0 ⊢;obtain⟨m1,m2⟩:=zW hn0 n.data.length;generalize yb o.n n.data.length=mn at m1 m2 ⊢;have q2:=fun {M}=>ak3 f o hf n.an (n.data.take mn) (by simp; omega) (p:=0) (M:=M)
  generalize pK f o n.an (n.data.take mn)=r at q2 ⊢;have hle:((mn:Int)<=(n.data.length:Int))=True:=by simp; omega
  have hz:((0:Int)<=(mn:Int))=True:=by simp
  simp only[cd,bX,dv,aI,cR,fj] at q1 q2;cases h1:r.2.2 != 0
  ·simp only[Xu,E72,cd,bX,dv,aI,q1,q2,h0,h1,m1,hle,hz,fF,fS,af,aE,aw,EW,seval]
  ·simp only[Xu,E72,cd,bX,dv,aI,q1,q2,h0,h1,m1,hle,hz,fF,fS,af,aE,aw,EW,seval]
 ·simp only[cd,bX,aI] at q1;simp only[Xu,E72,cd,bX,dv,fL,aI,q1,h0,fS,af,aE,aw,EW,seval]
def xi(f:aa)(o:jk):Wk :=
 if (iv f o).2 != 0 then (f,fL,(iv f o).2) else
 if !(decide (0<=o.m)&&decide (o.m<=4096)) then (f,fL,1) else
 (f,⟨0,(iv f o).1.an,0,0,0,[],((iv f o).1.data.drop (yb o.n (iv f o).1.data.length)).take (yb o.m ((iv f o).1.data.length-yb o.n (iv f o).1.data.length))⟩,0)
def c70(f:aa)(o:jk)(hf:uo f)(ho:wL o):ot 70 f o (xi f o):=by
 unfold ot;have q1:=fun {M}=>ad1 f o hf (p:=0) (M:=M)
 have hn:=Cm (f:=f) (o:=o);have q2:=fun bb=>PB bb 1 rfl
 unfold xi;cases h0:(iv f o).2 != 0
 ·obtain⟨hn0,i,hi⟩:=hn h0;have hsz:=(xb hf i).1;rw[<-hi] at hsz;generalize (iv f o).1=n at q1 hsz ⊢;generalize (iv f o).2=e at q1 h0 ⊢;obtain⟨m1,m2⟩:=zW hn0 n.data.length;generalize yb o.n n.data.length=mn at m1 m2 ⊢;have hle:((mn:Int)<=(n.data.length:Int))=True:=by simp; omega
  have hz:∀k:Nat,((0:Int)<=(k:Int))=True:=fun k=>by simp
  have ht:List.take n.data.length (n.data.map pU)=n.data.map pU:=bQ (by simp)
  have dQ:(List.drop mn (n.data.map pU)).length=n.data.length-mn:=by simp
  cases h1:(!(decide (0<=o.m)&&decide (o.m<=4096)))
  ·have h1':decide (0<=o.m)=true/\decide (o.m<=4096)=true:=by simpa using h1
   have hm0:0<=o.m:=by simpa using h1'.1
   obtain⟨p1,p2⟩:=zW hm0 (n.data.length-mn);generalize yb o.m (n.data.length-mn)=mm at p1 p2 ⊢;have hle2:((mm:Int)<=((n.data.length-mn:Nat):Int))=True:=by simp; omega
   have hw1:wid (List.drop mn (n.data.map pU)) 1=True:=by have:=rC (n.data.drop mn); rwa[ju] at this
   have q3:=fun M=>arO ((n.data.drop mn).take mm) (by simp; omega) M
   refine⟨.slice .c0 [],cR ((n.data.drop mn).take mm),.inr ⟨rfl,rfl⟩,.inl rfl,az ?_⟩;simp only[cd,bX,aI,cR,fj,ju] at q1 q3;simp only[N5,E70,cd,bX,dv,aI,q1,q2,q3,h0,h1'.1,h1'.2,m1,p1,hle,hle2,hz,ht,dQ,hw1,fF,cR,ju,cp,ak,af,aE,aw,EW,seval]
  ·refine⟨.slice .c0 [],.slice .c0 [],.inr ⟨rfl,rfl⟩,.inr ⟨rfl,rfl⟩,az ?_⟩
   have h1':(decide (0<=o.m)&&decide (o.m<=4096))=false:=by
    cases hx:(decide (0<=o.m)&&decide (o.m<=4096))
    ·rfl
    ·rw[hx] at h1; cases h1
   simp only[cd,bX,aI,cR] at q1;cases ha:decide (0<=o.m)<;>cases hb:decide (o.m<=4096)<;>simp only[ha,hb,j9,dG,dw,gq] at h1'
   ·simp only[N5,E70,cd,bX,dv,fL,aI,q1,q2,h0,ha,hb,fS,af,aE,aw,EW,seval]
   ·simp only[N5,E70,cd,bX,dv,fL,aI,q1,q2,h0,ha,hb,fS,af,aE,aw,EW,seval]
   ·simp only[N5,E70,cd,bX,dv,fL,aI,q1,q2,h0,ha,hb,fS,af,aE,aw,EW,seval]
   ·cases h1'
 ·refine⟨.slice .c0 [],.slice .c0 [],.inr ⟨rfl,rfl⟩,.inr ⟨rfl,rfl⟩,az ?_⟩;simp only[cd,bX,aI] at q1;simp only[N5,E70,cd,bX,dv,fL,aI,q1,h0,fS,af,aE,aw,EW,seval]
def nb(d:Bytes)(n:Nat)(w:Bytes):Bytes :=
 if w=[] then d else (d++List.replicate (n+w.length-d.length) 0).take n++(w++(d++List.replicate (n+w.length-d.length) 0).drop (n+w.length))
def uR(f:aa)(o:jk):Wk :=
 if (iv f o).2 != 0 then (f,fL,(iv f o).2) else
 if !decide (o.n<=4096) then (f,fL,1) else
 if !decide (((o.n.toNat+o.data.length:Nat):Int)<=4096) then (f,fL,2) else
 pK f o (iv f o).1.an (nb (iv f o).1.data o.n.toNat o.data)
def c71(f:aa)(o:jk)(hf:uo f)(ho:wL o):ot 71 f o (uR f o):=by
 unfold ot;refine⟨.slice .c0 [],.slice .c0 [],.inr ⟨rfl,?_⟩,.inr ⟨rfl,?_⟩,az ?_⟩
 ·unfold uR; split
  ·rfl
  ·split
   ·rfl
   ·split
    ·rfl
    ·rw[(ti ..).1]; rfl
 ·unfold uR; split
  ·rfl
  ·split
   ·rfl
   ·split
    ·rfl
    ·rw[(ti ..).2]; rfl
 have q1:=fun {M}=>ad1 f o hf (p:=0) (M:=M)
 have hn:=Cm (f:=f) (o:=o);have q2:=fun bb=>PB bb 1 rfl
 have q3:=fun bb=>PB bb 2 rfl
 unfold uR;cases h0:(iv f o).2 != 0
 ·obtain⟨hn0,i,hi⟩:=hn h0;have hsz:=(xb hf i).1;rw[<-hi] at hsz;generalize (iv f o).1=n at q1 hsz ⊢;generalize (iv f o).2=e at q1 h0 ⊢;simp only[cd,bX,aI] at q1;cases h1:decide (o.n<=4096)
  ·simp only[Ek,E71,cd,bX,dv,fL,aI,q1,q2,h0,h1,fS,af,aE,aw,EW,seval]
  ·have hn1:o.n<=4096:=by simpa using h1
   obtain⟨N,hN⟩:∃N:Nat,o.n=(N:Int):=⟨o.n.toNat,by omega⟩
   have hdl:=ho.data;have hw:IntKind.i64.wrap ((N:Int)+(o.data.length:Int))=((N+o.data.length:Nat):Int):=by rw[gn (by omega) (by omega)]; omega
   have hT:o.n.toNat=N:=by omega
   rw[hT];rw[hN] at q1 h1;cases h2:decide (((N+o.data.length:Nat):Int)<=4096)
   ·simp only[Ek,E71,cd,bX,dv,fL,aI,q1,q2,q3,h0,h1,h2,hw,hN,fS,af,aE,aw,EW,seval]
   ·have hE:N+o.data.length<=4096:=by
     have:((N+o.data.length:Nat):Int)<=4096:=by simpa using h2
     omega
    have hwl:(nb n.data N o.data).length<=100000:=by
     unfold nb; split
     ·omega
     ·simp; omega
    have q4:=fun {M}=>ak3 f o hf n.an (nb n.data N o.data) hwl (p:=0) (M:=M)
    generalize pK f o n.an (nb n.data N o.data)=r at q4 ⊢;simp only[cd,bX,dv,cR,hN] at q4
    by_cases hD:o.data=[]
    ·have hg:((0:Int)<(o.data.length:Int))=False:=by simp[hD]
     have hwr:nb n.data N o.data=n.data:=by unfold nb; rw[bc hD]
     rw[hwr] at q4
     by_cases hd0:n.data=[]
     ·have p1:=amt (d:=n.data) hd0;rw[hd0] at q4;simp only[a8] at q4;cases h3:r.2.2 != 0<;>simp only[Ek,E71,cd,bX,dv,aI,q1,q2,q3,q4,p1,h0,h1,h2,h3,hN,hw,hg,fS,cR,FZ,Re,sO,af,aE,aw,EW,seval]
     ·have p1:=p93 (d:=n.data) hd0 (by omega)
      have ht:List.take n.data.length (n.data.map pU)=n.data.map pU:=bQ (by simp)
      cases h3:r.2.2 != 0<;>simp only[Ek,E71,cd,bX,dv,aI,q1,q2,q3,q4,p1,h0,h1,h2,h3,hN,hw,hg,ht,fS,cR,FZ,Re,sO,af,aE,aw,EW,seval]
    ·have hdl0:0<o.data.length:=gw.2 hD;have hg:((0:Int)<(o.data.length:Int))=True:=by simp; omega
     have hwb:=rC o.data
     by_cases hd0:n.data=[]
     ·have p1:=amt (d:=n.data) hd0;have hk:IntKind.i64.wrap (((N+o.data.length:Nat):Int)-0)=((N+o.data.length:Nat):Int):=by rw[gn (by omega) (by omega)]; simp
      have hm:(((N+o.data.length:Nat):Int)<0)=False:=by simp; omega
      have hmi:min o.data.length (N+o.data.length-N)=o.data.length:=by omega
      have rk:cu (N+o.data.length) 1=True:=rb;have b0:(((N+o.data.length:Nat):Int)==0)=false:=by simp; omega
      have b1:((N:Int)==((N+o.data.length:Nat):Int))=false:=by simp; omega
      have b2:((N:Int)<=((N+o.data.length:Nat):Int))=True:=by simp; omega
      have b3:(((N+o.data.length:Nat):Int)<=((N+o.data.length:Nat):Int))=True:=by simp
      have hz:=JL (N+o.data.length);have htl:=Bo (List.replicate (N+o.data.length) 0) o.data N (by simp)
      have hwr:nb n.data N o.data=(List.replicate (N+o.data.length) 0).take N++(o.data++(List.replicate (N+o.data.length) 0).drop (N+o.data.length)):=by
       unfold nb; rw[aH hD,hd0]; simp
      rw[hwr,<-htl] at q4;rw[kj] at q4;have l1:(0<((List.replicate (N+o.data.length) (0:UInt8)).map pU).length)=True:=by simp; omega
      generalize (List.replicate (N+o.data.length) (0:UInt8)).map pU=X at hz q4 l1;cases h3:r.2.2 != 0<;>simp only[Ek,E71,cd,bX,dv,aI,q1,q2,q3,q4,p1,h0,h1,h2,h3,hN,hw,hg,hk,hm,hmi,hwb,rk,b0,b1,b2,b3,hz,l1,fF,fS,cR,FZ,Re,sO,bK,af,aE,aw,EW,seval]
     ·have p1:=p93 (d:=n.data) hd0 (by omega)
      have hL0:0<n.data.length:=gw.2 hd0;have l0:(0<n.data.length)=True:=by simp; omega
      have hwn:=rC n.data
      by_cases hE2:N+o.data.length<=n.data.length
      ·have hk:IntKind.i64.wrap (((N+o.data.length:Nat):Int)-(n.data.length:Int))=((N+o.data.length:Nat):Int)-(n.data.length:Int):=gn (by omega) (by omega)
       have hmx:(if ((N+o.data.length:Nat):Int)-(n.data.length:Int)<0 then (0:Int) else ((N+o.data.length:Nat):Int)-(n.data.length:Int))=0:=by split<;>omega
       have hmi:min o.data.length (n.data.length-N)=o.data.length:=by omega
       have rk:cu (n.data.length+0) 1=True:=rb;have rk0:cu n.data.length 1=True:=rb;have b1:((N:Int)==(n.data.length:Int))=false:=by simp; omega
       have b2:((N:Int)<=(n.data.length:Int))=True:=by simp; omega
       have htl:=Bo n.data o.data N hE2
       have hwr:nb n.data N o.data=n.data.take N++(o.data++n.data.drop (N+o.data.length)):=by
        unfold nb; rw[aH hD,show N+o.data.length-n.data.length=0 by omega]; simp
       rw[hwr,<-htl] at q4;cases h3:r.2.2 != 0<;>simp only[Ek,E71,cd,bX,dv,aI,q1,q2,q3,q4,p1,h0,h1,h2,h3,hN,hw,hg,hk,hmx,hmi,hwb,hwn,rk,rk0,l0,b1,b2,fF,fS,cR,cp,FZ,Re,sO,bK,af,aE,aw,EW,seval]
      ·have hk:IntKind.i64.wrap (((N+o.data.length:Nat):Int)-(n.data.length:Int))=((N+o.data.length:Nat):Int)-(n.data.length:Int):=gn (by omega) (by omega)
       have hmx:(if ((N+o.data.length:Nat):Int)-(n.data.length:Int)<0 then (0:Int) else ((N+o.data.length:Nat):Int)-(n.data.length:Int))=((N+o.data.length-n.data.length:Nat):Int):=by split<;>omega
       have hsum:n.data.length+(N+o.data.length-n.data.length)=N+o.data.length:=by omega
       have hmi:min o.data.length (N+o.data.length-N)=o.data.length:=by omega
       have rk:cu (N+o.data.length) 1=True:=rb;have b0:(((N+o.data.length-n.data.length:Nat):Int)==0)=false:=by simp; omega
       have b1:((N:Int)==((N+o.data.length:Nat):Int))=false:=by simp; omega
       have b2:((N:Int)<=((N+o.data.length:Nat):Int))=True:=by simp; omega
       have hz:=JL (N+o.data.length-n.data.length);have htl:=Bo (n.data++List.replicate (N+o.data.length-n.data.length) 0) o.data N (by simp; omega)
       have hwr:nb n.data N o.data=(n.data++List.replicate (N+o.data.length-n.data.length) 0).take N++(o.data++(n.data++List.replicate (N+o.data.length-n.data.length) 0).drop (N+o.data.length)):=by
        unfold nb; rw[aH hD]
       rw[hwr,<-htl] at q4;have hlX:(n.data++List.replicate (N+o.data.length-n.data.length) (0:UInt8)).length=N+o.data.length:=by simp; omega
       rw[hlX,bu] at q4;have l1:(0<N+o.data.length)=True:=by simp; omega
       have lz:((List.replicate (N+o.data.length-n.data.length) (0:UInt8)).map pU).length=N+o.data.length-n.data.length:=by simp
       generalize (List.replicate (N+o.data.length-n.data.length) (0:UInt8)).map pU=Z at hz q4 lz;cases h3:r.2.2 != 0<;>simp only[Ek,E71,cd,bX,dv,aI,q1,q2,q3,q4,p1,h0,h1,h2,h3,hN,hw,hg,hk,hmx,hsum,hmi,hwb,hwn,rk,l0,l1,lz,b0,b1,b2,hz,fF,fS,cR,cp,FZ,Re,sO,bK,af,aE,aw,EW,seval]
 ·simp only[cd,bX,aI] at q1;simp only[Ek,E71,cd,bX,dv,fL,aI,q1,h0,fS,af,aE,aw,EW,seval]
end
section
attribute [local irreducible] eV fZ je gK eo kr ar aU cA bH
def ajm(z:Int):ar bN 145 [hZ [],.func 215 [b9 0]] [bT [aF z]]=some (aF (-1),[bT [aF z]]):=by
 have h00:decide ((0:Int)<0)=false:=rfl;have hz:((0:Nat):Int)=0:=rfl;refine az ?_;simp only[L4,x7,hz,EN,seval];rw[bt];simp only[x7,h00,EN,seval]
end
def ak4(z:Int):aU (ar bN) 145 [hZ [],.func 215 [b9 0]] [bT [aF z]]=some (aF (-1),[bT [aF z]]) :=
 kB (ids:=[0]) rfl rfl (show jE [bT [aF z]] (iy [0]) [0]=some [bT [aF z]] from rfl) rfl rfl (ajm z) rfl rfl rfl rfl rfl
section
attribute [local irreducible] eV fZ je gK eo kr ar aU cA bH
def ajw(z:Int):ar bN 213 [hZ [],.func 215 [b9 0]] [bT [aF z]]=some (hZ [],[bT [aF z]]):=by
 have h11:((-1:Int) == -1)=true:=rfl;refine az ?_;simp only[Ma,F8,ak4,h11,EN,seval]
end
def alo(z:Int)(b0 b2 b3:dy):aU (ar bN) 213 [hZ [],.func 215 [b9 1]] [b0,bT [aF z],b2,b3]=some (hZ [],[b0,bT [aF z],b2,b3]) :=
 kB (ids:=[1]) rfl rfl (show jE [b0,bT [aF z],b2,b3] (iy [1]) [1]=some [bT [aF z]] from rfl) rfl rfl (ajw z) rfl rfl rfl rfl rfl
def acp(b0 b2 b3:dy)(xs:List ag)(z:Int):jE [b0,bT [aF z],b2,b3,.arr 3 0 xs] (iy [4,1]) [4,1]=some [.arr 3 0 xs,bT [aF z]]:=rfl
def ark(xs:List fp)(z:Int)(hn:xs.length<=100000)(h0:xs≠[])(hk:kS z xs≠[])(b0 b2 b3:dy):aU (ar bN) 213 [.cS 4 0 3 0 xs.length,.func 215 [b9 1]] [b0,bT [aF z],b2,b3,.arr 3 0 (xs.map fW)] =
  some (.cS 4 0 3 0 (kS z xs).length,[b0,bT [aF z],b2,b3,.arr 3 0 ((kS z xs++List.replicate (xs.length-(kS z xs).length) JK).map fW)]):=by
 have h:=ajv xs z hn h0;have hl:(kS z xs).length≠0:=fun hh=>hk (cj.1 hh)
 have hr:GW (kS z xs).length = .cS 0 0 3 0 (kS z xs).length:=by simp[GW,hl]
 rw[hr] at h;exact kB (ids:=[4,1]) rfl rfl (acp ..) rfl rfl h rfl rfl rfl rfl rfl
def alp(xs:List fp)(z:Int)(hn:xs.length<=100000)(h0:xs≠[])(hk:kS z xs=[])(b0 b2 b3:dy):aU (ar bN) 213 [.cS 4 0 3 0 xs.length,.func 215 [b9 1]] [b0,bT [aF z],b2,b3,.arr 3 0 (xs.map fW)] =
  some (hZ [],[b0,bT [aF z],b2,b3,.arr 3 0 ((List.replicate xs.length JK).map fW)]):=by
 have h:=ajv xs z hn h0;have hr:GW (kS z xs).length = hZ []:=by simp[GW,hk]
 rw[hr,hk] at h;simp only[aZ,av,bK] at h;exact kB (ids:=[4,1]) rfl rfl (acp ..) rfl rfl h rfl rfl rfl rfl rfl
section
attribute [local irreducible] eV fZ je gK eo kr ar aU cA bH
end
section
def Fc(x:fp):List fp->List fp
 | []=>[x]
 |y::r=>if x.aj<y.aj then x::y::r else y::Fc x r
def tX:List fp->List fp
 | []=>[]
 |x::r=>Fc x (tX r)
def arJ(n:fp):sR 2 (fW n)=n.aj:=rfl
def Ie(x:fp):∀l:List fp,Dk 2 (fW x) (l.map fW)=(Fc x l).map fW
 | []=>rfl
 |y::r=>by
  simp only[aP,Dk,Fc,arJ]
  by_cases h:x.aj<y.aj
  ·simp only[h,aE,aP]
  ·simp only[h,aw,aP,Ie x r]
def FL:∀l:List fp,qV 2 (l.map fW)=(tX l).map fW
 | []=>rfl
 |x::r=>by simp only[aP,qV,tX,FL r,Ie]
def Fe(x:fp):∀l,(Fc x l).length=l.length+1
 | []=>rfl
 |y::r=>by simp only[Fc]; split<;>simp[Fe x r]
def vV:∀l,(tX l).length=l.length
 | []=>rfl
 |x::r=>by simp[tX,Fe,vV r]
def Li{l Z:List fp}{v:Nat}(hl:l.length<=1000000)(hn:(l.map fp.aj).Nodup):ar bN 216 [.cS 0 v 3 0 l.length,.func 217 []] [.arr 3 v ((l++Z).map fW)]=some (.tuple [],[.arr 3 v ((tX l++Z).map fW)]):=by
 refine eY (g:=uB 3 2 217) rfl ?_;unfold uB;simp only[nth];have ht:((l++Z).map fW).take l.length=l.map fW:=by simp[fE]
 have hd:((l++Z).map fW).drop l.length=Z.map fW:=by simp
 rw[ht,hd,FL,<-bu];rw[dV]
 ·rfl
 ·refine⟨trivial,trivial,trivial,by simp,trivial,by omega,?_,?_⟩
  ·intro x hx;obtain⟨n,_,rfl⟩:=dj.1 hx;rfl
  ·rw[jX];exact hn
def amx(xs:List ag)(v:Nat)(b0 b1 b2 b3:dy):jE [b0,b1,b2,b3,.arr 3 v xs] (iy [4]) [4]=some [.arr 3 v xs]:=rfl
attribute [local irreducible] eV fZ je gK eo kr ar aU cA bH
def arl{l Z:List fp}{v:Nat}(hl:l.length<=1000000)(hn:(l.map fp.aj).Nodup)(b0 b1 b2 b3:dy):aU (ar bN) 216 [.cS 4 v 3 0 l.length,.func 217 []] [b0,b1,b2,b3,.arr 3 v ((l++Z).map fW)]=some (.tuple [],[b0,b1,b2,b3,.arr 3 v ((tX l++Z).map fW)]) :=
 kB (ids:=[4]) rfl rfl (amx _ _ ..) rfl rfl (Li hl hn) rfl rfl rfl rfl rfl
def acb(M:aG):aU (ar bN) 216 [hZ [],.func 217 []] M=some (.tuple [],M):=by
 have h:ar bN 216 [hZ [],.func 217 []] []=some (.tuple [],[]):=by
  refine eY (g:=uB 3 2 217) rfl ?_;unfold uB;simp only[aE]
 exact cO h M
def zG(ae:List Node)(an z:Int):List fp:=tX (kS z (gr ae an).1.aM)
def wi(t:Tree)(an z m:Int):List fp×Int×Int :=
 if decide (z<0)||(decide (m<1)||decide (64<m)) then ([],0,1)
 else if (gr t.ae an).2 != 0 then ([],0,(gr t.ae an).2)
 else if decide (((zG t.ae an z).length:Int)<=m) then (zG t.ae an z,0,0)
 else ((zG t.ae an z).take m.toNat,kR (((zG t.ae an z).getD (m.toNat-1) JK).aj+1),0)
def xH{t:Tree}{cE:Int->Nat}(h:cr t cE 0)(an:Int):((gr t.ae an).1.aM.map fp.aj).Nodup/\(gr t.ae an).1.aM.length<=64:=by
 unfold gr;cases hi:find t.ae an with
 |none=>exact⟨oo,by simp[Node.zero]⟩
 |some n =>
  simp only;split
  ·exact⟨by rw[List.nodup_iff_pairwise_ne,iC]; exact(h.x9 _ _ hi).1,(h.x9 _ _ hi).2⟩
  ·exact⟨oo,by simp[Node.zero]⟩
def aoA(t:Tree)(ht:Rt t)(an z m:Int):ar bN 132 [bq t,aF an,aF z,aF m] []=some (.tuple [ic (wi t an z m).1,aF (wi t an z m).2.1,aF (wi t an z m).2.2],[]):=by
 obtain⟨cE,h⟩:=ht;refine az ?_;have q1:=fun b c M=>XH t.ae t.next t.aj an h.jo.jv (by have:=h.ae; omega) 2 (b::c :: bT [aY t.ae,aF t.next,aF t.aj]::M) rfl
 obtain⟨hnd,h64⟩:=xH h an;have hknd:((kS z (gr t.ae an).1.aM).map fp.aj).Nodup:=(List.filter_sublist.map _).nodup hnd;have hkl:(kS z (gr t.ae an).1.aM).length<=64:=aW (bU _ _) h64;unfold wi zG;generalize gr t.ae an=d at q1 hnd h64 hknd hkl ⊢;simp only[bG,aI] at q1;cases g1:decide (z<0)
 ·cases g2:decide (m<1)
  ·cases g3:decide (64<m)
   ·cases g4:d.2 != 0
    ·obtain⟨M,hM⟩:∃M:Nat,m=(M:Int):=⟨m.toNat,by simp at g2; omega⟩
     subst hM;have hM1:1<=M:=by simp at g2; omega
     have hM64:M<=64:=by simp at g3; omega
     generalize hE:d.1.aM=E at q1 hknd hkl h64 ⊢;have c0:∀b0 b2 b3,aU (ar bN) 213 [hZ [],.func 215 [b9 1]] [b0,bT [aF z],b2,b3]=some (hZ [],[b0,bT [aF z],b2,b3]):=fun b0 b2 b3=>alo z b0 b2 b3
     have z0:((0:Int)<=(M:Int))=True:=by simp
     by_cases hE0:E=[]
     ·have p1:∀M,ar bN 214 [ic E] M=some (.slice .c0 [],M):=fun M=>by subst hE0; exact ams M
      have hk:tX (kS z E)=[]:=by subst hE0; rfl
      rw[hk];simp only[ym,Hb,bq,aJ,q1,g1,g2,g3,g4,p1,c0,acb,z0,av,aI,eH,af,aE,aw,EW,seval];rfl
     ·have p1:=fun M=>p58 (l:=E) hE0 (by omega) M
      by_cases hK0:kS z E=[]
      ·have p2:=fun b0 b2 b3=>alp E z (by omega) hE0 hK0 b0 b2 b3
       have hk:tX (kS z E)=[]:=by rw[hK0]; rfl
       rw[hk];simp only[ym,Hb,bq,aJ,q1,g1,g2,g3,g4,p1,p2,acb,z0,av,aI,eH,af,aE,aw,EW,seval];rfl
      ·have p2:=fun b0 b2 b3=>ark E z (by omega) hE0 hK0 b0 b2 b3
       have hsl:=vV (kS z E);generalize kS z E=kk at p2 hknd hkl hK0 hsl ⊢;generalize List.replicate (E.length-kk.length) JK=Z at p2;have p3:=fun b0 b1 b2 b3=>arl (l:=kk) (Z:=Z) (v:=0) (by omega) hknd b0 b1 b2 b3
       generalize tX kk=ss at p3 hsl ⊢;have tk:List.take kk.length ((ss++Z).map fW)=ss.map fW:=by rw[<-hsl]; simp[fE]
       cases g5:decide ((kk.length:Int)<=(M:Int))
       ·have cz:M<kk.length:=by simp at g5; omega
        have g6:decide ((ss.length:Int)<=(M:Int))=false:=by rw[hsl]; exact g5
        have hw1:IntKind.i64.wrap ((M:Int)-1)=((M-1:Nat):Int):=by rw[gn (by omega) (by omega)]; omega
        have hx:=ai (show M-1<ss.length by omega)
        have hg:ss.getD (M-1) JK=ss[M-1]:=by simp[List.getD,hx]
        have hat:(ss++Z)[M-1]?=some ss[M-1]:=by rw[bB (by omega)]; exact hx
        have tm:List.take M ((ss++Z).map fW)=(ss.take M).map fW:=by
         rw[<-fj,fE (by omega)]
        have b1:((M:Int)<=(kk.length:Int))=True:=by simp; omega
        have b2:((M:Int)==0)=false:=by simp; omega
        have b3:((0:Int)==(M:Int))=false:=by simp; omega
        have b4:(((M-1:Nat):Int)<(kk.length:Int))=True:=by simp; omega
        simp only[ym,Hb,bq,aJ,q1,g1,g2,g3,g4,g5,g6,p1,p2,p3,z0,hw1,hg,hat,tm,b1,b2,b3,b4,fF,cp,bK,fm,aI,eH,af,aE,aw,EW,seval];rw[<-fj]
       ·have g6:decide ((ss.length:Int)<=(M:Int))=true:=by rw[hsl]; exact g5
        simp only[ym,Hb,bq,aJ,q1,g1,g2,g3,g4,g5,g6,p1,p2,p3,tk,bK,aI,eH,af,aE,aw,EW,seval]
    ·simp only[ym,Hb,bq,aJ,q1,g1,g2,g3,g4,aI,eH,af,aE,aw,EW,seval];rfl
   ·simp only[ym,Hb,bq,aJ,g1,g2,g3,aI,dS,eH,af,aE,aw,EW,seval];rfl
  ·simp only[ym,Hb,bq,aJ,g1,g2,aI,dA,dS,eH,af,aE,aw,EW,seval];rfl
 ·simp only[ym,Hb,bq,aJ,g1,aI,dA,eH,af,aE,aw,EW,seval];rfl
def aq1(t:Tree)(ht:Rt t)(an z m:Int)(M:aG):aU (ar gv) 132 [.agg [aY t.ae,aF t.next,aF t.aj],aF an,aF z,aF m] M=some (.tuple [ic (wi t an z m).1,aF (wi t an z m).2.1,aF (wi t an z m).2.2],M) :=
 lS (cO (aoA t ht an z m) M)
def Ow{t:Tree}(ht:Rt t)(an z m:Int):(wi t an z m).1.length<=100000:=by
 obtain⟨cE,h⟩:=ht;have h64:=(xH h an).2;have hf:(zG t.ae an z).length<=64:=by unfold zG; rw[vV]; exact aW (bU _ _) h64
 unfold wi;split
 ·simp
 ·split
  ·simp
  ·split
   ·simp only; omega
   ·simp; omega
def BN(f:aa)(o:jk):Wk :=
 let v:=fY f.s.now o.da
 let l:=wi f.s.now (aX f.s.now.ae v.1).an o.n o.m
 if v.2 != 0 then (f,fL,v.2) else
 if l.2.2 != 0 then (f,fL,l.2.2) else
 (f,⟨0,0,0,l.2.1,0,l.1.map fp.name,[]⟩,0)
def c66(f:aa)(o:jk)(hf:uo f)(ho:wL o):ot 66 f o (BN f o):=by
 unfold ot;have q1:=fun {M}=>KS f o o.da hf.rt.small hf.rt.jo (by have:=ho.da; omega) (p:=0) (M:=M)
 unfold BN;simp only[];generalize fY f.s.now o.da=v at q1 ⊢;generalize aX f.s.now.ae v.1=n at q1 ⊢;have q2:=aq1 f.s.now hf.rt n.an o.n o.m;have hl:=Ow hf.rt n.an o.n o.m;generalize wi f.s.now n.an o.n o.m=l at q2 hl ⊢;have q3:=adZ l.1 hl;simp only[cd,bX,aI] at q1;cases h0:v.2 != 0
 ·cases h1:l.2.2 != 0
  ·refine⟨dh (l.1.map fp.name),.slice .c0 [],.inl rfl,.inr ⟨rfl,rfl⟩,az ?_⟩;simp only[Xr,E66,cd,bX,dv,aI,q1,q2,q3,uh,h0,h1,ak,af,aE,aw,EW,seval]
  ·refine⟨.slice .c0 [],.slice .c0 [],.inr ⟨rfl,rfl⟩,.inr ⟨rfl,rfl⟩,az ?_⟩;simp only[Xr,E66,cd,bX,dv,fL,aI,q1,q2,q3,uh,h0,h1,fS,ak,af,aE,aw,EW,seval]
 ·refine⟨.slice .c0 [],.slice .c0 [],.inr ⟨rfl,rfl⟩,.inr ⟨rfl,rfl⟩,az ?_⟩;simp only[Xr,E66,cd,bX,dv,fL,aI,q1,h0,fS,ak,af,aE,aw,EW,seval]
end
section
attribute [local irreducible] eV fZ je gK eo kr ar aU cA bH
def aoL(e:fp)(s:Bytes):ar bN 146 [fW e,b9 0] [bT [.str s]]=some (.bool (e.name==s),[bT [.str s]]):=by
 refine az ?_;simp only[aa0,anf,fW,fm,EW,seval]
def Um{xs:List fp}{s:Bytes}(hn:xs.length<=100000){k:List K}{R:Int->Option (ag×aG)}
  (hx:∀e,kr (ar bN) [.tmp 4] 1 k ⟨.exit 0,e,[bT [.str s]]⟩=R (-1)) (hr:∀(i:Nat),kr (ar bN) [.tmp 4] 1 k ⟨.ret,[(4,aF i)],[bT [.str s]]⟩=R i) :
  ∀(l pre:List fp),xs=pre++l->eV (ar bN) [.tmp 4] 1 k (.loop [0,1,7,8] Mt) [(0,hZ (xs.map fW)),(1,.func 146 [b9 0]),(7,aF xs.length),(8,aF pre.length)] [bT [.str s]]=R (sP (fun e:fp=>e.name==s) l pre.length):=by
 intro l;induction l with
 |nil =>
  intro pre h;rw[bt];simp only[x7,gU h,EW,seval];exact hx _
 |cons n rest ih =>
  intro pre h;rw[bt];have dQ:pre.length+1<=100000:=by rw[h] at hn; simp at hn; omega
  have hw:=vY pre n;have hi:=ih (pre++[n]) (by rw[h]; simp)
  simp only[aD,au,av] at hi;have hk:∀x:fp,aU (ar bN) 146 [.agg (fm x),b9 0] [bT [.str s]]=some (.bool ((fun e:fp=>e.name==s) x),[bT [.str s]]):=fun x=>xE (f:=146) (p:=0) (vs:=[.agg (fm x)]) (M:=[bT [.str s]]) rfl (aoL x s) rfl rfl rfl rfl rfl rfl rfl rfl rfl
  rw[sP];simp only[x7,gd h,fc h,hk,EW,seval];refine bp (fun hb=>?_) (fun hb=>?_)
  ·simp only[x7,hb,EW,seval];exact hr _
  ·simp only[x7,hb,hw,af,EW,seval];exact hi
def ajn(xs:List fp)(s:Bytes)(hn:xs.length<=100000):ar bN 145 [hZ (xs.map fW),.func 146 [b9 0]] [bT [.str s]]=some (aF (sP (fun e:fp=>e.name==s) xs 0),[bT [.str s]]):=by
 refine az ?_;simp only[L4,x7,EW,seval];exact Um (R:=fun i=>some (aF i,[bT [.str s]])) hn (fun e=>by simp only[x7,EW,seval]) (fun i=>by simp only[x7,EW,seval]) xs [] rfl
def Nb:List ag:=[.int .i64 0,.int .i64 0,.int .i64 0,.slice .c0 [],.slice .c0 [],.int .i64 0]
def wy(o:Option Node):List ag:=match o with
 |some n=>aI n
 |none=>Nb
def ace(o:Option Node):qF (.agg [aF 0,aF 0,aF 0,.slice .c0 [],.slice .c0 [],aF 0]) false (o.map bG) = .agg (wy o):=by cases o<;>rfl
def ik(all:AM Node):List Bytes->Option Node->Option Node×Int
 | [],o=>(o,0)
 |s::r,o=>if !((o.getD Node.zero).kind==2) then (o,73) else match (o.getD Node.zero).aM.find? (fun e=>e.name==s) with
  |none=>(o,70)
  |some e=>ik all r (dx all e.an)
def fa(l:List Node)(m:AM Node):AM Node:=l.foldl (fun m n=>lR m n.an n) m
def Zm{W:aa×jk}{at':Int}{p:List Bytes}{xs:List Node}(hn:xs.length<=200000){fin:AM Node}{k:List K}{r:Option (ag×aG)}
  (hx:∀e,kr (ar gv) [] 1 k ⟨.exit 0,(0,b9 0)::(2,aF at')::(5,dh p)::(6,.ia 1)::e,[cd W.1 W.2,.map (Ca fin) (ra bG fin)]⟩=r) :
  ∀(l pre:List Node)(m:AM Node),xs=pre++l->fa l m=fin->eV (ar gv) [] 1 k (.loop [0,2,5,6,42,43,44] afw) [(0,b9 0),(2,aF at'),(5,dh p),(6,.ia 1),(42,aY xs),(43,aF xs.length),(44,aF pre.length)] [cd W.1 W.2,.map (Ca m) (ra bG m)]=r:=by
 obtain⟨f,o⟩:=W;simp only[cd,bX] at hx ⊢;intro l;induction l with
 |nil =>
  intro pre m h hfin;rw[bt];simp only[fa,mo] at hfin;subst hfin;simp only[LA,gU h,EW,seval];exact hx _
 |cons n rest ih =>
  intro pre m h hfin;rw[bt];have dQ:pre.length+1<=200000:=by rw[h] at hn; simp at hn; omega
  have hw:=vY pre n;have hi1:=ih (pre++[n]) (lR m n.an n) (by rw[h]; simp) hfin
  have hput:=tI bG m n.an n;simp only[bG,aI,aD,au,av,aL] at hi1 hput;simp only[LA,gd h,fc h,aI,hw,hput,mapOf.eq_1,WV,EW,seval];exact hi1
def Zn{W:aa×jk}{all:AM Node}(hall:∀k n,dx all k=some n->n.aM.length<=100000){xs:List Bytes}(hn:xs.length<=100000){fin:Option Node×Int}{k:List K}{r:Option (ag×aG)}
  (hx:fin.2=0->∀e,kr (ar gv) [] 1 k ⟨.exit 2,(0,b9 0)::(6,.ia 1)::(9,b9 2)::e,[cd W.1 W.2,.map (Ca all) (ra bG all),bT (wy fin.1)]⟩=r)
  (hp:(fin.2 != 0)=true->∀c d,kr (ar gv) [] 1 k ⟨.mQ (.iface 42 (.int .i64 fin.2)),[],[cd W.1 W.2,.map (Ca all) (ra bG all),.cells c,d]⟩=r) :
  ∀(l pre:List Bytes)(o:Option Node),xs=pre++l->(∀n,o=some n->n.aM.length<=100000)->ik all l o=fin->eV (ar gv) [] 1 k (.loop [0,6,9,56,57,58] afx) [(0,b9 0),(6,.ia 1),(9,b9 2),(56,dh xs),(57,aF xs.length),(58,aF pre.length)] [cd W.1 W.2,.map (Ca all) (ra bG all),bT (wy o)]=r:=by
 obtain⟨f,op⟩:=W;simp only[cd,bX] at hx hp ⊢;intro l;induction l with
 |nil =>
  intro pre o h ho hfin;rw[bt];rw[ik] at hfin;subst hfin;cases o<;>simp only[wy,Nb,aI,LA,gU h,WV,EW,seval] at hx ⊢ <;> exact hx trivial _
 |cons s rest ih =>
  intro pre o h ho hfin;rw[bt];have dQ:pre.length+1<=100000:=by rw[h] at hn; simp at hn; omega
  have hw:=vY pre s;have q2:=fun bb=>PB bb 73 rfl
  have q3:=fun bb=>PB bb 70 rfl
  cases o with
  |none =>
   have hf:ik all (s::rest) none=(none,73):=rfl;rw[hf] at hfin;subst hfin;have h02:((0:Int)==2)=false:=rfl;simp only[wy,Nb,LA,gd h,fc h,h02,q2,fS,af,aw,EW,seval];exact hp rfl _ _
  |some n =>
   rw[ik] at hfin;simp only[bh] at hfin;cases hk:n.kind==2
   ·rw[hk] at hfin;simp only[fg,aE] at hfin;subst hfin;simp only[wy,aI,LA,gd h,fc h,hk,q2,fS,af,aw,EW,seval];exact hp rfl _ _
   ·rw[hk] at hfin;simp only[c8,af,aw] at hfin;have hne:=ho n rfl;have q4:∀M,nth M 3=some (bT [.str s])->aU (ar gv) 145 [ic n.aM,.func 146 [b9 3]] M=some (aF (sP (fun e:fp=>e.name==s) n.aM 0),M):=fun M hM=>lS (zu hM (ajn n.aM s hne) rfl rfl rfl)
    rcases xM (fun e:fp=>e.name==s) n.aM 0 with ⟨i1,i2⟩|⟨j,e,i1,i2,i3,_⟩
    ·rw[i2] at hfin;simp only at hfin;subst hfin;rw[i1] at q4;have hneg:(0<=(-1:Int))=False:=by simp
     simp only[wy,aI,LA,gd h,fc h,hk,q2,q3,q4,hneg,fS,af,aE,aw,EW,seval];exact hp rfl _ _
    ·rw[i3] at hfin;simp only at hfin;rw[i1,aL] at q4;have hi:=ih (pre++[s]) (dx all e.an) (by rw[h]; simp) (fun m hm=>hall _ _ hm) hfin
     have hlg:=ace (dx all e.an);simp only[aD,au,av,aL] at hi;have hisC:(wy (dx all e.an)).all ag.iP=true:=by cases dx all e.an<;>rfl
     have hlC:(wy (dx all e.an)).length=6:=by cases dx all e.an<;>rfl
     have hbC:∀B M,List.map (ag.kE B M) (wy (dx all e.an))=wy (dx all e.an):=fun B M=>by cases dx all e.an<;>rfl
     generalize wy (dx all e.an)=gc at hi hlg hisC hlC hbC;simp only[wy,aI,fm,LA,gd h,fc h,hk,q2,q3,q4,i2,pc,hlg,hisC,hlC,hbC,hw,mapOf.eq_1,WV,af,aE,aw,EW,seval];exact hi
def Bq{all:AM Node}{P:Node->Prop}(hall:∀k n,dx all k=some n->P n):∀(f:Nat)(an:Int)(st:VS),(∀n,n∈st.2->P n)->∀n,n∈(fU all f an st).2.2->P n:=by
 intro f;induction f with
 |zero=>intro an st h; exact h
 |succ f ih =>
  intro an st h;rw[fU];split
  ·exact h
  ·split
   ·exact h
   ·rename_i h1;cases hn:dx all an with
    |none=>simp[hn] at h1
    |some n =>
     simp only[bh]
     have hfold:∀(l:List fp)(w:Bool×VS),(∀n,n∈w.2.2->P n)->∀n,n∈(l.foldl (fun w e=>((fU all f e.an w.2).1&&w.1,(fU all f e.an w.2).2)) w).2.2->P n:=by
      intro l;induction l with
      |nil=>intro w hw; exact hw
      |cons e r ihr =>
       intro w hw;rw[dZ];exact ihr _ (ih e.an w.2 hw)
     refine hfold _ _ ?_;intro m hm;simp only[bm,bM] at hm;rcases hm with hm|rfl
     ·exact h m hm
     ·exact hall _ _ hn
def IJ(x y:Node):∀l:List Node,y∈Cc x l->y=x\/y∈l
 | [],h=>by simp[Cc] at h; exact .inl h
 |z::r,h=>by
  simp only[Cc] at h;split at h
  ·simpa using h
  ·rcases bC.1 h with h|h
   ·exact .inr (by simp[h])
   ·rcases IJ x y r h with h|h
    ·exact .inl h
    ·exact .inr (by simp[h])
def vm(y:Node):∀l:List Node,y∈Ai l->y∈l
 | [],h=>h
 |x::r,h=>by
  rcases IJ x y _ h with h|h
  ·simp[h]
  ·exact aO _ (vm y r h)
def yU:∀(l:List Node)(m:AM Node)(k:Int)(n:Node),dx (fa l m) k=some n->n∈l\/dx m k=some n
 | [],m,k,n,h => .inr h
 |x::r,m,k,n,h=>by
  have h':dx (fa r (lR m x.an x)) k=some n:=h;rcases yU r _ k n h' with h|h
  ·exact .inl (by simp[h])
  ·rw[gZ] at h;split at h
   ·injection h with h; exact .inl (by simp[h])
   ·exact .inr h
def uo.all{f:aa}(hf:uo f)(a:Int):yf (sf f.s a)/\(sf f.s a).length<=100200:=by
 obtain⟨g1,g2⟩:=xe a f.s.dz [] ⟨fun k n h=>(by cases h),fun k n h=>(by cases h)⟩ (fun p hp=>by have:=(hf.Cf p hp).1; omega)
 obtain⟨g3,g4⟩:=A7 a f.s.now.ae f.s.since (f.s.dz.foldl (jy a) []) g1 (fun n hn=>by have:=hf.rt.sz.aM n hn; omega)
 refine⟨g3,?_⟩;have:=hf.rt.sz.ae; have h3:=hf.dz;simp at g2; unfold sf; omega
def ac7{f:aa}(hf:uo f)(id:Int):(rL f.s id).2.1.length<=200000/\∀n,n∈(rL f.s id).2.1->n.aM.length<=100000:=by
 unfold rL;split
 ·rename_i x _;obtain⟨h1,h2⟩:=hf.all x.at';have hg:=xv (all:=sf f.s x.at') h1.own 200001 x.an ([],[]);refine⟨?_,fun n hn=>?_⟩
  ·have:=hg.len; have h3:=tJ (sf f.s x.at') [];simp only[av] at this;simp only[rT,Bj,uc]; omega
  ·have:=vm n _ hn;exact Bq (P:=fun n=>n.aM.length<=100000) h1.aM 200001 x.an ([],[]) (fun n h=>by cases h) n this
 ·exact⟨by simp,fun n h=>by cases h⟩
def qP(f:aa)(o:jk):Wk :=
 let a:=rL f.s o.n
 let p:=dW o.da
 let r:=ik (fa a.2.1 []) p.1 (dx (fa a.2.1 []) a.1)
 if a.2.2 != 0 then (f,fL,a.2.2) else
 if p.2 != 0 then (f,fL,p.2) else
 if r.2 != 0 then (f,fL,r.2) else
 (f,⟨0,(r.1.getD Node.zero).an,(r.1.getD Node.zero).kind,(r.1.getD Node.zero).cL,vy (r.1.getD Node.zero),(r.1.getD Node.zero).aM.map fp.name,(r.1.getD Node.zero).data⟩,0)
def BS{all:AM Node}(hall:∀k n,dx all k=some n->n.aM.length<=100000):∀(p:List Bytes)(o:Option Node),(∀n,o=some n->n.aM.length<=100000)->∀n,(ik all p o).1=some n->n.aM.length<=100000
 | [],o,ho,n,h=>ho n h
 |s::r,o,ho,n,h=>by
  rw[ik] at h;split at h
  ·exact ho n h
  ·split at h
   ·exact ho n h
   ·exact BS hall r _ (fun m hm=>hall _ _ hm) n h
def c75(f:aa)(o:jk)(hf:uo f)(ho:wL o):ot 75 f o (qP f o):=by
 unfold ot;have q1:=fun M=>lS (aq6 f.s o.n (by have:=hf.cf; omega) (by have:=hf.dz; omega) (fun p hp=>by have:=(hf.Cf p hp).1; omega) hf.rt.sz hf.len M)
 have ha:=ac7 hf o.n;have q2:=ad2 o.da (by have:=ho.da; omega)
 have hp:=(mj o.da).2;unfold qP;simp only[];generalize rL f.s o.n=a at q1 ha ⊢;generalize dW o.da=p at q2 hp ⊢
 have hall:∀k n,dx (fa a.2.1 []) k=some n->n.aM.length<=100000:=fun k n h=>by
  rcases yU _ _ _ _ h with h|h
  ·exact ha.2 n h
  ·cases h
 have hpe:=BS hall p.1 (dx (fa a.2.1 []) a.1) (fun n h=>hall _ _ h)
 simp only[bo] at q1;have k134z:∀M,aU (ar gv) 134 [.agg [aF 0,aF 0,aF 0,hZ [],hZ [],aF 0]] M=some (aF (vy Node.zero),M):=fun M=>ad0 Node.zero M
 have k133z:∀M,aU (ar gv) 133 [hZ []] M=some (hZ [],M):=fun M=>adZ [] (by simp) M
 cases h0:a.2.2 != 0
 ·cases h1:p.2 != 0
  ·have hlg:=ace (dx (fa a.2.1 []) a.1);have hisC:(wy (dx (fa a.2.1 []) a.1)).all ag.iP=true:=by cases dx (fa a.2.1 []) a.1<;>rfl
   have hlC:(wy (dx (fa a.2.1 []) a.1)).length=6:=by cases dx (fa a.2.1 []) a.1<;>rfl
   have main:∀x y,(Row x (((ik (fa a.2.1 []) p.1 (dx (fa a.2.1 []) a.1)).1.getD Node.zero).aM.map fp.name |>.map ag.str)/\x=dh (((ik (fa a.2.1 []) p.1 (dx (fa a.2.1 []) a.1)).1.getD Node.zero).aM.map fp.name)) ->
     (y=match (ik (fa a.2.1 []) p.1 (dx (fa a.2.1 []) a.1)).1 with|some n=>cR n.data|none => .slice .c0 []) ->
     ar gv 75 [b9 0] [bT (bX f o)]=some (if (ik (fa a.2.1 []) p.1 (dx (fa a.2.1 []) a.1)).2 != 0 then fS (ik (fa a.2.1 []) p.1 (dx (fa a.2.1 []) a.1)).2 else .tuple [],
      [if (ik (fa a.2.1 []) p.1 (dx (fa a.2.1 []) a.1)).2 != 0 then dv f o fL (.slice .c0 []) (.slice .c0 []) else
       dv f o ⟨0,((ik (fa a.2.1 []) p.1 (dx (fa a.2.1 []) a.1)).1.getD Node.zero).an,((ik (fa a.2.1 []) p.1 (dx (fa a.2.1 []) a.1)).1.getD Node.zero).kind,((ik (fa a.2.1 []) p.1 (dx (fa a.2.1 []) a.1)).1.getD Node.zero).cL,vy ((ik (fa a.2.1 []) p.1 (dx (fa a.2.1 []) a.1)).1.getD Node.zero),[],[]⟩ x y]):=by
    rintro x y ⟨_,hx⟩ hy;subst hx hy;refine az ?_
    have hb:=Zn (W:=(f,o)) hall (xs:=p.1) (by omega) (fin:=ik (fa a.2.1 []) p.1 (dx (fa a.2.1 []) a.1)) (k:=[.block 2,.seq agu]) (r:=some (if (ik (fa a.2.1 []) p.1 (dx (fa a.2.1 []) a.1)).2 != 0 then fS (ik (fa a.2.1 []) p.1 (dx (fa a.2.1 []) a.1)).2 else .tuple [],
      [if (ik (fa a.2.1 []) p.1 (dx (fa a.2.1 []) a.1)).2 != 0 then dv f o fL (.slice .c0 []) (.slice .c0 []) else
       dv f o ⟨0,((ik (fa a.2.1 []) p.1 (dx (fa a.2.1 []) a.1)).1.getD Node.zero).an,((ik (fa a.2.1 []) p.1 (dx (fa a.2.1 []) a.1)).1.getD Node.zero).kind,((ik (fa a.2.1 []) p.1 (dx (fa a.2.1 []) a.1)).1.getD Node.zero).cL,vy ((ik (fa a.2.1 []) p.1 (dx (fa a.2.1 []) a.1)).1.getD Node.zero),[],[]⟩ (dh (((ik (fa a.2.1 []) p.1 (dx (fa a.2.1 []) a.1)).1.getD Node.zero).aM.map fp.name)) (match (ik (fa a.2.1 []) p.1 (dx (fa a.2.1 []) a.1)).1 with|some n=>cR n.data|none => .slice .c0 [])]))
     (fun hz e=>by
      generalize ik (fa a.2.1 []) p.1 (dx (fa a.2.1 []) a.1)=r at hz hpe ⊢;obtain⟨o',e'⟩:=r;simp only at hz;subst hz;cases o' with
      |none =>
       simp only[cd,bX,dv,wy,Nb,k133z,k134z,LA,iW,ak,af,aw,EW,seval];rfl
      |some n =>
       have q5:=adZ n.aM (hpe n rfl);have q6:=ad0 n;simp only[aI] at q6;simp only[cd,bX,dv,wy,aI,q5,q6,LA,bh,ak,af,aw,EW,seval])
     (fun hz c d=>by
      rw[bc hz,bc hz];simp only[cd,bX,dv,fL,LA,fS,EW,seval]) p.1 [] (dx (fa a.2.1 []) a.1) rfl (fun n h=>hall _ _ h) rfl
    generalize ik (fa a.2.1 []) p.1 (dx (fa a.2.1 []) a.1)=r at hb ⊢
    have hl:=Zm (W:=(f,o)) (at':=a.1) (p:=p.1) (xs:=a.2.1) ha.1 (fin:=fa a.2.1 []) (k:=[.block 0,.seq agv]) (r:=some (if r.2 != 0 then fS r.2 else .tuple [],[if r.2 != 0 then dv f o fL (.slice .c0 []) (.slice .c0 []) else
       dv f o ⟨0,(r.1.getD Node.zero).an,(r.1.getD Node.zero).kind,(r.1.getD Node.zero).cL,vy (r.1.getD Node.zero),[],[]⟩ (dh ((r.1.getD Node.zero).aM.map fp.name)) (match r.1 with|some n=>cR n.data|none => .slice .c0 [])]))
     (fun e=>by
      generalize fa a.2.1 []=al at hlg hisC hlC hb ⊢;generalize wy (dx al a.1)=gc at hlg hisC hlC hb;simp only[cd,bX,av] at hb;simp only[cd,bX,LA,pc,mapOf.eq_1,hlg,hisC,hlC,EW,seval];exact hb) a.2.1 [] [] rfl rfl
    simp only[cd,bX,av,Gp,Gq] at hl;simp only[Xw,LA,cd,bX,q1,q2,uh,h0,h1,af,aw,EW,seval];exact hl
   generalize ik (fa a.2.1 []) p.1 (dx (fa a.2.1 []) a.1)=r at main ⊢;cases h2:r.2 != 0
   ·refine⟨dh ((r.1.getD Node.zero).aM.map fp.name),(match r.1 with|some n=>cR n.data|none => .slice .c0 []),.inl rfl,?_,?_⟩
    ·obtain⟨o',e'⟩:=r;cases o'
     ·exact .inr ⟨rfl,rfl⟩
     ·exact .inl rfl
    ·have:=main _ _ ⟨.inl rfl,rfl⟩ rfl;rw[h2] at this;simpa only[af,aw,ak,dv] using this
   ·refine⟨.slice .c0 [],.slice .c0 [],.inr ⟨rfl,rfl⟩,.inr ⟨rfl,rfl⟩,?_⟩;have:=main _ _ ⟨.inl rfl,rfl⟩ rfl;rw[h2] at this;simpa only[af,aE,aw,h2] using this
  ·refine⟨.slice .c0 [],.slice .c0 [],.inr ⟨rfl,rfl⟩,.inr ⟨rfl,rfl⟩,az ?_⟩;simp only[Xw,LA,cd,bX,dv,fL,q1,q2,uh,h0,h1,fS,af,aE,aw,EW,seval]
 ·refine⟨.slice .c0 [],.slice .c0 [],.inr ⟨rfl,rfl⟩,.inr ⟨rfl,rfl⟩,az ?_⟩;simp only[Xw,LA,cd,bX,dv,fL,q1,uh,h0,fS,af,aE,aw,EW,seval]
end
end
section
open Go Go.RowKit Go.Extern.Stop Go.Stop Go.Extern
def K6 (h:Value) (w:World):(Go.method 486 177 (.agg #[h]) "Kind").run Tryz.prog w = .ok (349,h) w:=by kernel_rfl
def K5 (h:Value) (w:World):(Go.method 486 177 (.agg #[h]) "Elem").run Tryz.prog w = .ok (359,.agg #[h]) w:=by kernel_rfl
def A6 (h:Value) (w:World):(Go.method 486 177 (.agg #[h]) "Implements").run Tryz.prog w = .ok (360,.agg #[h]) w:=by kernel_rfl
def yT (h:Value) (w:World):(Go.method 486 177 (.agg #[h]) "AssignableTo").run Tryz.prog w = .ok (357,.agg #[h]) w:=by kernel_rfl
def rlm(z:Sem Value)(f:TypeId->Addr->Nat->Nat->Sem Value)(v:Value) :
  ReflectliteValue.method z f #[v]=(do match <-ReflectliteValue.parts v with|none=>z|some (t,a,fl)=>f t a fl (fl % 32)):=rfl
theorem rls:∃s1 s2 s3 s4 s5:String,∀v x:Value,ReflectliteValue.set #[v,x]=(do
  let (some (dst,a,fl),some (src,b,_)):=(<-ReflectliteValue.parts v,<-ReflectliteValue.parts x)
   |unsupported (.noEntry s1)
  if fl / ReflectliteValue.flagAddr % 2==0 then unsupported (.noEntry s2)
  let val <-loadVar src b
  if <-Rtype.directlyAssignable dst src then storeVar dst a val
  else if <-Rtype.implements dst src then
   if (<-Rtype.kind src)==20 then
    match val with
    | .nilIface=>unsupported (.noEntry s3)
    |_=>storeVar dst a val
   else storeVar dst a (.iface src val)
  else panicString (s4 ++ (<-Rtype.spelt src) ++ s5 ++ (<-Rtype.spelt dst))
  pure (.tuple #[])):=⟨_,_,_,_,_,fun v x=>rfl⟩
def KE(t:Addr)(w:World):(ReflectliteValue.unpack (.iface 73 (.pointer (some t)))).run Tryz.prog w
  = .ok (.agg #[.pointer (some ⟨2,73,none⟩),.pointer (some ⟨w.heap.size,0,none⟩),.int .u64 150]) (w.alloc (.cells #[.pointer (some t)] 73)):=by kernel_rfl
def Xl (a:Addr) (w:World):(ReflectliteValue.methodAny (ReflectliteValue.valueError "reflectlite.Value.Type" 0) (fun t _ _ _=>ReflectliteType.toType t) #[.agg #[.pointer (some ⟨2,73,none⟩),.pointer (some a),.int .u64 150]]).run Tryz.prog w
  = .ok (.iface 177 (.agg #[.pointer (some ⟨2,73,none⟩)])) w:=by kernel_rfl
def Xj(w:World):((ReflectliteType.abiMethod fun t=>Functor.map (fun a:Nat=>Value.int IntKind.u8 (a:Int)) (Rtype.kind t)) #[.pointer (some ⟨2,73,none⟩)]).run Tryz.prog w = .ok (.int .u8 22) w:=by kernel_rfl
def Xk(w:World):((ReflectliteType.abiMethod fun t=>Functor.map (fun a:Nat=>Value.int IntKind.u8 (a:Int)) (Rtype.kind t)) #[.pointer (some ⟨2,42,none⟩)]).run Tryz.prog w = .ok (.int .u8 2) w:=by kernel_rfl
def HN(a:Addr)(w:World):(ReflectliteValue.parts (.agg #[.pointer (some ⟨2,73,none⟩),.pointer (some a),.int .u64 150])).run Tryz.prog w = .ok (some (73,a,150)) w:=by kernel_rfl
def Qv(a p:Addr)(W:World)(ha:W.cell? a=some (.pointer (some p))) :
  (ReflectliteValue.method (ReflectliteValue.valueError "reflectlite.Value.IsNil" 0) ReflectliteValue.isNil #[.agg #[.pointer (some ⟨2,73,none⟩),.pointer (some a),.int .u64 150]]).run Tryz.prog W = .ok (.bool false) W:=by
 rw[rlm];simp only[Sem.run_bind,HN,Result.andThen];simp[ReflectliteValue.isNil,loadVar,isAgg,underlying,underlying73,ha,Result.andThen]
def Xi(w:World):(ReflectliteType.method ReflectliteType.elem #[.agg #[.pointer (some ⟨2,73,none⟩)]]).run Tryz.prog w = .ok (.iface 177 (.agg #[.pointer (some ⟨2,42,none⟩)])) w:=by kernel_rfl
def Ei (w:World):(ReflectliteType.relation "Implements" ReflectliteType.implements_ #[.agg #[.pointer (some ⟨2,42,none⟩)],.iface 177 (.agg #[.pointer (some ⟨2,70,none⟩)])]).run Tryz.prog w = .ok (.bool true) w:=by kernel_rfl
def NZ(v:Value)(w:World):(ReflectliteType.typeOf #[.iface 42 v]).run Tryz.prog w = .ok (.iface 177 (.agg #[.pointer (some ⟨2,42,none⟩)])) w:=by kernel_rfl
def Eh (w:World):(ReflectliteType.relation "AssignableTo" ReflectliteType.assignableTo #[.agg #[.pointer (some ⟨2,42,none⟩)],.iface 177 (.agg #[.pointer (some ⟨2,42,none⟩)])]).run Tryz.prog w = .ok (.bool true) w:=by kernel_rfl
def KG(e:Int)(w:World):(ReflectliteValue.unpack (.iface 42 (.int .i64 e))).run Tryz.prog w
  = .ok (.agg #[.pointer (some ⟨2,42,none⟩),.pointer (some ⟨w.heap.size,0,none⟩),.int .u64 130]) (w.alloc (.cells #[.int .i64 e] 42)):=by kernel_rfl
def NX(w:World):(Rtype.elem? 73).run Tryz.prog w = .ok (some 42) w:=by kernel_rfl
def aj1(p:Addr)(w:World):(ReflectliteValue.mk 42 p ReflectliteValue.flagAddr).run Tryz.prog w = .ok (.agg #[.pointer (some ⟨2,42,none⟩),.pointer (some p),.int .u64 386]) w:=by kernel_rfl
def Qu(a p:Addr)(W:World)(ha:W.cell? a=some (.pointer (some p))) :
  (ReflectliteValue.method (ReflectliteValue.valueError "reflectlite.Value.Elem" 0) ReflectliteValue.elem #[.agg #[.pointer (some ⟨2,73,none⟩),.pointer (some a),.int .u64 150]]).run Tryz.prog W
   = .ok (.agg #[.pointer (some ⟨2,42,none⟩),.pointer (some p),.int .u64 386]) W:=by
 rw[rlm];simp only[Sem.run_bind,HN,Result.andThen];simp[ReflectliteValue.elem,loadVar,isAgg,underlying,underlying73,ha,Result.andThen,NX,aj1]
def NY(a:Addr)(w:World):(ReflectliteValue.parts (.agg #[.pointer (some ⟨2,42,none⟩),.pointer (some a),.int .u64 386])).run Tryz.prog w = .ok (some (42,a,386)) w:=by kernel_rfl
def Qw(a:Addr)(w:World):(ReflectliteValue.parts (.agg #[.pointer (some ⟨2,42,none⟩),.pointer (some a),.int .u64 130])).run Tryz.prog w = .ok (some (42,a,130)) w:=by kernel_rfl
def NW(w:World):(Rtype.directlyAssignable 42 42).run Tryz.prog w = .ok true w:=by kernel_rfl
def adM(ta b:Addr)(e:Int)(tL:Value)(W:World)(hb:W.cell? b=some (.int .i64 e))(ht:W.cell? ta=some tL)(hf:W.frozen? ta=false) :
  (ReflectliteValue.set #[.agg #[.pointer (some ⟨2,42,none⟩),.pointer (some ta),.int .u64 386],.agg #[.pointer (some ⟨2,42,none⟩),.pointer (some b),.int .u64 130]]).run Tryz.prog W
   = .ok (.tuple #[]) (W.setCell ta (.int .i64 e)):=by
 have hz:=sizeOf42;have hadd:∀a:Addr,a.add 0=a:=fun a=>by simp[Addr.add]
 obtain⟨s1,s2,s3,s4,s5,rls⟩:=rls;rw[rls];simp only[Sem.run_bind,NY,Qw,Result.andThen];simp[ReflectliteValue.flagAddr,loadVar,isAgg,underlying,underlying42,hb,Result.andThen,NW,storeVar,Value.cells,storeCells,loadCells,loadCellsFrom,hz,hadd];rw[run_store Tryz.prog W ta _ _ (by rfl)]
 simp[ht,hf]
set_option maxHeartbeats 4000000 in
set_option maxRecDepth 40000 in
def aj0(e:Int)(t:Addr)(tL:Value)(w:World)(hg:w.cell? ⟨0,0,none⟩=some (.iface 177 (.agg #[.pointer (some ⟨2,70,none⟩)])))(ht0:w.cell? t=some tL)(hf0:w.frozen? t=false) :
  Calls Tryz.prog 26 #[.iface 42 (.int .i64 e),.iface 73 (.pointer (some t))] w fun ev w'=>ev = .returned (.bool true)/\w'=((((w.alloc (.cells #[.pointer (some t)] 73)).alloc (.cells #[.pointer (some ⟨2,73,none⟩),.pointer (some ⟨w.heap.size,0,none⟩),.int .u64 150] 117)).alloc (.cells #[.pointer (some ⟨2,73,none⟩),.pointer (some ⟨w.heap.size,0,none⟩),.int .u64 150] 117)).alloc (.cells #[.int .i64 e] 42)).setCell t (.int .i64 e):=by
 have h6:=@run_callFunc_extern Tryz.prog 57 _ (fun args=>ReflectliteValue.unpack (args.getD 0 (.tuple #[]))) func57 (by kernel_rfl) (by kernel_rfl) (by kernel_rfl) (by kernel_rfl)
 have h7:=@run_callFunc_extern Tryz.prog 58 _ (ReflectliteValue.methodAny (ReflectliteValue.valueError "reflectlite.Value.Type" 0) (fun t _ _ _=>ReflectliteType.toType t)) func58 (by kernel_rfl) (by kernel_rfl) (by kernel_rfl) (by kernel_rfl)
 have h8:=@run_callFunc_extern Tryz.prog 59 _ (ReflectliteValue.method (ReflectliteValue.valueError "reflectlite.Value.IsNil" 0) ReflectliteValue.isNil) func59 (by kernel_rfl) (by kernel_rfl) (by kernel_rfl) (by kernel_rfl)
 have h27:=@run_callFunc_extern Tryz.prog 349 _ (ReflectliteType.abiMethod fun t=>do pure (.int .u8 (<-Rtype.kind t))) func349 (by kernel_rfl) (by kernel_rfl) (by kernel_rfl) (by kernel_rfl)
 have h37:=@run_callFunc_extern Tryz.prog 359 _ (ReflectliteType.method ReflectliteType.elem) func359 (by kernel_rfl) (by kernel_rfl) (by kernel_rfl) (by kernel_rfl)
 have h38:=@run_callFunc_extern Tryz.prog 360 _ (ReflectliteType.relation "Implements" ReflectliteType.implements_) func360 (by kernel_rfl) (by kernel_rfl) (by kernel_rfl) (by kernel_rfl)
 have h10:=@run_callFunc_extern Tryz.prog 121 _ ReflectliteType.typeOf func121 (by kernel_rfl) (by kernel_rfl) (by kernel_rfl) (by kernel_rfl)
 have h35:=@run_callFunc_extern Tryz.prog 357 _ (ReflectliteType.relation "AssignableTo" ReflectliteType.assignableTo) func357 (by kernel_rfl) (by kernel_rfl) (by kernel_rfl) (by kernel_rfl)
 have h11:=@run_callFunc_extern Tryz.prog 122 _ (ReflectliteValue.method (ReflectliteValue.valueError "reflectlite.Value.Elem" 0) ReflectliteValue.elem) func122 (by kernel_rfl) (by kernel_rfl) (by kernel_rfl) (by kernel_rfl)
 have h12:=@run_callFunc_extern Tryz.prog 123 _ ReflectliteValue.set func123 (by kernel_rfl) (by kernel_rfl) (by kernel_rfl) (by kernel_rfl)
 have tO:=NZ;have mA:=yT;have a25:=Eh;have v25:=KG;have f6:=KE;have f7:=Xl;have mK:=K6;have mE:=K5;have mI:=A6;have k27:=Xj;have k25:=Xk;have e27:=Xi;have i25:=Ei;have n8:=Qv ⟨w.heap.size,0,none⟩ t ((w.alloc (.cells #[.pointer (some t)] 73)).alloc (.cells #[.pointer (some ⟨2,73,none⟩),.pointer (some ⟨w.heap.size,0,none⟩),.int .u64 150] 117)) (by simp)
 have cz:0<w.heap.size:=by
  rcases gL w.heap.size with h0|h
  ·simp[World.cell?,h0] at hg
  ·exact h
 have hg2:((w.alloc (.cells #[.pointer (some t)] 73)).alloc (.cells #[.pointer (some ⟨2,73,none⟩),.pointer (some ⟨w.heap.size,0,none⟩),.int .u64 150] 117)).cell? ⟨0,0,none⟩=some (.iface 177 (.agg #[.pointer (some ⟨2,70,none⟩)])):=by
  rw[World.cell?_alloc_lt _ _ ⟨0,0,none⟩ (by simp),World.cell?_alloc_lt _ _ ⟨0,0,none⟩ cz]; exact hg
 have htl:t.block<w.heap.size:=by
  rcases bD t.block w.heap.size with h|h
  ·exact h
  ·simp[World.cell?,gY h] at ht0
 have el:=Qu ⟨w.heap.size,0,none⟩ t (((w.alloc (.cells #[.pointer (some t)] 73)).alloc (.cells #[.pointer (some ⟨2,73,none⟩),.pointer (some ⟨w.heap.size,0,none⟩),.int .u64 150] 117)).alloc (.cells #[.pointer (some ⟨2,73,none⟩),.pointer (some ⟨w.heap.size,0,none⟩),.int .u64 150] 117)) (by rw[World.cell?_alloc_lt _ _ ⟨w.heap.size,0,none⟩ (by simp; omega)]; simp)
 have st:=adM t ⟨w.heap.size+1+1+1,0,none⟩ e tL ((((w.alloc (.cells #[.pointer (some t)] 73)).alloc (.cells #[.pointer (some ⟨2,73,none⟩),.pointer (some ⟨w.heap.size,0,none⟩),.int .u64 150] 117)).alloc (.cells #[.pointer (some ⟨2,73,none⟩),.pointer (some ⟨w.heap.size,0,none⟩),.int .u64 150] 117)).alloc (.cells #[.int .i64 e] 42))
  (by rw[World.cell?_alloc_at _ _ _ _ (by simp)]; rfl)
  (by rw[World.cell?_alloc_lt _ _ t (by simp; omega),World.cell?_alloc_lt _ _ t (by simp; omega),World.cell?_alloc_lt _ _ t (by simp; omega),World.cell?_alloc_lt _ _ t htl]; exact ht0)
  (by rw[World.frozen?_alloc_old _ _ t (by simp; omega),World.frozen?_alloc_old _ _ t (by simp; omega),World.frozen?_alloc_old _ _ t (by simp; omega),World.frozen?_alloc_old _ _ t (gP htl)]; exact hf0)
 go_enter func26,ntmps26
 go_wp2
 refine wp_loop_rounds 1 ?_;rw[rounds_succ]
 go_wp2
 go_ret
 exact⟨rfl,rfl⟩
end
end Go.Proofs.YtahkjijkflobhaaGreatDoor
set_option linter.defProp false
namespace Go.Proofs.YtahkjijkflobhaaGreatDoor
open Go Go.Abs
def FA:cB :=
 (.seq (.region [
 ob 36 (.mv (.tmp 8)),
 ob 37 (.W0 (.tmp 36)),
 ob 38 (.iT 0 (.tmp 37)),
 ob 39 (.kU 10 (.tmp 38)),
 ob 40 (.mv (.tmp 8)),
 ob 41 (.W0 (.tmp 40)),
 ob 42 (.iT 18 (.tmp 41)),
 ob 43 (.kU 7 (.tmp 42)),
 ⟨none,.store 10 (.tmp 4) (.tmp 39),none,true,false,[42],true⟩,
 ox (.store 7 (.tmp 5) (.tmp 43))] true [4,5]) (.ret))
def FC:cB :=
 (.seq (.region [
 ob 33 (.mv (.tmp 6)),
 ob 34 (.mv (.tmp 8)),
 ob 35 (.wa (.tmp 33) [(.tmp 34)])] false [4,5,8]) FA)
def FD:cB :=
 (.seq (.region [
 ob 29 (.kU 10 (.tmp 2)),
 ob 30 (.kU 8 (.tmp 3)),
 ob 31 (.build [(.slice .c0 []),(.int .i64 0),(.int .i64 0),(.int .i64 0),(.slice .c0 []),(.slice .c0 []),(.slice .c0 []),(.int .i64 0),(.slice .c0 []),(.slice .c0 []),(.int .i64 0),(.int .i64 0),(.str []),(.str []),(.int .i64 0),(.int .i64 0),(.int .i64 0),(.slice .c0 []),(.int .i64 0),(.int .i64 0),(.int .i64 0),(.int .i64 0),(.int .i64 0),(.slice .c0 []),(.slice .c0 [])] [(0,10,(.tmp 29)),(10,8,(.tmp 30))]),
 ob 32 (.box (.tmp 31)),
 ob 8 (.mv (.tmp 32))] false [4,5,6,8]) FC)
def FE:cB :=
 (.seq (.region [
 ob 17 (.mv (.tmp 7)),
 ob 18 (.mv (.tmp 17)),
 og 19 18 true (.iT 1 (.tmp 3)),
 og 20 18 true (.ij (.tmp 19)),
 og 21 18 true (.bin .geq (.tmp 20) (.ke (.int .i64 0))),
 ob 22 (.pick (.tmp 18) (.tmp 21) (.ke (.bool false))),
 ob 23 (.mv (.tmp 22)),
 og 24 23 true (.iT 1 (.tmp 3)),
 og 25 23 true (.ij (.tmp 24)),
 og 26 23 true (.bin .lss (.tmp 25) (.ke (.int .i64 16))),
 ob 27 (.pick (.tmp 23) (.tmp 26) (.ke (.bool false))),
 ob 28 (.call 28 [(.tmp 27),(.ke (.int .i64 1))])] false [2,3,4,5,6]) FD)
noncomputable def aaw:Code:=match Tryz.f14.body with|some (.seq _ (.seq _ r))=>r|_ => .skip
def P0:D8:={ n:=44,own:=[],lv:=[(2,[2,3,4,5,6,7]),(3,[2,3,4,5,6]),(4,[4,5,6,8]),(5,[4,5,8]),(6,[4,5])],lp:=[] }
def wb:cB :=
 (.seq (.region [
 ⟨(some 11),.call 27 [],none,true,false,[],false⟩,
 ob 12 (.iT 0 (.tmp 3)),
 ob 13 (.ij (.tmp 12)),
 ob 14 (.look .i (.raw .nilFunc) true (.tmp 11) (.tmp 13)),
 ob 10 (.mv (.tmp 14)),
 ob 15 (.extract (.tmp 10) 0),
 ob 16 (.extract (.tmp 10) 1),
 ob 6 (.mv (.tmp 15)),
 ob 7 (.mv (.tmp 16))] true [2,3,4,5,6,7]) FE)
def al8:comp Tryz.prog P0 aaw=some wb:=by kernel_rfl
noncomputable def aax:Code:=match Tryz.f25.body with|some (.seq _ (.seq _ (.cond _ (.seq _ (.seq _ r)) _)))=>r|_ => .skip
def ac4:D8:={ n:=20,own:=[],lv:=[(5,[])],lp:=[] }
def yi:cB :=
 (.region [
 ob 17 (.kU 10 (.tmp 0)),
 ob 18 (.ij (.tmp 5)),
 ob 19 (.build [(.int .i64 0),(.int .i64 0),(.int .i64 0),(.int .i64 0),(.int .i64 0),(.slice .c0 []),(.slice .c0 [])] [(0,1,(.tmp 18))]),
 ox (.store 10 (.tmp 1) (.tmp 17)),
 ox (.store 7 (.tmp 2) (.tmp 19))] false [])
def amq:comp Tryz.prog ac4 aax=some yi:=by kernel_rfl
noncomputable def aav:Code:=match Tryz.f14.body with|some (.seq r _)=>r|_ => .skip
def ac2:D8:={ n:=44,own:=[],lv:=[(0,[2,3,4,5])],lp:=[] }
def LL:cB :=
 (.region [
 ob 2 (.box (.tmp 0)),
 ob 3 (.box (.tmp 1)),
 ob 4 (.pH [(.slice .c0 []),(.int .i64 0),(.int .i64 0),(.int .i64 0),(.slice .c0 []),(.slice .c0 []),(.slice .c0 []),(.int .i64 0),(.slice .c0 []),(.slice .c0 [])]),
 ob 5 (.pH [(.int .i64 0),(.int .i64 0),(.int .i64 0),(.int .i64 0),(.int .i64 0),(.slice .c0 []),(.slice .c0 [])])] false [2,3,4,5])
def al7:comp Tryz.prog ac2 aav=some LL:=by kernel_rfl
end Go.Proofs.YtahkjijkflobhaaGreatDoor
namespace Go.Proofs.YtahkjijkflobhaaGreatDoor
open Go Go.Abs
def J7(w:World):(Instr.typeAssert .nilIface 20 70 true).run Tryz.prog w = .ok (.tuple #[.nilIface,.bool false]) w:=by kernel_rfl
def J6(v:Value)(w:World):(Instr.typeAssert (.iface 42 v) 20 70 true).run Tryz.prog w = .ok (.tuple #[.iface 42 v,.bool true]) w:=by kernel_rfl
set_option maxRecDepth 40000 in
def Ke(p q r:Value)(w:World) :
  CallsD Tryz.prog 25 #[p,q,r] .returning w fun e u' w'=>e = .returned (.tuple #[])/\u' = .returning/\w'=w:=by
 refine callsD_of_wpS func25 rfl fun c₀ cs hu=>?_
 simp only[ntmps25,cU,au,av,Nat.reduceAdd,Nat.reduceSub,jq,jr,ky,jH,aR,aZ];apply wpS_seq;apply wpS_region;simp[wpOpsS,go_sem,recoverD,hu,Exit.thenS,J7];apply wpS_seq;apply wpS_region;simp[wpOpsS,go_sem,Exit.thenS];refine wpS_cond (t:=false) (by simp[Act.eval]) ?_
 simp only[af,aw];refine wpS_of_wp (wp_skip ?_);cases c₀;simp_all [bodyPostS,results,Tryz.results25]
def Gd(w:World)(o:Obj):(w.alloc o).heap=w.heap.push o:=rfl
def Vm{e:Int}{j:J}{M:aG}{w W:World}(hr:Rel j M w)(hsz:w.heap.size<W.heap.size)(hos:W.os=w.os)(ht:W.tape=w.tape)(hou:W.output=w.output)(jf:W.heap[w.heap.size]?=some (.cells #[.int .i64 e] 42 (0,0)))(hb:∀b,b<w.heap.size->W.heap[b]?=w.heap[b]?) :
  Rel (gD j M.length (some w.heap.size)) (M++[.cells [.int .i64 e]]) W/\Ext j M w (gD j M.length (some w.heap.size)) (M++[.cells [.int .i64 e]]) W:=by
 have hob:∀b,some w.heap.size=some b->w.heap.size<=b/\b<W.heap.size:=fun b h=>by injection h with h; omega
 have q:Quiet w W:=⟨by omega,hos,ht,hou⟩
 refine⟨hr.push hob q hb (fun _=>⟨_,rfl,fun j' M' _=>⟨_,_,jf,rfl,fun i c v hc hv=>?_⟩⟩) (fun sz n b h=>by cases h),Ext.push (fun b h=>(hob b h).1) q hb⟩
 match i with
 |0 =>
  simp at hc hv;subst hc; subst hv;exact .plain (.int _ _)
 |i+1=>simp at hc
def ND{e:Int}{j:J}{M:aG}{w:World}(hr:Rel j M w)(hG:se j M w){p q r:Value}{xp xq xr:ag}(hp:gj j M w xp p)(hq:gj j M w xq q)(hr':gj j M w xr r){o:Out}
  (ho:eW (ar gv) yi [(0,xp),(1,xq),(2,xr),(5,.ptr M.length 0)] (M++[.cells [.int .i64 e]])=some o) (hn:o.e = .normal) :
  CallsD Tryz.prog 25 #[p,q,r] (.panicking [{ v := .iface 42 (.int .i64 e),recovered:=false }]) w fun ed u' w' =>
   ed = .returned (.tuple #[])/\u' = .panicking [{ v := .iface 42 (.int .i64 e),recovered:=true }]/\∃j',Rel j' o.mem w'/\Ext j M w j' o.mem w':=by
 have hg:=(hG.g 0 [HO] 0 HO rfl rfl).2;have cz:0<w.heap.size:=(hG.g 0 [HO] 0 HO rfl rfl).1.lt;refine callsD_of_wpS func25 rfl fun c₀ cs hu=>?_
 simp only[ntmps25,cU,au,av,Nat.reduceAdd,Nat.reduceSub,jq,jr,ky,jH,aR,aZ];apply wpS_seq;apply wpS_region;simp[wpOpsS,go_sem,recoverD,hu,Exit.thenS,J6];apply wpS_seq;apply wpS_region;simp[wpOpsS,go_sem,Exit.thenS];refine wpS_cond (t:=true) (by simp[Act.eval]) ?_
 simp only[aE];refine wpS_of_wp ?_;refine wp_seq (wp_region ?_);simp[wpOps,go_sem,Exit.then]
 refine .inl (wp_seq (wp_seq (wp_region ?_)));simp[wpOps,go_sem,Exit.then]
 repeat' refine Or.inl ?_
 refine(aj0 e ⟨w.heap.size,0,none⟩ (.int .i64 0) _ ?_ ?_ ?_).mono ?_
 ·rw[World.cell?_alloc_lt _ _ ⟨0,0,none⟩ cz]; exact hg
 ·simp
 ·simp
 rintro ev w' ⟨rfl,rfl⟩;simp[go_sem];refine .inl (wp_cond (t:=false) ?_ ?_)
 ·simp[Act.eval]
 simp only[af,aw];refine wp_skip ?_;simp only[Exit.then]
 have hR:=Vm (e:=e) hr (W:=((((w.alloc (.cells #[.int .i64 e] 42)).alloc (.cells #[.pointer (some ⟨w.heap.size,0,none⟩)] 73)).alloc (.cells #[.pointer (some ⟨2,73,none⟩),.pointer (some ⟨w.heap.size+1,0,none⟩),.int .u64 150] 117)).alloc (.cells #[.pointer (some ⟨2,73,none⟩),.pointer (some ⟨w.heap.size+1,0,none⟩),.int .u64 150] 117)).alloc (.cells #[.int .i64 e] 42))
  (by simp only[Gd,Array.size_push]; omega) rfl rfl rfl (by
   have h2:w.heap.size≠w.heap.size+1+1:=by omega
   have h3:w.heap.size≠w.heap.size+1+1+1:=by omega
   have h4:w.heap.size≠w.heap.size+1+1+1+1:=by omega
   simp only[Gd]; simp[fP,h2,h3,h4]) (fun b hb=>by
   have h1:b≠w.heap.size:=by omega
   have h2:b≠w.heap.size+1:=by omega
   have h3:b≠w.heap.size+1+1:=by omega
   have h4:b≠w.heap.size+1+1+1:=by omega
   have h5:b≠w.heap.size+1+1+1+1:=by omega
   simp only[Gd]; simp[fP,h1,h2,h3,h4,h5])
 have hG':=hG.mono hR.2;have key:=wpIn_wide.1 (lM (rd:=none) (nd:=0) (by kernel_rfl) Lq aax amq ho hR.1 hG' (a:={ tmps := #[p,q,r,.iface 42 (.int .i64 e),.bool true,.pointer (some ⟨w.heap.size,0,none⟩),.tuple #[.iface 42 (.int .i64 e),.bool true],.iface 42 (.int .i64 e),.tuple #[.iface 42 (.int .i64 e),.bool true],.iface 42 (.int .i64 e),.bool true,.bool true,.iface 42 (.int .i64 e),.iface 73 (.pointer (some ⟨w.heap.size,0,none⟩)),.bool true,.bool false,undef,undef,undef,undef],defers:=[] }) ?_ rfl)
 ·refine wp_mono key ?_;rintro ex a' w' ⟨h1,h2,h3,j',h4,h5,h6⟩;rw[hn] at h1;simp only[re] at h1;subst h1;simp[bodyPostS,results,Tryz.results25,h3];exact⟨j',h4,hR.2.trans h6⟩
 ·refine⟨fun t=>?_,hG'⟩
  match t with
  |0=>exact hp.mono hR.2
  |1=>exact hq.mono hR.2
  |2=>exact hr'.mono hR.2
  |5=>exact .ptr (by simp) ⟨_,mr⟩ (by simp[gD])
  |3=>exact .any _
  |4=>exact .any _
  |t+6=>exact .any _
end Go.Proofs.YtahkjijkflobhaaGreatDoor
namespace Go.Abs
open Go
variable [kh]
def Vo{a:Act}{d:Option Nat}{v:Value}{t:Nat}(h:d≠some t):(a.put d v).tmps.getD t undef=a.tmps.getD t undef:=by
 cases d with
 |none=>rfl
 |some s =>
  have hne:s≠t:=fun e=>h (by rw[e])
  simp[Act.put,dn,fh hne]
def Ry{F:Fence}{n:Nat}{P:Program}{ops:Array Oper}{Q:Exit->Act->World->Prop}{ks:List Nat}{v0:Nat->Value}:∀(l:List Nat)(a:Act)(w:World),
  (∀i o,i∈l->ops[i]?=some o->∀t,t∈ks->o.dst≠some t)->(∀t,t∈ks->a.tmps.getD t undef=v0 t)->wpOpsIn F n P ops Q l a w->wpOpsIn F n P ops (fun e a' w'=>Q e a' w'/\(e = .outgrown\/∀t,t∈ks->a'.tmps.getD t undef=v0 t)) l a w:=by
 intro l;induction l with
 |nil=>exact fun a w _ hv h=>⟨h,.inr hv⟩
 |cons i rest ih =>
  intro a w hd hv h;have hd':∀i o,i∈rest->ops[i]?=some o->∀t,t∈ks->o.dst≠some t:=fun i o hi=>hd i o (aO _ hi)
  simp only[wpOpsIn] at h ⊢;cases ho:ops[i]? with
  |none=>rw[ho] at h; exact ih a w hd' hv h
  |some o =>
   rw[ho] at h;have hdo:=hd i o aV ho;have hp:∀(a:Act) v,(∀t,t∈ks->a.tmps.getD t undef=v0 t)->∀t,t∈ks->(a.put o.dst v).tmps.getD t undef=v0 t:=fun a v h t ht=>(Vo (hdo t ht)).trans (h t ht)
   simp only at h ⊢;split at h
   ·rename_i hw;rw[bc hw];refine⟨h.1,?_⟩;have h:=h.2;unfold Oper.uponIn at h ⊢;split at h
    ·exact ih _ _ hd' (hp _ _ hv) h
    ·exact ih _ _ hd' (hp _ _ hv) h
    ·exact ih _ _ hd' (hp _ _ hv) h
    ·refine⟨h.1,h.2.mono fun e w' h=>?_⟩
     cases e with
     |returned v=>exact ih _ _ hd' (hp _ _ hv) h
     |panicked c=>exact⟨h,.inr hv⟩
     |outgrown=>obtain⟨a1,w1,h⟩:=h; exact⟨a1,w1,h,.inl rfl⟩
    ·exact⟨h.1,h.2.mono fun v w' h=>ih _ _ hd' (hp _ _ hv) h⟩
    ·refine⟨h.1,h.2.mono fun e w' h=>?_⟩
     cases e with
     |returned v=>exact ih _ _ hd' (hp _ _ hv) h
     |panicked c=>exact⟨h,.inr hv⟩
     |outgrown=>obtain⟨a1,w1,h⟩:=h; exact⟨a1,w1,h,.inl rfl⟩
    ·exact⟨h,.inr hv⟩
    ·exact h.elim
   ·rename_i hw;rw[aH hw];exact⟨h.1,ih _ _ hd' (hp _ _ hv) h.2⟩
def Ce(ks:List Nat)(br:Env)(o:Out):Out:=match o.e with
 | .mQ v=>⟨.mQ v,lQ br ks,o.mem⟩
 |_=>o
noncomputable def sd(C:eK)(ks:List Nat):cB->Env->aG->Option Out
 | .seq x y,br,M=>bH (sd C ks x br M) fun o=>uL o (sd C ks y)
 | .region ops d live,br,M=>bH (eW C (.region ops d live) br M) fun o=>some (if d then o else Ce ks br o)
 |c,br,M=>eW C c br M
def H5(ks:List Nat):Code->Bool
 | .seq x y=>H5 ks x&&H5 ks y
 | .region _ ops _=>ops.toList.all fun o=>match o.dst with|some d => !ks.contains d|none=>true
 |_=>true
def Jv{P:Program}{C:eK}{A:D8}(hmix:P.follows .mixedOrders=true)(hC:oV P C){rd:Option Nat}{nd:Nat}{ks:List Nat}:∀(c:Code){ac:cB},comp P A c=some ac->H5 ks c=true->∀ {br:Env} {M:aG} {o:Out},sd C ks ac br M=some o ->
  ∀ {j:J} {w:World} {a:Act},Rel j M w->se j M w->cn j M w br a->a.tmps.size=A.n->c.wpIn (Wd rd) nd P (WE A j M w a o) a w:=by
 intro c;induction c with
 |seq x y ihx ihy =>
  intro ac hc hf br M o h j w a hr hG he hs;simp only[comp] at hc;obtain⟨ax,hx,hc⟩:=ba hc;obtain⟨ay,hy,hc⟩:=ba hc;cases hc;simp only[H5,bn] at hf;simp only[sd] at h;obtain⟨o1,h1,h⟩:=bl h;refine wpIn_seq (wpIn_mono (ihx hx hf.1 h1 hr hG he hs) ?_);rintro e a1 w1 ⟨he1,hs1,hd1,j1,r1,e1,x1⟩;rcases tG h with ⟨hn,h2⟩|⟨hn,h2⟩
  ·rw[hn] at he1;subst he1;refine wpIn_mono (ihy hy hf.2 h2 r1 (hG.mono x1) e1 hs1) ?_;rintro e a2 w2 ⟨he2,hs2,hd2,j2,r2,e2,x2⟩;exact⟨he2,hs2,hd2.trans hd1,j2,r2,e2,x1.trans x2⟩
  ·subst h2;have:re o.e ≠ .normal:=by cases ho:o.e<;>simp_all [re]
   subst he1
   cases hx:re o.e<;>first
    |exact absurd hx this
    |exact⟨hx.symm,hs1,hd1,j1,r1,e1,x1⟩
 |region id ops draw =>
  intro ac hc hf br M o h j w a hr hG he hs;cases draw with
  |true =>
   have hc0:=hc;simp only[comp,aE] at hc;obtain⟨l0,hl0,hc⟩:=ba hc;obtain⟨l,hl,hc⟩:=ba hc;cases hc;simp only[sd,aE] at h;obtain⟨o1,h1,h⟩:=bl h;cases h;exact lM hmix hC _ hc0 h1 hr hG he hs
  |false =>
   have hc0:=hc;simp only[comp,af,aw] at hc;obtain⟨l,hl,hc⟩:=ba hc;cases hc;simp only[sd,af,aw] at h;obtain⟨o1,h1,h⟩:=bl h;cases h;simp only[eW] at h1;obtain⟨x,hx,h1⟩:=bl h1;cases h1
   have hdst:∀i o,i∈List.range ops.size->ops[i]?=some o->∀t,t∈ks->o.dst≠some t:=by
    intro i o _ hio t ht hd;simp only[H5,bI] at hf;have:=hf o (Array.mem_toList_iff.2 (Array.mem_of_getElem? hio));rw[hd] at this;simp[ht] at this
   refine wpIn_mono (wpIn_region (Ry (v0:=fun t=>a.tmps.getD t undef) _ a w hdst (fun _ _=>rfl) (by
    rw[mV];exact xT hC (grow:=[]) ops.toList 0 (by simp) hl hx hr hG he hs fun a' w' j' h1 h2 h3 h4 h5=>Bc (live:=find A.lv id) h1 h2 h3 h4 h5))) ?_
   rintro e a1 w1 ⟨⟨he1,hs1,hd1,j1,r1,e1,x1⟩,hk⟩;clear hx;generalize x.ov (find A.lv id)=y at he1 r1 e1 x1 ⊢;cases hye:y.e with
   |mQ v =>
    have hp:Ce ks br y=⟨.mQ v,lQ br ks,y.mem⟩:=by unfold Ce; rw[hye]
    rw[hp];have hk':=hk.resolve_left (by rw[he1,hye]; simp[re])
    refine⟨by rw[he1,hye],hs1,hd1,j1,r1,⟨fun t=>?_,hG.mono x1⟩,x1⟩
    rw[yL];split
    ·rename_i ht;rw[hk' t ht];exact(he.at' t).mono x1
    ·exact .any _
   |normal =>
    have hp:Ce ks br y=y:=by unfold Ce; rw[hye]
    rw[hp]; exact⟨he1,hs1,hd1,j1,r1,e1,x1⟩
   |ret =>
    have hp:Ce ks br y=y:=by unfold Ce; rw[hye]
    rw[hp]; exact⟨he1,hs1,hd1,j1,r1,e1,x1⟩
   |exit i =>
    have hp:Ce ks br y=y:=by unfold Ce; rw[hye]
    rw[hp]; exact⟨he1,hs1,hd1,j1,r1,e1,x1⟩
 |_ =>
  intro ac hc hf br M o h j w a hr hG he hs;refine lM hmix hC _ hc (o:=o) ?_ hr hG he hs;simp only[comp] at hc
  first
   |(cases hc; exact h)
   |(obtain⟨_,_,hc⟩:=ba hc; cases hc; exact h)
   |(obtain⟨_,_,hc⟩:=ba hc; obtain⟨_,_,hc⟩:=ba hc; obtain⟨_,_,hc⟩:=ba hc; cases hc; exact h)
   |cases hc
end Go.Abs
namespace Go.Proofs.YtahkjijkflobhaaGreatDoor
open Go Go.Abs
def ZU:List sv:=[.dC 4 10,.dC 5 7]
noncomputable def LS(o1 o2:Out):Option (ag×aG) :=
 match o2.e with
 | .ret=>bH (sm o2.br o2.mem ZU) fun l=>some ((Abs.one l).mu 0 o2.mem,lK 0 o2.mem)
 | .mQ (.iface 42 (.int .i64 e)) =>
  bH (eW (ar gv) yi [(0,iB o1.br 2),(1,iB o1.br 4),(2,iB o1.br 5),(5,.ptr o2.mem.length 0)] (o2.mem++[.cells [.int .i64 e]])) fun o3 =>
  match o3.e with
  | .normal=>bH (sm o2.br o3.mem ZU) fun l=>some ((Abs.one l).mu 0 o3.mem,lK 0 o3.mem)
  |_=>none
 |_=>none
noncomputable def pDo:List ag->aG->Option (ag×aG):=fun args M =>
 match M with
 |_::_=>none
 | []=>if args.length=2 then
   bH (eW (ar gv) LL (fe 0 args) []) fun o1 =>
   match o1.e with
   | .normal=>bH (sd (ar gv) [4,5] wb (lQ o1.br [2,3,4,5]) o1.mem) fun o2=>LS o1 o2
   |_=>none
  else none
def Qo{args:List ag}{M:aG}{x:ag×aG}(h:pDo args M=some x):dD Tryz.prog 14 args M x:=by
 unfold pDo at h;split at h
 ·cases h
 split at h
 rotate_left
 ·cases h
 rename_i dQ;obtain⟨o1,ho1,h⟩:=bl h;split at h
 rotate_left
 ·cases h
 rename_i hn1;obtain⟨o2,ho2,h⟩:=bl h;intro j w vs hr hG hvl hv;refine calls_of_wp_defers func14 rfl ?_;refine wp_seq ?_;have hsz:(vs++Array.replicate (Tryz.f14.ntmps-vs.size) undef).size=44:=by rw[ntmps14]; simp; omega
 have he:cn j [] w (fe 0 args) { tmps:=vs++Array.replicate (Tryz.f14.ntmps-vs.size) undef,defers:=[] }:=by
  refine⟨fun t=>?_,hG⟩
  rw[AU,bc (cV _),bK];rcases bD t args.length with ht|ht
  ·have h1:=ai ht;have cz:t<vs.size:=by omega
   have h2:=bd cz;rw[h1];have h3:=hv t _ _ h1 h2
   have:(vs++Array.replicate (Tryz.f14.ntmps-vs.size) undef).getD t undef=vs[t]:=by
    simp[dn,cg cz,h2]
   rw[this];exact h3
  ·rw[er ht]; exact .any _
 refine wp_mono (wpIn_wide.1 (lM (rd:=none) (nd:=0) (by kernel_rfl) Lq aav al7 ho1 hr hG he hsz)) ?_
 rintro ex a1 w1 ⟨h1,h2,h3,j1,r1,e1,x1⟩;rw[hn1] at h1;simp only[re] at h1;subst h1;simp only[Exit.then]
 refine wp_seq (wp_region ?_);obtain⟨t1,d1⟩:=a1;simp only at h2 h3;subst h3;have hmf:∀(fn:Fn)(first cap:Array Value)(w:World),(Instr.makeFunc fn first cap).run Tryz.prog w = .ok (.func fn first cap) w:=fun _ _ _ _=>rfl
 have h2':t1.size=44:=h2;have h9:9<t1.size:=by omega
 simp[wpOps,go_sem,Exit.then,hmf,h9,Array.getElem?_setIfInBounds,gM]
 repeat' refine Or.inl ?_
 have key:∀d:List Deferred,cn j1 o1.mem w1 (lQ o1.br [2,3,4,5]) { tmps:=t1.setIfInBounds 9 (.func (.func 25) #[] #[t1[2]?.getD undef,t1[4]?.getD undef,t1[5]?.getD undef]),defers:=d }:=fun d=>by
  refine⟨fun t=>?_,e1.gl⟩
  rw[yL];split
  ·rename_i hm;have hne:9≠t:=by rintro rfl; simp at hm
   have:=e1.at' t;simp only[dn] at this ⊢;rw[fh hne];exact this
  ·exact .any _
 refine wp_mono (wpIn_wide.1 (Jv (rd:=none) (nd:=0) (by kernel_rfl) Lq aaw al8 (by kernel_rfl) ho2 r1 e1.gl (key _) (by simpa[P0] using h2'))) ?_
 rintro ex a2 w2 ⟨g1,g2,g3,j2,r2,e2,x2⟩;have hp:=(e1.at' 2).mono x2;have hq:=(e1.at' 4).mono x2;have hs:=(e1.at' 5).mono x2;simp only[dn] at hp hq hs;have hb0:0<=o2.mem.length:=cV _
 have fin:∀(j3:J)(M3:aG)(w3:World)(y:ag×aG),Rel j3 M3 w3->cn j3 M3 w3 o2.br a2->Ext j [] w j3 M3 w3->(bH (sm o2.br M3 ZU) fun l=>some ((Abs.one l).mu 0 M3,lK 0 M3))=some y ->
   ∃v,(results f14 a2.tmps).run Tryz.prog w3 = .ok v w3/\vH j [] w y (.returned v) w3:=by
  intro j3 M3 w3 y r3 e3 x3 hy;obtain⟨l,hl,hy⟩:=bl hy;cases hy;obtain⟨us,u1,u2,u3⟩:=Cu (P:=Tryz.prog) (rs:=Tryz.f14.results.toList) r3 e3 (by kernel_rfl:Hy Tryz.prog Tryz.f14.results.toList=some ZU) hl
  have hres:(results f14 a2.tmps).run Tryz.prog w3 = .ok (if h:us.toArray.size=1 then us.toArray[0] else .tuple us.toArray) w3:=by
   unfold results;rw[kM,Sem.run_bind,Sem.run_map];refine iq (congrArg (fun r:Result (List Value)=>Result.andThen (r.andThen fun a w' => .ok a.toArray w') _) (iq ?_ u1)) rfl
   rfl
  exact⟨_,hres,.inl ⟨_,rfl,j3,zt (cV _) r3,wP (cV _) rfl x3,ED (cV _) r3 (MD u2 u3)⟩⟩
 unfold LS at h;split at h
 ·rename_i hret;rw[hret] at g1;simp only[re] at g1;subst g1;simp only[bodyPostD,g3];refine leaves_cons (f:=25) (args := #[t1[2]?.getD undef,t1[4]?.getD undef,t1[5]?.getD undef]) (by simp) (by simp[go_sem]) ?_
  refine(Ke _ _ _ _).mono ?_;rintro ed u' w'' ⟨rfl,rfl,rfl⟩;simp only[Leaves,settle];exact fin _ _ _ _ r2 e2 (x1.trans x2) h
 ·rename_i e hpan;obtain⟨o3,ho3,h⟩:=bl h;split at h
  rotate_left
  ·cases h
  rename_i hn3;rw[hpan] at g1;simp only[re] at g1;subst g1;simp only[bodyPostD,g3];refine leaves_cons (f:=25) (args := #[t1[2]?.getD undef,t1[4]?.getD undef,t1[5]?.getD undef]) (by simp) (by simp[go_sem]) ?_
  refine(ND r2 e2.gl hp hq hs ho3 hn3).mono ?_;rintro ed u' w'' ⟨rfl,rfl,j3,r3,x3⟩;simp only[Leaves,settle];exact fin _ _ _ _ r3 (e2.mono x3) ((x1.trans x2).trans x3) h
 ·cases h
noncomputable def tb:zg:=nZ gv 14 pDo
def Z0:wN Tryz.prog tb:=xx MZ (by kernel_rfl) (fun h=>Qo h)
def Lp:oV Tryz.prog (ar tb):=rK (by kernel_rfl) Z0
def V0{f:Nat}{a:List ag}{M:aG}{x:ag×aG}(h:ar gv f a M=some x):ar tb f a M=some x:=xw rfl rfl h
def lD{f:Nat}{vs:List ag}{M:aG}{x:ag×aG}(h:aU (ar gv) f vs M=some x):aU (ar tb) f vs M=some x:=by
 obtain⟨a,B,y,h1,h2⟩:=rq h;exact h2 _ (V0 h1)
section
attribute [local irreducible] eV fZ je gK eo kr ar aU cA bH
def pV:AM Nat:=[(1,61),(2,62),(3,63),(4,64),(5,65),(6,66),(7,67),(8,68),(9,69),(10,70),(11,71),(12,72),(13,73),(14,74),(15,75),(16,76),(17,77)]
def fnV(K:Nat):ag := .raw (.func (.func K) ⟨[]⟩ ⟨[]⟩)
def c27:ar gv 27 [] []=some (.jA (Ca pV) (ra fnV pV),[]):=by
 refine az ?_;simp only[akh,E27,A5,mc,Int.reduceBEq,Int.reduceEq,↓reduceIte,ak,EW,seval];rfl
end
def ma(K:Nat)(f:aa)(o:jk):aa×Eu×Int :=
 if K=61 then wj f o else if K=62 then yo f o else if K=63 then yn f o else if K=64 then py f o else if K=65 then pw f o else if K=66 then BN f o else if K=67 then wq f o else if K=68 then vr f o else if K=69 then sg f o else if K=70 then xi f o else if K=71 then uR f o else if K=72 then Ee f o else if K=73 then uO f o else if K=74 then su f o else if K=75 then qP f o else if K=76 then wc f o else if K=77 then wT f o else (f,fL,0)
def Qp{k:Int}{K:Nat}(hk:dx pV k=some K){f:aa}{o:jk}(hf:uo f)(ho:wL o):ot K f o (ma K f o):=by
 have hm:=vo _ _ _ hk;simp only[pV,bC,Prod.mk.injEq,List.not_mem_nil,or_false] at hm;rcases hm with ⟨_,rfl⟩|⟨_,rfl⟩|⟨_,rfl⟩|⟨_,rfl⟩|⟨_,rfl⟩|⟨_,rfl⟩|⟨_,rfl⟩|⟨_,rfl⟩|⟨_,rfl⟩|⟨_,rfl⟩|⟨_,rfl⟩|⟨_,rfl⟩|⟨_,rfl⟩|⟨_,rfl⟩|⟨_,rfl⟩|⟨_,rfl⟩|⟨_,rfl⟩
 ·exact c61 f o hf ho
 ·exact c62 f o hf ho
 ·exact c63 f o hf ho
 ·exact c64 f o hf ho
 ·exact c65 f o hf ho
 ·exact c66 f o hf ho
 ·exact c67 f o hf ho
 ·exact c68 f o hf ho
 ·exact c69 f o hf ho
 ·exact c70 f o hf ho
 ·exact c71 f o hf ho
 ·exact c72 f o hf ho
 ·exact c73 f o hf ho
 ·exact c74 f o hf ho
 ·exact c75 f o hf ho
 ·exact c76 f o hf ho
 ·exact c77 f o hf ho
def xf(c:Bool)(b:Bool)(M:aG)(k:Option Out):BU c ((.bool b),M) k=k:=rfl
def Aa(c:Bool)(i:IntKind)(n:Int)(M:aG)(k:Option Out):BU c ((.int i n),M) k=k:=rfl
def Ae(c:Bool)(b:Bytes)(M:aG)(k:Option Out):BU c ((.str b),M) k=k:=rfl
def vt(c:Bool)(t:Tk)(l:List ag)(M:aG)(k:Option Out):BU c ((.slice t l),M) k=k:=rfl
def z7(c:Bool)(l:List ag)(M:aG)(k:Option Out):BU c ((.agg l),M) k=k:=rfl
def vu(c:Bool)(l:List ag)(M:aG)(k:Option Out):BU c ((.tuple l),M) k=k:=rfl
def Ac(c:Bool)(i n:Nat)(M:aG)(k:Option Out):BU c ((.ptr i n),M) k=k:=rfl
def xg(c:Bool)(a b:List ag)(M:aG)(k:Option Out):BU c ((.jA a b),M) k=k:=rfl
def Ad(c:Bool)(v:Value)(M:aG)(k:Option Out):BU c ((.raw v),M) k=k:=rfl
def z8(c:Bool)  (M:aG)(k:Option Out):BU c (.any,M) k=k:=rfl
def Ab(v:Value)(M:aG)(k:Option Out):BU true (.mQ v,M) k=some ⟨.mQ v,[],M⟩:=rfl
def De(e:Env)(M:aG)(k:Env->aG->Option Out):uL ⟨.normal,e,M⟩ k=k e M:=rfl
def Df(v:Value)(e:Env)(M:aG)(k:Env->aG->Option Out):uL ⟨.mQ v,e,M⟩ k=some ⟨.mQ v,e,M⟩:=rfl
def Rh(e:Env)(M:aG)(k:Env->aG->Option Out):uL ⟨.ret,e,M⟩ k=some ⟨.ret,e,M⟩:=rfl
def Rz(live:List Nat)(e:Env)(M:aG):Out.ov live ⟨.ret,e,M⟩=⟨.ret,e,M⟩:=rfl
def Vh(ks:List Nat)(br e:Env)(M:aG):Ce ks br ⟨.ret,e,M⟩=⟨.ret,e,M⟩:=rfl
def Ds(live:List Nat)(e:Env)(M:aG):Out.ov live ⟨.normal,e,M⟩=⟨.normal,lQ e live,M⟩:=rfl
def Dt(live:List Nat)(v:Value)(e:Env)(M:aG):Out.ov live ⟨.mQ v,e,M⟩=⟨.mQ v,e,M⟩:=rfl
def DJ(ks:List Nat)(br e:Env)(M:aG):Ce ks br ⟨.normal,e,M⟩=⟨.normal,e,M⟩:=rfl
def DK(ks:List Nat)(br:Env)(v:Value)(e:Env)(M:aG):Ce ks br ⟨.mQ v,e,M⟩=⟨.mQ v,lQ br ks,M⟩:=rfl
def Hv:(false==true)=false:=rfl
def Hw:(true==false)=false:=rfl
def Hu:(false==false)=true:=rfl
def Hx:(true==true)=true:=rfl
def gk(e:Int):Eu:=⟨e,0,0,0,0,[],[]⟩
def lN(f:aa)(o:jk):aa×Eu :=
 match dx pV o.kind with
 |none=>(f,gk 1)
 |some K=>if 0<=o.cH/\o.cH<16 then (if (ma K f o).2.2=0 then ((ma K f o).1,(ma K f o).2.1) else (f,gk (ma K f o).2.2)) else (f,gk 1)
def sn:List ag:=[.slice .c0 [],.int .i64 0,.int .i64 0,.int .i64 0,.slice .c0 [],.slice .c0 [],.slice .c0 [],.int .i64 0,.slice .c0 [],.slice .c0 []]
def qe:List ag:=[.int .i64 0,.int .i64 0,.int .i64 0,.int .i64 0,.int .i64 0,.slice .c0 [],.slice .c0 []]
def yg(f:aa)(o:jk):aG:=[.cells (ck f),.cells (eA o),.cells sn,.cells qe]
def uu:Env:=[(2,.ptr 0 0),(3,.ptr 1 0),(4,.ptr 2 0),(5,.ptr 3 0)]
def BA(a:Eu)(x y:ag):List ag:=[.int .i64 a.err,.int .i64 a.an,.int .i64 a.kind,.int .i64 a.n,.int .i64 a.m,x,y]
section
attribute [local irreducible] ar aU cA bH
def agC(f:aa)(o:jk):eW (ar gv) LL (fe 0 [.agg (ck f),.agg (eA o)]) []=some ⟨.normal,uu,yg f o⟩:=by
 simp only[LL,ck,eA,yg,uu,sn,qe,eW,fR,uL,wm,BU,EV,seval];rfl
def k27:=cP c27
def VJ(f:aa)(o:jk)(e:Int):eW (ar gv) yi [(0,b9 0),(1,b9 2),(2,b9 3),(5,b9 4)] (yg f o++[bT [aF e]]) =
  some ⟨.normal,[],bT (ck f) :: bT (eA o) :: bT (ck f) :: bT (BA (gk e) (.slice .c0 []) (.slice .c0 []))::[bT [aF e]]⟩:=by
 simp only[yi,ck,eA,yg,sn,qe,BA,gk,eW,fR,uL,wm,BU,EV,seval];rfl
def agG(f:aa)(o:jk)(b:dy)(e:Int):eW (ar gv) yi [(0,b9 0),(1,b9 2),(2,b9 3),(5,b9 5)] (yg f o++[b]++[bT [aF e]]) =
  some ⟨.normal,[],bT (ck f) :: bT (eA o) :: bT (ck f) :: bT (BA (gk e) (.slice .c0 []) (.slice .c0 []))::[b,bT [aF e]]⟩:=by
 simp only[yi,ck,eA,yg,sn,qe,BA,gk,eW,fR,uL,wm,BU,EV,seval];rfl
def agE(f:aa)(o:jk)(h:dx pV o.kind=none):sd (ar gv) [4,5] wb (lQ uu [2,3,4,5]) (yg f o)=some ⟨.mQ (.iface 42 (.int .i64 1)),[(4,b9 2),(5,b9 3)],yg f o⟩:=by
 have g:=pc fnV pV o.kind;rw[h] at g;have q:=fun M=>PB false 1 rfl M
 simp only[af,aw,fS] at q;have q0:=k27;simp only[wb,FA,FC,FD,FE,ck,eA,yg,uu,sd,eW,fR,xf,Aa,Ae,vt,z7,vu,Ac,xg,Ad,z8,Ab,De,Df,Ds,Dt,DJ,DK,Hv,Hw,Hu,Hx,af,aE,aw,mapOf.eq_2,qF,q0,g,q,nI,iW,eJ,EV,seval]
def agD(f:aa)(o:jk)(K:Nat)(h:dx pV o.kind=some K)(hc:¬(0<=o.cH/\o.cH<16)):sd (ar gv) [4,5] wb (lQ uu [2,3,4,5]) (yg f o)=some ⟨.mQ (.iface 42 (.int .i64 1)),[(4,b9 2),(5,b9 3)],yg f o⟩:=by
 have g:=pc fnV pV o.kind;rw[h] at g;have q:=fun M=>PB false 1 rfl M
 simp only[af,aw,fS] at q;have q0:=k27
 by_cases h1:0<=o.cH
 ·have h2:(o.cH<16)=False:=oyf;have h1:(0<=o.cH)=True:=by simp only[fq,jc]; exact h1
  simp only[wb,FA,FC,FD,FE,ck,eA,yg,uu,sd,eW,fR,xf,Aa,Ae,vt,z7,vu,Ac,xg,Ad,z8,Ab,De,Df,Ds,Dt,DJ,DK,Hv,Hw,Hu,Hx,af,aE,aw,mapOf.eq_2,qF,q0,g,q,bh,bZ,fnV,h1,h2,EV,seval]
 ·have h1:(0<=o.cH)=False:=by simp only[fq,pn]; exact h1
  simp only[wb,FA,FC,FD,FE,ck,eA,yg,uu,sd,eW,fR,xf,Aa,Ae,vt,z7,vu,Ac,xg,Ad,z8,Ab,De,Df,Ds,Dt,DJ,DK,Hv,Hw,Hu,Hx,af,aE,aw,mapOf.eq_2,qF,q0,g,q,bh,bZ,fnV,h1,EV,seval]
def agF(f:aa)(o:jk)(K:Nat)(r:aa×Eu×Int)(h:dx pV o.kind=some K)(hc0:0<=o.cH)(hc1:o.cH<16)(hd:ot K f o r) :
  ∃x y,Row x (r.2.1.names.map ag.str)/\Row y (r.2.1.data.map pU)/\sd (ar gv) [4,5] wb (lQ uu [2,3,4,5]) (yg f o) =
   some (if r.2.2 != 0 then ⟨.mQ (.iface 42 (.int .i64 r.2.2)),[(4,b9 2),(5,b9 3)],yg f o++[dv r.1 o r.2.1 x y]⟩
    else ⟨.ret,[(4,b9 2),(5,b9 3)],[bT (ck f),bT (eA o),bT (ck r.1),bT (BA r.2.1 x y),dv r.1 o r.2.1 x y]⟩):=by
 obtain⟨x,y,hx,hy,ha⟩:=hd;refine⟨x,y,hx,hy,?_⟩;have cx:x.iP=true:=by rcases hx with h|⟨h,_⟩<;>rw[h]<;>rfl
 have cy:y.iP=true:=by rcases hy with h|⟨h,_⟩<;>rw[h]<;>rfl
 have g:=pc fnV pV o.kind;rw[h] at g;have q:=fun M=>PB true 1 rfl M
 simp only[aE] at q;have q0:=k27;have h1:(0<=o.cH)=True:=by simp only[fq,jc]; exact hc0
 have h2:(o.cH<16)=True:=by simp only[fq,jc]; exact hc1
 have q5:aU (ar gv) K [b9 4] (yg f o++[bT (bX f o)])=some (if r.2.2 != 0 then fS r.2.2 else .tuple [],yg f o++[dv r.1 o r.2.1 x y]):=by
  obtain⟨f',a,e⟩:=r;simp only at hx hy ha ⊢;unfold dv at ha ⊢;rcases hx with rfl|⟨rfl,_⟩<;>rcases hy with rfl|⟨rfl,_⟩<;>exact sI (vs:=[]) (p:=4) rfl ha rfl rfl (by split<;>rfl) rfl (by split<;>rfl) rfl rfl rfl rfl rfl
 obtain⟨f',a,e⟩:=r;simp only at q5 ⊢;simp only[yg,ck,eA,bX,dv,sn,qe,aR,aZ,fS] at q5 ⊢;cases he:e != 0<;>simp only[he,af,aE,aw] at q5 ⊢
 ·simp only[sn,qe,Rh,Rz,Vh,wb,FA,FC,FD,FE,ck,eA,yg,uu,sd,eW,fR,xf,Aa,Ae,vt,z7,vu,Ac,xg,Ad,z8,Ab,De,Df,Ds,Dt,DJ,DK,Hv,Hw,Hu,Hx,af,aE,aw,mapOf.eq_2,qF,q0,g,q,bh,bZ,fnV,h1,h2,q5,BA,cx,cy,c9,EV,seval]
 ·simp only[sn,qe,Rh,Rz,Vh,wb,FA,FC,FD,FE,ck,eA,yg,uu,sd,eW,fR,xf,Aa,Ae,vt,z7,vu,Ac,xg,Ad,z8,Ab,De,Df,Ds,Dt,DJ,DK,Hv,Hw,Hu,Hx,af,aE,aw,mapOf.eq_2,qF,q0,g,q,bh,bZ,fnV,h1,h2,q5,EV,seval]
end
def NV(f:aa)(o:jk)(e:Int){R:aG}{M3:aG}(h:eW (ar gv) yi [(0,b9 0),(1,b9 2),(2,b9 3),(5,.ptr (yg f o++R).length 0)] (yg f o++R++[bT [aF e]])=some ⟨.normal,[],bT (ck f) :: bT (eA o) :: bT (ck f) :: bT (BA (gk e) (.slice .c0 []) (.slice .c0 []))::M3⟩) :
  LS ⟨.normal,uu,yg f o⟩ ⟨.mQ (.iface 42 (.int .i64 e)),[(4,b9 2),(5,b9 3)],yg f o++R⟩=some (.tuple [.agg (ck f),.agg (cQ (gk e))],[]):=by
 show bH (eW (ar gv) yi [(0,b9 0),(1,b9 2),(2,b9 3),(5,.ptr (yg f o++R).length 0)] (yg f o++R++[bT [aF e]])) _=_
 rw[h,bV];rfl
def Vg(f:aa)(o:jk):pDo [.agg (ck f),.agg (eA o)] []=bH (sd (ar gv) [4,5] wb (lQ uu [2,3,4,5]) (yg f o)) fun o2=>LS ⟨.normal,uu,yg f o⟩ o2:=by
 unfold pDo;simp only[];have h2:[ag.agg (ck f),ag.agg (eA o)].length=2:=rfl;rw[bc h2,agC,bV]
def c14(f:aa)(o:jk)(hf:uo f)(ho:wL o):ar tb 14 [.agg (ck f),.agg (eA o)] []=some (.tuple [.agg (ck (lN f o).1),.agg (cQ (lN f o).2)],[]):=by
 have bad:∀e,lN f o=(f,gk e)->∀R M3,sd (ar gv) [4,5] wb (lQ uu [2,3,4,5]) (yg f o)=some ⟨.mQ (.iface 42 (.int .i64 e)),[(4,b9 2),(5,b9 3)],yg f o++R⟩ ->
   eW (ar gv) yi [(0,b9 0),(1,b9 2),(2,b9 3),(5,.ptr (yg f o++R).length 0)] (yg f o++R++[bT [aF e]])=some ⟨.normal,[],bT (ck f) :: bT (eA o) :: bT (ck f) :: bT (BA (gk e) (.slice .c0 []) (.slice .c0 []))::M3⟩ ->
   ar tb 14 [.agg (ck f),.agg (eA o)] []=some (.tuple [.agg (ck (lN f o).1),.agg (cQ (lN f o).2)],[]):=by
  intro e he R M3 h1 h2;rw[he];refine eY (g:=pDo) rfl ?_;rw[Vg,h1,bV];exact NV f o e h2
 cases hk:dx pV o.kind with
 |none =>
  refine bad 1 (by unfold lN; rw[hk]) [] [bT [aF 1]] ?_ ?_
  ·rw[agE f o hk,cZ]
  ·rw[cZ]; exact VJ f o 1
 |some K =>
  by_cases hc:0<=o.cH/\o.cH<16
  ·obtain⟨x,y,hx,hy,hs⟩:=agF f o K (ma K f o) hk hc.1 hc.2 (Qp hk hf ho)
   by_cases he:(ma K f o).2.2=0
   ·have hd:lN f o=((ma K f o).1,(ma K f o).2.1):=by unfold lN; rw[hk]; simp only[bc hc,bc he]
    rw[hd];refine eY (g:=pDo) rfl ?_;rw[Vg,hs,aH (by simp[he]),bV]
    generalize ma K f o=r at hx hy ⊢;obtain⟨f',⟨a1,a2,a3,a4,a5,ns,dt⟩,e⟩:=r;simp only at hx hy;rcases hx with rfl|⟨rfl,hn⟩<;>rcases hy with rfl|⟨rfl,hm⟩
    ·rfl
    ·rw[nG] at hm; subst hm; rfl
    ·rw[nG] at hn; subst hn; rfl
    ·rw[nG] at hn hm; subst hn; subst hm; rfl
   ·refine bad (ma K f o).2.2 (by unfold lN; rw[hk]; simp only[bc hc,aH he]) [dv (ma K f o).1 o (ma K f o).2.1 x y] _ ?_ (agG f o _ _)
    rw[hs,bc (by simpa using he)]
  ·refine bad 1 (by unfold lN; rw[hk]; simp only[aH hc]) [] [bT [aF 1]] ?_ ?_
   ·rw[agD f o K hk hc,cZ]
   ·rw[cZ]; exact VJ f o 1
def Wd(ae:List Node)(i:Int):Nat:=(aX ae i).data.length
def jD(m:AM Bool):List Int:=m.map Prod.fst
def xu(ae:List Node)(l:List Int):Nat:=(l.map (Wd ae)).sum
structure Seen(ae:List Node)(m:AM Bool):Prop where
 nd:(jD m).Nodup
 tr:∀p,p∈m->p.2=true
 inn:∀k,k∈jD m->(find ae k).isSome=true
inductive Rch(ae:List Node):Int->Int->Prop
 |one {i:Int} {e:fp}:e∈(aX ae i).aM->Rch ae i e.an
 |step {i x:Int} {e:fp}:e∈(aX ae i).aM->Rch ae e.an x->Rch ae i x
def IK:∀(m:AM Bool)(k:Int),k∈jD m->∃v,dx m k=some v
 | [],k,h=>by simp[jD] at h
 |(a,v)::m,k,h=>by
  rw[dx];split
  ·exact⟨v,rfl⟩
  ·rename_i hk;refine IK m k ?_;simp only[jD,aP,bC] at h ⊢;exact h.resolve_left hk
def Seen.get{ae:List Node}{m:AM Bool}(h:Seen ae m)(k:Int):(dx m k).getD false=true↔k∈jD m:=by
 constructor
 ·intro hg;cases hm:dx m k with
  |none=>rw[hm] at hg; cases hg
  |some v=>exact dj.2 ⟨_,vo _ _ _ hm,rfl⟩
 ·intro hk;obtain⟨v,hv⟩:=IK m k hk;have:=h.tr _ (vo _ _ _ hv);rw[hv]; exact this
def IM:∀(m:AM Bool)(k:Int)(v:Bool),k∉jD m->lR m k v=m++[(k,v)]
 | [],k,v,_=>rfl
 |(a,w)::m,k,v,h=>by
  simp only[jD,aP,bC,lu] at h;rw[lR,aH h.1,IM m k v h.2]; rfl
def Seen.put{ae:List Node}{m:AM Bool}(h:Seen ae m){k:Int}(hk:k∉jD m)(hf:(find ae k).isSome=true):Seen ae (lR m k true)/\jD (lR m k true)=jD m++[k]:=by
 rw[IM m k true hk];have e:jD (m++[(k,true)])=jD m++[k]:=by simp[jD]
 refine⟨⟨?_,fun p hp=>?_,fun x hx=>?_⟩,e⟩
 ·rw[e];refine List.nodup_append.2 ⟨h.nd,by simp,fun a ha b hb=>?_⟩
  rw[bM.1 hb];rintro rfl; exact hk ha
 ·rcases bm.1 hp with hp|hp
  ·exact h.tr p hp
  ·rw[bM.1 hp]
 ·rw[e] at hx;rcases bm.1 hx with hx|hx
  ·exact h.inn x hx
  ·rw[bM.1 hx]; exact hf
def aao{t:Tree}{cE:Int->Nat}(h:cr t cE 0)(i:Int):Wd t.ae i<=4096:=by
 unfold Wd aX;cases hi:find t.ae i with
 |none=>simp[Node.zero]
 |some n =>
  rcases h.kind _ _ hi with h1|h1
  ·exact(h.file _ _ hi h1).2.2
  ·simp[h.dir _ _ hi h1]
def MX{t:Tree}{cE:Int->Nat}(h:cr t cE 0):∀l:List Int,xu t.ae l<=4096*l.length
 | []=>by simp[xu]
 |i::l=>by
  have h1:=aao h i;have h2:=MX h l;simp only[xu,aP,mX,au] at h2 ⊢;omega
def Seen.len{t:Tree}{cE:Int->Nat}(h:cr t cE 0){m:AM Bool}(hs:Seen t.ae m):(jD m).length<=200:=by
 have:=zY (jD m) (t.ae.map Node.an) hs.nd (fun x hx=>by
  obtain⟨n,hn⟩:=ct.1 (hs.inn x hx);exact dj.2 ⟨n,(bP hn).1,(bP hn).2⟩)
 have h2:=h.ae;simp at this; omega
structure Fol(ae:List Node)(r i:Int)(l:List fp)(s s':Int×AM Bool):Prop where
 seen:Seen ae s'.2
 sum:s'.1=(Wd ae r:Int)+xu ae (jD s'.2)
 sub:∀x,x∈jD s.2->x∈jD s'.2
 all:∀e,e∈l->e.an∈jD s'.2
 new:∀x,x∈jD s'.2->x∈jD s.2\/((∀e,e∈(aX ae x).aM->e.an∈jD s'.2)/\Rch ae i x)
def H4{t:Tree}{cE:Int->Nat}(h:cr t cE 0)(r:Int):∀(f:Nat)(an:Int)(s:Int×AM Bool),(∀n,find t.ae an=some n->n.kind=2->13<f+cE an)->0<f ->
  Seen t.ae s.2->s.1+Wd t.ae an=(Wd t.ae r:Int)+xu t.ae (jD s.2)->Fol t.ae r an (aX t.ae an).aM s (lO t.ae f an s):=by
 intro f;induction f with
 |zero=>intro _ _ _ h0; omega
 |succ f ih =>
  intro an s hd _ hs hq
  have key:∀(l:List fp)(u:Int×AM Bool),(∀e,e∈l->e∈(aX t.ae an).aM)->Seen t.ae u.2->u.1=(Wd t.ae r:Int)+xu t.ae (jD u.2) ->
    Fol t.ae r an l u (l.foldl (fun s e=>if !((dx s.2 e.an).getD false) then lO t.ae f e.an (s.1,lR s.2 e.an true) else s) u):=by
   intro l;induction l with
   |nil=>intro u _ h1 h2; exact⟨h1,h2,fun x hx=>hx,fun e he=>(by cases he),fun x hx => .inl hx⟩
   |cons e l ihl =>
    intro u hl h1 h2;rw[dZ];have he:=hl e aV
    by_cases hk:e.an∈jD u.2
    ·rw[aH (by rw[(h1.get _).2 hk]; simp)]
     have g:=ihl u (fun x hx=>hl x (aO _ hx)) h1 h2
     refine⟨g.seen,g.sum,g.sub,fun x hx=>?_,g.new⟩
     rcases bC.1 hx with rfl|hx
     ·exact g.sub _ hk
     ·exact g.all x hx
    ·have hb:(dx u.2 e.an).getD false=false:=by
      cases hc:(dx u.2 e.an).getD false with
      |false=>rfl
      |true=>exact absurd ((h1.get _).1 hc) hk
     rw[hb,bc (show(!false)=true from rfl)]
     obtain⟨n,hi⟩:∃n,find t.ae an=some n:=by
      cases hi:find t.ae an with
      |none=>simp[aX,hi,Node.zero] at he
      |some n=>exact⟨n,rfl⟩
     have he':e∈n.aM:=by simpa[aX,hi] using he
     have hk2:n.kind=2:=by
      rcases h.kind _ _ hi with h3|h3
      ·rw[(h.file _ _ hi h3).1] at he'; cases he'
      ·exact h3
     obtain⟨_,_,e1,_,m,hm,hu⟩:=h.Au _ _ _ hi he';obtain⟨p1,p2⟩:=h1.put hk (by rw[hm]; rfl)
     have hsum:xu t.ae (jD (lR u.2 e.an true))=xu t.ae (jD u.2)+Wd t.ae e.an:=by rw[p2]; simp[xu]
     have g1:=ih e.an (u.1,lR u.2 e.an true) (fun n' hn' hk'=>by
      rw[hm] at hn'; cases hn';have h3:=(h.oZ _ _ hm hk' e1).1;have h4:=hd n hi hk2;rw[hu hk'] at h3;omega) (by
      have h4:=hd n hi hk2;have h5:=(h.deep _ _ hi hk2).1;omega) p1 (by simp only; rw[hsum,h2]; omega)
     have g2:=ihl _ (fun x hx=>hl x (aO _ hx)) g1.seen g1.sum
     have hin:e.an∈jD (lR u.2 e.an true):=by rw[p2]; simp
     refine⟨g2.seen,g2.sum,fun x hx=>g2.sub _ (g1.sub _ (by simp only; rw[p2]; simp[hx])),fun x hx=>?_,fun x hx=>?_⟩
     ·rcases bC.1 hx with rfl|hx
      ·exact g2.sub _ (g1.sub _ hin)
      ·exact g2.all x hx
     ·rcases g2.new x hx with hx|hx
      ·rcases g1.new x hx with hx|⟨hx,hr⟩
       ·simp only at hx;rw[p2] at hx;rcases bm.1 hx with hx|hx
        ·exact .inl hx
        ·rw[bM.1 hx];exact .inr ⟨fun e' he'=>g2.sub _ (g1.all e' he'),.one he⟩
       ·exact .inr ⟨fun e' he'=>g2.sub _ (hx e' he'),.step he hr⟩
      ·exact .inr hx
  have hw:kR (s.1+(aX t.ae an).data.length)=s.1+Wd t.ae an:=by
   have h1:=aao h r;have h2:=MX h (jD s.2);have h3:=hs.len h;have hW:((aX t.ae an).data.length:Int)=(Wd t.ae an:Int):=rfl;rw[hW];exact gn (by omega) (by omega)
  have g:=key (aX t.ae an).aM (s.1+Wd t.ae an,s.2) (fun _ h=>h) hs hq
  rw[lO,hw];exact⟨g.seen,g.sum,g.sub,g.all,g.new⟩
def We(ae:List Node)(an x:Int):Prop:=∃d e,d∈ae/\d.kind=2/\gR ae d.an an=true/\e∈d.aM/\e.an=x
def agy{t:Tree}{cE:Int->Nat}(h:cr t cE 0){an:Int}:∀ {i x:Int},Rch t.ae i x->(∃d,find t.ae i=some d/\(d.kind=2->gR t.ae i an=true))->We t.ae an x:=by
 intro i x hr;induction hr with
 |one he =>
  rintro⟨d,hd,hb⟩;rename_i i e;have he':e∈d.aM:=by simpa[aX,hd] using he
  have hk:d.kind=2:=by
   rcases h.kind _ _ hd with h3|h3
   ·rw[(h.file _ _ hd h3).1] at he'; cases he'
   ·exact h3
  exact⟨d,e,(bP hd).1,hk,by rw[(bP hd).2]; exact hb hk,he',rfl⟩
 |step he _ ih =>
  rintro⟨d,hd,hb⟩;rename_i i x e _;have he':e∈d.aM:=by simpa[aX,hd] using he
  have hk:d.kind=2:=by
   rcases h.kind _ _ hd with h3|h3
   ·rw[(h.file _ _ hd h3).1] at he'; cases he'
   ·exact h3
  obtain⟨_,_,e1,_,m,hm,hu⟩:=h.Au _ _ _ hd he';refine ih ⟨m,hm,fun hk'=>?_⟩
  by_cases ho:e.an=an
  ·rw[ho]; exact cr.iY an
  ·rw[h.oX hm hk' e1 ho,hu hk'];exact hb hk
def Al{t:Tree}{cE:Int->Nat}(h:cr t cE 0){an:Int}{d:Node}(hd:find t.ae an=some d)(hk:d.kind=2) :
  ∃K:List Int,K.Nodup/\(∀x,x∈K↔We t.ae an x)/\(∀x,x∈K->(find t.ae x).isSome=true)/\jU t.ae an=((K.length:Int),(xu t.ae K:Int)):=by
 have g:=H4 h an 14 an (0,[]) (fun n hn hk=>by omega) (by omega) ⟨by simp[jD],fun p hp=>(by cases hp),fun k hk=>(by simp[jD] at hk)⟩ (by simp[jD,xu])
 have hu:jU t.ae an=(((lO t.ae 14 an (0,[])).2.length:Int),(lO t.ae 14 an (0,[])).1):=by
  unfold jU;rw[bc (by simp[aX,hd,hk])]
 generalize lO t.ae 14 an (0,[])=s' at g hu;have w0:Wd t.ae an=0:=by simp[Wd,aX,hd,h.dir _ _ hd hk]
 have cl:∀x,x∈jD s'.2->∀e,e∈(aX t.ae x).aM->e.an∈jD s'.2:=fun x hx=>by
  rcases g.new x hx with h1|h1
  ·simp[jD] at h1
  ·exact h1.1
 refine⟨jD s'.2,g.seen.nd,fun x=>⟨fun hx=>?_,fun hx=>?_⟩,g.seen.inn,?_⟩
 ·rcases g.new x hx with h1|h1
  ·simp[jD] at h1
  ·exact agy h h1.2 ⟨d,hd,fun _=>cr.iY an⟩
 ·obtain⟨p,e,hp,hpk,hb,he,rfl⟩:=hx
  have key:∀(m:Nat)(i:Int)(n:Node),find t.ae i=some n->n.kind=2->cE i=m->gR t.ae i an=true->∀e,e∈n.aM->e.an∈jD s'.2:=by
   intro m;induction m with
   |zero =>
    intro i n hi hnk hm hb e he
    by_cases ho:i=an
    ·subst ho;exact g.all e (by simpa[aX,hi] using he)
    ·by_cases h1:i=1
     ·subst h1;rw[cr.nK (fun hh=>ho hh.symm)] at hb; cases hb
     ·have:=(h.oZ _ _ hi hnk h1).1; omega
   |succ m ihm =>
    intro i n hi hnk hm hb e he
    by_cases ho:i=an
    ·subst ho;exact g.all e (by simpa[aX,hi] using he)
    ·have h1:i≠1:=fun hh=>by subst hh; have:=h.zB; omega
     rw[h.oX hi hnk h1 ho] at hb;obtain⟨a,q,hq,hqk⟩:=h.oZ _ _ hi hnk h1;obtain⟨p,e',p1,p2,p3,p4⟩:=h.named hi hnk h1 (by have:=(h.num _ _ hi).1; omega)
     have:=ihm n.up p p1 p2 (by omega) hb e' p3
     rw[p4] at this;exact cl i this e (by simpa[aX,hi] using he)
  have hpf:find t.ae p.an=some p:=(fC h.jo.jv).2 ⟨hp,rfl⟩;exact key _ _ p hpf hpk rfl hb e he
 ·rw[hu,g.sum,w0];simp[jD]
def Mz(e:Int)(ae:List Node)(met:List Bool):List Bool:=List.zipWith (fun n b=>b||n.an==e) ae met
def UI(ae:List Node)(an:Int)(met:List Bool)(d:Node):List Bool:=if d.kind==2&&gR ae d.an an then d.aM.foldl (fun m e=>Mz e.an ae m) met else met
def rO(ae:List Node)(an:Int):List Bool:=ae.foldl (UI ae an) (ae.map fun _=>false)
def NN(met:List Bool):Nat:=met.countP id
def G9(ae:List Node)(met:List Bool):Nat:=((ae.zip met).map fun p=>if p.2 then p.1.data.length else 0).sum
def Fs(e:Int)(p:Node->Bool):∀l:List Node,Mz e l (l.map p)=l.map fun n=>p n||n.an==e
 | []=>rfl
 |n::l=>by
  have:=Fs e p l;simp only[Mz,aP,List.zipWith_cons_cons] at this ⊢;rw[this]
def DB(ae:List Node):∀(l:List fp)(p:Node->Bool),l.foldl (fun m e=>Mz e.an ae m) (ae.map p)=ae.map fun n=>p n||l.any fun e=>n.an==e.an
 | [],p=>by simp
 |e::l,p=>by
  rw[dZ,Fs,DB ae l];simp only[lr,Bool.or_assoc]
def yG(ae:List Node)(an:Int):∀(l:List Node)(p:Node->Bool),∃q:Node->Bool,l.foldl (UI ae an) (ae.map p)=ae.map q /\
  ∀n,q n=true↔p n=true\/∃d e,d∈l/\d.kind=2/\gR ae d.an an=true/\e∈d.aM/\e.an=n.an
 | [],p=>⟨p,rfl,fun n=>by simp⟩
 |d::l,p=>by
  rw[dZ,UI]
  by_cases hd:(d.kind==2&&gR ae d.an an)=true
  ·rw[bc hd,DB];obtain⟨q,h1,h2⟩:=yG ae an l fun n=>p n||d.aM.any fun e=>n.an==e.an
   refine⟨q,h1,fun n=>?_⟩
   rw[h2];rw[bn,eM] at hd;simp only[cN,gN,eM,bC];constructor
   ·rintro((h|⟨e,h3,h4⟩)|⟨d',e,h3,h4⟩)
    ·exact .inl h
    ·exact .inr ⟨d,e,.inl rfl,hd.1,hd.2,h3,h4.symm⟩
    ·exact .inr ⟨d',e,.inr h3,h4⟩
   ·rintro(h|⟨d',e,rfl|h3,h4,h5,h6,h7⟩)
    ·exact .inl (.inl h)
    ·exact .inl (.inr ⟨e,h6,h7.symm⟩)
    ·exact .inr ⟨d',e,h3,h4,h5,h6,h7⟩
  ·rw[aH hd];obtain⟨q,h1,h2⟩:=yG ae an l p;refine⟨q,h1,fun n=>?_⟩
   rw[h2];rw[bn,eM] at hd;simp only[bC];constructor
   ·rintro(h|⟨d',e,h3,h4⟩)
    ·exact .inl h
    ·exact .inr ⟨d',e,.inr h3,h4⟩
   ·rintro(h|⟨d',e,rfl|h3,h4,h5,h6⟩)
    ·exact .inl h
    ·exact absurd ⟨h4,h5⟩ hd
    ·exact .inr ⟨d',e,h3,h4,h5,h6⟩
def wS(ae:List Node)(an:Int):∃q:Node->Bool,rO ae an=ae.map q/\∀n,q n=true↔We ae an n.an:=by
 obtain⟨q,h1,h2⟩:=yG ae an ae fun _=>false
 exact⟨q,h1,fun n=>by rw[h2]; simp[We]⟩
def CZ(q:Node->Bool):∀l:List Node,NN (l.map q)=(l.filter q).length
 | []=>rfl
 |n::l=>by
  have:=CZ q l;simp only[NN,aP,jV,eF,id] at this ⊢;split<;>simp[this]
def G4(q:Node->Bool):∀l:List Node,G9 l (l.map q)=((l.filter q).map fun n=>n.data.length).sum
 | []=>rfl
 |n::l=>by
  have:=G4 q l;simp only[G9,aP,List.zip_cons_cons,mX,eF] at this ⊢;rw[this];split<;>simp
def Gk{t:Tree}{cE:Int->Nat}(h:cr t cE 0){an:Int}{d:Node}(hd:find t.ae an=some d)(hk:d.kind=2) :
  jU t.ae an=((NN (rO t.ae an):Int),(G9 t.ae (rO t.ae an):Int)):=by
 obtain⟨K,k1,k2,k3,k4⟩:=Al h hd hk;obtain⟨q,q1,q2⟩:=wS t.ae an;have hasc:=h.jo.jv
 have hp:K.Perm ((t.ae.filter q).map Node.an):=by
  refine(List.perm_ext_iff_of_nodup k1 ?_).2 fun x=>?_
  ·have:((t.ae.filter q).map Node.an).Pairwise (· < ·):=iC.2 (jt _ hasc)
   exact this.imp fun h=>by omega
  ·rw[k2];constructor
   ·intro hx;obtain⟨n,hn⟩:=ct.1 (k3 x ((k2 x).2 hx));refine dj.2 ⟨n,cm.2 ⟨(bP hn).1,(q2 n).2 ?_⟩,(bP hn).2⟩;rw[(bP hn).2]; exact hx
   ·intro hx;obtain⟨n,hn,rfl⟩:=dj.1 hx;exact(q2 n).1 (cm.1 hn).2
 rw[k4,q1,CZ,G4];have h1:K.length=(t.ae.filter q).length:=by rw[hp.length_eq,fH]
 have h2:xu t.ae K=((t.ae.filter q).map fun n=>n.data.length).sum:=by
  unfold xu;rw[(hp.map (Wd t.ae)).sum_nat,jX];congr 1;refine dH fun n hn=>?_
  have:find t.ae n.an=some n:=(fC hasc).2 ⟨(cm.1 hn).1,rfl⟩;simp[Wd,aX,this]
 rw[h1,h2]
end Go.Proofs.YtahkjijkflobhaaGreatDoor
