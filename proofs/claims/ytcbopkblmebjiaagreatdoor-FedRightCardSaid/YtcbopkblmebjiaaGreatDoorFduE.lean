import Derived.Test.YtcbopkblmebjiaaGreatDoorFduD
set_option linter.unusedSimpArgs false
set_option linter.unusedVariables false
set_option linter.unusedSectionVars false
set_option linter.defProp false
open Go.Proofs.Tryz
namespace Go.Proofs.YtcbopkblmebjiaaGreatDoor
open Go Go.Abs
def cq.DC{t:Tree}{cg:Int->Nat}{x:Int}(h:cq t cg x){i:Int}{n:Node}(hi:find t.ae i=some n)(hk:n.kind=2):sf t.ae i=cg i:=by
 simp only[sf,h.sv hi hk]; omega
def cq.OL{t:Tree}{cg:Int->Nat}{x:Int}(h:cq t cg x)(of:Int):∀(m:Nat)(i:Int)(out:List Int)(n:Node),find t.ae i=some n->n.kind=2->cg i<=m->out.contains i=true->(rB t.ae m i out).contains of=(out.contains of||mn t.ae of (m+1) i):=by
 intro m;induction m with
 |zero =>
  intro i out n hi hk hd ho;simp only[rB,mn]
  by_cases h1:i=of
  ·subst h1; rw[ho]; rfl
  ·simp[h1]
 |succ m ih =>
  intro i out n hi hk hd ho;simp only[rB];rw[mn]
  by_cases h1:i=1
  ·by_cases h2:i=of
   ·subst h2; simp[h1] at ho ⊢; exact ho
   ·simp[h1,h2];intro h3; exact absurd (h1.trans h3) h2
  ·obtain⟨a,p,b,c⟩:=h.sH _ _ hi hk h1;simp only[gj,ne_eq,h1,mj,↓reduceIte,bE,hi,df,cX,bA,hk,an,dI,af];rw[ih _ _ p b c (by omega) (by simp),h.Uo hi]
   by_cases h2:i=of
   ·subst h2;have:(out++[n.up]).contains i=true:=by simp at ho ⊢; exact .inl ho
    rw[this,ho]; simp
   ·rw[ak h2]
    by_cases h3:n.up=of
    ·have:mn t.ae of (m+1) n.up=true:=by simp[mn,h3]
     rw[this]; simp
    ·have:(out++[n.up]).contains of=out.contains of:=by
      simp;intro hh; exact absurd hh.symm h3
     rw[this]
def cq.x5{t:Tree}{cg:Int->Nat}{x:Int}(h:cq t cg x)(of:Int){i:Int}{n:Node}(hi:find t.ae i=some n)(hk:n.kind=2):(rX t.ae i).contains of=iV t.ae i of:=by
 have:=h.OL of t.ae.length i [i] n hi hk (by have:=h.ym hi hk; omega) (by simp)
 simp only[rX,this,iV]
 by_cases h2:i=of
 ·subst h2; simp[mn]
 ·have:([i]:List Int).contains of=false:=by simp; exact fun hh=>h2 hh.symm
  rw[this]; rfl
def cq.under{t:Tree}{cg:Int->Nat}(h:cq t cg 0){to:Int}{nm:Bytes}{dT:Node}(hT:find t.ae to=some dT):(lz t.ae dT.aN nm).au=ec dT.aN nm:=by
 unfold lz ec;cases he:eb dT.aN nm with
 |none=>rfl
 |some e =>
  obtain⟨_,_,_,_,m,hm,_⟩:=h.wF _ _ e hT (eB he).1;simp[bE,hm,(cj hm).2]
def S5{t:Tree}{cg:Int->Nat}(h:cq t cg 0)(dir:Int)(s:Bytes):oO t dir s=mw t dir s:=by
 unfold oO mw
 by_cases h0:(gA t.ae dir).2=0
 ·obtain⟨d,d1,d2,d3⟩:=yn h0
  have hf:CN t d=(decide ((64:Int)<=d.aN.length)||(decide ((12:Int)<=sf t.ae dir)||decide ((1099511627776:Int)<=t.ai))):=by
   unfold CN;rw[(cj d1).2,h.pH d1 d2,h.DC d1 d2]
  simp only[d3,hf,an,af,↓reduceIte,ne_eq,not_true_eq_false];cases dE s<;>simp
 ·rw[az (by simpa using h0),az h0]
def US{t:Tree}{cg:Int->Nat}(h:cq t cg 0)(dir:Int)(s:Bytes)(kind:Int):Jy t dir s kind=nu t dir s kind:=by
 unfold Jy nu;rw[S5 h]
def acN{t:Tree}{cg:Int->Nat}(h:cq t cg 0)(au dir:Int)(s:Bytes):lnW t au dir s=BG t au dir s:=by
 unfold lnW BG;rw[S5 h]
def BA{ae:List Node}{x:Int}{m:Node}(hx:find ae x=some m):j7 ae m=gm ae x:=by
 unfold j7 gm;simp only[bE,hx,bA,(cj hx).2]
def adA{t:Tree}{cg:Int->Nat}(h:cq t cg 0)(dir:Int)(s:Bytes):ZC t dir s=vJ t dir s:=by
 unfold ZC vJ;split
 ·rfl
 ·rename_i hl;obtain⟨d,e,d1,d2,d3,d4,d5⟩:=look_ok (by simpa using hl)
  simp only[d5];obtain⟨_,_,_,_,m,hm,_⟩:=h.wF _ _ e d1 (eB d4).1
  have hm':find (dx t.ae dir s) e.au=some m:=by
   rw[iW h.jE.jx d1,ak (h.vA d1 (eB d4).1)]; exact hm
  have hn:bE t.ae e.au=m:=by simp[bE,hm]
  rw[hn,BA hm']
def Ek(ae:List Node)(au at' d:Int)(b:Int):∀(l:List Node)(most:Int),b<vD ae au at' d l most->b<most\/∃n,n∈l/\(n.kind==2&&iV ae n.au au)=true/\b<uA ae at' d n
 | [],most,h => .inl h
 |m::l,most,h=>by
  rw[vD] at h;rcases Ek ae au at' d b l _ h with h1|⟨n,h1,h2,h3⟩
  ·have e:sr ae au at' d m most=if m.kind==2&&iV ae m.au au then (if uA ae at' d m>most then uA ae at' d m else most) else most:=rfl
   rw[e] at h1;split at h1
   ·rename_i hb;split at h1
    ·exact .inr ⟨m,aD,hb,h1⟩
    ·exact .inl h1
   ·exact .inl h1
  ·exact .inr ⟨n,aP _ h1,h2,h3⟩
def cq.Vd{t:Tree}{cg:Int->Nat}(h:cq t cg 0){x to:Int}{m:Node}(hx:find t.ae x=some m)(hk:m.kind=2)(hd:cg to<12) :
  Ho t.ae x (((cg to+1:Nat):Int))=decide ((12:Int)<Bh t.ae x (((cg to+1:Nat):Int))):=by
 have key:∀n,n∈t.ae->tH t.ae (((cg to+1:Nat):Int)) ((cg x:Nat):Int) x n=((n.kind==2&&iV t.ae n.au x)&&decide ((12:Int)<uA t.ae (((cg to+1:Nat):Int)) ((cg x:Nat):Int) n)):=by
  intro n hn;have hi:find t.ae n.au=some n:=(fy h.jE.jx).2 ⟨hn,rfl⟩;unfold tH
  by_cases hk2:n.kind=2
  ·rw[h.x5 x hi hk2,h.sv hi hk2]
   by_cases hb:iV t.ae n.au x=true
   ·rw[h.Ej hx hk hd hi hk2 hb];have d1:=(h.deep _ _ hi hk2).1;have d2:=(h.deep _ _ hx hk).1;have d3:=h.zU _ _ n hi hk2 rfl hb;have w1:mM ((((cg to+1:Nat):Int))+((cg n.au+1:Nat):Int))=(((cg to+1:Nat):Int))+((cg n.au+1:Nat):Int):=gD (by omega) (by omega)
    have w2:mM ((((cg to+1:Nat):Int))+((cg n.au+1:Nat):Int)-1)=(((cg to+1:Nat):Int))+((cg n.au+1:Nat):Int)-1:=gD (by omega) (by omega)
    have w3:mM ((((cg to+1:Nat):Int))+((cg n.au+1:Nat):Int)-1-(cg x:Nat))=(((cg to+1:Nat):Int))+((cg n.au+1:Nat):Int)-1-(cg x:Nat):=gD (by omega) (by omega)
    rw[w1,w2,w3];unfold rq;rw[az hb,hb];simp only[hk2,eu,bQ];rw[eh];simp only[cN,bn,bu,dR];split<;>omega
   ·have:iV t.ae n.au x=false:=by simpa using hb
    simp[this]
  ·have:(n.kind==2)=false:=by simpa using hk2
   simp[this]
 have hdx:(sf t.ae x:Int)=((cg x:Nat):Int):=by rw[h.DC hx hk]
 unfold Ho Bh;rw[h.pH hx hk,hdx];rw[eh];simp only[List.any_eq_true,bu];constructor
 ·rintro⟨n,hn,hp⟩;rw[key n hn] at hp;simp only[bn,bu] at hp;have:=(Ai t.ae x (((cg to+1:Nat):Int)) ((cg x:Nat):Int) t.ae 0).2 n hn (by simp[hp.1.1,hp.1.2])
  omega
 ·intro hh;rcases Ek t.ae x _ _ 12 t.ae 0 hh with h1|⟨n,h1,h2,h3⟩
  ·omega
  ·exact⟨n,h1,by rw[key n h1,h2]; simpa using h3⟩
def acV{t:Tree}{cg:Int->Nat}(h:cq t cg 0)(f:Int)(s:Bytes)(to:Int)(nm:Bytes):Mg t f s to nm=wg t f s to nm:=by
 unfold Mg wg;split
 ·rfl
 rename_i c1;split
 ·rfl
 rename_i c2;split
 ·rfl
 obtain⟨dF,e,e1,e2,e3,e4,e5⟩:=look_ok (by simpa using c1)
 obtain⟨dT,g1,g2,g3⟩:=yn (show(gA t.ae to).2=0 by simpa using c2)
 have hem:=(eB e4).1;obtain⟨_,_,x1,_,m,hm,hup⟩:=h.wF _ _ e e1 hem;have hnode:bE t.ae e.au=m:=by simp[bE,hm]
 simp only[e5,g3,hnode,h.under g1,h.x5 e.au g1 g2];split
 ·rfl
 rename_i c4;split
 ·rfl
 rename_i c5;have hup':ec dT.aN nm≠e.au:=by simpa using c4
 have hnf:=h.vA e1 hem
 have hne:e.au≠to:=fun hh=>by
  rw[hh,g1] at hm; cases hm;simp only[g2,eu,bQ] at c5;rw[hh,cq.rG] at c5;exact c5 rfl
 have hmany:∀there:Bool,(ec dT.aN nm==0) = !there->C6 t f to dT.aN there m.kind e.au=manyN t f to dT.aN m.kind (ec dT.aN nm) e.au:=by
  intro there hth;unfold C6 manyN;rw[hth,h.sv g1 g2,h.pH g1 g2]
  by_cases hd:cg to<12
  ·have hw:mM (((cg to:Nat):Int)+1)=((cg to+1:Nat):Int):=by
    rw[show(((cg to:Nat):Int)+1)=((cg to+1:Nat):Int) by omega]
    exact gD (by omega) (by omega)
   rw[hw]
   have hdd:decide ((12:Int)<((cg to+1:Nat):Int))=decide ((12:Int)<=((cg to:Nat):Int)):=by
    rw[decide_eq_decide]; omega
   rw[hdd];rcases h.kind _ _ hm with hk|hk
   ·simp[hk]
   ·rw[h.Vd hm hk hd]
  ·have h1:decide ((12:Int)<((cg to+1:Nat):Int))=true:=by rw[bu]; omega
   have h2:decide ((12:Int)<=((cg to:Nat):Int))=true:=by rw[bu]; omega
   rw[h1,h2]; simp
 cases hfr:eb dT.aN nm with
 |none =>
  have hu:ec dT.aN nm=0:=by simp[ec,hfr]
  have hm1:=hmany false (by rw[hu]; rfl)
  rw[hu] at hm1 ⊢;have hcl:sF t.ae m.kind 0=0:=by simp[sF,h.zero]
  simp only[iZ,cf,af,↓reduceIte,hcl,an,hm1];split
  ·rfl
  ·unfold xZ nZ;simp only[hnode,af,↓reduceIte,an]
 |some e2 =>
  have hu:ec dT.aN nm=e2.au:=by simp[ec,hfr]
  obtain⟨_,_,_,_,y,hy,_⟩:=h.wF _ _ e2 g1 (eB hfr).1;have hny:bE t.ae e2.au=y:=by simp[bE,hy]
  have hto:=h.vA g1 (eB hfr).1;have hy0:=(h.num _ _ hy).1;have hm1:=hmany true (by rw[hu]; simp; omega)
  have hnu:lz t.ae dT.aN nm=y:=by simp[lz,hfr,hny]
  rw[hu] at hm1 ⊢
  have hcl:sF t.ae m.kind e2.au=zp m y:=by
   unfold sF zp;simp only[hy,df,cX,af,↓reduceIte,hny]
  rw[hnu,hcl];simp only[df,bQ,hm1];split
  ·rfl
  rename_i c6;split
  ·rfl
  have hy00:y.aN=[]:=by
   have:zp m y=0:=by simpa using c6
   unfold zp at this;split at this
   ·cases this
   split at this
   ·cases this
   split at this
   ·cases this
   ·rename_i k3; exact ct.1 (by simpa using k3)
  have hnf2:e2.au≠f:=fun hh=>by
   rw[hh,e1] at hy; cases hy;rw[hy00] at hem; cases hem
  have hyl:find (dx (dx t.ae f s) to nm) e2.au=some y:=by
   have f1:=iW h.jE.jx e1 (s:=s);obtain⟨dT',hT'⟩:∃dT',find (dx t.ae f s) to=some dT':=by rw[f1]; split<;>simp_all
   rw[iW (lx h.jE.jx f s) hT',ak hto,f1,ak hnf2];exact hy
  have hb:(e2.au != 0)=true:=by simp; omega
  unfold xZ nZ;simp only[hnode,↓reduceIte,hb,BA hyl]
def U6{C:eO}{f p:Nat}{x:eD}{r:ag}{M:aL}{z:Int}(hM:nth M p=some (cm [aG z]))(h:C f [.agg (ew x),cL 0] [cm [aG z]]=some (r,[cm [aG z]]))(h3:r.wJ=true)(h5:r.BI (xk [p])=r) :
  aM C f [.agg (ew x),cL p] M=some (r,M):=by
 have hids:[ag.agg (ew x),cL p].flatMap ag.ids=[p]:=rfl;have hi:sQ M [p]=[]:=by simp[sQ,hM,cD.ids,ag.mQ,ag.ia]
 have e0:lX M [p]=[p]:=by simp[lX,hi,lV]
 have e1:reach M [p]=[p]:=by
  have ea:lV [] [p]=[p]:=rfl;simp only[reach,ea,e0]
 have hfl:[ag.agg (ew x),cL p].all ag.flat=true:=rfl;unfold aM;rw[az hfl,hids,e1];have hpk:kh M (iH [p]) [p]=some [cm [aG z]]:=by simp[kh,hM,cD.flat,cD.ry,ag.td,ag.tZ,ag.vT,ag.Ed]
 rw[hpk];simp only[cd];rw[az e0]
 have hrn:[ag.agg (ew x),cL p].map (ag.ry (iH [p]))=[ag.agg (ew x),cL 0]:=by
  simp[ag.ry,ag.td,ag.tZ,iH,ew]
 rw[hrn,h];simp only[cd];rw[az ⟨by trivial,h3,rfl⟩,h5]
 have hs:mF [p] M [p] [cm [aG z]]=M:=by
  simp only[mF,cD.ry,aW,bp,ag.td,ag.tZ];exact uu hM
 rw[hs]
def ahW(xs:List ag)(z:Int):kh [.arr 3 0 xs,cm [aG z]] (iH [0,1]) [0,1]=some [.arr 3 0 xs,cm [aG z]]:=rfl
section
attribute [local irreducible] fS fp kH gK dv kr aq aM cv bJ
def akm(e:eD)(z:Int):aq c9 219 [gk e,cL 0] [cm [aG z]]=some (.bool (decide (e.ai<z)),[cm [aG z]]):=by
 refine aJ ?_;simp only[YM,aiV,gk,ew,EN,seval]
def ahc(e:eD)(z:Int)(p:Nat)(M:aL)(hM:nth M p=some (cm [aG z])):aM (aq c9) 219 [.agg (ew e),cL p] M=some (.bool (decide (e.ai<z)),M) :=
 U6 hM (akm e z) rfl rfl
def Ak(z:Int):List eD->Nat->Int
 | [],_ => -1
 |e::r,i=>if decide (e.ai<z) then (i:Int) else Ak z r (i+1)
def WC{xs:List eD}{z:Int}(hn:xs.length<=100000){k:List K}{R:Int->Option (ag×aL)}
  (hx:∀e,kr (aq c9) [.tmp 4] 2 k ⟨.exit 0,e,[.arr 3 0 (xs.map gk),cm [aG z]]⟩=R (-1)) (hr:∀(i:Nat),kr (aq c9) [.tmp 4] 2 k ⟨.ret,[(4,aG i)],[.arr 3 0 (xs.map gk),cm [aG z]]⟩=R i) :
  ∀(l pre:List eD),xs=pre++l->fS (aq c9) [.tmp 4] 2 k (.loop [0,1,7,8] Wc) [(0,.dk 0 0 3 0 xs.length),(1,.func 219 [cL 1]),(7,aG xs.length),(8,aG pre.length)] [.arr 3 0 (xs.map gk),cm [aG z]]=R (Ak z l pre.length):=by
 intro l;induction l with
 |nil =>
  intro pre h;rw[bZ];simp only[FP,oy h,EN,seval];exact hx _
 |cons n rest ih =>
  intro pre h;rw[bZ];have eY:pre.length+1<=100000:=by rw[h] at hn; simp at hn; omega
  have hw:=GI pre n;have hi:=ih (pre++[n]) (by rw[h]; simp)
  simp only[aK,av,aH] at hi;have q59:=fun e=>ahc e z 1 [.arr 3 0 (xs.map gk),cm [aG z]] rfl
  have cu:((pre.length:Int)<((xs.length-0:Nat):Int))=True:=by simp only[fi,jQ]; rw[h]; simp; omega
  rw[Ak];simp only[FP,mR h,ji h,tkE,shE,q59,cu,EN,seval];refine bL (fun hb=>?_) (fun hb=>?_)
  ·simp only[FP,hb,EN,seval];exact hr _
  ·simp only[FP,hb,hw,af,EN,seval];exact hi
def aky(xs:List eD)(z:Int)(hn:xs.length<=100000):aq c9 246 [.dk 0 0 3 0 xs.length,.func 219 [cL 1]] [.arr 3 0 (xs.map gk),cm [aG z]]=some (aG (Ak z xs 0),[.arr 3 0 (xs.map gk),cm [aG z]]):=by
 refine aJ ?_;simp only[Qm,FP,bV,EN,seval];exact WC (R:=fun i=>some (aG i,[.arr 3 0 (xs.map gk),cm [aG z]])) hn (fun e=>by simp only[FP,EN,seval]) (fun i=>by simp only[FP,EN,seval]) xs [] rfl
def alD(xs:List eD)(z:Int)(hn:xs.length<=100000):aM (aq c9) 246 [.dk 0 0 3 0 xs.length,.func 219 [cL 1]] [.arr 3 0 (xs.map gk),cm [aG z]]=some (aG (Ak z xs 0),[.arr 3 0 (xs.map gk),cm [aG z]]) :=
 lP (ids:=[0,1]) rfl rfl (ahW ..) rfl rfl (aky xs z hn) rfl rfl rfl rfl rfl
def jh(z:Int)(l:List eD):List eD:=l.filter fun e => !decide (e.ai<z)
def yA(z:Int)(x:eD)(l:List eD):jh z (x::l)=if decide (x.ai<z) then jh z l else x::jh z l:=by
 unfold jh;rw[ib];cases decide (x.ai<z)<;>rfl
def T8(xs:List eD)(b:Nat)(o n:eD)(h:xs[b]?=some o):(j6 (xs.map gk) b (putCells (gk o) 0 (ew n)))=(xs.set b n).map gk:=by
 have:putCells (gk o) 0 (ew n)=gk n:=rfl;rw[this,fQ,kW]
def adi(x:eD):(ew x).all ag.plainCell=true:=rfl
def WA{z:Int}{N:Nat}(hN:N<=100000){k:List K}{R:List eD->Nat->Option (ag×aL)}
  (hx:∀(A G:List eD) v q,A.length+G.length=N->G≠[]->kr (aq c9) [.tmp 4] 2 k ⟨.exit 0,[(0,.dk 0 0 3 0 N),(1,.func 219 [cL 1]),(5,aG A.length),(6,v),(19,q)],[.arr 3 0 ((A++G).map gk),cm [aG z]]⟩=R A G.length) :
  ∀(T A G:List eD),A.length+G.length+T.length=N->G≠[]->fS (aq c9) [.tmp 4] 2 k (.loop [0,1,5,6] Wb) [(0,.dk 0 0 3 0 N),(1,.func 219 [cL 1]),(5,aG A.length),(6,aG ((A.length+G.length:Nat):Int))] [.arr 3 0 ((A++G++T).map gk),cm [aG z]]=R (A++jh z T) (N-(A++jh z T).length):=by
 intro T;induction T with
 |nil =>
  intro A G hl hg;have cu:(((A.length+G.length:Nat):Int)<((N-0:Nat):Int))=False:=by simp only[fi,mh]; simp at hl ⊢; omega
  have hk:jh z []=[]:=rfl;have hgl:N-(A++jh z []).length=G.length:=by rw[hk]; simp at hl ⊢; omega
  rw[hgl,hk,bW,bW];rw[bZ];simp only[FO,cu,EN,seval];exact hx A G _ _ (by simpa using hl) hg
 |cons x T ih =>
  intro A G hl hg;simp only[av] at hl;have cu:(((A.length+G.length:Nat):Int)<((N-0:Nat):Int))=True:=AE;have hnn:((0:Int)<=((A.length+G.length:Nat):Int))=True:=AE
  have hat:(A++G++x::T)[A.length+G.length]?=some x:=by
   rw[br (by simp)]; simp
  have hw:IntKind.i64.wrap (((A.length+G.length:Nat):Int)+1)=((A.length+G.length+1:Nat):Int):=by rw[gD (by omega) (by omega)]; omega
  have hw1:IntKind.i64.wrap ((A.length:Int)+1)=((A.length+1:Nat):Int):=by rw[gD (by omega) (by omega)]; omega
  have q59:=fun e a b M=>ahc e z 1 (a :: cm [aG z]::b::M) rfl
  obtain⟨g,G',hG⟩:=ft hg;have hga:(A++G++x::T)[A.length]?=some g:=by rw[hG]; simp
  have hset:(A++G++x::T).set A.length x=(A++[x])++(G'++[x])++T:=by rw[hG]; simp
  have hlt2:((A.length:Int)<((N-0:Nat):Int))=True:=AE;have h1:=ih (A++[x]) (G'++[x]) (by rw[hG] at hl; simp at hl ⊢; omega) (by simp)
  have h2:=ih A (G++[x]) (by simp; omega) (by simp)
  have hl1:(((A++[x]).length+(G'++[x]).length:Nat):Int)=((A.length+G.length+1:Nat):Int):=by rw[hG]; simp; omega
  have hl2:((A.length+(G++[x]).length:Nat):Int)=((A.length+G.length+1:Nat):Int):=by simp; omega
  have hl3:((A++[x]).length:Int)=((A.length+1:Nat):Int):=by simp
  have e2:A++(G++[x])++T=A++G++x::T:=by simp
  have e1:A++[x]++jh z T=A++x::jh z T:=by simp
  rw[hl1,hl3,e1] at h1;rw[hl2,e2] at h2;simp only[aK,av] at h1 h2;have hput:=T8 (A++G++x::T) A.length g x hga;rw[hset] at hput;rw[yA];rw[bZ];simp only[FO,cu,hnn,hat,tkE,shE,UT,q59,EN,seval];refine bL (fun hb=>?_) (fun hb=>?_)
  ·have hb':decide (x.ai<z)=false:=by simpa using hb
   simp only[FO,hb',hlt2,hga,hput,tkE,shE,adi,hw,hw1,af,EN,seval];exact h1
  ·have hb':decide (x.ai<z)=true:=by simpa using hb
   simp only[FO,hb',hw,EN,seval];exact h2
def yQ:eD:=⟨[],0,0⟩
def Em(z:Int):∀(l:List eD)(i:Nat),Ak z l i = -1->jh z l=l
 | [],_,_=>rfl
 |x::l,i,h=>by
  rw[Ak] at h;split at h
  ·omega
  ·rename_i hx;rw[yA,ak hx,Em z l _ h]
def En(z:Int):∀(l:List eD)(i:Nat),Ak z l i ≠ -1->∃A x T,l=A++x::T/\Ak z l i=((i+A.length:Nat):Int)/\jh z l=A++jh z T
 | [],_,h=>absurd rfl h
 |x::l,i,h=>by
  rw[Ak] at h ⊢;rw[yA];split
  ·rename_i hx; exact⟨[],x,l,rfl,rfl,rfl⟩
  ·rename_i hx;rw[ak hx] at h;obtain⟨A,y,T,h1,h2,h3⟩:=En z l (i+1) h;exact⟨x::A,y,T,by rw[h1]; rfl,by rw[h2]; simp; omega,by rw[h3]; rfl⟩
def Gz(m:Nat):ag:=if m=0 then .slice .sh [] else .dk 0 0 3 0 m
def M9(A G:List eD):((A++G).map gk).take A.length++(List.replicate G.length (ag.agg [.str [],aG 0,aG 0])++((A++G).map gk).drop (A++G).length)=(A++List.replicate G.length yQ).map gk:=by
 have h1:((A++G).map gk).take A.length=A.map gk:=by simp[gw]
 have h2:((A++G).map gk).drop (A++G).length=[]:=by rw[List.drop_eq_nil_iff]; simp
 rw[h1,h2];simp[List.map_replicate];exact .inr rfl
def afF(xs:List eD)(z:Int)(hn:xs.length<=100000)(h0:xs≠[]):aq c9 217 [.dk 0 0 3 0 xs.length,.func 219 [cL 1]] [.arr 3 0 (xs.map gk),cm [aG z]] =
  some (Gz (jh z xs).length,[.arr 3 0 ((jh z xs++List.replicate (xs.length-(jh z xs).length) yQ).map gk),cm [aG z]]):=by
 have q89:=alD xs z hn;refine aJ ?_
 by_cases hi:Ak z xs 0 = -1
 ·have hk:=Em z xs 0 hi;have hb:(Ak z xs 0 == -1)=true:=by simpa using hi
  have hl:xs.length≠0:=fun hh=>h0 (ct.1 hh)
  rw[hk];simp only[LI,FO,q89,hb,EN,seval];simp[Gz,hl]
 ·obtain⟨A,x,T,h1,h2,h3⟩:=En z xs 0 hi;have hb:(Ak z xs 0 == -1)=false:=by simpa using hi
  simp only[aQ] at h2;have eY:xs.length=A.length+(T.length+1):=by rw[h1]; simp
  have hw:IntKind.i64.wrap ((A.length:Int)+1)=((A.length+[x].length:Nat):Int):=by rw[gD (by omega) (by omega)]; simp
  have hlp:=fun k R hx=>WA (z:=z) hn (k:=k) (R:=R) hx T A [x] (by simp; omega) (by simp)
  have e1:A++[x]++T=xs:=by rw[h1]; simp
  rw[e1] at hlp;rw[h2] at hb q89;rw[h3];simp only[LI,FO,q89,hb,hw,EN,seval];refine(hlp _ (fun A' g=>some (Gz A'.length,[.arr 3 0 ((A'++List.replicate g yQ).map gk),cm [aG z]])) (fun A' G v q hl hg=>?_)).trans (by simp only[aK])
  have hgl:G.length≠0:=fun hh=>hg (ct.1 hh)
  have b1:(((A'.length:Nat):Int)<=(xs.length:Int))=True:=AE;have b2:(((A'.length:Nat):Int)==(xs.length:Int))=false:=by simp; omega
  have hcl:=M9 A' G;have hN:(A'++G).length=xs.length:=by simp; omega
  have hd:xs.length-A'.length=G.length:=by omega
  rw[hN] at hcl;have hz0:Int.toNat ((0:Nat):Int)=0:=rfl;have hb0:((0:Int)<=((A'.length:Nat):Int))=True:=by simp
  by_cases hA:A'.length=0
  ·have b3:((0:Int)==((A'.length:Nat):Int))=true:=by simp[hA]
   simp only[FO,jf,bV,fJ,b1,b2,hd,hcl,b3,hz0,hb0,EN,seval];simp[Gz,hA]
  ·have b3:((0:Int)==((A'.length:Nat):Int))=false:=by simp; omega
   simp only[FO,jf,bV,fJ,b1,b2,hd,hcl,b3,hz0,hb0,EN,seval];simp[Gz,hA]
end
end Go.Proofs.YtcbopkblmebjiaaGreatDoor
namespace Go.Abs
open Go
def pq{C:eO}{fn:List sy}{bN:Nat}{k:List K}{live:List Nat}{body:cz}{α σ ρ:Type}{xs:List α}(hn:xs.length<=1000000)(go:List α->σ->ρ)(E:σ->Int->Env)(M:σ->aL)(R:ρ->Option (ag×aL))
  (hend:∀s,fS C fn bN (.loop live (M s).length body::k) body (ju (E s xs.length) live) (M s)=R (go [] s))
  (hstep:∀(pre:List α)(x:α)(post:List α)(s:σ),xs=pre++x::post->xs[pre.length]?=some x->((pre.length:Int)<xs.length)=True->IntKind.i64.wrap ((pre.length:Int)+1)=(pre.length:Int)+1->((pre.length:Int)<0)=False->x∈xs ->
   (∀s',fS C fn bN k (.loop live body) (E s' ((pre.length:Int)+1)) (M s')=R (go post s'))->fS C fn bN (.loop live (M s).length body::k) body (ju (E s pre.length) live) (M s)=R (go (x::post) s)) :
  ∀s,fS C fn bN k (.loop live body) (E s 0) (M s)=R (go xs s):=by
 have key:∀(l pre:List α)(s:σ),xs=pre++l->fS C fn bN k (.loop live body) (E s pre.length) (M s)=R (go l s):=by
  intro l;induction l with
  |nil =>
   intro pre s h;rw[bZ,show pre.length=xs.length by rw[h]; simp]
   exact hend s
  |cons x r ih =>
   intro pre s h;rw[bZ];have hl:pre.length+1<=1000000:=by rw[h] at hn; simp at hn; omega
   refine hstep pre x r s h (by rw[h]; simp) (by rw[h]; simp; omega) (gD (by omega) (by omega)) (by simp) (by rw[h]; simp) fun s'=>?_
   have:=ih (pre++[x]) s' (by rw[h]; simp)
   simpa using this
 intro s;exact key xs [] s rfl
def J5{C:eO}{fn:List sy}{bN:Nat}{k:List K}{live:List Nat}{body:cz}{α σ:Type}{xs:List α}(hn:xs.length<=1000000)(I:Nat->σ->Prop)(E:σ->Int->Env)(M:σ->aL)(Q:ag×aL->Prop)
  (hend:∀s,I xs.length s->∃r,Q r/\fS C fn bN (.loop live (M s).length body::k) body (ju (E s xs.length) live) (M s)=some r)
  (hstep:∀(pre:List α)(x:α)(post:List α)(s:σ),xs=pre++x::post->xs[pre.length]?=some x->((pre.length:Int)<xs.length)=True->IntKind.i64.wrap ((pre.length:Int)+1)=(pre.length:Int)+1->((pre.length:Int)<0)=False->x∈xs->I pre.length s ->
   (∀s',I (pre.length+1) s'->∃r,Q r/\fS C fn bN k (.loop live body) (E s' ((pre.length:Int)+1)) (M s')=some r)->∃r,Q r/\fS C fn bN (.loop live (M s).length body::k) body (ju (E s pre.length) live) (M s)=some r) :
  ∀s,I 0 s->∃r,Q r/\fS C fn bN k (.loop live body) (E s 0) (M s)=some r:=by
 have key:∀(l pre:List α)(s:σ),xs=pre++l->I pre.length s->∃r,Q r/\fS C fn bN k (.loop live body) (E s pre.length) (M s)=some r:=by
  intro l;induction l with
  |nil =>
   intro pre s h hI;have e:pre.length=xs.length:=by rw[h]; simp
   rw[bZ,e];exact hend s (by rw[<-e]; exact hI)
  |cons x r ih =>
   intro pre s h hI;rw[bZ];have hl:pre.length+1<=1000000:=by rw[h] at hn; simp at hn; omega
   refine hstep pre x r s h (by rw[h]; simp) (by rw[h]; simp; omega) (gD (by omega) (by omega)) (by simp) (by rw[h]; simp) hI fun s' hI'=>?_
   have:=ih (pre++[x]) s' (by rw[h]; simp) (by simpa using hI')
   simpa using this
 intro s hI;exact key xs [] s rfl hI
def Fk{α:Type}{a b:List α}{m:Nat}(h:a.take m=b.take m){x:α}(hx:a[m]?=some x)(hy:b[m]?=some x):a.take (m+1)=b.take (m+1):=by
 rw[dC,dC,h,hx,hy]
def IM{α:Type}{a b:List α}(hl:a.length=b.length)(h:a.take a.length=b.take a.length):a=b:=by
 rw[cT,hl,cT] at h; exact h
end Go.Abs
namespace Go.Proofs.YtcbopkblmebjiaaGreatDoor
open Go Go.Abs
def mZ:OV:=⟨0,0,0,0,0,[],[]⟩
def lf(t:Tree)(aU:Bytes):Int×Bytes×Int :=
 if (fC aU).2.2 != 0 then (0,[],(fC aU).2.2)
 else if (eF t (fC aU).2.1).2 != 0 then (0,[],(eF t (fC aU).2.1).2)
 else ((eF t (fC aU).2.1).1,(fC aU).1,0)
def Ub(n:Node):Int:=if (n.data.length:Int)<(n.aN.length:Int) then (n.aN.length:Int) else (n.data.length:Int)
def vW(x:eD):List eD->List eD
 | []=>[x]
 |y::r=>if x.ai<y.ai then x::y::r else y::vW x r
def mS:List eD->List eD
 | []=>[]
 |x::r=>vW x (mS r)
def Bg(ae:List Node)(au z:Int):List eD:=mS (jh z (gA ae au).1.aN)
def p9(t:Tree)(au z m:Int):List eD×Int×Int :=
 if decide (z<0)||(decide (m<1)||decide (64<m)) then ([],0,1)
 else if (gA t.ae au).2 != 0 then ([],0,(gA t.ae au).2)
 else if decide (((Bg t.ae au z).length:Int)<=m) then (Bg t.ae au z,0,0)
 else ((Bg t.ae au z).take m.toNat,mM (((Bg t.ae au z).getD (m.toNat-1) yQ).ai+1),0)
def isF(ae:List Node)(i:Int):Prop:=∃n,find ae i=some n/\n.kind=1
def Zr(ae:List Node):Prop:=nM ae/\¬isF ae 0
def Rt.zr{t:Tree}(h:Rt t):Zr t.ae:=by
 obtain⟨cg,g⟩:=h;exact⟨g.jE.jx,fun⟨n,h1,_⟩=>by have:=(g.num _ _ h1).1; omega⟩
def Z0{ae:List Node}(h:nM ae){a b:Nat}{x y:Node}(hx:ae[a]?=some x)(hy:ae[b]?=some y)(e:x.au=y.au):a=b:=by
 obtain⟨ha,rfl⟩:=aC.1 hx;obtain⟨hb,rfl⟩:=aC.1 hy;rcases iB a b with h1|h1|h1
 ·have:=bU.1 h _ _ ha hb h1; omega
 ·exact h1
 ·have:=bU.1 h _ _ hb ha h1; omega
def wj:Bytes->Bytes->List Bytes->Option (List Bytes)
 | [],cur,out=>if !dE cur||(out.length:Int)==12 then none else some (out++[cur])
 |b::r,cur,out=>if (b.toNat:Int) != 47 then wj r (cur++[b]) out else if !dE cur||(out.length:Int)==12 then none else wj r [] (out++[cur])
def jB(s:Bytes):List Bytes×Int:=if s==[47] then ([],0) else match s with
 | []=>([],60)
 |b::r=>if (b.toNat:Int) != 47 then ([],60) else match wj r [] [] with
  |none=>([],60)
  |some l=>(l,0)
section
def yz(l:List Bytes)(s:Bytes):Bytes:=l.foldl (fun s x=>s++[47]++x) s
def Ev(l:List Bytes):Bytes:=if (l.length:Int)==0 then [47] else yz l []
def Xj:∀(rest cur:Bytes)(out l:List Bytes),wj rest cur out=some l->(∀x,x∈out->dE x=true)->out.length<=12->(∀x,x∈l->dE x=true)/\l.length<=12:=by
 have key:∀(cur:Bytes)(out:List Bytes),¬(!dE cur||(out.length:Int)==12)=true->(∀x,x∈out->dE x=true)->out.length<=12->(∀x,x∈out++[cur]->dE x=true)/\(out++[cur]).length<=12:=by
  intro cur out h1 h2 h3;simp only[cN,gW,dR,kL,kx] at h1;refine⟨fun x hx=>?_,by simp; omega⟩
  rcases bT.1 hx with hx|hx
  ·exact h2 x hx
  ·rw[eS.1 hx]; exact h1.1
 intro rest;induction rest with
 |nil =>
  intro cur out l h h1 h2;rw[wj] at h;split at h
  ·cases h
  ·rename_i hc;cases h;exact key cur out hc h1 h2
 |cons b r ih =>
  intro cur out l h h1 h2;rw[wj] at h;split at h
  ·exact ih _ _ _ h h1 h2
  split at h
  ·cases h
  ·rename_i hc;obtain⟨k1,k2⟩:=key cur out hc h1 h2;exact ih _ _ _ h k1 k2
def AR(s:Bytes):(∀x,x∈(jB s).1->dE x=true)/\(jB s).1.length<=12:=by
 unfold jB;split
 ·simp
 split
 ·simp
 split
 ·simp
 split
 ·simp
 ·rename_i h;exact Xj _ _ _ _ h (by simp) (by simp)
def vM(ae:List Node):List Bytes->Int->Int×Int
 | [],a=>(a,0)
 |x::r,a=>if (dV ae a x).2 != 0 then (0,(dV ae a x).2) else vM ae r (dV ae a x).1
def sx(ae:List Node)(s:Bytes):Int×Int:=if (jB s).2 != 0 then (0,(jB s).2) else vM ae (jB s).1 1
end
def kP(l:List Bytes):Bytes:=l.flatMap fun s=>47::s
def jP(l:List Bytes):Bytes:=if l=[] then [47] else kP l
def kY(s:Bytes)(r:List Bytes):kP (s::r)=47::(s++kP r):=by simp[kP]
def NoS(s:Bytes):Prop:=∀b,b∈s->b≠47
def Az{s:Bytes}(h:dE s=true):NoS s:=by
 intro b hb e;simp only[dE,bn,bw] at h;have:=h.2 b hb;rw[e] at this
 revert this; decide
def EP{s:Bytes}(h:dE s=true):s≠[]:=by
 rintro rfl; revert h; decide
def CS(r:List Bytes):∀(s:Bytes),NoS s->Lib.indexByte (s++kP r) 47=if r=[] then -1 else (s.length:Int)
 | [],_=>by cases r<;>simp[kP,Lib.indexByte]
 |b::s,h=>by
  have hb:(b==47)=false:=by simpa using h b aD
  rw[aX,Lib.indexByte,CS r s fun x hx=>h x (aP _ hx),hb]
  by_cases hr:r=[]
  ·simp[hr]
  ·have:((s.length:Int) == -1)=false:=by simp
   simp[hr,this]
def D9(r:List Bytes){s:Bytes}(h:NoS s):DJ (s++kP r)=s.length:=by
 unfold DJ;rw[CS r s h]
 by_cases hr:r=[]
 ·simp[hr,kP]
 ·have:¬((s.length:Int)<0):=by omega
  simp[hr,this]
def Bq:∀(l:List Bytes),(∀s,s∈l->NoS s)->ku (kP l)=l.map fun s=>(s,true)
 | [],_=>rfl
 |s::r,h=>by
  have hs:=h s aD;have hne:kP (s::r)≠[]:=by rw[kY]; simp
  have hc:ra (kP (s::r))=(s++kP r,true):=by rw[kY]; simp[ra]
  have h1:rm (kP (s::r))=(s,true):=by simp[rm,hc,D9 r hs]
  have h2:qK (kP (s::r))=kP r:=by simp[qK,hc,D9 r hs]
  rw[tb hne,h1,h2,Bq r (fun s hs=>h s (aP _ hs))]
  rfl
def Dx:∀(l:List Bytes)(n:Nat),(∀s,s∈l->dE s=true)->n+l.length<=12->nI (l.map fun s=>(s,true)) n=some l
 | [],_,_,_=>rfl
 |s::r,n,h,hl=>by
  have hb:zP (s,true) n=false:=by
   simp only[av] at hl;simp[zP,h s aD]; omega
  simp only[aW,nI,hb,af,aw];rw[Dx r (n+1) (fun s hs=>h s (aP _ hs)) (by simp only[av] at hl; omega)]
  rfl
def Qz{s:Bytes}{r:List Bytes}(h:dE s=true):jP (s::r)≠[47]:=by
 have:=EP h;rw[jP,ak (by simp),kY]
 simp[this]
def ke{l:List Bytes}(h:∀s,s∈l->dE s=true)(hl:l.length<=12):bz (jP l)=(l,0):=by
 cases l with
 |nil=>rfl
 |cons s r =>
  have h1:=Qz (r:=r) (h s aD);have h2:jP (s::r)=kP (s::r):=by simp[jP]
  unfold bz;rw[ak h1,h2,Bq _ (fun s hs=>Az (h s hs)),Dx _ 0 h (by omega)]
def K1:∀(n:Nat)(s:Bytes)(m:Nat)(l:List Bytes),s.length<=n->nI (ku s) m=some l->s=kP l:=by
 intro n;induction n with
 |zero =>
  intro s m l hs h;have:s=[]:=cp (by omega)
  subst this;simp[ku,sZ,nI] at h;subst h; rfl
 |succ n ih =>
  intro s m l hs h
  by_cases hn:s=[]
  ·subst hn;simp[ku,sZ,nI] at h;subst h; rfl
  ·rw[tb hn,nI] at h;split at h
   ·cases h
   ·rename_i hb;obtain⟨l',h1,rfl⟩:=aO.1 h;have cu:=zy hn;have hr:=ih _ _ _ (by omega) h1
    simp only[zP,cN,kL,gW,kx] at hb;have h2:(ra s).2=true:=hb.1.1;cases s with
    |nil=>exact absurd rfl hn
    |cons b r =>
     have hc:b=47/\ra (b::r)=(r,true):=by
      by_cases e:b=47
      ·exact⟨e,by simp[ra,e]⟩
      ·simp[ra,e] at h2
     obtain⟨rfl,hc⟩:=hc;rw[kY,<-hr];simp[rm,qK,hc]
def uX{s:Bytes}{l:List Bytes}(h:bz s=(l,0)):s=jP l:=by
 unfold bz at h;split at h
 ·rename_i e;injection h with h _
  subst h; exact e
 ·split at h
  ·cases h
  ·cases h
  ·rename_i l' hne hg;injection h with h _
   subst h;have:=K1 s.length s 0 _ (ar _) hg;rw[jP,ak hne];exact this
def Dv:∀(s rest cur:Bytes)(out:List Bytes),NoS s->wj (s++rest) cur out=wj rest (cur++s) out
 | [],rest,cur,out,_=>by simp
 |b::s,rest,cur,out,h=>by
  have hb:((b.toNat:Int) != 47)=true:=by
   have:=h b aD;simp only[gj,ne_eq];intro e;exact this (iE.1 (by rw[show((47:UInt8).toNat)=47 from rfl]; omega))
  rw[aX,wj,az hb,Dv s rest _ out fun x hx=>h x (aP _ hx)]
  simp
def Ff:∀(r:List Bytes)(cur:Bytes)(out:List Bytes),dE cur=true->(∀s,s∈r->dE s=true)->out.length+1+r.length<=12->wj (kP r) cur out=some (out++cur::r)
 | [],cur,out,hc,_,hl=>by
  have:((out.length:Int)==12)=false:=by simp at hl ⊢; omega
  simp[kP,wj,hc,this]
 |s::r,cur,out,hc,h,hl=>by
  have h1:((out.length:Int)==12)=false:=by simp at hl ⊢; omega
  have h2:((((47:UInt8).toNat:Int)) != 47)=false:=rfl;rw[kY,wj,h2];simp only[hc,h1,cX,dI,af,aw];rw[Dv s _ _ _ (Az (h s aD)),aY,Ff r s _ (h s aD) (fun x hx=>h x (aP _ hx)) (by simp at hl ⊢; omega)]
  simp
def OB{l:List Bytes}(h:∀s,s∈l->dE s=true)(hl:l.length<=12):jB (jP l)=(l,0):=by
 cases l with
 |nil=>rfl
 |cons s r =>
  have h1:(jP (s::r)==[47])=false:=by simpa using Qz (r:=r) (h s aD)
  have h2:jP (s::r)=47::(s++kP r):=by simp[jP,kY]
  have h3:((((47:UInt8).toNat:Int)) != 47)=false:=rfl;unfold jB;rw[h1,h2];simp only[h3,af,aw];rw[Dv s _ _ _ (Az (h s aD)),aY,Ff r s [] (h s aD) (fun x hx=>h x (aP _ hx)) (by simp at hl ⊢; omega)]
  rfl
def Bm:∀(l:List Bytes)(s:Bytes),yz l s=s++kP l
 | [],s=>by simp[yz,kP]
 |x::l,s=>by
  have:=Bm l (s++[47]++x);simp only[yz,bB] at this ⊢;rw[this,kY]; simp
def CV(l:List Bytes):Ev l=jP l:=by
 unfold Ev jP;cases l with
 |nil=>rfl
 |cons s r=>rw[ak (by simp; omega),ak (by simp),Bm]; rfl
def rh(l:List Bytes):px l=jP l:=by
 unfold px jP;cases l with
 |nil=>rfl
 |cons s r =>
  rw[ak (by simp; omega),ak (by simp),Lib.join_cons,kY]
  simp[Lib.joinTail,kP,List.flatMap]
def Uf{s:Bytes}{l:List Bytes}(h:bz s=(l,0)):jB s=(l,0):=by
 obtain⟨o1,o2⟩:=lB s;rw[h] at o1 o2;rw[uX h,OB o1 o2]
def HY{s:Bytes}(h:((fC s).2.2 != 0)=false):∃P x,bz s=(P++[x],0)/\fC s=(x,jP P,0):=by
 unfold fC at h ⊢;split at h
 ·cases h
 ·rename_i hc;rw[ak hc];simp only[cN,kL,Bool.not_eq_true] at hc;generalize hS:bz s=S at hc;obtain⟨l,e⟩:=S;have he:e=0:=by simpa using hc.1
  rcases eI l with rfl|⟨P,x,rfl⟩
  ·simp at hc
  ·rw[fe] at *;refine⟨P,x,by rw[he],?_⟩
   simp[rh]
def tz{t:Tree}{s:Bytes}{j:Int}:eF t s=(j,0)↔∃l,bz s=(l,0)/\pT t.ae l 1=(j,0):=by
 unfold eF;constructor
 ·intro h;split at h
  ·rename_i hc;injection h with _ h
   rw[h] at hc; cases hc
  ·rename_i hc;exact⟨_,fF rfl (by simpa using hc),h⟩
 ·rintro⟨l,h1,h2⟩;rw[h1];simpa using h2
def vl{t:Tree}{s:Bytes}(h:((lf t s).2.2 != 0)=false):∃P x d,bz s=(P++[x],0)/\pT t.ae P 1=(d,0)/\lf t s=(d,x,0):=by
 unfold lf at h ⊢;split at h
 ·rename_i hc; simp only at h; rw[h] at hc; cases hc
 ·rename_i hc;obtain⟨P,x,h1,h2⟩:=HY (by simpa using hc)
  rw[h2] at h ⊢;simp only[an,af,aw] at h ⊢;split at h
  ·rename_i hw; simp only at h; rw[h] at hw; cases hw
  ·rename_i hw;obtain⟨l,g1,g2⟩:=tz.1 (fF rfl (by simpa using hw):eF t (jP P)=((eF t (jP P)).1,0))
   obtain⟨o1,o2⟩:=lB s;rw[h1] at o1 o2;rw[ke (fun y hy=>o1 y (eR _ hy)) (by simp at o2; omega)] at g1
   injection g1 with g1 _
   subst g1;exact⟨P,x,_,h1,g2,by rw[ak hw]⟩
def Ac{t:Tree}(h:Rt t)(k i:Int):find (oT t k).1.ae i=if i=k/\∃n,find t.ae k=some n/\jy n=true then none else find t.ae i:=by
 have hz:=h.zr;obtain⟨cg,g⟩:=h;unfold oT;cases hf:find t.ae k with
 |none=>simp
 |some n =>
  have hn:bE t.ae k=n:=by simp[bE,hf]
  have hl:=g.dp _ _ hf;simp only[df,cX,af,aw,hn];rcases g.kind _ _ hf with hk|hk
  ·have h1:(n.kind==2)=false:=by simp[hk]
   simp only[h1,af,aw];split
   ·rename_i h2;have h2':0<n.dp:=by simpa using h2
    have:jy n=false:=by simp[jy,hk]; omega
    simp[this]
   ·rename_i h2;have h2':¬0<n.dp:=by simpa using h2
    have h3:0<=n.dp:=by rw[hl]; split<;>omega
    have:jy n=true:=by simp[jy,hk]; omega
    rw[rZ hz.1];simp[this]
  ·have h1:(n.kind==2)=true:=by simp[hk]
   have:jy n=false:=by simp[jy,hk]
   simp[h1,this]
def L6{ae:List Node}{dir:Int}{s:Bytes}{d:Node}(hd:find ae dir=some d)(hk:d.kind=2)(hs:dE s=true):dV ae dir s=match eb d.aN s with
  |none=>(0,70)
  |some e=>(e.au,0):=by
 have:gA ae dir=(d,0):=by simp[gA,hd,hk]
 simp only[dV,this,hs];cases eb d.aN s<;>simp
def Zd(t:Tree)(f:Int)(s:Bytes)(to:Int)(nm:Bytes)(y:Int):List Node:=if y != 0 then gm (dx (dx t.ae f s) to nm) y else dx t.ae f s
def Ib(o:Option Node):Option Node:=match o with
 |some y=>xY y
 |none=>none
def WN{t:Tree}{cg:Int->Nat}(h:cq t cg 0)(f:Int)(s:Bytes)(to:Int)(nm:Bytes)(y:Int):nM (Zd t f s to nm y):=by
 unfold Zd;split
 ·exact vK (lx (lx h.jE.jx f s) to nm) y
 ·exact lx h.jE.jx f s
def P3{t:Tree}{cg:Int->Nat}(h:cq t cg 0){f:Int}{s:Bytes}{to:Int}{nm:Bytes}{dF dT m:Node}{e:eD}(k:wc t cg f s to nm dF dT m e)(i:Int) :
  find (Zd t f s to nm (ec dT.aN nm)) i=if i=to then some { dT with aN:=fH (if to=f then fH dT.aN s else dT.aN) nm }
   else if i=f then some { dF with aN:=fH dF.aN s } else if i=ec dT.aN nm then Ib (find t.ae i) else find t.ae i:=by
 have f1:=iW h.jE.jx k.hF (s:=s);cases hfr:eb dT.aN nm with
 |none =>
  have hu:ec dT.aN nm=0:=by simp[ec,hfr]
  have hdr:fH (if to=f then fH dT.aN s else dT.aN) nm=(if to=f then fH dT.aN s else dT.aN):=by
   refine Cw ?_;split
   ·exact rO hfr
   ·exact hfr
  rw[hu,hdr];simp only[Zd,an,af,↓reduceIte];rw[f1]
  by_cases i1:i=to
  ·rw[az i1];subst i1
   by_cases i2:i=f
   ·subst i2;have:=k.hF; rw[k.hT] at this; cases this;simp only[↓reduceIte]
   ·simp only[i2,↓reduceIte]; exact k.hT
  ·rw[ak i1]
   by_cases i2:i=f
   ·simp only[i2,↓reduceIte]
   ·simp only[i2,↓reduceIte]
    by_cases i3:i=0
    ·subst i3; simp[h.zero,Ib]
    ·simp only[i3,↓reduceIte]
 |some e2 =>
  have hu:ec dT.aN nm=e2.au:=by simp[ec,hfr]
  obtain⟨q1,y,q2,q3,q4,q5,q6⟩:=k.KH e2 hfr;have hy0:=(h.num _ _ q2).1;have hb:(e2.au != 0)=true:=by simp; omega
  rw[hu];simp only[Zd,hb,↓reduceIte];have a1:=lx h.jE.jx f s
  obtain⟨dT',hT',hd'⟩:∃dT',find (dx t.ae f s) to=some dT'/\({ dT' with aN:=fH dT'.aN nm }:Node)={ dT with aN:=fH (if to=f then fH dT.aN s else dT.aN) nm }:=by
   rw[f1];split
   ·rename_i hh;subst hh;have:=k.hF; rw[k.hT] at this; cases this;exact⟨_,rfl,rfl⟩
   ·exact⟨dT,k.hT,rfl⟩
  have f3:=iW a1 hT' (s:=nm);have hy3:find (dx (dx t.ae f s) to nm) e2.au=some y:=by rw[f3,ak q6,f1,ak q5]; exact q2
  rw[pX (lx a1 to nm) hy3,f3,f1,hd']
  by_cases i1:i=e2.au
  ·subst i1;simp only[↓reduceIte,q5,q6,q2,Ib]
  ·simp only[i1,↓reduceIte]
def yv{t:Tree}{cg:Int->Nat}(h:cq t cg 0){f:Int}{s:Bytes}{to:Int}{nm:Bytes}{dF dT m:Node}{e:eD}(k:wc t cg f s to nm dF dT m e)(i:Int) :
  find (nZ t f s to nm e.au (ec dT.aN nm)).ae i=if i=to then some { dT with aN:=sV (fH (if to=f then fH dT.aN s else dT.aN) nm) ⟨nm,e.au,t.ai⟩ }
   else if i=f then some { dF with aN:=fH dF.aN s } else if i=e.au then some (if m.kind=2 then { m with up:=to } else m) else if i=ec dT.aN nm then Ib (find t.ae i) else find t.ae i:=by
 have hA:=P3 h k;have aA:=WN h f s to nm (ec dT.aN nm);have hmn:bE t.ae e.au=m:=by simp[bE,k.hm]
 have hmi:m.au=e.au:=(cj k.hm).2;have hTi:dT.au=to:=(cj k.hT).2
 have hux:e.au≠ec dT.aN nm:=by
  cases hfr:eb dT.aN nm with
  |none=>simp only[ec,hfr]; have:=(h.num _ _ k.hm).1; omega
  |some e2=>simp only[ec,hfr]; exact fun hh=>(k.KH e2 hfr).1 hh.symm
 obtain⟨B,hB,aB,fB⟩:∃B,(if m.kind==2 then eM (Zd t f s to nm (ec dT.aN nm)) { m with up:=to } else Zd t f s to nm (ec dT.aN nm))=B/\nM B /\
   ∀i,find B i=if i=to then some { dT with aN:=fH (if to=f then fH dT.aN s else dT.aN) nm }
    else if i=f then some { dF with aN:=fH dF.aN s } else if i=e.au then some (if m.kind=2 then { m with up:=to } else m) else if i=ec dT.aN nm then Ib (find t.ae i) else find t.ae i:=by
  refine⟨_,rfl,?_,?_⟩
  ·split
   ·exact nK aA _
   ·exact aA
  ·intro i;split
   ·rename_i hk;have hk':m.kind=2:=by simpa using hk
    rw[gP aA,hA];simp only[hmi,hk',↓reduceIte]
    by_cases i1:i=e.au
    ·subst i1; simp only[↓reduceIte,k.ne,k.nf]
    ·simp only[i1,↓reduceIte]
   ·rename_i hk;have hk':¬m.kind=2:=by simpa using hk
    rw[hA];simp only[hk',↓reduceIte]
    by_cases i1:i=e.au
    ·subst i1; simp only[↓reduceIte,k.ne,k.nf,hux]; exact k.hm
    ·simp only[i1,↓reduceIte]
 have hmv:nZ t f s to nm e.au (ec dT.aN nm)=gN ⟨B,t.next,t.ai⟩ to nm e.au:=by
  rw[<-hB];unfold nZ Zd;simp only[hmn]
 rw[hmv];unfold gN;simp only;have hBt:find B to=some { dT with aN:=fH (if to=f then fH dT.aN s else dT.aN) nm }:=by rw[fB]; simp only[↓reduceIte]
 rw[gP aB,hBt];simp only[bA,hTi]
 by_cases i1:i=to
 ·simp only[i1,↓reduceIte]
 ·simp only[i1,↓reduceIte];rw[fB];simp only[i1,↓reduceIte]
def nC{l:List eD}(h:oX l){s:Bytes}{e:eD}:eb l s=some e↔e∈l/\e.name=s:=by
 refine⟨eB,fun⟨h1,h2⟩=>?_⟩
 cases hf:eb l s with
 |none =>
  have:=eG.1 hf e h1;simp[h2] at this
 |some x =>
  obtain⟨x1,x2⟩:=eB hf;obtain⟨i,hi⟩:=bO h1;obtain⟨k,hk⟩:=bO x1;have hil:=(aC.1 hi).1;have hkl:=(aC.1 hk).1;have e1:l[i]=e:=by rw[aj hil] at hi; injection hi
  have e2:l[k]=x:=by rw[aj hkl] at hk; injection hk
  rcases iB i k with cu|heq|hgt
  ·have:=bU.1 h _ _ hil hkl cu;rw[e1,e2,h2,x2,iq] at this; cases this
  ·subst heq; rw[<-e1,<-e2]
  ·have:=bU.1 h _ _ hkl hil hgt;rw[e1,e2,h2,x2,iq] at this; cases this
def vB{l:List eD}(h:oX l){e:eD}(hf:eb l e.name=none)(s:Bytes):eb (sV l e) s=if s=e.name then some e else eb l s:=by
 have ha:=HL h hf;split
 ·rename_i hs;exact(nC ha).2 ⟨(wS h hf).2 (.inl rfl),hs.symm⟩
 ·rename_i hs;cases hq:eb l s with
  |none =>
   cases hr:eb (sV l e) s with
   |none=>rfl
   |some x =>
    obtain⟨x1,x2⟩:=eB hr;rcases(wS h hf).1 x1 with rfl|x1
    ·exact absurd x2.symm hs
    ·rw[(nC h).2 ⟨x1,x2⟩] at hq; cases hq
  |some x =>
   obtain⟨x1,x2⟩:=eB hq;exact(nC ha).2 ⟨(wS h hf).2 (.inr x1),x2⟩
section
variable {t:Tree} {cg:Int->Nat} {f:Int} {s:Bytes} {to:Int} {nm:Bytes} {dF dT m:Node} {e:eD}
def wc.bN(h:cq t cg 0)(k:wc t cg f s to nm dF dT m e):oX (fH (if to=f then fH dT.aN s else dT.aN) nm)/\eb (fH (if to=f then fH dT.aN s else dT.aN) nm) nm=none:=by
 have hE:oX dT.aN:=h.jE.aN dT (cj k.hT).1;refine⟨uQ ?_ nm,wI _ _⟩;split
 ·exact uQ hE s
 ·exact hE
def wc.L7(h:cq t cg 0)(k:wc t cg f s to nm dF dT m e):dV (nZ t f s to nm e.au (ec dT.aN nm)).ae to nm=(e.au,0):=by
 have hf:=yv h k to;rw[az rfl] at hf;obtain⟨b1,b2⟩:=k.bN h;rw[L6 hf k.kT k.hn];simp only;rw[vB b1 (e:=⟨nm,e.au,t.ai⟩) b2];simp
end
def Way(ae:List Node):Int->List Bytes->Int->Prop
 |i,[],j=>i=j
 |i,s::r,j=>∃d e,find ae i=some d/\d.kind=2/\dE s=true/\eb d.aN s=some e/\Way ae e.au r j
def pM{ae:List Node}:∀ {L:List Bytes} {i j:Int},pT ae L i=(j,0)↔Way ae i L j
 | [],i,j=>by simp[pT,Way]
 |s::r,i,j=>by
  unfold pT Way;constructor
  ·intro h;split at h
   ·rename_i h0;injection h with _ h
    simp[h] at h0
   ·rename_i h0;obtain⟨d,e,h1,h2,h3,h4,h5⟩:=look_ok (by simpa using h0)
    rw[h5] at h;exact⟨d,e,h1,h2,h3,h4,pM.1 h⟩
  ·rintro⟨d,e,h1,h2,h3,h4,h5⟩;have hl:dV ae i s=(e.au,0):=by rw[L6 h1 h2 h3,h4]
   rw[hl];simpa using pM.2 h5
def iw{ae:List Node}:∀ {A B:List Bytes} {i j:Int},Way ae i (A++B) j↔∃k,Way ae i A k/\Way ae k B j
 | [],B,i,j=>by simp[Way]
 |s::A,B,i,j=>by
  simp only[aX,Way];constructor
  ·rintro⟨d,e,h1,h2,h3,h4,h5⟩;obtain⟨k,k1,k2⟩:=iw.1 h5;exact⟨k,⟨d,e,h1,h2,h3,h4,k1⟩,k2⟩
  ·rintro⟨k,⟨d,e,h1,h2,h3,h4,k1⟩,k2⟩;exact⟨d,e,h1,h2,h3,h4,iw.2 ⟨k,k1,k2⟩⟩
def xJ{ae:List Node}{L:List Bytes}{i j k:Int}(h:Way ae i L j)(g:Way ae i L k):j=k:=by
 rw[<-pM] at h g;rw[h] at g; injection g
section
variable {t:Tree} {cg:Int->Nat}
def cq.step(h:cq t cg 0){i:Int}{d:Node}{e:eD}{s:Bytes}(hd:find t.ae i=some d)(he:eb d.aN s=some e):∃m,find t.ae e.au=some m/\(m.kind=2->m.up=i/\e.au≠1/\cg e.au=cg i+1)/\jy m=false:=by
 obtain⟨e1,_⟩:=eB he;obtain⟨_,_,h1,_,m,hm,hu⟩:=h.wF _ _ e hd e1;refine⟨m,hm,fun hk=>⟨hu hk,h1,?_⟩,?_⟩
 ·have:=(h.sH _ _ hm hk h1).1;rw[hu hk] at this; exact this
 ·have hl:=h.dp _ _ hm;have:0<qR t.ae e.au:=qZ.2 ⟨d,e,(cj hd).1,e1,rfl⟩;have h2:((m.dp==0)=false):=by simp; split at hl<;>omega
  simp[jy,h2]
def cq.th(h:cq t cg 0):∀ {L:List Bytes} {i j:Int} {d n:Node},Way t.ae i L j->find t.ae i=some d->d.kind=2->find t.ae j=some n->n.kind=2->cg j=cg i+L.length
 | [],i,j,_,_,hw,_,_,_,_=>by cases hw; rfl
 |s::r,i,j,d,n,⟨d',e,h1,_,_,h4,h5⟩,_,_,hj,hk=>by
  obtain⟨m,hm,hu,_⟩:=h.step h1 h4
  have hmk:m.kind=2:=by
   cases r with
   |nil=>cases h5; rw[hm] at hj; injection hj with hj; rw[hj]; exact hk
   |cons s' r'=>obtain⟨d2,_,g1,g2,_⟩:=h5; rw[hm] at g1; injection g1 with g1; rw[g1]; exact g2
  have:=h.th h5 hm hmk hj hk;have:=(hu hmk).2.2;simp only[av]; omega
def cq.A4(h:cq t cg 0){x:Int}:∀ {L:List Bytes} {i j:Int} {n:Node},Way t.ae i L j->iV t.ae i x=true->find t.ae j=some n->n.kind=2->iV t.ae j x=true
 | [],i,j,_,hw,hb,_,_=>by cases hw; exact hb
 |s::r,i,j,n,⟨d,e,h1,h2,_,h4,h5⟩,hb,hj,hk=>by
  obtain⟨m,hm,hu,_⟩:=h.step h1 h4
  have hmk:m.kind=2:=by
   cases r with
   |nil=>cases h5; rw[hm] at hj; injection hj with hj; rw[hj]; exact hk
   |cons s' r'=>obtain⟨d2,_,g1,g2,_⟩:=h5; rw[hm] at g1; injection g1 with g1; rw[g1]; exact g2
  refine h.A4 h5 ?_ hj hk;rcases Int.decEq e.au x with hx|hx
  ·rw[h.yY hm hmk (hu hmk).2.1 hx,(hu hmk).1]; exact hb
  ·rw[hx]; exact cq.rG (t:=t) x
def cq.MJ(h:cq t cg 0){L:List Bytes}{i j:Int}{d:Node}(hw:Way t.ae i L j)(hi:find t.ae i=some d)(hd:jy d=false):∃m,find t.ae j=some m/\jy m=false:=by
 rcases eI L with rfl|⟨A,s,rfl⟩
 ·cases hw; exact⟨d,hi,hd⟩
 ·rw[fe] at hw;obtain⟨k,_,d',e,h1,_,_,h4,h5⟩:=iw.1 hw;obtain⟨m,hm,_,ho⟩:=h.step h1 h4;cases h5;exact⟨m,hm,ho⟩
def yo{n:Node}(h:n.kind=2):jy n=false:=by simp[jy,h]
def cq.B4(h:cq t cg 0):∀(c:Nat){L L':List Bytes}{j:Int}{n:Node},L.length=c->Way t.ae 1 L j->Way t.ae 1 L' j->find t.ae j=some n->n.kind=2->L=L':=by
 obtain⟨r,r1,r2,_⟩:=h.root;intro c;induction c with
 |zero =>
  intro L L' j n hc w w' hj hk;have e1:=h.th w r1 r2 hj hk;have e2:=h.th w' r1 r2 hj hk;have:L'.length=0:=by omega
  rw[cp hc,cp this]
 |succ c ih =>
  intro L L' j n hc w w' hj hk;have e1:=h.th w r1 r2 hj hk;have e2:=h.th w' r1 r2 hj hk;rcases eI L with rfl|⟨A,s,rfl⟩
  ·simp at hc
  rcases eI L' with rfl|⟨A',s',rfl⟩
  ·simp at e1 e2 hc; omega
  rw[fe] at *;obtain⟨k,w1,d,e,g1,g2,_,g4,g5⟩:=iw.1 w;obtain⟨k',w1',d',e',g1',g2',_,g4',g5'⟩:=iw.1 w';have g5:e.au=j:=g5;have g5':e'.au=j:=g5';obtain⟨m,hm,hu,_⟩:=h.step g1 g4;obtain⟨m',hm',hu',_⟩:=h.step g1' g4';rw[g5,hj] at hm; cases hm;rw[g5',hj] at hm'; cases hm';have hkk:k=k':=(hu hk).1.symm.trans (hu' hk).1;subst hkk;rw[g1] at g1'; cases g1';have hA:=ih (by simpa using hc) w1 w1' g1 g2
  obtain⟨m1,m2⟩:=eB g4;obtain⟨m3,m4⟩:=eB g4'
  suffices e=e' by rw[hA,<-m2,<-m4,this,fe]
  -- one entry
  have hj1:j≠1:=g5▸(hu hk).2.1;have hl:=h.dp _ _ hj;rw[h.one _ _ hj hk hj1,ak (by have:=(h.num _ _ hj).1; omega)] at hl
  have hw:=zc h.jE.jx k j;have hd:bE t.ae k=d:=by simp[bE,g1]
  rw[hd] at hw;have h1:nb d.aN j<=1:=by omega
  unfold nb at h1;obtain⟨x,hx⟩:=bO m1;obtain⟨y,hy⟩:=bO m3;obtain⟨B,C,hBC⟩:=List.append_of_mem m1;rw[hBC] at h1 m3;simp only[List.countP_append,List.countP_cons,g5,eu,aE] at h1;rcases bT.1 m3 with hm|hm
  ·have:0<B.countP (fun z=>z.au==j):=oe.2 ⟨e',hm,by simp[g5']⟩
   omega
  ·rcases bc.1 hm with hm|hm
   ·exact hm.symm
   ·have:0<C.countP (fun z=>z.au==j):=oe.2 ⟨e',hm,by simp[g5']⟩
    omega
def cq.pN(h:cq t cg 0){L:List Bytes}{j:Int}(hw:Way t.ae 1 L j):L.length<=12:=by
 obtain⟨r,r1,r2,_⟩:=h.root;rcases eI L with rfl|⟨A,s,rfl⟩
 ·simp
 ·rw[fe] at hw ⊢;obtain⟨k,w1,d,e,g1,g2,_,g4,_⟩:=iw.1 hw;have e1:=h.th w1 r1 r2 g1 g2;obtain⟨d1,d2⟩:=h.deep _ _ g1 g2
  have:cg k≠12:=fun hh=>by
   have:=(eB g4).1;rw[d2 hh] at this; cases this
  have:=h.zd;simp; omega
end
section
variable {t:Tree} {cg:Int->Nat} {f:Int} {s:Bytes} {to:Int} {nm:Bytes} {dF dT m:Node} {e:eD}
def wc.step(h:cq t cg 0)(k:wc t cg f s to nm dF dT m e){i:Int}{d:Node}{c:Bytes}{e':eD}(hd:find t.ae i=some d)(hk:d.kind=2)(he:eb d.aN c=some e')(h1:¬(i=f/\c=s))(h2:¬(i=to/\c=nm)):∃d',find (nZ t f s to nm e.au (ec dT.aN nm)).ae i=some d'/\d'.kind=2/\eb d'.aN c=some e':=by
 rw[yv h k];obtain⟨b1,b2⟩:=k.bN h
 by_cases i1:i=to
 ·subst i1;rw[k.hT] at hd; cases hd;refine⟨_,az rfl,k.kT,?_⟩;have hc:c≠nm:=fun hh=>h2 ⟨rfl,hh⟩
  simp only;rw[vB b1 (e:=⟨nm,e.au,t.ai⟩) b2];simp only[hc,aw];rw[pr hc];split
  ·rename_i hif;have hcs:c≠s:=fun hh=>h1 ⟨hif,hh⟩
   rw[pr hcs]; exact he
  ·exact he
 rw[ak i1]
 by_cases i2:i=f
 ·subst i2;rw[k.hF] at hd; cases hd;have hcs:c≠s:=fun hh=>h1 ⟨rfl,hh⟩
  exact⟨_,az rfl,k.kF,by simp only; rw[pr hcs]; exact he⟩
 rw[ak i2]
 by_cases i3:i=e.au
 ·subst i3;rw[k.hm] at hd; cases hd;exact⟨_,az rfl,by simp[hk],by simp only[hk,aE]; exact he⟩
 rw[ak i3]
 by_cases i4:i=ec dT.aN nm
 ·exfalso;cases hfr:eb dT.aN nm with
  |none =>
   simp only[ec,hfr] at i4;have:=(h.num _ _ hd).1; omega
  |some e2 =>
   simp only[ec,hfr] at i4;obtain⟨_,y,y1,y2,_⟩:=k.KH e2 hfr;rw[i4,y1] at hd; cases hd;rw[y2] at he; cases he
 ·rw[ak i4];exact⟨d,hd,hk,he⟩
def wc.way(h:cq t cg 0)(k:wc t cg f s to nm dF dT m e):∀ {L:List Bytes} {i j:Int},Way t.ae i L j->(∀A c B i',L=A++c::B->Way t.ae i A i'->¬(i'=f/\c=s)/\¬(i'=to/\c=nm))->Way (nZ t f s to nm e.au (ec dT.aN nm)).ae i L j
 | [],_,_,hw,_=>hw
 |c::r,i,j,⟨d,e',h1,h2,h3,h4,h5⟩,hno=>by
  obtain⟨n1,n2⟩:=hno [] c r i rfl rfl;obtain⟨d',g1,g2,g4⟩:=k.step h h1 h2 h4 n1 n2;refine⟨d',e',g1,g2,h3,g4,k.way h h5 fun A c' B i' hL hA=>hno (c::A) c' B i' (by rw[hL]; rfl) ⟨d,e',h1,h2,h3,h4,hA⟩⟩
def wc.Tf(k:wc t cg f s to nm dF dT m e){e2:eD}(he:eb dT.aN nm=some e2){B:List Bytes}{j:Int}(hw:Way t.ae e2.au B j):j=e2.au:=by
 cases B with
 |nil=>exact Eq.symm hw
 |cons b B =>
  obtain⟨d,e',h1,_,_,h4,_⟩:=hw;obtain⟨_,y,y1,y2,_⟩:=k.KH e2 he;rw[y1] at h1; cases h1;rw[y2] at h4; cases h4
def wc.adC(h:cq t cg 0)(k:wc t cg f s to nm dF dT m e){L:List Bytes}(hw:Way t.ae 1 L to):Way (nZ t f s to nm e.au (ec dT.aN nm)).ae 1 L to:=by
 refine k.way h hw fun A c B i' hL hA=>⟨?_,?_⟩
 ·rintro⟨rfl,rfl⟩;rw[hL] at hw;obtain⟨k',w1,d,e2,g1,_,_,g4,g5⟩:=iw.1 hw;have:=xJ hA w1; subst this;rw[k.hF] at g1; cases g1;rw[k.he] at g4; cases g4;cases B with
  |nil=>exact k.ne g5
  |cons b B =>
   have hmk:m.kind=2:=by
    obtain⟨d,_,q1,q2,_⟩:=g5;rw[k.hm] at q1; injection q1 with q1; rw[q1]; exact q2
   have:=h.A4 g5 (cq.rG (t:=t) e.au) k.hT k.kT;rw[k.loop hmk] at this; cases this
 ·rintro⟨rfl,rfl⟩;rw[hL] at hw;obtain⟨k',w1,d,e2,g1,_,_,g4,g5⟩:=iw.1 hw;have:=xJ hA w1; subst this;rw[k.hT] at g1; cases g1;obtain⟨_,y,_,_,_,_,y6⟩:=k.KH e2 g4;exact y6 (k.Tf g4 g5).symm
def wc.adB(h:cq t cg 0)(k:wc t cg f s to nm dF dT m e)(hm:m.kind=2){L:List Bytes}{z:Int}(hw:Way t.ae e.au L z):Way (nZ t f s to nm e.au (ec dT.aN nm)).ae e.au L z/\z≠f/\z≠to/\z≠ec dT.aN nm:=by
 have hstep:=h.step k.hF k.he;obtain⟨m',hm',hu,_⟩:=hstep;rw[k.hm] at hm'; cases hm';obtain⟨_,hx1,hdx⟩:=hu hm
 have nf:∀ {A:List Bytes},¬Way t.ae e.au A f:=fun hA=>by
  have:=h.th hA k.hm hm k.hF k.kF;omega
 have nt:∀ {A:List Bytes},¬Way t.ae e.au A to:=fun hA=>by
  have:=h.A4 hA (cq.rG (t:=t) e.au) k.hT k.kT;rw[k.loop hm] at this; cases this
 refine⟨k.way h hw fun A c B i' hL hA=>⟨?_,?_⟩,?_,?_,?_⟩
 ·rintro⟨rfl,_⟩; exact nf hA
 ·rintro⟨rfl,_⟩; exact nt hA
 ·rintro rfl; exact nf hw
 ·rintro rfl; exact nt hw
 ·intro hz;cases hfr:eb dT.aN nm with
  |none =>
   simp only[ec,hfr] at hz;obtain⟨n,hn,_⟩:=h.MJ hw k.hm (yo hm);have:=(h.num _ _ hn).1; omega
  |some e2 =>
   simp only[ec,hfr] at hz;obtain⟨q1,y,y1,_,y3,_⟩:=k.KH e2 hfr;have yk:=y3.1 hm;rcases eI L with rfl|⟨A,c,rfl⟩
   ·exact q1 (hz.symm.trans (Eq.symm hw))
   ·rw[fe] at hw;obtain⟨i',w1,d,e',g1,g2,_,g4,g5⟩:=iw.1 hw;have g5:e'.au=z:=g5;obtain⟨n,hn,hu2,_⟩:=h.step g1 g4;obtain⟨n',hn',hu3,_⟩:=h.step k.hT hfr;rw[g5,hz,y1] at hn; cases hn;rw[y1] at hn'; cases hn';have:i'=to:=(hu2 yk).1.symm.trans (hu3 yk).1;subst this;exact nt w1
end
section
variable {u t:Tree} {cg:Int->Nat}
end
structure Piece where
 aU:Bytes
 group:Int
 dM:Int
 deriving DecidableEq,Inhabited
structure qy where
 group:Int
 ae:List Node
 deriving DecidableEq,Inhabited
structure wb where
 pieces:List Piece
 er:List qy
 next:Int
 ai:Int
 deriving DecidableEq,Inhabited
def cR(p:Piece):List ag:=[.str p.aU,.int .i64 p.group,.int .i64 p.dM]
def dr(p:Piece):ag := .agg (cR p)
abbrev bI(l:List Piece):ag := .slice .sh (l.map dr)
def mu(x:qy):List ag:=[.int .i64 x.group,a8 x.ae]
def Cy(x:qy):ag := .agg (mu x)
abbrev jT(l:List qy):ag := .slice .sh (l.map Cy)
def bD(f:wb):List ag:=[bI f.pieces,jT f.er,.int .i64 f.next,.int .i64 f.ai]
def jc(f:wb):ag := .agg (bD f)
def Ae(a b:List Bytes):kP (a++b)=kP a++kP b:=by simp[kP]
def Dw:∀(r cur:Bytes)(out l:List Bytes),wj r cur out=some l->kP l=kP out++(47::(cur++r))
 | [],cur,out,l,h=>by
  rw[wj] at h;split at h
  ·cases h
  ·cases h;rw[Ae,kY]; simp[kP]
 |b::r,cur,out,l,h=>by
  rw[wj] at h;split at h
  ·rw[Dw r _ _ _ h]; simp
  ·rename_i hb
   have hb:b=47:=by
    simp only[gj,ne_eq,mg] at hb;exact iE.1 (by rw[show((47:UInt8).toNat)=47 from rfl]; omega)
   subst hb;split at h
   ·cases h
   ·rw[Dw r _ _ _ h,Ae,kY]; simp[kP]
def K2{s:Bytes}{l:List Bytes}(h:jB s=(l,0)):s=jP l:=by
 unfold jB at h;split at h
 ·rename_i e;injection h with h _
  subst h; simpa[jP] using e
 ·split at h
  ·cases h
  ·rename_i b r _;split at h
   ·cases h
   ·rename_i hb
    have hb:b=47:=by
     simp only[gj,ne_eq,mg] at hb;exact iE.1 (by rw[show((47:UInt8).toNat)=47 from rfl]; omega)
    subst hb;split at h
    ·cases h
    ·rename_i l' hl;injection h with h _
     subst h;have:=Dw _ _ _ _ hl;simp only[kP,List.flatMap_nil,aY] at this;rw[jP,ak (by rintro rfl; simp at this)]
     exact this.symm
def K3(s:Bytes):jB s=([],60)\/jB s=((jB s).1,0):=by
 unfold jB;split
 ·exact .inr rfl
 split
 ·exact .inl rfl
 split
 ·exact .inl rfl
 split
 ·exact .inl rfl
 ·exact .inr rfl
def vI(s:Bytes):bz s=([],60)\/bz s=((bz s).1,0):=by
 unfold bz;split
 ·exact .inr rfl
 split
 ·exact .inl rfl
 ·exact .inl rfl
 ·exact .inr rfl
def ud(s:Bytes):jB s=bz s:=by
 rcases vI s with h|h
 ·rcases K3 s with g|g
  ·rw[h,g]
  ·obtain⟨o1,o2⟩:=AR s;have:=ke o1 o2;rw[<-K2 g,h] at this;injection this with _ h2
   exact absurd h2 (by decide)
 ·rw[h]; exact Uf h
def DD(ae:List Node):∀(L:List Bytes)(a:Int),vM ae L a=pT ae L a
 | [],_=>rfl
 |x::r,a=>by rw[vM,pT,DD ae r]
def I5(t:Tree)(s:Bytes):sx t.ae s=eF t s:=by
 unfold sx eF;rw[ud,DD]
def jM(a b:Bytes):Bool:=(bz a).2==0&&((bz b).2==0&&(bz a).1.isPrefixOf (bz b).1)
def ng{a b:Bytes}:jM a b=true↔(bz a).2=0/\(bz b).2=0/\(bz a).1 <+: (bz b).1:=by
 simp[jM,iX]
structure jV(l:List Piece):Prop where
 fst:∃p r,l=p::r/\p.aU=[47]
 many:l.length<=16
 ok:∀p,p∈l->(bz p.aU).2=0/\0<=p.group/\p.group<8/\1<=p.dM/\p.dM<=1099511627776
 jx:l.Pairwise fun a b=>strLt a.aU b.aU=true
abbrev vX(p:Piece):List Bytes:=(bz p.aU).1
def jV.join{l:List Piece}(h:jV l){p:Piece}(hp:p∈l):p.aU=jP (vX p):=by
 have:=(h.ok p hp).1;exact uX (fF rfl this)
def qq(s:Bytes):List Piece->Nat->Nat->Nat
 | [],_,b=>b
 |p::r,i,b=>qq s r (i+1) (if jM p.aU s then i else b)
def dj(l:List Piece)(s:Bytes):Nat:=qq s l 0 0
def wL(s:Bytes):∀(l:List Piece)(i b:Nat),(qq s l i b=b/\∀p,p∈l->jM p.aU s=false) \/
  ∃j p,qq s l i b=i+j/\l[j]?=some p/\jM p.aU s=true/\∀k q,l[k]?=some q->jM q.aU s=true->k<=j
 | [],i,b => .inl ⟨rfl,by simp⟩
 |p::r,i,b=>by
  rw[qq]
  by_cases hp:jM p.aU s=true
  ·rw[az hp];rcases wL s r (i+1) i with ⟨h1,h2⟩|⟨j,q,h1,h2,h3,h4⟩
   ·refine .inr ⟨0,p,by simpa using h1,rfl,hp,fun k q hk hq=>?_⟩
    cases k with
    |zero=>exact ar _
    |succ k =>
     have:=h2 q (aR (by simpa using hk))
     rw[hq] at this; cases this
   ·refine .inr ⟨j+1,q,by omega,by simpa using h2,h3,fun k x hk hx=>?_⟩
    cases k with
    |zero=>omega
    |succ k=>have:=h4 k x (by simpa using hk) hx; omega
  ·rw[ak hp];have hp:jM p.aU s=false:=by simpa using hp
   rcases wL s r (i+1) b with ⟨h1,h2⟩|⟨j,q,h1,h2,h3,h4⟩
   ·refine .inl ⟨h1,fun q hq=>?_⟩
    rcases bc.1 hq with rfl|hq
    ·exact hp
    ·exact h2 q hq
   ·refine .inr ⟨j+1,q,by omega,by simpa using h2,h3,fun k x hk hx=>?_⟩
    cases k with
    |zero=>omega
    |succ k=>have:=h4 k x (by simpa using hk) hx; omega
def Ca{s:Bytes}(hs:(bz s).2=0):jM [47] s=true:=by
 rw[ng];exact⟨rfl,hs,by simp[show(bz [47]).1=[] from rfl]⟩
def jV.home{l:List Piece}(h:jV l){s:Bytes}(hs:(bz s).2=0):∃p,l[dj l s]?=some p/\jM p.aU s=true/\∀k q,l[k]?=some q->jM q.aU s=true->k<=dj l s:=by
 rcases wL s l 0 0 with ⟨_,h2⟩|⟨j,p,h1,h2,h3,h4⟩
 ·obtain⟨p,r,rfl,hp⟩:=h.fst;have:=h2 p aD;rw[hp,Ca hs] at this; cases this
 ·rw[aQ] at h1;unfold dj;rw[h1];exact⟨p,h2,h3,h4⟩
def uT{l:List Piece}(h:jV l){s:Bytes}(hs:(bz s).2=0){j:Nat}{p:Piece}(hp:l[j]?=some p)(ha:jM p.aU s=true)(hm:∀k q,l[k]?=some q->jM q.aU s=true->k<=j):dj l s=j:=by
 obtain⟨q,h1,h2,h3⟩:=h.home hs;exact Nat.le_antisymm (hm _ _ h1 h2) (h3 _ _ hp ha)
def AV:∀(a r:Bytes),r≠[]->strLt a (a++r)=true
 | [],r,h=>by cases r with
  |nil=>exact absurd rfl h
  |cons b r=>rfl
 |x::a,r,h=>by
  rw[aX];simp[strLt,AV a r h]
def Kh{A B:List Bytes}(h:A <+: B)(hne:A≠B)(hn:∀s,s∈B->dE s=true):∃r,r≠[]/\jP B=jP A++r:=by
 obtain⟨C,rfl⟩:=h;cases C with
 |nil=>simp at hne
 |cons c C =>
  cases A with
  |nil =>
   refine⟨c++kP C,?_,by simp[jP,kY]⟩
   have:=EP (hn c (by simp))
   simp[this]
  |cons a A =>
   refine⟨kP (c::C),by simp[kY],?_⟩
   rw[jP,ak (by simp),jP,ak (by simp),Ae]
def Dd(s:Bytes):∀x,x∈(bz s).1->dE x=true:=(lB s).1
def jV.Ky{l:List Piece}(h:jV l){s:Bytes}{i j:Nat}{p q:Piece}(hij:i<j)(hp:l[i]?=some p)(hq:l[j]?=some q)(hpa:jM p.aU s=true)(hqa:jM q.aU s=true):vX p <+: vX q/\p.aU.length<=q.aU.length:=by
 rw[ng] at hpa hqa
 have cu:strLt p.aU q.aU=true:=by
  have h1:=bU.1 h.jx i j (aF hp) (aF hq) hij;rw[aj (aF hp)] at hp;rw[aj (aF hq)] at hq;injection hp with hp; injection hq with hq
  rwa[hp,hq] at h1
 have jp:=h.join (aR hp);have jq:=h.join (aR hq)
 have hpre:vX p <+: vX q:=by
  rcases List.prefix_or_prefix_of_prefix hpa.2.2 hqa.2.2 with g|g
  ·exact g
  ·by_cases he:vX q=vX p
   ·rw[he]; exact ig _
   ·obtain⟨r,hr,e⟩:=Kh g he (Dd _);rw[<-jp,<-jq] at e;have:=AV q.aU r hr;rw[<-e,rV cu] at this;cases this
 refine⟨hpre,?_⟩
 by_cases he:vX p=vX q
 ·rw[jp,jq,he]; exact ar _
 ·obtain⟨r,_,e⟩:=Kh hpre he (Dd _);rw[jp,jq,e]; simp
def jV.only{l:List Piece}(h:jV l){i j:Nat}{p q:Piece}(hp:l[i]?=some p)(hq:l[j]?=some q)(he:p.aU=q.aU):i=j:=by
 have key:∀ {i j:Nat} {p q:Piece},l[i]?=some p->l[j]?=some q->p.aU=q.aU->¬i<j:=by
  intro i j p q hp hq he hij;have h1:=bU.1 h.jx i j (aF hp) (aF hq) hij;rw[aj (aF hp)] at hp;rw[aj (aF hq)] at hq;injection hp with hp; injection hq with hq
  rw[hp,hq,he,iq] at h1;cases h1
 have:=key hp hq he;have:=key hq hp he.symm;omega
def jV.HJ{l:List Piece}(h:jV l){j:Nat}{p:Piece}(hp:l[j]?=some p):dj l p.aU=j:=by
 have hm:=aR hp;have h0:=(h.ok p hm).1;refine uT h h0 hp (ng.2 ⟨h0,h0,ig _⟩) fun k q hk hq=>?_
 rcases bH j k with cu|hge
 ·exfalso;have:=(h.Ky cu hp hk (ng.2 ⟨h0,h0,ig _⟩) hq).1;have h2:=(ng.1 hq).2.2;have e:vX p=vX q:=List.IsPrefix.eq_of_length this (Nat.le_antisymm this.length_le h2.length_le);have:=h.only hp hk (by rw[h.join hm,h.join (aR hk),e])
  omega
 ·exact hge
def jV.LQ{l:List Piece}(h:jV l){L:List Bytes}{x:Bytes}(hL:∀s,s∈L++[x]->dE s=true)(hl:(L++[x]).length<=12)(hno:∀p,p∈l->p.aU≠jP (L++[x])):dj l (jP (L++[x]))=dj l (jP L):=by
 have s1:=ke hL hl;have s2:=ke (l:=L) (fun s hs=>hL s (eR _ hs)) (by simp at hl; omega)
 obtain⟨p,h1,h2,h3⟩:=h.home (s:=jP L) (by rw[s2])
 have key:∀q,q∈l->(jM q.aU (jP (L++[x]))=true↔jM q.aU (jP L)=true):=by
  intro q hq;rw[ng,ng,s1,s2];constructor
  ·rintro⟨a1,_,a3⟩;refine⟨a1,rfl,?_⟩;rcases List.prefix_concat_iff.1 a3 with e|e
   ·exact absurd (by rw[h.join hq,vX,e]) (hno q hq)
   ·exact e
  ·rintro⟨a1,_,a3⟩;exact⟨a1,rfl,a3.trans (j4 _ _)⟩
 exact uT h (by rw[s1]) h1 ((key p (aR h1)).2 h2) fun k q hk hq=>h3 k q hk ((key q (aR hk)).1 hq)
abbrev SM:=List (Bytes×Int)
def xT:SM->Bytes->Option Int
 | [],_=>none
 |(k',v)::l,k=>if k=k' then some v else xT l k
def GB:SM->Bytes->Int->SM
 | [],k,v=>[(k,v)]
 |(k',v')::l,k,v=>if k=k' then (k,v)::l else (k',v')::GB l k v
def AN:∀(l:SM)(k:Bytes)(v:Int)(j:Bytes),xT (GB l k v) j=if j=k then some v else xT l j
 | [],k,v,j=>by simp only[GB,xT]
 |(k',v')::l,k,v,j=>by
  simp only[GB];split
  ·rename_i h;subst h;simp only[xT];split<;>rfl
  ·rename_i h;simp only[xT];split
   ·rename_i h2;rw[ak (fun hh=>h (hh.symm.trans h2))]
   ·exact AN l k v j
def te:List Piece->Int->SM->SM
 | [],_,m=>m
 |p::r,i,m=>te r (i+1) (GB m p.aU i)
def lN(l:List Piece):SM:=te l 0 []
def yG:∀(l:List Piece)(i:Int)(m:SM)(s:Bytes),(∀p,p∈l->p.aU≠s)->xT (te l i m) s=xT m s
 | [],_,_,_,_=>rfl
 |p::r,i,m,s,h=>by
  rw[te,yG r _ _ s fun q hq=>h q (aP _ hq),AN,ak (fun e=>h p aD e.symm)]
def Dq:∀(l:List Piece)(i:Int)(m:SM)(j:Nat)(p:Piece),l[j]?=some p->(∀k q,l[k]?=some q->q.aU=p.aU->k=j)->xT (te l i m) p.aU=some (i+j)
 | [],_,_,_,_,h,_=>by simp at h
 |q::r,i,m,0,p,h,ho=>by
  simp only[dX,iC] at h;subst h;rw[te,yG r _ _ _ ?_,AN,az rfl]
  ·simp
  ·intro x hx e;obtain⟨k,hk⟩:=bO hx;have:=ho (k+1) x (by simpa using hk) e
   omega
 |q::r,i,m,j+1,p,h,ho=>by
  rw[te,Dq r (i+1) _ j p (by simpa using h) fun k x hk hx=>by
   have:=ho (k+1) x (by simpa using hk) hx; omega]
  congr 1; omega
def jV.Xf{l:List Piece}(h:jV l)(s:Bytes):(∃(j:Nat) (p:Piece),l[j]?=some p/\p.aU=s/\xT (lN l) s=some (j:Int))\/((∀p,p∈l->p.aU≠s)/\xT (lN l) s=none):=by
 by_cases hp:∃p,p∈l/\p.aU=s
 ·obtain⟨p,hm,rfl⟩:=hp;obtain⟨j,hj⟩:=bO hm;have:=Dq l 0 [] j p hj fun k q hk he=>h.only hk hj he
  exact .inl ⟨j,p,hj,rfl,by rw[lN,this]; simp⟩
 ·have hno:∀p,p∈l->p.aU≠s:=fun p hm e=>hp ⟨p,hm,e⟩
  exact .inr ⟨hno,by rw[lN,yG l 0 [] s hno]; rfl⟩
structure Hm where
 jN:AM Int
 met:Int
 whole:Bool
def oH(rec:Int->List Bytes->Hm->Hm)(ae:List Node)(roots:SM)(au:Int)(aU:List Bytes)(s:Hm)(e:eD):Hm :=
 if (bE ae e.au).kind==1 then ⟨kq s.jN e.au ((dw s.jN au).getD 0),s.met,s.whole&&(!((dw s.jN e.au).isSome)||(dw s.jN e.au).getD 0==(dw s.jN au).getD 0)⟩
 else match xT roots (px (aU++[e.name])) with
  |none=>rec e.au (aU++[e.name]) ⟨kq s.jN e.au ((dw s.jN au).getD 0),s.met,s.whole⟩
  |some a=>rec e.au (aU++[e.name]) ⟨kq (kq s.jN e.au ((dw s.jN au).getD 0)) e.au a,mM (s.met+1),s.whole⟩
def lK(ae:List Node)(roots:SM):Nat->Int->List Bytes->Hm->Hm
 |0,_,_,s=>s
 |f+1,au,aU,s=>(bE ae au).aN.foldl (oH (lK ae roots f) ae roots au aU) s
def sK(l:List Piece)(ae:List Node):Hm:=lK ae (lN l) 14 1 [] ⟨[(1,0)],1,true⟩
def kZ(l:List Piece)(ae:List Node):AM Int×Bool :=
 ((sK l ae).jN,(sK l ae).whole&&((sK l ae).met==(l.length:Int)&&((sK l ae).jN.length:Int)==(ae.length:Int)))
section
variable {t:Tree} {cg:Int->Nat} {l:List Piece}
def cq.DE(h:cq t cg 0):∀(c:Nat)(i:Int)(n:Node),find t.ae i=some n->n.kind=2->cg i=c->∃L,Way t.ae 1 L i/\L.length=c:=by
 intro c;induction c with
 |zero =>
  intro i n hi hk hc
  by_cases h1:i=1
  ·exact⟨[],by simp[Way,h1],rfl⟩
  ·have:=(h.sH _ _ hi hk h1).1; omega
 |succ c ih =>
  intro i n hi hk hc;have h1:i≠1:=by rintro rfl; rw[h.zd] at hc; cases hc
  obtain⟨hd,p,hp,hpk⟩:=h.sH _ _ hi hk h1;obtain⟨L,hL,hl⟩:=ih n.up p hp hpk (by omega)
  obtain⟨p',e,hp',_,he,hei⟩:=h.named hi hk h1 (by have:=(h.num _ _ hi).1; omega)
  rw[hp] at hp'; cases hp';refine⟨L++[e.name],iw.2 ⟨n.up,hL,p,e,hp,hpk,?_,?_,by simpa[Way] using hei⟩,by simp[hl]⟩
  ·exact(h.wF _ _ _ hp he).2.2.2.1
  ·exact(nC (h.jE.aN _ (cj hp).1)).2 ⟨he,rfl⟩
def kS{ae:List Node}:∀ {L:List Bytes} {i j:Int},Way ae i L j->∀s,s∈L->dE s=true
 | [],_,_,_,s,hs=>by cases hs
 |x::L,i,j,⟨d,e,_,_,h3,_,h5⟩,s,hs=>by
  rcases bc.1 hs with rfl|hs
  ·exact h3
  ·exact kS h5 s hs
def Dh(l:List Piece)(ae:List Node)(i:Int)(v:Int):Prop:=∃L,Way ae 1 L i/\v=dj l (jP L)
def cq.Cs(h:cq t cg 0){i v w:Int}{n:Node}(hi:find t.ae i=some n)(hk:n.kind=2)(a:Dh l t.ae i v)(b:Dh l t.ae i w):v=w:=by
 obtain⟨L,h1,rfl⟩:=a;obtain⟨L',h2,rfl⟩:=b;rw[h.B4 L.length rfl h1 h2 hi hk]
structure uH(l:List Piece)(ae:List Node)(k v:Int):Prop where
 dir:∀n,find ae k=some n->n.kind=2->Dh l ae k v
 file:∀n,find ae k=some n->n.kind=1->∃d e,find ae d.au=some d/\d.kind=2/\e∈d.aN/\e.au=k/\Dh l ae d.au v
 ex:∃n,find ae k=some n
def ZW(l:List Piece)(ae:List Node):Prop:=∀d e d' e' n v w,find ae d.au=some d->e∈d.aN->find ae d'.au=some d'->e'∈d'.aN->e.au=e'.au->find ae e.au=some n->n.kind=1->Dh l ae d.au v->Dh l ae d'.au w->v=w
theorem Iw{α:Type}:∀(m:AM α)(k:Int)(v:α)(x:Int),x∈(kq m k v).map Prod.fst↔x=k\/x∈m.map Prod.fst
 | [],k,v,x=>by simp[kq]
 |(k',v')::m,k,v,x=>by
  simp only[kq];split
  ·rename_i h; subst h; simp
  ·have:=Iw m k v x;simp only[aW,bc,this]
   grind
def tV{α:Type}:∀(m:AM α)(k:Int)(v:α),(m.map Prod.fst).Nodup->((kq m k v).map Prod.fst).Nodup
 | [],k,v,_=>by simp[kq]
 |(k',v')::m,k,v,h=>by
  simp only[aW,gZ] at h;simp only[kq];split
  ·rename_i he; subst he; simpa using h
  ·rename_i he;simp only[aW,gZ];refine⟨fun hx=>?_,tV m k v h.2⟩
   rcases(Iw m k v k').1 hx with e|hx
   ·exact he e.symm
   ·exact h.1 hx
def xB{α:Type}:∀(m:AM α)(k:Int),k∈m.map Prod.fst↔∃v,dw m k=some v
 | [],k=>by simp[dw]
 |(k',v')::m,k=>by
  simp only[dw,aW,bc,xB m k];split
  ·rename_i h; simp[h]
  ·rename_i h; simp[h]
structure Down(l:List Piece)(ae:List Node)(au:Int)(aU:List Bytes)(es:List eD)(s s':Hm)(ms:List (List Bytes)):Prop where
 Ic:∀k v,dw s'.jN k=some v->uH l ae k v
 nd:(s'.jN.map Prod.fst).Nodup
 keys:∀k v,dw s.jN k=some v->∃w,dw s'.jN k=some w
 all:∀e,e∈es->∃w,dw s'.jN e.au=some w
 new:∀k v,dw s'.jN k=some v->(∃w,dw s.jN k=some w)\/((∀e,e∈(bE ae k).aN->∃w,dw s'.jN e.au=some w)/\(s'.whole=true->∀e n,e∈(bE ae k).aN->find ae e.au=some n->n.kind=1->∀u,Dh l ae k u->dw s'.jN e.au=some u))
 wh:s'.whole=true->s.whole=true
 fix:s'.whole=true->∀k n v,find ae k=some n->n.kind=1->dw s.jN k=some v->dw s'.jN k=some v
 own:s'.whole=true->∀e n,e∈es->find ae e.au=some n->n.kind=1->∀u,Dh l ae au u->dw s'.jN e.au=some u
 one:ZW l ae->s.whole=true->s'.whole=true
 met:s'.met=s.met+ms.length
 mnd:ms.Nodup
 Mc:∀L,L∈ms->∃e B z n p,e∈es/\L=aU++e.name::B/\Way ae 1 L z/\find ae z=some n/\n.kind=2/\p∈l/\p.aU=jP L
 N3:∀e B z n p,e∈es->Way ae 1 (aU++e.name::B) z->find ae z=some n->n.kind=2->p∈l->p.aU=jP (aU++e.name::B)->aU++e.name::B∈ms
def Met(l:List Piece)(aU:List Bytes)(es:List eD)(s:Hm):Prop:=∃m0:List (List Bytes),s.met=1+m0.length/\m0.Nodup/\(∀L,L∈m0->L∈l.map vX)/\∀L,L∈m0->¬ ∃e B,e∈es/\L=aU++e.name::B
def jV.pathIn(hl:jV l){L:List Bytes}{p:Piece}(hn:∀s,s∈L->dE s=true)(h12:L.length<=12)(hp:p∈l)(he:p.aU=jP L):L∈l.map vX :=
 bS.2 ⟨p,hp,by rw[vX,he,ke hn h12]⟩
def acR(hl:jV l){m0:List (List Bytes)}(h1:m0.Nodup)(h2:∀L,L∈m0->L∈l.map vX):m0.length<=16:=by
 have:=tW m0 (l.map vX) h1 h2;have:=hl.many;simp at *; omega
def Down.nil{au:Int}{aU:List Bytes}{s:Hm}(h1:∀k v,dw s.jN k=some v->uH l t.ae k v)(h2:(s.jN.map Prod.fst).Nodup):Down l t.ae au aU [] s s [] :=
 ⟨h1,h2,fun k v h=>⟨v,h⟩,fun e he=>(nomatch he),fun k v h => .inl ⟨v,h⟩,fun h=>h,fun _ _ _ _ _ _ h=>h,fun _ e n he=>(nomatch he),fun _ h=>h,by simp,kK,fun L hL=>(nomatch hL),fun e B z n p he=>(nomatch he)⟩
def Down.file(h:cq t cg 0){au v0:Int}{aU:List Bytes}{d:Node}{e:eD}{r:List eD}{s s':Hm}{ms:List (List Bytes)}{n:Node}(hd:find t.ae au=some d)(he:e∈d.aN)(hn:find t.ae e.au=some n)(hk:n.kind=1)
  (hv:dw s.jN au=some v0) (hv0:Dh l t.ae au v0) (hL:∀k v,dw s.jN k=some v->uH l t.ae k v)
  (hw:Way t.ae 1 aU au)
  (g:Down l t.ae au aU r ⟨kq s.jN e.au v0,s.met,s.whole&&(!((dw s.jN e.au).isSome)||(dw s.jN e.au).getD 0==v0)⟩ s' ms):Down l t.ae au aU (e::r) s s' ms:=by
 have hdk:d.kind=2:=by
  rcases h.kind _ _ hd with h1|h1
  ·rw[(h.file _ _ hd h1).1] at he; cases he
  ·exact h1
 have hdi:=h.au hd
 have sw:s'.whole=true->s.whole=true/\∀v,dw s.jN e.au=some v->v=v0:=fun hs=>by
  have:=g.wh hs;simp only[bn,cN,gW,dR] at this;refine⟨this.1,fun v hv=>?_⟩
  rw[hv] at this;simpa using this.2
 refine⟨g.Ic,g.nd,fun k v hk'=>?_,fun e' he'=>?_,fun k v hk'=>?_,fun hs=>(sw hs).1,fun hs k m v hm hmk hkv=>?_,fun hs e' m he' hm hmk u hu=>?_,fun ho hs=>?_,g.met,g.mnd,fun L hL=>?_,fun e' B z m p he' hw' hm hmk hp hpj=>?_⟩
 ·by_cases hke:k=e.au
  ·exact g.keys k v0 (by simp[ga,hke])
  ·exact g.keys k v (by simp[ga,hke,hk'])
 ·rcases bc.1 he' with rfl|he'
  ·exact g.keys _ v0 (by simp[ga])
  ·exact g.all e' he'
 ·rcases g.new k v hk' with ⟨w,hw'⟩|hc
  ·by_cases hke:k=e.au
   ·right;have hne:(bE t.ae k).aN=[]:=by rw[hke]; simp[bE,hn,(h.file _ _ hn hk).1]
    rw[hne];exact⟨fun _ he1=>(nomatch he1),fun _ _ m he1=>(nomatch he1)⟩
   ·simp only[ga,hke,aw] at hw';exact .inl ⟨w,hw'⟩
  ·exact .inr hc
 ·refine g.fix hs k m v hm hmk ?_
  by_cases hke:k=e.au
  ·rw[hke] at hkv;simp[ga,hke,(sw hs).2 v hkv]
  ·simp[ga,hke,hkv]
 ·rcases bc.1 he' with rfl|he'
  ·have:u=v0:=h.Cs hd hdk hu hv0;subst this;exact g.fix hs _ m _ hm hmk (by simp[ga])
  ·exact g.own hs e' m he' hm hmk u hu
 ·refine g.one ho ?_;simp only[hs,bQ,cN,gW,dR];cases hme:dw s.jN e.au with
  |none=>exact .inl rfl
  |some w =>
   right;obtain⟨d',e',hd',_,he',hei,hD⟩:=(hL _ _ hme).file n hn hk;exact(ho d e d' e' n v0 w (by rw[hdi]; exact hd) he hd' he' hei.symm hn hk (by rw[hdi]; exact hv0) hD).symm
 ·obtain⟨e',B,z,m,p,q1,q2⟩:=g.Mc L hL;exact⟨e',B,z,m,p,aP _ q1,q2⟩
 ·rcases bc.1 he' with rfl|he'
  ·exfalso;have hfe:=(nC (h.jE.aN _ (cj hd).1)).2 ⟨he,rfl⟩;obtain⟨k,k1,k2⟩:=iw.1 hw';have:=xJ k1 hw;subst this;obtain⟨d',e'',a1,a2,a3,a4,a5⟩:=k2;rw[hd] at a1; cases a1;rw[hfe] at a4; cases a4;cases B with
   |nil =>
    simp only[Way] at a5;subst a5;rw[hn] at hm; cases hm;rw[hk] at hmk; cases hmk
   |cons b B =>
    obtain⟨d2,_,b1,b2,_⟩:=a5;rw[hn] at b1; cases b1;rw[hk] at b2; cases b2
  ·exact g.N3 e' B z m p he' hw' hm hmk hp hpj
def Down.dir(h:cq t cg 0){au:Int}{aU:List Bytes}{d:Node}{e:eD}{r:List eD}{s s1 s2 s':Hm}{mp m1 m2:List (List Bytes)}{n:Node}(hd:find t.ae au=some d)(he:e∈d.aN)(hn:find t.ae e.au=some n)(hk:n.kind=2)
  (hw:Way t.ae 1 aU au) (hnd:∀x,x∈r->x.name≠e.name)
  (i1:∀k,k≠e.au->dw s1.jN k=dw s.jN k) (i2:∃w,dw s1.jN e.au=some w) (i3:s1.whole=s.whole) (i4:s1.met=s.met+mp.length)
  (i5:mp.Nodup/\∀L,L∈mp↔L=aU++[e.name]/\∃p,p∈l/\p.aU=jP L)
  (g1:Down l t.ae e.au (aU++[e.name]) n.aN s1 s2 m1) (g:Down l t.ae au aU r s2 s' m2):Down l t.ae au aU (e::r) s s' (mp++m1++m2):=by
 have hne:(bE t.ae e.au).aN=n.aN:=by simp[bE,hn]
 have Uu:∀k v,dw s.jN k=some v->∃w,dw s1.jN k=some w:=fun k v hv=>by
  by_cases hke:k=e.au
  ·rw[hke]; exact i2
  ·exact⟨v,by rw[i1 k hke]; exact hv⟩
 have up:∀k v,dw s1.jN k=some v->∃w,dw s'.jN k=some w:=fun k v hv=>by
  obtain⟨w,hw⟩:=g1.keys k v hv;exact g.keys k w hw
 have wayE:Way t.ae 1 (aU++[e.name]) e.au:=iw.2 ⟨au,hw,d,e,hd,by
  rcases h.kind _ _ hd with h1|h1
  ·rw[(h.file _ _ hd h1).1] at he; cases he
  ·exact h1,(h.wF _ _ _ hd he).2.2.2.1,(nC (h.jE.aN _ (cj hd).1)).2 ⟨he,rfl⟩,rfl⟩
 refine⟨g.Ic,g.nd,fun k v hk'=>?_,fun e' he'=>?_,fun k v hk'=>?_,fun hs=>?_,fun hs k m v hm hmk hkv=>?_,fun hs e' m he' hm hmk u hu=>?_,fun ho hs=>?_,?_,?_,fun L hL=>?_,fun e' B z m p he' hw' hm hmk hp hpj=>?_⟩
 ·obtain⟨w,hw⟩:=Uu k v hk';exact up k w hw
 ·rcases bc.1 he' with rfl|he'
  ·obtain⟨w,hw⟩:=i2; exact up _ w hw
  ·exact g.all e' he'
 ·rcases g.new k v hk' with ⟨w,hw'⟩|hc
  ·rcases g1.new k w hw' with ⟨w2,hw2⟩|⟨c1,c2⟩
   ·by_cases hke:k=e.au
    ·right;rw[hke,hne];refine⟨fun e' he'=>?_,fun hs e' m he' hm hmk u hu=>?_⟩
     ·obtain⟨x,hx⟩:=g1.all e' he';exact g.keys _ x hx
     ·exact g.fix hs _ m _ hm hmk (g1.own (g.wh hs) e' m he' hm hmk u hu)
    ·rw[i1 k hke] at hw2;exact .inl ⟨w2,hw2⟩
   ·right;refine⟨fun e' he'=>?_,fun hs e' m he' hm hmk u hu=>?_⟩
    ·obtain⟨x,hx⟩:=c1 e' he';exact g.keys _ x hx
    ·exact g.fix hs _ m _ hm hmk (c2 (g.wh hs) e' m he' hm hmk u hu)
  ·exact .inr hc
 ·have:=g1.wh (g.wh hs); rw[<-i3]; exact this
 ·refine g.fix hs k m v hm hmk (g1.fix (g.wh hs) k m v hm hmk ?_);rw[i1 k ?_]
  ·exact hkv
  ·rintro rfl;rw[hn] at hm; cases hm;rw[hk] at hmk; cases hmk
 ·rcases bc.1 he' with rfl|he'
  ·rw[hn] at hm; cases hm;rw[hk] at hmk; cases hmk
  ·exact g.own hs e' m he' hm hmk u hu
 ·exact g.one ho (g1.one ho (by rw[i3]; exact hs))
 ·rw[g.met,g1.met,i4]; simp; omega
 ·refine kB.2 ⟨kB.2 ⟨i5.1,g1.mnd,fun a ha b hb=>?_⟩,g.mnd,fun a ha b hb=>?_⟩
  ·rintro rfl;obtain⟨rfl,_⟩:=(i5.2 a).1 ha;obtain⟨e',B,_,_,_,_,q,_⟩:=g1.Mc _ hb;have:=congrArg List.length q;simp at this
  ·rintro rfl;obtain⟨e2,B2,_,_,_,q1,q2,_⟩:=g.Mc _ hb;rcases bT.1 ha with ha|ha
   ·obtain⟨q3,_⟩:=(i5.2 a).1 ha;rw[q2] at q3;have:=iy q3;injection this with this _
    exact hnd e2 q1 this
   ·obtain⟨e',B,_,_,_,_,q,_⟩:=g1.Mc _ ha;rw[q2,da] at q;have:=iy q;rw[aX] at this;injection this with this _
    exact hnd e2 q1 this
 ·rcases bT.1 hL with hL|hL
  ·rcases bT.1 hL with hL|hL
   ·obtain⟨rfl,p,hp,hpj⟩:=(i5.2 L).1 hL;exact⟨e,[],e.au,n,p,aD,rfl,wayE,hn,hk,hp,hpj⟩
   ·obtain⟨e',B,z,m,p,q1,q2,q3⟩:=g1.Mc L hL;exact⟨e,e'.name::B,z,m,p,aD,by rw[q2]; simp,q3⟩
  ·obtain⟨e',B,z,m,p,q1,q2⟩:=g.Mc L hL;exact⟨e',B,z,m,p,aP _ q1,q2⟩
 ·rcases bc.1 he' with rfl|he'
  ·rw[da];cases B with
   |nil=>exact eR _ ((i5.2 _).2 ⟨rfl,p,hp,hpj⟩)
   |cons b B =>
    refine hZ _ (eR _ ?_);have e0:aU++e'.name::b::B=(aU++[e'.name])++b::B:=by simp
    rw[e0] at hw' hpj ⊢;obtain⟨k,k1,k2⟩:=iw.1 hw';have:=xJ k1 wayE;subst this;obtain⟨d2,e2,b1,b2,b3,b4,b5⟩:=k2;rw[hn] at b1; cases b1;obtain⟨m1',m2'⟩:=eB b4;rw[<-m2'] at hw' hpj ⊢;exact g1.N3 e2 B z m p m1' hw' hm hmk hp hpj
  ·exact hZ _ (g.N3 e' B z m p he' hw' hm hmk hp hpj)
def Nn(h:cq t cg 0)(hl:jV l):∀(f:Nat)(au:Int)(aU:List Bytes)(s:Hm)(d:Node)(v0:Int),find t.ae au=some d->d.kind=2->13<f+cg au->Way t.ae 1 aU au->dw s.jN au=some v0 ->
  (∀k v,dw s.jN k=some v->uH l t.ae k v)->(s.jN.map Prod.fst).Nodup->Met l aU d.aN s->∃ms,Down l t.ae au aU d.aN s (lK t.ae (lN l) f au aU s) ms:=by
 intro f;induction f with
 |zero =>
  intro au aU s d v0 hd hk hf;have:=(h.deep _ _ hd hk).1; omega
 |succ f ih =>
  intro au aU s d v0 hd hk hf hw hv hL hnd hM;have hne:(bE t.ae au).aN=d.aN:=by simp[bE,hd]
  have hasc:=h.jE.aN _ (cj hd).1;rw[lK,hne]
  have key:∀(es:List eD)(s:Hm)(v0:Int),(∀e,e∈es->e∈d.aN)->es.Pairwise (fun a b=>b.name≠a.name)->dw s.jN au=some v0->(∀k v,dw s.jN k=some v->uH l t.ae k v)->(s.jN.map Prod.fst).Nodup->Met l aU es s ->
    ∃ms,Down l t.ae au aU es s (es.foldl (oH (lK t.ae (lN l) f) t.ae (lN l) au aU) s) ms:=by
   intro es;induction es with
   |nil=>intro s v0 _ _ _ hL hnd _; exact⟨[],Down.nil hL hnd⟩
   |cons e r ihl =>
    intro s v0 hs hp hv hL hnd hM;rw[bB];have he:=hs e aD;have hr:=fun x hx=>hs x (aP _ hx)
    obtain⟨hp1,hp2⟩:=bG.1 hp;obtain⟨_,_,e1,hnm,m,hm,hu⟩:=h.wF _ _ _ hd he;have hD0:Dh l t.ae au v0:=(hL _ _ hv).dir d hd hk;have hmn:bE t.ae e.au=m:=by simp[bE,hm]
    obtain⟨m0,t1,t2,t3,t4⟩:=hM;rcases h.kind _ _ hm with hmk|hmk
    ·have hst:oH (lK t.ae (lN l) f) t.ae (lN l) au aU s e=⟨kq s.jN e.au v0,s.met,s.whole&&(!((dw s.jN e.au).isSome)||(dw s.jN e.au).getD 0==v0)⟩:=by
      unfold oH;rw[az (by simp[hmn,hmk]),hv]; rfl
     rw[hst]
     have hL':∀k v,dw (kq s.jN e.au v0) k=some v->uH l t.ae k v:=fun k v hkv=>by
      rw[ga] at hkv;split at hkv
      ·rename_i hke;cases hkv; subst hke;refine⟨fun n hn hnk=>?_,fun n hn hnk=>⟨d,e,by rw[h.au hd]; exact hd,hk,he,rfl,by rw[h.au hd]; exact hD0⟩,⟨m,hm⟩⟩
       rw[hm] at hn; cases hn;rw[hmk] at hnk; cases hnk
      ·exact hL k v hkv
     obtain⟨v1,hv1⟩:∃v1,dw (kq s.jN e.au v0) au=some v1:=by
      rw[ga];split
      ·exact⟨_,rfl⟩
      ·exact⟨_,hv⟩
     obtain⟨ms,g⟩:=ihl ⟨kq s.jN e.au v0,s.met,s.whole&&(!((dw s.jN e.au).isSome)||(dw s.jN e.au).getD 0==v0)⟩ v1 hr hp2 hv1 hL' (tV _ _ _ hnd) ⟨m0,t1,t2,t3,fun L hL ⟨x,B,hx,e⟩=>t4 L hL ⟨x,B,aP _ hx,e⟩⟩
     exact⟨ms,Down.file h hd he hm hmk hv hD0 hL hw g⟩
    ·have wayE:Way t.ae 1 (aU++[e.name]) e.au:=iw.2 ⟨au,hw,d,e,hd,hk,hnm,(nC hasc).2 ⟨he,rfl⟩,rfl⟩;have hdep:=(h.sH _ _ hm hmk e1).1;rw[hu hmk] at hdep;have hnms:=kS wayE;have h12:=h.pN wayE;obtain⟨L0,w0,rfl⟩:=hD0;have:L0=aU:=h.B4 L0.length rfl w0 hw hd hk;subst this;have hk1:((bE t.ae e.au).kind==1)=false:=by simp[hmn,hmk]
     have fin:∀(s1:Hm) (mp:List (List Bytes)) (w:Int),oH (lK t.ae (lN l) f) t.ae (lN l) au L0 s e=lK t.ae (lN l) f e.au (L0++[e.name]) s1 ->
       (∀k,k≠e.au->dw s1.jN k=dw s.jN k)->dw s1.jN e.au=some w->w=dj l (jP (L0++[e.name]))->s1.whole=s.whole->s1.met=s.met+mp.length->(s1.jN.map Prod.fst).Nodup ->
       (mp.Nodup/\∀L,L∈mp↔L=L0++[e.name]/\∃p,p∈l/\p.aU=jP L) ->
       ∃ms,Down l t.ae au L0 (e::r) s (r.foldl (oH (lK t.ae (lN l) f) t.ae (lN l) au L0) (oH (lK t.ae (lN l) f) t.ae (lN l) au L0 s e)) ms:=by
      intro s1 mp w q0 q1 q2 q3 q4 q5 q6 q7;rw[q0]
      have hL1:∀k v,dw s1.jN k=some v->uH l t.ae k v:=fun k v hkv=>by
       by_cases hke:k=e.au
       ·subst hke;rw[q2] at hkv; cases hkv;refine⟨fun n hn hnk=>⟨_,wayE,q3⟩,fun n hn hnk=>?_,⟨m,hm⟩⟩
        rw[hm] at hn; cases hn;rw[hmk] at hnk; cases hnk
       ·rw[q1 k hke] at hkv; exact hL k v hkv
      have hmp1:∀L,L∈mp->L∈l.map vX:=fun L hLm=>by
       obtain⟨rfl,p,hp,hpj⟩:=(q7.2 L).1 hLm;exact hl.pathIn hnms h12 hp hpj
      have hnod:(m0++mp).Nodup:=kB.2 ⟨t2,q7.1,fun a ha b hb=>by
       rintro rfl;obtain⟨rfl,_⟩:=(q7.2 a).1 hb;exact t4 _ ha ⟨e,[],aD,rfl⟩⟩
      obtain⟨ms1,g1⟩:=ih e.au (L0++[e.name]) s1 m w hm hmk (by omega) wayE q2 hL1 q6 ⟨m0++mp,by rw[q5,t1]; simp; omega,hnod,fun L hLm=>(bT.1 hLm).elim (t3 L) (hmp1 L),fun L hLm ⟨x,B,hx,ex⟩=>by
       rcases bT.1 hLm with hLm|hLm
       ·exact t4 L hLm ⟨e,x.name::B,aD,by rw[ex]; simp⟩
       ·obtain⟨rfl,_⟩:=(q7.2 L).1 hLm;have:=congrArg List.length ex;simp at this⟩
      generalize lK t.ae (lN l) f e.au (L0++[e.name]) s1=s2 at g1 ⊢
      obtain⟨v2,hv2⟩:∃v2,dw s2.jN au=some v2:=by
       by_cases hie:au=e.au
       ·rw[hie]; exact g1.keys _ w q2
       ·exact g1.keys _ _ (by rw[q1 _ hie]; exact hv)
      have hms1:∀L,L∈ms1->L∈l.map vX:=fun L hLm=>by
       obtain⟨_,_,z,_,p,_,_,hwz,_,_,hp,hpj⟩:=g1.Mc L hLm;exact hl.pathIn (kS hwz) (h.pN hwz) hp hpj
      obtain⟨ms2,g2⟩:=ihl s2 v2 hr hp2 hv2 g1.Ic g1.nd ⟨m0++mp++ms1,by rw[g1.met,q5,t1]; simp; omega,kB.2 ⟨hnod,g1.mnd,fun a ha b hb=>by
        rintro rfl;obtain⟨x,B,_,_,_,_,ex,_⟩:=g1.Mc _ hb;rcases bT.1 ha with ha|ha
        ·exact t4 _ ha ⟨e,x.name::B,aD,by rw[ex]; simp⟩
        ·obtain⟨rfl,_⟩:=(q7.2 a).1 ha;have:=congrArg List.length ex;simp at this⟩,fun L hLm=>by
        rcases bT.1 hLm with hLm|hLm
        ·exact(bT.1 hLm).elim (t3 L) (hmp1 L)
        ·exact hms1 L hLm,fun L hLm ⟨x,B,hx,ex⟩=>by
        rcases bT.1 hLm with hLm|hLm
        ·rcases bT.1 hLm with hLm|hLm
         ·exact t4 L hLm ⟨x,B,aP _ hx,ex⟩
         ·obtain⟨rfl,_⟩:=(q7.2 L).1 hLm;have:=iy ex;injection this with this _
          exact hp1 x hx this.symm
        ·obtain⟨y,B',_,_,_,_,ey,_⟩:=g1.Mc _ hLm;rw[ey,da] at ex;have:=iy ex;rw[aX] at this;injection this with this _
         exact hp1 x hx this.symm⟩
      exact⟨mp++ms1++ms2,Down.dir h hd he hm hmk hw (fun x hx=>hp1 x hx) q1 ⟨w,q2⟩ q4 q5 q7 g1 g2⟩
     have jn:px (L0++[e.name])=jP (L0++[e.name]):=rh _;rcases hl.Xf (jP (L0++[e.name])) with ⟨j,p,hj,hpj,hg⟩|⟨hno,hg⟩
     ·refine fin ⟨kq (kq s.jN e.au ((dw s.jN au).getD 0)) e.au j,mM (s.met+1),s.whole⟩ [L0++[e.name]] j ?_ (fun k hk=>by simp[ga,hk]) (by simp[ga]) (by rw[<-hpj,hl.HJ hj]) rfl ?_ (tV _ _ _ (tV _ _ _ hnd)) ⟨by simp,fun L=>by
       simp only[eS];exact⟨fun hL=>⟨hL,p,aR hj,by rw[hL]; exact hpj⟩,fun hL=>hL.1⟩⟩
      ·unfold oH;rw[hk1,ak (by simp),jn,hg]
      ·have:=acR hl t2 t3;rw[show mM (s.met+1)=s.met+1 from gD (by omega) (by omega)]; simp
     ·refine fin ⟨kq s.jN e.au ((dw s.jN au).getD 0),s.met,s.whole⟩ [] (dj l (jP L0)) ?_ (fun k hk=>by simp[ga,hk]) (by simp[ga,hv]) (by rw[hl.LQ hnms h12 hno]) rfl (by simp) (tV _ _ _ hnd) ⟨by simp,fun L=>by
       simp only[List.not_mem_nil,false_iff];rintro⟨rfl,p,hp,hpj⟩;exact hno p hp hpj⟩
      ·unfold oH;rw[hk1,ak (by simp),jn,hg]
  refine key d.aN s v0 (fun e h=>h) (hasc.imp fun {a b} hab=>?_) hv hL hnd hM
  intro e;rw[e,iq] at hab;cases hab
end
section
variable {t:Tree} {cg:Int->Nat} {l:List Piece}
structure rC(l:List Piece)(ae:List Node):Prop where
 Ct:∀p,p∈l->∃z n,Way ae 1 (vX p) z/\find ae z=some n/\n.kind=2
 kept:∀i n,find ae i=some n->n.kind=1->∃d e,find ae d.au=some d/\d.kind=2/\e∈d.aN/\e.au=i
 one:ZW l ae
def jV.nd(hl:jV l):(l.map vX).Nodup:=by
 rw[List.Nodup,jr];refine List.Pairwise.imp_of_mem (fun {a b} ha hb hab e=>?_) hl.jx
 rw[hl.join ha,hl.join hb,e,iq] at hab;cases hab
def jV.nil(hl:jV l):[]∈l.map vX:=by
 obtain⟨p,r,rfl,hp⟩:=hl.fst;exact bS.2 ⟨p,aD,by rw[vX,hp]; rfl⟩
def jV.NI(hl:jV l):dj l (jP [])=0:=by
 obtain⟨p,r,rfl,hp⟩:=hl.fst;have:=hl.HJ (j:=0) (p:=p) rfl;rw[hp] at this; exact this
structure Found(l:List Piece)(t:Tree)(s:Hm)(ms:List (List Bytes)):Prop where
 Ic:∀k v,dw s.jN k=some v->uH l t.ae k v
 nd:(s.jN.map Prod.fst).Nodup
 Ct:∀i n,find t.ae i=some n->n.kind=2->∃v,dw s.jN i=some v
 all:∀i n e,find t.ae i=some n->e∈n.aN->∃v,dw s.jN e.au=some v
 own:s.whole=true->∀i d e n u,find t.ae i=some d->e∈d.aN->find t.ae e.au=some n->n.kind=1->Dh l t.ae i u->dw s.jN e.au=some u
 one:ZW l t.ae->s.whole=true
 met:s.met=1+ms.length
 mnd:ms.Nodup
 Mc:∀L,L∈ms->L≠[]/\∃z n p,Way t.ae 1 L z/\find t.ae z=some n/\n.kind=2/\p∈l/\p.aU=jP L
 N3:∀L z n p,L≠[]->Way t.ae 1 L z->find t.ae z=some n->n.kind=2->p∈l->p.aU=jP L->L∈ms
def Bj(h:cq t cg 0)(hl:jV l):∃ms,Found l t (sK l t.ae) ms:=by
 obtain⟨r,hr,hrk,_⟩:=h.root;have hw:Way t.ae 1 [] 1:=rfl
 obtain⟨ms,g⟩:=Nn h hl 14 1 [] ⟨[(1,0)],1,true⟩ r 0 hr hrk (by omega) hw rfl (fun k v hkv=>by
  simp only[dw] at hkv;split at hkv
  ·rename_i hk;cases hkv; subst hk;refine⟨fun n hn hnk=>⟨[],hw,by rw[hl.NI]; rfl⟩,fun n hn hnk=>?_,⟨r,hr⟩⟩
   rw[hr] at hn; cases hn;rw[hrk] at hnk; cases hnk
  ·cases hkv) (by simp) ⟨[],by simp,kK,by simp,by simp⟩
 have hne:(bE t.ae 1).aN=r.aN:=by simp[bE,hr]
 have hS:sK l t.ae=lK t.ae (lN l) 14 1 [] ⟨[(1,0)],1,true⟩:=rfl;rw[<-hS] at g;generalize sK l t.ae=s at g ⊢
 have clo:∀k v,dw s.jN k=some v->∀e,e∈(bE t.ae k).aN->∃w,dw s.jN e.au=some w:=fun k v hk e he=>by
  rcases g.new k v hk with ⟨w,hw⟩|⟨hc,_⟩
  ·simp only[dw] at hw;split at hw
   ·rename_i h1; subst h1;rw[hne] at he; exact g.all e he
   ·cases hw
  ·exact hc e he
 have reach:∀(L:List Bytes)(i j:Int),Way t.ae i L j->(∃v,dw s.jN i=some v)->∃v,dw s.jN j=some v:=by
  intro L;induction L with
  |nil=>intro i j hw hi; rw[Way] at hw; rw[<-hw]; exact hi
  |cons x L ih =>
   rintro i j ⟨d,e,h1,h2,h3,h4,h5⟩ ⟨v,hv⟩;refine ih _ _ h5 (clo i v hv e ?_);have:=(eB h4).1;simpa[bE,h1] using this
 have root:∃v,dw s.jN 1=some v:=g.keys 1 0 rfl
 have Ct:∀i n,find t.ae i=some n->n.kind=2->∃v,dw s.jN i=some v:=fun i n hi hk=>by
  obtain⟨L,hL,_⟩:=h.DE (cg i) i n hi hk rfl;exact reach L 1 i hL root
 have isd:∀i n e,find t.ae i=some n->e∈n.aN->n.kind=2:=fun i n e hi he=>by
  rcases h.kind _ _ hi with h1|h1
  ·rw[(h.file _ _ hi h1).1] at he; cases he
  ·exact h1
 refine⟨ms,g.Ic,g.nd,Ct,fun i n e hi he=>?_,fun hs i d e n u hd he hn hk hu=>?_,fun ho=>g.one ho rfl,g.met,g.mnd,fun L hL=>?_,fun L z n p hL hw hz hk hp hpj=>?_⟩
 ·obtain⟨v,hv⟩:=Ct i n hi (isd i n e hi he);exact clo i v hv e (by simpa[bE,hi] using he)
 ·obtain⟨v,hv⟩:=Ct i d hd (isd i d e hd he);rcases g.new i v hv with ⟨w,hw'⟩|⟨_,hc⟩
  ·simp only[dw] at hw';split at hw'
   ·rename_i h1; subst h1;rw[hr] at hd; cases hd;exact g.own hs e n he hn hk u hu
   ·cases hw'
  ·exact hc hs e n (by simpa[bE,hd] using he) hn hk u hu
 ·obtain⟨e,B,z,n,p,q1,q2,q3⟩:=g.Mc L hL;exact⟨by rw[q2]; simp,z,n,p,q3⟩
 ·cases L with
  |nil=>exact absurd rfl hL
  |cons x B =>
   obtain⟨d,e,h1,h2,h3,h4,h5⟩:=hw;rw[hr] at h1; cases h1;obtain⟨m1,m2⟩:=eB h4;have:=g.N3 e B z n p m1 (by rw[aY,m2]; exact⟨r,e,hr,h2,h3,h4,h5⟩) hz hk hp (by rw[aY,m2]; exact hpj)
   rw[aY,m2] at this;exact this
def zM{ae:List Node}(h:nM ae):(ae.map Node.au).Nodup:=by
 rw[List.Nodup,jr];exact h.imp fun {a b} hab=>by omega
def LK{α:Type}[DecidableEq α]{a b:List α}(ha:a.Nodup)(hs:∀x,x∈a->x∈b)(hl:b.length<=a.length)(x:α)(hx:x∈b):x∈a:=by
 by_cases h:x∈a
 ·exact h
 ·have:=tW (x::a) b (gZ.2 ⟨h,ha⟩) (fun y hy=>(bc.1 hy).elim (fun e=>e▸hx) (hs y))
  simp at this; omega
def uU(h:cq t cg 0)(hl:jV l):(kZ l t.ae).2=true↔rC l t.ae:=by
 obtain⟨ms,g⟩:=Bj h hl
 have hsub:∀x,x∈(sK l t.ae).jN.map Prod.fst->x∈t.ae.map Node.au:=fun x hx=>by
  obtain⟨v,hv⟩:=(xB _ _).1 hx;obtain⟨n,hn⟩:=(g.Ic _ _ hv).ex;exact bS.2 ⟨n,(cj hn).1,h.au hn⟩
 have hms:∀L,L∈[]::ms->L∈l.map vX:=fun L hL=>by
  rcases bc.1 hL with rfl|hL
  ·exact hl.nil
  ·obtain⟨_,z,n,p,q1,_,_,q4,q5⟩:=g.Mc L hL;exact hl.pathIn (kS q1) (h.pN q1) q4 q5
 have hnd:([]::ms).Nodup:=gZ.2 ⟨fun hx=>(g.Mc _ hx).1 rfl,g.mnd⟩
 simp only[kZ,bn,dR];rw[g.met];constructor
 ·rintro⟨w1,w2,w3⟩;refine⟨fun p hp=>?_,fun i n hi hk=>?_,fun d e d' e' n v w hd he hd' he' hee hn hk hv hw=>?_⟩
  ·have:=LK hnd hms (by simp; omega) (vX p) (bS.2 ⟨p,hp,rfl⟩)
   rcases bc.1 this with e|hL
   ·obtain⟨r,hr,hrk,_⟩:=h.root;exact⟨1,r,by rw[e]; rfl,hr,hrk⟩
   ·obtain⟨_,z,n,_,q1,q2,q3,_⟩:=g.Mc _ hL;exact⟨z,n,q1,q2,q3⟩
  ·have:=LK g.nd hsub (by simp; omega) i (bS.2 ⟨n,(cj hi).1,h.au hi⟩)
   obtain⟨v,hv⟩:=(xB _ _).1 this;obtain⟨d,e,q1,q2,q3,q4,_⟩:=(g.Ic _ _ hv).file n hi hk;exact⟨d,e,q1,q2,q3,q4⟩
  ·have a:=g.own w1 _ _ _ _ _ hd he hn hk hv;rw[hee] at a hn;have b:=g.own w1 _ _ _ _ _ hd' he' hn hk hw;rw[a] at b; injection b
 ·intro m;refine⟨g.one m.one,?_,?_⟩
  ·have h1:=tW _ _ hnd hms
   have h2:=tW (l.map vX) ([]::ms) hl.nd fun L hL=>by
    obtain⟨p,hp,rfl⟩:=bS.1 hL
    by_cases hL0:vX p=[]
    ·rw[hL0]; exact aD
    ·obtain⟨z,n,q1,q2,q3⟩:=m.Ct p hp;exact aP _ (g.N3 _ z n p hL0 q1 q2 q3 hp (hl.join hp))
   simp at h1 h2; omega
  ·have h1:=tW _ _ g.nd hsub
   have h2:=tW (t.ae.map Node.au) ((sK l t.ae).jN.map Prod.fst) (zM h.jE.jx) fun x hx=>by
    obtain⟨n,hn,rfl⟩:=bS.1 hx;have hf:=(fy h.jE.jx).2 ⟨hn,rfl⟩;rw[xB];rcases h.kind _ _ hf with hk|hk
    ·obtain⟨d,e,q1,_,q3,q4⟩:=m.kept _ _ hf hk;rw[<-q4];exact g.all _ _ _ q1 q3
    ·exact g.Ct _ _ hf hk
   simp at h1 h2; omega
def uS(l:List Piece)(ae:List Node)(i:Int):Int:=(dw (kZ l ae).1 i).getD 0
def pw(h:cq t cg 0)(hl:jV l)(m:rC l t.ae){i:Int}{n:Node}(hi:find t.ae i=some n):uH l t.ae i (uS l t.ae i):=by
 obtain⟨ms,g⟩:=Bj h hl
 have:∃v,dw (sK l t.ae).jN i=some v:=by
  rcases h.kind _ _ hi with hk|hk
  ·obtain⟨d,e,q1,_,q3,q4⟩:=m.kept _ _ hi hk;rw[<-q4];exact g.all _ _ _ q1 q3
  ·exact g.Ct _ _ hi hk
 obtain⟨v,hv⟩:=this;have e:uS l t.ae i=v:=by simp[uS,kZ,hv]
 rw[e];exact g.Ic _ _ hv
def Ie(h:cq t cg 0)(m:rC l t.ae){i v w:Int}(a:uH l t.ae i v)(b:uH l t.ae i w):v=w:=by
 obtain⟨n,hn⟩:=a.ex;rcases h.kind _ _ hn with hk|hk
 ·obtain⟨d,e,q1,q2,q3,q4,q5⟩:=a.file n hn hk;obtain⟨d',e',r1,r2,r3,r4,r5⟩:=b.file n hn hk;exact m.one d e d' e' n v w q1 q3 r1 r3 (q4.trans r4.symm) (by rw[q4]; exact hn) hk q5 r5
 ·exact h.Cs hn hk (a.dir n hn hk) (b.dir n hn hk)
end
section
variable {l l':List Piece}
def mJ(l:List Piece)(i:Nat):Piece:=(l[i]?).getD default
def mV(l:List Piece)(i:Nat)(e:Int):List Piece:=l.set i { mJ l i with dM:=e }
def rn(l:List Piece)(s:Bytes):Option Nat:=l.findIdx? fun p=>p.aU==s
def xQ(l:List Piece)(p:Piece):List Piece:=l.takeWhile (fun q=>strLt q.aU p.aU)++p::l.dropWhile (fun q=>strLt q.aU p.aU)
def mB(n:Int):Bool:=decide (0<=n)&&decide (n<8)
def uO(l:List Piece)(s:Bytes)(to:Int):List Piece×Int :=
 if mB to=false then (l,1)
 else if (bz s).2 != 0 then (l,(bz s).2)
 else match rn l s with
  |some _=>(l,71)
  |none=>if decide ((16:Int)<=l.length)||decide (1099511627776<=(mJ l (dj l s)).dM) then (l,76)
   else (xQ (mV l (dj l s) ((mJ l (dj l s)).dM+1)) ⟨s,to,(mJ l (dj l s)).dM+1⟩,0)
def lR(l:List Piece)(s:Bytes):List Piece×Int :=
 if (bz s).2 != 0 then (l,(bz s).2)
 else match rn l s with
  |none=>(l,180)
  |some 0=>(l,180)
  |some (a+1) =>
   let e:=max (mJ l (a+1)).dM (mJ l (dj l (fC s).2.1)).dM
   if 1099511627776<=e then (l,76) else ((mV l (dj l (fC s).2.1) (e+1)).eraseIdx (a+1),0)
def mY(l:List Piece)(s:Bytes)(to:Int):List Piece×Int :=
 if mB to=false then (l,1)
 else if (bz s).2 != 0 then (l,(bz s).2)
 else match rn l s with
  |none=>(l,180)
  |some a=>if 1099511627776<=(mJ l a).dM then (l,76) else (l.set a ⟨s,to,(mJ l a).dM+1⟩,0)
def pA{s:Bytes}{a:Nat}(h:rn l s=some a):∃p,l[a]?=some p/\p.aU=s:=by
 obtain⟨h1,h2,_⟩:=List.findIdx?_eq_some_iff_getElem.1 h;exact⟨_,aj h1,by simpa using h2⟩
def Dm{s:Bytes}(h:rn l s=none):∀p,p∈l->p.aU≠s:=fun p hp=>by
 have:=List.findIdx?_eq_none_iff.1 h p hp;simpa using this
def jV.of(hp:l'.map Piece.aU=l.map Piece.aU)(h:jV l)(ho:∀p,p∈l'->0<=p.group/\p.group<8/\1<=p.dM/\p.dM<=1099511627776):jV l':=by
 have eY:l'.length=l.length:=by have:=congrArg List.length hp; simpa using this
 refine⟨?_,by have:=h.many; omega,fun p hm=>?_,?_⟩
 ·obtain⟨p,r,rfl,hr⟩:=h.fst;cases l' with
  |nil=>cases eY
  |cons q r' =>
   refine⟨q,r',rfl,?_⟩;simp only[aW] at hp;injection hp with hp _
   rw[hp]; exact hr
 ·refine⟨?_,ho p hm⟩;have:p.aU∈l.map Piece.aU:=by rw[<-hp]; exact bS.2 ⟨p,hm,rfl⟩
  obtain⟨q,hq,e⟩:=bS.1 this;rw[<-e]; exact(h.ok q hq).1
 ·have h1:=h.jx;rw[<-jr (f:=Piece.aU) (R:=fun a b=>strLt a b=true)] at h1 ⊢
  rw[hp]; exact h1
def xl(l:List Piece)(i:Nat)(e:Int):(mV l i e).map Piece.aU=l.map Piece.aU:=by
 apply cS;intro k;rw[mV,kW,List.getElem?_set];split
 ·rename_i hk;subst hk;rw[aZ];simp only[aI];split
  ·rename_i cu;simp[mJ,aj cu]
  ·rename_i cu;rw[eJ (by omega)]; rfl
 ·rfl
def qh{i:Nat}(h:i<l.length):mJ l i∈l:=by
 simp[mJ,aj h]
def jV.bump(h:jV l){i:Nat}{e:Int}(h1:1<=e)(h2:e<=1099511627776):jV (mV l i e):=by
 refine jV.of (xl l i e) h fun p hp=>?_
 rcases bH i l.length with hi|hi
 ·rcases kX hp with hp|rfl
  ·exact(h.ok p hp).2
  ·have:=(h.ok _ (qh hi)).2;exact⟨this.1,this.2.1,h1,h2⟩
 ·rw[mV,List.set_eq_of_length_le hi] at hp;exact(h.ok p hp).2
def Bi(s:Bytes):∀(l l':List Piece)(i b:Nat),l'.map Piece.aU=l.map Piece.aU->qq s l' i b=qq s l i b
 | [],[],_,_,_=>rfl
 | [],_::_,_,_,h=>by cases h
 |_::_,[],_,_,h=>by cases h
 |p::r,p'::r',i,b,h=>by
  simp only[aW] at h;injection h with h1 h2
  rw[qq,qq,h1,Bi s r r' _ _ h2]
def Kc(h:l'.map Piece.aU=l.map Piece.aU)(s:Bytes):dj l' s=dj l s:=Bi s l l' 0 0 h
def jV.r8(h:jV l){s:Bytes}(hs:(bz s).2=0):dj l s<l.length:=by
 obtain⟨p,hp,_⟩:=h.home hs;exact aF hp
def Qw(l:List Piece)(p:Piece):(xQ l p).length=l.length+1:=by
 have h:=congrArg List.length (List.takeWhile_append_dropWhile (p:=fun q:Piece=>strLt q.aU p.aU) (l:=l))
 rw[aK] at h;simp only[xQ,aK,av]; omega
theorem S8{p q:Piece}:q∈xQ l p↔q=p\/q∈l:=by
 have:q∈l↔q∈l.takeWhile (fun q=>strLt q.aU p.aU)\/q∈l.dropWhile (fun q=>strLt q.aU p.aU):=by
  rw[<-bT,List.takeWhile_append_dropWhile]
 rw[this];simp only[xQ,bT,bc]
 grind
def Cx{s:Bytes}:∀ {l:List Piece},l.Pairwise (fun a b=>strLt a.aU b.aU=true)->∀q,q∈l.dropWhile (fun q=>strLt q.aU s)->strLt q.aU s=false
 | [],_,q,hq=>by simp at hq
 |p::r,h,q,hq=>by
  obtain⟨h1,h2⟩:=bG.1 h;rw[lg] at hq;split at hq
  ·exact Cx h2 q hq
  ·rename_i hp;have hp:strLt p.aU s=false:=by simpa using hp
   rcases bc.1 hq with rfl|hq
   ·exact hp
   ·cases hc:strLt q.aU s with
    |false=>rfl
    |true =>
     have:=qO (h1 q hq) hc;rw[hp] at this; cases this
def jV.ins(h:jV l){p:Piece}(hn:∀q,q∈l->q.aU≠p.aU)(eY:l.length<16)(hp:(bz p.aU).2=0/\0<=p.group/\p.group<8/\1<=p.dM/\p.dM<=1099511627776):jV (xQ l p):=by
 refine⟨?_,by rw[Qw]; omega,fun q hq=>?_,?_⟩
 ·obtain⟨p0,r,rfl,h0⟩:=h.fst
  have cu:strLt p0.aU p.aU=true:=by
   rw[h0];have hj:p.aU=jP (vX p):=uX (fF rfl hp.1);have hne:vX p≠[]:=fun e=>hn p0 aD (by rw[h0,hj,e]; rfl)
   obtain⟨x,hx,e⟩:=Kh (A:=[]) (B:=vX p) (by simp) (dD hne) (Dd _)
   rw[hj,e];exact AV _ _ hx
  refine⟨p0,r.takeWhile (fun q=>strLt q.aU p.aU)++p::r.dropWhile (fun q=>strLt q.aU p.aU),?_,h0⟩
  simp[xQ,cu]
 ·rcases S8.1 hq with rfl|hq
  ·exact hp
  ·exact h.ok q hq
 ·have hT:∀q,q∈l.takeWhile (fun q=>strLt q.aU p.aU)->strLt q.aU p.aU=true:=fun q hq=>by
   have:=List.all_takeWhile (p:=fun q:Piece=>strLt q.aU p.aU) (l:=l)
   exact bw.1 this q hq
  have hD:∀q,q∈l.dropWhile (fun q=>strLt q.aU p.aU)->strLt p.aU q.aU=true:=fun q hq=>by
   have h1:=Cx h.jx q hq;rcases qN p.aU q.aU with g|g|g
   ·exact g
   ·exact absurd g.symm (hn q (List.dropWhile_subset _ hq))
   ·rw[h1] at g; cases g
  unfold xQ;refine dz.2 ⟨h.jx.sublist (List.takeWhile_sublist _),bG.2 ⟨hD,h.jx.sublist (List.dropWhile_sublist _)⟩,fun a ha b hb=>?_⟩
  rcases bc.1 hb with rfl|hb
  ·exact hT a ha
  ·exact qO (hT a ha) (hD b hb)
def BO(h:jV l){s:Bytes}{to:Int}:jV (uO l s to).1:=by
 unfold uO;split
 ·exact h
 rename_i hg;split
 ·exact h
 rename_i hs;have hs:(bz s).2=0:=by simpa using hs
 split
 ·exact h
 rename_i hno;split
 ·exact h
 rename_i hm;simp only[cN,bu,kL,Int.not_le] at hm;have cu:=h.r8 hs;have hok:=h.ok _ (qh cu);have hb:=h.bump (i:=dj l s) (e:=(mJ l (dj l s)).dM+1) (by omega) (by omega)
 simp only[mB,kx,bn,bu] at hg;refine hb.ins (fun q hq e=>?_) (by simp[mV]; omega) ⟨hs,hg.1,hg.2,by simp only; omega,by simp only; omega⟩
 have:q.aU∈l.map Piece.aU:=by rw[<-xl l (dj l s) ((mJ l (dj l s)).dM+1)]; exact bS.2 ⟨q,hq,rfl⟩
 obtain⟨q',hq',e'⟩:=bS.1 this;exact Dm hno q' hq' (e'.trans e)
def Da{s:Bytes}{to:Int}:(mY l s to).1.map Piece.aU=l.map Piece.aU:=by
 unfold mY;split
 ·rfl
 split
 ·rfl
 split
 ·rfl
 rename_i a ha;split
 ·rfl
 obtain⟨p,hp,rfl⟩:=pA ha;apply cS;intro k;rw[kW,List.getElem?_set];split
 ·rename_i hk;subst hk;rw[aZ,hp];simp[aF hp]
 ·rfl
def S9(h:jV l){s:Bytes}{to:Int}:jV (mY l s to).1:=by
 refine jV.of Da h fun p hp=>?_
 unfold mY at hp;split at hp
 ·exact(h.ok p hp).2
 rename_i hg;split at hp
 ·exact(h.ok p hp).2
 split at hp
 ·exact(h.ok p hp).2
 rename_i a ha;split at hp
 ·exact(h.ok p hp).2
 rename_i he;simp only[mB,kx,bn,bu] at hg;obtain⟨q,hq,_⟩:=pA ha;have:=(h.ok _ (qh (aF hq))).2;rcases kX hp with hp|rfl
 ·exact(h.ok p hp).2
 ·exact⟨hg.1,hg.2,by simp only; omega,by simp only; omega⟩
def Iu{ae:List Node}(hp:l'.map Piece.aU=l.map Piece.aU)(m:rC l ae):rC l' ae:=by
 refine⟨fun p hpm=>?_,m.kept,fun d e d' e' n v w h1 h2 h3 h4 h5 h6 h7 h8 h9=>?_⟩
 ·have:p.aU∈l.map Piece.aU:=by rw[<-hp]; exact bS.2 ⟨p,hpm,rfl⟩
  obtain⟨q,hq,e⟩:=bS.1 this;obtain⟨z,n,q1⟩:=m.Ct q hq;exact⟨z,n,by rw[vX,<-e]; exact q1⟩
 ·obtain⟨L,a1,a2⟩:=h8;obtain⟨L',b1,b2⟩:=h9;rw[Kc hp] at a2 b2;exact m.one d e d' e' n v w h1 h2 h3 h4 h5 h6 h7 ⟨L,a1,a2⟩ ⟨L',b1,b2⟩
def jV.erase(h:jV l)(a:Nat):jV (l.eraseIdx (a+1)):=by
 obtain⟨p,r,rfl,hp⟩:=h.fst;refine⟨⟨p,r.eraseIdx a,rfl,hp⟩,?_,fun q hq=>h.ok q (List.mem_of_mem_eraseIdx hq),h.jx.sublist (List.eraseIdx_sublist _ _)⟩
 have:=(List.eraseIdx_sublist (p::r) (a+1)).length_le;have:=h.many;omega
def jV.CR(h:jV l){a:Nat}{pa:Piece}(ha:l[a+1]?=some pa){P:List Bytes}{x:Bytes}(hx:vX pa=P++[x]){s:Bytes}(hs:(bz s).2=0) :
  dj (l.eraseIdx (a+1)) s=if dj l s=a+1 then dj l (jP P) else if dj l s<a+1 then dj l s else dj l s-1:=by
 have hpm:=aR ha;have hno:=Dd pa.aU;have h12:=(lB pa.aU).2;rw[show(bz pa.aU).1=P++[x] from hx] at hno h12
 have sP:bz (jP P)=(P,0):=ke (fun y hy=>hno y (eR _ hy)) (by simp at h12; omega)
 obtain⟨p,h1,h2,h3⟩:=h.home hs;have ge:∀k,(l.eraseIdx (a+1))[k]?=if k<a+1 then l[k]? else l[k+1]?:=fun k=>List.getElem?_eraseIdx
 split
 ·rename_i he;rw[he] at h1 h3;rw[ha] at h1; cases h1;obtain⟨u,u1,u2,u3⟩:=h.home (s:=jP P) (by rw[sP])
  have hPs:P <+: (bz s).1:=by
   have:=(ng.1 h2).2.2;rw[show(bz pa.aU).1=P++[x] from hx] at this
   exact(j4 _ _).trans this
  have hua:jM u.aU s=true:=by
   rw[ng] at u2 ⊢;rw[sP] at u2;exact⟨u2.1,hs,u2.2.2.trans hPs⟩
  have hle:=h3 _ _ u1 hua
  have hne:dj l (jP P)≠a+1:=fun e=>by
   rw[e,ha] at u1; cases u1;have:=(ng.1 u2).2.2;rw[sP,show(bz pa.aU).1=P++[x] from hx] at this
   have:=this.length_le;simp at this;omega
  refine uT (h.erase a) hs (by rw[ge,az (by omega)]; exact u1) hua fun k q hk hq=>?_
  rw[ge] at hk;split at hk
  ·rename_i cu;refine u3 k q hk ?_;rw[ng] at hq ⊢;have hl:=(h.Ky cu hk ha (ng.2 hq) h2).1;rw[hx] at hl;rw[sP];refine⟨hq.1,rfl,?_⟩;rcases List.prefix_concat_iff.1 hl with e|e
   ·exfalso;have:=h.only hk ha (by rw[h.join (aR hk),h.join hpm,e,hx])
    omega
   ·exact e
  ·have:=h3 _ _ hk hq;omega
 ·rename_i hne
  have up:∀k q,(l.eraseIdx (a+1))[k]?=some q->jM q.aU s=true->(if k<a+1 then k else k+1)<=dj l s:=fun k q hk hq=>by
   rw[ge] at hk;split at hk
   ·rename_i cu; rw[az cu]; exact h3 k q hk hq
   ·rename_i cu; rw[ak cu]; exact h3 _ q hk hq
  split
  ·rename_i cu;refine uT (h.erase a) hs (by rw[ge,az cu]; exact h1) h2 fun k q hk hq=>?_
   have:=up k q hk hq;split at this<;>omega
  ·rename_i hge;refine uT (h.erase a) hs (by rw[ge,ak (by omega),show dj l s-1+1=dj l s by omega]; exact h1) h2 fun k q hk hq=>?_
   have:=up k q hk hq;split at this<;>omega
def N4{t:Tree}{cg:Int->Nat}(ht:cq t cg 0)(h:jV l){a:Nat}{pa:Piece}(ha:l[a+1]?=some pa)(m:rC l t.ae):rC (l.eraseIdx (a+1)) t.ae:=by
 have hne:vX pa≠[]:=fun e=>by
  obtain⟨p,r,rfl,hp⟩:=h.fst;have:=h.only (i:=a+1) (j:=0) ha rfl (by rw[h.join (aR ha),e,hp]; rfl)
  omega
 obtain⟨P,x,hx⟩:∃P x,vX pa=P++[x]:=⟨_,_,(List.dropLast_concat_getLast hne).symm⟩;refine⟨fun p hp=>m.Ct p (List.mem_of_mem_eraseIdx hp),m.kept,fun d e d' e' n v w h1 h2 h3 h4 h5 h6 h7 h8 h9=>?_⟩
 obtain⟨L,a1,rfl⟩:=h8;obtain⟨L',b1,rfl⟩:=h9;have hs:(bz (jP L)).2=0:=by rw[ke (kS a1) (ht.pN a1)]
 have hs':(bz (jP L')).2=0:=by rw[ke (kS b1) (ht.pN b1)]
 have:=m.one d e d' e' n _ _ h1 h2 h3 h4 h5 h6 h7 ⟨L,a1,rfl⟩ ⟨L',b1,rfl⟩;rw[h.CR ha hx hs,h.CR ha hx hs'];have e0:dj l (jP L)=dj l (jP L'):=by exact_mod_cast this
 rw[e0]
def QA(h:jV l){s:Bytes}:jV (lR l s).1:=by
 unfold lR;split
 ·exact h
 rename_i hs;have hs:(bz s).2=0:=by simpa using hs
 split
 ·exact h
 ·exact h
 rename_i a ha;simp only;split
 ·exact h
 rename_i he;obtain⟨p,hp,_⟩:=pA ha;have cu:a+1<l.length:=aF hp;have:=(h.ok _ (qh cu)).2;exact(h.bump (by omega) (by omega)).erase a
def S6{t:Tree}{cg:Int->Nat}(ht:cq t cg 0)(h:jV l){s:Bytes}(m:rC l t.ae):rC (lR l s).1 t.ae:=by
 unfold lR;split
 ·exact m
 rename_i hs;split
 ·exact m
 ·exact m
 rename_i a ha;simp only;split
 ·exact m
 rename_i he;obtain⟨p,hp,_⟩:=pA ha;have cu:a+1<l.length:=aF hp;have:=(h.ok _ (qh cu)).2;have hb:=h.bump (i:=dj l (fC s).2.1) (e:=max (mJ l (a+1)).dM (mJ l (dj l (fC s).2.1)).dM+1) (by omega) (by omega)
 have hm:=Iu (xl l (dj l (fC s).2.1) (max (mJ l (a+1)).dM (mJ l (dj l (fC s).2.1)).dM+1)) m
 have hl:a+1<(mV l (dj l (fC s).2.1) (max (mJ l (a+1)).dM (mJ l (dj l (fC s).2.1)).dM+1)).length:=by
  have:=aF hp;simpa[mV] using this
 exact N4 ht hb (aj hl) hm
end
section
variable {t:Tree} {cg:Int->Nat} {l:List Piece}
def ko(l:List Piece)(ae:List Node)(i:Int):Int:=(mJ l (uS l ae i).toNat).group
def qu(k:Node->Int)(ae:List Node):List qy:=(List.range 8).filterMap fun(g:Nat)=>if (ae.filter fun n=>k n==(g:Int)).isEmpty=true then none else some ⟨g,ae.filter fun n=>k n==(g:Int)⟩
def bm(l:List Piece)(t:Tree):wb:=⟨l,qu (fun n=>ko l t.ae n.au) t.ae,t.next,t.ai⟩
def wH{α:Type}(p q:α->Bool)(hpq:∀x,p x=true->q x=false):∀ns:List α,(ns.filter p++ns.filter q).Perm (ns.filter fun x=>p x||q x)
 | []=>by simp
 |a::ns=>by
  have ih:=wH p q hpq ns;cases hp:p a with
  |true=>simpa[ib,hp,hpq a hp] using ih
  |false =>
   cases hq:q a with
   |true =>
    simp only[ib,hp,hq,af,aw,aE,dJ];exact List.perm_middle.trans (ih.cons a)
   |false=>simpa[ib,hp,hq] using ih
def C5(k:Node->Int)(ae:List Node):∀m:Nat,(((List.range m).filterMap fun(g:Nat)=>if (ae.filter fun n=>k n==(g:Int)).isEmpty=true then none else some (qy.mk g (ae.filter fun n=>k n==(g:Int)))).flatMap qy.ae).Perm (ae.filter fun n=>decide (0<=k n)&&decide (k n<m))
 |0=>by
  simp only[List.range_zero,jY,List.flatMap_nil];rw[List.filter_eq_nil_iff.2 ?_];intro a _;simp
 |m+1=>by
  rw[om,kj,jG];have ih:=C5 k ae m
  have e:([m].filterMap fun(g:Nat)=>if (ae.filter fun n=>k n==(g:Int)).isEmpty=true then none else some (qy.mk g (ae.filter fun n=>k n==(g:Int)))).flatMap qy.ae=ae.filter fun n=>k n==(m:Int):=by
   simp only[lj,jY];split
   ·rename_i h;split at h
    ·rename_i h1;rw[List.isEmpty_iff.1 h1]; simp
    ·cases h
   ·rename_i x h;split at h
    ·cases h
    ·cases h; simp
  rw[e];refine(ih.append_right _).trans ((wH _ _ (fun x hx=>?_) ae).trans (List.Perm.of_eq ?_))
  ·simp only[bn,bu] at hx;simp; omega
  ·apply List.filter_congr;intro x _;rw[eh];simp only[cN,bn,bu,dR];omega
def Il(k:Node->Int)(ae:List Node)(hk:∀n,n∈ae->0<=k n/\k n<8):((qu k ae).flatMap qy.ae).Perm ae:=by
 refine(C5 k ae 8).trans (List.Perm.of_eq ?_);apply gv.2;intro n hn;have:=hk n hn;simp only[bn,bu];exact⟨this.1,by exact_mod_cast this.2⟩
def Dh.lt(h:cq t cg 0)(hl:jV l){i v:Int}(d:Dh l t.ae i v):0<=v/\v.toNat<l.length:=by
 obtain⟨L,h1,rfl⟩:=d;have:=hl.r8 (s:=jP L) (by rw[ke (kS h1) (h.pN h1)])
 simp; omega
def uH.dh(h:cq t cg 0){i v:Int}(a:uH l t.ae i v):∃k,Dh l t.ae k v:=by
 obtain⟨n,hn⟩:=a.ex;rcases h.kind _ _ hn with hk|hk
 ·obtain⟨d,_,_,_,_,_,q⟩:=a.file n hn hk;exact⟨_,q⟩
 ·exact⟨_,a.dir n hn hk⟩
def aa0(h:cq t cg 0)(hl:jV l)(m:rC l t.ae){n:Node}(hn:n∈t.ae):0<=ko l t.ae n.au/\ko l t.ae n.au<8:=by
 have hf:=(fy h.jE.jx).2 ⟨hn,rfl⟩;obtain⟨k,q⟩:=(pw h hl m hf).dh h;have:=(hl.ok _ (qh (q.lt h hl).2)).2;exact⟨this.1,this.2.1⟩
def tf(h:cq t cg 0)(hl:jV l)(m:rC l t.ae):((bm l t).er.flatMap qy.ae).Perm t.ae :=
 Il _ _ fun _ hn=>aa0 h hl m hn
def Pp{a b:List Node}(ha:nM a)(hb:nM b)(h:a.Perm b):a=b:=BN ha hb fun m=>h.mem_iff
end
section
variable {t:Tree} {cg:Int->Nat} {l:List Piece}
def UQ(a b:Bytes):Bool:=(jB a).2==0&&((jB b).2==0&&(jB a).1.isPrefixOf (jB b).1)
def Ld(a b:Bytes):UQ a b=jM a b:=by unfold UQ jM; rw[ud,ud]
def yh(all:List Piece)(s:Bytes):List Piece->Nat->Nat->Nat
 | [],_,b=>b
 |p::r,i,b=>yh all s r (i+1) (if UQ p.aU s&&decide (((mJ all b).aU.length:Int)<=p.aU.length) then i else b)
def ofD(l:List Piece)(s:Bytes):Int×Int:=if (jB s).2 != 0 then (0,60) else (yh l s l 0 0,0)
def zW(hl:jV l){s:Bytes}(hs:(bz s).2=0):∀(r pre:List Piece)(b:Nat)(q:Piece),l=pre++r->l[b]?=some q->jM q.aU s=true->b<=pre.length->yh l s r pre.length b=qq s r pre.length b
 | [],_,_,_,_,_,_,_=>rfl
 |p::r,pre,b,q,h,hb,hq,hle=>by
  rw[yh,qq,Ld];have hp:l[pre.length]?=some p:=by rw[h]; simp
  have hbq:mJ l b=q:=by simp[mJ,hb]
  by_cases ha:jM p.aU s=true
  ·have eY:q.aU.length<=p.aU.length:=by
    rcases bH b pre.length with cu|hge
    ·exact(hl.Ky cu hb hp hq ha).2
    ·have:b=pre.length:=by omega
     subst this;rw[hb] at hp; cases hp; exact ar _
   rw[az (by rw[ha,hbq]; simpa using eY),az ha]
   have:=zW hl hs r (pre++[p]) pre.length p (by rw[h]; simp) hp ha (by simp)
   simpa using this
  ·rw[ak (by simp[ha]),ak ha]
   have:=zW hl hs r (pre++[p]) b q (by rw[h]; simp) hb hq (by simp; omega)
   simpa using this
def KF(hl:jV l){s:Bytes}(hs:(bz s).2=0):ofD l s=((dj l s:Int),0):=by
 unfold ofD;rw[ud,ak (by simp[hs])]
 obtain⟨p,r,e,hp⟩:=hl.fst;have h0:l[0]?=some p:=by rw[e]; rfl
 have:=zW hl hs l [] 0 p rfl h0 (by rw[hp]; exact Ca hs) (ar _)
 simp only[aH] at this;rw[this]; rfl
def lL(au:Int)(ns:List Bytes)(e:eD):List Bytes:=if e.au==au then e.name::ns else ns
def Gv(ae:List Node):Nat->Int->List Bytes->List Bytes
 |0,_,ns=>ns
 |m+1,au,ns=>if au != 1 then Gv ae m (bE ae au).up ((bE ae (bE ae au).up).aN.foldl (lL au) ns) else ns
def TG(ae:List Node)(au:Int):Bytes:=Ev (Gv ae ae.length au [])
def EZ(au:Int):∀(es:List eD)(ns:List Bytes),nb es au=0->es.foldl (lL au) ns=ns
 | [],_,_=>rfl
 |e::es,ns,h=>by
  rw[rL] at h;rw[bB,lL,ak (by simp; intro hc; rw[az hc] at h; omega)]
  exact EZ au es ns (by omega)
def Dk(au:Int):∀(es:List eD)(ns:List Bytes)(e:eD),e∈es->e.au=au->nb es au<=1->es.foldl (lL au) ns=e.name::ns
 |x::es,ns,e,he,hi,h=>by
  rw[rL] at h;rw[bB];rcases bc.1 he with rfl|he
  ·rw[az hi] at h;rw[lL,az (by simpa using hi),EZ au es _ (by omega)]
  ·have:0<nb es au:=Cq.2 ⟨e,he,hi⟩
   by_cases hx:x.au=au
   ·rw[az hx] at h; omega
   ·rw[lL,ak (by simpa using hx)]
    exact Dk au es ns e he hi (by omega)
def wD{n:Node}(i:Int):∀ {ns:List Node},n∈ns->nb n.aN i<=qR ns i
 |m::ns,h=>by
  rw[qY];rcases bc.1 h with rfl|h
  ·omega
  ·have:=wD (n:=n) i h; omega
def IE(h:cq t cg 0):∀(m:Nat)(L:List Bytes)(au:Int)(ns:List Bytes)(n:Node),Way t.ae 1 L au->find t.ae au=some n->n.kind=2->L.length<=m->Gv t.ae m au ns=L++ns
 |0,L,au,ns,n,hw,hi,hk,hm=>by
  have:L=[]:=cp (by omega)
  subst this; rfl
 |m+1,L,au,ns,n,hw,hi,hk,hm=>by
  rw[Gv]
  by_cases h1:au=1
  ·rw[ak (by simp[h1])]
   obtain⟨r,hr,hrk,_⟩:=h.root;subst h1;have:L=[]:=h.B4 L.length rfl hw (L':=[]) rfl hr hrk;subst this; rfl
  ·rw[az (by simpa using h1)]
   rcases eI L with rfl|⟨P,x,rfl⟩
   ·exact absurd hw.symm h1
   ·rw[fe] at *;obtain⟨p,hp,d,e,hd,hdk,hx,he,hee⟩:=iw.1 hw;rw[Way] at hee;obtain⟨he1,he2⟩:=eB he;obtain⟨m',hm',hu,_⟩:=h.step hd he;rw[hee,hi] at hm'; cases hm';have hup:n.up=p:=(hu hk).1;have hn:bE t.ae au=n:=by simp[bE,hi]
    have hd':bE t.ae p=d:=by simp[bE,hd]
    have hc:nb d.aN au<=1:=by
     have q1:=wD (n:=d) au (cj hd).1;have q2:=h.one _ _ hi hk h1;have q3:=h.dp _ _ hi;have q4:=(h.num _ _ hi).1;rw[q2,ak (by omega)] at q3
     omega
    rw[hn,hup,hd',Dk au d.aN ns e he1 hee hc,he2,IE h m P p (x::ns) d hp hd hdk (by simp at hm; omega)]
    simp
def IC(h:cq t cg 0){L:List Bytes}{au:Int}{n:Node}(hw:Way t.ae 1 L au)(hi:find t.ae au=some n)(hk:n.kind=2):TG t.ae au=jP L:=by
 have hl:L.length<=t.ae.length:=by
  obtain⟨r,hr,hrk,_⟩:=h.root;have e:=h.th hw hr hrk hi hk;have:=h.ym hi hk;rw[h.zd] at e; omega
 rw[TG,IE h _ L au [] n hw hi hk hl,bW,CV]
def vL(own o:Int):Int:=if o == -1 then own else if o != own then -2 else o
def qc(own:Int)(e:eD)(ae:List Node)(out:List Int):List Int:=List.zipWith (fun n o=>if n.au != e.au||n.kind != 1 then o else vL own o) ae out
def vG(l:List Piece)(ae:List Node)(d:Node):Int:=(ofD l (TG ae d.au)).1
def pJ(l:List Piece)(ae:List Node)(s:Nat×List Int)(d:Node):Nat×List Int :=
 (s.1+1,if d.kind != 2 then s.2 else d.aN.foldl (fun o e=>qc (vG l ae d) e ae o) (s.2.set s.1 (vG l ae d)))
def sd(l:List Piece)(ae:List Node):List Int:=(ae.foldl (pJ l ae) (0,ae.map fun _ => -1)).2
def Di(own:Int)(i:Int)(es:List eD):List Int:=es.filterMap fun e=>if e.au=i then some own else none
def EX(l:List Piece)(ae:List Node)(i:Int)(ds:List Node):List Int:=ds.flatMap fun d=>if d.kind=2 then Di (vG l ae d) i d.aN else []
def BK(l:List Piece)(ae:List Node)(ds:List Node)(n:Node):Int:=(EX l ae n.au ds).foldl (fun o own=>vL own o) (-1)
def It(own:Int)(e:eD)(f:Node->Int):∀ae:List Node,qc own e ae (ae.map f)=ae.map fun n=>if n.au=e.au/\n.kind=1 then vL own (f n) else f n
 | []=>rfl
 |n::ns=>by
  have ih:=It own e f ns;simp only[qc,aW,List.zipWith_cons_cons] at ih ⊢;rw[ih];congr 1
  by_cases h1:n.au=e.au<;>by_cases h2:n.kind=1<;>simp[h1,h2]
def EJ(own:Int)(ae:List Node):∀(es:List eD)(f:Node->Int),es.foldl (fun o e=>qc own e ae o) (ae.map f)=ae.map fun n=>if n.kind=1 then (Di own n.au es).foldl (fun o own=>vL own o) (f n) else f n
 | [],f=>by simp[Di]
 |e::es,f=>by
  rw[bB,It,EJ own ae es];apply bX;intro n _
  by_cases h2:n.kind=1
  ·by_cases h1:n.au=e.au
   ·simp[h1,h2,Di]
   ·simp[h1,h2,Di,dD h1]
  ·simp[h2]
def E0(h:cq t cg 0):∀(ds pre:List Node),t.ae=pre++ds->ds.foldl (pJ l t.ae) (pre.length,t.ae.map fun n=>if n.kind=2 then (if n∈pre then vG l t.ae n else -1) else BK l t.ae pre n) =
  (t.ae.length,t.ae.map fun n=>if n.kind=2 then vG l t.ae n else BK l t.ae t.ae n)
 | [],pre,e=>by
  rw[bW] at e;rw[gS,<-e];refine fF rfl ?_;apply bX;intro n hn;simp[hn]
 |d::ds,pre,e=>by
  have hnd:t.ae.Nodup:=h.jE.jx.imp fun {a b} hab hc=>by rw[hc] at hab; omega
  have hdp:d∉pre:=by
   rw[e] at hnd;have:=(kB.1 hnd).2.2;exact fun hd=>this d hd d aD rfl
  have hfile:∀n,n∈t.ae->n.kind=1\/n.kind=2:=fun n hn=>h.kind _ _ ((fy h.jE.jx).2 ⟨hn,rfl⟩)
  rw[bB];have hgo:=E0 h ds (pre++[d]) (by rw[e]; simp)
  have eY:(pre++[d]).length=pre.length+1:=by simp
  rw[eY] at hgo;rw[<-hgo];congr 1;unfold pJ;refine fF rfl ?_;simp only
  by_cases hk:d.kind=2
  ·rw[ak (by simp[hk])]
   have hset:(t.ae.map fun n=>if n.kind=2 then (if n∈pre then vG l t.ae n else -1) else BK l t.ae pre n).set pre.length (vG l t.ae d) =
     t.ae.map fun n=>if n.kind=2 then (if n∈pre++[d] then vG l t.ae n else -1) else BK l t.ae pre n:=by
    apply cS;intro i;rw[List.getElem?_set];split
    ·rename_i hi;subst hi;rw[aZ,e];simp[hk]
    ·rename_i hi;rw[aZ,aZ];cases hx:t.ae[i]? with
     |none=>rfl
     |some n =>
      have hne:n≠d:=by
       rintro rfl;have hd:t.ae[pre.length]?=some n:=by rw[e]; simp
       exact hi (Z0 h.jE.jx hd hx rfl)
      simp[hne]
   rw[hset,EJ];apply bX;intro n hn;rcases hfile n hn with h1|h1
   ·rw[az h1,ak (by omega),ak (by omega)]
    simp[BK,EX,hk,jo]
   ·rw[ak (by omega),az h1,az h1]
  ·rw[az (by simpa using hk)]
   apply bX;intro n hn;rcases hfile n hn with h1|h1
   ·rw[ak (by omega),ak (by omega)]
    simp[BK,EX,hk]
   ·have:n≠d:=by rintro rfl; exact hk h1
    rw[az h1,az h1];simp[this]
def AF(h:cq t cg 0):sd l t.ae=t.ae.map fun n=>if n.kind=2 then vG l t.ae n else BK l t.ae t.ae n:=by
 have:=E0 (l:=l) h t.ae [] rfl;unfold sd
 have e0:(t.ae.map fun _=>(-1:Int))=t.ae.map fun n=>if n.kind=2 then (if n∈([]:List Node) then vG l t.ae n else -1) else BK l t.ae [] n:=by
  apply bX;intro n _;simp[BK,EX]
 rw[e0];exact congrArg Prod.snd this
def MI:∀ws:List Int,ws.foldl (fun o own=>vL own o) (-2) = -2\/∃w,w∈ws/\w = -2
 | [] => .inl rfl
 |w::ws=>by
  rw[bB]
  by_cases hw:w = -2
  ·exact .inr ⟨w,aD,hw⟩
  ·have:vL w (-2) = -2:=by unfold vL; rw[ak (by decide),az (by simp; omega)]
   rw[this];rcases MI ws with g|⟨x,hx,g⟩
   ·exact .inl g
   ·exact .inr ⟨x,aP _ hx,g⟩
def MH{v:Int}(hv:0<=v):∀ws:List Int,(∀w,w∈ws->0<=w)->(ws.foldl (fun o own=>vL own o) v=v/\∀w,w∈ws->w=v)\/(ws.foldl (fun o own=>vL own o) v = -2/\∃w,w∈ws/\w≠v)
 | [],_ => .inl ⟨rfl,by simp⟩
 |w::ws,h=>by
  rw[bB];have h2:=fun x hx=>h x (aP _ hx)
  by_cases hw:w=v
  ·subst hw;have:vL w w=w:=by unfold vL; rw[ak (by simp; omega),ak (by simp)]
   rw[this];rcases MH hv ws h2 with ⟨g1,g2⟩|⟨g1,x,hx,g2⟩
   ·exact .inl ⟨g1,fun y hy=>(bc.1 hy).elim id (g2 y)⟩
   ·exact .inr ⟨g1,x,aP _ hx,g2⟩
  ·have:vL w v = -2:=by unfold vL; rw[ak (by simp; omega),az (by simp; omega)]
   rw[this];refine .inr ⟨?_,w,aD,hw⟩;rcases MI ws with g|⟨x,hx,g⟩
   ·exact g
   ·have:=h2 x hx; omega
def Xu{ws:List Int}(h:∀w,w∈ws->0<=w){v:Int}(hv:0<=v):ws.foldl (fun o own=>vL own o) (-1)=v↔v∈ws/\∀w,w∈ws->w=v:=by
 cases ws with
 |nil=>simp; omega
 |cons w ws =>
  rw[bB];have h0:=h w aD;have:vL w (-1)=w:=by unfold vL; rw[az (by decide)]
  rw[this];rcases MH h0 ws (fun x hx=>h x (aP _ hx)) with ⟨g1,g2⟩|⟨g1,x,hx,g2⟩
  ·rw[g1];constructor
   ·rintro rfl;exact⟨aD,fun y hy=>(bc.1 hy).elim id (g2 y)⟩
   ·rintro⟨_,g⟩;exact g w aD
  ·rw[g1];constructor
   ·intro e; omega
   ·rintro⟨_,g⟩;have a:=g w aD;have b:=g x (aP _ hx);omega
def xD(h:cq t cg 0)(hl:jV l){d:Node}{i:Int}(hd:find t.ae i=some d)(hk:d.kind=2):Dh l t.ae i (vG l t.ae d)/\0<=vG l t.ae d:=by
 obtain⟨L,hw,_⟩:=h.DE (cg i) i d hd hk rfl;have hi:=h.au hd;subst hi
 have:vG l t.ae d=dj l (jP L):=by
  rw[vG,IC h hw hd hk,KF hl (by rw[ke (kS hw) (h.pN hw)])]
 rw[this];exact⟨⟨L,hw,rfl⟩,by simp⟩
def wV{ae:List Node}{i w:Int}{ds:List Node}:w∈EX l ae i ds↔∃d e,d∈ds/\d.kind=2/\e∈d.aN/\e.au=i/\w=vG l ae d:=by
 simp only[EX,ic];constructor
 ·rintro⟨d,hd,hw⟩;split at hw
  ·rename_i hk;simp only[Di,jZ] at hw;obtain⟨e,he,h2⟩:=hw;split at h2
   ·rename_i hi;injection h2 with h2
    exact⟨d,e,hd,hk,he,hi,h2.symm⟩
   ·cases h2
  ·cases hw
 ·rintro⟨d,e,hd,hk,he,hi,rfl⟩;refine⟨d,hd,?_⟩;rw[az hk];simp only[Di,jZ];exact⟨e,he,by rw[az hi]⟩
def GG(h:cq t cg 0)(hl:jV l){i v:Int}{n:Node}(hn:find t.ae i=some n)(hk:n.kind=1)(hv:0<=v):BK l t.ae t.ae n=v↔(∃d e,find t.ae d.au=some d/\d.kind=2/\e∈d.aN/\e.au=i/\Dh l t.ae d.au v)/\∀d e w,find t.ae d.au=some d->e∈d.aN->e.au=i->Dh l t.ae d.au w->w=v:=by
 have hni:=h.au hn;subst hni
 have isd:∀(d:Node)(e:eD),find t.ae d.au=some d->e∈d.aN->d.kind=2:=fun d e hd he=>by
  rcases h.kind _ _ hd with h1|h1
  ·rw[(h.file _ _ hd h1).1] at he; cases he
  ·exact h1
 have fnd:∀d,d∈t.ae->find t.ae d.au=some d:=fun d hd=>(fy h.jE.jx).2 ⟨hd,rfl⟩
 unfold BK
 rw[Xu (fun w hw=>by
  obtain⟨d,e,hd,hk,_,_,rfl⟩:=wV.1 hw;exact(xD h hl (fnd d hd) hk).2) hv]
 constructor
 ·rintro⟨h1,h2⟩;obtain⟨d,e,hd,hk,he,hi,rfl⟩:=wV.1 h1;refine⟨⟨d,e,fnd d hd,hk,he,hi,(xD h hl (fnd d hd) hk).1⟩,fun d' e' w hd' he' hi' hw=>?_⟩
  have hk':=isd d' e' hd' he';have:=h2 _ (wV.2 ⟨d',e',(cj hd').1,hk',he',hi',rfl⟩);rw[<-this];exact h.Cs hd' hk' hw (xD h hl hd' hk').1
 ·rintro⟨⟨d,e,hd,hk,he,hi,hD⟩,h2⟩;refine⟨wV.2 ⟨d,e,(cj hd).1,hk,he,hi,h.Cs hd hk hD (xD h hl hd hk).1⟩,fun w hw=>?_⟩
  obtain⟨d',e',hd',hk',he',hi',rfl⟩:=wV.1 hw;exact h2 d' e' _ (fnd d' hd') he' hi' (xD h hl (fnd d' hd') hk').1
def Br(h:cq t cg 0)(hl:jV l)(m:rC l t.ae):sd l t.ae=t.ae.map fun n=>uS l t.ae n.au:=by
 rw[AF h];apply bX;intro n hn;have hf:=(fy h.jE.jx).2 ⟨hn,rfl⟩;have hL:=pw h hl m hf;split
 ·rename_i hk;exact h.Cs hf hk (xD h hl hf hk).1 (hL.dir n hf hk)
 ·rename_i hk;have hk1:n.kind=1:=(h.kind _ _ hf).resolve_right hk;obtain⟨d,e,q1,q2,q3,q4,q5⟩:=hL.file n hf hk1;rw[GG h hl hf hk1 (q5.lt h hl).1];refine⟨⟨d,e,q1,q2,q3,q4,q5⟩,fun d' e' w r1 r3 r4 r5=>?_⟩
  exact m.one d' e' d e n w _ r1 r3 q1 q3 (r4.trans q4.symm) (by rw[r4]; exact hf) hk1 r5 q5
def S3(l:List Piece)(t:Tree):Bool:=(l.all fun p=>(sx t.ae p.aU).2==0&&(bE t.ae (sx t.ae p.aU).1).kind==2)&&(sd l t.ae).all fun p => !decide (p<0)
def S4(h:cq t cg 0)(hl:jV l):S3 l t=true↔rC l t.ae:=by
 unfold S3;rw[bn,bw,bw];have wk:∀s,sx t.ae s=eF t s:=I5 t;constructor
 ·rintro⟨h1,h2⟩;rw[AF h] at h2
  have h3:∀i n,find t.ae i=some n->n.kind=1->0<=BK l t.ae t.ae n:=fun i n hn hk=>by
   have:=h2 _ (bS.2 ⟨n,(cj hn).1,rfl⟩);rw[ak (by omega)] at this
   simpa using this
  refine⟨fun p hp=>?_,fun i n hn hk=>?_,fun d e d' e' n v w q1 q2 q3 q4 q5 q6 q7 q8 q9=>?_⟩
  ·have:=h1 p hp;rw[wk] at this;simp only[bn,dR] at this;obtain⟨L,g1,g2⟩:=tz.1 (fF rfl this.1:eF t p.aU=((eF t p.aU).1,0))
   have hn:∃n,find t.ae (eF t p.aU).1=some n:=by
    cases hf:find t.ae (eF t p.aU).1 with
    |none=>simp[bE,hf,Node.zero] at this
    |some n=>exact⟨n,rfl⟩
   obtain⟨n,hn⟩:=hn;refine⟨_,n,?_,hn,by simpa[bE,hn] using this.2⟩
   rw[vX,g1];exact pM.1 g2
  ·obtain⟨⟨d,e,g1,g2,g3,g4,_⟩,_⟩:=(GG h hl hn hk (h3 i n hn hk)).1 rfl;exact⟨d,e,g1,g2,g3,g4⟩
  ·have h0:=h3 _ n q6 q7;obtain⟨_,g⟩:=(GG h hl q6 q7 h0).1 rfl;rw[g d e v q1 q2 rfl q8,g d' e' w q3 q4 q5.symm q9]
 ·intro m;refine⟨fun p hp=>?_,fun x hx=>?_⟩
  ·obtain⟨z,n,g1,g2,g3⟩:=m.Ct p hp;have:eF t p.aU=(z,0):=tz.2 ⟨vX p,fF rfl (hl.ok p hp).1,pM.2 g1⟩;rw[wk,this];simp[bE,g2,g3]
  ·rw[Br h hl m] at hx;obtain⟨n,hn,rfl⟩:=bS.1 hx;have hf:=(fy h.jE.jx).2 ⟨hn,rfl⟩;obtain⟨k,q⟩:=(pw h hl m hf).dh h;have:=(q.lt h hl).1;simpa using this
end
abbrev Wt:=Tree×OV×Int
def lW(e:Int):OV:=⟨e,0,0,0,0,[],[]⟩
def rQ(t:Tree)(o:oW):Wt :=
 if (eF t o.aU).2 != 0 then (t,mZ,(eF t o.aU).2)
 else (t,⟨0,(bE t.ae (eF t o.aU).1).au,(bE t.ae (eF t o.aU).1).kind,0,0,[],[]⟩,0)
def rT(t:Tree)(o:oW):Wt :=
 let v:=eF t o.aU
 let n:=bE t.ae v.1
 if v.2 != 0 then (t,mZ,v.2) else
 (t,⟨0,n.au,n.kind,n.dp,Ub n,[],[]⟩,0)
def tT(t:Tree)(o:oW):Wt :=
 let v:=eF t o.aU
 let l:=p9 t (bE t.ae v.1).au o.n o.m
 if v.2 != 0 then (t,mZ,v.2) else
 if l.2.2 != 0 then (t,mZ,l.2.2) else
 (t,⟨0,0,0,l.2.1,0,l.1.map eD.name,[]⟩,0)
def uJ(t:Tree)(o:oW):Wt :=
 let v:=lf t o.aU
 let w:=nu t v.1 v.2.1 o.n
 if v.2.2 != 0 then (t,mZ,v.2.2)
 else if w.2.2 != 0 then (t,mZ,w.2.2)
 else (w.1,⟨0,w.2.1,o.n,0,0,[],[]⟩,0)
def tQ(t:Tree)(o:oW):Wt :=
 let v:=eF t o.aU
 let n:=bE t.ae v.1
 let s:=lf t o.rz
 let w:=BG t n.au s.1 s.2.1
 if v.2 != 0 then (t,mZ,v.2) else
 if s.2.2 != 0 then (t,mZ,s.2.2) else
 if w.2 != 0 then (t,mZ,w.2) else
 (w.1,⟨0,n.au,0,0,0,[],[]⟩,0)
def nJ(t:Tree)(o:oW):Wt :=
 let s:=lf t o.aU
 let w:=vJ t s.1 s.2.1
 if s.2.2 != 0 then (t,mZ,s.2.2) else
 if w.2.2 != 0 then (t,mZ,w.2.2) else
 (w.1,⟨0,w.2.1,0,0,0,[],[]⟩,0)
def lM(t:Tree)(o:oW):Wt :=
 let s:=lf t o.aU
 let u:=lf t o.rz
 let l:=dV t.ae s.1 s.2.1
 let w:=wg t s.1 s.2.1 u.1 u.2.1
 if s.2.2 != 0 then (t,mZ,s.2.2) else
 if u.2.2 != 0 then (t,mZ,u.2.2) else
 if w.2.2 != 0 then (t,mZ,w.2.2) else
 (w.1,⟨0,l.1,0,0,0,[],[]⟩,0)
def fa(t:Tree)(o:oW):Wt :=
 if o.kind=1 then rQ t o else if o.kind=2 then uJ t o else if o.kind=3 then tQ t o else if o.kind=4 then nJ t o else if o.kind=5 then lM t o else if o.kind=6 then tT t o else rT t o
def oA(l:List Node)(t:Tree):Tree:=l.foldl (fun u n=>if n.kind==1&&n.dp==0 then (oT u n.au).1 else u) t
def fj(t:Tree):Tree:=oA t.ae t
def kE(l:List Piece)(s:Bytes):Nat:=l.countP fun p=>jM s p.aU
def uf(l:List Piece)(t:Tree)(o:oW):Bool :=
 if o.kind=4 then (eF t o.aU).2==0&&((fC o.aU).2.2==0&&decide (0<kE l o.aU))
 else if o.kind=5 then (eF t o.aU).2==0&&((fC o.aU).2.2==0&&((fC o.rz).2.2==0&&decide (0<kE l o.aU+kE l o.rz)))
 else false
def p7(o:oW):Bool:=(decide (1<=o.kind)&&decide (o.kind<=7))&&(decide (0<=o.jz)&&decide (o.jz<16))
def mW(l:List Piece)(t:Tree)(o:oW):Tree×OV :=
 if p7 o=false then (t,lW 1)
 else if uf l t o then (t,lW 180)
 else if (fa t o).2.2 != 0 then (t,lW (fa t o).2.2)
 else if (kZ l (fj (fa t o).1).ae).2=false then (t,lW 91)
 else (fj (fa t o).1,(fa t o).2.1)
def pB(t:Tree)(o:oW):Tree×OV:=if (fa t o).2.2 != 0 then (t,lW (fa t o).2.2) else (fj (fa t o).1,(fa t o).2.1)
section
variable {t:Tree} {cg:Int->Nat} {l:List Piece}
def zJ(h:cq t cg 0)(o:oW):∃dep',cq (fa t o).1 dep' 0:=by
 unfold fa;split
 ·unfold rQ; split<;>exact⟨cg,h⟩
 split
 ·unfold uJ;dsimp only;split
  ·exact⟨cg,h⟩
  split
  ·exact⟨cg,h⟩
  exact Cb h _ _ _ fun h=>h
 split
 ·unfold tQ;dsimp only;split
  ·exact⟨cg,h⟩
  split
  ·exact⟨cg,h⟩
  split
  ·exact⟨cg,h⟩
  exact⟨cg,L4 h _ _ _ fun h=>h⟩
 split
 ·unfold nJ;dsimp only;split
  ·exact⟨cg,h⟩
  split
  ·exact⟨cg,h⟩
  exact⟨cg,GD h _ _⟩
 split
 ·unfold lM;dsimp only;split
  ·exact⟨cg,h⟩
  split
  ·exact⟨cg,h⟩
  split
  ·exact⟨cg,h⟩
  exact Mf h _ _ _ _ fun h=>h
 split
 ·unfold tT;dsimp only;split
  ·exact⟨cg,h⟩
  split<;>exact⟨cg,h⟩
 ·unfold rT;dsimp only;split<;>exact⟨cg,h⟩
def pD:∀(l:List Node)(t:Tree),cq t cg 0->cq (oA l t) cg 0
 | [],_,h=>h
 |n::l,t,h=>by
  unfold oA;rw[bB];refine pD l _ ?_;split
  ·exact Eg h _
  ·exact h
def zC(l:List Node)(t:Tree)(h:∀n,n∈l->n.kind=1->n.dp≠0):oA l t=t:=by
 induction l with
 |nil=>rfl
 |cons n l ih =>
  unfold oA
  rw[bB,ak (by
   simp only[bn,dR,not_and];exact h n aD)]
  exact ih fun m hm=>h m (aP _ hm)
def AX(h:cq t cg 0)(m:rC l t.ae):fj t=t :=
 zC _ _ fun n hn hk e=>by
  have hf:=(fy h.jE.jx).2 ⟨hn,rfl⟩;obtain⟨d,x,h1,_,h3,h4⟩:=m.kept _ _ hf hk;have hc:0<qR t.ae n.au:=qZ.2 ⟨d,x,(cj h1).1,h3,h4⟩;have:=h.dp _ _ hf;split at this<;>omega
structure FI(l:List Piece)(t:Tree):Prop where
 rt:∃cg,cq t cg 0
 prt:jV l
 may:rC l t.ae
def FI.do(h:FI l t)(o:oW):FI l (mW l t o).1:=by
 obtain⟨cg,hg⟩:=h.rt;unfold mW;split
 ·exact h
 split
 ·exact h
 split
 ·exact h
 split
 ·exact h
 rename_i hm;obtain⟨dep',h1⟩:=zJ hg o;have h2:=pD (fa t o).1.ae _ h1;exact⟨⟨dep',h2⟩,h.prt,(uU h2 h.prt).1 (by simpa[fj] using hm)⟩
def FI.join(h:FI l t)(s:Bytes):FI (lR l s).1 t:=by
 obtain⟨cg,hg⟩:=h.rt;exact⟨⟨cg,hg⟩,QA h.prt,S6 hg h.prt h.may⟩
def FI.move(h:FI l t)(s:Bytes)(to:Int):FI (mY l s to).1 t :=
 ⟨h.rt,S9 h.prt,Iu Da h.may⟩
def py(g:Int):List Piece:=[⟨[47],g,1⟩]
def Gm{g:Int}(h:mB g=true):jV (py g):=by
 simp only[mB,bn,bu] at h;refine⟨⟨_,[],rfl,rfl⟩,by simp[py],fun p hp=>?_,by simp[py]⟩
 rw[py,eS] at hp;subst hp;exact⟨rfl,h.1,h.2,by simp,by simp⟩
def ER(g:Int)(s:Bytes):dj (py g) s=0:=by simp[dj,py,qq]
def Tc{g:Int}(h:cq t cg 0)(hk:∀i n,find t.ae i=some n->n.kind=1->∃d e,find t.ae d.au=some d/\d.kind=2/\e∈d.aN/\e.au=i):rC (py g) t.ae:=by
 obtain⟨r,hr,hrk,_⟩:=h.root;refine⟨fun p hp=>?_,hk,fun d e d' e' n v w _ _ _ _ _ _ _ hv hw=>?_⟩
 ·rw[py,eS] at hp;subst hp;exact⟨1,r,rfl,hr,hrk⟩
 ·obtain⟨_,_,rfl⟩:=hv;obtain⟨_,_,rfl⟩:=hw;rw[ER,ER]
end
section
variable {t t':Tree} {cg dep':Int->Nat} {l:List Piece}
def C1(h:cq t cg 0)(h':cq t' dep' 0)(hl:jV l)(m:rC l t.ae)(m':rC l t'.ae){D:Int->Prop}{g:Int}(hf:∀i,¬D i->find t'.ae i=find t.ae i)
  (hL:∀i v,¬D i->uH l t.ae i v->uH l t'.ae i v) (ha:∀i n,D i->find t.ae i=some n->ko l t.ae i≠g) (hb:∀i n,D i->find t'.ae i=some n->ko l t'.ae i≠g) :
  (t.ae.filter fun n=>ko l t.ae n.au==g)=t'.ae.filter fun n=>ko l t'.ae n.au==g:=by
 have ge:∀i n,¬D i->find t.ae i=some n->ko l t'.ae i=ko l t.ae i:=fun i n hD hn=>by
  have a:=hL i _ hD (pw h hl m hn);have b:=pw h' hl m' (i:=i) (by rw[hf i hD]; exact hn)
  rw[ko,ko,Ie h' m' a b]
 refine BN (h.jE.jx.sublist oj) (h'.jE.jx.sublist oj) fun n=>?_
 simp only[eo,dR];constructor
 ·rintro⟨hn,hg⟩;have hfn:=(fy h.jE.jx).2 ⟨hn,rfl⟩;have hD:¬D n.au:=fun hD=>ha _ _ hD hfn hg
  have hfn':find t'.ae n.au=some n:=by rw[hf _ hD]; exact hfn
  exact⟨(cj hfn').1,by rw[ge _ _ hD hfn]; exact hg⟩
 ·rintro⟨hn,hg⟩;have hfn':=(fy h'.jE.jx).2 ⟨hn,rfl⟩;have hD:¬D n.au:=fun hD=>hb _ _ hD hfn' hg
  have hfn:find t.ae n.au=some n:=by rw[<-hf _ hD]; exact hfn'
  exact⟨(cj hfn).1,by rw[<-ge _ _ hD hfn]; exact hg⟩
def wv(l:List Piece)(s:Bytes)(g:Int):Bool:=(List.range ((bz s).1.length+1)).any fun i=>(mJ l (dj l (px ((bz s).1.take i)))).group==g
def FV{s:Bytes}{g:Int}(h:wv l s g=false){A B:List Bytes}(hs:(bz s).1=A++B):(mJ l (dj l (jP A))).group≠g:=by
 intro e
 have:wv l s g=true:=by
  unfold wv;rw[List.any_eq_true];refine⟨A.length,by rw[fA,hs]; simp; omega,?_⟩
  rw[hs,rh,List.take_left];simpa using e
 rw[this] at h; cases h
def tK(h:cq t cg 0)(hl:jV l)(m:rC l t.ae){i v:Int}{n:Node}(hn:find t.ae i=some n)(hv:uH l t.ae i v):ko l t.ae i=(mJ l v.toNat).group:=by
 rw[ko,Ie h m (pw h hl m hn) hv]
def xy(h:cq t cg 0){d:Node}{e:eD}{i v:Int}{n:Node}(hd:find t.ae d.au=some d)(he:e∈d.aN)(hi:e.au=i)(hn:find t.ae i=some n)(hk:n.kind=1)(hv:Dh l t.ae d.au v):uH l t.ae i v:=by
 have hdk:d.kind=2:=by
  rcases h.kind _ _ hd with h1|h1
  ·rw[(h.file _ _ hd h1).1] at he; cases he
  ·exact h1
 refine⟨fun n' hn' hk'=>?_,fun n' hn' _=>⟨d,e,hd,hdk,he,hi,hv⟩,⟨n,hn⟩⟩
 rw[hn] at hn'; cases hn';rw[hk] at hk'; cases hk'
def rk{i v:Int}{n:Node}(hn:find t.ae i=some n)(hk:n.kind=2)(hv:Dh l t.ae i v):uH l t.ae i v:=by
 refine⟨fun _ _ _=>hv,fun n' hn' hk'=>?_,⟨n,hn⟩⟩
 rw[hn] at hn'; cases hn';rw[hk] at hk'; cases hk'
def EA(h:cq t cg 0)(h':cq t' dep' 0){D:Int->Prop}(hf:∀i,¬D i->find t'.ae i=find t.ae i)
  (hw:∀L i n,Way t.ae 1 L i->find t.ae i=some n->n.kind=2->(∃n',find t'.ae i=some n')->Way t'.ae 1 L i)
  (he:∀d e,find t.ae d.au=some d->e∈d.aN->¬D e.au->∃d',find t'.ae d.au=some d'/\d'.au=d.au/\e∈d'.aN):∀i v,¬D i->uH l t.ae i v->uH l t'.ae i v:=by
 intro i v hD hv;obtain⟨n,hn⟩:=hv.ex;have hn':find t'.ae i=some n:=by rw[hf i hD]; exact hn
 rcases h.kind _ _ hn with hk|hk
 ·obtain⟨d,e,h1,h2,h3,h4,L,h5,h6⟩:=hv.file n hn hk;obtain⟨d',g1,g2,g3⟩:=he d e h1 h3 (by rw[h4]; exact hD)
  refine xy h' (d:=d') (e:=e) (by rw[g2]; exact g1) g3 h4 hn' hk ⟨L,?_,h6⟩
  rw[g2];exact hw L _ d h5 h1 h2 ⟨d',g1⟩
 ·obtain⟨L,h5,h6⟩:=hv.dir n hn hk;exact rk hn' hk ⟨L,hw L _ n h5 hn hk ⟨n,hn'⟩,h6⟩
def GZ(h:cq t cg 0){d kind:Int}{x:Bytes}(hok:(nu t d x kind).2.2=0):∃dN,find t.ae d=some dN/\dN.kind=2/\dE x=true/\eb dN.aN x=none/\d≠t.next/\find t.ae t.next=none /\
  ∀i,find (nu t d x kind).1.ae i=if i=d then some { dN with aN:=sV dN.aN ⟨x,t.next,t.ai⟩ } else if i=t.next then some ⟨t.next,kind,1,[],[],if kind==2 then d else 0⟩ else find t.ae i:=by
 have iv:find t.ae t.next=none:=by
  cases hz:find t.ae t.next with
  |none=>rfl
  |some m=>have:=h.num _ _ hz; omega
 unfold nu at hok ⊢;split at hok
 ·cases hok
 rename_i c1;rw[ak c1];split at hok
 ·rename_i c2;simp only at hok;rw[hok] at c2; cases c2
 rename_i c2;rw[ak c2];split at hok
 ·cases hok
 rename_i c3;rw[ak c3];obtain⟨dN,hd,hk,hx,he,_⟩:=CA (by simpa using c2)
 have hne:d≠t.next:=by
  rintro rfl; rw[iv] at hd; cases hd
 have hfd:find (eM t.ae ⟨t.next,kind,1,[],[],if kind==2 then d else 0⟩) d=some dN:=by
  rw[gP h.jE.jx,ak hne]; exact hd
 refine⟨dN,hd,hk,hx,he,hne,iv,fun i=>?_⟩
 unfold gN;simp only[hfd,bA];rw[gP (nK h.jE.jx _)];simp only[gP h.jE.jx,h.au hd]
def I7(h:cq t cg 0){u:List Node}{d:Int}{dN:Node}{en:eD}(hd:find t.ae d=some dN)(hno:eb dN.aN en.name=none)(hu:∀i n,find t.ae i=some n->i≠d->find u i=some n)(hud:find u d=some { dN with aN:=sV dN.aN en }) :
  ∀ {L:List Bytes} {i j:Int},Way t.ae i L j->Way u i L j
 | [],i,j,hw=>hw
 |s::L,i,j,⟨n,e,h1,h2,h3,h4,h5⟩=>by
  have ih:=I7 h hd hno hu hud h5
  by_cases hi:i=d
  ·subst hi;rw[hd] at h1; cases h1;have hne:s≠en.name:=by rintro rfl; rw[hno] at h4; cases h4
   exact⟨_,e,hud,h2,h3,by simp only; rw[vB (h.jE.aN _ (cj hd).1) hno,ak hne]; exact h4,ih⟩
  ·exact⟨n,e,hu i n h1 hi,h2,h3,h4,ih⟩
def MT(h:cq t cg 0)(hl:jV l)(m:rC l t.ae){d kind:Int}{x:Bytes}{P:List Bytes}{s:Bytes}{g:Int}(hs:bz s=(P++[x],0))(hw:Way t.ae 1 P d)(hok:(nu t d x kind).2.2=0)
  (h':cq (nu t d x kind).1 dep' 0) (m':rC l (nu t d x kind).1.ae) (hg:wv l s g=false) :
  (t.ae.filter fun n=>ko l t.ae n.au==g)=(nu t d x kind).1.ae.filter fun n=>ko l (nu t d x kind).1.ae n.au==g:=by
 obtain⟨dN,hd,hk,hx,he,hne,iv,hf⟩:=GZ h hok;generalize (nu t d x kind).1=u at h' m' hf ⊢;have hdi:=h.au hd;have hud:find u.ae d=some { dN with aN:=sV dN.aN ⟨x,t.next,t.ai⟩ }:=by rw[hf,az rfl]
 have LR:find u.ae t.next=some ⟨t.next,kind,1,[],[],if kind==2 then d else 0⟩:=by rw[hf,ak (dD hne),az rfl]
 have hasc:=h.jE.aN _ (cj hd).1
 have hwm:∀ {L i j},Way t.ae i L j->Way u.ae i L j:=fun {L i j}=>I7 h hd he (en:=⟨x,t.next,t.ai⟩) (fun i n hn hi=>by
  rw[hf,ak hi,ak (by rintro rfl; rw[iv] at hn; cases hn)]; exact hn) hud
 have n1:(mJ l (dj l (jP P))).group≠g:=FV hg (A:=P) (B:=[x]) (by rw[hs])
 have n2:(mJ l (dj l (jP (P++[x])))).group≠g:=FV hg (A:=P++[x]) (B:=[]) (by rw[hs]; simp)
 refine C1 h h' hl m m' (D:=fun i=>i=d\/i=t.next) (fun i hD=>?_) (EA h h' (D:=fun i=>i=d\/i=t.next) (fun i hD=>?_) (fun L i n hw _ _ _=>hwm hw) (fun d0 e0 h0 he0 hD=>?_)) (fun i n hD hn=>?_) (fun i n hD hn=>?_)
 ·simp only[kL] at hD;rw[hf,ak hD.1,ak hD.2]
 ·simp only[kL] at hD;rw[hf,ak hD.1,ak hD.2]
 ·by_cases hdd:d0.au=d
  ·rw[hdd] at h0;rw[hd] at h0; cases h0;exact⟨{ dN with aN:=sV dN.aN ⟨x,t.next,t.ai⟩ },cZ (congrArg (find u.ae) hdd) hud,rfl,(wS hasc (e:=⟨x,t.next,t.ai⟩) he).2 (.inr he0)⟩
  ·exact⟨d0,by rw[hf,ak hdd,ak (by rintro e; rw[e,iv] at h0; cases h0)]; exact h0,rfl,he0⟩
 ·rcases hD with rfl|rfl
  ·rw[tK h hl m hn (rk hd hk ⟨P,hw,rfl⟩)];simpa using n1
  ·rw[iv] at hn; cases hn
 ·rcases hD with rfl|rfl
  ·rw[tK h' hl m' hn (rk hud hk ⟨P,hwm hw,rfl⟩)];simpa using n1
  ·have hi':eb (sV dN.aN ⟨x,t.next,t.ai⟩) x=some ⟨x,t.next,t.ai⟩:=by rw[vB hasc he,az rfl]
   rcases h'.kind _ _ LR with hk'|hk'
   ·rw[tK h' hl m' hn (xy h' (d:={ dN with aN:=sV dN.aN ⟨x,t.next,t.ai⟩ }) (cZ (congrArg (find u.ae) hdi) hud) (eB hi').1 rfl LR hk' (by show Dh l u.ae dN.au _; rw[hdi]; exact⟨P,hwm hw,rfl⟩))]
    simpa using n1
   ·rw[tK h' hl m' hn (rk LR hk' ⟨P++[x],iw.2 ⟨d,hwm hw,_,_,hud,hk,hx,hi',rfl⟩,rfl⟩)];simpa using n2
def ot:∀(r:List Node)(t:Tree),Rt t->∀i,find (oA r t).ae i=find t.ae i\/(find (oA r t).ae i=none/\∃n,find t.ae i=some n/\jy n=true)
 | [],_,_,_ => .inl rfl
 |k::r,t,h,i=>by
  unfold oA;rw[bB];split
  ·have hf:=Ac h k.au i;have ih:=ot r _ (h.free k.au) i
   by_cases hc:i=k.au/\∃n,find t.ae k.au=some n/\jy n=true
   ·rw[az hc] at hf;obtain⟨rfl,hn⟩:=hc;rw[hf] at ih;refine .inr ⟨?_,hn⟩;rcases ih with h1|⟨h1,_⟩<;>exact h1
   ·rw[ak hc] at hf;rwa[hf] at ih
  ·exact ot r t h i
def C8(h:cq t cg 0)(m:rC l t.ae){i:Int}{n:Node}(hn:find t.ae i=some n):jy n=false:=by
 cases ho:jy n with
 |false=>rfl
 |true =>
  simp only[jy,bn,dR] at ho;obtain⟨d,x,h1,_,h3,h4⟩:=m.kept _ _ hn ho.1;have hc:0<qR t.ae i:=qZ.2 ⟨d,x,(cj h1).1,h3,h4⟩;have:=h.dp _ _ hn;split at this<;>omega
def Xt(h:cq t cg 0){d:Int}{x:Bytes}(hok:(vJ t d x).2.2=0):∃dN e m,find t.ae d=some dN/\dN.kind=2/\dE x=true/\eb dN.aN x=some e/\find t.ae e.au=some m/\m.aN=[]/\e.au≠d/\(vJ t d x).2.1=e.au /\
  ∀i,find (vJ t d x).1.ae i=if i=e.au then xY m else if i=d then some { dN with aN:=fH dN.aN x } else find t.ae i:=by
 unfold vJ at hok ⊢;split at hok
 ·rename_i c1;simp only at hok;rw[hok] at c1; cases c1
 rename_i c1;rw[ak c1];split at hok
 ·cases hok
 rename_i c2;rw[ak c2];obtain⟨dN,e,d1,d2,d3,d4,d5⟩:=look_ok (by simpa using c1)
 rw[d5] at c2 ⊢;obtain⟨_,_,_,_,m,hm,_⟩:=h.wF _ _ e d1 (eB d4).1;simp only[bE,hm,bA,bu] at c2;have hne:e.au≠d:=h.vA d1 (eB d4).1;refine⟨dN,e,m,d1,d2,d3,d4,hm,ct.1 (by omega),hne,rfl,fun i=>?_⟩
 have hl:=iW h.jE.jx d1 (s:=x);simp only;rw[pX (lx h.jE.jx d x) (n:=m) (by rw[hl,ak hne]; exact hm),hl]
def I6(h:cq t cg 0){u:List Node}{d:Int}{dN m:Node}{e:eD}{x:Bytes}(hd:find t.ae d=some dN)(he:eb dN.aN x=some e)(hm:find t.ae e.au=some m)(hme:m.aN=[])
  (hu:∀i n,find t.ae i=some n->n.kind=2->i≠d->i≠e.au->find u i=some n) (hud:find u d=some { dN with aN:=fH dN.aN x }) :
  ∀ {L:List Bytes} {i j:Int},Way t.ae i L j->j≠e.au->i≠e.au->Way u i L j
 | [],i,j,hw,_,_=>hw
 |s::L,i,j,⟨n,e1,h1,h2,h3,h4,h5⟩,hj,hi=>by
  have hne:e1.au≠e.au:=fun hc=>by
   cases L with
   |nil=>exact hj (h5.symm.trans hc)
   |cons b L =>
    obtain⟨n2,e2,b1,_,_,b4,_⟩:=h5;rw[hc,hm] at b1; cases b1;have:=(eB b4).1;rw[hme] at this; cases this
  have ih:=I6 h hd he hm hme hu hud h5 hj hne
  by_cases hid:i=d
  ·subst hid;rw[hd] at h1; cases h1;have hsx:s≠x:=by rintro rfl; rw[he] at h4; cases h4; exact hne rfl
   exact⟨_,e1,hud,h2,h3,by simp only; rw[pr hsx]; exact h4,ih⟩
  ·exact⟨n,e1,hu i n h1 h2 hid hi,h2,h3,h4,ih⟩
def Pk(h:cq t cg 0)(hl:jV l)(m:rC l t.ae){d:Int}{x:Bytes}{P:List Bytes}{s:Bytes}{g:Int}(hs:bz s=(P++[x],0))(hw:Way t.ae 1 P d)(hok:(vJ t d x).2.2=0)
  (hu:cq (vJ t d x).1 dep' 0) (m':rC l (fj (vJ t d x).1).ae) (hg:wv l s g=false) :
  (t.ae.filter fun n=>ko l t.ae n.au==g)=(fj (vJ t d x).1).ae.filter fun n=>ko l (fj (vJ t d x).1).ae n.au==g:=by
 obtain⟨dN,e,mN,hd,hk,hx,he,hm,hme,hne,_,hf⟩:=Xt h hok;generalize (vJ t d x).1=u0 at hu m' hf ⊢;have h':=pD u0.ae _ hu;have hsw:=ot u0.ae u0 ⟨_,hu⟩;unfold fj at m' ⊢;generalize oA u0.ae u0=u at h' m' hsw ⊢;have hdi:=h.au hd;have hasc:=h.jE.aN _ (cj hd).1;obtain⟨he1,he2⟩:=eB he
 have hfu:∀i,i≠d->i≠e.au->find u.ae i=find t.ae i:=fun i h1 h2=>by
  have:=hf i;rw[ak h2,ak h1] at this;rcases hsw i with hc|⟨hc,n,hn,ho⟩
  ·rw[hc,this]
  ·rw[this] at hn;rw[C8 h m hn] at ho; cases ho
 have hud:find u.ae d=some { dN with aN:=fH dN.aN x }:=by
  have:=hf d;rw[ak (dD hne),az rfl] at this;rcases hsw d with hc|⟨_,n,hn,ho⟩
  ·rw[hc,this]
  ·rw[this] at hn; cases hn;rw[yo (show({ dN with aN:=fH dN.aN x }:Node).kind=2 from hk)] at ho; cases ho
 have root:(1:Int)≠e.au:=fun hc=>by
  have:=(h.wF _ _ _ hd he1).2.2.1;exact this hc.symm
 have hwm:∀ {L j},Way t.ae 1 L j->j≠e.au->Way u.ae 1 L j:=fun {L j} hw hj=>I6 h hd he hm hme (fun i n hn _ h1 h2=>by rw[hfu i h1 h2]; exact hn) hud hw hj root
 have n1:(mJ l (dj l (jP P))).group≠g:=FV hg (A:=P) (B:=[x]) (by rw[hs])
 have n2:(mJ l (dj l (jP (P++[x])))).group≠g:=FV hg (A:=P++[x]) (B:=[]) (by rw[hs]; simp)
 have hDd:Dh l t.ae d (dj l (jP P)):=⟨P,hw,rfl⟩
 have pair:∀d2 e2,find u.ae d2.au=some d2->e2∈d2.aN->e2.au=e.au->mN.kind=1->∃d3,find t.ae d3.au=some d3/\d3.au=d2.au/\e2∈d3.aN:=fun d2 e2 h2 he2 hi2 hmk=>by
  by_cases hdd:d2.au=d
  ·rw[hdd,hud] at h2; injection h2 with h2
   refine⟨dN,by rw[hdi]; exact hd,by rw[hdi,hdd],?_⟩
   rw[<-h2] at he2;exact(Av.1 he2).1
  ·by_cases hee:d2.au=e.au
   ·exfalso;rw[hee] at h2;rcases hsw e.au with hc|⟨hc,_⟩
    ·rw[hc,hf,az rfl,xY,ak (by simp[hmk])] at h2
     injection h2 with h2
     rw[<-h2] at he2;simp only[hme] at he2;cases he2
    ·rw[hc] at h2; cases h2
   ·rw[hfu _ hdd hee] at h2;exact⟨d2,h2,rfl,he2⟩
 refine C1 h h' hl m m' (D:=fun i=>i=d\/i=e.au) (fun i hD=>?_) (EA h h' (D:=fun i=>i=d\/i=e.au) (fun i hD=>?_) (fun L i n hw hn hk2 hn'=>?_) (fun d0 e0 h0 he0 hD=>?_)) (fun i n hD hn=>?_) (fun i n hD hn=>?_)
 ·simp only[kL] at hD;exact hfu i hD.1 hD.2
 ·simp only[kL] at hD;exact hfu i hD.1 hD.2
 ·refine hwm hw ?_;rintro rfl;rw[hm] at hn; cases hn;obtain⟨n',hn'⟩:=hn';rcases hsw e.au with hc|⟨hc,_⟩
  ·rw[hc,hf,az rfl,xY,az (by simp[hk2])] at hn'; cases hn'
  ·rw[hc] at hn'; cases hn'
 ·simp only[kL] at hD
  by_cases hdd:d0.au=d
  ·rw[hdd,hd] at h0; cases h0;refine⟨{ dN with aN:=fH dN.aN x },cZ (congrArg (find u.ae) hdd) hud,rfl,Av.2 ⟨he0,fun hc=>?_⟩⟩
   have:=(nC hasc).2 ⟨he0,hc⟩;rw[he] at this; cases this;exact hD.2 rfl
  ·by_cases hee:d0.au=e.au
   ·rw[hee,hm] at h0; cases h0;rw[hme] at he0; cases he0
   ·exact⟨d0,by rw[hfu _ hdd hee]; exact h0,rfl,he0⟩
 ·rcases hD with rfl|rfl
  ·rw[tK h hl m hn (rk hd hk hDd)];simpa using n1
  ·rcases h.kind _ _ hm with hmk|hmk
   ·rw[tK h hl m hn (xy h (d:=dN) (by rw[hdi]; exact hd) he1 rfl hm hmk (by rw[hdi]; exact hDd))]
    simpa using n1
   ·rw[tK h hl m hn (rk hm hmk ⟨P++[x],iw.2 ⟨d,hw,_,_,hd,hk,hx,he,rfl⟩,rfl⟩)];simpa using n2
 ·rcases hD with rfl|rfl
  ·rw[tK h' hl m' hn (rk hud hk ⟨P,hwm hw (dD hne),rfl⟩)];simpa using n1
  ·have hmk:mN.kind=1:=by
    rcases h.kind _ _ hm with hmk|hmk
    ·exact hmk
    ·exfalso;rcases hsw e.au with hc|⟨hc,_⟩
     ·rw[hc,hf,az rfl,xY,az (by simp[hmk])] at hn; cases hn
     ·rw[hc] at hn; cases hn
   have hnk:n.kind=1:=by
    rcases hsw e.au with hc|⟨hc,_⟩
    ·rw[hc,hf,az rfl,xY,ak (by simp[hmk])] at hn
     injection hn with hn
     rw[<-hn]; exact hmk
    ·rw[hc] at hn; cases hn
   obtain⟨d2,e2,q1,q2,q3,q4⟩:=m'.kept _ _ hn hnk;obtain⟨d3,r1,r2,r3⟩:=pair d2 e2 q1 q3 q4 hmk
   have hk3:d3.kind=2:=by
    rcases h.kind _ _ r1 with h1|h1
    ·rw[(h.file _ _ r1 h1).1] at r3; cases r3
    ·exact h1
   obtain⟨L,hL,_⟩:=h.DE (cg d3.au) _ d3 r1 hk3 rfl
   have hne3:d3.au≠e.au:=fun hc=>by
    rw[hc,hm] at r1; cases r1;rw[hme] at r3; cases r3
   have e0:=m.one d3 e2 dN e _ _ _ r1 r3 (by rw[hdi]; exact hd) he1 q4 (by rw[q4]; exact hm) hmk ⟨L,hL,rfl⟩ (by rw[hdi]; exact hDd)
   rw[tK h' hl m' hn (xy h' q1 q3 q4 hn hnk (by rw[<-r2]; exact⟨L,hwm hL hne3,rfl⟩)),e0]
   simpa using n1
end
section
variable {t t':Tree} {cg dep':Int->Nat} {l:List Piece}
def DY(h:cq t cg 0){x:Int}{nx:Node}(hx:find t.ae x=some nx)(hxk:nx.kind=2):∀(c:Nat)(i:Int)(n:Node),cg i=c->find t.ae i=some n->n.kind=2->iV t.ae i x=true->∃B,Way t.ae x B i:=by
 intro c;induction c with
 |zero =>
  intro i n hc hi hk hb
  by_cases h1:i=1
  ·subst h1
   by_cases hx1:x=1
   ·subst hx1; exact⟨[],rfl⟩
   ·rw[cq.yg hx1] at hb; cases hb
  ·have:=(h.sH _ _ hi hk h1).1; omega
 |succ c ih =>
  intro i n hc hi hk hb
  by_cases hix:i=x
  ·subst hix; exact⟨[],rfl⟩
  ·have h1:i≠1:=by rintro rfl; rw[h.zd] at hc; cases hc
   rw[h.yY hi hk h1 hix] at hb;obtain⟨hd,p,hp,hpk⟩:=h.sH _ _ hi hk h1;obtain⟨B,hB⟩:=ih n.up p (by omega) hp hpk hb
   obtain⟨p',e,hp',_,he,hei⟩:=h.named hi hk h1 (by have:=(h.num _ _ hi).1; omega)
   rw[hp] at hp'; cases hp';exact⟨B++[e.name],iw.2 ⟨n.up,hB,p,e,hp,hpk,(h.wF _ _ _ hp he).2.2.2.1,(nC (h.jE.aN _ (cj hp).1)).2 ⟨he,rfl⟩,by simpa[Way] using hei⟩⟩
def Hc{s:Bytes}(h:kE l s=0):∀p,p∈l->jM s p.aU=false:=fun p hp=>by
 have:=List.countP_eq_zero.1 h p hp;simpa using this
def Kd(hl:jV l){s:Bytes}{A:List Bytes}(hs:bz s=(A,0))(hb:kE l s=0):∀(k:Nat)(B:List Bytes),B.length=k->(∀y,y∈A++B->dE y=true)->(A++B).length<=12->dj l (jP (A++B))=dj l (jP A):=by
 intro k;induction k with
 |zero =>
  intro B hB _ _;rw[cp hB,bW]
 |succ k ih =>
  intro B hB hn h12;rcases eI B with rfl|⟨C,y,rfl⟩
  ·cases hB
  ·rw[fe] at *;rw[<-da] at hn h12 ⊢;rw[hl.LQ hn h12 fun p hp e=>?_,ih C (by simp at hB; omega) (fun z hz=>hn z (eR _ hz)) (by simp at h12 ⊢; omega)]
   have:=Hc hb p hp;rw[e] at this
   have h2:jM s (jP (A++C++[y]))=true:=by
    rw[ng,hs,ke hn h12];exact⟨rfl,rfl,by rw[da]; exact j4 _ _⟩
   rw[this] at h2; cases h2
def Fq(h:Rt t){r:List Node}:∀ {L:List Bytes} {i j:Int},Way t.ae i L j->Way (oA r t).ae i L j
 | [],_,_,hw=>hw
 |_::_,i,_,⟨d,e,h1,h2,h3,h4,h5⟩=>by
  refine⟨d,e,?_,h2,h3,h4,Fq h h5⟩;rcases ot r t h i with hc|⟨_,n,hn,ho⟩
  ·rw[hc]; exact h1
  ·rw[h1] at hn; cases hn;rw[yo h2] at ho; cases ho
def afQ(hf:FI l t){o:oW}(hk:o.kind=5)(ha:(mW l t o).2.err=0){x:Int}(hx:eF t o.aU=(x,0)){nx:Node}(hnx:find t.ae x=some nx)(hnk:nx.kind=2) :
  (mW l t o).2.au=x/\∀i n n',find t.ae i=some n->n.kind=2->iV t.ae i x=true->find (mW l t o).1.ae i=some n'->ko l (mW l t o).1.ae i=(mJ l (dj l o.rz)).group:=by
 obtain⟨cg,h⟩:=hf.rt;have hd:=FI.do hf o
 unfold mW at ha hd ⊢;split at ha
 ·cases ha
 rename_i c1;rw[ak c1] at hd ⊢;split at ha
 ·cases ha
 rename_i c2;rw[ak c2] at hd ⊢;split at ha
 ·rename_i c3;simp only[lW] at ha;rw[ha] at c3; cases c3
 rename_i c3;rw[ak c3] at hd ⊢;split at ha
 ·cases ha
 rename_i c4;rw[ak c4] at hd ⊢
 have hwk:fa t o=lM t o:=by
  unfold fa;rw[ak (by omega),ak (by omega),ak (by omega),ak (by omega),az hk]
 rw[hwk] at c3 hd ⊢;unfold lM at c3 hd ⊢;dsimp only at c3 hd ⊢;split at c3
 ·rename_i c5; exact absurd c5 (by simpa using c3)
 rename_i c5;rw[ak c5] at hd ⊢;split at c3
 ·rename_i c6; exact absurd c6 (by simpa using c3)
 rename_i c6;rw[ak c6] at hd ⊢;split at c3
 ·rename_i c7; exact absurd c7 (by simpa using c3)
 rename_i c7;rw[ak c7] at hd ⊢;obtain⟨P,s,f,p1,p2,p3⟩:=vl (by simpa using c5)
 obtain⟨T,nm,to,q1,q2,q3⟩:=vl (by simpa using c6)
 rw[p3,q3] at c7 hd ⊢;simp only at c7 hd ⊢;have wP:=pM.1 p2;have wT:=pM.1 q2;obtain⟨L,r1,r2⟩:=tz.1 hx;rw[p1] at r1; injection r1 with r1 _; subst r1
 have wx:=pM.1 r2
 have lp:(fC o.aU).2.2=0:=by
  unfold lf at c5;split at c5
  ·rename_i hc; exact absurd hc (by simpa using c5)
  ·rename_i hc; simpa using hc
 have lt:(fC o.rz).2.2=0:=by
  unfold lf at c6;split at c6
  ·rename_i hc; exact absurd hc (by simpa using c6)
  ·rename_i hc; simpa using hc
 have hbz:kE l o.rz=0:=by
  unfold uf at c2;rw[ak (by omega),az hk,hx,lp,lt] at c2
  simp at c2;omega
 obtain⟨t1,t2⟩:=lB o.rz;rw[q1] at t1 t2;have hj:o.rz=jP (T++[nm]):=uX q1;obtain⟨dep',hd'⟩:=hd.rt
 have last:∀(u:Tree),FI l u->∀B i n',Way u.ae 1 (T++[nm]++B) i->find u.ae i=some n'->n'.kind=2->ko l u.ae i=(mJ l (dj l o.rz)).group:=fun u hu B i n' hw hn hk'=>by
  obtain⟨du,gu⟩:=hu.rt;rw[tK gu hu.prt hu.may hn (rk hn hk' ⟨_,hw,rfl⟩)];have:=Kd hu.prt q1 hbz B.length B rfl (kS hw) (gu.pN hw);rw[this,<-hj]; simp
 rcases EO h f s to nm with ⟨_,_,g3⟩|⟨g1,dF,dT,e,e2,a1,a2,a3,a4,a5,b1,b2,b3,b4,b5⟩|⟨dF,dT,m,e,k,k1,k2,k3⟩
 ·exact absurd g3 (by simpa using c7)
 ·have hex:x=e.au:=by
   have w2:Way t.ae 1 (P++[s]) e.au:=iw.2 ⟨f,wP,dF,e,a1,a2,a3,a4,rfl⟩;exact xJ wx w2
  rw[g1] at hd ⊢;simp only at hd ⊢;have hsw:fj t=t:=AX h hf.may;rw[hsw];refine⟨by rw[a5,hex],fun i n n' hi hk' hb hn'=>?_⟩
  have w3:Way t.ae 1 (T++[nm]) x:=by rw[hex,<-b5]; exact iw.2 ⟨to,wT,dT,e2,b1,b2,b3,b4,rfl⟩
  obtain⟨B,hB⟩:=DY h hnx hnk _ i n rfl hi hk' hb;exact last t hf B i n (iw.2 ⟨x,w3,hB⟩) hi hk'
 ·have hex:x=e.au:=by
   have w2:Way t.ae 1 (P++[s]) e.au:=iw.2 ⟨f,wP,dF,e,k.hF,k.kF,k1,k.he,rfl⟩;exact xJ wx w2
  rw[k3] at hd hd' ⊢;simp only at hd hd' ⊢;refine⟨by rw[k2,hex],fun i n n' hi hk' hb hn'=>?_⟩
  subst hex;rw[k.hm] at hnx; cases hnx;obtain⟨du,gu⟩:=h.mv (fun h=>h) k
  obtain⟨B,hB⟩:=DY h k.hm hnk _ i n rfl hi hk' hb;obtain⟨w4,z1,z2,z3⟩:=k.adB h hnk hB;have w5:=k.adC h wT;obtain⟨dT',eT,g1,g2,g3,g4,g5⟩:=look_ok (show((dV (nZ t f s to nm e.au (ec dT.aN nm)).ae to nm).2 != 0)=false by rw[k.L7 h]; rfl)
  have g6:eT.au=e.au:=by
   have:=k.L7 h;rw[g5] at this; injection this
  have w6:Way (nZ t f s to nm e.au (ec dT.aN nm)).ae 1 (T++[nm]++B) i:=iw.2 ⟨e.au,iw.2 ⟨to,w5,dT',eT,g1,g2,g3,g4,g6⟩,w4⟩;have w7:Way (fj (nZ t f s to nm e.au (ec dT.aN nm))).ae 1 (T++[nm]++B) i:=Fq ⟨_,gu⟩ w6;refine last _ hd B i n' w7 hn' ?_;have hmv:=yv h k i;rw[ak z2,ak z1] at hmv;rcases ot (nZ t f s to nm e.au (ec dT.aN nm)).ae _ ⟨_,gu⟩ i with hc|⟨hc,_⟩
  ·unfold fj at hn';rw[hc,hmv] at hn';rw[az hnk,ak z3] at hn';split at hn'
   ·injection hn' with hn'
    rw[<-hn']; exact hnk
   ·rw[hi] at hn';injection hn' with hn'
    rw[<-hn']; exact hk'
  ·unfold fj at hn';rw[hc] at hn'; cases hn'
end
structure kf where
 kind:UInt8
 op:oW
 aU:Bytes
 group:Int
def eH(s:kf):List ag:=mL s.kind::(dP s.op++[.str s.aU,.int .i64 s.group])
def qp(s:kf):ag := .agg (eH s)
abbrev oS(l:List kf):ag := .slice .sh (l.map qp)
def sG(l:List Piece)(t:Tree)(s:Bytes)(g:Int):List Piece×Int :=
 if (eF t s).2 != 0 then (l,(eF t s).2)
 else if (bE t.ae (eF t s).1).kind != 2 then (l,73)
 else if (uO l s g).2 != 0 then (l,(uO l s g).2)
 else if (kZ (uO l s g).1 t.ae).2=false then (l,91)
 else ((uO l s g).1,0)
def stepT(x:List Piece×Tree)(s:kf):(List Piece×Tree)×OV :=
 match s.kind.toNat % 5 with
 |1|2=>(((sG x.1 x.2 s.aU s.group).1,x.2),lW (sG x.1 x.2 s.aU s.group).2)
 |3=>(((lR x.1 s.aU).1,x.2),lW (lR x.1 s.aU).2)
 |4=>(((mY x.1 s.aU s.group).1,x.2),lW (mY x.1 s.aU s.group).2)
 |_=>((x.1,(mW x.1 x.2 s.op).1),(mW x.1 x.2 s.op).2)
def uq(g:Int)(l:List kf):List Piece×Tree:=l.foldl (fun x s=>(stepT x s).1) (py g,oU)
def c8(x:List Piece×Tree):wb:=bm x.1 x.2
section
variable {t:Tree} {cg:Int->Nat} {l:List Piece}
theorem FI.cut(h:FI l t)(s:Bytes)(g:Int):FI (sG l t s g).1 t:=by
 obtain⟨cg,hg⟩:=h.rt;unfold sG;split
 ·exact h
 split
 ·exact h
 split
 ·exact h
 split
 ·exact h
 rename_i hm;exact⟨⟨cg,hg⟩,BO h.prt,(uU hg (BO h.prt)).1 (by simpa using hm)⟩
def FI.step{x:List Piece×Tree}(h:FI x.1 x.2)(s:kf):FI (stepT x s).1.1 (stepT x s).1.2:=by
 unfold stepT;split
 ·exact h.cut _ _
 ·exact h.cut _ _
 ·exact h.join _
 ·exact h.move _ _
 ·exact h.do _
def FI.new{g:Int}(hg:mB g=true):FI (py g) oU:=by
 refine⟨⟨_,Iy⟩,Gm hg,Tc Iy fun i n hi hk=>?_⟩
 simp only[oU,find,List.find?_cons,List.find?_nil] at hi;split at hi
 ·cases hi; cases hk
 ·cases hi
def FI.steps:∀(r:List kf)(x:List Piece×Tree),FI x.1 x.2->FI (r.foldl (fun x s=>(stepT x s).1) x).1 (r.foldl (fun x s=>(stepT x s).1) x).2
 | [],_,h=>h
 |s::r,_,h=>FI.steps r _ (h.step s)
def FI.made{g:Int}(hg:mB g=true)(r:List kf):FI (uq g r).1 (uq g r).2:=FI.steps r _ (FI.new hg)
def SY{k:Node->Int}{ae:List Node}{c:Int}(h0:0<=c)(h8:c<8)(hk:∀n,n∈ae->k n=c)(hne:ae≠[]):qu k ae=[⟨c,ae⟩]:=by
 have hf:∀g:Nat,(ae.filter fun n=>k n==(g:Int))=if (g:Int)=c then ae else []:=fun g=>by
  split
  ·rename_i hg;exact gv.2 fun n hn=>by simp[hk n hn,hg]
  ·rename_i hg;exact List.filter_eq_nil_iff.2 fun n hn=>by simp[hk n hn,dD hg]
 unfold qu;simp only[hf];obtain⟨n,rfl⟩:∃n:Nat,c=n:=⟨c.toNat,by omega⟩
 have hn:n<8:=by omega
 have:n=0\/n=1\/n=2\/n=3\/n=4\/n=5\/n=6\/n=7:=by omega
 have he:ae.isEmpty=false:=by cases ae with
  |nil=>exact absurd rfl hne
  |cons a r=>rfl
 rcases this with rfl|rfl|rfl|rfl|rfl|rfl|rfl|rfl<;>simp[List.range,List.range.loop,hne]
def FI.alone(h:FI l t){p:Piece}(hl:l=[p]):(bm l t).er=[⟨p.group,t.ae⟩]:=by
 obtain⟨cg,hg⟩:=h.rt;have hp:=h.prt.ok p (by rw[hl]; simp)
 refine SY hp.2.1 hp.2.2.1 (fun n hn=>?_) (fun e=>?_)
 ·have hf:=(fy hg.jE.jx).2 ⟨hn,rfl⟩;obtain⟨k,q⟩:=(pw hg h.prt h.may hf).dh hg;have h2:=q.lt hg h.prt;rw[hl] at h2;have:(uS l t.ae n.au).toNat=0:=by rw[hl]; simp at h2; omega
  rw[ko,this,hl]; rfl
 ·obtain⟨r,hr,_⟩:=hg.root;rw[e] at hr; cases hr
def wU{k:Node->Int}{ae:List Node}{x:qy}(hx:x∈qu k ae):x.ae=(ae.filter fun n=>k n==x.group)/\x.ae≠[]/\0<=x.group/\x.group<8:=by
 simp only[qu,jZ] at hx;obtain⟨g,hg,h⟩:=hx;split at h
 ·cases h
 ·rename_i he;injection h with h
  subst h;refine⟨rfl,fun e=>he (by simp only at e; rw[e]; rfl),by simp,?_⟩
  have:=fA.1 hg;simp only; omega
def SX{k:Node->Int}{ae:List Node}{g:Int}(h0:0<=g)(h8:g<8)(hne:(ae.filter fun n=>k n==g)≠[]):(⟨g,ae.filter fun n=>k n==g⟩:qy)∈qu k ae:=by
 simp only[qu,jZ];refine⟨g.toNat,by rw[fA]; omega,?_⟩
 have:((g.toNat:Nat):Int)=g:=by omega
 rw[this,ak];intro e;exact hne (List.isEmpty_iff.1 e)
def alone(h:FI l t){o:oW}(hk:o.kind≠3/\o.kind≠5){x:qy}(hx:x∈(bm l t).er)(ha:wv l o.aU x.group=false):∃y,y∈(bm l (mW l t o).1).er/\y.group=x.group/\y.ae=x.ae:=by
 obtain⟨cg,hg⟩:=h.rt;obtain⟨h1,h2,h3,h4⟩:=wU hx;have hd:=h.do o
 have fin:∀t',(mW l t o).1=t'->(t.ae.filter fun n=>ko l t.ae n.au==x.group)=(t'.ae.filter fun n=>ko l t'.ae n.au==x.group)->∃y,y∈(bm l (mW l t o).1).er/\y.group=x.group/\y.ae=x.ae:=fun t' e hs=>by
  rw[e];exact⟨_,SX h3 h4 (by rw[<-hs,<-h1]; exact h2),rfl,by rw[h1]; exact hs.symm⟩
 unfold mW at hd fin ⊢;split at hd
 ·rename_i c1;rw[az c1] at fin ⊢;exact fin t rfl rfl
 rename_i c1;rw[ak c1] at fin ⊢;split at hd
 ·rename_i c2;rw[az c2] at fin ⊢;exact fin t rfl rfl
 rename_i c2;rw[ak c2] at fin ⊢;split at hd
 ·rename_i c3;rw[az c3] at fin ⊢;exact fin t rfl rfl
 rename_i c3;rw[ak c3] at fin ⊢;split at hd
 ·rename_i c4;rw[az c4] at fin ⊢;exact fin t rfl rfl
 rename_i c4;rw[ak c4] at fin ⊢;refine fin _ rfl ?_;have same:fj t=t:=AX hg h.may
 by_cases k2:o.kind=2
 ·have hw:fa t o=uJ t o:=by unfold fa; rw[ak (by omega),az k2]
  rw[hw] at c3 hd ⊢;unfold uJ at c3 hd ⊢;dsimp only at c3 hd ⊢;split at c3
  ·rename_i c5; exact absurd c5 (by simpa using c3)
  rename_i c5;rw[ak c5] at hd ⊢;split at c3
  ·rename_i c6; exact absurd c6 (by simpa using c3)
  rename_i c6;rw[ak c6] at hd ⊢;obtain⟨P,s,f,p1,p2,p3⟩:=vl (by simpa using c5)
  rw[p3] at c6 hd ⊢;simp only at c6 hd ⊢;have hok:(nu t f s o.n).2.2=0:=by simpa using c6
  obtain⟨dep',h'⟩:=Cb hg f s o.n fun h=>h
  obtain⟨dN,hdN,hdk,hx',he,hne,iv,hf⟩:=GZ hg hok
  have hsw:fj (nu t f s o.n).1=(nu t f s o.n).1:=by
   refine zC _ _ fun n hn hk1 e0=>?_
   have hfn:=(fy h'.jE.jx).2 ⟨hn,rfl⟩;rw[hf] at hfn;split at hfn
   ·injection hfn with hfn
    rw[<-hfn] at hk1;simp only at hk1; omega
   ·split at hfn
    ·injection hfn with hfn
     rw[<-hfn] at e0; cases e0
    ·have:=C8 hg h.may hfn;simp[jy,hk1,e0] at this
  rw[hsw] at hd ⊢;exact MT hg h.prt h.may p1 (pM.1 p2) hok h' hd.may ha
 by_cases k4:o.kind=4
 ·have hw:fa t o=nJ t o:=by unfold fa; rw[ak (by omega),ak (by omega),ak (by omega),az k4]
  rw[hw] at c3 hd ⊢;unfold nJ at c3 hd ⊢;dsimp only at c3 hd ⊢;split at c3
  ·rename_i c5; exact absurd c5 (by simpa using c3)
  rename_i c5;rw[ak c5] at hd ⊢;split at c3
  ·rename_i c6; exact absurd c6 (by simpa using c3)
  rename_i c6;rw[ak c6] at hd ⊢;obtain⟨P,s,f,p1,p2,p3⟩:=vl (by simpa using c5)
  rw[p3] at c6 hd ⊢;simp only at c6 hd ⊢;exact Pk hg h.prt h.may p1 (pM.1 p2) (by simpa using c6) (GD hg f s) hd.may ha
 ·have hw:(fa t o).1=t:=by
   unfold fa;split
   ·unfold rQ; split<;>rfl
   rw[ak hk.1,ak hk.2];split
   ·unfold tT;dsimp only;split
    ·rfl
    split<;>rfl
   ·unfold rT;dsimp only;split<;>rfl
  rw[hw,same]
end
section
attribute [local irreducible] fS fp kH gK dv kr aq aM cv bJ
def afH(z:Int):aq c9 246 [kJ [],.func 219 [cL 0]] [cm [aG z]]=some (aG (-1),[cm [aG z]]):=by
 have h00:decide ((0:Int)<0)=false:=rfl;have hz:((0:Nat):Int)=0:=rfl;refine aJ ?_;simp only[Qm,FP,hz,EN,seval];rw[bZ];simp only[FP,h00,EN,seval]
end
def ahh(z:Int):aM (aq c9) 246 [kJ [],.func 219 [cL 0]] [cm [aG z]]=some (aG (-1),[cm [aG z]]) :=
 lP (ids:=[0]) rfl rfl (show kh [cm [aG z]] (iH [0]) [0]=some [cm [aG z]] from rfl) rfl rfl (afH z) rfl rfl rfl rfl rfl
section
attribute [local irreducible] fS fp kH gK dv kr aq aM cv bJ
def afG(z:Int):aq c9 217 [kJ [],.func 219 [cL 0]] [cm [aG z]]=some (kJ [],[cm [aG z]]):=by
 have h11:((-1:Int) == -1)=true:=rfl;refine aJ ?_;simp only[LI,FO,ahh,h11,EN,seval]
end
def aha(z:Int)(b0 b2 b3:cD):aM (aq c9) 217 [kJ [],.func 219 [cL 1]] [b0,cm [aG z],b2,b3]=some (kJ [],[b0,cm [aG z],b2,b3]) :=
 lP (ids:=[1]) rfl rfl (show kh [b0,cm [aG z],b2,b3] (iH [1]) [1]=some [cm [aG z]] from rfl) rfl rfl (afG z) rfl rfl rfl rfl rfl
def Zl(b0 b2 b3:cD)(xs:List ag)(z:Int):kh [b0,cm [aG z],b2,b3,.arr 3 0 xs] (iH [4,1]) [4,1]=some [.arr 3 0 xs,cm [aG z]]:=rfl
def alx(xs:List eD)(z:Int)(hn:xs.length<=100000)(h0:xs≠[])(hk:jh z xs≠[])(b0 b2 b3:cD):aM (aq c9) 217 [.dk 4 0 3 0 xs.length,.func 219 [cL 1]] [b0,cm [aG z],b2,b3,.arr 3 0 (xs.map gk)] =
  some (.dk 4 0 3 0 (jh z xs).length,[b0,cm [aG z],b2,b3,.arr 3 0 ((jh z xs++List.replicate (xs.length-(jh z xs).length) yQ).map gk)]):=by
 have h:=afF xs z hn h0;have hl:(jh z xs).length≠0:=fun hh=>hk (ct.1 hh)
 have hr:Gz (jh z xs).length = .dk 0 0 3 0 (jh z xs).length:=by simp[Gz,hl]
 rw[hr] at h;exact lP (ids:=[4,1]) rfl rfl (Zl ..) rfl rfl h rfl rfl rfl rfl rfl
def ahb(xs:List eD)(z:Int)(hn:xs.length<=100000)(h0:xs≠[])(hk:jh z xs=[])(b0 b2 b3:cD):aM (aq c9) 217 [.dk 4 0 3 0 xs.length,.func 219 [cL 1]] [b0,cm [aG z],b2,b3,.arr 3 0 (xs.map gk)] =
  some (kJ [],[b0,cm [aG z],b2,b3,.arr 3 0 ((List.replicate xs.length yQ).map gk)]):=by
 have h:=afF xs z hn h0;have hr:Gz (jh z xs).length = kJ []:=by simp[Gz,hk]
 rw[hr,hk] at h;simp only[aY,aH,bV] at h;exact lP (ids:=[4,1]) rfl rfl (Zl ..) rfl rfl h rfl rfl rfl rfl rfl
section
attribute [local irreducible] fS fp kH gK dv kr aq aM cv bJ
end
section
def alR(n:eD):tN 2 (gk n)=n.ai:=rfl
def HM(x:eD):∀l:List eD,CT 2 (gk x) (l.map gk)=(vW x l).map gk
 | []=>rfl
 |y::r=>by
  simp only[aW,CT,vW,alR]
  by_cases h:x.ai<y.ai
  ·simp only[h,aE,aW]
  ·simp only[h,aw,aW,HM x r]
def Fc:∀l:List eD,rA 2 (l.map gk)=(mS l).map gk
 | []=>rfl
 |x::r=>by simp only[aW,rA,mS,Fc r,HM]
def Ep(x:eD):∀l,(vW x l).length=l.length+1
 | []=>rfl
 |y::r=>by simp only[vW]; split<;>simp[Ep x r]
def yJ:∀l,(mS l).length=l.length
 | []=>rfl
 |x::r=>by simp[mS,Ep,yJ r]
def KV{l Z:List eD}{v:Nat}(hl:l.length<=1000000)(hn:(l.map eD.ai).Nodup):aq c9 220 [.dk 0 v 3 0 l.length,.func 221 []] [.arr 3 v ((l++Z).map gk)]=some (.tuple [],[.arr 3 v ((mS l++Z).map gk)]):=by
 refine gF (g:=vY 3 2 221) rfl ?_;unfold vY;simp only[nth];have ht:((l++Z).map gk).take l.length=l.map gk:=by simp[gw]
 have hd:((l++Z).map gk).drop l.length=Z.map gk:=by simp
 rw[ht,hd,Fc,<-bC];rw[gb]
 ·rfl
 ·refine⟨trivial,trivial,trivial,by simp,trivial,by omega,?_,?_⟩
  ·intro x hx;obtain⟨n,_,rfl⟩:=bS.1 hx;rfl
  ·rw[fW];exact hn
def ahZ(xs:List ag)(v:Nat)(b0 b1 b2 b3:cD):kh [b0,b1,b2,b3,.arr 3 v xs] (iH [4]) [4]=some [.arr 3 v xs]:=rfl
attribute [local irreducible] fS fp kH gK dv kr aq aM cv bJ
structure BM(o:oW):Prop where
 aU:o.aU.length<=90000
 rz:o.rz.length<=90000
 data:o.data.length<=90000
def cq.LR{t:Tree}{cg:Int->Nat}(h:cq t cg 0)(to:Int)(nm:Bytes):∀e,eb (gA t.ae to).1.aN nm=some e->(bE t.ae e.au).au≠to:=by
 intro e he;unfold gA at he;split at he
 ·cases he
 ·rename_i n hn;split at he
  ·have hem:=(eB he).1;obtain⟨_,_,_,_,m,hm,_⟩:=h.wF _ _ e hn hem;simp only[bE,hm,bA,(cj hm).2];exact h.vA hn hem
  ·cases he
def aln(t:Tree)(ht:Rt t)(dir:Int)(s:Bytes)(kind:Int)(hs:s.length<=100000)(M:aL):aM (aq fR) 171 [.agg [a8 t.ae,aG t.next,aG t.ai],aG dir,.str s,aG kind] M =
  some (.tuple [.agg [a8 (nu t dir s kind).1.ae,aG (nu t dir s kind).1.next,aG (nu t dir s kind).1.ai],aG (nu t dir s kind).2.1,aG (nu t dir s kind).2.2],M):=by
 obtain⟨cg,h⟩:=ht;have:=aj5 t dir s kind (h.sz.up (by omega)) h.jE hs trivial h.iv
 rw[US h] at this;exact lS (cO this M)
def alo(t:Tree)(ht:Rt t)(au dir:Int)(s:Bytes)(hs:s.length<=100000)(M:aL):aM (aq fR) 172 [.agg [a8 t.ae,aG t.next,aG t.ai],aG au,aG dir,.str s] M =
  some (.tuple [.agg [a8 (BG t au dir s).1.ae,aG (BG t au dir s).1.next,aG (BG t au dir s).1.ai],aG (BG t au dir s).2],M):=by
 obtain⟨cg,h⟩:=ht;have:=aj6 t au dir s (h.sz.up (by omega)) h.jE hs trivial
 rw[acN h] at this;exact lS (cO this M)
def alp(t:Tree)(ht:Rt t)(dir:Int)(s:Bytes)(hs:s.length<=100000)(M:aL):aM (aq fR) 174 [.agg [a8 t.ae,aG t.next,aG t.ai],aG dir,.str s] M =
  some (.tuple [.agg [a8 (vJ t dir s).1.ae,aG (vJ t dir s).1.next,aG (vJ t dir s).1.ai],aG (vJ t dir s).2.1,aG (vJ t dir s).2.2],M):=by
 obtain⟨cg,h⟩:=ht;have:=aj7 t dir s (h.sz.up (by omega)) h.jE hs trivial
 rw[adA h] at this;exact lS (cO this M)
def alq(t:Tree)(ht:Rt t)(dir:Int)(s:Bytes)(to:Int)(nm:Bytes)(hs:s.length<=100000)(hn:nm.length<=100000)(M:aL):aM (aq fR) 176 [.agg [a8 t.ae,aG t.next,aG t.ai],aG dir,.str s,aG to,.str nm] M =
  some (.tuple [.agg [a8 (wg t dir s to nm).1.ae,aG (wg t dir s to nm).1.next,aG (wg t dir s to nm).1.ai],aG (wg t dir s to nm).2.1,aG (wg t dir s to nm).2.2],M):=by
 obtain⟨cg,h⟩:=ht;have:=aj9 t dir s to nm (h.sz.up (by omega)) h.jE hs trivial hn trivial (fun e he=>h.LR to nm e he)
 rw[acV h] at this;exact lS (cO this M)
def alT(t:Tree)(ht:Rt t)(au:Int)(s:Bytes)(hs:s.length<=100000)(M:aL):aM (aq fR) 175 [.agg [a8 t.ae,aG t.next,aG t.ai],aG au,.str s] M =
  some (.tuple [aG (dV t.ae au s).1,aG (dV t.ae au s).2],M):=lS (VH t.ae t.next t.ai au s ht.small ht.jE hs trivial M)
def Rt.add{t:Tree}(h:Rt t)(dir:Int)(s:Bytes)(kind:Int):Rt (nu t dir s kind).1:=let ⟨_,g⟩:=h; Cb g dir s kind (fun h=>h)
def Rt.ln{t:Tree}(h:Rt t)(au dir:Int)(s:Bytes):Rt (BG t au dir s).1:=let ⟨_,g⟩:=h; ⟨_,L4 g au dir s (fun h=>h)⟩
def Rt.un{t:Tree}(h:Rt t)(dir:Int)(s:Bytes):Rt (vJ t dir s).1:=let ⟨_,g⟩:=h; ⟨_,GD g dir s⟩
def Rt.mv{t:Tree}(h:Rt t)(dir:Int)(s:Bytes)(to:Int)(nm:Bytes):Rt (wg t dir s to nm).1:=let ⟨_,g⟩:=h; Mf g dir s to nm (fun h=>h)
def vk(t:Tree)(s:Bytes)(hs:s.length<=100000):(lf t s).2.1.length<=1000:=by
 have:=tv s hs;unfold lf;split
 ·simp
 ·split
  ·simp
  ·simp only; omega
def alz{l Z:List eD}{v:Nat}(hl:l.length<=1000000)(hn:(l.map eD.ai).Nodup)(b0 b1 b2 b3:cD):aM (aq c9) 220 [.dk 4 v 3 0 l.length,.func 221 []] [b0,b1,b2,b3,.arr 3 v ((l++Z).map gk)]=some (.tuple [],[b0,b1,b2,b3,.arr 3 v ((mS l++Z).map gk)]) :=
 lP (ids:=[4]) rfl rfl (ahZ _ _ ..) rfl rfl (KV hl hn) rfl rfl rfl rfl rfl
def Y8(M:aL):aM (aq c9) 220 [kJ [],.func 221 []] M=some (.tuple [],M):=by
 have h:aq c9 220 [kJ [],.func 221 []] []=some (.tuple [],[]):=by
  refine gF (g:=vY 3 2 221) rfl ?_;unfold vY;simp only[aE]
 exact cO h M
def z7{t:Tree}{cg:Int->Nat}(h:cq t cg 0)(au:Int):((gA t.ae au).1.aN.map eD.ai).Nodup/\(gA t.ae au).1.aN.length<=64:=by
 unfold gA;cases hi:find t.ae au with
 |none=>exact⟨kK,by simp[Node.zero]⟩
 |some n =>
  simp only;split
  ·exact⟨by rw[List.nodup_iff_pairwise_ne,jr]; exact(h.xN _ _ hi).1,(h.xN _ _ hi).2⟩
  ·exact⟨kK,by simp[Node.zero]⟩
def aj3(t:Tree)(ht:Rt t)(au z m:Int):aq c9 168 [bK t,aG au,aG z,aG m] []=some (.tuple [ij (p9 t au z m).1,aG (p9 t au z m).2.1,aG (p9 t au z m).2.2],[]):=by
 obtain⟨cg,h⟩:=ht;refine aJ ?_;have q1:=fun b c M=>VJ t.ae t.next t.ai au h.jE.jx (by have:=h.ae; omega) 2 (b::c :: cm [a8 t.ae,aG t.next,aG t.ai]::M) rfl
 obtain⟨hnd,h64⟩:=z7 h au;have hknd:((jh z (gA t.ae au).1.aN).map eD.ai).Nodup:=(List.filter_sublist.map _).nodup hnd;have hkl:(jh z (gA t.ae au).1.aN).length<=64:=bj (fg _ _) h64;unfold p9 Bg;generalize gA t.ae au=d at q1 hnd h64 hknd hkl ⊢;simp only[cn,aV] at q1;cases g1:decide (z<0)
 ·cases g2:decide (m<1)
  ·cases g3:decide (64<m)
   ·cases g4:d.2 != 0
    ·obtain⟨M,hM⟩:∃M:Nat,m=(M:Int):=⟨m.toNat,by simp at g2; omega⟩
     subst hM;have hM1:1<=M:=by simp at g2; omega
     have hM64:M<=64:=by simp at g3; omega
     generalize hE:d.1.aN=E at q1 hknd hkl h64 ⊢;have c0:∀b0 b2 b3,aM (aq c9) 217 [kJ [],.func 219 [cL 1]] [b0,cm [aG z],b2,b3]=some (kJ [],[b0,cm [aG z],b2,b3]):=fun b0 b2 b3=>aha z b0 b2 b3
     have z0:((0:Int)<=(M:Int))=True:=by simp
     by_cases hE0:E=[]
     ·have p1:∀M,aq c9 218 [ij E] M=some (.slice .c0 [],M):=fun M=>by subst hE0; exact ahU M
      have hk:mS (jh z E)=[]:=by subst hE0; rfl
      rw[hk];simp only[xX,GM,bK,bd,q1,g1,g2,g3,g4,p1,c0,Y8,z0,aH,aV,dI,af,aE,aw,EW,seval];rfl
     ·have p1:=fun M=>p58 (l:=E) hE0 (by omega) M
      by_cases hK0:jh z E=[]
      ·have p2:=fun b0 b2 b3=>ahb E z (by omega) hE0 hK0 b0 b2 b3
       have hk:mS (jh z E)=[]:=by rw[hK0]; rfl
       rw[hk];simp only[xX,GM,bK,bd,q1,g1,g2,g3,g4,p1,p2,Y8,z0,aH,aV,dI,af,aE,aw,EW,seval];rfl
      ·have p2:=fun b0 b2 b3=>alx E z (by omega) hE0 hK0 b0 b2 b3
       have hsl:=yJ (jh z E);generalize jh z E=kk at p2 hknd hkl hK0 hsl ⊢;generalize List.replicate (E.length-kk.length) yQ=Z at p2;have p3:=fun b0 b1 b2 b3=>alz (l:=kk) (Z:=Z) (v:=0) (by omega) hknd b0 b1 b2 b3
       generalize mS kk=ss at p3 hsl ⊢;have tk:List.take kk.length ((ss++Z).map gk)=ss.map gk:=by rw[<-hsl]; simp[gw]
       cases g5:decide ((kk.length:Int)<=(M:Int))
       ·have cu:M<kk.length:=by simp at g5; omega
        have g6:decide ((ss.length:Int)<=(M:Int))=false:=by rw[hsl]; exact g5
        have hw1:IntKind.i64.wrap ((M:Int)-1)=((M-1:Nat):Int):=by rw[gD (by omega) (by omega)]; omega
        have hx:=aj (show M-1<ss.length by omega)
        have hg:ss.getD (M-1) yQ=ss[M-1]:=by simp[List.getD,hx]
        have hat:(ss++Z)[M-1]?=some ss[M-1]:=by rw[bl (by omega)]; exact hx
        have tm:List.take M ((ss++Z).map gk)=(ss.take M).map gk:=by
         rw[<-ka,gw (by omega)]
        have b1:((M:Int)<=(kk.length:Int))=True:=by simp; omega
        have b2:((M:Int)==0)=false:=by simp; omega
        have b3:((0:Int)==(M:Int))=false:=by simp; omega
        have b4:(((M-1:Nat):Int)<(kk.length:Int))=True:=by simp; omega
        simp only[xX,GM,bK,bd,q1,g1,g2,g3,g4,g5,g6,p1,p2,p3,z0,hw1,hg,hat,tm,b1,b2,b3,b4,jf,fJ,bV,ew,aV,dI,af,aE,aw,EW,seval];rw[<-ka]
       ·have g6:decide ((ss.length:Int)<=(M:Int))=true:=by rw[hsl]; exact g5
        simp only[xX,GM,bK,bd,q1,g1,g2,g3,g4,g5,g6,p1,p2,p3,tk,bV,aV,dI,af,aE,aw,EW,seval]
    ·simp only[xX,GM,bK,bd,q1,g1,g2,g3,g4,aV,dI,af,aE,aw,EW,seval];rfl
   ·simp only[xX,GM,bK,bd,g1,g2,g3,aV,dJ,dI,af,aE,aw,EW,seval];rfl
  ·simp only[xX,GM,bK,bd,g1,g2,aV,dK,dJ,dI,af,aE,aw,EW,seval];rfl
 ·simp only[xX,GM,bK,bd,g1,aV,dK,dI,af,aE,aw,EW,seval];rfl
def alm(t:Tree)(ht:Rt t)(au z m:Int)(M:aL):aM (aq fR) 168 [.agg [a8 t.ae,aG t.next,aG t.ai],aG au,aG z,aG m] M=some (.tuple [ij (p9 t au z m).1,aG (p9 t au z m).2.1,aG (p9 t au z m).2.2],M) :=
 lS (cO (aj3 t ht au z m) M)
def Aq{t:Tree}(ht:Rt t)(au z m:Int):(p9 t au z m).1.length<=100000:=by
 obtain⟨cg,h⟩:=ht;have h64:=(z7 h au).2;have hf:(Bg t.ae au z).length<=64:=by unfold Bg; rw[yJ]; exact bj (fg _ _) h64
 unfold p9;split
 ·simp
 ·split
  ·simp
  ·split
   ·simp only; omega
   ·simp; omega
def c92(e:Int):aq fR 92 [aG e] []=some (if e != 0 then iY e else .tuple [],[]):=by
 refine aJ ?_;simp only[agK,E92,EW,seval];cases he:e != 0
 ·simp only[E92,af,aw,EW,seval]
 ·simp only[E92,aE,valOf,iY,EW,seval]
def zk(e:Int)(M:aL):aM (aq fR) 92 [aG e] M=some (if e != 0 then iY e else .tuple [],M) :=
 vv (c92 e) rfl rfl (by split<;>rfl) rfl (by split<;>rfl) M
def c47(b:Bool)(e:Int)(he:(e != 0)=true):aq fR 47 [.bool b,aG e] []=some (if b then .tuple [] else iY e,[]):=by
 refine aJ ?_;have q:=zk e;rw[az he] at q;cases b<;>simp only[agl,E47,q,iY,af,aE,aw,EW,seval]
def Uv(b:Bool)(e:Int)(he:(e != 0)=true)(M:aL):aM (aq fR) 47 [.bool b,aG e] M=some (if b then .tuple [] else iY e,M) :=
 vv (c47 b e he) rfl rfl (by split<;>rfl) rfl (by split<;>rfl) M
def k71(a b:Tree)(ha:Small a)(M:aL):aM (aq c9) 71 [.agg [a8 a.ae,aG a.next,aG a.ai],.agg [a8 b.ae,aG b.next,aG b.ai]] M=some (.bool (decide (a=b)),M):=cO (c71 a b ha) M
def c78:aq c9 78 [] []=some (.agg (bd oU),[]):=by
 refine aJ ?_;simp only[agE,E78,EW,seval];rfl
def k78:=cP c78
end
def M7(n:oW):(ue n).cells=dP n:=rfl
def SI(n:oW):(dP n).length=8:=rfl
def tkO(n:oW):List.take 8 (dP n)=dP n:=rfl
def shO(n:oW):List.map ag.shut (dP n)=dP n:=rfl
def Py(s:kf):(qp s).cells=eH s:=rfl
def Wi(s:kf):(eH s).length=11:=rfl
def amv(s:kf):List.take 11 (eH s)=eH s:=rfl
def amt(s:kf):List.map ag.shut (eH s)=eH s:=rfl
set_option linter.defProp false in
def si:=bR @M7$ bR @SI$ bR @tkO$ bR @shO$ bR @Py$ bR @Wi$ bR @amv (@amt)
def zm(o:oW):Bool:=decide (5000<(o.data.length:Int))||(decide (1000<(o.aU.length:Int))||decide (1000<(o.rz.length:Int)))
def Gj{o:oW}(h:zm o=false):BM o:=by
 simp only[zm,jm,dq] at h;exact⟨by omega,by omega,by omega⟩
def L5(s:kf):Bool:=zm s.op||decide (1000<(s.aU.length:Int))
def sI(l:List kf):Bool:=if decide (40<(l.length:Int)) then true else l.any L5
def sq{l:List kf}(h:sI l=false):l.length<=40/\∀s,s∈l->BM s.op/\s.aU.length<=1000:=by
 unfold sI at h;split at h
 ·cases h
 ·rename_i h0;simp only[bu] at h0;refine⟨by omega,fun s hs=>?_⟩
  have:=List.any_eq_false.1 h s hs;simp only[L5,cN,kL,Bool.not_eq_true,dq] at this;exact⟨Gj this.1,by omega⟩
section
attribute [local irreducible] fS fp kH gK dv kr aq aM cv bJ
def c13(o:oW):aq c9 13 [ue o] []=some (.bool (zm o),[]):=by
 refine aJ ?_;unfold zm
 cases h1:decide (5000<(o.data.length:Int))<;>cases h2:decide (1000<(o.aU.length:Int))<;>cases h3:decide (1000<(o.rz.length:Int)) <;>
  simp only[af3,E13,ue,dP,h1,h2,h3,dJ,dK,gq,dg,EW,seval]
def k13(o:oW)(M:aL):aM (aq c9) 13 [.agg (dP o)] M=some (.bool (zm o),M):=cO (c13 o) M
def c12(xs:List kf):aq c9 12 [oS xs] []=some (.bool (sI xs),[]):=by
 refine aJ ?_;unfold sI;cases h0:decide (40<(xs.length:Int))<;>simp only[af2,E12,h0,aE,af,aw,si,EW,seval]
 have hn:xs.length<=40:=by simp at h0; omega
 refine pq (xs:=xs) (by omega) (fun l (_:Unit)=>l.any L5) (fun _ i=>[(0,oS xs),(3,aG i)]) (fun _=>[]) (fun b=>some (ag.bool b,([]:aL))) (fun _=>?_) (fun pre x post _ h hx cu hw h0 hm hi=>?_) ()
 ·simp only[E12,bg,List.any_nil,si,EW,seval]
 ·have q:=fun M=>k13 x.op M
  simp only[dP,jt] at q;have i1:=hi ();simp only[List.any_cons,L5] at i1 ⊢;cases hl:zm x.op<;>rw[hl] at q<;>cases hp:decide (1000<(x.aU.length:Int))<;>simp only[E12,cu,hx,hw,q,hl,hp,eH,dP,aX,aY,dK,dg,dJ,gq,si,EW,seval]
  exact i1
def Uu xs:=cP (c12 xs)
end
def Zb{f:Nat}{a:List ag}{M:aL}{x:ag×aL}(h:aq c9 f a M=some x):aq iR f a M=some x:=lF' (lS' h)
def lG{f:Nat}{vs:List ag}{M:aL}{x:ag×aL}(h:aM (aq c9) f vs M=some x):aM (aq iR) f vs M=some x:=lF (lS h)
section
open Go.ChangeShapes Go.WideShapes Go.ChangeAt Go.RowKit Go.Deep
def laidOut:laidOutB Tryz.prog=true:=by kernel_rfl
section
variable {H:Type} {enc:TypeId×Value->H}
def lr{W W':World}(hb:Below W.heap.size W W'):∀ {ts:List TypeId} {vs:List Value} {ds:List (DataW H)} {p:List MemPlace},DataW.TrodAll enc Tryz.prog W 0 (fun _=>true) true ts vs ds p ->
  (∀t,t∈ts->Tryz.prog.readableRec t=true/\t<Tryz.prog.types.size)->(∀x∈p,x.block<W.heap.size)->DataW.TrodAll enc Tryz.prog W' 0 (fun b=>decide (b<W.heap.size)) true ts vs ds p
 | [],vs,ds,p,h,_,_=>by
  obtain⟨rfl,rfl,rfl⟩:=trodAll_nil h;exact trodAll_mk0
 |t::ts,vs,ds,p,h,ht,hp=>by
  obtain⟨v,vs',d,ds',p1,q,rfl,rfl,rfl,h1,h2⟩:=trodAll_cons h
  exact trodAll_cons_mk (Below.trod laidOut (ht t aD).1 (ht t aD).2 h1 hb (fun x hx=>hp x (eR _ hx)))
   (lr hb h2 (fun t ht'=>ht t (aP _ ht')) (fun x hx=>hp x (hZ _ hx)))
abbrev DI(w:World):Nat->Nat->Prop:=nV OZ [] w
def T6{w:World}{b off:Nat}(h:b<w.heap.size):DI w b off:=⟨h,fun id hid=>absurd hid (kb _),fun hx=>hx⟩
def lC(b off i:Nat):(⟨b,off,none⟩:Addr).add i=⟨b,off+i,none⟩:=by
 unfold Addr.add;split
 ·rename_i h; rw[h]; rfl
 ·rfl
def xu{w:World}{fuel t:Nat}{v:Value}{x:DataW H×List MemPlace}(ht:Tryz.prog.underlying t=some (.int .i64))(h:DataW.trod enc Tryz.prog w 0 (fun _=>true) true fuel t [v]=some x):∃n:Int,fI w (DI w) (.int .i64 n) v:=by
 obtain⟨n,q,_,_⟩:=DataW.trod_int ht h;cases q;exact⟨n,.int _ _⟩
def Um{w:World}{fuel t:Nat}{v:Value}{x:DataW H×List MemPlace}(ht:Tryz.prog.underlying t=some (.int .u8))(h:DataW.trod enc Tryz.prog w 0 (fun _=>true) true fuel t [v]=some x):∃b:UInt8,fI w (DI w) (mL b) v:=by
 obtain⟨n,q,_,wf⟩:=DataW.trod_int ht h;cases q;have h3:IntKind.u8.min<=n/\n<=IntKind.u8.max:=by simpa[Lit.wf] using wf
 have e1:IntKind.u8.min=0:=by decide
 have e2:IntKind.u8.max=255:=by decide
 have e:n=((UInt8.ofNat n.toNat).toNat:Int):=by rw[UInt8.toNat_ofNat']; omega
 refine⟨UInt8.ofNat n.toNat,?_⟩;unfold mL;rw[<-e];exact .int _ _
def BZ{w:World}{fuel t:Nat}{v:Value}{x:DataW H×List MemPlace}(ht:Tryz.prog.underlying t=some .string)(h:DataW.trod enc Tryz.prog w 0 (fun _=>true) true fuel t [v]=some x):∃s:Bytes,fI w (DI w) (.str s) v:=by
 obtain⟨s,q,_,_⟩:=DataW.trod_string ht h;cases q;refine⟨s.data.toList,?_⟩;have:Go.Abs.bs s.data.toList=s:=by apply ByteArray.ext; simp[Go.Abs.bs]
 have h:=fI.str (w:=w) (hU:=DI w) s.data.toList;rw[this] at h;exact h
def Ba{α:Type}(P:Nat->α->Prop):∀(n:Nat),(∀i,i<n->∃a,P i a)->∃l:List α,l.length=n/\∀i a,l[i]?=some a->P i a
 |0,_=>⟨[],rfl,fun i a h=>by cases i<;>cases h⟩
 |n+1,h=>by
  obtain⟨l,hl,hp⟩:=Ba P n (fun i hi=>h i (by omega))
  obtain⟨a,ha⟩:=h n (by omega)
  refine⟨l++[a],by simp[hl],fun i b hb=>?_⟩
  rcases bH i n with hi|hi
  ·rw[bl (by omega)] at hb
   exact hp i b hb
  ·rw[br (by omega)] at hb
   have:i=n:=by
    have:=(aC.1 hb).1;simp at this; omega
   subst this;simp[hl] at hb;subst hb; exact ha
def nq(w:World)(l:List ag)(cs:List Value):Prop:=l.length=cs.length/\∀(k:Nat)(c:ag)(v:Value),l[k]?=some c->cs[k]?=some v->fI w (DI w) c v
def nq.one{w:World}{c:ag}{v:Value}(h:fI w (DI w) c v):nq w [c] [v]:=⟨rfl,fun k c' v' h1 h2=>by
 match k with
 |0=>cases h1; cases h2; exact h
 |k+1=>cases h1⟩
def nq.app{w:World}{a b:List ag}{cs ds:List Value}(h:nq w a cs)(g:nq w b ds):nq w (a++b) (cs++ds):=⟨by simp[h.1,g.1],fun k c v h1 h2=>by
 rcases bH k a.length with hk|hk
 ·rw[bl hk] at h1;rw[bl (by rw[<-h.1]; exact hk)] at h2
  exact h.2 k c v h1 h2
 ·rw[br hk] at h1;rw[br (by rw[<-h.1]; exact hk),<-h.1] at h2
  exact g.2 _ c v h1 h2⟩
def nq.nil{w:World}:nq w [] []:=⟨rfl,fun k c v h1 _=>by cases h1⟩
def ahu:DataW H->Nat
 | .slice es _=>es.length
 |_=>0
def IL{α:Type}{w:World}{fuel t e m:Nat}{v:Value}{x:DataW H×List MemPlace}{eC:α->List ag}{mk:α->ag}(ht:Tryz.prog.underlying t=some (.slice e))(hm:Tryz.prog.cellsOf e=m)(hm0:0<m)
  (hmk:∀a,(mk a).cells=eC a) (eY:∀a,(eC a).length=m)
  (he:∀(n:Nat)(cs:List Value)(y:DataW H×List MemPlace),cs.length=m->DataW.trod enc Tryz.prog w 0 (fun _=>true) true n e cs=some y->∃a,nq w (eC a) cs)
  (h:DataW.trod enc Tryz.prog w 0 (fun _=>true) true fuel t [v]=some x) :
  ∃l:List α,fI w (DI w) (.slice .sh (l.map mk)) v/\l.length=ahu x.1:=by
 rcases open_slice ht h with ⟨hcs,hxx⟩|⟨a,len,cap,mm,n,D,Pl,hcs,_,hl,_,hmm,hxx,hi⟩
 ·cases hcs;exact⟨[],fI.nil _ _ _,by rw[hxx]; rfl⟩
 ·cases hcs;simp only[aE] at hmm;obtain⟨b,off,spot⟩:=a;rw[hm] at hi
  have each:∀i,i<len->∃s:α,∃cs',w.cells? 0 ((⟨b,off,spot⟩:Addr).add (i*m)) m=some cs'/\cs'.length=m/\nq w (eC s) cs':=by
   intro i hi';obtain⟨cs',hcl,ht⟩:=hi i (by omega)
   have hln:cs'.length=m:=(World.cells?_some hcl).2.1;obtain⟨s,hr⟩:=he _ _ _ hln ht;exact⟨s,cs',hcl,hln,hr⟩
  obtain⟨l,hll,hlp⟩:=Ba _ len each;refine⟨l,?_,by rw[hxx]; simp[ahu,hll]⟩
  have hsp:len≠0->spot=none:=fun h0=>by
   obtain⟨s,cs',hcl,h6,_⟩:=each 0 (by omega)
   obtain⟨_,_,hat⟩:=World.cells?_some hcl;have:=hat 0 hm0;have h3:cs'[0]?=some (cs'[0]'(by omega)):=aj (by omega)
   rw[h3] at this;simpa[Addr.add] using World.cell?_spot this
  have cell:∀(i:Nat)(s:α)(k:Nat)(c:ag),l[i]?=some s->(eC s)[k]?=some c->∃u,w.cell? ⟨b,off+(i*m+k),none⟩=some u/\fI w (DI w) c u:=fun i s k c hs hk=>by
   obtain⟨cs',hcl,h6,hr⟩:=hlp i s hs;have hil:i<len:=by have:=(aC.1 hs).1; omega
   obtain rfl:=hsp (by omega)
   obtain⟨_,_,hat⟩:=World.cells?_some hcl;have hk6:k<m:=by have:=(aC.1 hk).1; rw[eY] at this; exact this
   have h1:=hat k hk6;have h3:cs'[k]?=some (cs'[k]'(by omega)):=aj (by omega)
   rw[lC,lC,h3] at h1;exact⟨_,by rw[<-Nat.add_assoc]; exact h1,hr.2 k c _ hk h3⟩
  refine .slice _ _ _ _ b off m (fun q=>(w.cell? ⟨b,off+q,none⟩).getD undef) (by simp[hll]) hl (fun hne=>?_) ?_ ?_ ?_
  ·obtain rfl:=hsp (fun h0=>hne (by rw[h0] at hll; rw[ct.1 hll]; rfl))
   rfl
  ·intro x hx;obtain⟨s,_,rfl⟩:=bS.1 hx;rw[hmk,eY]
  ·intro i x k c hx hk;rw[aZ] at hx;obtain⟨s,hs,rfl⟩:=aO.1 hx;rw[hmk] at hk;obtain⟨u,h1,_⟩:=cell i s k c hs hk;refine⟨by rw[h1]; rfl,T6 (Lu h1)⟩
  ·intro i x k c hx hk;rw[aZ] at hx;obtain⟨s,hs,rfl⟩:=aO.1 hx;rw[hmk] at hk;obtain⟨u,h1,h2⟩:=cell i s k c hs hk
   show fI w _ c ((w.cell? _).getD undef)
   rw[h1];exact h2
def M1{w:World}{fuel t e:Nat}{v:Value}{x:DataW H×List MemPlace}(ht:Tryz.prog.underlying t=some (.slice e))(he:Tryz.prog.underlying e=some (.int .u8))(hc:Tryz.prog.cellsOf e=1)(h:DataW.trod enc Tryz.prog w 0 (fun _=>true) true fuel t [v]=some x) :
  ∃d:Bytes,fI w (DI w) (.slice .sh (d.map mL)) v:=by
 obtain⟨l,h,_⟩:=IL (eC:=fun b=>[mL b]) (mk:=mL) ht hc (by omega) (fun _=>rfl) (fun _=>rfl) (fun n cs y hl hy=>by
  match cs,hl with
  | [c],_ =>
   obtain⟨b,hb⟩:=Um he hy;exact⟨b,.one hb⟩) h
 exact⟨l,h⟩
set_option maxRecDepth 100000 in
def Fs{w:World}{t:Nat}{fs:Array Field}{r:Reach}{b:Nat}{v:Value}{d:DataW H}{ps:List MemPlace}{P:List Value->Prop}(ht:Tryz.prog.underlying t=some (.struct fs))(h:DataW.Trod enc Tryz.prog w 0 (fun _=>true) true t v d ps)(hv:Value.okWide Tryz.prog w r b t v)
  (K:∀(n:Nat)(cs:List Value)(y:DataW H×List MemPlace),DataW.trod enc Tryz.prog w 0 (fun _=>true) true n t cs=some y->P cs):∃cs:Array Value,v = .agg cs/\P cs.toList:=by
 obtain⟨cs,rfl,_⟩:=okWide_struct ht hv;obtain⟨fuel,hf⟩:=h;have hcs:(Value.agg cs).cells.toList=cs.toList:=rfl;rw[hcs] at hf;exact⟨cs,rfl,K _ _ _ hf⟩
def Lg{w:World}{l:List ag}{cs:Array Value}(h:nq w l cs.toList):fY OZ [] w (.agg l) (.agg cs) :=
 .agg (by rw[h.1]; simp) (fun i c v hc hv => .plain (h.2 i c v hc (by simpa using hv)))
def qw{T:BD}(hT:pj Tryz.prog (aq T)){f:Nat}{args:List ag}(h:aq T f args []=some (.bool true,[]))(w:World)(hG:sE OZ [] w)(vs:Array Value)(hl:args.length=vs.size)(hv:∀(i:Nat)(c:ag)(v:Value),args[i]?=some c->vs[i]?=some v->fY OZ [] w c v) :
  Calls Tryz.prog f vs w fun e w'=>e = .returned (.bool true)/\Below w.heap.size w w':=by
 refine((hT f args [] _ h).2 OZ w vs (amp w) hG hl hv).mono ?_;intro e w' hce;obtain⟨v,rfl,j',_,hx,hr⟩:=hce.ret rfl;obtain rfl:=hr.jb;exact⟨rfl,hx.os,hx.tape,hx.output,hx.size,fun k hk=>(hx.ur k hk fun i hi=>absurd hi (kb _)).1⟩
def Pq{w:World}{n t k:Nat}{cs:List Value}{v:Value}{y:DataW H×List MemPlace}(hc:Tryz.prog.cellsOf t=1)(hk:cs[k]?=some v)(h:DataW.trod enc Tryz.prog w 0 (fun _=>true) true n t ((cs.drop k).take (Tryz.prog.cellsOf t))=some y):DataW.trod enc Tryz.prog w 0 (fun _=>true) true n t [v]=some y:=by
 rw[hc] at h
 have:(cs.drop k).take 1=[v]:=by
  have:=(aC.1 hk);obtain⟨h1,h2⟩:=this;rw[cC h1,h2]; rfl
 rw[this] at h;exact h
def Fm:Tryz.prog.underlying 3=some (.int .i64):=by kernel_rfl
def I4:Tryz.prog.underlying 9=some .string:=by kernel_rfl
def ady:Tryz.prog.underlying 5=some (.int .u8):=by kernel_rfl
def Xr:Tryz.prog.underlying 23=some (.slice 5):=by kernel_rfl
def D1:Tryz.prog.cellsOf 3=1:=by kernel_rfl
def Pv:Tryz.prog.cellsOf 9=1:=by kernel_rfl
def afI:Tryz.prog.cellsOf 5=1:=by kernel_rfl
def U4:Tryz.prog.cellsOf 23=1:=by kernel_rfl
def al5:Tryz.prog.cellsOf 25=8:=by kernel_rfl
set_option maxRecDepth 100000 in
def TA{w:World}{fuel:Nat}{cs:List Value}{x:DataW H×List MemPlace}(h:DataW.trod enc Tryz.prog w 0 (fun _=>true) true fuel 25 cs=some x):∃o:oW,nq w (dP o) cs:=by
 obtain⟨xs,n,_,_,hl,hxl,hf⟩:=DataW.trod_struct underlying25 h;have h0:cs.length=8:=by rw[hl]; kernel_rfl
 match cs,h0 with
 | [v0,v1,v2,v3,v4,v5,v6,v7],_ =>
  match xs,hxl with
  | [y0,y1,y2,y3,y4,y5,y6,y7],_ =>
   obtain⟨a0,r0⟩:=xu Fm (Pq (k:=0) D1 rfl (hf 0 _ rfl));obtain⟨a1,r1⟩:=xu Fm (Pq (k:=1) D1 rfl (hf 1 _ rfl));obtain⟨a2,r2⟩:=BZ I4 (Pq (k:=2) Pv rfl (hf 2 _ rfl));obtain⟨a3,r3⟩:=BZ I4 (Pq (k:=3) Pv rfl (hf 3 _ rfl));obtain⟨a4,r4⟩:=xu Fm (Pq (k:=4) D1 rfl (hf 4 _ rfl));obtain⟨a5,r5⟩:=xu Fm (Pq (k:=5) D1 rfl (hf 5 _ rfl));obtain⟨a6,r6⟩:=xu Fm (Pq (k:=6) D1 rfl (hf 6 _ rfl));obtain⟨a7,r7⟩:=M1 Xr ady afI (Pq (k:=7) U4 rfl (hf 7 _ rfl));exact⟨⟨a0,a1,a2,a3,a4,a5,a6,a7⟩,.app (.one r0) (.app (.one r1) (.app (.one r2) (.app (.one r3) (.app (.one r4) (.app (.one r5) (.app (.one r6) (.one r7)))))))⟩
set_option maxRecDepth 100000 in
def TC{w:World}{r:Reach}{b:Nat}{v:Value}{d:DataW H}{ps:List MemPlace}(h:DataW.Trod enc Tryz.prog w 0 (fun _=>true) true 25 v d ps)(hv:Value.okWide Tryz.prog w r b 25 v):∃o:oW,fY OZ [] w (.agg (dP o)) v:=by
 obtain⟨cs,rfl,o,hr⟩:=Fs underlying25 h hv (fun n cs y hy=>TA hy)
 exact⟨o,Lg hr⟩
set_option maxRecDepth 100000 in
def MC{w:World}{r:Reach}{b:Nat}{v:Value}{d:DataW H}{ps:List MemPlace}(h:DataW.Trod enc Tryz.prog w 0 (fun _=>true) true 9 v d ps)(hv:Value.okWide Tryz.prog w r b 9 v):∃s:Bytes,fY OZ [] w (.str s) v:=by
 have:=hv;obtain⟨s,rfl⟩:=okWide_string I4 hv;obtain⟨fuel,hf⟩:=h;obtain⟨l,h2⟩:=BZ I4 hf;exact⟨l,.plain h2⟩
set_option maxRecDepth 100000 in
def xa{w:World}{r:Reach}{b:Nat}{v:Value}{d:DataW H}{ps:List MemPlace}(h:DataW.Trod enc Tryz.prog w 0 (fun _=>true) true 5 v d ps)(hv:Value.okWide Tryz.prog w r b 5 v):∃x:UInt8,fY OZ [] w (mL x) v:=by
 obtain⟨n,rfl,_,_,hw⟩:=open_int ady hv h;have h3:IntKind.u8.min<=n/\n<=IntKind.u8.max:=by simpa[Lit.wf] using hw
 have e1:IntKind.u8.min=0:=by decide
 have e2:IntKind.u8.max=255:=by decide
 have e:n=((UInt8.ofNat n.toNat).toNat:Int):=by rw[UInt8.toNat_ofNat']; omega
 refine⟨UInt8.ofNat n.toNat,.plain ?_⟩;unfold mL;rw[<-e];exact .int _ _
end
def yN{α:Type}{a:Array α}{l:List α}(h:a.toList=l):a=l.toArray:=by rw[<-h]
section
variable {H:Type} {enc:TypeId×Value->H}
def acW:Tryz.prog.cellsOf 74=11:=by kernel_rfl
def MG:Tryz.prog.underlying 22=some (.slice 74):=by kernel_rfl
set_option maxRecDepth 100000 in
def I0{w:World}{fuel:Nat}{cs:List Value}{x:DataW H×List MemPlace}(h:DataW.trod enc Tryz.prog w 0 (fun _=>true) true fuel 74 cs=some x):∃s:kf,nq w (eH s) cs:=by
 obtain⟨xs,n,_,_,hl,hxl,hf⟩:=DataW.trod_struct underlying74 h;have h0:cs.length=11:=by rw[hl]; kernel_rfl
 match cs,h0 with
 | [v0,v1,v2,v3,v4,v5,v6,v7,v8,v9,v10],_ =>
  match xs,hxl with
  | [y0,y1,y2,y3],_ =>
   obtain⟨a0,r0⟩:=Um ady (Pq (k:=0) afI rfl (hf 0 _ rfl));have h1:=hf 1 _ rfl;change DataW.trod enc Tryz.prog w 0 (fun _=>true) true n 25 (List.take (Tryz.prog.cellsOf 25) _)=_ at h1
   rw[al5] at h1;obtain⟨a1,r1⟩:=TA h1;obtain⟨a2,r2⟩:=BZ I4 (Pq (k:=9) Pv rfl (hf 2 _ rfl));obtain⟨a3,r3⟩:=xu Fm (Pq (k:=10) D1 rfl (hf 3 _ rfl));exact⟨⟨a0,a1,a2,a3⟩,.app (.one r0) (.app r1 (.app (.one r2) (.one r3)))⟩
set_option maxRecDepth 100000 in
def I1{w:World}{r:Reach}{b:Nat}{v:Value}{d:DataW H}{ps:List MemPlace}(h:DataW.Trod enc Tryz.prog w 0 (fun _=>true) true 74 v d ps)(hv:Value.okWide Tryz.prog w r b 74 v):∃s:kf,fY OZ [] w (.agg (eH s)) v:=by
 obtain⟨cs,rfl,o,hr⟩:=Fs underlying74 h hv (fun n cs y hy=>I0 hy)
 exact⟨o,Lg hr⟩
set_option maxRecDepth 100000 in
def rU{w:World}{r:Reach}{b:Nat}{v:Value}{d:DataW H}{ps:List MemPlace}(h:DataW.Trod enc Tryz.prog w 0 (fun _=>true) true 22 v d ps)(hv:Value.okWide Tryz.prog w r b 22 v):∃l:List kf,fY OZ [] w (oS l) v:=by
 obtain⟨a,len,cap,rfl⟩:=okWide_slice MG hv;obtain⟨fuel,hf⟩:=h;obtain⟨l,h2,_⟩:=IL (eC:=eH) (mk:=qp) MG acW (by omega) (fun _=>rfl) (fun _=>rfl) (fun n cs y _ hy=>I0 hy) hf
 exact⟨l,.plain h2⟩
end
end
section
variable {l:List Piece}
def FW(own:Nat)(e:Int):Nat->List Piece->List Piece
 |_,[]=>[]
 |i,x::r=>(if i=own then { x with dM:=e } else x)::FW own e (i+1) r
def Lm(own:Nat)(e:Int):∀(r:List Piece)(i:Nat),own<i->FW own e i r=r
 | [],_,_=>rfl
 |x::r,i,h=>by rw[FW,ak (by omega),Lm own e r (i+1) (by omega)]
def Ln(e:Int):∀(r:List Piece)(i k:Nat),FW (i+k) e i r=r.set k { mJ r k with dM:=e }
 | [],_,_=>rfl
 |x::r,i,0=>by rw[FW,az (by omega),Lm _ e r (i+1) (by omega)]; rfl
 |x::r,i,k+1=>by
  have:=Ln e r (i+1) k;rw[FW,ak (by omega),show i+(k+1)=i+1+k by omega,this]; rfl
def Ps(l:List Piece)(own:Nat)(e:Int):FW own e 0 l=mV l own e:=by
 have:=Ln e l 0 own;rw[aQ] at this; exact this
def nk(p:Piece)(own:Nat)(s:Nat×List Piece×Bool)(x:Piece):Nat×List Piece×Bool :=
 (s.1+1,(if !s.2.2&&strLt p.aU x.aU then s.2.1++[p] else s.2.1)++[if s.1=own then { x with dM:=mM (x.dM+1) } else x],s.2.2||strLt p.aU x.aU)
def PI(p:Piece)(own:Nat)(l:List Piece):List Piece :=
 if (l.foldl (nk p own) (0,[],false)).2.2=true then (l.foldl (nk p own) (0,[],false)).2.1 else (l.foldl (nk p own) (0,[],false)).2.1++[p]
def Hn(p:Piece)(own:Nat)(e:Int):∀(r:List Piece)(i:Nat)(out:List Piece),(∀x,i<=own->r[own-i]?=some x->mM (x.dM+1)=e) ->
  r.foldl (nk p own) (i,out,true)=(i+r.length,out++FW own e i r,true)
 | [],i,out,_=>by simp[FW]
 |x::r,i,out,he=>by
  have hx:i=own->mM (x.dM+1)=e:=fun h=>he x (by omega) (by subst h; simp)
  rw[bB,nk];simp only[cX,cf,af,aw,dK];rw[Hn p own e r (i+1) _ (fun y hy hr=>he y (by omega) (by rw[show own-i=own-(i+1)+1 by omega]; simpa using hr)),FW]
  refine fF (by simp; omega) (fF ?_ rfl)
  simp only[da,aX,aY];congr 2;split
  ·rename_i h; rw[hx h]
  ·rfl
def PK(p:Piece)(own:Nat)(e:Int):∀(r:List Piece)(i:Nat)(out:List Piece),r.Pairwise (fun a b=>strLt a.aU b.aU=true)->(∀q,q∈r->q.aU≠p.aU)->(∀x,i<=own->r[own-i]?=some x->mM (x.dM+1)=e) ->
  (if (r.foldl (nk p own) (i,out,false)).2.2=true then (r.foldl (nk p own) (i,out,false)).2.1 else (r.foldl (nk p own) (i,out,false)).2.1++[p])=out++xQ (FW own e i r) p
 | [],i,out,_,_,_=>by simp[FW,xQ]
 |x::r,i,out,ha,hn,he=>by
  have hx:i=own->mM (x.dM+1)=e:=fun h=>he x (by omega) (by subst h; simp)
  have he':∀y,i+1<=own->r[own-(i+1)]?=some y->mM (y.dM+1)=e:=fun y hy hr=>he y (by omega) (by rw[show own-i=own-(i+1)+1 by omega]; simpa using hr)
  obtain⟨ha1,ha2⟩:=bG.1 ha
  have hh:(if i=own then ({ x with dM:=mM (x.dM+1) }:Piece) else x)=(if i=own then { x with dM:=e } else x):=by
   split
   ·rename_i h; rw[hx h]
   ·rfl
  have hp:(if i=own then ({ x with dM:=e }:Piece) else x).aU=x.aU:=by split<;>rfl
  rw[bB,nk];simp only[fV,bQ,dg]
  by_cases hc:strLt p.aU x.aU=true
  ·have hc2:strLt x.aU p.aU=false:=rV hc;rw[hc,az rfl,Hn p own e r (i+1) _ he',hh];simp only[aE];rw[FW,xQ,fh,lg,hp,hc2];simp
  ·have hc1:strLt p.aU x.aU=false:=by simpa using hc
   have hc2:strLt x.aU p.aU=true:=by
    rcases qN p.aU x.aU with g|g|g
    ·rw[hc1] at g; cases g
    ·exact absurd g.symm (hn x aD)
    ·exact g
   simp only[hc1,af,aw];rw[PK p own e r (i+1) _ ha2 (fun q hq=>hn q (aP _ hq)) he',hh,FW]
   conv=>rhs; rw[xQ,fh,lg,hp,hc2]
   simp[xQ]
def Ni(h:jV l){p:Piece}{own:Nat}(hn:∀q,q∈l->q.aU≠p.aU)(he:(mJ l own).dM<1099511627776)(ho:own<l.length):PI p own l=xQ (mV l own ((mJ l own).dM+1)) p:=by
 have hok:=(h.ok _ (qh ho)).2
 have:=PK p own ((mJ l own).dM+1) l 0 [] h.jx hn (fun x _ hx=>by
  have:x=mJ l own:=by rw[bV] at hx; simp[mJ,hx]
  rw[this];exact gD (by omega) (by omega))
 rw[aY,Ps] at this;exact this
def p6(par at':Nat)(e:Int)(s:Nat×List Piece)(x:Piece):Nat×List Piece:=(s.1+1,if s.1 != at' then s.2++[if s.1=par then { x with dM:=e } else x] else s.2)
def Ga(par at':Nat)(e:Int):∀(r:List Piece)(i:Nat)(out:List Piece),(r.foldl (p6 par at' e) (i,out)).2=out++(if at'<i then FW par e i r else (FW par e i r).eraseIdx (at'-i))
 | [],i,out=>by simp[FW]
 |x::r,i,out=>by
  rw[bB,p6]
  by_cases h:i=at'
  ·rw[ak (by simp[h]),Ga par at' e r (i+1),az (by omega),ak (by omega),FW,show at'-i=0 by omega]; rfl
  ·rw[az (by simpa using h),Ga par at' e r (i+1),FW]
   by_cases h2:at'<i
   ·rw[az (show at'<i+1 by omega),az h2]; simp
   ·rw[ak (show ¬at'<i+1 by omega),ak h2,show at'-i=at'-(i+1)+1 by omega]; simp
def Ki(l:List Piece)(par at':Nat)(e:Int):(l.foldl (p6 par at' e) (0,[])).2=(mV l par e).eraseIdx at':=by
 rw[Ga par at' e l 0 [],ak (by omega),Ps]; rfl
end
def rj(z:Int)(es:List eD):Int:=(es.foldl (fun(s:Nat×Int) e=>(s.1+1,if !decide (e.ai<z)&&(decide (s.2<0)||decide (e.ai<(es.getD s.2.toNat yQ).ai)) then (s.1:Int) else s.2)) (0,-1)).2
structure Jp(z:Int)(es:List eD)(n:Nat)(b:Int):Prop where
 none:b<0->b = -1/\∀i e,i<n->es[i]?=some e->e.ai<z
 some:0<=b->∃e,es[b.toNat]?=some e/\b.toNat<n/\z<=e.ai/\∀i x,i<n->es[i]?=some x->z<=x.ai->e.ai<=x.ai
def H7(z:Int)(es:List eD):∀(r pre:List eD)(b:Int),es=pre++r->Jp z es pre.length b ->
  Jp z es es.length (r.foldl (fun(s:Nat×Int) e=>(s.1+1,if !decide (e.ai<z)&&(decide (s.2<0)||decide (e.ai<(es.getD s.2.toNat yQ).ai)) then (s.1:Int) else s.2)) (pre.length,b)).2
 | [],pre,b,h,hb=>by
  rw[bW] at h;subst h; exact hb
 |x::r,pre,b,h,hb=>by
  rw[bB];have hx:es[pre.length]?=some x:=by rw[h]; simp
  have:=H7 z es r (pre++[x]) (if !decide (x.ai<z)&&(decide (b<0)||decide (x.ai<(es.getD b.toNat yQ).ai)) then (pre.length:Int) else b) (by rw[h]; simp) ?_
  ·simpa using this
  ·have hl:(pre++[x]).length=pre.length+1:=by simp
   rw[hl]
   have ur:∀(i:Nat)(y:eD),i<pre.length+1->es[i]?=some y->(i<pre.length\/y=x):=fun i y hi hy=>by
    rcases bH i pre.length with h1|h1
    ·exact .inl h1
    ·have:i=pre.length:=by omega
     subst this;rw[hx] at hy; injection hy with hy
     exact .inr hy.symm
   split
   ·rename_i hc;simp only[bn,gW,dq,mO,cN,bu] at hc;refine⟨fun h0=>by omega,fun _=>⟨x,by simpa using hx,by simp,hc.1,fun i y hi hy hz=>?_⟩⟩
    rcases ur i y hi hy with h1|rfl
    ·rcases lY b 0 with h2|h2
     ·have:=(hb.none h2).2 i y h1 hy; omega
     ·obtain⟨e,e1,e2,e3,e4⟩:=hb.some h2;have h3:=hc.2.resolve_left (by omega)
      rw[fu,e1] at h3;have:=e4 i y h1 hy hz;simp only[bA] at h3;omega
    ·exact fJ _
   ·rename_i hc;refine⟨fun h0=>⟨(hb.none h0).1,fun i y hi hy=>?_⟩,fun h0=>?_⟩
    ·rcases ur i y hi hy with h1|rfl
     ·exact(hb.none h0).2 i y h1 hy
     ·rcases lY y.ai z with h3|h3
      ·exact h3
      ·exact absurd (by simp[h0,mO.2 h3]) hc
    ·obtain⟨e,e1,e2,e3,e4⟩:=hb.some h0;refine⟨e,e1,by omega,e3,fun i y hi hy hz=>?_⟩
     rcases ur i y hi hy with h1|rfl
     ·exact e4 i y h1 hy hz
     ·rcases lY y.ai e.ai with h3|h3
      ·exfalso;refine hc ?_;rw[fu,e1];simp[mO.2 hz,h3]
      ·exact h3
def C0(z:Int)(es:List eD):Jp z es es.length (rj z es) :=
 H7 z es es [] (-1) rfl ⟨fun _=>⟨rfl,fun i e hi=>absurd hi (kb _)⟩,fun h=>by omega⟩
theorem Aw(x y:eD):∀l:List eD,y∈vW x l↔y=x\/y∈l
 | []=>by simp[vW]
 |z::r=>by
  rw[vW];split
  ·simp
  ·simp only[bc,Aw x y r]; grind
def rR(y:eD):∀l:List eD,y∈mS l↔y∈l
 | []=>by simp[mS]
 |x::r=>by rw[mS,Aw,rR y r,bc]
def Eo(x:eD):∀l:List eD,l.Pairwise (fun a b=>a.ai<b.ai)->(∀y,y∈l->y.ai≠x.ai)->(vW x l).Pairwise fun a b=>a.ai<b.ai
 | [],_,_=>by simp[vW]
 |z::r,h,hn=>by
  obtain⟨h1,h2⟩:=bG.1 h;rw[vW];split
  ·rename_i hc;refine bG.2 ⟨fun y hy=>?_,h⟩
   rcases bc.1 hy with rfl|hy
   ·exact hc
   ·have:=h1 y hy; omega
  ·rename_i hc;refine bG.2 ⟨fun y hy=>?_,Eo x r h2 fun y hy=>hn y (aP _ hy)⟩
   rcases(Aw x y r).1 hy with rfl|hy
   ·have:=hn z aD; omega
   ·exact h1 y hy
def yI:∀l:List eD,(l.map eD.ai).Nodup->(mS l).Pairwise fun a b=>a.ai<b.ai
 | [],_=>List.Pairwise.nil
 |x::r,h=>by
  simp only[aW,gZ] at h;exact Eo x _ (yI r h.2) fun y hy e=>h.1 (bS.2 ⟨y,(rR y r).1 hy,e⟩)
def D4:∀ {a b:List eD},a.Pairwise (fun x y=>x.ai<y.ai)->b.Pairwise (fun x y=>x.ai<y.ai)->(∀x,x∈a↔x∈b)->a=b
 | [],[],_,_,_=>rfl
 | [],y::b,_,_,h=>by have:=(h y).2 aD; cases this
 |x::a,[],_,_,h=>by have:=(h x).1 aD; cases this
 |x::a,y::b,ha,hb,h=>by
  obtain⟨ha1,ha2⟩:=bG.1 ha;obtain⟨hb1,hb2⟩:=bG.1 hb
  have e:x=y:=by
   rcases bc.1 ((h x).1 aD) with e|hx
   ·exact e
   ·rcases bc.1 ((h y).2 aD) with e|hy
    ·exact e.symm
    ·have:=ha1 y hy;have:=hb1 x hx;omega
  subst e;congr 1;refine D4 ha2 hb2 fun z=>⟨fun hz=>?_,fun hz=>?_⟩
  ·rcases bc.1 ((h z).1 (aP _ hz)) with rfl|h2
   ·have:=ha1 z hz; omega
   ·exact h2
  ·rcases bc.1 ((h z).2 (aP _ hz)) with rfl|h2
   ·have:=hb1 z hz; omega
   ·exact h2
def xA{z:Int}{l:List eD}{x:eD}:x∈jh z l↔x∈l/\z<=x.ai:=by
 simp[jh,eo,mO]
def Bn{z:Int}{l:List eD}(h:(l.map eD.ai).Nodup):((jh z l).map eD.ai).Nodup:=h.sublist (List.Sublist.map _ oj)
def IX{z:Int}{es:List eD}(hb:rj z es<0):mS (jh z es)=[]:=by
 refine List.eq_nil_iff_forall_not_mem.2 fun x hx=>?_
 obtain⟨h1,h2⟩:=xA.1 ((rR x _).1 hx);obtain⟨i,hi⟩:=bO h1;have:=((C0 z es).none hb).2 i x (aF hi) hi;omega
def Dt{z:Int}{es:List eD}(hn:(es.map eD.ai).Nodup)(hb:0<=rj z es):∃e,es[(rj z es).toNat]?=some e/\z<=e.ai/\e∈es/\mS (jh z es)=e::mS (jh (e.ai+1) es):=by
 obtain⟨e,e1,e2,e3,e4⟩:=(C0 z es).some hb;have hm:=aR e1;refine⟨e,e1,e3,hm,D4 (yI _ (Bn hn)) (bG.2 ⟨fun y hy=>?_,yI _ (Bn hn)⟩) fun x=>?_⟩
 ·have:=(xA.1 ((rR y _).1 hy)).2; omega
 ·rw[rR,xA,bc,rR,xA];constructor
  ·rintro⟨h1,h2⟩;obtain⟨i,hi⟩:=bO h1;have:=e4 i x (aF hi) hi h2
   by_cases hc:x.ai=e.ai
   ·left;obtain⟨j,hj⟩:=bO hm;have hi':(es.map eD.ai)[i]?=some x.ai:=by rw[aZ,hi]; rfl
    have hj':(es.map eD.ai)[j]?=some x.ai:=by rw[aZ,hj,hc]; rfl
    have:=Iz hn hi' hj';subst this;rw[hi] at hj; injection hj
   ·exact .inr ⟨h1,by omega⟩
  ·rintro(rfl|⟨h1,h2⟩)
   ·exact⟨hm,e3⟩
   ·exact⟨h1,by omega⟩
def fX(last:Int)(s:Int×Node)(x:Node):Int×Node:=if decide (last<x.au)&&(s.1==0||decide (x.au<s.1)) then (x.au,x) else s
def Gp(last:Int)(h0:0<=last):∀(l:List Node)(s:Int×Node),(s.1=0\/(last<s.1/\s.2.au=s.1)) ->
  ((l.foldl (fX last) s).1=0/\s.1=0/\∀x,x∈l->x.au<=last)\/(last<(l.foldl (fX last) s).1/\(l.foldl (fX last) s).2.au=(l.foldl (fX last) s).1/\((l.foldl (fX last) s).2∈l\/(l.foldl (fX last) s)=s)/\(s.1=0\/(l.foldl (fX last) s).1<=s.1)/\∀x,x∈l->last<x.au->(l.foldl (fX last) s).1<=x.au)
 | [],s,hs=>by
  rcases hs with hs|⟨h1,h2⟩
  ·exact .inl ⟨hs,hs,by simp⟩
  ·exact .inr ⟨h1,h2,.inr rfl,.inr (fJ _),by simp⟩
 |x::l,s,hs=>by
  rw[bB]
  by_cases hc:(decide (last<x.au)&&(s.1==0||decide (x.au<s.1)))=true
  ·have e:fX last s x=(x.au,x):=by rw[fX,az hc]
   simp only[bn,bu,cN,dR] at hc;rw[e];rcases Gp last h0 l (x.au,x) (.inr ⟨hc.1,rfl⟩) with ⟨_,g2,_⟩|⟨g1,g2,g3,g4,g5⟩
   ·simp only at g2; omega
   ·refine .inr ⟨g1,g2,?_,?_,fun y hy hl=>?_⟩
    ·rcases g3 with g3|g3
     ·exact .inl (aP _ g3)
     ·rw[g3]; exact .inl aD
    ·simp only at g4;rcases hc.2 with h1|h1
     ·exact .inl h1
     ·right; omega
    ·simp only at g4;rcases bc.1 hy with rfl|hy
     ·omega
     ·exact g5 y hy hl
  ·have e:fX last s x=s:=by rw[fX,ak hc]
   simp only[bn,bu,cN,dR,not_and,kL,mO] at hc;rw[e];rcases Gp last h0 l s hs with ⟨g1,g2,g3⟩|⟨g1,g2,g3,g4,g5⟩
   ·refine .inl ⟨g1,g2,fun y hy=>?_⟩
    rcases bc.1 hy with rfl|hy
    ·rcases lY last y.au with h|h
     ·exact absurd g2 (hc h).1
     ·exact h
    ·exact g3 y hy
   ·refine .inr ⟨g1,g2,?_,g4,fun y hy hl=>?_⟩
    ·rcases g3 with g3|g3
     ·exact .inl (aP _ g3)
     ·exact .inr g3
    ·rcases bc.1 hy with rfl|hy
     ·have:=hc hl;rcases g4 with g4|g4
      ·exact absurd g4 this.1
      ·omega
     ·exact g5 y hy hl
def Mi{ns pre post:List Node}{L:List Node}{last:Int}(ha:nM ns)(hp:L.Perm ns)(he:ns=pre++post)(h0:0<=last)(hlo:∀x,x∈pre->x.au<=last)(hhi:∀x,x∈post->last<x.au)(z:Node) :
  L.foldl (fX last) (0,z)=match post with|[]=>(0,z)|x::_=>(x.au,x):=by
 rcases Gp last h0 L (0,z) (.inl rfl) with ⟨g1,_,g3⟩|⟨g1,g2,g3,_,g5⟩
 ·cases post with
  |nil =>
   have:∀(l:List Node),(∀x,x∈l->x.au<=last)->l.foldl (fX last) (0,z)=(0,z):=by
    intro l;induction l with
    |nil=>intro _; rfl
    |cons x l ih =>
     intro h;rw[bB,fX,ak (by have:=h x aD; simp; omega)]
     exact ih fun y hy=>h y (aP _ hy)
   exact this L g3
  |cons x post =>
   have hx:=g3 x (hp.mem_iff.2 (by rw[he]; simp))
   have:=hhi x aD;omega
 ·generalize hr:L.foldl (fX last) (0,z)=r at g1 g2 g3 g5
  have hm:r.2∈L:=by
   rcases g3 with g3|g3
   ·exact g3
   ·rw[g3] at g1; simp only at g1; omega
  have hmn:r.2∈ns:=hp.mem_iff.1 hm
  have hmp:r.2∈post:=by
   rw[he] at hmn;rcases bT.1 hmn with h|h
   ·have:=hlo _ h; omega
   ·exact h
  cases post with
  |nil=>cases hmp
  |cons x post =>
   have h1:=g5 x (hp.mem_iff.2 (by rw[he]; simp)) (hhi x aD)
   rw[he] at ha;have ha2:=(bG.1 (dz.1 ha).2.1).1;rcases bc.1 hmp with e|h2
   ·subst e; exact fF g2.symm rfl
   ·have:=ha2 _ h2;omega
section
attribute [local irreducible] fS fp kH gK dv kr aq aM cv bJ
def WM(l:List eD)(s:Bytes)(a b:Int):l.map gk++[.agg [.str s,aG a,aG b]]=(l++[eD.mk s a b]).map gk:=by simp[gk,ew]
def tc(au:Int):List Node->Nat->Int
 | [],_ => -1
 |n::r,i=>if n.au=au then i else tc au r (i+1)
def acQ{t:Tree}{au:Int}(ht:t.ae.length<=100000){k:List K}{R:Int->Option (ag×aL)}
  (hx:∀e,kr (aq c9) [.tmp 4] 0 k ⟨.exit 0,e,[cm (bd t)]⟩=R (-1)) (hr:∀(i:Nat),kr (aq c9) [.tmp 4] 0 k ⟨.ret,[(4,aG i)],[cm (bd t)]⟩=R i) :
  ∀(l pre:List Node),t.ae=pre++l->fS (aq c9) [.tmp 4] 0 k (.loop [1,2,5] acJ) [(1,aG au),(2,cL 0),(5,aG pre.length)] [cm (bd t)]=R (tc au l pre.length):=by
 intro l;induction l with
 |nil =>
  intro pre h;rw[bZ];simp only[ZR,bd,a8,oy h,EN,seval];exact hx _
 |cons n r ih =>
  intro pre h;rw[bZ];have eY:pre.length+1<=100000:=by rw[h] at ht; simp at ht; omega
  have hw:=GI pre n;simp only[ZR,bd,a8,mR h,ji h,aV,EN,seval];refine bL (fun hb=>?_) (fun hb=>?_)
  ·have hb:n.au=au:=by simpa using hb
   simp only[ZR,EN,seval];rw[tc,az hb];exact hr _
  ·have hb:¬n.au=au:=by simpa using hb
   simp only[ZR,hw,EN,seval];rw[tc,ak hb];have:=ih (pre++[n]) (by rw[h]; simp)
   simp only[aK,av,aH] at this ⊢;exact this
def c69(t:Tree)(au:Int)(ht:t.ae.length<=100000):aq c9 69 [bK t,aG au] []=some (aG (tc au t.ae 0),[]):=by
 refine aJ ?_;simp only[agy,ZR,bK,EN,seval];exact acQ (R:=fun z=>some (aG z,[])) ht (fun e=>by simp only[ZR,EN,seval]) (fun i=>by simp only[ZR,EN,seval]) t.ae [] rfl
def k69(ae:List Node)(next ai au:Int)(h:ae.length<=100000)(M:aL):aM (aq c9) 69 [.agg [a8 ae,aG next,aG ai],aG au] M=some (aG (tc au ae 0),M) :=
 cO (c69 ⟨ae,next,ai⟩ au h) M
def zw(au:Int):∀(l:List Node)(i:Nat),(find l au=none/\tc au l i = -1)\/∃m n,l[m]?=some n/\find l au=some n/\tc au l i=((i+m:Nat):Int)
 | [],_ => .inl ⟨rfl,rfl⟩
 |n::r,i=>by
  unfold find tc
  by_cases h:n.au=au
  ·exact .inr ⟨0,n,rfl,by simp[h],by simp[h]⟩
  ·rcases zw au r (i+1) with ⟨h1,h2⟩|⟨m,n',h1,h2,h3⟩
   ·exact .inl ⟨by simp[h]; simpa[find] using h1,by simp[h,h2]⟩
   ·exact .inr ⟨m+1,n',by simpa using h1,by simp[h]; simpa[find] using h2,by simp[h,h3]; omega⟩
def c26(t:Tree)(au:Int)(ht:t.ae.length<=100000):aq c9 26 [bK t,aG au] []=some (.tuple [cn ((find t.ae au).getD Node.zero),.bool (find t.ae au).isSome],[]):=by
 refine aJ ?_;simp only[aga,E26,bK,bd,k69,ht,EN,seval];rcases zw au t.ae 0 with ⟨h1,h2⟩|⟨m,n,h1,h2,h3⟩
 ·rw[h2];simp only[E26,h1,EN,seval];rfl
 ·rw[h3];simp only[E26,h1,h2,a8,aV,EN,seval];rfl
def Gc(ae:List Node)(next ai au:Int)(h:ae.length<=100000)(M:aL):aM (aq c9) 26 [.agg [a8 ae,aG next,aG ai],aG au] M=some (.tuple [cn ((find ae au).getD Node.zero),.bool (find ae au).isSome],M) :=
 cO (c26 ⟨ae,next,ai⟩ au h) M
def ajB(t:Tree)(au:Int)(ht:t.ae.length<=100000):aq c9 116 [bK t,aG au] []=some (.tuple [cn (gA t.ae au).1,aG (gA t.ae au).2],[]):=by
 refine aJ ?_;simp only[X1,Uz,bK,bd,Gc,ht,cn,aV,EN,seval];unfold gA;cases hf:find t.ae au with
 |none=>simp only[Uz,Option.isSome,EN,seval]; first|done|rfl
 |some n =>
  simp only[Uz,Option.isSome,bA,EN,seval]
  repeat' ((first|apply bL|apply cK|apply eZ)<;>intro hb<;>simp only[hb,EN,Uz,seval])
  all_goals simp_all [Node.zero]
def VD(ae:List Node)(next ai au:Int)(h:ae.length<=100000)(M:aL):aM (aq c9) 116 [.agg [a8 ae,aG next,aG ai],aG au] M=some (.tuple [cn (gA ae au).1,aG (gA ae au).2],M) :=
 cO (ajB ⟨ae,next,ai⟩ au h) M
def sX(s:Bytes):List eD->Nat->Int
 | [],_ => -1
 |n::r,i=>if n.name=s then i else sX s r (i+1)
def sY(s:Bytes):∀(l:List eD)(i:Nat),(eb l s=none/\sX s l i = -1)\/∃m n,l[m]?=some n/\eb l s=some n/\sX s l i=((i+m:Nat):Int)
 | [],_ => .inl ⟨rfl,rfl⟩
 |n::r,i=>by
  unfold eb sX
  by_cases h:n.name=s
  ·exact .inr ⟨0,n,rfl,by simp[h],by simp[h]⟩
  ·rcases sY s r (i+1) with ⟨h1,h2⟩|⟨m,n',h1,h2,h3⟩
   ·exact .inl ⟨by simp[h]; simpa[eb] using h1,by simp[h,h2]⟩
   ·exact .inr ⟨m+1,n',by simpa using h1,by simp[h]; simpa[eb] using h2,by simp[h,h3]; omega⟩
def Wo{t:Node}{s:Bytes}(ht:t.aN.length<=100000){k:List K}{R:Int->Option (ag×aL)}
  (hx:∀e,kr (aq c9) [.tmp 4] 0 k ⟨.exit 0,e,[cm (aV t)]⟩=R (-1)) (hr:∀(i:Nat),kr (aq c9) [.tmp 4] 0 k ⟨.ret,[(4,aG i)],[cm (aV t)]⟩=R i) :
  ∀(l pre:List eD),t.aN=pre++l->fS (aq c9) [.tmp 4] 0 k (.loop [1,2,5] VX) [(1,.str s),(2,cL 0),(5,aG pre.length)] [cm (aV t)]=R (sX s l pre.length):=by
 intro l;induction l with
 |nil =>
  intro pre h;rw[bZ];simp only[Je,aV,ij,oy h,EN,seval];exact hx _
 |cons n r ih =>
  intro pre h;rw[bZ];have eY:pre.length+1<=100000:=by rw[h] at ht; simp at ht; omega
  have hw:=GI pre n;simp only[Je,aV,ij,mR h,ji h,ew,EN,seval];refine bL (fun hb=>?_) (fun hb=>?_)
  ·have hb:n.name=s:=by simpa using hb
   simp only[Je,EN,seval];rw[sX,az hb];exact hr _
  ·have hb:¬n.name=s:=by simpa using hb
   simp only[Je,hw,EN,seval];rw[sX,ak hb];have:=ih (pre++[n]) (by rw[h]; simp)
   simp only[aK,av,aH] at this ⊢;exact this
def ajD(t:Node)(s:Bytes)(ht:t.aN.length<=100000):aq c9 118 [cn t,.str s] []=some (aG (sX s t.aN 0),[]):=by
 refine aJ ?_;simp only[X3,Je,cn,EN,seval];exact Wo (R:=fun z=>some (aG z,[])) ht (fun e=>by simp only[Je,EN,seval]) (fun i=>by simp only[Je,EN,seval]) t.aN [] rfl
def aa5(a b c:Int)(d:Bytes)(e:List eD)(u:Int)(s:Bytes)(h:e.length<=100000)(M:aL):aM (aq c9) 118 [.agg [aG a,aG b,aG c,jt d,ij e,aG u],.str s] M=some (aG (sX s e 0),M) :=
 cO (ajD ⟨a,b,c,d,e,u⟩ s h) M
def Wn{s:Bytes}(hs:s.length<=100000){k:List K}{R:Bool->Option (ag×aL)}
  (hx:∀e,kr (aq c9) [.tmp 2] 0 k ⟨.exit 0,e,[]⟩=R true) (hr:kr (aq c9) [.tmp 2] 0 k ⟨.ret,[(2,.bool false)],[]⟩=R false) :
  ∀(l pre:Bytes),s=pre++l->fS (aq c9) [.tmp 2] 0 k (.loop [0,3] VW) [(0,.str s),(3,aG pre.length)] []=R (l.all sN):=by
 intro l;induction l with
 |nil =>
  intro pre h;rw[bZ];simp only[GK,oy h,EN,seval];exact hx _
 |cons n r ih =>
  intro pre h;rw[bZ];have eY:pre.length+1<=100000:=by rw[h] at hs; simp at hs; omega
  have hw:=GI pre n;have hi:=ih (pre++[n]) (by rw[h]; simp)
  simp only[aK,av,aH] at hi;simp only[GK,mR h,ji h,EN,seval]
  repeat' ((first|apply bL|apply cK|apply eZ)<;>intro hb<;>simp only[hb,EN,GK,ji h,hw,seval])
  all_goals try simp only[GK,EN,seval]
  all_goals first
   |(refine hr.trans ?_; congr 1; symm; simp_all [sN]; done)
   |(refine hi.trans ?_; congr 1; symm; simp_all [sN]; done)
def ajC(s:Bytes)(hs:s.length<=100000):aq c9 117 [.str s] []=some (.bool (dE s),[]):=by
 refine aJ ?_;simp only[X2,GK,EN,seval];have hl:=fun k hx hr=>Wn (k:=k) (R:=fun b=>some (ag.bool b,[])) hs hx hr s [] rfl
 repeat' ((first|apply bL|apply cK|apply eZ)<;>intro hb<;>simp only[hb,EN,GK,seval])
 all_goals first
  |(simp_all [dE]; done)
  |(refine(hl _ (fun e=>by simp only[GK,EN,seval]) (by simp only[GK,EN,seval])).trans ?_; simp_all [dE]; done)
def QC s hs:=cP (ajC s hs)
def c56(t:Tree)(au:Int)(s:Bytes)(ht:Small t)(hs:s.length<=100000):aq c9 56 [bK t,aG au,.str s] []=some (.tuple [aG (dV t.ae au s).1,aG (dV t.ae au s).2],[]):=by
 refine aJ ?_;have hd:=tq ht au;simp only[agr,ZP,bK,bd,VD,ht.ae,cn,aV,EN,seval];unfold dV;refine bL (fun hb=>?_) (fun hb=>?_)
 ·simp only[ZP,EN,seval];simp_all
 ·simp only[ZP,QC,hs,EN,seval];refine bL (fun hb'=>?_) (fun hb'=>?_)
  ·simp only[ZP,EN,seval];simp_all
  ·simp only[ZP,aa5,hd,EN,seval];rcases sY s (gA t.ae au).1.aN 0 with ⟨h1,h2⟩|⟨m,n,h1,h2,h3⟩
   ·rw[h2];simp only[ZP,EN,seval];simp_all
   ·rw[h3];simp only[ZP,h1,ij,ew,EN,seval];simp_all
def k56(ae:List Node)(next ai au:Int)(s:Bytes)(ht:Small ⟨ae,next,ai⟩)(hs:s.length<=100000)(M:aL):aM (aq c9) 56 [.agg [a8 ae,aG next,aG ai],aG au,.str s] M =
  some (.tuple [aG (dV ae au s).1,aG (dV ae au s).2],M):=cO (c56 ⟨ae,next,ai⟩ au s ht hs) M
def Wl{t:Tree}{n:Node}(ht:t.ae.length<=100000){k:List K}{R:List Node->Bool->Option (ag×aL)}
  (hx:∀out done v e,out.length<=300000->kr (aq c9) [.fG 4 3] 0 k ⟨.exit 0,[(2,cL 0),(3,cL 1),(4,cL 2),(5,.slice (.own 3) (out.map cn)),(6,.bool done),(7,v),(12,e)],[cm (bd t),cm (aV n),.cells zT,.tick 6 out.length]⟩=R out done) :
  ∀(l pre out:List Node)(done:Bool),t.ae=pre++l->out.length+2*l.length<=300000->fS (aq c9) [.fG 4 3] 0 k (.loop [2,3,4,5,6,7] VU) [(2,cL 0),(3,cL 1),(4,cL 2),(5,.slice (.own 3) (out.map cn)),(6,.bool done),(7,aG pre.length)] [cm (bd t),cm (aV n),.cells zT,.tick 6 out.length]=R (oa n l out done).1 (oa n l out done).2:=by
 intro l;induction l with
 |nil =>
  intro pre out done h ho;rw[bZ];simp only[Jc,bd,a8,oy h,EN,seval];exact hx _ _ _ _ (by simp at ho; omega)
 |cons m r ih =>
  intro pre out done h ho;rw[bZ];have eY:pre.length+1<=100000:=by rw[h] at ht; simp at ht; omega
  have hw:=GI pre m;have hi:=fun out done ho=>ih (pre++[m]) out done (by rw[h]; simp) ho
  simp only[av] at ho;have r1:dQ (out.length+1) 80=True:=xR;have r2:dQ (out.length+1+1) 80=True:=xR;rw[oa];simp only[Jc,bd,a8,mR h,ji h,aV,EN,seval]
  repeat' ((first|apply bL|apply cK|apply eZ)<;>intro hb<;>simp only[hb,EN,Jc,ji h,hw,r1,r2,aV,seval])
  all_goals try simp only[Jc,ji h,hw,r1,r2,aV,EN,seval]
  all_goals first
   |(refine cZ ?_ ((hi (out++[n]++[m]) true (by simp; omega)).trans ?_)
     ·simp only[bC,aW,bp,aK,av,aH]; rfl
     ·clear hi ih hx hw h; simp_all; done)
   |(refine cZ ?_ ((hi (out++[n]) true (by simp; omega)).trans ?_)
     ·simp only[bC,aW,bp,aK,av,aH]; rfl
     ·clear hi ih hx hw h; simp_all; done)
   |(refine cZ ?_ ((hi (out++[m]) done (by simp; omega)).trans ?_)
     ·simp only[bC,aW,bp,aK,av,aH]; rfl
     ·clear hi ih hx hw h; simp_all; done)
   |(refine cZ ?_ ((hi out done (by omega)).trans ?_)
     ·simp only[bC,aW,bp,aK,av,aH]; rfl
     ·clear hi ih hx hw h; simp_all; done)
def ajy(t:Tree)(n:Node)(ht:t.ae.length<=100000):aq c9 112 [bK t,cn n] []=some (bK ⟨eM t.ae n,t.next,t.ai⟩,[]):=by
 refine aJ ?_;simp only[P8,Jc,bK,cn,EN,seval];refine Wl (R:=fun out done=>some (bK ⟨out++(if done then [] else [n]),t.next,t.ai⟩,[])) ht (fun out done v e ho=>?_) t.ae [] [] false rfl (by simp; omega)
 have r1:dQ (out.length+1) 80=True:=xR;cases done
 ·simp only[Jc,r1,bK,bd,zT,aV,EN,seval];simp[a8,cn,aV]
 ·simp only[Jc,r1,bK,bd,zT,aV,EN,seval]
  try simp[a8]
def HT(ae:List Node)(next ai a b c:Int)(d:Bytes)(e:List eD)(u:Int)(h:ae.length<=100000)(M:aL):aM (aq c9) 112 [.agg [a8 ae,aG next,aG ai],.agg [aG a,aG b,aG c,jt d,ij e,aG u]] M =
  some (.agg [a8 (eM ae ⟨a,b,c,d,e,u⟩),aG next,aG ai],M):=cO (ajy ⟨ae,next,ai⟩ ⟨a,b,c,d,e,u⟩ h) M
def Ww{t:Tree}{au:Int}(ht:t.ae.length<=100000){k:List K}{R:List Node->Option (ag×aL)}
  (hx:∀out v e,out.length<=300000->kr (aq c9) [.fG 4 3] 0 k ⟨.exit 0,[(1,aG au),(2,cL 0),(4,cL 1),(5,.slice (.own 2) (out.map cn)),(6,v),(11,e)],[cm (bd t),.cells zT,.tick 6 out.length]⟩=R out) :
  ∀(l pre out:List Node),t.ae=pre++l->out.length+l.length<=150000->fS (aq c9) [.fG 4 3] 0 k (.loop [1,2,4,5,6] V7) [(1,aG au),(2,cL 0),(4,cL 1),(5,.slice (.own 2) (out.map cn)),(6,aG pre.length)] [cm (bd t),.cells zT,.tick 6 out.length]=R (out++iT l au):=by
 intro l;induction l with
 |nil =>
  intro pre out h ho;rw[bZ];simp only[O8,bd,a8,oy h,EN,seval];refine(hx _ _ _ (by simp at ho; omega)).trans (by simp[iT])
 |cons m r ih =>
  intro pre out h ho;rw[bZ];have eY:pre.length+1<=100000:=by rw[h] at ht; simp at ht; omega
  have hw:=GI pre m;have hi:=fun out ho=>ih (pre++[m]) out (by rw[h]; simp) ho
  simp only[av] at ho;have r1:dQ (out.length+1) 80=True:=xR;simp only[O8,bd,a8,mR h,ji h,aV,EN,seval]
  repeat' ((first|apply bL|apply cK|apply eZ)<;>intro hb<;>simp only[hb,EN,O8,ji h,hw,r1,aV,seval])
  all_goals first
   |(refine cZ ?_ ((hi (out++[m]) (by simp; omega)).trans ?_)
     ·simp only[bC,aW,bp,aK,av,aH]; rfl
     ·clear hi ih hx hw h; simp_all[iT]; done)
   |(refine cZ ?_ ((hi out (by omega)).trans ?_)
     ·simp only[bC,aW,bp,aK,av,aH]; rfl
     ·clear hi ih hx hw h; simp_all[iT]; done)
def ake(t:Tree)(au:Int)(ht:t.ae.length<=100000):aq c9 181 [bK t,aG au] []=some (bK ⟨iT t.ae au,t.next,t.ai⟩,[]):=by
 refine aJ ?_;simp only[Qf,O8,bK,EN,seval];refine(Ww (R:=fun out=>some (bK ⟨out,t.next,t.ai⟩,[])) ht (fun out v e ho=>?_) t.ae [] [] rfl (by simp; omega)).trans (by simp[bK])
 simp only[O8,bK,bd,zT,EN,seval]
 try simp[a8]
def ag6(ae:List Node)(next ai au:Int)(h:ae.length<=100000)(M:aL):aM (aq c9) 181 [.agg [a8 ae,aG next,aG ai],aG au] M =
  some (.agg [a8 (iT ae au),aG next,aG ai],M):=cO (ake ⟨ae,next,ai⟩ au h) M
def Wm{T:List ag}{n:Node}{s:Bytes}(hn:n.aN.length<=100000){k:List K}{R:List eD->Option (ag×aL)}
  (hx:∀out v e,out.length<=300000->kr (aq c9) [.fG 6 3] 0 k ⟨.exit 0,[(2,.str s),(3,cL 0),(6,cL 1),(7,cL 2),(9,.slice (.own 3) (out.map gk)),(10,v),(21,e)],[.cells T,.cells zT,cm (aV n),.tick 3 out.length]⟩=R out)
  (hT:∀B M,T.map (ag.jC B M)=T) :
  ∀(l pre out:List eD),n.aN=pre++l->out.length+l.length<=150000->fS (aq c9) [.fG 6 3] 0 k (.loop [2,3,6,7,9,10] VV) [(2,.str s),(3,cL 0),(6,cL 1),(7,cL 2),(9,.slice (.own 3) (out.map gk)),(10,aG pre.length)] [.cells T,.cells zT,cm (aV n),.tick 3 out.length]=R (out++fH l s):=by
 intro l;induction l with
 |nil =>
  intro pre out h ho;rw[bZ];simp only[Jd,aV,ij,oy h,EN,seval];refine(hx _ _ _ (by simp at ho; omega)).trans (by simp[fH])
 |cons m r ih =>
  intro pre out h ho;rw[bZ];have eY:pre.length+1<=100000:=by rw[h] at hn; simp at hn; omega
  have hw:=GI pre m;have hi:=fun out ho=>ih (pre++[m]) out (by rw[h]; simp) ho
  simp only[av] at ho;have r1:dQ (out.length+1) 32=True:=xR;simp only[Jd,aV,ij,mR h,ji h,ew,hT,zT,EN,seval]
  repeat' ((first|apply bL|apply cK|apply eZ)<;>intro hb<;>simp only[hb,EN,Jd,ji h,hw,r1,ew,hT,zT,seval])
  all_goals first
   |(refine cZ ?_ ((hi (out++[m]) (by simp; omega)).trans ?_)
     ·simp only[bC,aW,bp,aK,av,aH]; rfl
     ·clear hi ih hx hw h hT; simp_all[fH]; done)
   |(refine cZ ?_ ((hi out (by omega)).trans ?_)
     ·simp only[bC,aW,bp,aK,av,aH]; rfl
     ·clear hi ih hx hw h hT; simp_all[fH]; done)
def Eb{t:Tree}(hs:Small t)(au:Int):((find t.ae au).getD Node.zero).aN.length<=100000:=by
 cases h:find t.ae au with
 |none=>simp[Node.zero]
 |some n=>exact hs.aN n (cj h).1
def ajA(t:Tree)(au:Int)(s:Bytes)(ht:Small t):aq c9 115 [bK t,aG au,.str s] []=some (bK ⟨dx t.ae au s,t.next,t.ai⟩,[]):=by
 refine aJ ?_;have hd:=Eb ht au;unfold dx;simp only[P9,Jd,bK,bd,Gc,ht.ae,cn,EN,seval];generalize (find t.ae au).getD Node.zero=n at hd ⊢;simp only[Jd,aV,EN,seval];refine(Wm (R:=fun out=>some (bK ⟨eM t.ae { n with aN:=out },t.next,t.ai⟩,[])) hd (fun out v e ho=>?_) (fun B M=>by simp only[Jd,EN,seval]) n.aN [] [] rfl (by simp; omega)).trans (by simp[bK,bd])
 simp only[Jd,zT,aV,HT,ht.ae,EN,seval];simp[bK,bd]
end
end Go.Proofs.YtcbopkblmebjiaaGreatDoor
namespace Go.Abs
open Go
def gG{C:eO}{fn:List sy}{bN:Nat}{k:List K}{live:List Nat}{body:cz}{α σ ρ:Type}{xs:List α}(hn:xs.length<=1000000)(I:Nat->σ->Prop)(go:List α->σ->ρ)(E:σ->Int->Env)(M:σ->aL)(R:ρ->Option (ag×aL))
  (hend:∀s,I xs.length s->fS C fn bN (.loop live (M s).length body::k) body (ju (E s xs.length) live) (M s)=R (go [] s))
  (hstep:∀(pre:List α)(x:α)(post:List α)(s:σ),xs=pre++x::post->xs[pre.length]?=some x->((pre.length:Int)<xs.length)=True->IntKind.i64.wrap ((pre.length:Int)+1)=(pre.length:Int)+1->((pre.length:Int)<0)=False->x∈xs->I pre.length s ->
   (∀s',I (pre.length+1) s'->fS C fn bN k (.loop live body) (E s' ((pre.length:Int)+1)) (M s')=R (go post s'))->fS C fn bN (.loop live (M s).length body::k) body (ju (E s pre.length) live) (M s)=R (go (x::post) s)) :
  ∀s,I 0 s->fS C fn bN k (.loop live body) (E s 0) (M s)=R (go xs s):=by
 have key:∀(l pre:List α)(s:σ),xs=pre++l->I pre.length s->fS C fn bN k (.loop live body) (E s pre.length) (M s)=R (go l s):=by
  intro l;induction l with
  |nil =>
   intro pre s h hI;have e:pre.length=xs.length:=by rw[h]; simp
   rw[bZ,e];exact hend s (by rw[<-e]; exact hI)
  |cons x r ih =>
   intro pre s h hI;rw[bZ];have hl:pre.length+1<=1000000:=by rw[h] at hn; simp at hn; omega
   refine hstep pre x r s h (by rw[h]; simp) (by rw[h]; simp; omega) (gD (by omega) (by omega)) (by simp) (by rw[h]; simp) hI fun s' hI'=>?_
   have:=ih (pre++[x]) s' (by rw[h]; simp) (by simpa using hI')
   simpa using this
 intro s hI;exact key xs [] s rfl hI
def Ly{C:eO}{fn:List sy}{bN:Nat}{k:List K}{live:List Nat}{body:cz}{α σ ρ:Type}{xs:List α}(hn:xs.length<=1000000)(I:Nat->σ->Prop)(go:List α->σ->ρ)(E:σ->Int->Env)(M:σ->aL)(R:ρ->Option (ag×aL))
  (hend:∀s,I xs.length s->fS C fn bN (.lU live body::k) body (ju (E s xs.length) live) (M s)=R (go [] s))
  (hstep:∀(pre:List α)(x:α)(post:List α)(s:σ),xs=pre++x::post->xs[pre.length]?=some x->((pre.length:Int)<xs.length)=True->IntKind.i64.wrap ((pre.length:Int)+1)=(pre.length:Int)+1->((pre.length:Int)<0)=False->x∈xs->I pre.length s ->
   (∀s',I (pre.length+1) s'->fS C fn bN k (.lU live body) (E s' ((pre.length:Int)+1)) (M s')=R (go post s'))->fS C fn bN (.lU live body::k) body (ju (E s pre.length) live) (M s)=R (go (x::post) s)) :
  ∀s,I 0 s->fS C fn bN k (.lU live body) (E s 0) (M s)=R (go xs s):=by
 have key:∀(l pre:List α)(s:σ),xs=pre++l->I pre.length s->fS C fn bN k (.lU live body) (E s pre.length) (M s)=R (go l s):=by
  intro l;induction l with
  |nil =>
   intro pre s h hI;have e:pre.length=xs.length:=by rw[h]; simp
   rw[Ea,e];exact hend s (by rw[<-e]; exact hI)
  |cons x r ih =>
   intro pre s h hI;rw[Ea];have hl:pre.length+1<=1000000:=by rw[h] at hn; simp at hn; omega
   refine hstep pre x r s h (by rw[h]; simp) (by rw[h]; simp; omega) (gD (by omega) (by omega)) (by simp) (by rw[h]; simp) hI fun s' hI'=>?_
   have:=ih (pre++[x]) s' (by rw[h]; simp) (by simpa using hI')
   simpa using this
 intro s hI;exact key xs [] s rfl hI
end Go.Abs
namespace Go.Proofs.YtcbopkblmebjiaaGreatDoor
open Go Go.Abs
section
attribute [local irreducible] fS fp kH gK dv kr aq aM cv bJ
def acP{s:Bytes}(hs:s.length<=100000){k:List K}{R:Option (List Bytes)->Option (ag×aL)}
  (hx:∀(l:List Bytes) z,kr (aq c9) [.tmp 2,.tmp 3] 0 k ⟨.exit 0,(0,.str s)::(4,.slice (.own 0) (l.map .str))::z,[.tick 1 l.length]⟩=R (some l))
  (hr:∀n,kr (aq c9) [.tmp 2,.tmp 3] 0 k ⟨.ret,[(2,.slice .c0 []),(3,aG 60)],[.tick 1 n]⟩=R none) :
  ∀(rest:Bytes)(n m:Nat)(cur:Bytes)(out:List Bytes),s.drop m=rest->m+rest.length=s.length->n<=m->(s.take m).drop n=cur->out.length<=12 ->
   fS (aq c9) [.tmp 2,.tmp 3] 0 k (.loop [0,4,5,6] acI) [(0,.str s),(4,.slice (.own 0) (out.map .str)),(5,aG n),(6,aG m)] [.tick 1 out.length]=R (wj rest cur out):=by
 intro rest;induction rest with
 |nil =>
  intro n m cur out h1 h2 h3 h4 h5;simp only[aH,cV] at h2;rw[bZ];have e1:((m:Int)<=(s.length:Int))=True:=AE;have e2:((m:Int)<(s.length:Int))=False:=Gu;have e3:((n:Int)<=(m:Int))=True:=AE;have w1:IntKind.i64.wrap ((m:Int)+1)=(m:Int)+1:=gD (by omega) (by omega)
  have e4:((m:Int)+1<=(s.length:Int))=False:=Gu;have hc:cur.length<=100000:=by rw[<-h4]; simp; omega
  have q:=fun M=>QC cur hc M
  have r1:dQ (out.length+1) 16=True:=xR;have i1:=hx (out++[cur]);simp only[bC,aW,bp,aK,av,aH,aQ] at i1;rw[wj]
  cases h6:dE cur<;>rw[h6] at q<;>cases h7:(out.length:Int)==12 <;>
   simp only[OW,e1,e2,e3,h4,q,h7,dK,dg,dJ,gq,aE,af,aw,EW,seval]<;>first|exact hr _|skip
  simp only[OW,r1,w1,EW,seval];rw[bZ];simp only[OW,e4,EW,seval];exact i1 _
 |cons b r ih =>
  intro n m cur out h1 h2 h3 h4 h5;simp only[av] at h2;rw[bZ];have e1:((m:Int)<=(s.length:Int))=True:=AE;have e2:((m:Int)<(s.length:Int))=True:=AE;have e3:((n:Int)<=(m:Int))=True:=AE;have w1:IntKind.i64.wrap ((m:Int)+1)=((m+1:Nat):Int):=by rw[gD (by omega) (by omega)]; rfl
  have hc:cur.length<=100000:=by rw[<-h4]; simp; omega
  have hb:s[m]?=some b:=by
   have:(s.drop m)[0]?=some b:=by rw[h1]; rfl
   simpa using this
  have hd:s.drop (m+1)=r:=by rw[<-List.drop_drop,h1]; rfl
  have hm:=(aC.1 hb).1
  have ht:(s.take (m+1)).drop n=cur++[b]:=by
   rw[dC,hb,Option.toList_some,List.drop_append_of_le_length (by simp; omega),h4]
  have q:=fun M=>QC cur hc M
  have r1:dQ (out.length+1) 16=True:=xR;have i1:=ih n (m+1) (cur++[b]) out hd (by omega) (by omega) ht h5
  have i2:=fun h=>ih (m+1) (m+1) [] (out++[cur]) hd (by omega) (by omega) (by simp) h
  simp only[bC,aW,bp,aK,av,aH,aQ] at i2;rw[wj];cases h8:(b.toNat:Int) != 47
  ·cases h6:dE cur<;>rw[h6] at q<;>cases h7:(out.length:Int)==12 <;>
    simp only[OW,e1,e2,e3,h4,hb,h8,q,h7,dK,dg,dJ,gq,aE,af,aw,EW,seval]<;>first|exact hr _|skip
   have h9:out.length+1<=12:=by simp at h7; omega
   simp only[OW,r1,w1,EW,seval];exact i2 h9
  ·simp only[OW,e1,e2,hb,h8,w1,aE,EW,seval];exact i1
def c67(s:Bytes)(hs:s.length<=100000):aq c9 67 [.str s] []=some (.tuple [fO (jB s).1,aG (jB s).2],[]):=by
 refine aJ ?_;unfold jB;cases h0:s==[47]
 ·cases s with
  |nil=>simp only[Nx,OW,h0,af,aw,EW,seval]; rfl
  |cons b r =>
   have h1:((b::r)==[])=false:=rfl;cases h8:(b.toNat:Int) != 47
   ·have hl:=fun {k R} hx hr=>acP hs (k:=k) (R:=R) hx hr r 1 1 [] [] rfl (by simp; omega) (by omega) (by simp) (by simp)
    simp only[bp,aH] at hl;simp only[Nx,OW,h0,h1,h8,af,aw,EW,seval];refine hl (R:=fun o=>some (.tuple [fO (match o with|none=>(([]:List Bytes),(60:Int))|some l=>(l,0)).1,aG (match o with|none=>(([]:List Bytes),(60:Int))|some l=>(l,0)).2],[])) (fun l z=>?_) (fun n=>?_)
    ·simp only[OW,EW,seval]
    ·simp only[OW,EW,seval]; rfl
   ·simp only[Nx,OW,h0,h1,h8,af,aw,aE,EW,seval]; rfl
 ·simp only[Nx,OW,h0,aE,EW,seval]; rfl
def k67 s hs:=cP (c67 s hs)
def c88(l:List Bytes)(hl:l.length<=100)(h:∀x,x∈l->x.length<=32):aq c9 88 [fO l] []=some (.str (Ev l),[]):=by
 refine aJ ?_;unfold Ev;cases h0:(l.length:Int)==0<;>simp only[agJ,E88,h0,af,aw,aE,EW,seval]
 have key:∀ {k:List K} {R:Bytes->Option (ag×aL)} (hx:∀s z,kr (aq c9) [.tmp 2] 0 k ⟨.exit 0,(0,fO l)::(3,.str s)::z,[]⟩=R s) (rest pre:List Bytes) (s:Bytes),l=pre++rest->s.length<=33*pre.length->fS (aq c9) [.tmp 2] 0 k (.loop [0,3,4] acK) [(0,fO l),(3,.str s),(4,aG pre.length)] []=R (yz rest s):=by
  intro k R hx rest;induction rest with
  |nil =>
   intro pre s e _;rw[bZ];simp only[E88,oy e,yz,gS,EW,seval];exact hx _ _
  |cons x r ih =>
   intro pre s e hs;rw[bZ];have hxl:=h x (by rw[e]; simp)
   have hp:pre.length+1<=100:=by rw[e] at hl; simp at hl; omega
   have hw:=GI pre x;have i1:=ih (pre++[x]) (s++[47]++x) (by rw[e]; simp) (by simp; omega)
   have m1:(IntKind.i64.max<((s.length+1:Nat):Int))=False:=max_lt _ (by omega)
   have m2:(IntKind.i64.max<((s.length+1+x.length:Nat):Int))=False:=max_lt _ (by omega)
   simp only[aK,av,aH,aQ] at i1;simp only[yz,bB] at i1 ⊢;simp only[E88,mR e,ji e,hw,m1,m2,EW,seval];exact i1
 exact key (R:=fun s=>some (.str s,[])) (fun s z=>by simp only[E88,EW,seval]) l [] [] rfl (by simp)
def k88 l hl h:=cP (c88 l hl h)
def Ey(s:Bytes):Bytes×Bytes×Int:=if (jB s).2 != 0||(((jB s).1.length:Int)==0) then ([],[],60) else ((jB s).1.getLast?.getD [],Ev (jB s).1.dropLast,0)
def ajv(s:Bytes)(hs:s.length<=100000):aq c9 109 [.str s] []=some (.tuple [.str (Ey s).1,.str (Ey s).2.1,aG (Ey s).2.2],[]):=by
 refine aJ ?_;have q:=fun M=>k67 s hs M
 obtain⟨o1,o2⟩:=AR s;unfold Ey;generalize jB s=X at q o1 o2;obtain⟨l,e⟩:=X;simp only at q o1 o2 ⊢;cases h1:e != 0
 ·cases h2:(l.length:Int)==0
  ·obtain⟨A,x,rfl⟩:∃A x,l=A++[x]:=by
    refine⟨l.dropLast,l.getLast (by rintro rfl; simp at h2),(List.dropLast_concat_getLast _).symm⟩
   have qj:=fun M=>k88 A (by simp at o2; omega) (fun y hy=>rS (o1 y (by simp[hy]))) M
   simp only[aK,av,aH,aQ] at h2 o2;have w1:IntKind.i64.wrap (((A.length+1:Nat):Int)-1)=(A.length:Int):=by rw[gD (by omega) (by omega)]; omega
   have a1:(A++[x])[A.length]?=some x:=by simp
   have a2:((A.length:Int)<((A.length+1:Nat):Int))=True:=AE;have a3:((A.length:Int)<=((A.length+1:Nat):Int))=True:=AE;have a4:((A.length:Int)<0)=False:=by simp
   have a5:(A++[x]).take A.length=A:=by simp
   simp only[LB,ZE,q,h1,h2,w1,a2,a3,a4,a1,<-ka,a5,qj,dI,gq,af,aw,List.getLast?_append,List.getLast?_singleton,List.dropLast_concat,bA,Option.or_some,Option.some_or,EW,seval]
  ·simp only[LB,ZE,q,h1,h2,dJ,dg,aE,EW,seval]
 ·simp only[LB,ZE,q,h1,dK,aE,EW,seval]
def ak2 s hs:=cP (ajv s hs)
def c24(t:Tree)(s:Bytes)(ht:Small t)(hs:s.length<=100000):aq c9 24 [bK t,.str s] []=some (.tuple [aG (sx t.ae s).1,aG (sx t.ae s).2],[]):=by
 refine aJ ?_;have q:=fun M=>k67 s hs M
 obtain⟨o1,o2⟩:=AR s;unfold sx;generalize jB s=X at q o1 o2;obtain⟨l,e⟩:=X;simp only at q o1 o2 ⊢;cases h1:e != 0<;>simp only[af9,E24,bK,bd,q,h1,af,aw,aE,EW,seval]
 refine pq (xs:=l) (by omega) (vM t.ae) (fun a i=>[(2,cL 0),(6,fO l),(8,aG a),(9,aG i)]) (fun _=>[cm [a8 t.ae,aG t.next,aG t.ai]]) (fun p=>some (.tuple [aG p.1,aG p.2],([]:aL))) (fun a=>?_) (fun pre x post a h hx cu hw h0 hm hi=>?_) 1
 ·simp only[E24,bg,vM,EW,seval]
 ·have ql:=fun M=>k56 t.ae t.next t.ai a x ht (by have:=rS (o1 x hm); omega) M
  rw[vM];have i1:=hi (dV t.ae a x).1;generalize dV t.ae a x=u at ql i1;cases h2:u.2 != 0<;>simp only[E24,cu,hx,hw,ql,h2,af,aw,aE,EW,seval]
  exact i1
def k24(ae:List Node)(next ai:Int)(s:Bytes)(ht:Small ⟨ae,next,ai⟩)(hs:s.length<=100000)(M:aL):aM (aq c9) 24 [.agg [a8 ae,aG next,aG ai],.str s] M=some (.tuple [aG (sx ae s).1,aG (sx ae s).2],M):=cO (c24 ⟨ae,next,ai⟩ s ht hs) M
end
def Ar(z:Int)(es:List eD)(s:Nat×Int)(e:eD):Nat×Int:=(s.1+1,if !decide (e.ai<z)&&(decide (s.2<0)||decide (e.ai<(es.getD s.2.toNat yQ).ai)) then (s.1:Int) else s.2)
def NZ(z:Int)(es:List eD):rj z es=(es.foldl (Ar z es) (0,-1)).2:=rfl
def Im(z:Int)(es:List eD):∀(r:List eD)(s:Nat×Int),(r.foldl (Ar z es) s).1=s.1+r.length
 | [],s=>rfl
 |x::r,s=>by rw[bB,Im z es r]; simp only[Ar,av]; omega
section
attribute [local irreducible] fS fp kH gK dv kr aq aM cv bJ
section
variable {t:Tree} {n:Node} {many:Int} {R:Option (ag×aL)}
abbrev liM(t:Tree)(n:Node)(out:List eD):aL:=[.cells [a8 t.ae,.int .i64 t.next,.int .i64 t.ai],.cells [.int .i64 n.au,.int .i64 n.kind,.int .i64 n.dp,jt n.data,ij n.aN,.int .i64 n.up],.tick 3 out.length]
def Ik(hn:n.aN.length<=100000){mX:Int}{out:List eD}{k:List K}
  (hx:∀z,kr (aq c9) [.tmp 8,.tmp 9,.tmp 10] 0 k ⟨.exit 2,(2,aG mX)::(3,aG many)::(11,cL 1)::(13,.slice (.own 2) (out.map gk))::(14,aG (rj mX n.aN))::z,liM t n out⟩=R) :
  fS (aq c9) [.tmp 8,.tmp 9,.tmp 10] 0 k (.loop [2,3,11,13,14,15] VR) [(2,aG mX),(3,aG many),(11,cL 1),(13,.slice (.own 2) (out.map gk)),(14,aG (-1)),(15,aG 0)] (liM t n out)=R:=by
 refine gG (xs:=n.aN) (by omega) (fun j (b:Int)=>b=((n.aN.take j).foldl (Ar mX n.aN) (0,-1)).2/\(b = -1\/∃i:Nat,i<n.aN.length/\b=i)) (fun _ (_:Int)=>()) (fun b i=>[(2,aG mX),(3,aG many),(11,cL 1),(13,.slice (.own 2) (out.map gk)),(14,aG b),(15,aG i)]) (fun _=>liM t n out) (fun _=>R) (fun b hb=>?_) (fun pre e post b h hx' cu hw h0 hm hb hi=>?_) (-1) ⟨rfl,.inl rfl⟩
 ·obtain⟨hb,-⟩:=hb;rw[cT,<-NZ] at hb;subst hb;simp only[vZ,bg,EW,seval];exact hx _
 ·obtain⟨hb1,hb2⟩:=hb;have hp:=(aC.1 hx').1;have hl:((n.aN.take pre.length).foldl (Ar mX n.aN) (0,-1)).1=pre.length:=by rw[Im,gi]; simp only; omega
  have ht:((n.aN.take (pre.length+1)).foldl (Ar mX n.aN) (0,-1)).2=(Ar mX n.aN (pre.length,b) e).2:=by
   rw[dC,hx',jo];simp only[Option.toList,bB,gS];rw[show((n.aN.take pre.length).foldl (Ar mX n.aN) (0,-1))=(pre.length,b) from fF hl hb1.symm]
  rcases hb2 with rfl|⟨a,ha,rfl⟩
  ·cases h1:decide (e.ai<mX)
   ·have i1:=hi pre.length ⟨by rw[ht]; simp[Ar,h1],.inr ⟨_,hp,rfl⟩⟩
    have h1':decide (mX<=e.ai)=true:=by simpa using h1
    simp only[vZ,cu,hx',hw,h0,h1,h1',gk,ew,EW,seval];exact i1
   ·have i1:=hi (-1) ⟨by rw[ht]; simp[Ar,h1],.inl rfl⟩
    have h1':decide (mX<=e.ai)=false:=by simpa using h1
    simp only[vZ,cu,hx',hw,h0,h1,h1',gk,ew,EW,seval];exact i1
  ·have a0:((a:Int)<0)=False:=by simp
   have a1:((a:Int)<(n.aN.length:Int))=True:=AE;obtain⟨y,hy⟩:∃y,n.aN[a]?=some y:=⟨_,aj ha⟩;have hg:n.aN.getD a yQ=y:=by rw[fu,hy]; rfl
   cases h1:decide (e.ai<mX)
   ·have h1':decide (mX<=e.ai)=true:=by simpa using h1
    cases h2:decide (e.ai<y.ai)
    ·have i1:=hi a ⟨by rw[ht]; simp[Ar,h1,hy]; simp at h2; omega,.inr ⟨_,ha,rfl⟩⟩
     simp only[vZ,cu,hx',hw,h0,a0,a1,hy,h1,h1',h2,gk,ew,EW,seval];exact i1
    ·have i1:=hi pre.length ⟨by rw[ht]; simp[Ar,h1,hy]; simp at h2; omega,.inr ⟨_,hp,rfl⟩⟩
     simp only[vZ,cu,hx',hw,h0,a0,a1,hy,h1,h1',h2,gk,ew,EW,seval];exact i1
   ·have h1':decide (mX<=e.ai)=false:=by simpa using h1
    have i1:=hi a ⟨by rw[ht]; simp[Ar,h1],.inr ⟨_,ha,rfl⟩⟩
    cases h2:decide (e.ai<y.ai) <;>
    simp only[vZ,cu,hx',hw,h0,a0,a1,hy,h1,h1',h2,gk,ew,EW,seval]<;>exact i1
def SO(hn:n.aN.length<=64)(hnd:(n.aN.map eD.ai).Nodup)(hck:∀e,e∈n.aN->0<=e.ai/\e.ai<1099511627776){m:Nat}(hm:1<=m)(hm':m<=64){F:List eD}{k:List K}
  (hr:∀(out:List eD)(x:Int),out=(if (F.length:Int)<=m then F else F.take m)->x=(if (F.length:Int)<=m then 0 else mM ((F.getD (m-1) yQ).ai+1))->kr (aq c9) [.tmp 8,.tmp 9,.tmp 10] 0 k ⟨.ret,[(8,.slice (.own 2) (out.map gk)),(9,aG x),(10,aG 0)],liM t n out⟩=R) :
  ∀(d:Nat)(mX:Int)(out:List eD),out.length+d=m->out++mS (jh mX n.aN)=F->fS (aq c9) [.tmp 8,.tmp 9,.tmp 10] 0 k (.loop [2,3,11,13] VS) [(2,aG mX),(3,aG m),(11,cL 1),(13,.slice (.own 2) (out.map gk))] (liM t n out)=R:=by
 intro d;induction d with
 |zero =>
  intro mX out hd hF;rw[bZ];have la:=fun {k} hx=>Ik (t:=t) (n:=n) (many:=m) (R:=R) (by omega) (mX:=mX) (out:=out) (k:=k) hx
  simp only[vZ,EW,seval];refine la (fun z=>?_)
  rcases lY (rj mX n.aN) 0 with hb|hb
  ·have hs:=IX hb;have h1:(rj mX n.aN<0)=True:=by simpa using hb
   rw[hs,bW] at hF;subst hF;simp only[vZ,h1,EW,seval];exact hr out 0 (by rw[az (by omega)]) (by rw[az (by omega)])
  ·obtain⟨e,he,h1,h2,h3⟩:=Dt hnd hb;have a0:(rj mX n.aN<0)=False:=by simpa using hb
   have e1:((out.length:Int)==(m:Int))=true:=by simp; omega
   have w1:IntKind.i64.wrap ((m:Int)-1)=((m-1:Nat):Int):=by rw[gD (by omega) (by omega)]; omega
   have e2:(((m-1:Nat):Int)<(out.length:Int))=True:=AE;have e3:(((m-1:Nat):Int)<0)=False:=by simp
   have hy:=aj (show m-1<out.length by omega)
   rw[h3] at hF;have cu:¬((F.length:Int)<=m):=by rw[<-hF]; simp; omega
   have hFt:F.take m=out:=by rw[<-hF,gw (by omega),ck (by omega)]
   have hg:F.getD (m-1) yQ=out[m-1]:=by rw[fu,<-hF,bl (by omega),hy]; rfl
   simp only[vZ,a0,e1,w1,e2,e3,hy,gk,ew,EW,seval];exact hr out _ (by rw[ak cu,hFt]) (by rw[ak cu,hg])
 |succ d ih =>
  intro mX out hd hF;rw[bZ];have la:=fun {k} hx=>Ik (t:=t) (n:=n) (many:=m) (R:=R) (by omega) (mX:=mX) (out:=out) (k:=k) hx
  simp only[vZ,EW,seval];refine la (fun z=>?_)
  rcases lY (rj mX n.aN) 0 with hb|hb
  ·have hs:=IX hb;have h1:(rj mX n.aN<0)=True:=by simpa using hb
   rw[hs,bW] at hF;subst hF;simp only[vZ,h1,EW,seval];exact hr out 0 (by rw[az (by omega)]) (by rw[az (by omega)])
  ·obtain⟨e,he,h1,h2,h3⟩:=Dt hnd hb;have a0:(rj mX n.aN<0)=False:=by simpa using hb
   obtain⟨a,ha⟩:∃a:Nat,rj mX n.aN=(a:Int):=⟨(rj mX n.aN).toNat,by omega⟩
   rw[ha] at he a0 ⊢;rw[bh] at he;have ha':=aF he;have a1:((a:Int)<(n.aN.length:Int))=True:=AE;have e1:((out.length:Int)==(m:Int))=false:=by simp; omega
   have r1:dQ (out.length+1) 32=True:=xR;have hc:=hck e h2;have w1:IntKind.i64.wrap (e.ai+1)=e.ai+1:=gD (by omega) (by omega)
   rw[h3] at hF;have i1:=ih (e.ai+1) (out++[e]) (by simp; omega) (by rw[<-hF]; simp)
   simp only[liM,bC,aW,bp,aK,av,aH,aQ,gk,ew] at i1 ⊢;simp only[vZ,a0,a1,e1,r1,he,w1,gk,ew,EW,seval];exact i1
end
def JU{t:Tree}{cg:Int->Nat}(h:cq t cg 0)(au:Int):∀e,e∈(gA t.ae au).1.aN->0<=e.ai/\e.ai<1099511627776:=by
 have hc:=h.ai;unfold gA;cases hi:find t.ae au with
 |none=>intro e he; simp[Node.zero] at he
 |some n =>
  simp only;split
  ·intro e he;have:=h.wF _ _ e hi he;omega
  ·intro e he; simp[Node.zero] at he
def aju(t:Tree)(ht:Rt t)(au z m:Int):aq c9 108 [bK t,aG au,aG z,aG m] []=some (.tuple [ij (p9 t au z m).1,aG (p9 t au z m).2.1,aG (p9 t au z m).2.2],[]):=by
 refine aJ ?_;have qd:=fun M=>VD t.ae t.next t.ai au (by have:=ht.sz.ae; omega) M
 obtain⟨cg,h⟩:=ht;obtain⟨hnd,h64⟩:=z7 h au;have hck:=JU h au;unfold p9 Bg;generalize gA t.ae au=v at qd hnd h64 hck ⊢;cases h1:decide (z<0)
 case true =>
  simp only[CH,vZ,bK,bd,h1,dK,aE,EW,seval];rfl
 cases h2:decide (m<1)
 case true =>
  simp only[CH,vZ,bK,bd,h1,h2,dK,dJ,aE,EW,seval];rfl
 cases h3:decide (64<m)
 case true =>
  simp only[CH,vZ,bK,bd,h1,h2,h3,dJ,aE,EW,seval];rfl
 cases h4:v.2 != 0
 case true =>
  simp only[CH,vZ,bK,bd,cn,aV,qd,h1,h2,h3,h4,dI,af,aE,aw,EW,seval];rfl
 simp only[dq] at h2 h3;obtain⟨M,rfl⟩:∃M:Nat,m=M:=⟨m.toNat,by omega⟩
 have g2:decide ((M:Int)<1)=false:=by simp; omega
 have g3:decide (64<(M:Int))=false:=by simp; omega
 have lb:=fun {k R} hr=>SO (t:=t) (n:=v.1) (R:=R) h64 hnd hck (m:=M) (by omega) (by omega) (F:=mS (jh z v.1.aN)) (k:=k) hr M z [] (by simp) rfl
 simp only[liM,bp,aH] at lb;generalize mS (jh z v.1.aN)=F at lb ⊢;simp only[CH,vZ,bK,bd,cn,aV,qd,h1,g2,g3,h4,dI,af,aw,bu,bh,EW,seval];refine lb (fun out x ho hx=>?_)
 subst ho; subst hx;simp only[vZ,EW,seval];split<;>rfl
def ak1(t:Tree)(ht:Rt t)(au z m:Int)(M:aL):aM (aq c9) 108 [.agg [a8 t.ae,aG t.next,aG t.ai],aG au,aG z,aG m] M=some (.tuple [ij (p9 t au z m).1,aG (p9 t au z m).2.1,aG (p9 t au z m).2.2],M) :=
 cO (aju t ht au z m) M
def ajm(a b:Bytes):(a != b) = !decide (a=b):=by rw[eh]; simp
def Wx{a b:List Bytes}(ha:a.length<=100000){k:List K}{R:Bool->Option (ag×aL)}
  (hx:∀e,kr (aq c9) [.tmp 4] 0 k ⟨.exit 0,e,[]⟩=R true) (hr:kr (aq c9) [.tmp 4] 0 k ⟨.ret,[(4,.bool false)],[]⟩=R false) :
  ∀(l m pre pre':List Bytes),a=pre++l->b=pre'++m->pre.length=pre'.length->l.length=m.length->fS (aq c9) [.tmp 4] 0 k (.loop [0,1,12,13] V8) [(0,fO a),(1,fO b),(12,aG a.length),(13,aG pre.length)] []=R (decide (l=m)):=by
 intro l;induction l with
 |nil =>
  intro m pre pre' h h' hp hl;have hm:m=[]:=ct.1 hl.symm;subst hm;rw[bZ];simp only[FN,oy h,EW,seval];exact hx _
 |cons n r ih =>
  intro m pre pre' h h' hp hl;cases m with
  |nil=>cases hl
  |cons n' m =>
  rw[bZ];have eY:pre.length+1<=100000:=by rw[h] at ha; simp at ha; omega
  have hw:=GI pre n;have hi:=ih m (pre++[n]) (pre'++[n']) (by rw[h]; simp) (by rw[h']; simp) (by simp[hp]) (by simpa using hl)
  have ha2:b[pre.length]?=some n':=by rw[hp]; exact ji h'
  have hdc:decide (n::r=n'::m)=(decide (n=n')&&decide (r=m)):=by
   rw[eh]; simp
  rw[hdc];simp only[aK,av,aH] at hi;simp only[FN,mR h,ji h,ha2,ajm,EW,seval];refine bL (fun hb=>?_) (fun hb=>?_)
  ·have hb':decide (n=n')=false:=by simpa using hb
   simp only[FN,hb',cf,EW,seval];exact hr
  ·have hb':decide (n=n')=true:=by simpa using hb
   simp only[FN,hb',bQ,hw,EW,seval];exact hi
def akf(a b:List Bytes)(ha:a.length<=100000):aq c9 195 [fO a,fO b] []=some (.bool (decide (a=b)),[]):=by
 refine aJ ?_;simp only[YE,FN,EW,seval];refine bL (fun hb=>?_) (fun hb=>?_)
 ·have:decide (a=b)=false:=by
   simp at hb ⊢;rintro rfl; exact hb rfl
  simp only[FN,this,EW,seval]
 ·simp only[FN,EW,seval];exact Wx (R:=fun z=>some (.bool z,[])) ha (fun e=>by simp only[FN,EW,seval]) (by simp only[FN,EW,seval]) a b [] [] rfl rfl rfl (by simp at hb; omega)
def alu a b ha:=cP (akf a b ha)
def ajK(a b:Bytes)(ha:a.length<=100000)(hb:b.length<=100000):aq fR 130 [.str a,.str b] []=some (.bool (jM a b),[]):=by
 refine aJ ?_;have q1:=k63 a ha;have q2:=k63 b hb;have l1:(bz a).1.length<=100000:=by have:=(lB a).2; omega
 have q3:=fun y M=>lS (alu (bz a).1 y l1 M)
 simp only[Ya,O3,q1,q2,EW,seval];unfold jM;cases h1:(bz a).2==0
 ·simp only[O3,h1,cf,EW,seval]
 cases h2:(bz b).2==0
 ·simp only[O3,h1,h2,cf,dL,bQ,EW,seval]
 cases h3:decide (((bz a).1.length:Int)<=(bz b).1.length)
 ·have hp:(bz a).1.isPrefixOf (bz b).1=false:=by
   rw[mf];intro hc;have:=(iX.1 hc).length_le;simp at h3;omega
  simp only[O3,h1,h2,h3,hp,cf,dL,bQ,EW,seval]
 ·have hp:(bz a).1.isPrefixOf (bz b).1=decide ((bz a).1=(bz b).1.take (bz a).1.length):=by
   rw[eh,iX,bu,List.prefix_iff_eq_take]
  have hl:(bz a).1.length<=(bz b).1.length:=by simp at h3; omega
  have q4:∀M,aM (aq fR) 195 [fO (bz a).1,kJ (List.take (bz a).1.length (List.map ag.str (bz b).1))] M=some (.bool (decide ((bz a).1=(bz b).1.take (bz a).1.length)),M):=fun M=>by
   rw[<-ka]; exact q3 _ M
  have h4:(((bz a).1.length:Int)<=((bz b).1.length:Int))=True:=by simpa using h3
  simp only[O3,h1,h2,h3,h4,hp,q4,cf,dL,bQ,EW,seval]
def ag2 a b ha hb:=cP (ajK a b ha hb)
def ajI(s:Bytes)(hs:s.length<=100000):aq fR 127 [.str s] []=some (aG (bz s).2,[]):=by
 refine aJ ?_;have q1:=k63 s hs;simp only[X8,aiA,q1,EW,seval]
def QD s hs:=cP (ajI s hs)
def NA(n:Int):Bool:=decide (n>=0)&&decide (n<8)
def ajQ(n:Int):aq c9 140 [aG n] []=some (.bool (NA n),[]):=by
 refine aJ ?_;unfold NA;cases h1:decide (n>=0)<;>cases h2:decide (n<8)<;>simp only[Yi,aiH,h1,h2,eX,dL,bQ,cf,EW,seval]
def aa7 n:=cP (ajQ n)
def c77(g:Int):aq c9 77 [aG g] []=some (bI [⟨[47],g,1⟩],[]):=by
 refine aJ ?_;simp only[agD,E77,EW,seval];rfl
def lI(q:Piece->Bool):List Piece->Int->List Int
 | [],_=>[]
 |p::r,i=>if q p then i::lI q r (i+1) else lI q r (i+1)
def zE(l:List Int):wid (l.map mr) 1=True:=mG mr _ (fun _=>rfl) l
def ajJ(p:Piece)(s:Bytes)(hp:p.aU.length<=100000)(hs:s.length<=100000):aq fR 129 [dr p,cL 0] [cm [.str s]]=some (.bool (jM p.aU s),[cm [.str s]]):=by
 refine aJ ?_;have q1:=ag2 p.aU s hp hs;simp only[X9,aiB,dr,cR,q1,EW,seval]
def SR{xs:List Piece}{s:Bytes}(hn:xs.length<=100000)(hp:∀p,p∈xs->p.aU.length<=100000)(hs:s.length<=100000){k:List K}{R:List Int->Option (ag×aL)}
  (hx:∀(out:List Int) e,kr (aq fR) [.tmp 4] 1 k ⟨.exit 0,(1,.func 129 [cL 0])::(5,.slice (.own 1) (out.map mr))::e,[cm [.str s],.tick 1 out.length]⟩=R out) :
  ∀(l pre:List Piece)(out:List Int),xs=pre++l->out.length<=pre.length->fS (aq fR) [.tmp 4] 1 k (.loop [1,5,8,9,10] L2) [(1,.func 129 [cL 0]),(5,.slice (.own 1) (out.map mr)),(8,bI xs),(9,aG xs.length),(10,aG pre.length)] [cm [.str s],.tick 1 out.length] =
   R (out++lI (fun p=>jM p.aU s) l pre.length):=by
 intro l;induction l with
 |nil =>
  intro pre out h ho;rw[bZ];simp only[GL,oy h,lI,bW,EW,seval];exact hx _ _
 |cons p rest ih =>
  intro pre out h ho;rw[bZ];have eY:pre.length+1<=100000:=by rw[h] at hn; simp at hn; omega
  have hw:=GI pre p;have hi1:=ih (pre++[p]) out (by rw[h]; simp) (by simp; omega)
  have hi2:=ih (pre++[p]) (out++[(pre.length:Int)]) (by rw[h]; simp) (by simp; omega)
  simp only[aK,av,aH,aQ,bC,aW,bp] at hi1 hi2;have r1:dQ (out.length+1) 8=True:=xR
  have q1:∀M,nth M 0=some (cm [.str s])->aM (aq fR) 129 [.agg (cR p),cL 0] M=some (.bool (jM p.aU s),M) :=
   fun M hM=>Lr (f:=129) (p:=0) (vs:=[.agg (cR p)]) hM (ajJ p s (hp p (by rw[h]; simp)) hs) rfl rfl rfl rfl rfl rfl rfl rfl rfl
  simp only[cR] at q1;simp only[lI];rcases Bool.eq_false_or_eq_true (jM p.aU s) with he|he<;>simp only[he,GL,mR h,ji h,dr,cR,q1,hw,r1,zE,zF,aE,af,aw,EW,seval]
  ·simpa[mr] using hi2
  ·simpa using hi1
def afE(xs:List Piece)(s:Bytes)(hn:xs.length<=100000)(hp:∀p,p∈xs->p.aU.length<=100000)(hs:s.length<=100000):aq fR 128 [bI xs,.func 129 [cL 0]] [cm [.str s]]=some (lQ (lI (fun p=>jM p.aU s) xs 0),[cm [.str s]]):=by
 refine aJ ?_;simp only[LC,GL,EW,seval];exact SR hn hp hs (R:=fun out=>some (lQ out,[cm [.str s]])) (fun out e=>by simp only[GL,EW,seval]) xs [] [] rfl (ar _)
def akA(p:Piece)(s:Bytes)(hp:p.aU.length<=100000)(hs:s.length<=100000):aq fR 251 [dr p,cL 0] [cm [.str s]]=some (.bool (jM s p.aU),[cm [.str s]]):=by
 refine aJ ?_;have q1:=ag2 s p.aU hs hp;simp only[YW,ai2,dr,cR,q1,EW,seval]
def SQ{xs:List Piece}{s:Bytes}(hn:xs.length<=100000)(hp:∀p,p∈xs->p.aU.length<=100000)(hs:s.length<=100000){k:List K}{R:List Int->Option (ag×aL)}
  (hx:∀(out:List Int) e,kr (aq fR) [.tmp 4] 1 k ⟨.exit 0,(1,.func 251 [cL 0])::(5,.slice (.own 1) (out.map mr))::e,[cm [.str s],.tick 1 out.length]⟩=R out) :
  ∀(l pre:List Piece)(out:List Int),xs=pre++l->out.length<=pre.length->fS (aq fR) [.tmp 4] 1 k (.loop [1,5,8,9,10] L2) [(1,.func 251 [cL 0]),(5,.slice (.own 1) (out.map mr)),(8,bI xs),(9,aG xs.length),(10,aG pre.length)] [cm [.str s],.tick 1 out.length] =
   R (out++lI (fun p=>jM s p.aU) l pre.length):=by
 intro l;induction l with
 |nil =>
  intro pre out h ho;rw[bZ];simp only[GL,oy h,lI,bW,EW,seval];exact hx _ _
 |cons p rest ih =>
  intro pre out h ho;rw[bZ];have eY:pre.length+1<=100000:=by rw[h] at hn; simp at hn; omega
  have hw:=GI pre p;have hi1:=ih (pre++[p]) out (by rw[h]; simp) (by simp; omega)
  have hi2:=ih (pre++[p]) (out++[(pre.length:Int)]) (by rw[h]; simp) (by simp; omega)
  simp only[aK,av,aH,aQ,bC,aW,bp] at hi1 hi2;have r1:dQ (out.length+1) 8=True:=xR
  have q1:∀M,nth M 0=some (cm [.str s])->aM (aq fR) 251 [.agg (cR p),cL 0] M=some (.bool (jM s p.aU),M) :=
   fun M hM=>Lr (f:=251) (p:=0) (vs:=[.agg (cR p)]) hM (akA p s (hp p (by rw[h]; simp)) hs) rfl rfl rfl rfl rfl rfl rfl rfl rfl
  simp only[cR] at q1;simp only[lI];rcases Bool.eq_false_or_eq_true (jM s p.aU) with he|he<;>simp only[he,GL,mR h,ji h,dr,cR,q1,hw,r1,zE,zF,aE,af,aw,EW,seval]
  ·simpa[mr] using hi2
  ·simpa using hi1
def afD(xs:List Piece)(s:Bytes)(hn:xs.length<=100000)(hp:∀p,p∈xs->p.aU.length<=100000)(hs:s.length<=100000):aq fR 128 [bI xs,.func 251 [cL 0]] [cm [.str s]]=some (lQ (lI (fun p=>jM s p.aU) xs 0),[cm [.str s]]):=by
 refine aJ ?_;simp only[LC,GL,EW,seval];exact SQ hn hp hs (R:=fun out=>some (lQ out,[cm [.str s]])) (fun out e=>by simp only[GL,EW,seval]) xs [] [] rfl (ar _)
end
def Mo(s:Bytes):kh [cm [.str s]] (iH [0]) [0]=some [cm [.str s]]:=rfl
def Lh(q:Piece->Bool):∀(l:List Piece)(i:Int),(lI q l i).length<=l.length
 | [],_=>ar _
 |p::r,i=>by
  have:=Lh q r (i+1);rw[lI];split<;>simp only[av]<;>omega
def G4(s:Bytes):∀(l:List Piece)(i b:Nat),((b:Int)::lI (fun p=>jM p.aU s) l i)[(lI (fun p=>jM p.aU s) l i).length]?=some ((qq s l i b:Nat):Int)
 | [],i,b=>rfl
 |p::r,i,b=>by
  have h:=fun b=>G4 s r (i+1) b
  simp only[Int.natCast_add,Int.cast_ofNat_Int] at h;rw[lI,qq]
  by_cases hp:jM p.aU s=true
  ·rw[az hp,az hp]; exact h i
  ·rw[ak hp,ak hp]; exact h b
section
attribute [local irreducible] fS fp kH gK dv kr aq aM cv bJ
def GJ(l:List Piece)(s:Bytes):Int×Int:=if (bz s).2=0 then ((dj l s:Nat),0) else (0,(bz s).2)
def ZX{l:List Piece}(hl:jV l){s:Bytes}(hs:(bz s).2=0):0<(lI (fun p=>jM p.aU s) l 0).length:=by
 obtain⟨p,r,rfl,hp⟩:=hl.fst;rw[lI,az (by simp only[hp]; exact Ca hs)]
 simp
def c64{l:List Piece}(hl:jV l)(hp:∀p,p∈l->p.aU.length<=100000)(s:Bytes)(hs:s.length<=100000):aq fR 64 [bI l,.str s] []=some (.tuple [aG (GJ l s).1,aG (GJ l s).2],[]):=by
 refine aJ ?_;have q1:=QD s hs;have hk:aM (aq fR) 128 [bI l,.func 129 [cL 0]] [cm [.str s]]=some (lQ (lI (fun p=>jM p.aU s) l 0),[cm [.str s]]):=lP (ids:=[0]) rfl rfl (Mo s) rfl rfl (afE l s (by have:=hl.many; omega) hp hs) rfl rfl rfl rfl rfl
 unfold GJ
 by_cases h:(bz s).2=0
 ·have h0:=ZX hl h;have h1:=G4 s l 0 0;have h2:(lI (fun p=>jM p.aU s) l 0).length<=1000000:=by have:=Lh (fun p=>jM p.aU s) l 0; have:=hl.many; omega
  have h3:(lI (fun p=>jM p.aU s) l 0)[(lI (fun p=>jM p.aU s) l 0).length-1]?=some ((dj l s:Nat):Int):=by
   obtain⟨n,hn⟩:∃n,(lI (fun p=>jM p.aU s) l 0).length=n+1:=⟨_,(Nat.succ_pred_eq_of_pos h0).symm⟩
   have h4:((0:Nat):Int)=0:=rfl;rw[h4,hn,dB] at h1;rw[hn,Nat.add_sub_cancel]; exact h1
  generalize (lI (fun p=>jM p.aU s) l 0)=A at *
  have h5:IntKind.i64.wrap ((A.length:Int)-1)=((A.length-1:Nat):Int):=by rw[gD (by omega) (by omega)]; omega
  have h6:(((A.length-1:Nat):Int)<0)=False:=by simp
  simp only[aaO,E64,q1,h,hk,h3,h5,h6,mr,aE,EW,seval]
 ·have hb:((bz s).2 != 0)=true:=by simpa using h
  simp only[aaO,E64,q1,hb,ak h,EW,seval]
def akk(p:Piece)(s:Bytes):aq c9 210 [dr p,.str s] []=some (aG (Lib.compareBytes p.aU s),[]):=by
 refine aJ ?_;have q1:=aa6 p.aU s;simp only[YK,aiU,dr,cR,q1,EW,seval]
def dU(p:Piece):(dr p).cells=cR p:=rfl
def gx(p:Piece):(cR p).length=3:=rfl
def I3(p:Piece):List.take 3 (cR p)=cR p:=rfl
def IT(p:Piece):List.map ag.shut (cR p)=cR p:=rfl
def ag9(p:Piece)(s:Bytes)(M:aL):aM (aq c9) 210 [.agg (cR p),.str s] M=some (aG (Lib.compareBytes p.aU s),M):=cO (akk p s) M
theorem Wz{xs:List Piece}{au:Bytes}{b:Nat}(hb:Low (fun x=>decide (Lib.compareBytes x.aU au<0)) xs b)(hn:xs.length<=100000){k:List K}{r:Option (ag×aL)}
  (hx:∀v q,kr (aq c9) [.tmp 6,.tmp 7] 0 k ⟨.exit 0,[(0,kJ (xs.map dr)),(1,.str au),(2,.func 210 []),(8,aG xs.length),(9,aG b),(10,v),(17,q)],[]⟩=r) :
  ∀(f i j:Nat),j-i<=f->i<=b->b<=j->j<=xs.length->fS (aq c9) [.tmp 6,.tmp 7] 0 k (.loop [0,1,2,8,9,10] Wa) [(0,kJ (xs.map dr)),(1,.str au),(2,.func 210 []),(8,aG xs.length),(9,aG i),(10,aG j)] []=r:=by
 intro f;induction f with
 |zero =>
  intro i j h1 h2 h3 h4;obtain rfl:i=b:=by omega
  rw[bZ];have cu:((i:Int)<(j:Int))=False:=by grind
  simp only[GN,cu,EW,seval]
  grind
 |succ f ih =>
  intro i j h1 h2 h3 h4;rw[bZ]
  by_cases hij:i<j
  ·have cu:((i:Int)<(j:Int))=True:=by grind
   obtain⟨m1,m2,m3,m4,m5⟩:=KD i j (by omega) (by omega)
   have hmid:(i+j) / 2<xs.length:=by omega
   have hx:=aj hmid;have hl:=hb.lt _ _ hx;have hk:=fun x:Piece=>ag9 x au []
   simp only[GN,cu,m1,m2,m3,m4,hx,hk,dU,gx,I3,IT,aE,EW,seval];refine bL (fun hq=>?_) (fun hq=>?_)
   ·simp only[GN,m5,EW,seval];exact ih ((i+j) / 2+1) j (by omega) (hl.1 hq) h3 h4
   ·simp only[GN,EW,seval];exact ih i ((i+j) / 2) (by omega) h2 (Nat.not_lt.1 fun h=>by rw[hl.2 h] at hq; cases hq) (by omega)
  ·obtain rfl:i=b:=by omega
   have cu:((i:Int)<(j:Int))=False:=by simp; omega
   simp only[GN,cu,EW,seval];exact hx _ _
def akj(xs:List Piece)(au:Bytes)(b:Nat)(hb:Low (fun x=>decide (Lib.compareBytes x.aU au<0)) xs b)(hn:xs.length<=100000):aq c9 209 [bI xs,.str au,.func 210 []] []=some (.tuple [aG b,.bool (uk (fun x=>Lib.compareBytes x.aU au==0) xs b)],[]):=by
 refine aJ ?_;simp only[YJ,GN,EW,seval];refine Wz hb hn (fun v q=>?_) xs.length 0 xs.length (by omega) (by omega) hb.le (by omega)
 have hk:=fun x:Piece=>ag9 x au []
 unfold uk
 by_cases cu:b<xs.length
 ·have hx:=aj cu;have h1:((b:Int)<(xs.length:Int))=True:=by simp; omega
  simp only[GN,hx,h1,hk,dU,gx,I3,IT,aE,EW,seval]
 ·have hx:xs[b]?=none:=eJ (by omega)
  have h1:((b:Int)<(xs.length:Int))=False:=by simp; omega
  simp only[GN,hx,h1,EW,seval]
def ajZ(xs:List Piece)(s:Bytes)(b:Nat)(hb:Low (fun x=>decide (Lib.compareBytes x.aU s<0)) xs b)(hn:xs.length<=100000):aq c9 157 [bI xs,.str s] []=some (.tuple [aG b,.bool (uk (fun x=>Lib.compareBytes x.aU s==0) xs b)],[]):=by
 refine aJ ?_;have q:∀M,aM (aq c9) 209 [bI xs,.str s,.func 210 []] M=some (.tuple [aG b,.bool (uk (fun x=>Lib.compareBytes x.aU s==0) xs b)],M):=fun M=>cO (akj xs s b hb hn) M
 simp only[Yp,aiL,q,EW,seval]
def aa8 xs s b hb hn:=cP (ajZ xs s b hb hn)
end
def qS(l:List Piece)(s:Bytes):Nat:=Ma (fun x=>decide (Lib.compareBytes x.aU s<0)) l
def uZ(p:Piece)(r:List Piece)(s:Bytes):qS (p::r) s=if strLt p.aU s then qS r s+1 else 0:=by
 unfold qS Ma;have:(decide (Lib.compareBytes p.aU s<0)=true)=(strLt p.aU s=true):=by rw[bu]; exact za p.aU s
 rw[fh];simp only[this];split<;>rfl
def jV.low{l:List Piece}(h:jV l)(s:Bytes):Low (fun x=>decide (Lib.compareBytes x.aU s<0)) l (qS l s):=by
 refine SZ (h.jx.imp ?_);intro a b hab hb;simp only[bu,za] at hb ⊢;exact qO hab hb
def EF(s:Bytes):∀ {l l':List Piece},l'.map Piece.aU=l.map Piece.aU->qS l' s=qS l s
 | [],[],_=>rfl
 | [],_::_,h=>by cases h
 |_::_,[],h=>by cases h
 |p::r,p'::r',h=>by
  simp only[aW] at h;injection h with h1 h2
  rw[uZ,uZ,h1,EF s h2]
def LW(p:Piece):∀l:List Piece,xQ l p=l.take (qS l p.aU)++p::l.drop (qS l p.aU)
 | []=>rfl
 |q::r=>by
  have ih:=LW p r;unfold xQ at ih ⊢;rw[uZ,fh,lg]
  by_cases hq:strLt q.aU p.aU=true
  ·rw[az hq,az hq,az hq,oo,oh,aX,aX,ih]
  ·rw[ak hq,ak hq,ak hq]; rfl
def WL(l:List Piece)(s:Bytes):qS l s<=l.length:=by
 induction l with
 |nil=>exact ar _
 |cons p r ih =>
  rw[uZ];split<;>simp only[av]<;>omega
def vd(s:Bytes):∀ {l:List Piece},l.Pairwise (fun a b=>strLt a.aU b.aU=true)->rn l s=if uk (fun x=>Lib.compareBytes x.aU s==0) l (qS l s)=true then some (qS l s) else none
 | [],_=>rfl
 |p::r,h=>by
  obtain⟨h1,h2⟩:=bG.1 h;have ih:=vd s h2;unfold rn at ih ⊢;rw[uZ,List.findIdx?_cons]
  by_cases hp:strLt p.aU s=true
  ·have hne:(p.aU==s)=false:=by
    rw[bM]; rintro rfl; rw[iq] at hp; cases hp
   rw[hne,ak (by simp),az hp,ih]
   have:uk (fun x=>Lib.compareBytes x.aU s==0) (p::r) (qS r s+1)=uk (fun x=>Lib.compareBytes x.aU s==0) r (qS r s):=by unfold uk; simp
   rw[this];split<;>rfl
  ·rw[ak hp];have:uk (fun x=>Lib.compareBytes x.aU s==0) (p::r) 0=(p.aU==s):=by unfold uk; simp only[dX,F2]
   rw[this]
   by_cases he:(p.aU==s)=true
   ·rw[az he,az he]
   ·rw[ak he,ak he]
    have hall:∀q,q∈r->(q.aU==s)=false:=fun q hq=>by
     rw[bM]; rintro rfl; exact hp (h1 q hq)
    rw[List.findIdx?_eq_none_iff.2 hall]; rfl
def zL(q:Piece->Bool):∀(l:List Piece)(i:Int),(lI q l i).length=l.countP q
 | [],_=>rfl
 |p::r,i=>by
  rw[lI,List.countP_cons];split<;>simp only[av,zL q r (i+1)]
  ·omega
end Go.Proofs.YtcbopkblmebjiaaGreatDoor
namespace Go.Abs
open Go
def Vy{C:eO}{fn:eU}{d:Nat}{args:List ag}{M:aL}{x:ag×aL}(hl:args.length=fn.nparams)(h:fS C fn.results (M.length+d) [] fn.body (j5 0 args) M=some x)(hx:x.2.length=M.length+d):KS C fn d args M=some x :=
 aa1 hl (by unfold fS at h; exact h) hx
end Go.Abs
namespace Go.Proofs.YtcbopkblmebjiaaGreatDoor
open Go Go.Abs
def ub(l:List Piece)(b:Nat)(c d:Piece)(o:Nat)(vs:List ag)(h:putCells (dr c) o vs=dr d):j6 (l.map dr) b (putCells (dr c) o vs)=(l.set b d).map dr:=by
 rw[h,fQ,kW]
def TI(c:Piece)(e:Int):putCells (dr c) 2 [aG e]=dr { c with dM:=e }:=rfl
def ah4(c:Piece)(g:Int):putCells (dr c) 1 [aG g]=dr { c with group:=g }:=rfl
def jV.Ou{l:List Piece}(h:jV l):∀p,p∈l->p.aU.length<=100000:=fun p hp=>by
 rw[h.join hp,<-rh];have:=uY (vX p) (Dd p.aU) (lB p.aU).2;omega
def qV{l:List Piece}{i:Nat}(h:i<l.length):l[i]?=some (mJ l i):=by
 unfold mJ; rw[aj h]; rfl
def adh(xs:List ag)(z:Int):kh [cm [aG z],.arr 3 0 xs] (iH [1,0]) [1,0]=some [.arr 3 0 xs,cm [aG z]]:=rfl
section
attribute [local irreducible] fS fp kH gK dv kr aq aM cv bJ
def aj0{l:List Piece}{a:Nat}{p:Piece}(h:l[a]?=some p)(z:Int):aq c9 159 [.iu 0 0 a 0,cL 1] [.arr 3 0 (l.map dr),cm [aG z]]=some (.tuple [],[.arr 3 0 ((l.set a { p with dM:=z }).map dr),cm [aG z]]):=by
 refine aJ ?_;simp only[Yq,aiN,h,dU,gx,ar,aE,ub l a p _ 2 _ (TI p z),EW,seval]
def aj2{l:List Piece}{a:Nat}{p:Piece}(h:l[a]?=some p)(z:Int)(hz:IntKind.i64.wrap (z+1)=z+1):aq c9 162 [.iu 0 0 a 0,cL 1] [.arr 3 0 (l.map dr),cm [aG z]]=some (.tuple [],[.arr 3 0 ((l.set a { p with dM:=z+1 }).map dr),cm [aG z]]):=by
 refine aJ ?_;simp only[Yt,aiO,h,hz,dU,gx,ar,aE,ub l a p _ 2 _ (TI p (z+1)),EW,seval]
def aki{l:List Piece}{a:Nat}{p:Piece}(h:l[a]?=some p)(z:Int)(hz:IntKind.i64.wrap (p.dM+1)=p.dM+1):aq c9 205 [.iu 0 0 a 0,cL 1] [.arr 3 0 (l.map dr),cm [aG z]]=some (.tuple [],[.arr 3 0 ((l.set a ⟨p.aU,z,p.dM+1⟩).map dr),cm [aG z]]):=by
 refine aJ ?_;have ha:=(aC.1 h).1;have h2:(l.set a { p with group:=z })[a]?=some { p with group:=z }:=eA ha
 have hc:(dr p).cells[2]?=some (aG p.dM):=rfl;simp only[YG,aiS,h,h2,hz,dU,gx,cR,ar,aE,ub l a p _ 1 _ (ah4 p z),ub _ a { p with group:=z } _ 2 _ (TI { p with group:=z } (p.dM+1)),List.set_set,EW,seval]
def zZ{g:Nat}{l l':List Piece}{a:Nat}(ha:a<l.length)(hn:l.length<=16)(z:Int)
  (hg:aq c9 g [.iu 0 0 a 0,cL 1] [.arr 3 0 (l.map dr),cm [aG z]]=some (.tuple [],[.arr 3 0 (l'.map dr),cm [aG z]])) :
  aq fR 158 [bI l,aG a,.func g [cL 0]] [cm [aG z]]=some (.dk 1 0 3 0 l.length,[cm [aG z],.arr 3 0 (l'.map dr)]):=by
 refine gF (g:=KS (aq c9) LF 1) rfl (Vy rfl ?_ rfl);have q1:=LL (f:=145) (sz:=3) (bytes:=32) dr rfl (fun _=>rfl) (by omega) (l:=l) (fun e=>by subst e; simp at ha) (by omega) [cm [aG z]]
 have q2:aM (aq c9) g [.iu 1 0 a 0,cL 0] [cm [aG z],.arr 3 0 (l.map dr)]=some (.tuple [],[cm [aG z],.arr 3 0 (l'.map dr)]):=lP (ids:=[1,0]) rfl rfl (adh _ z) rfl rfl hg rfl rfl rfl rfl rfl;have g1:((a:Int)<((l.length:Nat):Int))=True:=AE;simp only[av,aH,aQ,aX,aY] at q1;simp only[LF,aiM,q1,q2,g1,bV,fD,bh,aQ,av,aH,EW,seval]
def alA(l:List Piece)(hn:l.length<=16)(hp:∀p,p∈l->p.aU.length<=100000)(s:Bytes)(hs:s.length<=100000):∃r:List Int,r.length=kE l s/\∀M,aM (aq fR) 225 [bI l,.str s] M=some (lQ r,M):=by
 have q1:=QD s hs;have hk:aM (aq fR) 128 [bI l,.func 251 [cL 0]] [cm [.str s]]=some (lQ (lI (fun p=>jM s p.aU) l 0),[cm [.str s]]):=lP (ids:=[0]) rfl rfl (Mo s) rfl rfl (afD l s (by omega) hp hs) rfl rfl rfl rfl rfl
 by_cases h:(bz s).2=0
 ·refine⟨lI (fun p=>jM s p.aU) l 0,zL _ _ _,fun M=>cO (aJ ?_) M⟩
  simp only[Qk,ad4,q1,h,hk,EW,seval]
 ·have hb:((bz s).2 != 0)=true:=by simpa using h
  refine⟨[],?_,fun M=>cO (aJ ?_) M⟩
  ·refine(List.countP_eq_zero.2 fun p _ ha=>h (ng.1 ha).1).symm
  ·simp only[Qk,ad4,q1,hb,aE,EW,seval];rfl
def k64{l:List Piece}(hl:jV l)(s:Bytes)(hs:s.length<=100000)(M:aL):aM (aq fR) 64 [bI l,.str s] M=some (.tuple [aG (GJ l s).1,aG (GJ l s).2],M) :=
 cO (c64 hl hl.Ou s hs) M
def wr1{e:Int}(h1:1<=e)(h2:e<=1099511627776):IntKind.i64.wrap (e+1)=e+1:=gD (by omega) (by omega)
def c91{l:List Piece}(hl:jV l)(s:Bytes)(hs:s.length<=100000)(to:Int):aq fR 91 [bI l,.str s,aG to] []=some (.tuple [bI (uO l s to).1,aG (uO l s to).2],[]):=by
 refine aJ ?_;have hm:=hl.many;have q1:=fun M=>lS (aa7 to M)
 have q2:=k64 hl s hs;have q3:=fun M=>lS (aa8 l s (qS l s) (hl.low s) (by omega) M)
 have hgb:NA to=mB to:=rfl;rw[hgb] at q1;unfold uO;rw[vd s hl.jx];unfold GJ at q2;cases hg:mB to<;>rw[hg] at q1
 ·simp only[HE,E91,q1,aE,EW,seval]
 simp only[Bool.true_eq_false,aw]
 by_cases he:(bz s).2=0
 ·have cu:=hl.r8 he;have hok:=(hl.ok _ (qh cu)).2;rw[az he] at q2;have hb:((bz s).2 != 0)=false:=by simp[he]
  simp only[hb,af,aw];cases hi:uk (fun x=>Lib.compareBytes x.aU s==0) l (qS l s)<;>rw[hi] at q3
  ·simp only[af,aw];have hx:=qV cu;cases h1:decide ((16:Int)<=l.length)
   ·cases h2:decide (1099511627776<=(mJ l (dj l s)).dM)
    ·have hne:l≠[]:=fun e=>by subst e; simp at cu
     have h2':¬1099511627776<=(mJ l (dj l s)).dM:=by simpa using h2
     have hw:=wr1 hok.2.2.1 hok.2.2.2;have hc:=zZ (g:=159) cu hm ((mJ l (dj l s)).dM+1) (aj0 hx _);have hbl:(mV l (dj l s) ((mJ l (dj l s)).dM+1)).length=l.length:=by simp[mV]
     have hlow:qS (mV l (dj l s) ((mJ l (dj l s)).dM+1)) s=qS l s:=EF s (xl _ _ _);have hle:=WL l s;have hb2:l.set (dj l s) { mJ l (dj l s) with dM:=(mJ l (dj l s)).dM+1 }=mV l (dj l s) ((mJ l (dj l s)).dM+1):=rfl
     rw[hb2] at hc;have hI:=lS' (Qr (f:=160) (sz:=3) (bytes:=32) dr rfl (by omega) (l:=mV l (dj l s) ((mJ l (dj l s)).dM+1)) (b:=qS l s) (id:=1) (v:=0) (by omega) (by omega) (.agg [.str s,aG to,aG ((mJ l (dj l s)).dM+1)]) rfl [cm [aG ((mJ l (dj l s)).dM+1)],.arr 3 0 ((mV l (dj l s) ((mJ l (dj l s)).dM+1)).map dr)] rfl)
     rw[hbl] at hI;have hT:=Vz dr (l:=mV l (dj l s) ((mJ l (dj l s)).dM+1)) (b:=qS l s) (by omega) ⟨s,to,(mJ l (dj l s)).dM+1⟩
     rw[hbl] at hT;have hins:=LW ⟨s,to,(mJ l (dj l s)).dM+1⟩ (mV l (dj l s) ((mJ l (dj l s)).dM+1));simp only at hins;rw[hlow] at hins;rw[<-hins] at hT;simp only[dr,cR] at hT;have g0:(((dj l s:Nat):Int)<0)=False:=by simp
     generalize mV l (dj l s) ((mJ l (dj l s)).dM+1)=B at hc hI hT hins ⊢;simp only[HE,E91,q1,q2,q3,h1,h2,hx,hw,hc,hI,hT,g0,dU,gx,cR,bh,dI,af,aw,aE,EW,seval]
    ·have g0:(((dj l s:Nat):Int)<0)=False:=by simp
     simp only[HE,E91,q1,q2,q3,h1,h2,hx,g0,dU,gx,cR,bh,dJ,af,aw,aE,EW,seval]
   ·simp only[HE,E91,q1,q2,q3,h1,dK,af,aw,aE,EW,seval]
  ·simp only[HE,E91,q1,q2,q3,aE,EW,seval]
 ·have hb:((bz s).2 != 0)=true:=by simpa using he
  rw[ak he] at q2;simp only[HE,E91,q1,q2,hb,aE,EW,seval]
end
end Go.Proofs.YtcbopkblmebjiaaGreatDoor
namespace Go.Proofs.YtcbopkblmebjiaaGreatDoor
open Go Go.Abs
def S2(a b:Int):(if a<b then b else a)=max a b:=by
 rw[Int.max_def]
 by_cases h:a<b
 ·rw[az h,az (by omega)]
 ·rw[ak h];split
  ·omega
  ·rfl
def LY{s:Bytes}(h:(bz s).2=0)(hne:s≠[47]):(bz (fC s).2.1).2=0:=by
 obtain⟨h1,h2⟩:=lB s;unfold fC
 have hl:(bz s).1≠[]:=fun e=>hne (by
  have:bz s=([],0):=fF e h;rw[uX this]; rfl)
 have h0:(((bz s).1.length:Int)==0)=false:=by
  rw[bM]; intro e;exact hl (ct.1 (by omega))
 rw[ak (by simp[h,h0])]
 simp only;rw[rh,ke (fun x hx=>h1 x (dn hx)) (by simp; omega)]
section
attribute [local irreducible] fS fp kH gK dv kr aq aM cv bJ
def Et{l:List Piece}(hl:jV l){s:Bytes}(hi:uk (fun x=>Lib.compareBytes x.aU s==0) l (qS l s)=true):rn l s=some (qS l s):=by rw[vd s hl.jx,az hi]
def ajU{l:List Piece}(hl:jV l)(s:Bytes)(hs:s.length<=100000)(to:Int):aq fR 150 [bI l,.str s,aG to] []=some (.tuple [bI (mY l s to).1,aG (mY l s to).2],[]):=by
 refine aJ ?_;have hm:=hl.many;have q1:=fun M=>lS (aa7 to M)
 have q2:=QD s hs;have q3:=fun M=>lS (aa8 l s (qS l s) (hl.low s) (by omega) M)
 have hgb:NA to=mB to:=rfl;rw[hgb] at q1;have hso:=fun hi=>Et hl (s:=s) hi
 unfold mY;rw[vd s hl.jx];cases hg:mB to<;>rw[hg] at q1
 ·simp only[CI,O6,q1,aE,EW,seval]
 simp only[Bool.true_eq_false,aw];cases hb:(bz s).2 != 0
 ·simp only[af,aw];cases hi:uk (fun x=>Lib.compareBytes x.aU s==0) l (qS l s)<;>rw[hi] at q3
  ·simp only[CI,O6,q1,q2,q3,hb,af,aw,EW,seval]
  ·obtain⟨p,hx,hps⟩:=pA (hso hi);have cu:=(aC.1 hx).1;have hat:mJ l (qS l s)=p:=by unfold mJ; rw[hx]; rfl
   have hok:=(hl.ok _ (aR hx)).2;simp only[aE,hat];have g0:(((qS l s:Nat):Int)<0)=False:=by simp
   cases h2:decide (1099511627776<=p.dM)
   ·have h2':¬1099511627776<=p.dM:=by simpa using h2
    have hc:=zZ (g:=205) cu hm to (aki hx to (wr1 hok.2.2.1 hok.2.2.2));have hT:List.take l.length ((l.set (qS l s) ⟨p.aU,to,p.dM+1⟩).map dr)=(l.set (qS l s) ⟨s,to,p.dM+1⟩).map dr:=by rw[hps]; exact ck (by simp)
    rw[ak h2'];simp only[CI,O6,q1,q2,q3,hb,h2,hx,hc,hT,g0,dU,gx,cR,bh,af,aw,aE,EW,seval]
   ·have h2':1099511627776<=p.dM:=by simpa using h2
    rw[az h2'];simp only[CI,O6,q1,q2,q3,hb,h2,hx,g0,dU,gx,cR,bh,af,aw,aE,EW,seval]
 ·simp only[CI,O6,q1,q2,hb,aE,af,aw,EW,seval]
def c93{l:List Piece}(hl:jV l)(s:Bytes)(hs:s.length<=100000):aq fR 93 [bI l,.str s] []=some (.tuple [bI (lR l s).1,aG (lR l s).2],[]):=by
 refine aJ ?_;have hm:=hl.many;have q2:=QD s hs;have q3:=fun M=>lS (aa8 l s (qS l s) (hl.low s) (by omega) M)
 have q4:=aa9 s hs;have q5:=k64 hl (fC s).2.1 (by have:=tv s hs; omega)
 have hso:=fun hi=>Et hl (s:=s) hi
 unfold lR;rw[vd s hl.jx];cases hb:(bz s).2 != 0
 rotate_left
 ·simp only[Ka,E93,q2,hb,aE,EW,seval]
 have hs0:(bz s).2=0:=by simpa using hb
 simp only[af,aw];cases hi:uk (fun x=>Lib.compareBytes x.aU s==0) l (qS l s)<;>rw[hi] at q3
 ·simp only[Ka,E93,q2,q3,hb,af,aw,EW,seval]
 obtain⟨p,hx,hps⟩:=pA (hso hi);have cu:=(aC.1 hx).1;generalize qS l s=b at q3 hx cu ⊢;cases b with
 |zero =>
  simp only[Ka,E93,q2,q3,hb,gh,aE,af,aw,EW,seval]
 |succ a =>
  have hne:s≠[47]:=fun e=>by
   obtain⟨p0,r,e0,h0⟩:=hl.fst;have:=hl.only (i:=a+1) (j:=0) hx (by rw[e0]; rfl) (by rw[hps,h0,e])
   omega
  have hlast:=LY hs0 hne;have hpar:=hl.r8 hlast;unfold GJ at q5;rw[az hlast] at q5;have hy:=qV hpar;have hok:=(hl.ok _ (aR hx)).2;have hok2:=(hl.ok _ (qh hpar)).2;have hat:mJ l (a+1)=p:=by unfold mJ; rw[hx]; rfl
  simp only[aE,hat];have g1:(((a+1:Nat):Int)==0)=false:=by rw[bM]; omega
  have g2:(((a+1:Nat):Int)<0)=False:=Gu;generalize dj l (fC s).2.1=c at *;have g3:(((c:Nat):Int)<0)=False:=by simp
  have g4:IntKind.i64.wrap (((a+1:Nat):Int)+1)=((a+1+1:Nat):Int):=by rw[gD (by omega) (by omega)]; omega
  generalize he:max p.dM (mJ l c).dM=e;have he2:=S2 p.dM (mJ l c).dM;rw[he] at he2;have hle:1<=e/\e<=1099511627776:=by rw[<-he,Int.max_def]; split<;>omega
  cases h2:decide (1099511627776<=e)
  ·have h2':¬1099511627776<=e:=by simpa using h2
   have hc:=zZ (g:=162) hpar hm e (aj2 hy e (wr1 hle.1 hle.2));have hb2:l.set c { mJ l c with dM:=e+1 }=mV l c (e+1):=rfl
   rw[hb2] at hc;have hbl:(mV l c (e+1)).length=l.length:=by simp[mV]
   have hD:=lS' (Qq (f:=163) (sz:=3) dr rfl (l:=mV l c (e+1)) (b:=a+1) (id:=1) (v:=0) (by omega) (by omega) [cm [aG e],.arr 3 0 ((mV l c (e+1)).map dr)] rfl)
   have hT:=Ve dr (l:=mV l c (e+1)) (b:=a+1) (by omega)
   rw[hbl] at hD hT;rw[ak h2'];generalize mV l c (e+1)=B at hc hD hT ⊢;simp only[Ka,E93,q2,q3,q4,q5,hb,h2,hx,hy,g1,g2,g3,g4,he2,hc,hD,hT,dU,gx,cR,bh,af,aw,aE,EW,seval]
   trace_state
  ·have h2':1099511627776<=e:=by simpa using h2
   rw[az h2'];simp only[Ka,E93,q2,q3,q4,q5,hb,h2,hx,hy,g1,g2,g3,he2,dU,gx,cR,bh,af,aw,aE,EW,seval]
end
def KU(s:Bytes):List Piece->Nat->Int
 | [],_ => -1
 |p::r,i=>if p.aU==s then (i:Int) else KU s r (i+1)
def BV(s:Bytes):∀(l:List Piece)(i:Nat),KU s l i=match rn l s with
  |some a=>((i+a:Nat):Int)
  |none => -1
 | [],i=>rfl
 |p::r,i=>by
  have ih:=BV s r (i+1);unfold rn at ih ⊢;rw[KU,List.findIdx?_cons];split
  ·rfl
  ·rw[ih];cases r.findIdx? fun p=>p.aU==s with
   |none=>rfl
   |some a=>exact congrArg (fun n:Nat=>(n:Int)) (show i+1+a=i+(a+1) by omega)
section
attribute [local irreducible] fS fp kH gK dv kr aq aM cv bJ
def NU(s:Bytes)(hs:s.length<=100000)(M:aL):aM (aq c9) 67 [.str s] M=some (.tuple [fO (bz s).1,aG (bz s).2],M):=by
 rw[<-ud]; exact k67 s hs M
def k68(a b:Bytes)(ha:a.length<=100000)(hb:b.length<=100000)(M:aL):aM (aq c9) 68 [.str a,.str b] M=some (.bool (jM a b),M):=by
 refine cO (aJ ?_) M;have q1:=NU a ha;have q2:=NU b hb;unfold jM;have hx1:=(lB a).2;generalize bz a=x at q1 hx1 ⊢;generalize bz b=y at q2 ⊢;obtain⟨x,e⟩:=x;obtain⟨y,e'⟩:=y;simp only at q1 q2 hx1 ⊢;cases h1:e==0
 ·have h1':(e != 0)=true:=by simpa using h1
  simp only[Qn,ZQ,q1,q2,h1',cf,EW,seval]
 have h1':(e != 0)=false:=by simpa using h1
 cases h2:e'==0
 ·have h2':(e' != 0)=true:=by simpa using h2
  simp only[Qn,ZQ,q1,q2,h1',h2',cf,dL,EW,seval]
 have h2':(e' != 0)=false:=by simpa using h2
 by_cases h3:y.length<x.length
 ·have h3':((y.length:Int)<(x.length:Int))=True:=AE
  have hp:x.isPrefixOf y=false:=by
   rw[mf]; intro hc;have:=(iX.1 hc).length_le;omega
  simp only[Qn,ZQ,q1,q2,h1',h2',h3',hp,aI,dL,EW,seval]
 ·have h3':((y.length:Int)<(x.length:Int))=False:=Gu;simp only[Qn,ZQ,q1,q2,h1',h2',h3',aI,bQ,EW,seval];refine gG (xs:=x) (by omega) (fun i (ys:List Bytes)=>ys=y.drop i) (fun post ys=>post.isPrefixOf ys) (fun _ i=>[(5,fO x),(7,fO y),(9,aG i)]) (fun _=>[]) (fun b=>some (ag.bool b,([]:aL))) (fun ys hy=>?_) (fun pre z post ys hh hz cu hw h0 hm hy hi=>?_) y rfl
  ·simp only[ZQ,aI,bg,List.isPrefixOf,EW,seval]
  ·have hl:pre.length<y.length:=by have:=congrArg List.length hh; simp at this; omega
   have hy2:=aj hl;have hys:ys=y[pre.length]::y.drop (pre.length+1):=by rw[hy]; exact(cC hl)
   subst hys;have i1:=hi (y.drop (pre.length+1)) rfl;rw[List.isPrefixOf];cases hc:z==y[pre.length]
   ·have hc':(z != y[pre.length])=true:=by simpa using hc
    simp only[ZQ,aI,cu,hz,hy2,hw,h0,hc',cf,EW,seval]
   ·have hc':(z != y[pre.length])=false:=by simpa using hc
    simp only[bQ];simp only[ZQ,aI,cu,hz,hy2,hw,h0,hc',EW,seval];exact i1
def aba(l:List Piece)(hn:l.length<=1000)(s:Bytes)(M:aL):aM (aq c9) 206 [bI l,.str s] M=some (aG (KU s l 0),M):=by
 refine cO (aJ ?_) M;simp only[YH,UF,EW,seval];refine gG (xs:=l) (by omega) (fun i (k:Nat)=>k=i) (fun post k=>KU s post k) (fun _ i=>[(0,bI l),(1,.str s),(5,aG i)]) (fun _=>[]) (fun z=>some (AValiZq z,([]:aL))) (fun k hk=>?_) (fun pre x post k hh hx cu hw h0 hm hk hi=>?_) 0 rfl
 ·simp only[UF,aI,bg,KU,EW,seval]
 ·subst hk;have i1:=hi (pre.length+1) rfl;rw[KU];cases hc:x.aU==s
  ·simp only[af,aw];simp only[UF,aI,cu,hx,hw,h0,hc,dU,gx,cR,EW,seval];exact i1
  ·simp only[UF,aI,cu,hx,hw,h0,hc,dU,gx,cR,aE,EW,seval]
def k25{l:List Piece}(hl:jV l)(s:Bytes)(hs:s.length<=100000)(M:aL):aM (aq c9) 25 [bI l,.str s] M=some (.tuple [aG (GJ l s).1,aG (GJ l s).2],M):=by
 refine cO (aJ ?_) M;have q1:=NU s hs;have hm:=hl.many;unfold GJ
 by_cases he:(bz s).2=0
 rotate_left
 ·have h60:(bz s).2=60:=by rcases vI s with h|h<;>rw[h] at he ⊢; exact absurd rfl he
  have hb:((bz s).2 != 0)=true:=by simpa using he
  rw[ak he];simp only[aaF,E25,q1,hb,h60,EW,seval]
 rw[az he];have hof:=KF hl he;unfold ofD at hof;rw[ak (by rw[ud]; simp[he])] at hof
 injection hof with hof _
 rw[<-hof];have hb:((bz s).2 != 0)=false:=by simp[he]
 obtain⟨p0,r0,hl0,_⟩:=hl.fst;have hpos:0<l.length:=by rw[hl0]; simp
 simp only[aaF,E25,q1,hb,EW,seval];refine gG (xs:=l) (by omega) (fun i (b:Nat×Nat)=>b.1=i/\b.2<l.length) (fun post b=>yh l s post b.1 b.2) (fun b i=>[(0,bI l),(1,.str s),(8,aG b.2),(9,aG i)]) (fun _=>[]) (fun(z:Nat)=>some (ag.tuple [aG z,aG 0],([]:aL))) (fun b hb=>?_) (fun pre x post b hh hx cu hw h0 hm hb hi=>?_) (0,0) ⟨rfl,hpos⟩
 ·simp only[E25,aI,bg,yh,EW,seval]
 ·obtain⟨i,b⟩:=b;obtain⟨hb1,hb2⟩:=hb;simp only at hb1 hb2;subst hb1;have q2:=k68 x.aU s (hl.Ou x hm) hs;have hy:=qV hb2;have hlt':pre.length<l.length:=by have:=congrArg List.length hh; simp at this; omega
  rw[yh];have hab:UQ x.aU s=jM x.aU s:=Ld _ _;rw[hab];have g0:((b:Int)<0)=False:=by simp
  cases hc:jM x.aU s<;>rw[hc] at q2
  ·have i1:=hi (pre.length+1,b) ⟨rfl,hb2⟩;simp only[cf,af,aw];simp only[E25,aI,cu,hx,hw,h0,q2,dU,gx,cR,EW,seval];exact i1
  ·cases hd:decide (((mJ l b).aU.length:Int)<=x.aU.length)
   ·have i1:=hi (pre.length+1,b) ⟨rfl,hb2⟩;simp only[bQ,af,aw];simp only[E25,aI,cu,hx,hw,h0,q2,hy,g0,hd,dU,gx,cR,bh,EW,seval];exact i1
   ·have i1:=hi (pre.length+1,pre.length) ⟨rfl,hlt'⟩;simp only[bQ,aE];simp only[E25,aI,cu,hx,hw,h0,q2,hy,g0,hd,dU,gx,cR,bh,EW,seval];exact i1
def ag8{l:List Piece}(hl:jV l)(s:Bytes)(hs:s.length<=100000):∃r:List Int,r.length=kE l s/\∀M,aM (aq c9) 208 [bI l,.str s] M=some (lQ r,M):=by
 have q1:=NU s hs;have hm:=hl.many
 by_cases he:(bz s).2=0
 ·refine⟨lI (fun p=>jM s p.aU) l 0,zL _ _ _,fun M=>cO (aJ ?_) M⟩
  simp only[LH,Jk,q1,he,zt,AD,EW,seval];refine gG (xs:=l) (by omega) (fun i (b:Int×List Int)=>b.1=(i:Int)/\b.2.length<=i) (fun post b=>b.2++lI (fun p=>jM s p.aU) post b.1) (fun b i=>[(0,bI l),(1,.str s),(5,.slice (.own 0) (b.2.map mr)),(7,aG 0),(8,aG i)]) (fun b=>[.tick 1 b.2.length]) (fun r=>some (lQ r,[])) (fun b hb=>?_) (fun pre x post b hh hx cu hw h0 hm hb hi=>?_) (0,[]) ⟨rfl,ar _⟩
  ·simp only[Jk,aI,bg,lI,bW,EW,seval]
  ·obtain⟨i,out⟩:=b;obtain⟨hb1,hb2⟩:=hb;simp only at hb1 hb2;subst hb1;have hlt':pre.length<l.length:=by have:=congrArg List.length hh; simp at this; omega
   have q2:=k68 s x.aU hs (hl.Ou x hm);have r1:dQ (out.length+1) 8=True:=xR;rw[lI];cases hc:jM s x.aU<;>rw[hc] at q2
   ·have i1:=hi ((pre.length:Int)+1,out) ⟨by simp,by simp only; omega⟩
    simp only[af,aw];simp only[Jk,aI,cu,hx,hw,h0,q2,dU,gx,cR,BEq.rfl,EW,seval];exact i1
   ·have i1:=hi ((pre.length:Int)+1,out++[(pre.length:Int)]) ⟨by simp,by simp; omega⟩
    simp only[bC,aW,bp,aK,av,aH,aQ,da,aX,aY] at i1;simp only[aE];simp only[Jk,aI,cu,hx,hw,h0,q2,r1,zE,dU,gx,cR,BEq.rfl,EW,seval];exact i1
 ·have hb:((bz s).2==0)=false:=by simpa using he
  refine⟨[],(List.countP_eq_zero.2 fun p _ ha=>he (ng.1 ha).1).symm,fun M=>cO (aJ ?_) M⟩
  simp only[LH,Jk,q1,zt,AD,EW,seval];rw[bZ]
  by_cases hp:(0:Int)<l.length
  ·simp only[Jk,aI,hp,hb,EW,seval];rfl
  ·simp only[Jk,aI,hp,hb,EW,seval];rfl
def k29(g:Int)(M:aL):aM (aq c9) 29 [aG g] M=some (bI (py g),M):=by
 refine cO (aJ ?_) M;simp only[agc,E29,EW,seval];rfl
def I8(l:List Piece):wid (l.map dr) 3=True:=mG dr _ (fun _=>rfl) l
def akU(a b:Bytes):(!(strLt a b||a==b))=strLt b a:=by
 rcases qN a b with h|h|h
 ·rw[h,rV h]; rfl
 ·subst h; simp[iq]
 ·have hne:(a==b)=false:=by rw[bM]; rintro rfl; rw[iq] at h; cases h
  rw[h,rV h,hne]; rfl
def Vc(p:Piece)(own:Nat)(s:Nat×List Piece×Bool)(x:Piece):(nk p own s x).2.1.length<=s.2.1.length+2:=by
 unfold nk;simp only;split<;>simp
def ajV{l:List Piece}(hl:jV l)(s:Bytes)(hs:s.length<=100000)(to:Int):aq c9 151 [bI l,.str s,aG to] []=some (.tuple [bI (uO l s to).1,aG (uO l s to).2],[]):=by
 refine aJ ?_;have hm:=hl.many;have q1:=k25 hl s hs;have q2:=aba l (by omega) s
 rw[BV] at q2;unfold uO;unfold GJ at q1
 by_cases hg1:0<=to
 rotate_left
 ·have e:mB to=false:=by simp[mB]; intro h; exact absurd h hg1
  have e1:(to<0)=True:=AE;rw[az e];simp only[zh,DG,e1,EW,seval]
 have e1:(to<0)=False:=Gu
 by_cases hg2:to<8
 rotate_left
 ·have e:mB to=false:=by simp[mB]; intro h; omega
  have e2:(8<=to)=True:=AE;rw[az e];simp only[zh,DG,e1,e2,EW,seval]
 have e2:(8<=to)=False:=Gu;have e:mB to=true:=by simp[mB,hg1,hg2]
 rw[ak (by simp[e])]
 by_cases he:(bz s).2=0
 rotate_left
 ·have hb:((bz s).2 != 0)=true:=by simpa using he
  rw[ak he] at q1;rw[az hb];simp only[zh,DG,e1,e2,q1,hb,EW,seval]
 have hb:((bz s).2 != 0)=false:=by simp[he]
 rw[az he] at q1;rw[ak (by simp[hb])]
 have cu:=hl.r8 he;have hx0:=qV cu;have hok:=(hl.ok _ (qh cu)).2;have hrow:=fun p hn he=>Ni (p:=p) hl hn he cu
 generalize dj l s=own at *;have g0:(((own:Nat):Int)<0)=False:=by simp
 cases hp:rn l s with
 |some a =>
  rw[hp] at q2;have g1:((0:Int)<=((0+a:Nat):Int))=True:=by simp
  simp only at q2 ⊢;simp only[zh,DG,e1,e2,q1,q2,g1,an,EW,seval]
 |none =>
  rw[hp] at q2;have hne:=Dm hp;simp only at q2 ⊢;cases h1:decide ((16:Int)<=l.length)
  rotate_left
  ·simp only[zh,DG,e1,e2,q1,q2,h1,an,aI,dK,aE,EW,seval]
  cases h2:decide (1099511627776<=(mJ l own).dM)
  rotate_left
  ·simp only[zh,DG,e1,e2,q1,q2,h1,h2,hx0,g0,dU,gx,cR,bh,an,aI,dJ,aE,EW,seval]
  have h2':(mJ l own).dM<1099511627776:=by simpa using h2
  have hw1:=wr1 hok.2.2.1 hok.2.2.2;rw[<-hrow ⟨s,to,(mJ l own).dM+1⟩ hne h2'];simp only[zh,DG,e1,e2,q1,q2,h1,h2,hx0,g0,hw1,zt,AD,dU,gx,cR,bh,an,aI,dI,af,aw,EW,seval];generalize (mJ l own).dM+1=ep;unfold PI
  refine gG (xs:=l) (by omega) (fun i (S:Nat×List Piece×Bool)=>S.1=i/\S.2.1.length<=2*i) (fun post S=>post.foldl (nk ⟨s,to,ep⟩ own) S) (fun S i=>[(0,bI l),(1,.str s),(8,aG own),(10,cL 0),(11,.slice (.own 1) (S.2.1.map dr)),(12,.bool S.2.2),(13,aG i)])
   (fun S=>[cm [.str s,aG to,aG ep],.tick 3 S.2.1.length]) (fun S=>some (ag.tuple [bI (if S.2.2 then S.2.1 else S.2.1++[⟨s,to,ep⟩]),aG 0],([]:aL))) (fun S hS=>?_) (fun pre x post S hh hx cu hw hz hmm hS hi=>?_) (0,[],false) ⟨rfl,ar _⟩
  ·obtain⟨i,out,done⟩:=S;obtain⟨_,hS⟩:=hS;simp only at hS;have r1:dQ (out.length+1) 32=True:=xR;cases done
   ·simp only[DG,aI,bg,r1,gS,af,aw,I8,EW,seval];simp only[bI,bC,aW,bp];rfl
   ·simp only[DG,aI,bg,gS,aE,EW,seval]
  ·obtain⟨i,out,done⟩:=S;obtain⟨hS1,hS⟩:=hS;simp only at hS1 hS;subst hS1;have hlt':pre.length<l.length:=by have:=congrArg List.length hh; simp at this; omega
   have i1:=hi (nk ⟨s,to,ep⟩ own (pre.length,out,done) x) ⟨rfl,by have:=Vc ⟨s,to,ep⟩ own (pre.length,out,done) x; simp only at this; omega⟩
   rw[bB];generalize hY:post.foldl (nk ⟨s,to,ep⟩ own) (nk ⟨s,to,ep⟩ own (pre.length,out,done) x)=Y at i1 ⊢;have r1:dQ (out.length+1) 32=True:=xR;have r2:dQ (out.length+1+1) 32=True:=xR;have hwP:=I8 out;have hwQ:wid (List.map dr out++[.agg [.str s,aG to,aG ep]]) 3=True:=by have:=I8 (out++[⟨s,to,ep⟩]); rw[bC] at this; exact this
   have hgt:=akU x.aU s;unfold nk at i1
   cases done<;>cases hc:strLt s x.aU<;>cases ho:((pre.length:Nat):Int)==(own:Int) <;>
    (first|(have ho2:(pre.length=own)=True:=eq_true (by (have:=ho; simp at this; omega)))|(have ho2:(pre.length=own)=False:=eq_false (by (have:=ho; simp at this; omega)))) <;>
    simp only[hc,ho2,aE,aw,cX,fV,cf,bQ,eX,dL,dK,dg,dI,dJ,gq,af,bC,aW,bp,aK,av,aH,aQ,dr,cR,mM] at i1 <;>
    simp only[DG,aI,cu,hx,hw,hz,hgt,hc,ho,r1,r2,hwP,hwQ,dU,gx,cR,EW,seval]<;>exact i1
def SF(s:Bytes):Ey s=fC s:=by
 unfold Ey fC;rw[ud];split
 ·rfl
 ·rename_i h;refine fF ?_ (fF ?_ rfl)
  ·simp only[fu,List.getLast?_eq_getElem?]
  ·simp only[CV,rh,List.dropLast_eq_take]
def QB(s:Bytes)(hs:s.length<=100000)(M:aL):aM (aq c9) 109 [.str s] M=some (.tuple [.str (fC s).1,.str (fC s).2.1,aG (fC s).2.2],M):=by
 rw[<-SF]; exact ak2 s hs M
def NQ(par at':Nat)(e:Int)(s:Nat×List Piece)(x:Piece):(p6 par at' e s x).2.length<=s.2.length+1:=by
 unfold p6;simp only;split<;>simp
def ajW{l:List Piece}(hl:jV l)(s:Bytes)(hs:s.length<=100000):aq c9 152 [bI l,.str s] []=some (.tuple [bI (lR l s).1,aG (lR l s).2],[]):=by
 refine aJ ?_;have hm:=hl.many;have q1:=NU s hs;have q2:=aba l (by omega) s
 rw[BV] at q2;have q3:=QB s hs;have q4:=k25 hl (fC s).2.1 (by have:=tv s hs; omega)
 unfold lR
 by_cases he:(bz s).2=0
 rotate_left
 ·have h60:(bz s).2=60:=by rcases vI s with h|h<;>rw[h] at he ⊢; exact absurd rfl he
  have hb:((bz s).2 != 0)=true:=by simpa using he
  rw[az hb,h60];simp only[CJ,Jg,q1,hb,EW,seval]
 have hb:((bz s).2 != 0)=false:=by simp[he]
 rw[ak (by simp[hb])]
 cases hp:rn l s with
 |none =>
  rw[hp] at q2;simp only at q2 ⊢;simp only[CJ,Jg,q1,q2,hb,Int.reduceLT,Int.reduceNeg,EW,seval]
 |some b =>
  rw[hp] at q2;obtain⟨p,hx,hps⟩:=pA hp;have g1:((b:Int)<0)=False:=Gu;simp only[aQ] at q2;cases b with
  |zero =>
   have h47:(s==[47])=true:=by
    obtain⟨p0,r,e0,h0⟩:=hl.fst;rw[e0] at hx; cases hx;rw[<-hps,h0]; rfl
   simp only;simp only[CJ,Jg,q1,q2,hb,g1,h47,EW,seval]
  |succ a =>
   have hne:s≠[47]:=fun e=>by
    obtain⟨p0,r,e0,h0⟩:=hl.fst;have:=hl.only (i:=a+1) (j:=0) hx (by rw[e0]; rfl) (by rw[hps,h0,e])
    omega
   have h47:(s==[47])=false:=by rw[bM]; exact hne
   have hlast:=LY he hne;have hpar:=hl.r8 hlast;unfold GJ at q4;rw[az hlast] at q4;have hy:=qV hpar;have hok:=(hl.ok _ (aR hx)).2;have hok2:=(hl.ok _ (qh hpar)).2;have hat:mJ l (a+1)=p:=by unfold mJ; rw[hx]; rfl
   have hrow:=fun e=>Ki l (dj l (fC s).2.1) (a+1) e
   simp only[hat];generalize dj l (fC s).2.1=c at *;have g3:(((c:Nat):Int)<0)=False:=by simp
   generalize hem:max p.dM (mJ l c).dM=e;have he2:=S2 p.dM (mJ l c).dM;rw[hem] at he2;have hle:1<=e/\e<=1099511627776:=by rw[<-hem,Int.max_def]; split<;>omega
   cases h2:decide (1099511627776<=e)
   rotate_left
   ·have h2':1099511627776<=e:=by simpa using h2
    rw[az h2'];simp only[CJ,Jg,q1,q2,q3,q4,hb,g1,g3,h47,hx,hy,he2,h2,dU,gx,cR,bh,EW,seval]
   ·have h2':¬1099511627776<=e:=by simpa using h2
    rw[ak h2'];rw[<-hrow (e+1)];have hw1:=wr1 hle.1 hle.2;simp only[CJ,Jg,q1,q2,q3,q4,hb,g1,g3,h47,hx,hy,he2,h2,zt,AD,dU,gx,cR,bh,EW,seval]
    refine gG (xs:=l) (by omega) (fun i (S:Nat×List Piece)=>S.1=i/\S.2.length<=i) (fun post S=>post.foldl (p6 c (a+1) (e+1)) S) (fun S i=>[(0,bI l),(8,aG ((a+1:Nat):Int)),(12,aG c),(14,aG e),(15,.slice (.own 0) (S.2.map dr)),(16,aG i)])
     (fun S=>[.tick 3 S.2.length]) (fun S=>some (ag.tuple [bI S.2,aG 0],([]:aL))) (fun S hS=>?_) (fun pre x post S hh hx cu hw hz hmm hS hi=>?_) (0,[]) ⟨rfl,ar _⟩
    ·simp only[Jg,aI,bg,gS,EW,seval]
    ·obtain⟨i,out⟩:=S;obtain⟨hS1,hS⟩:=hS;simp only at hS1 hS;subst hS1;have hlt':pre.length<l.length:=by have:=congrArg List.length hh; simp at this; omega
     have i1:=hi (p6 c (a+1) (e+1) (pre.length,out) x) ⟨rfl,by have:=NQ c (a+1) (e+1) (pre.length,out) x; simp only at this; omega⟩
     rw[bB];generalize hY:post.foldl (p6 c (a+1) (e+1)) (p6 c (a+1) (e+1) (pre.length,out) x)=Y at i1 ⊢;have r1:dQ (out.length+1) 32=True:=xR;have hwP:=I8 out;unfold p6 at i1
     cases ho:((pre.length:Nat):Int)==(c:Int)<;>cases hn:((pre.length:Nat):Int) != ((a+1:Nat):Int) <;>
      (first|(have ho2:(pre.length=c)=True:=eq_true (by (have:=ho; simp at this; omega)))|(have ho2:(pre.length=c)=False:=eq_false (by (have:=ho; simp at this; omega)))) <;>
      (first|(have hn2:(pre.length != a+1)=true:=by (have:=hn; simp at this ⊢; omega))|(have hn2:(pre.length != a+1)=false:=by (have:=hn; simp at this ⊢; omega))) <;>
      simp only[ho2,hn2,aE,aw,af,bC,aW,bp,aK,av,aH,aQ,dr,cR] at i1 <;>
      simp only[Jg,aI,cu,hx,hw,hz,ho,hn,hw1,r1,hwP,dU,gx,cR,EW,seval]<;>exact i1
end
end Go.Proofs.YtcbopkblmebjiaaGreatDoor
