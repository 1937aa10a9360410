import Derived.Test.YtahkjijkflobhaaGreatDoorFsuF
set_option linter.unusedSimpArgs false
set_option linter.unusedVariables false
set_option linter.unusedSectionVars false
set_option linter.defProp false
open Go.Proofs.Tryz
namespace Go.Proofs.YtahkjijkflobhaaGreatDoor
open Go Go.Abs
section
attribute [local irreducible] eV fZ je gK eo kr ar aU cA bH
def uQ(k:Int)(p:Bytes)(n h:Int)(hp:p.length<=1000):wL (yq k p n h):=⟨by simp[yq]; omega,by simp[yq],by simp[yq]⟩
set_option maxRecDepth 100000 in
def Gx:ar tb 10 [] []=some (.bool true,[]):=by
 obtain⟨e1,e2,e3,e4,e5,e6,e7,e8,e9,e10,e11,e12,e13,e14,e15,e16⟩:=facts;have sA:=pC fb0 (by omega) (yq 2 [47,100] 2 0)
 have sB:=pC sA (by omega) (yq 2 [47,100,47,102] 1 0)
 have sC:=pC sB (by omega) (yq 8 [47,100,47,102] 0 4)
 have sD:=pC sC (by omega) ⟨11,0,[],[],1,0,4,[7,8]⟩
 have sE:=pC sD (by omega) (yq 14 [47,100] 0 0)
 have sG:=pC sE (by omega) (yq 4 [47,100,47,102] 0 0)
 have sK:=pC sG (by omega) ⟨13,0,[47],[],1,10,0,[]⟩
 have sL:=pC sK (by omega) (yq 2 [47,101] 2 0)
 have sM:=pC sL (by omega) (yq 9 [] 0 4)
 have o3:∀(k n m h:Int)(p d:Bytes),p.length<=1000->d.length<=1000->wL ⟨k,0,p,[],n,m,h,d⟩:=fun k n m h p d hp hd=>⟨by simp only; omega,by simp,by simp only; omega⟩
 have qA:=fun M=>uU f0 (yq 2 [47,100] 2 0) fb0.ok (uQ _ _ _ _ (by decide)) M
 have qB:=fun M=>uU hA.1 (yq 2 [47,100,47,102] 1 0) sA.ok (uQ _ _ _ _ (by decide)) M
 have qC:=fun M=>uU hB.1 (yq 8 [47,100,47,102] 0 4) sB.ok (uQ _ _ _ _ (by decide)) M
 have qD:=fun M=>uU hC.1 ⟨11,0,[],[],1,0,4,[7,8]⟩ sC.ok (o3 _ _ _ _ _ _ (by decide) (by decide)) M
 have qE:=fun M=>uU hD.1 (yq 14 [47,100] 0 0) sD.ok (uQ _ _ _ _ (by decide)) M
 have qG:=fun M=>uU hE.1 (yq 4 [47,100,47,102] 0 0) sE.ok (uQ _ _ _ _ (by decide)) M
 have qH:=fun M=>uU hG.1 ⟨10,0,[],[],0,9,4,[]⟩ sG.ok (o3 _ _ _ _ _ _ (by decide) (by decide)) M
 have qI:=fun M=>uU hG.1 (yq 15 [47,102] 1 0) sG.ok (uQ _ _ _ _ (by decide)) M
 have qJ:=fun M=>uU hG.1 (yq 1 [47,100,47,102] 0 0) sG.ok (uQ _ _ _ _ (by decide)) M
 have qK:=fun M=>uU hG.1 ⟨13,0,[47],[],1,10,0,[]⟩ sG.ok (o3 _ _ _ _ _ _ (by decide) (by decide)) M
 have qL:=fun M=>uU hK.1 (yq 2 [47,101] 2 0) sK.ok (uQ _ _ _ _ (by decide)) M
 have qM:=fun M=>uU hL.1 (yq 9 [] 0 4) sL.ok (uQ _ _ _ _ (by decide)) M
 have qN:=fun M=>uU hM.1 (yq 99 [] 0 0) sM.ok (uQ _ _ _ _ (by decide)) M
 have q20:=fun M=>lE (k20 M)
 have qr:=fun M=>lE (cO ZQ M)
 have qz:=fun M=>lE (cO ZR M)
 have qs:=fun M=>lE (cO agH M)
 change ∀M,aU (ar tb) 14 _ M=some (.tuple [.agg (ck hA.1),.agg (cQ hA.2)],M) at qA;change ∀M,aU (ar tb) 14 _ M=some (.tuple [.agg (ck hB.1),.agg (cQ hB.2)],M) at qB;change ∀M,aU (ar tb) 14 _ M=some (.tuple [.agg (ck hC.1),.agg (cQ hC.2)],M) at qC;change ∀M,aU (ar tb) 14 _ M=some (.tuple [.agg (ck hD.1),.agg (cQ hD.2)],M) at qD;change ∀M,aU (ar tb) 14 _ M=some (.tuple [.agg (ck hE.1),.agg (cQ hE.2)],M) at qE;change ∀M,aU (ar tb) 14 _ M=some (.tuple [.agg (ck hG.1),.agg (cQ hG.2)],M) at qG;change ∀M,aU (ar tb) 14 _ M=some (.tuple [.agg (ck hH.1),.agg (cQ hH.2)],M) at qH;change ∀M,aU (ar tb) 14 _ M=some (.tuple [.agg (ck hI.1),.agg (cQ hI.2)],M) at qI;change ∀M,aU (ar tb) 14 _ M=some (.tuple [.agg (ck hJ.1),.agg (cQ hJ.2)],M) at qJ;change ∀M,aU (ar tb) 14 _ M=some (.tuple [.agg (ck hK.1),.agg (cQ hK.2)],M) at qK;change ∀M,aU (ar tb) 14 _ M=some (.tuple [.agg (ck hL.1),.agg (cQ hL.2)],M) at qL;change ∀M,aU (ar tb) 14 _ M=some (.tuple [.agg (ck hM.1),.agg (cQ hM.2)],M) at qM;change ∀M,aU (ar tb) 14 _ M=some (.tuple [.agg (ck hN.1),.agg (cQ hN.2)],M) at qN;generalize hA=A,hB=B,hC=C,hD=D,hE=E,hG=G,hH=H,hI=I,hJ=J,hK=K,hL=L,hM=N,hN=O at *;clear sA sB sC sD sE sG sK sL sM;refine az ?_;have u0:pU 0 = .int .u8 0:=rfl;have u7:pU 7 = .int .u8 7:=rfl;have u8':pU 8 = .int .u8 8:=rfl;simp only[ck,cQ,eA,yq,sn,cR,aP,a8,u7,u8'] at qA qB qC qD qE qG qH qI qJ qK qL qM qN q20 qr qz qs ⊢;simp only[adN,E10,q20,qA,qB,qC,qD,qE,qG,qH,qI,qJ,qK,qL,qM,qN,qr,qz,qs,e1,e2,e3,e4,e5,e6,e7,e8,e9,e10,e11,e12,e13,e14,e15,e16,u0,u7,u8',EW,seval]
def zo{α β:Type}{a:List α}{b:List β}(h:a.length=b.length){i:Nat}{x:α}(hx:a[i]?=some x):∃y,b[i]?=some y/\((i:Int)<(b.length:Int))=True:=by
 have hi:=(aq.1 hx).1;exact⟨b[i]'(by omega),ai _,by simp; omega⟩
def Dy{a b:Nat}:((a:Int) != (b:Int))=false->a=b:=by intro h; simp at h; omega
def aqi(s u:gh)(hs:Rt s.now)(hp:s.dz.length<=90000)(hl:s.since.length<=100000)(hk:s.cf.length<=16)(he:∀p,p∈s.dz->Gb p.node):∃b,ar bN 33 [.agg (bo s),.agg (bo u)] []=some (.bool b,[]):=by
 have key:∃r:ag×aG,(∃b:Bool,r=(.bool b,[]))/\eV (ar bN) Db.results 0 [] Db.body (fe 0 [.agg (bo s),.agg (bo u)]) []=some r:=by
  have h200:=hs.sz.ae;have qs:=fun M=>k95 s.now u.now (by omega) (fun n hn=>by have:=(hs.PD hn).1; omega) M
  generalize decide (s.now=u.now)=b0 at qs;cases b0
  case false =>
   simp only[Db,Ew,bo,qs,EW,seval];exact⟨_,⟨_,rfl⟩,rfl⟩
  cases b1:s.tick != u.tick
  case true =>
   simp only[Db,Ew,bo,qs,b1,EW,seval];exact⟨_,⟨_,rfl⟩,rfl⟩
  cases b2:s.next != u.next
  case true =>
   simp only[Db,Ew,bo,qs,b1,b2,EW,seval];exact⟨_,⟨_,rfl⟩,rfl⟩
  cases b3:(s.since.length:Int) != (u.since.length:Int)
  case true =>
   simp only[Db,Ew,bo,qs,b1,b2,b3,EW,seval];exact⟨_,⟨_,rfl⟩,rfl⟩
  cases b4:(s.dz.length:Int) != (u.dz.length:Int)
  case true =>
   simp only[Db,Ew,bo,qs,b1,b2,b3,b4,EW,seval];exact⟨_,⟨_,rfl⟩,rfl⟩
  cases b5:(s.cf.length:Int) != (u.cf.length:Int)
  case true =>
   simp only[Db,Ew,bo,qs,b1,b2,b3,b4,b5,EW,seval];exact⟨_,⟨_,rfl⟩,rfl⟩
  simp only[Db,Ew,bo,qs,b1,b2,b3,b4,b5,EW,seval];refine gH (xs:=s.since) (by omega) (fun _ (_:Unit)=>True) (fun _ i=>[(2,b9 0),(3,b9 1),(5,aF i)]) (fun _=>[bT (bo s),bT (bo u)]) _ (fun _ _=>?_) (fun pre x post _ e hx cz hw h0 hm _ hi=>?_) () trivial
  ·simp only[bo];simp only[Ew,bw,EW,seval];refine gH (xs:=s.dz) (by omega) (fun _ (_:Unit)=>True) (fun _ i=>[(2,b9 0),(3,b9 1),(6,aF i)]) (fun _=>[bT (bo s),bT (bo u)]) _ (fun _ _=>?_) (fun pre x post _ e hx cz hw h0 hm _ hi=>?_) () trivial
   ·simp only[bo];simp only[Ew,bw,EW,seval];refine gH (xs:=s.cf) (by omega) (fun _ (_:Unit)=>True) (fun _ i=>[(2,b9 0),(3,b9 1),(9,aF i)]) (fun _=>[bT (bo s),bT (bo u)]) _ (fun _ _=>?_) (fun pre x post _ e hx cz hw h0 hm _ hi=>?_) () trivial
    ·simp only[bo];simp only[Ew,bw,EW,seval];exact⟨_,⟨_,rfl⟩,rfl⟩
    ·obtain⟨y,hy,hlt'⟩:=zo (Dy b5) hx;have i1:=hi () trivial;have eq:=Qt x y;have a1:=Gg x;have a2:=Gg y;simp only[gS] at eq a1 a2;generalize decide (x=y)=z at eq;simp only[bo] at i1 ⊢;cases z<;>simp only[Ew,cz,hx,hy,hlt',hw,h0,eq,a1,a2,j6,gS,EW,seval]<;>first|exact i1|exact⟨_,⟨_,rfl⟩,rfl⟩
   ·obtain⟨y,hy,hlt'⟩:=zo (Dy b4) hx;have i1:=hi () trivial;have qn:=fun M=>k96 x.node y.node (by have:=(he x hm).1; omega) M
    generalize decide (x.node=y.node)=z at qn;simp only[bo,aI] at i1 qn ⊢
    cases c1:x.jw != y.jw<;>cases c2:x.pT != y.pT<;>cases z <;>
     simp only[Ew,cz,hx,hy,hlt',hw,h0,qn,c1,c2,kI,mL,aI,EW,seval]<;>first|exact i1|exact⟨_,⟨_,rfl⟩,rfl⟩
  ·obtain⟨y,hy,hlt'⟩:=zo (Dy b3) hx;have i1:=hi () trivial;simp only[bo] at i1 ⊢;cases c1:x != y<;>simp only[Ew,cz,hx,hy,hlt',hw,h0,c1,mb,EW,seval]<;>first|exact i1|exact⟨_,⟨_,rfl⟩,rfl⟩
 obtain⟨_,⟨b,rfl⟩,h3⟩:=key;exact⟨b,az h3⟩
def ao1(f g:aa)(hf:uo f):∃b,ar bN 16 [.agg (ck f),.agg (ck g)] []=some (.bool b,[]):=by
 have key:∃r:ag×aG,(∃b:Bool,r=(.bool b,[]))/\eV (ar bN) HV.results 0 [] HV.body (fe 0 [.agg (ck f),.agg (ck g)]) []=some r:=by
  have h200:=hf.rt.sz.ae;have h1:=hf.dQ;have h2:=hf.rB;obtain⟨b0,q0⟩:=aqi f.s g.s hf.rt hf.dz (by have:=hf.len; omega) hf.cf hf.Cf
  have qs:=cP q0;simp only[bo] at qs;cases b0
  case false =>
   simp only[HV,Ni,ck,qs,EW,seval];exact⟨_,⟨_,rfl⟩,rfl⟩
  cases b1:(f.holds.length:Int) != (g.holds.length:Int)
  case true =>
   simp only[HV,Ni,ck,qs,b1,EW,seval];exact⟨_,⟨_,rfl⟩,rfl⟩
  cases b2:(f.cq.length:Int) != (g.cq.length:Int)
  case true =>
   simp only[HV,Ni,ck,qs,b1,b2,EW,seval];exact⟨_,⟨_,rfl⟩,rfl⟩
  simp only[HV,Ni,ck,qs,b1,b2,EW,seval];refine gH (xs:=f.holds) (by omega) (fun _ (_:Unit)=>True) (fun _ i=>[(2,b9 0),(3,b9 1),(5,aF i)]) (fun _=>[bT (ck f),bT (ck g)]) _ (fun _ _=>?_) (fun pre x post _ e hx cz hw h0 hm _ hi=>?_) () trivial
  ·simp only[ck];simp only[Ni,bw,EW,seval];refine gH (xs:=f.cq) (by omega) (fun _ (_:Unit)=>True) (fun _ i=>[(2,b9 0),(3,b9 1),(6,aF i)]) (fun _=>[bT (ck f),bT (ck g)]) _ (fun _ _=>?_) (fun pre x post _ e hx cz hw h0 hm _ hi=>?_) () trivial
   ·simp only[ck];simp only[Ni,bw,EW,seval];exact⟨_,⟨_,rfl⟩,rfl⟩
   ·obtain⟨y,hy,hlt'⟩:=zo (Dy b2) hx;have i1:=hi () trivial;have eq:=LV x y;have a1:=CH x;have a2:=CH y;generalize decide (x=y)=z at eq;simp only[ck] at i1 ⊢;cases z<;>simp only[Ni,cz,hx,hy,hlt',hw,h0,eq,a1,a2,dU,EW,seval]<;>first|exact i1|exact⟨_,⟨_,rfl⟩,rfl⟩
  ·obtain⟨y,hy,hlt'⟩:=zo (Dy b1) hx;have i1:=hi () trivial;have eq:=Qs x y;have a1:=Gf x;have a2:=Gf y;generalize decide (x=y)=z at eq;simp only[ck] at i1 ⊢;cases z<;>simp only[Ni,cz,hx,hy,hlt',hw,h0,eq,a1,a2,gx,EW,seval]<;>first|exact i1|exact⟨_,⟨_,rfl⟩,rfl⟩
 obtain⟨_,⟨b,rfl⟩,h3⟩:=key;exact⟨b,az h3⟩
end
def mY(l:List Bytes):Bytes:=l.flatMap fun s=>47::s
def jP(l:List Bytes):Bytes:=if l=[] then [47] else mY l
def kP(s:Bytes)(r:List Bytes):mY (s::r)=47::(s++mY r):=by simp[mY]
def NoS(s:Bytes):Prop:=∀b,b∈s->b≠47
def vq{s:Bytes}(h:eh s=true):NoS s:=by
 intro b hb e;simp only[eh,bn,bI] at h;have:=h.2 b hb;rw[e] at this
 revert this; decide
def OE{s:Bytes}(h:eh s=true):s≠[]:=by
 rintro rfl; revert h; decide
def Dj(r:List Bytes):∀(s:Bytes),NoS s->Lib.indexByte (s++mY r) 47=if r=[] then -1 else (s.length:Int)
 | [],_=>by cases r<;>simp[mY,Lib.indexByte]
 |b::s,h=>by
  have hb:(b==47)=false:=by simpa using h b aV
  rw[aR,Lib.indexByte,Dj r s fun x hx=>h x (aO _ hx),hb]
  by_cases hr:r=[]
  ·simp[hr]
  ·have:((s.length:Int) == -1)=false:=by simp
   simp[hr,this]
def xJ(r:List Bytes){s:Bytes}(h:NoS s):Ef (s++mY r)=s.length:=by
 unfold Ef;rw[Dj r s h]
 by_cases hr:r=[]
 ·simp[hr,mY]
 ·have:¬((s.length:Int)<0):=by omega
  simp[hr,this]
def BT:∀(l:List Bytes),(∀s,s∈l->NoS s)->kv (mY l)=l.map fun s=>(s,true)
 | [],_=>rfl
 |s::r,h=>by
  have hs:=h s aV;have hne:mY (s::r)≠[]:=by rw[kP]; simp
  have hc:qq (mY (s::r))=(s++mY r,true):=by rw[kP]; simp[qq]
  have h1:qQ (mY (s::r))=(s,true):=by simp[qQ,hc,xJ r hs]
  have h2:p7 (mY (s::r))=mY r:=by simp[p7,hc,xJ r hs]
  rw[sX hne,h1,h2,BT r (fun s hs=>h s (aO _ hs))]
  rfl
def DY:∀(l:List Bytes)(n:Nat),(∀s,s∈l->eh s=true)->n+l.length<=12->na (l.map fun s=>(s,true)) n=some l
 | [],_,_,_=>rfl
 |s::r,n,h,hl=>by
  have hb:AA (s,true) n=false:=by
   simp only[au] at hl;simp[AA,h s aV]; omega
  simp only[aP,na,hb,af,aw];rw[DY r (n+1) (fun s hs=>h s (aO _ hs)) (by simp only[au] at hl; omega)]
  rfl
def Gz{s:Bytes}{r:List Bytes}(h:eh s=true):jP (s::r)≠[47]:=by
 have:=OE h;rw[jP,aH (by simp),kP]
 simp[this]
def xX{l:List Bytes}(h:∀s,s∈l->eh s=true)(hl:l.length<=12):dW (jP l)=(l,0):=by
 cases l with
 |nil=>rfl
 |cons s r =>
  have h1:=Gz (r:=r) (h s aV);have h2:jP (s::r)=mY (s::r):=by simp[jP]
  unfold dW;rw[aH h1,h2,BT _ (fun s hs=>vq (h s hs)),DY _ 0 h (by omega)]
def Lr:∀(n:Nat)(s:Bytes)(m:Nat)(l:List Bytes),s.length<=n->na (kv s) m=some l->s=mY l:=by
 intro n;induction n with
 |zero =>
  intro s m l hs h;have:s=[]:=cG (by omega)
  subst this;simp[kv,sW,na] at h;subst h; rfl
 |succ n ih =>
  intro s m l hs h
  by_cases hn:s=[]
  ·subst hn;simp[kv,sW,na] at h;subst h; rfl
  ·rw[sX hn,na] at h;split at h
   ·cases h
   ·rename_i hb;obtain⟨l',h1,rfl⟩:=aN.1 h;have cz:=Ag hn;have hr:=ih _ _ _ (by omega) h1
    simp only[AA,cN,lu,gW,Bool.not_eq_false] at hb;have h2:(qq s).2=true:=hb.1.1;cases s with
    |nil=>exact absurd rfl hn
    |cons b r =>
     have hc:b=47/\qq (b::r)=(r,true):=by
      by_cases e:b=47
      ·exact⟨e,by simp[qq,e]⟩
      ·simp[qq,e] at h2
     obtain⟨rfl,hc⟩:=hc;rw[kP,<-hr];simp[qQ,p7,hc]
def xO{s:Bytes}{l:List Bytes}(h:dW s=(l,0)):s=jP l:=by
 unfold dW at h;split at h
 ·rename_i e;injection h with h _
  subst h; exact e
 ·split at h
  ·cases h
  ·cases h
  ·rename_i l' hne hg;injection h with h _
   subst h;have:=Lr s.length s 0 _ (aC _) hg;rw[jP,aH hne];exact this
def DX:∀(s rest cur:Bytes)(out:List Bytes),NoS s->zc (s++rest) cur out=zc rest (cur++s) out
 | [],rest,cur,out,_=>by simp
 |b::s,rest,cur,out,h=>by
  have hb:((b.toNat:Int) != 47)=true:=by
   have:=h b aV;simp only[mJ,ne_eq];intro e;exact this (kb.1 (by rw[show((47:UInt8).toNat)=47 from rfl]; omega))
  rw[aR,zc,bc hb,DX s rest _ out fun x hx=>h x (aO _ hx)]
  simp
def FM:∀(r:List Bytes)(cur:Bytes)(out:List Bytes),eh cur=true->(∀s,s∈r->eh s=true)->out.length+1+r.length<=12->zc (mY r) cur out=some (out++cur::r)
 | [],cur,out,hc,_,hl=>by
  have:((out.length:Int)==12)=false:=by simp at hl ⊢; omega
  simp[mY,zc,hc,this]
 |s::r,cur,out,hc,h,hl=>by
  have h1:((out.length:Int)==12)=false:=by simp at hl ⊢; omega
  have h2:((((47:UInt8).toNat:Int)) != 47)=false:=rfl;rw[kP,zc,h2];simp only[hc,h1,c8,eH,af,aw];rw[DX s _ _ _ (vq (h s aV)),aZ,FM r s _ (h s aV) (fun x hx=>h x (aO _ hx)) (by simp at hl ⊢; omega)]
  simp
def Pd{l:List Bytes}(h:∀s,s∈l->eh s=true)(hl:l.length<=12):jT (jP l)=(l,0):=by
 cases l with
 |nil=>rfl
 |cons s r =>
  have h1:(jP (s::r)==[47])=false:=by simpa using Gz (r:=r) (h s aV)
  have h2:jP (s::r)=47::(s++mY r):=by simp[jP,kP]
  have h3:((((47:UInt8).toNat:Int)) != 47)=false:=rfl;unfold jT;rw[h1,h2];simp only[h3,af,aw];rw[DX s _ _ _ (vq (h s aV)),aZ,FM r s [] (h s aV) (fun x hx=>h x (aO _ hx)) (by simp at hl ⊢; omega)]
  rfl
def BI:∀(l:List Bytes)(s:Bytes),uN l s=s++mY l
 | [],s=>by simp[uN,mY]
 |x::l,s=>by
  have:=BI l (s++[47]++x);simp only[uN,dZ] at this ⊢;rw[this,kP]; simp
def Il(l:List Bytes):Dp l=jP l:=by
 unfold Dp jP;cases l with
 |nil=>rfl
 |cons s r=>rw[aH (by simp; omega),aH (by simp),BI]; rfl
def Im(l:List Bytes):Dq l=jP l:=by
 unfold Dq jP;cases l with
 |nil=>rfl
 |cons s r =>
  rw[aH (by simp; omega),aH (by simp),Lib.join_cons,kP]
  simp[Lib.joinTail,mY,List.flatMap]
def ER:∀ {l l':List Bytes},(∀s,s∈l->NoS s)->(∀s,s∈l'->NoS s)->mY l=mY l'->l=l'
 | [],[],_,_,_=>rfl
 | [],s::r,_,_,h=>by rw[kP] at h; simp[mY] at h
 |s::r,[],_,_,h=>by rw[kP] at h; simp[mY] at h
 |s::r,s'::r',h1,h2,h=>by
  rw[kP,kP] at h;injection h with _ h
  have e1:=xJ r (h1 s aV);have e2:=xJ r' (h2 s' aV);rw[h,e2] at e1;obtain⟨a,b⟩:=List.append_inj h e1.symm;rw[a,ER (fun x hx=>h1 x (aO _ hx)) (fun x hx=>h2 x (aO _ hx)) b]
def adX{l l':List Bytes}(h1:∀s,s∈l->eh s=true)(h2:∀s,s∈l'->eh s=true)(h:jP l=jP l'):l=l':=by
 cases l with
 |nil =>
  cases l' with
  |nil=>rfl
  |cons s r=>exact absurd h.symm (Gz (h2 s aV))
 |cons s r =>
  cases l' with
  |nil=>exact absurd h (Gz (h1 s aV))
  |cons s' r' =>
   simp only[jP,reduceCtorEq,aw] at h;exact ER (fun x hx=>vq (h1 x hx)) (fun x hx=>vq (h2 x hx)) h
def vz{s:Bytes}{l:List Bytes}(h:dW s=(l,0)):jT s=(l,0):=by
 obtain⟨o1,o2⟩:=mj s;rw[h] at o1 o2;rw[xO h,Pd o1 o2]
def T9{s:Bytes}(h:((pY s).2.2 != 0)=false):∃P x,dW s=(P++[x],0)/\pY s=(x,jP P,0):=by
 unfold pY at h ⊢;split at h
 ·cases h
 ·rename_i hc;rw[aH hc];simp only[cN,lu,Bool.not_eq_true] at hc;generalize hS:dW s=S at hc;obtain⟨l,e⟩:=S;have he:e=0:=by simpa using hc.1
  rcases List.eq_nil_or_concat l with rfl|⟨P,x,rfl⟩
  ·simp at hc
  ·rw[List.concat_eq_append] at *;refine⟨P,x,by rw[he],?_⟩
   simp[Im]
def p8{t:Tree}{s:Bytes}{j:Int}:fY t s=(j,0)↔∃l,dW s=(l,0)/\nQ t.ae l 1=(j,0):=by
 unfold fY;constructor
 ·intro h;split at h
  ·rename_i hc;injection h with _ h
   rw[h] at hc; cases hc
  ·rename_i hc;exact⟨_,Prod.ext rfl (by simpa using hc),h⟩
 ·rintro⟨l,h1,h2⟩;rw[h1];simpa using h2
def JC{t:Tree}{s:Bytes}(h:((iK t s).2.2 != 0)=false):∃P x d,dW s=(P++[x],0)/\nQ t.ae P 1=(d,0)/\iK t s=(d,x,0):=by
 unfold iK at h ⊢;split at h
 ·rename_i hc; simp only at h; rw[h] at hc; cases hc
 ·rename_i hc;obtain⟨P,x,h1,h2⟩:=T9 (by simpa using hc)
  rw[h2] at h ⊢;simp only[ak,af,aw] at h ⊢;split at h
  ·rename_i hw; simp only at h; rw[h] at hw; cases hw
  ·rename_i hw;obtain⟨l,g1,g2⟩:=p8.1 (Prod.ext rfl (by simpa using hw):fY t (jP P)=((fY t (jP P)).1,0))
   obtain⟨o1,o2⟩:=mj s;rw[h1] at o1 o2;rw[xX (fun y hy=>o1 y (dq _ hy)) (by simp at o2; omega)] at g1
   injection g1 with g1 _
   subst g1;exact⟨P,x,_,h1,g2,by rw[aH hw]⟩
def iz(a b:Bytes):Bytes:=jP ((jT a).1++(jT b).1)
section
attribute [local irreducible] eV fZ je gK eo kr ar aU cA bH
def c19(a b:Bytes)(ha:a.length<=100000)(hb:b.length<=100000):ar bN 19 [.str a,.str b] []=some (.str (iz a b),[]):=by
 refine az ?_;have q1:=fun M=>k35 a ha M
 have q2:=fun M=>k35 b hb M
 obtain⟨o1,o2⟩:=px a;obtain⟨p1,p2⟩:=px b;unfold iz;rw[<-Il];generalize jT a=x at q1 o1 o2;generalize jT b=y at q2 p1 p2
 have q3:=fun M=>k36 (x.1++y.1) (by simp; omega) (fun s hs=>by
  rcases bm.1 hs with hs|hs
  ·exact lU (o1 s hs)
  ·exact lU (p1 s hs)) M
 have r1:cu x.1.length 16=True:=rb;have r2:cu (x.1.length+y.1.length) 16=True:=rb;simp only[dh,bu] at q1 q2 q3;simp only[adO,E19,q1,q2,q3,r1,r2,dh,uT,EW,seval]
def w7(a b:Bytes):(iz a b).length<=1000:=by
 obtain⟨o1,o2⟩:=px a;obtain⟨p1,p2⟩:=px b;unfold iz;rw[<-Il,Dp];split
 ·simp
 ·have:=yM ((jT a).1++(jT b).1) [] (fun s hs=>by
   rcases bm.1 hs with hs|hs
   ·exact lU (o1 s hs)
   ·exact lU (p1 s hs))
  simp only[av,aD] at this;omega
def c17(a:Eu)(hn:a.names.length<=100000)(hd:a.data.length<=100000):ar bN 17 [.agg (cQ a),.agg (cQ a)] []=some (.bool true,[]):=by
 refine az ?_;simp only[aka,E17,cQ,ak,uX,EW,seval];refine tD (xs:=a.names) (by omega) (fun _ (_:Unit)=>()) (fun _ i=>[(2,b9 0),(3,b9 1),(5,aF i)]) (fun _=>[bT (cQ a),bT (cQ a)]) (fun _=>some (ag.bool true,([]:aG))) (fun _=>?_) (fun pre x post _ e hx cz hw h0 hm hi=>?_) ()
 ·simp only[cQ];simp only[E17,bw,EW,seval]
 ·have i1:=hi ();simp only[cQ] at i1 ⊢;simp only[E17,cz,hx,hw,h0,ak,EW,seval];exact i1
end
def yc(k:Int)(p q:Bytes):jk:=⟨k,0,p,q,0,0,0,[]⟩
def Wl(t:Tree)(p:Bytes):Eu:=if (fY t p).2 != 0 then gk (fY t p).2 else ⟨0,(aX t.ae (fY t p).1).an,(aX t.ae (fY t p).1).kind,0,0,[],[]⟩
def Ci(t:Tree)(p:Bytes):Eu:=if (fY t p).2 != 0 then gk (fY t p).2 else
 ⟨0,(aX t.ae (fY t p).1).an,(aX t.ae (fY t p).1).kind,(aX t.ae (fY t p).1).cL,vy (aX t.ae (fY t p).1),[],[]⟩
def yj{f:aa}{o:jk}{K:Nat}(hk:dx pV o.kind=some K)(h0:0<=o.cH)(h1:o.cH<16):lN f o=if (ma K f o).2.2=0 then ((ma K f o).1,(ma K f o).2.1) else (f,gk (ma K f o).2.2):=by
 unfold lN;rw[hk];simp[h0,h1]
def W9(f:aa)(p:Bytes):lN f (yc 1 p [])=(f,Wl f.s.now p):=by
 rw[yj (K:=61) rfl (cp 0) (show(0:Int)<16 by omega),show ma 61 f (yc 1 p [])=wj f (yc 1 p []) from rfl]
 unfold wj Wl;simp only[show(yc 1 p []).da=p from rfl]
 split
 ·rename_i h1;rw[aH (by simpa using h1)]
 ·rw[bc rfl]
def Gn(f:aa)(p:Bytes):lN f (yc 7 p [])=(f,Ci f.s.now p):=by
 rw[yj (K:=67) rfl (cp 0) (show(0:Int)<16 by omega),show ma 67 f (yc 7 p [])=wq f (yc 7 p []) from rfl]
 unfold wq Ci;simp only[show(yc 7 p []).da=p from rfl]
 split
 ·rename_i h1;rw[aH (by simpa using h1)]
 ·rw[bc rfl]
def Ue{t:Tree}{p:Bytes}{l:List Bytes}{z:Int}(h1:dW p=(l,0))(h2:Way t.ae 1 l z):Wl t p=⟨0,(aX t.ae z).an,(aX t.ae z).kind,0,0,[],[]⟩:=by
 have h:=p8.2 ⟨l,h1,pz.2 h2⟩;simp[Wl,h]
def DZ{t:Tree}{p:Bytes}{l:List Bytes}{z:Int}(h1:dW p=(l,0))(h2:Way t.ae 1 l z):Ci t p=⟨0,(aX t.ae z).an,(aX t.ae z).kind,(aX t.ae z).cL,vy (aX t.ae z),[],[]⟩:=by
 have h:=p8.2 ⟨l,h1,pz.2 h2⟩;simp[Ci,h]
def ZY{t:Tree}{p:Bytes}(h:(Ci t p).err=0):∃l z,dW p=(l,0)/\Way t.ae 1 l z:=by
 unfold Ci at h;split at h
 ·rename_i hc;exact absurd h (by simpa[gk] using hc)
 ·rename_i hc;obtain⟨l,g1,g2⟩:=p8.1 (Prod.ext rfl (by simpa using hc):fY t p=((fY t p).1,0))
  exact⟨l,_,g1,pz.1 g2⟩
def uv(l:List eB):∀(r:List Int)(t:Tree),Rt t->∀i,find (lg l r t).ae i=find t.ae i\/(find (lg l r t).ae i=none/\∃n,find t.ae i=some n/\ep n=true)
 | [],_,_,_ => .inl rfl
 |k::r,t,h,i=>by
  unfold lg;split
  ·have hf:=ve h k i;have ih:=uv l r _ (h.free k) i
   by_cases hc:i=k/\∃n,find t.ae k=some n/\ep n=true
   ·rw[bc hc] at hf;obtain⟨rfl,hn⟩:=hc;rw[hf] at ih;refine .inr ⟨?_,hn⟩;rcases ih with h1|⟨h1,_⟩<;>exact h1
   ·rw[aH hc] at hf;rwa[hf] at ih
  ·exact uv l r t h i
def EM(l:List eB)(r:List Int){t:Tree}(h:Rt t){i:Int}{n:Node}(hn:find t.ae i=some n)(ho:ep n=false):find (lg l r t).ae i=some n:=by
 rcases uv l r t h i with h1|⟨_,m,h2,h3⟩
 ·rw[h1,hn]
 ·rw[hn] at h2; cases h2;rw[ho] at h3; cases h3
def JH(l:List eB)(r:List Int){t:Tree}(h:Rt t):∀ {L:List Bytes} {i j:Int},Way t.ae i L j->Way (lg l r t).ae i L j
 | [],_,_,hw=>hw
 |_::_,_,_,⟨d,e,h1,h2,h3,h4,h5⟩=>⟨d,e,EM l r h h1 (ry h2),h2,h3,h4,JH l r h h5⟩
def wW(l:List eB):∀(r:List Int)(t:Tree),(∀i,i∈r->mP l i=true)->lg l r t=t
 | [],_,_=>rfl
 |k::r,t,h=>by
  unfold lg;rw[h k aV];exact wW l r t fun i hi=>h i (aO _ hi)
def IC{a b:List Node}{i:Int}(h:find a i=find b i)(s:Bytes):dX a i s=dX b i s:=by
 have:gr a i=gr b i:=by simp only[gr,h]
 simp only[dX,this]
structure aam(f g:aa)(a:Eu)(p q:Bytes):Prop where
 is:(Wl g.s.now q).err=0/\(Wl g.s.now q).an=(Ci f.s.now p).an
 an:a.an=(Ci f.s.now p).an
 len:g.s.now.ae.length<=f.s.now.ae.length
 tL:g=f\/p=q\/(Wl g.s.now p).err≠0
 below:∀b,(Ci f.s.now (iz p b)).err=0->(Ci f.s.now p).kind=2->Ci f.s.now (iz p b)=Ci g.s.now (iz q b)
def Ju{f:aa}(hh:JM f)(h:(gz f f.s.now f.cq).2=0):(gz f f.s.now f.cq).1=f:=by
 have h1:lg f.holds (jS f.s.now) f.s.now=f.s.now:=wW _ _ _ fun i hi=>by
  obtain⟨n,hn,rfl⟩:=dj.1 hi;obtain⟨h1,h2⟩:=cm.1 hn;exact hh.Ve n h1 h2
 have h2:jd f.s.now f.cq=f.cq:=by
  unfold jd;refine fQ.2 fun q hq=>?_
  obtain⟨n,hn,_⟩:=hh.quo q hq;simp[wX,hn]
 have h3:ki f.s f.s.now=f.s:=by simp[ki]
 unfold gz at h ⊢;simp only[h1,h2,h3] at h ⊢;split at h
 ·cases h
 split at h
 ·cases h
 ·rename_i c1 c2;rw[aH c1,aH c2]
def Ln{f:aa}{t:Tree}{q:List cF}(h:(gz f t q).2=0):(gz f t q).1.s.now=lg f.holds (jS t) t:=by
 unfold gz at h ⊢;split at h
 ·cases h
 split at h
 ·cases h
 ·rename_i c1 c2;rw[aH c1,aH c2];exact vv _ _
def K7{f:aa}(hr:Rt f.s.now){P T:List Bytes}{p q:Bytes}{x:Int}{m:Node}(hp:dW p=(P,0))(hq:dW q=(T,0))(w1:Way f.s.now.ae 1 P x)(w2:Way f.s.now.ae 1 T x)(hm:find f.s.now.ae x=some m){a:Eu}(ha:a.an=x):aam f f a p q:=by
 obtain⟨cE,h⟩:=hr;have hn:aX f.s.now.ae x=m:=by simp[aX,hm]
 have hi:=(bP hm).2;have e1:=DZ hp w1;have e2:=Ue hq w2;rw[hn] at e1 e2;refine⟨by rw[e1,e2]; exact⟨rfl,rfl⟩,by rw[e1,ha]; exact hi.symm,aC _,.inl rfl,fun b _ hk=>?_⟩
 rw[e1] at hk;have:=h.M9 _ rfl w1 w2 hm hk;unfold iz;rw[vz hp,vz hq,this]
def alP{f:aa}(hf:uo f)(hh:JM f)(p q:Bytes):((lN f (yc 5 p q)).2.err≠0->(lN f (yc 5 p q)).1=f)/\((lN f (yc 5 p q)).2.err=0->aam f (lN f (yc 5 p q)).1 (lN f (yc 5 p q)).2 p q):=by
 rw[yj (K:=65) rfl (cp 0) (show(0:Int)<16 by omega),show ma 65 f (yc 5 p q)=pw f (yc 5 p q) from rfl]
 by_cases h0:(pw f (yc 5 p q)).2.2=0
 case neg =>
  rw[aH h0];exact⟨fun _=>rfl,fun h=>absurd h h0⟩
 rw[bc h0];unfold pw at h0 ⊢;simp only[show(yc 5 p q).da=p from rfl,show(yc 5 p q).tZ=q from rfl] at h0 ⊢
 split at h0
 ·rename_i hc; simp only at h0; rw[h0] at hc; cases hc
 rename_i c1;split at h0
 ·rename_i hc; simp only at h0; rw[h0] at hc; cases hc
 rename_i c2;split at h0
 ·rename_i hc; simp only at h0; rw[h0] at hc; cases hc
 rename_i c3;split at h0
 ·rename_i hc; simp only at h0; rw[h0] at hc; cases hc
 rename_i c4;split at h0
 ·rename_i hc; simp only at h0; rw[h0] at hc; cases hc
 rename_i c5;rw[aH c1,aH c2,aH c3,aH c4,aH c5];refine⟨fun h=>absurd rfl h,fun _=>?_⟩
 simp only;obtain⟨P,s,d,p1,p2,p3⟩:=JC (by simpa using c1)
 obtain⟨T,nm,d2,q1,q2,q3⟩:=JC (by simpa using c2)
 rw[p3,q3] at c4 c5 ⊢;rw[p3] at c3;simp only at c3 c4 c5 ⊢;obtain⟨cE,h⟩:=hf.rt;have w1:=pz.1 p2;have w2:=pz.1 q2;rcases Fu h d s d2 nm with ⟨_,_,e⟩|⟨e,dF,dT,e1,e2,g1,g2,g3,g4,g5,g6,g7,g8,g9,g10⟩|⟨dF,dT,m,e,k,g3,g5,ek⟩
 ·exact absurd e (by simpa using c4)
 ·rw[e] at c5 ⊢;simp only at c5 ⊢;rw[Ju hh (by simpa using c5)]
  obtain⟨m,hm,_⟩:=h.step g1 g4;refine K7 hf.rt p1 q1 (lk.2 ⟨d,w1,dF,e1,g1,g2,g3,g4,rfl⟩) (x:=e1.an) (lk.2 ⟨d2,w2,dT,e2,g6,g7,g8,g9,g10⟩) hm ?_;rw[g5]
 ·rw[ek,g5];rw[ek] at c5;simp only at c5 ⊢;have hnow:=Ln (f:=f) (t:=jQ f.s.now d s d2 nm e.an (dB dT.aM nm)) (q:=f.cq) (by simpa using c5)
  generalize (gz f (jQ f.s.now d s d2 nm e.an (dB dT.aM nm)) f.cq).1=g at hnow ⊢;obtain⟨dep',h'⟩:=h.mv (fun h=>h) k
  have hr':Rt (jQ f.s.now d s d2 nm e.an (dB dT.aM nm)):=⟨dep',h'⟩;have hfind:=tE h k;have dQ:=k.len h h';have ways:∀ {L:List Bytes} {i j:Int},Way (jQ f.s.now d s d2 nm e.an (dB dT.aM nm)).ae i L j->Way g.s.now.ae i L j:=fun w=>by rw[hnow]; exact JH _ _ hr' w
  have kept:∀ {i:Int} {n:Node},find (jQ f.s.now d s d2 nm e.an (dB dT.aM nm)).ae i=some n->ep n=false->find g.s.now.ae i=some n:=fun hn ho=>by rw[hnow]; exact EM _ _ hr' hn ho
  obtain⟨m',hm',hu,ho⟩:=h.step k.hF k.he;rw[k.hm] at hm'; cases hm';have wp:Way f.s.now.ae 1 (P++[s]) e.an:=lk.2 ⟨d,w1,dF,e,k.hF,k.kF,g3,k.he,rfl⟩;have wfrom:=k.V9 h w1;have wto:=k.agU h w2;have lto:=k.YE h
  have wq':Way (jQ f.s.now d s d2 nm e.an (dB dT.aM nm)).ae 1 (T++[nm]) e.an:=by
   obtain⟨d',e',a1,a2,a3,a4,a5⟩:=look_ok (by rw[lto]; rfl)
   rw[lto] at a5;injection a5 with a5
   exact lk.2 ⟨d2,wto,d',e',a1,a2,a3,a4,a5.symm⟩
  have hx':find (jQ f.s.now d s d2 nm e.an (dB dT.aM nm)).ae e.an=some (if m.kind=2 then { m with up:=d2 } else m):=by
   rw[hfind,aH k.ne,aH k.nf,bc rfl]
  have hmi:=(bP k.hm).2;have est:=DZ p1 wp;rw[show aX f.s.now.ae e.an=m by simp[aX,k.hm]] at est
  refine⟨?_,by rw[est]; exact hmi.symm,?_,?_,?_⟩
  ·have e1:=Ue q1 (ways wq');have hx:=kept hx' (by split<;>exact ho)
   rw[show aX g.s.now.ae e.an=(if m.kind=2 then { m with up:=d2 } else m) by simp[aX,hx]] at e1
   rw[e1,est];refine⟨rfl,?_⟩;simp only;split<;>rfl
  ·refine aW ?_ dQ;have hrg:Rt g.s.now:=by rw[hnow]; exact vg _ _ _ hr'
   refine LF hrg.jo.jv fun n hn=>?_
   have h1:=(fC hrg.jo.jv).2 ⟨hn,rfl⟩;rw[hnow] at h1;rcases uv f.holds (jS (jQ f.s.now d s d2 nm e.an (dB dT.aM nm))) _ hr' n.an with h2|⟨h2,_⟩
   ·rw[h2] at h1; exact⟨n,h1⟩
   ·rw[h2] at h1; cases h1
  ·by_cases hpq:p=q
   ·exact .inr (.inl hpq)
   refine .inr (.inr ?_)
   have hne:¬(d=d2/\s=nm):=by
    rintro⟨rfl,rfl⟩;have:=h.M9 _ rfl w1 w2 k.hF k.kF;subst this;exact hpq ((xO p1).trans (xO q1).symm)
   have lf:=k.Ox h g3 hne
   have hd:∃n,find (jQ f.s.now d s d2 nm e.an (dB dT.aM nm)).ae d=some n/\n.kind=2:=by
    rw[hfind]
    by_cases hdd:d=d2
    ·rw[bc hdd]; exact⟨_,rfl,k.kT⟩
    ·rw[aH hdd,bc rfl]; exact⟨_,rfl,k.kF⟩
   obtain⟨n,hn,hnk⟩:=hd
   have hl:dX g.s.now.ae d s=(0,70):=by
    rw[<-lf];exact IC (by rw[kept hn (ry hnk),hn]) s
   have hwk:fY g.s.now p=(0,70):=by
    unfold fY;rw[p1];simp only[ak,af,aw];rw[D6,pz.2 (ways wfrom)];simp[nQ,hl]
   simp[Wl,hwk,gk]
  ·intro b hb hk;rw[est] at hk;simp only at hk;obtain⟨Q,z,z1,z2⟩:=ZY hb;have eS:=DZ z1 z2;have hA:=vz p1;have hC:=vz q1;obtain⟨o1,_⟩:=mj (iz p b);rw[z1] at o1;obtain⟨a1,_⟩:=mj p;rw[p1] at a1;obtain⟨b1,_⟩:=px b
   have hQ:Q=P++[s]++(jT b).1:=by
    have:=xO z1;unfold iz at this;rw[hA] at this;exact(adX (fun y hy=>(bm.1 hy).elim (a1 y) (b1 y)) o1 this).symm
   rw[hQ] at z2;obtain⟨x',y1,y2⟩:=lk.1 z2;have:=An wp y1; subst this;obtain⟨v1,v2,v3,v4⟩:=k.agT h hk y2;obtain⟨n,n1,n2⟩:=h.Cy y2 k.hm (ry hk)
   have hz':∃n',find (jQ f.s.now d s d2 nm e.an (dB dT.aM nm)).ae z=some n'/\n'.an=n.an/\n'.kind=n.kind/\n'.cL=n.cL/\vy n'=vy n:=by
    rw[hfind,aH v3,aH v2]
    by_cases hz:z=e.an
    ·subst hz;rw[k.hm] at n1; cases n1;exact⟨_,bc rfl,by simp[hk],by simp[hk],by simp[hk],by simp[hk,vy]⟩
    ·rw[aH hz,aH v4];exact⟨n,n1,rfl,rfl,rfl,rfl⟩
   obtain⟨n',m1,m2,m3,m4,m5⟩:=hz';have wz:Way (jQ f.s.now d s d2 nm e.an (dB dT.aM nm)).ae 1 (T++[nm]++(jT b).1) z:=lk.2 ⟨e.an,wq',v1⟩;have hl:=h'.M8 wz;obtain⟨c1',_⟩:=mj q;rw[q1] at c1'
   have hsp:dW (iz q b)=(T++[nm]++(jT b).1,0):=by
    unfold iz;rw[hC];exact xX (fun y hy=>(bm.1 hy).elim (c1' y) (b1 y)) hl
   have eN:=DZ hsp (ways wz);have hz:=kept m1 (by simp only[ep,m3,m4]; exact n2)
   rw[eS,eN,show aX f.s.now.ae z=n by simp[aX,n1],show aX g.s.now.ae z=n' by simp[aX,hz],m2,m3,m4,m5]
end Go.Proofs.YtahkjijkflobhaaGreatDoor
