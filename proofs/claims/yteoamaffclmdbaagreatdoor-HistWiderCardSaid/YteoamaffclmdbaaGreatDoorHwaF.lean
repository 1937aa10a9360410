import Derived.Test.YteoamaffclmdbaaGreatDoorHwaE
set_option linter.unusedSimpArgs false
set_option linter.unusedVariables false
set_option linter.unusedSectionVars false
set_option linter.defProp false
open Go.Proofs.Tryz
namespace Go.Proofs.YteoamaffclmdbaaGreatDoor
open Go Go.Abs
section
attribute [local irreducible] eX fM lC gK dX kr aq aU cr bJ
def abX{X:Option (ag×aC)}{v:ag×aC}(h:∃r,r=v/\X=some r):X=some v:=by
 obtain⟨_,rfl,h⟩:=h;exact h
def ap8(a b:List gM)(ha:a.length<=100000):aq bW 141 [jb a,jb b] []=some (.bool (decide (a=b)),[]):=by
 refine aB ?_;cases h0:(a.length:Int) != (b.length:Int)
 ·have hl:a.length=b.length:=by simp at h0; omega
  simp only[R4,QL,h0,EW,seval];refine abX (jd (xs:=a) aI (fun m (_:Unit)=>a.take m=b.take m) (fun _ i=>[(0,jb a),(1,jb b),(5,aH i)]) (fun _=>[]) (fun r=>r=(.bool (decide (a=b)),[])) (fun _ hI=>?_) (fun pre x post _ e hx cL hw h0 hm hI hi=>?_) () rfl)
  ·refine⟨_,rfl,?_⟩;rw[kg (Au hl hI)];simp only[QL,bu,EW,seval]
  ·have hp:=(aj.1 hx).1;obtain⟨y,hy⟩:∃y,b[pre.length]?=some y:=⟨_,ai aI⟩;cases h1:decide (x=y)
   ·have hd:decide (a=b)=false:=iZ fun e=>of_decide_eq_false h1 (by rw[e,hy] at hx; injection hx with hx; exact hx.symm)
    refine⟨_,rfl,?_⟩;rw[hd];simp only[QL,cL,hx,hy,h0,h1,iG,RH,aiH,EW,seval]
   ·have i1:=hi () (yl hI hx (by rw[hy,jW h1]))
    simp only[QL,cL,hx,hy,hw,h0,h1,iG,RH,aiH,EW,seval];exact i1
 ·have hd:decide (a=b)=false:=iZ fun e=>by rw[e] at h0; simp at h0
  rw[hd];simp only[R4,QL,h0,EW,seval]
def asl a b ha:=cP (ap8 a b ha)
def c88(x y:Node)(hx:x.bc.length<=100000):aq bW 88 [.agg (aM x),.agg (aM y)] []=some (.bool (decide (x=y)),[]):=by
 rw[adI];have hk:=fun M=>asl x.bc y.bc hx M
 refine aB ?_;simp only[alQ,E88,bL,aM,EN,seval]
 repeat' ((first|apply bC|apply bU|apply dK)<;>intro hb<;>simp only[hb,EN,E88,hk,zF,seval])
 all_goals clear hk
 all_goals simp_all [bne]
def k88 x y hx:=cP (c88 x y hx)
def ap7(a b:List Node)(ha:a.length<=100000)(he:∀n,n∈a->n.bc.length<=100000):aq bW 140 [ba a,ba b] []=some (.bool (decide (a=b)),[]):=by
 refine aB ?_;cases h0:(a.length:Int) != (b.length:Int)
 ·have hl:a.length=b.length:=by simp at h0; omega
  simp only[R3,QK,h0,EW,seval];refine abX (jd (xs:=a) aI (fun m (_:Unit)=>a.take m=b.take m) (fun _ i=>[(0,ba a),(1,ba b),(5,aH i)]) (fun _=>[]) (fun r=>r=(.bool (decide (a=b)),[])) (fun _ hI=>?_) (fun pre x post _ e hx cL hw h0 hm hI hi=>?_) () rfl)
  ·refine⟨_,rfl,?_⟩;rw[kg (Au hl hI)];simp only[QK,bu,EW,seval]
  ·have hp:=(aj.1 hx).1;obtain⟨y,hy⟩:∃y,b[pre.length]?=some y:=⟨_,ai aI⟩;have q:=fun M=>k88 x y (he x hm) M
   simp only[aM] at q;cases h1:decide (x=y)<;>rw[h1] at q
   ·have hd:decide (a=b)=false:=iZ fun e=>of_decide_eq_false h1 (by rw[e,hy] at hx; injection hx with hx; exact hx.symm)
    refine⟨_,rfl,?_⟩;rw[hd];simp only[QK,cL,hx,hy,h0,q,bL,aM,EW,seval]
   ·have i1:=hi () (yl hI hx (by rw[hy,jW h1]))
    simp only[QK,cL,hx,hy,hw,h0,q,bL,aM,EW,seval];exact i1
 ·have hd:decide (a=b)=false:=iZ fun e=>by rw[e] at h0; simp at h0
  rw[hd];simp only[R3,QK,h0,EW,seval]
def asj a b ha he:=cP (ap7 a b ha he)
def c87(a b:Tree)(ha:a.ae.length<=100000)(he:∀n,n∈a.ae->n.bc.length<=100000):aq bW 87 [br a,br b] []=some (.bool (decide (a=b)),[]):=by
 have hd:decide (a=b)=(a.next==b.next&&(a.ak==b.ak&&decide (a.ae=b.ae))):=by
  obtain⟨a1,a2,a3⟩:=a;obtain⟨b1,b2,b3⟩:=b;rw[cE]; simp; constructor
  ·rintro⟨h1,h2,h3⟩; exact⟨h2,h3,h1⟩
  ·rintro⟨h1,h2,h3⟩; exact⟨h3,h1,h2⟩
 rw[hd];have q:=fun M=>asj a.ae b.ae ha he M
 refine aB ?_
 cases h1:a.next==b.next<;>cases h2:a.ak==b.ak <;>
  simp only[alP,E87,h1,h2,q,br,aN,dZ,dW,dV,EW,seval]
def k87(a b:Tree)(ha:a.ae.length<=100000)(he:∀n,n∈a.ae->n.bc.length<=100000)(M:aC):aU (aq bW) 87 [.agg [ba a.ae,aH a.next,aH a.ak],.agg [ba b.ae,aH b.next,aH b.ak]] M=some (.bool (decide (a=b)),M):=cO (c87 a b ha he) M
end
def SG{l:List Node}(h:o4 l){i j:Nat}{n m:Node}(hi:l[i]?=some n)(hj:l[j]?=some m)(e:n.ar=m.ar):i=j:=by
 obtain⟨i1,i2⟩:=aj.1 hi;obtain⟨j1,j2⟩:=aj.1 hj;have hp:=cm.1 h;rcases iY i j with cL|rfl|cL
 ·have:=hp i j i1 j1 cL; rw[i2,j2] at this; omega
 ·rfl
 ·have:=hp j i j1 i1 cL; rw[i2,j2] at this; omega
def Xg{s:iQ}(hs:o4 s.now.ae)(hl:s.since.length=s.now.ae.length)(T:Int)(n:Node):(∃(j:Nat),s.now.ae[j]?=some n/\s.since[j]?=some (rK s T n))\/(find s.now.ae n.ar≠some n/\rK s T n=T):=by
 unfold rK;rcases CQ hs n.ar with ⟨_,h2,h3,h4⟩|⟨_,h2,h3⟩
 ·by_cases e:n=bl s.now.ae n.ar
  ·left;have hj:=(aj.1 h3).1;refine⟨_,by rw[h3,<-e],?_⟩
   rw[aX (by rw[h2]; simp[<-e])]
   rw[lq,ai aI]; rfl
  ·right;rw[aL (by simp[e]),h4]
   exact⟨fun hh=>e (by injection hh with hh; exact hh.symm),rfl⟩
 ·right;rw[h3,aL (by rw[h2]; simp)]
  simp
def Cj{t:Tree}{tk:List mY}{c:Int}:∀(l:List Node)(y:List Int)(n:Node)(x:Int),l.length=y.length->lV t tk c (l++[n]) (y++[x])=lV t tk c l y++lV t tk c [n] [x]
 | [],[],n,x,_=>by simp[lV]
 |a::l,b::y,n,x,h=>by simp only[aG,lV,Cj l y n x (by simpa using h),bZ]
def Stp(P:Int->Prop)(s u:iQ):Prop:=u=s\/(∃t,Rt t/\u=qA s t)\/(∃i,u=(takeN s i).1)\/∃d,P d/\u=(ru s d).1
def aa4(s:iQ)(t:Tree)(c:Int):List pv:=s.eN++lV t s.dR c s.now.ae s.since
section
attribute [local irreducible] eX fM lC gK dX kr aq aU cr bJ
def c86(l:List mY)(a b:Int)(hn:l.length<=100000):aq bW 86 [kj l,aH a,aH b] []=some (.bool (xH l a b),[]):=by
 refine aB ?_;simp only[alO,E86,EW,seval];refine AZ (xs:=l) aI (fun post (_:Unit)=>post.any (zp a b)) (fun _ i=>[(0,kj l),(1,aH a),(2,aH b),(7,aH i)]) (fun _=>[]) (fun z=>some (ag.bool z,([]:aC))) (fun _=>?_) (fun pre x post _ e hx cL hw h0 hm hi=>?_) ()
 ·simp only[E86,bu,o5,EW,seval]
 ·have i1:=hi ();rw[jS,zp]
  cases h1:decide (a<=x.at')<;>cases h2:decide (x.at'<b) <;>
   simp only[E86,cL,hx,hw,h0,h1,h2,kW,iB,dV,dZ,dW,dJ,cT,EW,seval]<;>exact i1
def k86 l a b hn:=cP (c86 l a b hn)
abbrev JY(s:iQ)(t:Tree):aC:=[.cells (bM s),.cells [ba t.ae,.int .i64 t.next,.int .i64 t.ak],.cells [.slice .c0 [],.int .i64 0,.int .i64 0,.int .i64 0,.slice .c0 [],.slice .c0 [],.slice .c0 [],.int .i64 0]]
abbrev JX(c:Int):Env:=[(2,.ptr 0 0),(3,.ptr 1 0),(4,.ptr 2 0),(5,.int .i64 c)]
section
variable {s:iQ} {t:Tree} {Q:ag×aC->Prop} {c:Int}
def aaA(hs:Rt s.now)(ht:Rt t)(hl:s.since.length=s.now.ae.length)(hk:s.dR.length<=16)(hp:s.eN.length<=90000){k:List K}
  (hx:∀z,∃r,Q r/\kr (aq bW) [.dH 4 8] 0 k ⟨.exit 0,JX c++(6,.slice (.own 3) ((aa4 s t c).map mc))::z,JY s t++[.tick 8 (aa4 s t c).length]⟩=some r) :
  ∃r,Q r/\eX (aq bW) [.dH 4 8] 0 k (.loop [2,3,4,5,6,7] agV) (JX c++[(6,.slice (.own 3) (s.eN.map mc)),(7,aH 0)]) (JY s t++[.tick 8 s.eN.length])=some r:=by
 have h200:=hs.sz.ae;refine jd (xs:=s.now.ae) aI (fun m (P:List pv)=>P.length<=s.eN.length+m/\P=s.eN++lV t s.dR c (s.now.ae.take m) (s.since.take m)) (fun P i=>JX c++[(6,.slice (.own 3) (P.map mc)),(7,aH i)]) (fun P=>JY s t++[.tick 8 P.length]) Q (fun P hP=>?_) (fun pre x post P e hx' cL hw h0 hm hP hi=>?_) s.eN ⟨av _,by simp[lV]⟩
 ·have hP:=hP.2;rw[bF,<-hl,bF] at hP;have hP:aa4 s t c=P:=hP.symm;simp only[hP,JY,JX,bM,aG,aQ] at hx ⊢;simp only[Qz,bu,EW,seval];exact hx _
 ·have hlx:=(aj.1 hx').1;obtain⟨y,hy⟩:∃y,s.since[pre.length]?=some y:=⟨_,ai aI⟩;have qg:=fun M=>Bi t.ae t.next t.ak x.ar (by have:=ht.sz.ae; omega) M
  have hc:lV t s.dR c [x] [y]=if (!(find t.ae x.ar).isSome || !decide (x=(find t.ae x.ar).getD Node.zero))&&xH s.dR y c then [⟨y,c,x⟩] else []:=by
   rw[lV,lV,c8]
   ·rcases CQ ht.lP.mB x.ar with ⟨_,h2,_,h4⟩|⟨_,h2,h4⟩
    ·have e1:decide (Yi t.ae x.ar<0)=false:=by rw[h2]; simp
     rw[e1,h4]; rfl
    ·rw[h2,h4]; simp
   ·rintro _ _ _ _ ⟨⟩
  have hi:=hi (P++lV t s.dR c [x] [y]) ⟨by
   have:=(Bv t s.dR c [x] [y]).1;simp only[aA,au,aw] at this ⊢; omega,by
   rw[cB,cB,hx',hy];simp only[kJ];rw[Cj _ _ _ _ gm,<-bZ,<-hP.2]⟩
  rw[hc] at hi;generalize (find t.ae x.ar).getD Node.zero=n at qg hi;generalize (find t.ae x.ar).isSome=b at qg hi;have qs:=fun M=>k88 x n (by have:=(hs.XO hm).1; omega) M
  have qw:=fun M=>k86 s.dR y c aI M
  generalize decide (x=n)=d at qs hi;generalize xH s.dR y c=w at qw hi;have r1:cq (P.length+1) 96=True:=qM;simp only[JY,JX,bM,aG,aQ,aM] at hi qs ⊢;cases b<;>cases d<;>cases w<;>simp only[cU,ew,er,fE,gG,dV,dZ,dW,af,aE,aD,c8,aW,aF,aR,aA,au,aw,aJ,mc,mP,aM] at hi<;>simp only[Qz,cL,hx',hy,hw,h0,qg,qs,qw,r1,bL,aM,mZ,EW,seval]<;>exact hi
def aaB(hs:Rt s.now)(hl:s.since.length=s.now.ae.length){P:List pv}{S:List Int}{i:Nat}{n:Node}(hn:t.ae[i]?=some n){k:List K}
  (hx:∀z,∃r,Q r/\kr (aq bW) [.dH 4 8] 0 k ⟨.exit 4,JX c++(6,.slice (.own 3) (P.map mc))::(11,.slice (.own 4) (S.map mZ))::(12,aH i)::(13,aH (rK s c n))::z,JY s t++[.tick 8 P.length,.tick 1 S.length]⟩=some r) :
  ∃r,Q r/\eX (aq bW) [.dH 4 8] 0 k (.loop [2,3,4,5,6,11,12,13,14] agW) (JX c++[(6,.slice (.own 3) (P.map mc)),(11,.slice (.own 4) (S.map mZ)),(12,aH i),(13,aH c),(14,aH 0)]) (JY s t++[.tick 8 P.length,.tick 1 S.length])=some r:=by
 have h200:=hs.sz.ae;have b1:((i:Int)<0)=False:=dv;refine jd (xs:=s.now.ae) aI (fun m (x:Int)=>(x=c/\∀(j:Nat),j<m->s.now.ae[j]?≠some n)\/∃j:Nat,j<m/\s.now.ae[j]?=some n/\s.since[j]?=some x) (fun(x:Int) j=>JX c++[(6,.slice (.own 3) (P.map mc)),(11,.slice (.own 4) (S.map mZ)),(12,aH i),(13,aH x),(14,aH j)]) (fun _=>JY s t++[.tick 8 P.length,.tick 1 S.length]) Q (fun x hI=>?_) (fun pre m post x e hx' cL hw h0 hm hI hi=>?_) c (.inl ⟨rfl,fun j hj=>aI⟩)
 ·have he:x=rK s c n:=by
   rcases Xg hs.lP.mB hl c n with ⟨j,j1,j2⟩|⟨j1,j2⟩<;>rcases hI with ⟨h1,h2⟩|⟨i,h1,h2,h3⟩
   ·exact absurd j1 (h2 j (aj.1 j1).1)
   ·have:=SG hs.lP.mB j1 h2 rfl;subst this;rw[j2] at h3; injection h3 with h3; exact h3.symm
   ·rw[h1,j2]
   ·exact absurd ((ig hs.lP.mB).2 ⟨aK h2,rfl⟩) j1
  subst he;simp only[JY,JX,bM,aG,aQ] at hx ⊢;simp only[Qz,bu,EW,seval];exact hx _
 ·have hlx:=(aj.1 hx').1;obtain⟨y,hy⟩:∃y,s.since[pre.length]?=some y:=⟨_,ai aI⟩;have qs:=fun M=>k88 m n (by have:=(hs.XO hm).1; omega) M
  have i1:m≠n->_:=fun hne=>hi x (by
   rcases hI with ⟨h1,h2⟩|⟨j,h1,h2⟩
   ·refine .inl ⟨h1,fun j hj=>?_⟩
    by_cases e:j=pre.length
    ·rw[e,hx']; exact fun hh=>hne (by injection hh)
    ·exact h2 j aI
   ·exact .inr ⟨j,aI,h2⟩)
  have i2:m=n->_:=fun he=>hi y (.inr ⟨pre.length,aI,by rw[hx',he],hy⟩)
  simp only[JY,JX,bM,aG,aQ,aM] at i1 i2 qs ⊢
  by_cases hd:m=n
  ·rw[kg hd] at qs;simp only[Qz,cL,hx',hy,hn,b1,hw,h0,qs,bL,aM,mZ,EW,seval];exact i2 hd
  ·rw[iZ hd] at qs;simp only[Qz,cL,hx',hy,hn,b1,hw,h0,qs,bL,aM,mZ,EW,seval];exact i1 hd
def aaC(hs:Rt s.now)(ht:Rt t)(hl:s.since.length=s.now.ae.length){P:List pv}{k:List K}
  (hx:∀z,∃r,Q r/\kr (aq bW) [.dH 4 8] 0 k ⟨.exit 2,JX c++(6,.slice (.own 3) (P.map mc))::(11,.slice (.own 4) ((t.ae.map (rK s c)).map mZ))::z,JY s t++[.tick 8 P.length,.tick 1 (t.ae.map (rK s c)).length]⟩=some r) :
  ∃r,Q r/\eX (aq bW) [.dH 4 8] 0 k (.loop [2,3,4,5,6,11,12] agX) (JX c++[(6,.slice (.own 3) (P.map mc)),(11,.slice (.own 4) []),(12,aH 0)]) (JY s t++[.tick 8 P.length,.tick 1 0])=some r:=by
 have h200:=ht.sz.ae;refine jd (xs:=t.ae) aI (fun m (S:List Int)=>S=(t.ae.take m).map (rK s c)) (fun S i=>JX c++[(6,.slice (.own 3) (P.map mc)),(11,.slice (.own 4) (S.map mZ)),(12,aH i)]) (fun S=>JY s t++[.tick 8 P.length,.tick 1 S.length]) Q (fun S hS=>?_) (fun pre n post S e hx' cL hw h0 hm hS hi=>?_) [] rfl
 ·rw[bF] at hS;simp only[<-hS,JY,JX,bM,aG,aQ] at hx ⊢;simp only[Qz,bu,EW,seval];exact hx _
 ·have hlx:=(aj.1 hx').1;have hSl:S.length=pre.length:=by rw[hS]; simp; omega
  have lb:=fun {k} h2=>aaB (s:=s) (t:=t) (Q:=Q) (c:=c) hs hl (P:=P) (S:=S) hx' (k:=k) h2
  have r1:cq (S.length+1) 8=True:=qM;have i1:=hi (S++[rK s c n]) (by rw[cB,hx',hS]; simp)
  simp only[JY,JX,bM,aG,aQ,aW,aF,aR,aA,au,aw,aJ,mZ] at lb i1 ⊢;simp only[Qz,cL,EW,seval];refine lb (fun z=>?_)
  simp only[Qz,hw,r1,uC,mZ,EW,seval];exact i1
end
def c49(s:iQ)(t:Tree)(hs:Rt s.now)(ht:Rt t)(hl:s.since.length=s.now.ae.length)(hk:s.dR.length<=16)(hp:s.eN.length<=90000):aq bW 49 [.agg (bM s),br t] []=some (.agg (bM (qA s t)),[]):=by
 have key:∃r:ag×aC,r=(.agg (bM (qA s t)),[])/\eX (aq bW) Pb.results 0 [] Pb.body (eG 0 [.agg (bM s),br t]) []=some r:=by
  have h200:=hs.sz.ae;have qs:=fun M=>k87 s.now t aI (fun n hn=>by have:=(hs.XO hn).1; omega) M
  unfold qA;cases hd:decide (s.now=t)<;>rw[hd] at qs
  ·have la:=fun {k Q} hx=>aaA (s:=s) (t:=t) (Q:=Q) (c:=IntKind.i64.wrap (s.tick+1)) hs ht hl hk hp (k:=k) hx
   have r1:cq s.eN.length 96=True:=qM;simp only[JY,JX,bM,aG,aQ] at la;simp only[Pb,Qz,bM,br,aN,qs,r1,EW,seval];refine la (fun z=>?_)
   have lc:=fun {k Q} hx=>aaC (s:=s) (t:=t) (Q:=Q) (c:=IntKind.i64.wrap (s.tick+1)) hs ht hl (P:=aa4 s t (IntKind.i64.wrap (s.tick+1))) (k:=k) hx
   simp only[JY,JX,bM,aG,aQ] at lc;simp only[Qz,EW,seval];refine lc (fun z=>?_)
   simp only[Qz,af,aD,EW,seval];exact⟨_,rfl,rfl⟩
  ·simp only[Pb,Qz,bM,br,aN,qs,aE,EW,seval];exact⟨_,rfl,rfl⟩
 obtain⟨_,rfl,h3⟩:=key;exact aB h3
def c79(s:iQ)(ar:Int)(hs:s.now.ae.length<=100000)(hk:s.dR.length<=16):∃i e,aq bW 79 [.agg (bM s),aH ar] []=some (.tuple [.agg (bM (takeN s ar).1),aH i,aH e],[]):=by
 have qg:=fun M=>Bi s.now.ae s.now.next s.now.ak ar hs M
 unfold takeN bl;generalize (find s.now.ae ar).getD Node.zero=n at qg;cases h1:(find s.now.ae ar).isSome<;>rw[h1] at qg
 ·refine⟨0,70,aB ?_⟩;simp only[Lu,E79,bM,bL,aM,qg,ew,aE,EW,seval]
 cases h2:n.kind != 2
 case true =>
  refine⟨0,73,aB ?_⟩;simp only[Lu,E79,bM,bL,aM,qg,h2,cU,af,aE,aD,EW,seval]
 simp only[qe];cases h3:decide (16<=(s.dR.length:Int))
 case true =>
  refine⟨0,76,aB ?_⟩;simp only[Lu,E79,bM,bL,aM,qg,h2,h3,cU,dJ,af,aE,aD,EW,seval]
 cases h4:decide (1099511627776<=s.next)
 case true =>
  refine⟨0,76,aB ?_⟩;simp only[Lu,E79,bM,bL,aM,qg,h2,h3,h4,cU,er,af,aE,aD,EW,seval]
 have h16:s.dR.length<16:=by simp at h3; omega
 have r1:cq s.dR.length 24=True:=qM;have r2:cq (s.dR.length+1) 24=True:=qM;refine⟨s.next,0,aB ?_⟩
 simp only[Lu,E79,bM,bL,aM,qg,h2,h3,h4,r1,r2,aW,kW,cU,fF,af,aD,EW,seval];rw[show kj (s.dR++[⟨s.next,ar,s.tick⟩]) = gU (s.dR.map kW++[.agg [aH s.next,aH ar,aH s.tick]]) by simp[kW,iB]]
end
def tJ(ae:List Node)(i:Int):Prop:=∃n,find ae i=some n/\n.kind=1
def Zr(ae:List Node):Prop:=o4 ae/\¬tJ ae 0
def KF(a b:List Node):Prop:=Zr b/\∀i,tJ a i->tJ b i
theorem KF.trans{a b c:List Node}(h:KF a b)(k:KF b c):KF a c:=⟨k.1,fun i hi=>k.2 i (h.2 i hi)⟩
def Rt.zr{t:Tree}(h:Rt t):Zr t.ae:=by
 obtain⟨dG,g⟩:=h;exact⟨g.lP.mB,fun⟨n,h1,_⟩=>by have:=(g.num _ _ h1).1; omega⟩
def KF.refl{a:List Node}(h:Zr a):KF a a:=⟨h,fun _ hi=>hi⟩
def DY{ae:List Node}(h:o4 ae){n:Node}(hn:tJ ae n.ar->n.kind=1){i:Int}(hi:tJ ae i):tJ (eT ae n) i:=by
 unfold tJ;rw[gr h];split
 ·rename_i e; exact⟨n,rfl,hn (e▸hi)⟩
 ·exact hi
def Zr.edit{ae:List Node}(h:Zr ae)(d:Int){n:Node}(h1:n.ar=(bl ae d).ar)(h2:n.kind=(bl ae d).kind):KF ae (eT ae n):=by
 have key:∀i,tJ ae i->i=n.ar->n.kind=1:=by
  intro i hi e;cases hd:find ae d with
  |none =>
   have:bl ae d=Node.zero:=by simp[bl,hd]
   rw[h1,this] at e;subst e;exact absurd hi h.2
  |some m =>
   have:bl ae d=m:=by simp[bl,hd]
   rw[this] at h1 h2;have hm:=(cD hd).2;obtain⟨x,g1,g2⟩:=hi;rw[e,h1,hm,hd] at g1;injection g1 with g1
   rw[h2,g1]; exact g2
 refine⟨⟨lQ h.1 n,fun⟨x,g1,g2⟩=>?_⟩,fun i hi=>DY h.1 (fun hf=>key _ hf rfl) hi⟩
 rw[gr h.1] at g1;split at g1
 ·rename_i e;injection g1 with g1
  subst g1;cases hd:find ae d with
  |none =>
   have:bl ae d=Node.zero:=by simp[bl,hd]
   rw[h2,this] at g2;cases g2
  |some m =>
   have:bl ae d=m:=by simp[bl,hd]
   rw[this] at h1 h2;have hm:=(cD hd).2;exact h.2 ⟨m,by rw[e,h1,hm]; exact hd,by rw[<-h2]; exact g2⟩
 ·exact h.2 ⟨x,g1,g2⟩
def Zr.B4{ae:List Node}(h:Zr ae)(d:Int){n:Node}(h1:n.ar=(bl ae d).ar)(h2:n.kind=(bl ae d).kind){i:Int}(hi:tJ (eT ae n) i):tJ ae i:=by
 obtain⟨x,g1,g2⟩:=hi;rw[gr h.1] at g1;split at g1
 ·rename_i e;injection g1 with g1
  subst g1;cases hd:find ae d with
  |none =>
   have:bl ae d=Node.zero:=by simp[bl,hd]
   rw[h2,this] at g2;cases g2
  |some m =>
   have:bl ae d=m:=by simp[bl,hd]
   rw[this] at h1 h2;exact⟨m,by rw[e,h1,(cD hd).2]; exact hd,by rw[<-h2]; exact g2⟩
 ·exact⟨x,g1,g2⟩
def Zr.ER{ae:List Node}(h:Zr ae)(k:Int){i:Int}(hi:tJ (fm ae k) i):tJ ae i:=by
 unfold fm at hi;split at hi
 ·obtain⟨x,g1,g2⟩:=hi;rw[mu h.1] at g1;split at g1
  ·cases g1
  ·exact⟨x,g1,g2⟩
 ·exact h.B4 k (by rfl) (by rfl) hi
def Zr.uY{ae:List Node}(h:Zr ae)(k:Int):Zr (fR ae k)/\∀i,tJ ae i->i≠k->tJ (fR ae k) i:=by
 refine⟨⟨rM h.1 k,fun⟨x,g1,g2⟩=>?_⟩,fun i hi hk=>?_⟩
 ·rw[mu h.1] at g1;split at g1
  ·cases g1
  ·exact h.2 ⟨x,g1,g2⟩
 ·unfold tJ;rw[mu h.1,aL hk]; exact hi
def Zr.unnamed{ae:List Node}(h:Zr ae)(k:Int):KF ae (fm ae k):=by
 unfold fm;split
 ·rename_i hk;obtain⟨g1,g2⟩:=h.uY k;refine⟨g1,fun i hi=>g2 i hi ?_⟩
  rintro rfl;obtain⟨n,h1,h2⟩:=hi;simp[bl,h1,h2] at hk
 ·exact h.edit k rfl rfl
def Jh{t:Tree}(h:Rt t)(k:Int){i:Int}(hi:tJ t.ae i)(hk:i≠k):tJ (kK t k).1.ae i:=by
 unfold kK
 repeat' split
 all_goals first|exact hi|exact(h.zr.uY k).2 i hi hk
def Zr.left{ae:List Node}(h:Zr ae)(d:Int)(s:Bytes):KF ae (dr ae d s):=h.edit d rfl rfl
def Zr.nM{t:Tree}(h:Zr t.ae)(d:Int)(s:Bytes)(o:Int):KF t.ae (im t d s o).ae:=h.edit d rfl rfl
def SY{t:Tree}(h:Rt t)(d:Int)(s:Bytes)(k:Int):KF t.ae (rU t d s k).1.ae:=by
 have hz:=h.zr;unfold rU;split
 ·exact KF.refl hz
 split
 ·exact KF.refl hz
 split
 ·exact KF.refl hz
 ·obtain⟨dG,g⟩:=h;have h0:¬tJ t.ae t.next:=fun⟨n,h1,_⟩=>by have:=(g.num _ _ h1).2; omega
  have h1:1<=t.next:=by
   obtain⟨r,g1,_⟩:=g.root;have:=(g.num _ _ g1).2; omega
  have hw:KF t.ae (eT t.ae ⟨t.next,k,1,[],[],if k==2 then d else 0⟩):=by
   refine⟨⟨lQ hz.1 _,fun⟨x,g1,g2⟩=>?_⟩,fun i hi=>DY hz.1 (fun hf=>absurd hf h0) hi⟩
   rw[gr hz.1,aL (show ¬((0:Int)=t.next) by omega)] at g1
   exact hz.2 ⟨x,g1,g2⟩
  exact hw.trans (Zr.nM (t:=⟨_,nz (t.next+1),t.ak⟩) hw.1 d s t.next)
def Ze{t:Tree}(h:Rt t)(i d:Int)(s:Bytes):KF t.ae (CK t i d s).1.ae:=by
 have hz:=h.zr;unfold CK;split
 ·exact KF.refl hz
 split
 ·exact KF.refl hz
 split
 ·exact KF.refl hz
 ·have hw:KF t.ae (eT t.ae { bl t.ae i with eo:=nz ((bl t.ae i).eo+1) }):=hz.edit i rfl rfl
  exact hw.trans (Zr.nM (t:=⟨_,t.next,t.ak⟩) hw.1 d s i)
def Zg{t:Tree}(h:Rt t)(d:Int)(s:Bytes):KF t.ae (BN t d s).1.ae:=by
 have hz:=h.zr;unfold BN;split
 ·exact KF.refl hz
 split
 ·exact KF.refl hz
 ·exact(hz.left d s).trans ((hz.left d s).1.unnamed _)
def Jk{t:Tree}(h:Rt t)(i:Int)(d:Bytes):KF t.ae (rP t i d).1.ae:=by
 have hz:=h.zr;unfold rP;split
 ·exact KF.refl hz
 split
 ·exact KF.refl hz
 split
 ·exact KF.refl hz
 ·exact hz.edit i rfl rfl
def Zf{t:Tree}(h:Rt t)(d:Int)(s:Bytes)(to:Int)(nm:Bytes):KF t.ae (wU t d s to nm).1.ae:=by
 have hz:=h.zr;unfold wU;split
 ·exact KF.refl hz
 split
 ·exact KF.refl hz
 split
 ·exact KF.refl hz
 split
 ·exact KF.refl hz
 split
 ·exact KF.refl hz
 split
 ·exact KF.refl hz
 split
 ·exact KF.refl hz
 ·generalize (fh t.ae d s).1=x;generalize jg (gW t.ae to).1.bc nm=y;unfold te;have h1:=hz.left d s
  have h2:KF t.ae (if y != 0 then fm (dr (dr t.ae d s) to nm) y else dr t.ae d s):=by
   split
   ·exact h1.trans ((h1.1.left to nm).trans ((h1.1.left to nm).1.unnamed y))
   ·exact h1
  split
  ·rename_i hk
   have hx:∃m,find t.ae x=some m/\bl t.ae x=m:=by
    cases hf:find t.ae x with
    |none=>simp[bl,hf,Node.zero] at hk
    |some m=>exact⟨m,rfl,by simp[bl,hf]⟩
   obtain⟨m,m1,m2⟩:=hx;rw[m2] at hk ⊢;have hmi:=(cD m1).2;have hmk:m.kind=2:=by simpa using hk
   have hb:∀i,tJ (if y != 0 then fm (dr (dr t.ae d s) to nm) y else dr t.ae d s) i->tJ t.ae i:=by
    intro i hi;split at hi
    ·exact hz.B4 d (by rfl) (by rfl) (h1.1.B4 to (by rfl) (by rfl) ((h1.1.left to nm).1.ER y hi))
    ·exact hz.B4 d (by rfl) (by rfl) hi
   generalize (if y != 0 then fm (dr (dr t.ae d s) to nm) y else dr t.ae d s)=B at h2 hb
   have hw:KF B (eT B { m with up:=to }):=by
    refine⟨⟨lQ h2.1.1 _,fun⟨z,g1,g2⟩=>?_⟩,fun i hi=>DY h2.1.1 (fun hf=>?_) hi⟩
    ·rw[gr h2.1.1] at g1;split at g1
     ·injection g1 with g1
      rw[<-g1] at g2;simp only at g2;omega
     ·exact h2.1.2 ⟨z,g1,g2⟩
    ·simp only at hf;rw[hmi] at hf;obtain⟨z,g1,g2⟩:=hb _ hf;rw[m1] at g1; injection g1 with g1
     rw[<-g1] at g2;omega
   exact(h2.trans hw).trans (Zr.nM (t:=⟨_,t.next,t.ak⟩) hw.1 to nm x)
  ·exact h2.trans (Zr.nM (t:=⟨_,t.next,t.ak⟩) h2.1 to nm x)
def Mk(ae:List Node)(m:List Bool)(v:Int):Prop:=∀(a:Nat)(y:Node),ae[a]?=some y->y.ar=v->m[a]?=some true
def Clo(ae:List Node)(ar:Int)(m:List Bool):Prop:=∀(i:Nat)(x:Node),ae[i]?=some x->(x.ar=ar\/m[i]?=some true)->∀e,e∈x.bc->Mk ae m e.ar
def nT(m:List Bool):Nat:=m.countP id
def ahd{m:List Bool}{a:Nat}(h:m[a]?=some false):nT (m.set a true)=nT m+1:=by
 have ha:=(aj.1 h).1;have hv:=(aj.1 h).2;unfold nT;rw[List.countP_set ha];simp[hv]
def aeo{ae:List Node}(h:o4 ae){a b:Nat}{x y:Node}(hx:ae[a]?=some x)(hy:ae[b]?=some y)(e:x.ar=y.ar):a=b:=by
 obtain⟨ha,rfl⟩:=aj.1 hx;obtain⟨hb,rfl⟩:=aj.1 hy;rcases iY a b with h1|h1|h1
 ·have:=cm.1 h _ _ ha hb h1; omega
 ·exact h1
 ·have:=cm.1 h _ _ hb ha h1; omega
def aeY{t:Tree}{dG:Int->Nat}(h:dU t dG 0){ar:Int}{m:List Bool}(hc:Clo t.ae ar m){v:Int}(hv:InB t.ae ar v):Mk t.ae m v:=by
 have step:∀ {d:Node},d∈t.ae->(d.ar=ar\/Mk t.ae m d.ar)->∀e,e∈d.bc->Mk t.ae m e.ar:=fun hd ho e he=>by
  obtain⟨a,ha⟩:=bV hd;exact hc a _ ha (ho.imp id fun hk=>hk a _ ha rfl) e he
 have key:∀(c:Nat)(i:Int)(n:Node),find t.ae i=some n->n.kind=2->dG i=c->iL t.ae i ar=true->i=ar\/Mk t.ae m i:=by
  intro c;induction c with
  |zero =>
   intro i n hi hk hd hb
   by_cases ho:i=ar
   ·exact .inl ho
   ·by_cases h1:i=1
    ·subst h1;rw[dU.qP (fun hh=>ho hh.symm)] at hb; cases hb
    ·have:=(h.qI _ _ hi hk h1).1; omega
  |succ c ih =>
   intro i n hi hk hd hb
   by_cases ho:i=ar
   ·exact .inl ho
   ·right;have h1:i≠1:=fun hh=>by subst hh; have:=h.CF; omega
    rw[h.su hi hk h1 ho] at hb;obtain⟨a,q,hq,hqk⟩:=h.qI _ _ hi hk h1;obtain⟨p,e',p1,p2,p3,p4⟩:=h.named hi hk h1 (by have:=(h.num _ _ hi).1; omega)
    have hp:=ih n.up p p1 p2 aI hb;have:=step (cD p1).1 (by rw[(cD p1).2]; exact hp) e' p3
    rwa[p4] at this
 obtain⟨d,e,hd,hk,hb,he,rfl⟩:=hv;exact step hd (key _ _ d ((ig h.lP.mB).2 ⟨hd,rfl⟩) hk rfl hb) e he
def ahS{ae:List Node}:∀ {a b:List Bool},a.length=ae.length->b.length=ae.length->(∀i:Nat,a[i]?=some true->b[i]?=some true)->nT a<=nT b/\HO ae a<=HO ae b:=by
 induction ae with
 |nil =>
  intro a b ha hb _;rw[dC ha,dC hb];exact⟨av _,av _⟩
 |cons n r ih =>
  intro a b ha hb hab;cases a with
  |nil=>cases ha
  |cons x a =>
  cases b with
  |nil=>cases hb
  |cons y b =>
  obtain⟨h1,h2⟩:=ih (a:=a) (b:=b) (by simpa using ha) (by simpa using hb) fun i hi=>by simpa using hab (i+1) (by simpa using hi)
  have h0:x=true->y=true:=fun e=>by simpa using hab 0 (by simp[e])
  simp only[nT,HO] at h1 h2 ⊢;simp only[lZ,List.zip_cons_cons,aF,List.sum_cons,id] at h1 h2 ⊢;cases x<;>cases y<;>simp at h0 ⊢ <;> omega
def Rj{t:Tree}(hr:Rt t){ar:Int}{m:List Bool}(hm:m.length=t.ae.length)(hc:Clo t.ae ar m):(lB t.ae ar).1<=nT m/\(lB t.ae ar).2<=HO t.ae m:=by
 rw[HL hr];obtain⟨dG,h⟩:=hr;obtain⟨q,h1,h2⟩:=xe t.ae ar
 have:=ahS (ae:=t.ae) (a:=sy t.ae ar) (b:=m) (by rw[h1]; simp) hm fun i hi=>by
  rw[h1,aY] at hi;obtain⟨n,hn,hq⟩:=aV.1 hi;exact aeY h hc ((h2 n).1 hq) i n hn rfl
 unfold nT at this ⊢;unfold OU;simp only;omega
def Y5{l:List dQ}(h:pz l)(ar:Int):F2 l ar=true↔∃x,x∈l/\x.ar=ar:=by
 have hl:=yd h ar;unfold F2 pn
 have hc:∀a b:Int,(qR a b==0)=true↔a=b:=fun a b=>by
  unfold qR;simp only[bj,eu];split
  ·constructor<;>intro<;>omega
  split
  ·constructor<;>intro<;>omega
  ·constructor<;>intro<;>omega
 have cL:∀a b:Int,decide (qR a b<0)=true↔a<b:=fun a b=>by
  unfold qR;simp only[bj];split
  ·constructor<;>intro<;>omega
  split
  ·constructor<;>intro<;>omega
  ·constructor<;>intro<;>omega
 constructor
 ·intro hq;split at hq
  ·rename_i x hx;exact⟨x,aK hx,(hc _ _).1 hq⟩
  ·cases hq
 ·rintro⟨x,hx,rfl⟩;obtain⟨i,hi⟩:=bV hx;have h1:=hl.lt i x hi;rw[cL] at h1
  have hge:wQ l x.ar<=i:=by
   rcases bD i (wQ l x.ar) with h2|h2
   ·have:=h1.2 h2; omega
   ·exact h2
  have hil:=(aj.1 hi).1;have hb:l[wQ l x.ar]?=some (l[wQ l x.ar]'(by omega)):=ai _;rw[hb];simp only;rw[hc];rcases bD (wQ l x.ar) i with h2|h2
  ·have h3:=hl.lt _ _ hb;rw[cL] at h3;have h4:=cm.1 h _ _ aI hil h2;have h5:=(aj.1 hi).2;rw[h5] at h4;have:=h3.1 h4;omega
  ·have:wQ l x.ar=i:=aI;have h5:=(aj.1 hi).2;simp only[this,h5]
def Dx{t:Tree}{dG:Int->Nat}(h:dU t dG 0)(l:List dQ):∀(f g:Nat)(i:Int)(n:Node),find t.ae i=some n->n.kind=2->dG i<f->dG i<g->sA t.ae l f i=sA t.ae l g i
 |0,_,_,_,_,_,hf,_=>aI
 |_+1,0,_,_,_,_,_,hg=>aI
 |f+1,g+1,i,n,hi,hk,hf,hg=>by
  rw[sA,sA];split
  ·rfl
  split
  ·rename_i h1;obtain⟨a,p,p1,p2⟩:=h.qI _ _ hi hk (by simpa using h1)
   have hn:bl t.ae i=n:=by simp[bl,hi]
   rw[hn];exact Dx h l f g n.up p p1 p2 aI aI
  ·rfl
def K9{t:Tree}{dG:Int->Nat}(h:dU t dG 0)(l:List dQ){i:Int}{n:Node}(hi:find t.ae i=some n)(hk:n.kind=2):mo t.ae l i=if F2 l i then i else if i=1 then 0 else mo t.ae l n.up:=by
 have hn:bl t.ae i=n:=by simp[bl,hi]
 unfold mo
 conv=>lhs; rw[sA]
 rw[hn]
 by_cases h1:i=1
 ·simp[h1]
 ·obtain⟨a,p,p1,p2⟩:=h.qI _ _ hi hk h1;have hd:=(h.deep _ _ hi hk).1;have h1':(i != 1)=true:=by simpa using h1
  rw[h1'];simp only[aE,h1,aD];rw[Dx h l 12 13 n.up p p1 p2 aI aI]
def Iy{t:Tree}{dG:Int->Nat}(h:dU t dG 0)(l:List dQ):∀(f:Nat)(i:Int)(n:Node),find t.ae i=some n->n.kind=2->0<=sA t.ae l f i
 |0,_,_,_,_=>dN 0
 |f+1,i,n,hi,hk=>by
  rw[sA];split
  ·have:=(h.num _ _ hi).1; omega
  split
  ·rename_i h1;obtain⟨_,p,p1,p2⟩:=h.qI _ _ hi hk (by simpa using h1)
   have hn:bl t.ae i=n:=by simp[bl,hi]
   rw[hn];exact Iy h l f n.up p p1 p2
  ·exact dN 0
def OD(t:Tree)(l:List dQ):Prop:=∀d1 e1 d2 e2 x,d1∈t.ae->e1∈d1.bc->d2∈t.ae->e2∈d2.bc->e1.ar=e2.ar->find t.ae e1.ar=some x->x.kind=1->mo t.ae l d1.ar=mo t.ae l d2.ar
def xf{t u:Tree}{dG:Int->Nat}(h:dU t dG 0)(hk:∀i n,find t.ae i=some n->n.kind=2->(bl u.ae i).up=n.up)(l:List dQ):∀(f:Nat)(i:Int)(n:Node),find t.ae i=some n->n.kind=2->sA u.ae l f i=sA t.ae l f i
 |0,_,_,_,_=>rfl
 |f+1,i,n,hi,hk2=>by
  have h1:bl t.ae i=n:=by simp[bl,hi]
  rw[sA,sA,h1,hk _ _ hi hk2];split
  ·rfl
  split
  ·rename_i hne;obtain⟨_,p,p1,p2⟩:=h.qI _ _ hi hk2 (by simpa using hne)
   exact xf h hk l f n.up p p1 p2
  ·rfl
def dU.Rx{t:Tree}{dG:Int->Nat}(h:dU t dG 0){d:Node}{e:gM}(hd:d∈t.ae)(he:e∈d.bc):find t.ae d.ar=some d/\d.kind=2:=by
 have hf:=(ig h.lP.mB).2 ⟨hd,rfl⟩;refine⟨hf,?_⟩;rcases h.kind _ _ hf with h1|h1
 ·rw[(h.file _ _ hf h1).1] at he; cases he
 ·exact h1
def XM(ae:List Node)(i:Int):Prop:=∃n,find ae i=some n/\n.kind=2
def RF(a b:List Node):Prop:=∀i,tJ b i->tJ a i\/find a i=none
def XM.no{a:List Node}{i:Int}(h:XM a i)(hf:tJ a i\/find a i=none):False:=by
 obtain⟨n,h1,h2⟩:=h;rcases hf with ⟨m,g1,g2⟩|h3
 ·rw[h1] at g1; cases g1; omega
 ·rw[h1] at h3; cases h3
def Rt.XM{t:Tree}(h:Rt t){i:Int}{n:Node}(hn:find t.ae i=some n)(hf:¬tJ t.ae i):XM t.ae i:=by
 obtain⟨dG,g⟩:=h;rcases g.kind _ _ hn with hk|hk
 ·exact absurd ⟨n,hn,hk⟩ hf
 ·exact⟨n,hn,hk⟩
def Zr.Cd{ae:List Node}(h:Zr ae)(d:Int)(s:Bytes){i:Int}(hi:tJ (dr ae d s) i):tJ ae i:=h.B4 d (by rfl) (by rfl) hi
def Zr.zN{t:Tree}(h:Zr t.ae)(d:Int)(s:Bytes)(o:Int){i:Int}(hi:tJ (im t d s o).ae i):tJ t.ae i:=h.B4 d (by rfl) (by rfl) hi
def ahH{t:Tree}(h:Rt t)(d:Int)(s:Bytes)(k:Int):RF t.ae (rU t d s k).1.ae:=by
 have hz:=h.zr;intro i hi;unfold rU at hi;split at hi
 ·exact .inl hi
 split at hi
 ·exact .inl hi
 split at hi
 ·exact .inl hi
 ·obtain⟨dG,g⟩:=h
  have h0:find t.ae t.next=none:=by
   cases hf:find t.ae t.next with
   |none=>rfl
   |some n=>have:=(g.num _ _ hf).2; omega
  have h1:1<=t.next:=by
   obtain⟨r,g1,_⟩:=g.root;have:=(g.num _ _ g1).2; omega
  have hw:Zr (eT t.ae ⟨t.next,k,1,[],[],if k==2 then d else 0⟩):=by
   refine⟨lQ hz.1 _,fun⟨x,g1,g2⟩=>?_⟩
   rw[gr hz.1,aL (show ¬((0:Int)=t.next) by omega)] at g1
   exact hz.2 ⟨x,g1,g2⟩
  obtain⟨x,g1,g2⟩:=Zr.zN (t:=⟨_,nz (t.next+1),t.ak⟩) hw d s t.next hi
  have g1:find (eT t.ae ⟨t.next,k,1,[],[],if k==2 then d else 0⟩) i=some x:=g1
  rw[gr hz.1] at g1
  by_cases e:i=t.next
  ·right; rw[e]; exact h0
  ·rw[aL e] at g1; exact .inl ⟨x,g1,g2⟩
def anL{t:Tree}(h:Rt t)(j d:Int)(s:Bytes):RF t.ae (CK t j d s).1.ae:=by
 have hz:=h.zr;intro i hi;unfold CK at hi;split at hi
 ·exact .inl hi
 split at hi
 ·exact .inl hi
 split at hi
 ·exact .inl hi
 ·have hw:KF t.ae (eT t.ae { bl t.ae j with eo:=nz ((bl t.ae j).eo+1) }):=hz.edit j rfl rfl
  exact .inl (hz.B4 j (by rfl) (by rfl) (Zr.zN (t:=⟨_,t.next,t.ak⟩) hw.1 d s j hi))
def anN{t:Tree}(h:Rt t)(d:Int)(s:Bytes):RF t.ae (BN t d s).1.ae:=by
 have hz:=h.zr;intro i hi;unfold BN at hi;split at hi
 ·exact .inl hi
 split at hi
 ·exact .inl hi
 ·exact .inl (hz.Cd d s ((hz.left d s).1.ER _ hi))
def WY{t:Tree}(h:Rt t)(j:Int)(d:Bytes):RF t.ae (rP t j d).1.ae:=by
 have hz:=h.zr;intro i hi;unfold rP at hi;split at hi
 ·exact .inl hi
 split at hi
 ·exact .inl hi
 split at hi
 ·exact .inl hi
 ·exact .inl (hz.B4 j (by rfl) (by rfl) hi)
def anM{t:Tree}(h:Rt t)(d:Int)(s:Bytes)(to:Int)(nm:Bytes):RF t.ae (wU t d s to nm).1.ae:=by
 have hz:=h.zr;intro i hi;left;unfold wU at hi;split at hi
 ·exact hi
 split at hi
 ·exact hi
 split at hi
 ·exact hi
 split at hi
 ·exact hi
 split at hi
 ·exact hi
 split at hi
 ·exact hi
 split at hi
 ·exact hi
 ·generalize (fh t.ae d s).1=x at hi;generalize jg (gW t.ae to).1.bc nm=y at hi;unfold te at hi;have h1:=hz.left d s
  have hb:∀i,tJ (if y != 0 then fm (dr (dr t.ae d s) to nm) y else dr t.ae d s) i->tJ t.ae i:=by
   intro i hi;split at hi
   ·exact hz.Cd d s (h1.1.Cd to nm ((h1.1.left to nm).1.ER y hi))
   ·exact hz.Cd d s hi
  have h2:Zr (if y != 0 then fm (dr (dr t.ae d s) to nm) y else dr t.ae d s):=by
   split
   ·exact((h1.1.left to nm).1.unnamed y).1
   ·exact h1.1
  refine hb i ?_;generalize (if y != 0 then fm (dr (dr t.ae d s) to nm) y else dr t.ae d s)=B at h2 hi
  split at hi
  ·rename_i hk;have hk2:(bl t.ae x).kind=2:=by simpa using hk
   have hw:∀j,tJ (eT B { bl t.ae x with up:=to }) j->tJ B j:=by
    rintro j ⟨z,g1,g2⟩;rw[gr h2.1] at g1;split at g1
    ·injection g1 with g1
     rw[<-g1] at g2;simp only at g2;omega
    ·exact⟨z,g1,g2⟩
   exact hw _ (Zr.zN (t:=⟨_,t.next,t.ak⟩) ⟨lQ h2.1 _,fun hf=>h2.2 (hw _ hf)⟩ to nm x hi)
  ·exact Zr.zN (t:=⟨_,t.next,t.ak⟩) h2 to nm x hi
def A3{t:Tree}(h:Rt t)(k i:Int):find (kK t k).1.ae i=if i=k/\∃n,find t.ae k=some n/\gS n=true then none else find t.ae i:=by
 have hz:=h.zr;obtain⟨dG,g⟩:=h;unfold kK;cases hf:find t.ae k with
 |none=>simp
 |some n =>
  have hn:bl t.ae k=n:=by simp[bl,hf]
  have hl:=g.eo _ _ hf;simp only[bX,cU,af,aD,hn];rcases g.kind _ _ hf with hk|hk
  ·have h1:(n.kind==2)=false:=by simp[hk]
   simp only[h1,af,aD];split
   ·rename_i h2;have h2':0<n.eo:=by simpa using h2
    have:gS n=false:=by simp[gS,hk]; omega
    simp[this]
   ·rename_i h2;have h2':¬0<n.eo:=by simpa using h2
    have h3:0<=n.eo:=by rw[hl]; split<;>omega
    have:gS n=true:=by simp[gS,hk]; omega
    rw[mu hz.1];simp[this]
  ·have h1:(n.kind==2)=true:=by simp[hk]
   have:gS n=false:=by simp[gS,hk]
   simp[h1,this]
def aaM{t:Tree}(hr:Rt t)(k:Int)(l:List dQ)(ho:OD t l):OD (kK t k).1 l:=by
 have hf:=A3 hr k;have hu:=(hr.free k).lP.mB;obtain⟨dG,h⟩:=hr
 have back:∀ {d:Node},d∈(kK t k).1.ae->d∈t.ae:=fun hd=>by
  have h1:=(ig hu).2 ⟨hd,rfl⟩;rw[hf] at h1;split at h1
  ·cases h1
  ·exact(cD h1).1
 have pU:∀i n,find t.ae i=some n->n.kind=2->(bl (kK t k).1.ae i).up=n.up:=fun i n h1 h2=>by
  unfold bl;rw[hf,aL,h1]
  ·rfl
  rintro⟨rfl,m,g1,g2⟩;rw[h1] at g1; cases g1;simp[gS,h2] at g2
 intro d1 e1 d2 e2 x h1 h2 h3 h4 h5 h6 h7;obtain⟨a1,a2⟩:=h.Rx (back h1) h2;obtain⟨b1,b2⟩:=h.Rx (back h3) h4
 have hx:find t.ae e1.ar=some x:=by
  rw[hf] at h6;split at h6
  ·cases h6
  ·exact h6
 unfold mo;rw[xf h pU l 13 _ _ a1 a2,xf h pU l 13 _ _ b1 b2];exact ho d1 e1 d2 e2 x (back h1) h2 (back h3) h4 h5 hx h7
def HG:Bytes->Bytes->List Bytes->Option (List Bytes)
 | [],cur,out=>if !fY cur||(out.length:Int)==12 then none else some (out++[cur])
 |b::r,cur,out=>if (b.toNat:Int) != 47 then HG r (cur++[b]) out else if !fY cur||(out.length:Int)==12 then none else HG r [] (out++[cur])
def pZ(s:Bytes):List Bytes×Int:=if s==[47] then ([],0) else match s with
 | []=>([],60)
 |b::r=>if (b.toNat:Int) != 47 then ([],60) else match HG r [] [] with
  |none=>([],60)
  |some l=>(l,0)
section
attribute [local irreducible] eX fM lC gK dX kr aq aU cr bJ
def ag9{s:Bytes}(hs:s.length<=100000){k:List K}{R:Option (List Bytes)->Option (ag×aC)}
  (hx:∀(l:List Bytes) z,kr (aq bW) [.tmp 2,.tmp 3] 0 k ⟨.exit 0,(0,.str s)::(4,.slice (.own 0) (l.map .str))::z,[.tick 1 l.length]⟩=R (some l))
  (hr:∀n,kr (aq bW) [.tmp 2,.tmp 3] 0 k ⟨.ret,[(2,.slice .c0 []),(3,aH 60)],[.tick 1 n]⟩=R none) :
  ∀(rest:Bytes)(n m:Nat)(cur:Bytes)(out:List Bytes),s.drop m=rest->m+rest.length=s.length->n<=m->(s.take m).drop n=cur->out.length<=12 ->
   eX (aq bW) [.tmp 2,.tmp 3] 0 k (.loop [0,4,5,6] ag3) [(0,.str s),(4,.slice (.own 0) (out.map .str)),(5,aH n),(6,aH m)] [.tick 1 out.length]=R (HG rest cur out):=by
 intro rest;induction rest with
 |nil =>
  intro n m cur out h1 h2 h3 h4 h5;simp only[aw,db] at h2;rw[bG];have e1:((m:Int)<=(s.length:Int))=True:=sk;have e2:((m:Int)<(s.length:Int))=False:=XQ;have e3:((n:Int)<=(m:Int))=True:=sk;have w1:IntKind.i64.wrap ((m:Int)+1)=(m:Int)+1:=gw aI aI;have e4:((m:Int)+1<=(s.length:Int))=False:=XQ;have hc:cur.length<=100000:=by rw[<-h4]; simp; omega
  have q:=fun M=>SS cur hc M
  have r1:cq (out.length+1) 16=True:=qM;have i1:=hx (out++[cur]);simp only[aW,aF,aR,aA,au,aw,aJ] at i1;rw[HG]
  cases h6:fY cur<;>rw[h6] at q<;>cases h7:(out.length:Int)==12 <;>
   simp only[QA,e1,e2,e3,h4,q,h7,dJ,cT,er,fE,aE,af,aD,EW,seval]<;>first|exact hr _|skip
  simp only[QA,r1,w1,EW,seval];rw[bG];simp only[QA,e4,EW,seval];exact i1 _
 |cons b r ih =>
  intro n m cur out h1 h2 h3 h4 h5;simp only[au] at h2;rw[bG];have e1:((m:Int)<=(s.length:Int))=True:=sk;have e2:((m:Int)<(s.length:Int))=True:=sk;have e3:((n:Int)<=(m:Int))=True:=sk;have w1:IntKind.i64.wrap ((m:Int)+1)=((m+1:Nat):Int):=by rw[gw aI aI]; rfl
  have hc:cur.length<=100000:=by rw[<-h4]; simp; omega
  have hb:s[m]?=some b:=by
   have:(s.drop m)[0]?=some b:=by rw[h1]; rfl
   simpa using this
  have hd:s.drop (m+1)=r:=by rw[<-List.drop_drop,h1]; rfl
  have hm:=(aj.1 hb).1
  have ht:(s.take (m+1)).drop n=cur++[b]:=by
   rw[cB,hb,kJ,List.drop_append_of_le_length gm,h4]
  have q:=fun M=>SS cur hc M
  have r1:cq (out.length+1) 16=True:=qM;have i1:=ih n (m+1) (cur++[b]) out hd aI aI ht h5;have i2:=fun h=>ih (m+1) (m+1) [] (out++[cur]) hd aI aI dv h
  simp only[aW,aF,aR,aA,au,aw,aJ] at i2;rw[HG];cases h8:(b.toNat:Int) != 47
  ·cases h6:fY cur<;>rw[h6] at q<;>cases h7:(out.length:Int)==12 <;>
    simp only[QA,e1,e2,e3,h4,hb,h8,q,h7,dJ,cT,er,fE,aE,af,aD,EW,seval]<;>first|exact hr _|skip
   have h9:out.length+1<=12:=by simp at h7; omega
   simp only[QA,r1,w1,EW,seval];exact i2 h9
  ·simp only[QA,e1,e2,hb,h8,w1,aE,EW,seval];exact i1
def c85(s:Bytes)(hs:s.length<=100000):aq bW 85 [.str s] []=some (.tuple [da (pZ s).1,aH (pZ s).2],[]):=by
 refine aB ?_;unfold pZ;cases h0:s==[47]
 ·cases s with
  |nil=>simp only[Pe,QA,h0,af,aD,EW,seval]; rfl
  |cons b r =>
   have h1:((b::r)==[])=false:=rfl;cases h8:(b.toNat:Int) != 47
   ·have hl:=fun {k R} hx hr=>ag9 hs (k:=k) (R:=R) hx hr r 1 1 [] [] rfl gm aI dv dv
    simp only[aR,aw] at hl;simp only[Pe,QA,h0,h1,h8,af,aD,EW,seval];refine hl (R:=fun o=>some (.tuple [da (match o with|none=>(([]:List Bytes),(60:Int))|some l=>(l,0)).1,aH (match o with|none=>(([]:List Bytes),(60:Int))|some l=>(l,0)).2],[])) (fun l z=>?_) (fun n=>?_)
    ·simp only[QA,EW,seval]
    ·simp only[QA,EW,seval]; rfl
   ·simp only[Pe,QA,h0,h1,h8,af,aD,aE,EW,seval]; rfl
 ·simp only[Pe,QA,h0,aE,EW,seval]; rfl
def k85 s hs:=cP (c85 s hs)
def zd(l:List Bytes)(s:Bytes):Bytes:=l.foldl (fun s x=>s++[47]++x) s
def Ni(l:List Bytes):Bytes:=if (l.length:Int)==0 then [47] else zd l []
def DZ:∀(l:List Bytes)(s:Bytes),(∀x,x∈l->x.length<=32)->(zd l s).length<=s.length+33*l.length
 | [],s,_=>by simp[zd]
 |x::l,s,h=>by
  have h1:=DZ l (s++[47]++x) fun y hy=>h y (bw _ hy)
  have h2:=h x bE;simp only[zd,cF,aA,au,aw] at h1 ⊢;omega
def aqv(l:List Bytes)(hl:l.length<=100)(h:∀x,x∈l->x.length<=32):aq bW 170 [da l] []=some (.str (Ni l),[]):=by
 refine aB ?_;unfold Ni;cases h0:(l.length:Int)==0<;>simp only[acA,XZ,h0,af,aD,aE,EW,seval]
 have key:∀ {k:List K} {R:Bytes->Option (ag×aC)} (hx:∀s z,kr (aq bW) [.tmp 2] 0 k ⟨.exit 0,(0,da l)::(3,.str s)::z,[]⟩=R s) (rest pre:List Bytes) (s:Bytes),l=pre++rest->s.length<=33*pre.length->eX (aq bW) [.tmp 2] 0 k (.loop [0,3,4] ZL) [(0,da l),(3,.str s),(4,aH pre.length)] []=R (zd rest s):=by
  intro k R hx rest;induction rest with
  |nil =>
   intro pre s e _;rw[bG];simp only[XZ,jM e,zd,nh,EW,seval];exact hx _ _
  |cons x r ih =>
   intro pre s e hs;rw[bG];have hxl:=h x (by rw[e]; simp)
   have hp:pre.length+1<=100:=by rw[e] at hl; simp at hl; omega
   have hw:=zy pre x;have i1:=ih (pre++[x]) (s++[47]++x) (by rw[e]; simp) gm
   have m1:(IntKind.i64.max<((s.length+1:Nat):Int))=False:=max_lt _ aI;have m2:(IntKind.i64.max<((s.length+1+x.length:Nat):Int))=False:=max_lt _ aI;simp only[aA,au,aw,aJ] at i1;simp only[zd,cF] at i1 ⊢;simp only[XZ,iM e,gQ e,hw,m1,m2,EW,seval];exact i1
 exact key (R:=fun s=>some (.str s,[])) (fun s z=>by simp only[XZ,EW,seval]) l [] [] rfl dv
def asz l hl h:=cP (aqv l hl h)
def abk:∀(rest cur:Bytes)(out l:List Bytes),HG rest cur out=some l->(∀x,x∈out->fY x=true)->out.length<=12->(∀x,x∈l->fY x=true)/\l.length<=12:=by
 have key:∀(cur:Bytes)(out:List Bytes),¬(!fY cur||(out.length:Int)==12)=true->(∀x,x∈out->fY x=true)->out.length<=12->(∀x,x∈out++[cur]->fY x=true)/\(out++[cur]).length<=12:=by
  intro cur out h1 h2 h3;simp only[cS,gN,eu,pb,Bool.not_eq_false] at h1;refine⟨fun x hx=>?_,gm⟩
  rcases bo.1 hx with hx|hx
  ·exact h2 x hx
  ·rw[bQ.1 hx]; exact h1.1
 intro rest;induction rest with
 |nil =>
  intro cur out l h h1 h2;rw[HG] at h;split at h
  ·cases h
  ·rename_i hc;cases h;exact key cur out hc h1 h2
 |cons b r ih =>
  intro cur out l h h1 h2;rw[HG] at h;split at h
  ·exact ih _ _ _ h h1 h2
  split at h
  ·cases h
  ·rename_i hc;obtain⟨k1,k2⟩:=key cur out hc h1 h2;exact ih _ _ _ h k1 k2
def yj(s:Bytes):(∀x,x∈(pZ s).1->fY x=true)/\(pZ s).1.length<=12:=by
 unfold pZ;split
 ·simp
 split
 ·simp
 split
 ·simp
 split
 ·simp
 ·rename_i h;exact abk _ _ _ _ h dv dv
def Cb(s:Bytes):Bytes×Bytes×Int:=if (pZ s).2 != 0||(((pZ s).1.length:Int)==0) then ([],[],60) else ((pZ s).1.getLast?.getD [],Ni (pZ s).1.dropLast,0)
def apN(s:Bytes)(hs:s.length<=100000):aq bW 116 [.str s] []=some (.tuple [.str (Cb s).1,.str (Cb s).2.1,aH (Cb s).2.2],[]):=by
 refine aB ?_;have q:=fun M=>k85 s hs M
 obtain⟨o1,o2⟩:=yj s;unfold Cb;generalize pZ s=X at q o1 o2;obtain⟨l,e⟩:=X;simp only at q o1 o2 ⊢;cases h1:e != 0
 ·cases h2:(l.length:Int)==0
  ·obtain⟨A,x,rfl⟩:∃A x,l=A++[x]:=by
    refine⟨l.dropLast,l.getLast (by rintro rfl; simp at h2),(List.dropLast_concat_getLast _).symm⟩
   have qj:=fun M=>asz A (by simp at o2; omega) (fun y hy=>qT (o1 y (by simp[hy]))) M
   simp only[aA,au,aw,aJ] at h2 o2;have w1:IntKind.i64.wrap (((A.length+1:Nat):Int)-1)=(A.length:Int):=by rw[gw aI aI]; omega
   have a1:(A++[x])[A.length]?=some x:=dv;have a2:((A.length:Int)<((A.length+1:Nat):Int))=True:=sk;have a3:((A.length:Int)<=((A.length+1:Nat):Int))=True:=sk;have a4:((A.length:Int)<0)=False:=dv;have a5:(A++[x]).take A.length=A:=dv;simp only[MS,adZ,q,h1,h2,w1,a2,a3,a4,a1,<-eP,a5,qj,fF,fE,af,aD,List.getLast?_append,List.getLast?_singleton,List.dropLast_concat,bm,Option.or_some,Option.some_or,EW,seval]
  ·simp only[MS,adZ,q,h1,h2,er,cT,aE,EW,seval]
 ·simp only[MS,adZ,q,h1,dJ,aE,EW,seval]
def Az(ae:List Node):List Bytes->Int->Int×Int
 | [],a=>(a,0)
 |x::r,a=>if (fh ae a x).2 != 0 then (0,(fh ae a x).2) else Az ae r (fh ae a x).1
def Cy(ae:List Node)(s:Bytes):Int×Int:=if (pZ s).2 != 0 then (0,(pZ s).2) else Az ae (pZ s).1 1
def c66(t:Tree)(s:Bytes)(ht:Small t)(hs:s.length<=100000):aq bW 66 [br t,.str s] []=some (.tuple [aH (Cy t.ae s).1,aH (Cy t.ae s).2],[]):=by
 refine aB ?_;have q:=fun M=>k85 s hs M
 obtain⟨o1,o2⟩:=yj s;unfold Cy;generalize pZ s=X at q o1 o2;obtain⟨l,e⟩:=X;simp only at q o1 o2 ⊢;cases h1:e != 0<;>simp only[alG,E66,br,aN,q,h1,af,aD,aE,EW,seval]
 refine AZ (xs:=l) aI (Az t.ae) (fun a i=>[(2,cu 0),(6,da l),(8,aH a),(9,aH i)]) (fun _=>[cv [ba t.ae,aH t.next,aH t.ak]]) (fun p=>some (.tuple [aH p.1,aH p.2],([]:aC))) (fun a=>?_) (fun pre x post a h hx cL hw h0 hm hi=>?_) 1
 ·simp only[E66,bu,Az,EW,seval]
 ·have ql:=fun M=>k72 t.ae t.next t.ak a x ht (by have:=qT (o1 x hm); omega) M
  rw[Az];have i1:=hi (fh t.ae a x).1;generalize fh t.ae a x=u at ql i1;cases h2:u.2 != 0<;>simp only[E66,cL,hx,hw,ql,h2,af,aD,aE,EW,seval]
  exact i1
def k66(ae:List Node)(next ak:Int)(s:Bytes)(ht:Small ⟨ae,next,ak⟩)(hs:s.length<=100000)(M:aC):aU (aq bW) 66 [.agg [ba ae,aH next,aH ak],.str s] M=some (.tuple [aH (Cy ae s).1,aH (Cy ae s).2],M):=cO (c66 ⟨ae,next,ak⟩ s ht hs) M
end
def rI(q:dQ):List dQ->Bool->List dQ
 | [],d=>if d then [] else [q]
 |x::r,d=>(if !d&&decide (q.ar<=x.ar) then [q] else [])++((if x.ar != q.ar then [x] else [])++rI q r (d||decide (q.ar<=x.ar)))
def zt(q:dQ):∀l,rI q l true=l.filter fun x=>x.ar != q.ar
 | []=>rfl
 |x::r=>by
  rw[rI,dJ,zt q r,eZ];cases x.ar != q.ar<;>rfl
theorem Mh(q x:dQ)(r:List dQ):rI q (x::r) false=if q.ar<=x.ar then q::(x::r).filter fun x=>x.ar != q.ar else x::rI q r false:=by
 rw[rI]
 by_cases h:q.ar<=x.ar
 ·rw[aX h,kg h,cT,zt,eZ];cases x.ar != q.ar<;>rfl
 grind
theorem Gx(q:dQ):∀l,pz l->pz (rI q l false)/\(∀y,y∈rI q l false->y=q\/y∈l)/\(rI q l false).length<=l.length+1/\((∃x,x∈l/\x.ar=q.ar)->(rI q l false).length<=l.length)
 | [],_=>⟨List.pairwise_singleton _ _,fun y hy => .inl (by grind [rI]),av _,fun⟨x,h,_⟩=>ka⟩
 |x::r,h=>by
  have hc:=dj.1 h;obtain⟨i1,i2,i3,i4⟩:=Gx q r hc.2;rw[Mh]
  grind [List.pairwise_cons]
section
attribute [local irreducible] eX fM lC gK dX kr aq aU cr bJ
def ap3(t:Tree)(ar:Int)(ht:t.ae.length<=100000):aq bW 133 [br t,aH ar] []=some (.bool ((find t.ae ar).isSome&&(bl t.ae ar).kind==2),[]):=by
 refine aB ?_;have q:=fun M=>Bi t.ae t.next t.ak ar ht M
 have hz:(find t.ae ar).getD Node.zero=bl t.ae ar:=rfl;rw[hz] at q;generalize bl t.ae ar=n at q
 cases h1:(find t.ae ar).isSome<;>rw[h1] at q<;>cases h2:n.kind==2 <;>
  simp only[aci,aow,br,aN,q,h2,bL,aM,dV,EW,seval]
def amf(ae:List Node)(next ak ar:Int)(h:ae.length<=100000)(M:aC):aU (aq bW) 133 [.agg [ba ae,aH next,aH ak],aH ar] M=some (.bool ((find ae ar).isSome&&(bl ae ar).kind==2),M) :=
 cO (ap3 ⟨ae,next,ak⟩ _ h) M
def Plc(ae:List Node)(ar n:Int):Prop:=(n = -1/\∀y,y∈ae->y.ar≠ar)\/∃(i:Nat) (y:Node),ae[i]?=some y/\y.ar=ar/\n=i
def arj(t:Tree)(ar:Int)(ht:t.ae.length<=100000):∃n:Int,aq bW 237 [br t,aH ar] []=some (aH n,[])/\Plc t.ae ar n:=by
 have key:∃r:ag×aC,(∃n:Int,r=(aH n,[])/\Plc t.ae ar n)/\eX (aq bW) M5.results 0 [] M5.body (eG 0 [br t,aH ar]) []=some r:=by
  simp only[M5,aei,br,aN,EW,seval];refine jd (xs:=t.ae) aI (fun m (_:Unit)=>∀y,y∈t.ae.take m->y.ar≠ar) (fun _ i=>[(1,aH ar),(2,cu 0),(5,aH i)]) (fun _=>[cv [ba t.ae,aH t.next,aH t.ak]]) _ (fun _ hq=>?_) (fun pre x post _ e hx cL hw h0 hm hq hi=>?_) () (fun y hy=>by simp at hy)
  ·simp only[aei,bu,EW,seval];exact⟨_,⟨-1,rfl,.inl ⟨rfl,by rwa[bF] at hq⟩⟩,rfl⟩
  ·have htk:t.ae.take (pre.length+1)=t.ae.take pre.length++[x]:=by rw[cB,hx]; rfl
   have i1:=fun h=>hi () (fun y hy=>by
    rw[htk] at hy;exact(bo.1 hy).elim (hq y) fun hy=>by rw[bQ.1 hy]; exact h)
   cases h1:x.ar==ar<;>simp only[aei,cL,hx,hw,h1,bL,aM,EW,seval]
   ·exact i1 (by simpa using h1)
   ·exact⟨_,⟨_,rfl,.inr ⟨_,x,hx,by simpa using h1,rfl⟩⟩,rfl⟩
 obtain⟨_,⟨n,rfl,h1⟩,h3⟩:=key;exact⟨n,aB h3,h1⟩
theorem akF(l:List dQ)(ar:Int)(hn:l.length<=100000):∃n:Int,aq bW 135 [cN l,aH ar] []=some (aH n,[])/\(0<=n↔∃x,x∈l/\x.ar=ar):=by
 have key:∃r:ag×aC,(∃n:Int,r=(aH n,[])/\(0<=n↔∃x,x∈l/\x.ar=ar))/\eX (aq bW) MU.results 0 [] MU.body (eG 0 [cN l,aH ar]) []=some r:=by
  simp only[MU,ad2,EW,seval];refine jd (xs:=l) aI (fun m (_:Unit)=>∀y,y∈l.take m->y.ar≠ar) (fun _ i=>[(0,cN l),(1,aH ar),(5,aH i)]) (fun _=>[]) _ (fun _ hq=>?_) (fun pre x post _ e hx cL hw h0 hm hq hi=>?_) () (fun y hy=>by simp at hy)
  ·simp only[ad2,bu,EW,seval];rw[bF] at hq
   grind
  ·have htk:l.take (pre.length+1)=l.take pre.length++[x]:=by rw[cB,hx]; rfl
   have i1:=fun h=>hi () (fun y hy=>by
    rw[htk] at hy;exact(bo.1 hy).elim (hq y) fun hy=>by rw[bQ.1 hy]; exact h)
   cases h1:x.ar==ar<;>simp only[ad2,cL,hx,hw,h1,gA,iV,EW,seval]
   ·exact i1 (by simpa using h1)
   grind
 obtain⟨_,⟨n,rfl,h1⟩,h3⟩:=key;exact⟨n,aB h3,h1⟩
abbrev BL(n:Nat):={ m:List Bool // m.length=n }
def XJ(ae:List Node)(m0:List Bool)(P:List gM->Prop)(s:Bool×List Bool):Prop:=(s.1=false->s.2=m0/\∀L,P L->∀e,e∈L->Mk ae m0 e.ar)/\(s.1=true->nT m0<nT s.2)
abbrev Fj(t:Tree)(m:List Bool):aC:=[.cells [ba t.ae,.int .i64 t.next,.int .i64 t.ak],.arr 1 0 (m.map ag.bool)]
section
variable {t:Tree} {ar by':Int} {Q:ag×aC->Prop}
def VN(ht:t.ae.length<=100000)(hasc:o4 t.ae){m0:List Bool}{P:List gM->Prop}{i:Nat}{x:Node}(hxi:t.ae[i]?=some x)(hxe:x.bc.length<=100000){k:List K}
  (hx:∀(s:Bool×BL t.ae.length) z,XJ t.ae m0 (fun L=>P L\/L=x.bc) (s.1,s.2.1)->∃r,Q r/\kr (aq bW) [.tmp 4] 0 k ⟨.exit 4,(1,aH ar)::(2,cu 0)::(5,.cz 1 0 1 0 t.ae.length)::(6,aH by')::(7,.bool s.1)::(8,aH i)::z,Fj t s.2.1⟩=some r) (s:Bool×BL t.ae.length) (hs0:XJ t.ae m0 P (s.1,s.2.1)) :
  ∃r,Q r/\eX (aq bW) [.tmp 4] 0 k (.loop [1,2,5,6,7,8,9] ZP) [(1,aH ar),(2,cu 0),(5,.cz 1 0 1 0 t.ae.length),(6,aH by'),(7,.bool s.1),(8,aH i),(9,aH 0)] (Fj t s.2.1)=some r:=by
 have b1:((i:Int)<0)=False:=dv;refine jd (xs:=x.bc) aI (fun j (s:Bool×BL t.ae.length)=>XJ t.ae m0 (fun L=>P L\/L=x.bc.take j) (s.1,s.2.1)) (fun(s:Bool×BL t.ae.length) j=>[(1,aH ar),(2,cu 0),(5,.cz 1 0 1 0 t.ae.length),(6,aH by'),(7,.bool s.1),(8,aH i),(9,aH j)]) (fun s=>Fj t s.2.1) Q (fun s hs=>?_) (fun pre e post s h hx' cL hw h0 hm hs hi=>?_) s ⟨fun h=>⟨(hs0.1 h).1,fun L hL=>hL.elim ((hs0.1 h).2 L) fun hL e he=>by rw[hL] at he; simp at he⟩,hs0.2⟩
 ·simp only[CA,bu,hxi,bL,aM,EW,seval];rw[bF] at hs;exact hx s _ hs
 ·obtain⟨n,q,hn⟩:=arj t e.ar ht;have qp:=cP q;simp only[br,aN] at qp;have hm2:=s.2.2;have htk:x.bc.take (pre.length+1)=x.bc.take pre.length++[e]:=by rw[cB,hx']; rfl
  have same:(s.1=false->Mk t.ae m0 e.ar)->XJ t.ae m0 (fun L=>P L\/L=x.bc.take (pre.length+1)) (s.1,s.2.1):=fun hk=>⟨fun h=>⟨(hs.1 h).1,fun L hL e' he=>by
   rcases hL with hL|hL
   ·exact(hs.1 h).2 L (.inl hL) e' he
   ·rw[hL,htk] at he;rcases bo.1 he with he|he
    ·exact(hs.1 h).2 _ (.inr rfl) e' he
    ·rw[bQ.1 he]; exact hk h⟩,hs.2⟩
  rcases hn with ⟨rfl,hno⟩|⟨a,y,hay,hye,rfl⟩
  ·have i1:=hi s (same fun _ a y h1 h2=>absurd h2 (hno y (aK h1)))
   simp only[CA,cL,hx',hw,hxi,qp,bL,aM,iG,fU,EW,seval];exact i1
  ·have ha:=(aj.1 hay).1;have a0:((a:Int)<0)=False:=dv;have a1:((a:Int)<(t.ae.length:Int))=True:=ka;have a2:(a<t.ae.length)=True:=sk;have a3:(0<=(a:Int))=True:=dv;have a4:(a<s.2.1.length)=True:=sk;obtain⟨b,hb⟩:∃b,s.2.1[a]?=some b:=⟨_,ai aI⟩;cases b
   ·have i1:=hi (true,⟨s.2.1.set a true,by simp[hm2]⟩) ⟨fun h=>(by cases h),fun _=>by
     simp only[ahd hb];cases h1:s.1 with
     |false=>have:=(hs.1 h1).1; simp only at this; rw[this]; omega
     |true=>have:=hs.2 h1; simp only at this; omega⟩
    simp only[CA,cL,hx',hw,hxi,qp,a1,a3,hb,Gy,bK,bL,aM,iG,fU,EW,seval];omega
   ·have i1:=hi s (same fun h1 a' y' g1 g2=>by
     have:=aeo hasc g1 hay (by rw[g2,hye])
     have he:=(hs.1 h1).1;simp only at he;rw[this,<-he]; exact hb)
    simp only[CA,cL,hx',hw,hxi,qp,a1,a3,hb,bK,bL,aM,iG,fU,EW,seval];exact i1
theorem VO(ht:t.ae.length<=100000)(he:∀n,n∈t.ae->n.bc.length<=100000)(hasc:o4 t.ae){m0:List Bool}{k:List K}
  (hx:∀(s:Bool×BL t.ae.length) z,XJ t.ae m0 (fun L=>∃(i:Nat) (x:Node),t.ae[i]?=some x/\(x.ar=ar\/m0[i]?=some true)/\L=x.bc) (s.1,s.2.1)->∃r,Q r/\kr (aq bW) [.tmp 4] 0 k ⟨.exit 2,(1,aH ar)::(2,cu 0)::(5,.cz 1 0 1 0 t.ae.length)::(6,aH by')::(7,.bool s.1)::z,Fj t s.2.1⟩=some r) (s:Bool×BL t.ae.length) (hs0:XJ t.ae m0 (fun _=>False) (s.1,s.2.1)) :
  ∃r,Q r/\eX (aq bW) [.tmp 4] 0 k (.loop [1,2,5,6,7,8] ZQ) [(1,aH ar),(2,cu 0),(5,.cz 1 0 1 0 t.ae.length),(6,aH by'),(7,.bool s.1),(8,aH 0)] (Fj t s.2.1)=some r:=by
 refine jd (xs:=t.ae) aI (fun j (s:Bool×BL t.ae.length)=>XJ t.ae m0 (fun L=>∃(i:Nat) (x:Node),i<j/\t.ae[i]?=some x/\(x.ar=ar\/m0[i]?=some true)/\L=x.bc) (s.1,s.2.1)) (fun(s:Bool×BL t.ae.length) j=>[(1,aH ar),(2,cu 0),(5,.cz 1 0 1 0 t.ae.length),(6,aH by'),(7,.bool s.1),(8,aH j)]) (fun s=>Fj t s.2.1) Q (fun s hs=>?_) (fun pre x post s h hx' cL hw h0 hm hs hi=>?_) s ⟨fun h=>⟨(hs0.1 h).1,fun L ⟨i,x,hi,_⟩=>aI⟩,hs0.2⟩
 ·simp only[CA,bu,EW,seval];exact hx s _ ⟨fun h=>⟨(hs.1 h).1,fun L ⟨i,x,h1,h2,h3⟩=>(hs.1 h).2 L ⟨i,x,(aj.1 h1).1,h1,h2,h3⟩⟩,hs.2⟩
 ·have hl:=(aj.1 hx').1;have hm2:=s.2.2;have a4:(pre.length<s.2.1.length)=True:=sk;have a2:(pre.length<t.ae.length)=True:=sk;obtain⟨b,hb⟩:∃b,s.2.1[pre.length]?=some b:=⟨_,ai aI⟩;have la:=fun {k} hx2=>VN (t:=t) (ar:=ar) (by':=by') (Q:=Q) ht hasc hx' (he x hm) (k:=k) hx2 s hs
  have fin:∀(s':Bool×BL t.ae.length),XJ t.ae m0 (fun L=>(∃(i:Nat) (x:Node),i<pre.length/\t.ae[i]?=some x/\(x.ar=ar\/m0[i]?=some true)/\L=x.bc)\/L=x.bc) (s'.1,s'.2.1)->XJ t.ae m0 (fun L=>∃(i:Nat) (x:Node),i<pre.length+1/\t.ae[i]?=some x/\(x.ar=ar\/m0[i]?=some true)/\L=x.bc) (s'.1,s'.2.1):=fun s' h'=>⟨fun h=>⟨(h'.1 h).1,fun L ⟨i,x',h1,h2,h3,h4⟩=>(h'.1 h).2 L (by
   grind)⟩,h'.2⟩
  have skip:b=false->x.ar≠ar->XJ t.ae m0 (fun L=>∃(i:Nat) (x:Node),i<pre.length+1/\t.ae[i]?=some x/\(x.ar=ar\/m0[i]?=some true)/\L=x.bc) (s.1,s.2.1):=fun hbf hne=>⟨fun h=>⟨(hs.1 h).1,fun L ⟨i,x',h1,h2,h3,h4⟩=>(hs.1 h).2 L (by
   by_cases hip:i=pre.length
   ·exfalso;have e0:=(hs.1 h).1
    grind
   ·exact⟨i,x',aI,h2,h3,h4⟩)⟩,hs.2⟩
  cases b<;>cases h1:x.ar != ar <;>
   simp only[CA,cL,hx',hw,hb,h1,bK,bL,aM,EW,seval]
  all_goals first
   |exact hi s (skip rfl (by simpa using h1))
   |(refine la (fun s' z hs'=>?_)
     have i1:=hi s' (fin s' hs');simp only[CA,hw,EW,seval];exact i1)
theorem VP(ht:t.ae.length<=100000)(he:∀n,n∈t.ae->n.bc.length<=100000)(hasc:o4 t.ae){k:List K}
  (hx:∀(m:BL t.ae.length) z,Clo t.ae ar m.1->∃r,Q r/\kr (aq bW) [.tmp 4] 0 k ⟨.exit 0,(1,aH ar)::(2,cu 0)::(5,.cz 1 0 1 0 t.ae.length)::z,Fj t m.1⟩=some r)
  (hr:∀(m:BL t.ae.length),Clo t.ae ar m.1->∃r,Q r/\kr (aq bW) [.tmp 4] 0 k ⟨.ret,[(4,.cz 1 0 1 0 t.ae.length)],Fj t m.1⟩=some r) (m:BL t.ae.length) :
  ∃r,Q r/\eX (aq bW) [.tmp 4] 0 k (.loop [1,2,5,6] ZR) [(1,aH ar),(2,cu 0),(5,.cz 1 0 1 0 t.ae.length),(6,aH 0)] (Fj t m.1)=some r:=by
 refine jd (xs:=t.ae) aI (fun j (m:BL t.ae.length)=>j<=nT m.1) (fun(_:BL t.ae.length) j=>[(1,aH ar),(2,cu 0),(5,.cz 1 0 1 0 t.ae.length),(6,aH j)]) (fun m=>Fj t m.1) Q (fun m hm=>?_) (fun pre x post m h hx' cL hw h0 hm hj hi=>?_) m (cQ _)
 ·simp only[CA,bu,EW,seval];refine hx m _ fun i x h1 _ e _ a y h3 _=>?_
  have h4:nT m.1=m.1.length:=Nat.le_antisymm (nA) (by rw[m.2]; exact hm)
  have ha:=(aj.1 h3).1;have h5:=List.countP_eq_length.1 h4 (m.1[a]'(by rw[m.2]; exact ha)) (js _)
  grind
 ·have lb:=fun {k} hx2=>VO (t:=t) (ar:=ar) (by':=pre.length) (Q:=Q) ht he hasc (m0:=m.1) (k:=k) hx2 (false,m) ⟨fun _=>⟨rfl,fun _ h=>h.elim⟩,fun h=>by cases h⟩
  simp only[CA,cL,EW,seval];refine lb (fun s z hs=>?_)
  obtain⟨b,m'⟩:=s;cases b<;>simp only[CA,hw,EW,seval]
  ·obtain⟨e0,hc⟩:=hs.1 rfl;simp only at e0;exact hr m' (by rw[e0]; exact fun i x h1 h2 e he=>hc x.bc ⟨i,x,h1,h2,rfl⟩ e he)
  ·have:=hs.2 rfl;simp only at this;exact hi m' aI
end
def aqB(t:Tree)(ar:Int)(ht:t.ae.length<=100000)(he:∀n,n∈t.ae->n.bc.length<=100000)(hasc:o4 t.ae):∃m:List Bool,aq bW 176 [br t,aH ar] []=some (gU (m.map ag.bool),[])/\m.length=t.ae.length/\Clo t.ae ar m:=by
 have key:∃r:ag×aC,(∃m:List Bool,r=(gU (m.map ag.bool),[])/\m.length=t.ae.length/\Clo t.ae ar m)/\eX (aq bW) IY.results 0 [] IY.body (eG 0 [br t,aH ar]) []=some r:=by
  have r1:cq t.ae.length 8=True:=qM
  have hrep:List.replicate t.ae.length (ag.agg [ag.bool false]).norm=(List.replicate t.ae.length false).map ag.bool:=by
   rw[gX]; rfl
  have lc:=fun {k Q} hx hr=>VP (t:=t) (ar:=ar) (Q:=Q) ht he hasc (k:=k) hx hr ⟨List.replicate t.ae.length false,dv⟩
  simp only[IY,CA,br,aN,r1,hrep,EW,seval];refine lc (fun m z hc=>?_) (fun m hc=>?_) <;>
  ·have hm:=m.2;have htk:(m.1.map ag.bool).take t.ae.length=m.1.map ag.bool:=bB ka;simp only[CA,htk,EW,seval];exact⟨_,⟨m.1,rfl,hm,hc⟩,rfl⟩
 obtain⟨_,⟨m,rfl,h1⟩,h3⟩:=key;exact⟨m,aB h3,h1⟩
def Ka{A:List Node}{B:List Bool}(h:A.length=B.length)(n:Node)(b:Bool):HO (A++[n]) (B++[b])=HO A B+if b then n.data.length else 0:=by
 unfold HO;rw[List.zip_append h];simp
def Xr:∀(A:List Node)(B:List Bool),(∀n,n∈A->n.data.length<=4096)->HO A B<=4096*A.length
 | [],_,_=>by simp[HO]
 |n::A,[],_=>by simp[HO]
 |n::A,b::B,h=>by
  have h1:=Xr A B fun x hx=>h x (bw _ hx)
  have h2:=h n bE;simp only[HO,List.zip_cons_cons,aF,List.sum_cons,au] at h1 ⊢;split<;>omega
def akE(t:Tree)(ar:Int)(hr:Rt t):∃a b:Int,aq bW 134 [br t,aH ar] []=some (.tuple [aH a,aH b],[])/\(lB t.ae ar).1<=a/\(lB t.ae ar).2<=b:=by
 have h200:=hr.sz.ae
 have key:∃r:ag×aC,(∃a b:Int,r=(.tuple [aH a,aH b],[])/\(lB t.ae ar).1<=a/\(lB t.ae ar).2<=b)/\eX (aq bW) MT.results 0 [] MT.body (eG 0 [br t,aH ar]) []=some r:=by
  obtain⟨m,q,hm,hc⟩:=aqB t ar aI (fun n hn=>by have:=(hr.XO hn).1; omega) hr.lP.mB
  have qu:=cP q;have qd:=fun M=>amf t.ae t.next t.ak ar aI M
  have hu:=Rj hr hm hc;cases hb:((find t.ae ar).isSome&&(bl t.ae ar).kind==2)<;>rw[hb] at qd<;>simp only[br,aN] at qu<;>simp only[MT,ad1,br,aN,qd,qu,EW,seval]
  ·have h0:lB t.ae ar=(0,0):=by unfold lB; rw[hb]; rfl
   exact⟨_,⟨_,_,rfl,by rw[h0]; exact dN 0,by rw[h0]; exact dN 0⟩,rfl⟩
  refine jd (xs:=m) aI (fun j (s:Int×Int)=>s.1=nT (m.take j)/\s.2=HO (t.ae.take j) (m.take j)) (fun s i=>[(2,cu 0),(7,gU (m.map ag.bool)),(8,aH s.1),(9,aH s.2),(10,aH i)]) (fun _=>[cv [ba t.ae,aH t.next,aH t.ak]]) _ (fun s hs=>?_) (fun pre x post s e hx cL hw h0 _ hs hi=>?_) (0,0) (by simp[nT,HO])
  ·rw[bF,hm,bF] at hs;simp only[ad1,bu,EW,seval];exact⟨_,⟨_,_,rfl,by rw[hs.1]; exact hu.1,by rw[hs.2]; exact hu.2⟩,rfl⟩
  ·have hl:=(aj.1 hx).1;obtain⟨n,hn⟩:∃n,t.ae[pre.length]?=some n:=⟨_,ai aI⟩;have t1:m.take (pre.length+1)=m.take pre.length++[x]:=by rw[cB,hx]; rfl
   have t2:t.ae.take (pre.length+1)=t.ae.take pre.length++[n]:=by rw[cB,hn]; rfl
   have t3:(t.ae.take pre.length).length=(m.take pre.length).length:=gm;have hnd:=(hr.XO (aK hn)).2;have b1:nT (m.take pre.length)<=200:=aZ nA gm;have b2:=Xr (t.ae.take pre.length) (m.take pre.length) fun y hy=>(hr.XO (dM hy)).2
   have b3:(t.ae.take pre.length).length<=200:=gm;cases x<;>simp only[ad1,cL,hx,hw,h0,hn,bL,aM,EW,seval]
   ·exact hi s (by rw[t1,t2,Ka t3,hs.1,hs.2]; simp[nT])
   ·have w1:IntKind.i64.wrap (s.1+1)=s.1+1:=gw aI aI;have w2:IntKind.i64.wrap (s.2+(n.data.length:Int))=s.2+(n.data.length:Int):=gw aI aI;simp only[w1,w2];exact hi (s.1+1,s.2+(n.data.length:Int)) (by rw[t1,t2,Ka t3,hs.1,hs.2]; simp[nT])
 obtain⟨_,⟨a,b,rfl,h1⟩,h3⟩:=key;exact⟨a,b,aB h3,h1⟩
def ari{t:Tree}{dG:Int->Nat}(h:dU t dG 0){l:List dQ}(hq:pz l)(hl:l.length<=100000){ar:Int}{n:Node}(hi0:find t.ae ar=some n)(hk0:n.kind=2):aq bW 236 [br t,cN l,aH ar] []=some (aH (mo t.ae l ar),[]):=by
 have ht:=h.ae;have hdl:=h.Dw hi0 hk0
 have key:∃r:ag×aC,r=(aH (mo t.ae l ar),[])/\eX (aq bW) M4.results 0 [] M4.body (eG 0 [br t,cN l,aH ar]) []=some r:=by
  simp only[M4,aeh,br,aN,EW,seval];refine jd (xs:=List.replicate (t.ae.length+1) ()) gm (fun j (a:Int)=>∃y,find t.ae a=some y/\y.kind=2/\dG a+j=dG ar/\mo t.ae l a=mo t.ae l ar) (fun a i=>[(1,cN l),(3,cu 0),(7,aH a),(8,aH i)]) (fun _=>[cv [ba t.ae,aH t.next,aH t.ak]]) _ (fun a ha=>?_) (fun pre x post a e hx cL hw h0 _ ha hi=>?_) ar ⟨n,hi0,hk0,aI,rfl⟩
  ·obtain⟨_,_,_,h1,_⟩:=ha;simp at h1; omega
  ·obtain⟨y,y1,y2,y3,y4⟩:=ha
   have e1:((pre.length:Int)<=(t.ae.length:Int))=True:=by
    have:=of_eq_true cL;rw[kX] at this;simp only[fG,ja]; omega
   obtain⟨n,q,hn⟩:=akF l a hl;have qf:=cP q;have qg:=fun M=>Bi t.ae t.next t.ak a aI M
   have hup:=K9 h l y1 y2;have hqi:=(Y5 hq a).trans hn.symm;rw[y1] at qg;simp only[bm,bL,aM] at qg;cases h1:decide (0<=n)
   ·have h1':F2 l a=false:=by
     cases hc:F2 l a with
     |false=>rfl
     |true=>exact absurd (hqi.1 hc) (by simpa using h1)
    rw[h1'] at hup;cases h2:a==1<;>simp only[aeh,e1,hw,qf,qg,h1,h2,EW,seval]
    ·have h2':a≠1:=by simpa using h2
     obtain⟨d1,p,p1,p2⟩:=h.qI _ _ y1 y2 h2';refine hi _ ⟨p,p1,p2,aI,?_⟩;rw[<-y4,hup]; simp[h2']
    ·refine⟨_,?_,rfl⟩;rw[<-y4,hup]; simp[show a=1 by simpa using h2]
   ·have h1':F2 l a=true:=hqi.2 (by simpa using h1)
    rw[h1'] at hup;simp only[aeh,e1,hw,qf,qg,h1,EW,seval];refine⟨_,?_,rfl⟩;rw[<-y4,hup]; rfl
 obtain⟨_,rfl,h3⟩:=key;exact aB h3
def ag8{l:List dQ}(hl:l.length<=16){q:dQ}{t:Tree}{k:List K}{R:List dQ->Option (ag×aC)}
  (hx:∀(out:List dQ) (d:Bool) z,out.length<=40->kr (aq bW) [.tmp 10,.tmp 11] 0 k ⟨.exit 0,(1,cN l)::(2,aH q.ar)::(3,aH q.ae)::(4,aH q.bytes)::(17,.slice (.own 2) (out.map gA))::(18,.bool d)::z,[cv (aN t),cv (aM (bl t.ae q.ar)),.tick 3 out.length]⟩=R (out++rI q [] d)) :
  ∀(s:List dQ×Bool),s.1.length<=0->eX (aq bW) [.tmp 10,.tmp 11] 0 k (.loop [1,2,3,4,17,18,19] ag1) [(1,cN l),(2,aH q.ar),(3,aH q.ae),(4,aH q.bytes),(17,.slice (.own 2) (s.1.map gA)),(18,.bool s.2),(19,aH 0)] [cv (aN t),cv (aM (bl t.ae q.ar)),.tick 3 s.1.length]=R (s.1++rI q l s.2):=by
 refine qL (xs:=l) aI (fun m (s:List dQ×Bool)=>s.1.length<=2*m) (fun post s=>s.1++rI q post s.2) (fun s i=>[(1,cN l),(2,aH q.ar),(3,aH q.ae),(4,aH q.bytes),(17,.slice (.own 2) (s.1.map gA)),(18,.bool s.2),(19,aH i)]) (fun s=>[cv (aN t),cv (aM (bl t.ae q.ar)),.tick 3 s.1.length]) R (fun s hI=>?_) (fun pre x post s e hx' cL hw h0 hm hI hi=>?_)
 ·simp only[aN,aM] at hx ⊢;simp only[QT,bu,EW,seval];exact hx s.1 s.2 _ aI
 ·have hp:=(aj.1 hx').1;obtain⟨out,d⟩:=s;simp only at hI;have r1:cq (out.length+1) 24=True:=qM;have r2:cq (out.length+1+1) 24=True:=qM;rw[rI];simp only[aN,aM] at hi ⊢;have i1:=hi (out++[q]++[x],true) gm;have i2:=hi (out++[q],true) gm;have i3:=hi (out++[x],d) gm;have i4:=hi (out,d) (by simp only; omega)
  simp only[aW,aF,aR,aA,au,aw,aJ,bZ,aG,aQ,gA,iV] at i1 i2 i3 i4
  cases d<;>cases h1:decide (q.ar<=x.ar)<;>cases h2:x.ar != q.ar <;>
   simp only[QT,cL,hx',hw,h0,h1,h2,r1,r2,gA,iV,dZ,dW,dJ,cT,er,fE,af,aE,aD,bZ,EW,seval]<;>first|exact i4|exact i3|exact i2|exact i1
def c78(t:Tree)(l:List dQ)(ar ae bytes:Int)(hr:Rt t)(hq:pz l)(hn:l.length<=16) :
  ∃m e,aq bW 78 [br t,cN l,aH ar,aH ae,aH bytes] []=some (.tuple [cN m,aH e],[])/\pz m/\m.length<=16/\∀y,y∈m->y∈l\/∃n,find t.ae y.ar=some n/\n.kind=2:=by
 have ht:t.ae.length<=100000:=by have:=hr.sz.ae; omega
 obtain⟨a,b,qa,_⟩:=akE t ar hr;obtain⟨n,qn,hf⟩:=akF l ar aI;have qu:=cP qa;have qf:=cP qn;have qg:=fun M=>Bi t.ae t.next t.ak ar ht M
 have qd:=fun M=>amf t.ae t.next t.ak ar ht M
 have hz:(find t.ae ar).getD Node.zero=bl t.ae ar:=rfl;rw[hz] at qg;simp only[br,aN] at qu;have hl:=fun {k R} hx=>ag8 (l:=l) hn (q:=⟨ar,ae,bytes⟩) (t:=t) (k:=k) (R:=R) hx ([],decide (ae<0)) (av 0)
 simp only[aN,aM,aR,aw] at hl
 have hneg:decide (ae<0) = !decide (0<=ae):=by
  rw[cE]; simp
 have sh:(0<=ae->n<0->l.length<16)->pz (rI ⟨ar,ae,bytes⟩ l (decide (ae<0)))/\(rI ⟨ar,ae,bytes⟩ l (decide (ae<0))).length<=16/\∀y,y∈rI ⟨ar,ae,bytes⟩ l (decide (ae<0))->y∈l\/y.ar=ar:=by
  intro hh;rcases Int.lt_or_le ae 0 with h|h
  ·rw[kg h,zt];exact⟨hq.filter _,aZ (bT _ _) hn,fun y hy => .inl (ei.1 hy).1⟩
  ·rw[iZ (Int.not_lt.2 h)];obtain⟨g1,g2,g3,g4⟩:=Gx ⟨ar,ae,bytes⟩ l hq;refine⟨g1,?_,fun y hy=>(g2 y hy).elim (fun e => .inr (by rw[e])) .inl⟩
   rcases Int.lt_or_le n 0 with h'|h'
   ·have:=hh h h'; omega
   ·exact aZ (g4 (hf.1 h')) hn
 cases h1:(find t.ae ar).isSome<;>rw[h1] at qg qd
 ·refine⟨l,70,aB ?_,hq,hn,fun _ => .inl⟩
  simp only[E7,QT,br,aN,bL,aM,qg,EW,seval]
 cases h2:(bl t.ae ar).kind==2<;>rw[h2] at qd<;>simp only[jP,dV] at qd
 ·refine⟨l,73,aB ?_,hq,hn,fun _ => .inl⟩
  simp only[E7,QT,br,aN,bL,aM,qg,qd,EW,seval]
 cases h3:decide (0<=ae)
 case' true =>
  cases h4:decide (ae<a)
  case true =>
   refine⟨l,90,aB ?_,hq,hn,fun _ => .inl⟩
   simp only[E7,QT,br,aN,bL,aM,qg,qd,qu,qf,h3,hneg,h4,EW,seval]
  cases h5:decide (bytes<b)
  case true =>
   refine⟨l,90,aB ?_,hq,hn,fun _ => .inl⟩
   simp only[E7,QT,br,aN,bL,aM,qg,qd,qu,qf,h3,hneg,h4,h5,EW,seval]
  cases h6:decide (n<0)
  case' true =>
   cases h7:decide (16<=(l.length:Int))
   case true =>
    refine⟨l,76,aB ?_,hq,hn,fun _ => .inl⟩
    simp only[E7,QT,br,aN,bL,aM,qg,qd,qu,qf,h3,hneg,h4,h5,h6,h7,EW,seval]
 all_goals
  obtain⟨s1,s2,s3⟩:=sh (by intro g1 g2; simp only[bj,dz] at *; omega)
  refine⟨_,0,aB ?_,s1,s2,fun y hy=>(s3 y hy).elim .inl fun e => .inr ⟨bl t.ae ar,by rw[e]; cases hf':find t.ae ar<;>simp_all [bl],by simpa using h2⟩⟩
  rw[hneg,h3] at hl
  first
   |simp only[E7,QT,br,aN,bL,aM,qg,qd,qu,qf,h3,hneg,h4,h5,h6,h7,EW,seval]
   |simp only[E7,QT,br,aN,bL,aM,qg,qd,qu,qf,h3,hneg,h4,h5,h6,EW,seval]
   |simp only[E7,QT,br,aN,bL,aM,qg,qd,qu,qf,h3,hneg,EW,seval]
  refine(hl (R:=fun m=>some (.tuple [cN m,aH 0],([]:aC))) (fun out d z ho=>?_)).trans (by first|rfl|(rw[hneg,h3]; rfl))
  have r1:cq (out.length+1) 24=True:=qM;cases d<;>simp only[QT,r1,rI,gA,iV,aW,af,aE,aD,EW,seval]
  all_goals simp[gA,iV]
end
def pX(c h:Int):List fA->Nat->Int
 | [],_ => -1
 |x::r,i=>if x.bA==c&&x.handle==h then i else pX c h r (i+1)
def zn(l:List fA)(c h:Int):Int:=pX c h l 0
def sn(c h:Int):∀(l:List fA)(i:Nat),(pX c h l i = -1/\∀x,x∈l->(x.bA==c&&x.handle==h)=false) \/
  ∃(m:Nat) (x:fA),pX c h l i=((i+m:Nat):Int)/\l[m]?=some x/\(x.bA==c&&x.handle==h)=true
 | [],i => .inl ⟨rfl,dv⟩
 |x::r,i=>by
  rw[pX];cases hx:x.bA==c&&x.handle==h
  ·rcases sn c h r (i+1) with ⟨h1,h2⟩|⟨m,y,h1,h2,h3⟩
   ·exact .inl ⟨by simpa using h1,fun y hy=>by rcases bI.1 hy with rfl|hy; exact hx; exact h2 y hy⟩
   ·exact .inr ⟨m+1,y,by simp only[af,aD,h1]; congr 1; omega,by simpa using h2,h3⟩
  ·exact .inr ⟨0,x,dv,rfl,hx⟩
def I8(l:List fA)(ar:Int):Int:=((l.countP fun x=>x.ar==ar:Nat):Int)
def wJ(c h:Int)(x:fA):Bool:=decide (x.bA<c)||(x.bA==c&&decide (x.handle<h))
def sH(t:Tree)(l:List fA)(c h ar:Int):List fA×Int :=
 if decide (c<0)||(decide (16<=c)||(decide (h<0)||decide (99<h))) then (l,1)
 else if !(find t.ae ar).isSome||gS (bl t.ae ar) then (l,70)
 else if (bl t.ae ar).kind==2 then (l,72)
 else if decide (0<=zn l c h) then (l,71)
 else if decide (64<=(l.length:Int)) then (l,76)
 else (l.take (mw (wJ c h) l)++⟨c,h,ar⟩::l.drop (mw (wJ c h) l),0)
def PD(c h:Int):(fun x=>decide (ik x c h<0))=wJ c h:=by
 funext x;rw[cE];simp only[wJ,bj,sa,cS,bt,eu]
def Wz{t:Tree}{l:List fA}(hl:uD l)(hn:l.length<=64)(c g ar:Int):uD (sH t l c g ar).1/\(sH t l c g ar).1.length<=64:=by
 have h0:=JF (t:=t) hl hn c g ar;unfold sH;split
 ·exact⟨hl,hn⟩
 rename_i h1;split
 ·exact⟨hl,hn⟩
 rename_i h2;split
 ·exact⟨hl,hn⟩
 rename_i h3;split
 ·exact⟨hl,hn⟩
 rename_i h4;split
 ·exact⟨hl,hn⟩
 rename_i h5
 have k1:¬(!z6 c g)=true:=by
  simp only[cS,bj,pb,z6,gN,Bool.and_eq_false_iff,dz,Classical.not_not] at h1 ⊢;omega
 have k2:¬pn (fun x=>ik x c g==0) l (mw (fun x=>decide (ik x c g<0)) l)=true:=by
  intro hk;unfold pn at hk;split at hk
  ·rename_i z hz
   have hz':(z.bA==c&&z.handle==g)=true:=by
    have:=(DU z c g).1 (by simpa using hk)
    simp[this.1,this.2]
   rcases sn c g l 0 with ⟨_,h6⟩|⟨m,_,h6,_⟩
   ·have:=h6 z (aK hz);rw[hz'] at this; cases this
   ·apply h4;unfold zn;rw[h6];simp
  ·cases hk
 unfold vJ at h0;rw[aL k1,aL h2,aL h3,aL k2,aL h5,PD] at h0;exact h0
def PY{t:Tree}(ht:∀i n,find t.ae i=some n->n.kind=1\/n.kind=2)(l:List fA)(c g ar:Int){y:fA}(hy:y∈(sH t l c g ar).1):y∈l\/(∃n,find t.ae y.ar=some n/\n.kind=1)/\z6 y.bA y.handle=true:=by
 unfold sH at hy;split at hy
 ·exact .inl hy
 rename_i h1;split at hy
 ·exact .inl hy
 rename_i h2;split at hy
 ·exact .inl hy
 rename_i h3;split at hy
 ·exact .inl hy
 split at hy
 ·exact .inl hy
 rcases bo.1 hy with hy|hy
 ·exact .inl (dM hy)
 rcases bI.1 hy with rfl|hy
 ·right;simp only[cS,pb,gN,Bool.not_eq_false] at h2;obtain⟨n,hn⟩:=fz.1 h2.1;refine⟨⟨n,hn,?_⟩,?_⟩
  case refine_2 =>
   simp only[cS,bj,pb] at h1;simp only[z6,bt,bj];omega
  have hnn:bl t.ae ar=n:=by simp[bl,hn]
  rw[hnn] at h3;rcases ht _ _ hn with h|h
  ·exact h
  ·simp[h] at h3
 ·exact .inl (dx hy)
def PZ(t:Tree)(l:List fA)(c g ar:Int){y:fA}(hy:y∈l):y∈(sH t l c g ar).1:=by
 unfold sH;split
 ·exact hy
 split
 ·exact hy
 split
 ·exact hy
 split
 ·exact hy
 split
 ·exact hy
 simp only;generalize (mw _ l)=k;rw[<-cC k l] at hy;rcases bo.1 hy with hy|hy
 ·exact fq _ hy
 ·exact iC _ (bw _ hy)
section
attribute [local irreducible] eX fM lC gK dX kr aq aU cr bJ
def ap2(l:List fA)(c h:Int)(hn:l.length<=100000):aq bW 132 [fH l,aH c,aH h] []=some (aH (zn l c h),[]):=by
 refine aB ?_;have e0:zn l c h=pX c h l (l.length-l.length):=by rw[Nat.sub_self]; rfl
 rw[e0];simp only[ach,ad0,EW,seval];refine AZ (xs:=l) aI (fun post (_:Unit)=>pX c h post (l.length-post.length)) (fun _ i=>[(0,fH l),(1,aH c),(2,aH h),(7,aH i)]) (fun _=>[]) (fun n=>some (aH n,([]:aC))) (fun _=>?_) (fun pre x post _ e hx cL hw h0 hm hi=>?_) ()
 ·simp only[ad0,bu,pX,EW,seval]
 ·have i1:=hi ();have e1:l.length-(x::post).length=pre.length:=by rw[e]; simp
  have e2:l.length-post.length=pre.length+1:=by rw[e]; simp; omega
  rw[e2] at i1;rw[e1,pX];cases h1:x.bA==c<;>cases h2:x.handle==h<;>simp only[ad0,cL,hx,hw,h0,h1,h2,ic,jc,dV,dZ,dW,af,aD,aE,EW,seval]<;>exact i1
def afv l c h hn:=cP (ap2 l c h hn)
def ap4(l:List fA)(ar:Int)(hn:l.length<=100000):aq bW 136 [fH l,aH ar] []=some (aH (I8 l ar),[]):=by
 refine aB ?_;simp only[acj,XV,EW,seval];refine(qL (xs:=l) aI (fun m n=>n<=m) (fun post (n:Nat)=>((n+post.countP fun x=>x.ar==ar:Nat):Int)) (fun n i=>[(0,fH l),(1,aH ar),(5,aH n),(6,aH i)]) (fun _=>[]) (fun n=>some (aH n,([]:aC))) (fun n _=>?_) (fun pre x post n e hx cL hw h0 hm hI hi=>?_) 0 aI).trans (by simp[I8])
 ·simp only[XV,bu,List.countP_nil,EW,seval]
 ·have i1:=hi n aI;have i2:=hi (n+1) aI;have hl:=(aj.1 hx).1;have w1:IntKind.i64.wrap ((n:Int)+1)=((n+1:Nat):Int):=by rw[gw aI aI]; rfl
  cases h1:x.ar==ar
  ·simp only[lZ,h1,af,aD,db] at i1 ⊢;simp only[XV,cL,hx,hw,h0,h1,ic,jc,EW,seval];exact i1
  ·have e2:n+(List.countP (fun x=>x.ar==ar) (x::post))=n+1+List.countP (fun x=>x.ar==ar) post:=by simp only[lZ,h1,aE]; omega
   simp only[e2];simp only[XV,cL,hx,hw,w1,h0,h1,ic,jc,EW,seval];exact i2
def asi l ar hn:=cP (ap4 l ar hn)
def ap1(t:Tree)(ar:Int)(ht:t.ae.length<=100000):aq bW 131 [br t,aH ar] []=some (.bool ((find t.ae ar).isSome&&gS (bl t.ae ar)),[]):=by
 refine aB ?_;have q:=fun M=>Bi t.ae t.next t.ak ar ht M
 have hz:(find t.ae ar).getD Node.zero=bl t.ae ar:=rfl;rw[hz] at q;unfold gS;generalize bl t.ae ar=n at q
 cases h1:(find t.ae ar).isSome<;>rw[h1] at q<;>cases h2:n.kind==1<;>cases h3:n.eo==0 <;>
  simp only[acg,aov,br,aN,q,h2,h3,bL,aM,dV,dZ,dW,EW,seval]
def ame(ae:List Node)(next ak ar:Int)(h:ae.length<=100000)(M:aC):aU (aq bW) 131 [.agg [ba ae,aH next,aH ak],aH ar] M=some (.bool ((find ae ar).isSome&&gS (bl ae ar)),M) :=
 cO (ap1 ⟨ae,next,ak⟩ ar h) M
def afs(ae:List Node)(next ak ar:Int)(s:Bytes)(ht:Small ⟨ae,next,ak⟩)(M:aC):aU (aq bW) 122 [.agg [ba ae,aH next,aH ak],aH ar,.str s] M =
  some (.agg [ba (dr ae ar s),aH next,aH ak],M):=cO (apS ⟨ae,next,ak⟩ ar s ht) M
def Z7{T:List ag}{n:Node}{e:gM}(hn:n.bc.length<=100000){k:List K}{R:List gM->Bool->Option (ag×aC)}
  (hx:∀out done v q,out.length<=300000->kr (aq bW) [.dH 8 3] 0 k ⟨.exit 0,[(2,.str e.name),(4,cu 0),(8,cu 1),(9,cu 2),(11,cu 3),(12,.slice (.own 4) (out.map iG)),(13,.bool done),(14,v),(30,q)],[.cells T,.cells zT,cv (aM n),cv (fU e),.tick 3 out.length]⟩=R out done)
  (hT:∀B M,T.map (ag.jX B M)=T) :
  ∀(l pre out:List gM)(done:Bool),n.bc=pre++l->out.length+2*l.length<=300000->eX (aq bW) [.dH 8 3] 0 k (.loop [2,4,8,9,11,12,13,14] Zo) [(2,.str e.name),(4,cu 0),(8,cu 1),(9,cu 2),(11,cu 3),(12,.slice (.own 4) (out.map iG)),(13,.bool done),(14,aH pre.length)] [.cells T,.cells zT,cv (aM n),cv (fU e),.tick 3 out.length]=R (vE e l out done).1 (vE e l out done).2:=by
 intro l;induction l with
 |nil =>
  intro pre out done h ho;rw[bG];simp only[GM,aM,jb,jM h,EN,seval];exact hx _ _ _ _ (by simp at ho; omega)
 |cons m r ih =>
  intro pre out done h ho;rw[bG];have dD:pre.length+1<=100000:=by rw[h] at hn; simp at hn; omega
  have hw:=zy pre m;have hi:=fun out done ho=>ih (pre++[m]) out done (by rw[h]; simp) ho
  simp only[au] at ho;have r1:cq (out.length+1) 32=True:=qM;have r2:cq (out.length+1+1) 32=True:=qM;have hg:(!(strLt m.name e.name||m.name==e.name))=gtB m.name e.name:=rfl
  rw[vE];simp only[GM,hg,aM,jb,iM h,gQ h,fU,hT,zT,EN,seval]
  repeat' ((first|apply bC|apply bU|apply dK)<;>intro hb<;>simp only[hb,EN,GM,gQ h,hw,r1,r2,fU,hT,zT,hg,seval])
  all_goals try simp only[GM,gQ h,hw,r1,r2,fU,hT,zT,hg,EN,seval]
  all_goals first
   |(refine il ?_ ((hi (out++[e]++[m]) true gm).trans ?_)
     ·simp only[aW,aF,aR,aA,au,aw]; rfl
     ·clear hi ih hx hw h hT hg; simp_all; done)
   |(refine il ?_ ((hi (out++[m]) done gm).trans ?_)
     ·simp only[aW,aF,aR,aA,au,aw]; rfl
     ·clear hi ih hx hw h hT hg; simp_all; done)
def apP(t:Tree)(ar:Int)(s:Bytes)(of:Int)(ht:Small t):aq bW 118 [br t,aH ar,.str s,aH of] []=some (br (im t ar s of),[]):=by
 refine aB ?_;have hd:=FE ht ar;unfold im;simp only[R0,GM,br,aN,Bi,ht.ae,bL,EN,seval];generalize (find t.ae ar).getD Node.zero=n at hd ⊢;simp only[GM,aM,EN,seval];refine(Z7 (e:=⟨s,of,t.ak⟩) (R:=fun out done=>some (br ⟨eT t.ae { n with bc:=out++(if done then [] else [⟨s,of,t.ak⟩]) },t.next,nz (t.ak+1)⟩,[])) hd (fun out done v e ho=>?_) (fun B M=>by simp only[GM,EN,seval]) n.bc [] [] false rfl gm).trans (by simp[br,aN,zb])
 have r1:cq (out.length+1) 32=True:=qM;cases done
 ·simp only[GM,zT,aM,fU,r1,aaH,Hi,ht.ae,EN,seval];simp[br,aN]
 ·simp only[GM,zT,aM,fU,r1,Hi,ht.ae,EN,seval];simp[br,aN]
def Y7(ae:List Node)(next ak ar:Int)(s:Bytes)(of:Int)(ht:Small ⟨ae,next,ak⟩)(M:aC):aU (aq bW) 118 [.agg [ba ae,aH next,aH ak],aH ar,.str s,aH of] M =
  some (br (im ⟨ae,next,ak⟩ ar s of),M):=cO (apP ⟨ae,next,ak⟩ ar s of ht) M
def aad{t:Tree}(ht:t.ae.length<=100000){k:List K}{R:Nat->Option (ag×aC)}
  (hx:∀(d:Nat) v q,kr (aq bW) [.tmp 4] 0 k ⟨.exit 0,[(1,v),(2,cu 0),(5,aH d),(13,q)],[cv (aN t)]⟩=R d) :
  ∀(m:Nat)(ar:Int)(d:Nat),d+m=201->eX (aq bW) [.tmp 4] 0 k (.loop [1,2,5] Zz) [(1,aH ar),(2,cu 0),(5,aH d)] [cv (aN t)]=R (wc t.ae m ar d):=by
 intro m;induction m with
 |zero =>
  intro ar d hd;rw[bG];have hd':((d:Int)<=200)=False:=gm;simp only[Kq,EN,seval]
  repeat' ((first|apply bC|apply bU|apply dK)<;>intro hb<;>simp only[hb,EN,Kq,hd',seval])
  all_goals exact hx _ _ _
 |succ m ih =>
  intro ar d hd;rw[bG];have hd':((d:Int)<=200)=True:=gm;have hw:IntKind.i64.wrap ((d:Int)+1)=((d+1:Nat):Int):=by rw[gw aI aI]; rfl
  have hi:=fun ar=>ih ar (d+1) aI
  rw[wc];simp only[Kq,EN,seval];refine bU (fun hb=>?_) (fun hb=>?_)
  ·simp only[Kq,hb,hd',hw,aN,Bi,ht,bL,aM,EN,seval];have h1:¬ar=1:=by simpa using hb
   rw[aL h1];exact hi _
  ·simp only[Kq,hb,hd',hw,aN,Bi,ht,bL,aM,EN,seval];have h1:ar=1:=by simpa using hb
   rw[aX h1];exact hx _ _ _
def apY(t:Tree)(ar:Int)(ht:t.ae.length<=100000):aq bW 128 [br t,aH ar] []=some (aH (pS t.ae ar),[]):=by
 refine aB ?_;simp only[acd,Kq,br,EN,seval];exact aad (R:=fun(d:Nat)=>some (aH d,[])) ht (fun d v q=>by simp only[Kq,EN,seval]) 201 ar 0 rfl
def Pt(ae:List Node)(next ak ar:Int)(h:ae.length<=100000)(M:aC):aU (aq bW) 128 [.agg [ba ae,aH next,aH ak],aH ar] M=some (aH (pS ae ar),M) :=
 cO (apY ⟨ae,next,ak⟩ ar h) M
def aqw(t:Tree)(n:Node)(ht:Small t):aq bW 171 [br t,bL n] []=some (.bool (DI t n),[]):=by
 refine aB ?_;simp only[acB,aio,br,aN,bL,aM,Pt,ht.ae,EN,seval];unfold DI
 repeat' ((first|apply bC|apply bU|apply dK)<;>intro hb<;>simp only[hb,EN,aio,Pt,ht.ae,seval])
 all_goals simp_all
def asA(ae:List Node)(next ak a b c:Int)(d:Bytes)(e:List gM)(u:Int)(h:Small ⟨ae,next,ak⟩)(M:aC):aU (aq bW) 171 [.agg [ba ae,aH next,aH ak],.agg [aH a,aH b,aH c,cV d,jb e,aH u]] M =
  some (.bool (DI ⟨ae,next,ak⟩ ⟨a,b,c,d,e,u⟩),M):=cO (aqw ⟨ae,next,ak⟩ ⟨a,b,c,d,e,u⟩ h) M
def apO(t:Tree)(ar:Int)(s:Bytes)(ht:Small t)(hs:s.length<=100000):aq bW 117 [br t,aH ar,.str s] []=some (aH (o6 t ar s),[]):=by
 refine aB ?_;have hd:=tF ht ar;have ht':Small ⟨t.ae,t.next,t.ak⟩:=ht
 simp only[ab5,GL,br,aN,Y8,ht.ae,bL,aM,EN,seval];unfold o6;refine bC (fun hb=>?_) (fun hb=>?_)
 ·simp only[GL,EN,seval];simp_all
 ·simp only[GL,SS,hs,EN,seval];refine bC (fun hb'=>?_) (fun hb'=>?_)
  ·simp only[GL,EN,seval];simp_all
  ·simp only[GL,aft,hd,EN,seval];rcases tw s (gW t.ae ar).1.bc 0 with ⟨h1,h2⟩|⟨m,n,h1,h2,h3⟩
   ·rw[h2];simp only[GL,asA,ht',EN,seval];refine bC (fun hb''=>?_) (fun hb''=>?_)
    ·simp only[GL,EN,seval];simp_all
    ·simp only[GL,EN,seval];simp_all
   ·rw[h3];simp only[GL,EN,seval];simp_all
def afq(ae:List Node)(next ak ar:Int)(s:Bytes)(ht:Small ⟨ae,next,ak⟩)(hs:s.length<=100000)(M:aC):aU (aq bW) 117 [.agg [ba ae,aH next,aH ak],aH ar,.str s] M =
  some (aH (o6 ⟨ae,next,ak⟩ ar s),M):=cO (apO ⟨ae,next,ak⟩ ar s ht hs) M
def amb(ae:List Node)(next ak a b c u:Int)(h:ae.length<=100000)(M:aC):aU (aq bW) 119 [.agg [ba ae,aH next,aH ak],.agg [aH a,aH b,aH c,gU [],gU [],aH u]] M =
  some (.agg [ba (eT ae ⟨a,b,c,[],[],u⟩),aH next,aH ak],M):=Hi ae next ak a b c [] [] u h M
def Qh{t:Tree}(hz:Sz 1000 t)(k u next ak a c:Int):Small ⟨eT t.ae ⟨a,k,c,[],[],u⟩,next,ak⟩:=(hz.with dv dv next ak).small aI
set_option maxHeartbeats 1000000 in
def c70(t:Tree)(ar:Int)(s:Bytes)(kind:Int)(hz:Sz 1000 t)(hs:s.length<=100000):aq bW 70 [br t,aH ar,.str s,aH kind] []=some (.tuple [br (rU t ar s kind).1,aH (rU t ar s kind).2.1,aH (rU t ar s kind).2.2],[]):=by
 obtain⟨ae,next,ak⟩:=t
 refine aB ?_;have ht:Small ⟨ae,next,ak⟩:=hz.small aI
 have hn:ae.length<=100000:=ht.ae;have hw:=fun k u next' cookie' a c=>Qh hz k u next' cookie' a c
 simp only[alI,E70,br,aN,afq,ht,hs,EN,seval]
 repeat' ((first|apply bC|apply bU|apply dK)<;>intro hb<;>simp only[hb,EN,E70,afq,ht,hs,hn,amb,Y7,hw,br,aN,seval])
 all_goals (clear hw; simp_all only[rU,br,aN,qB,↓reduceIte,reduceCtorEq,az]; done)
def aac{t:Tree}{of:Int}(ht:t.ae.length<=100000){k:List K}{R:Bool->Option (ag×aC)}
  (hx:∀e,kr (aq bW) [.tmp 6] 0 k ⟨.exit 0,e,[cv (aN t)]⟩=R false) (hr:∀b,kr (aq bW) [.tmp 6] 0 k ⟨.ret,[(6,.bool b)],[cv (aN t)]⟩=R b) :
  ∀(m:Nat)(ar:Int)(d:Nat),d+m=t.ae.length+1->eX (aq bW) [.tmp 6] 0 k (.loop [1,2,3,7] Zy) [(1,aH ar),(2,aH of),(3,cu 0),(7,aH d)] [cv (aN t)]=R (nq t.ae of m ar):=by
 intro m;induction m with
 |zero =>
  intro ar d hd;rw[bG];have hd':((d:Int)<=(t.ae.length:Int))=False:=gm;simp only[GN,aN,ba,hd',EN,seval];exact hx _
 |succ m ih =>
  intro ar d hd;rw[bG];have hd':((d:Int)<=(t.ae.length:Int))=True:=gm;have hw:IntKind.i64.wrap ((d:Int)+1)=((d+1:Nat):Int):=by rw[gw aI aI]; rfl
  have hi:=fun ar=>ih ar (d+1) aI
  rw[nq];simp only[GN,aN,ba,hd',EN,seval];refine bC (fun hb=>?_) (fun hb=>?_)
  ·have h1:ar=of:=by simpa using hb
   simp only[GN,EN,seval];rw[aX h1];exact hr _
  ·have h1:¬ar=of:=by simpa using hb
   simp only[GN,EN,seval];rw[aL h1];refine bC (fun hb=>?_) (fun hb=>?_)
   ·have h1:ar=1:=by simpa using hb
    simp only[GN,EN,seval];rw[aX h1];exact hr _
   ·have h1:¬ar=1:=by simpa using hb
    simp only[GN,hw,Bi,ht,bL,aM,EN,seval];rw[aL h1];exact hi _
def apW(t:Tree)(ar of:Int)(ht:t.ae.length<=100000):aq bW 126 [br t,aH ar,aH of] []=some (.bool (iL t.ae ar of),[]):=by
 refine aB ?_;simp only[aca,GN,br,EN,seval];exact aac (R:=fun b=>some (.bool b,[])) ht (fun e=>by simp only[GN,EN,seval]) (fun b=>by simp only[GN,EN,seval]) (t.ae.length+1) ar 0 aI
def afu(ae:List Node)(next ak ar of:Int)(h:ae.length<=100000)(M:aC):aU (aq bW) 126 [.agg [ba ae,aH next,aH ak],aH ar,aH of] M=some (.bool (iL ae ar of),M) :=
 cO (apW ⟨ae,next,ak⟩ ar of h) M
def k70(ae:List Node)(next ak ar:Int)(s:Bytes)(kind:Int)(hz:Sz 1000 ⟨ae,next,ak⟩)(hs:s.length<=100000)(M:aC):aU (aq bW) 70 [.agg [ba ae,aH next,aH ak],aH ar,.str s,aH kind] M =
  some (.tuple [br (rU ⟨ae,next,ak⟩ ar s kind).1,aH (rU ⟨ae,next,ak⟩ ar s kind).2.1,aH (rU ⟨ae,next,ak⟩ ar s kind).2.2],M):=cO (c70 ⟨ae,next,ak⟩ ar s kind hz hs) M
def c68(t:Tree)(ar to:Int)(s:Bytes)(hz:Sz 1000 t)(hs:s.length<=100000):aq bW 68 [br t,aH ar,aH to,.str s] []=some (.tuple [br (CK t ar to s).1,aH (CK t ar to s).2],[]):=by
 obtain⟨ae,next,ak⟩:=t
 refine aB ?_;have ht:Small ⟨ae,next,ak⟩:=hz.small aI
 have hn:ae.length<=100000:=ht.ae;have hf:=hz.find ar;have hw':∀l,Small ⟨eT ae { bl ae ar with eo:=l },next,ak⟩:=fun l=>(hz.with (n:={ bl ae ar with eo:=l }) (iX hf.1) hf.2 next ak).small aI
 simp only[alH,E68,br,aN,Bi,hn,bL,aM,EN,seval]
 repeat' ((first|apply bC|apply bU|apply dK)<;>intro hb<;>simp only[hb,EN,E68,afq,ht,hs,hn,Hi,Y7,hw',br,aN,seval])
 all_goals (clear hw' hf; simp_all only[CK,br,aN,qB,↓reduceIte,reduceCtorEq,az]; done)
def k68(ae:List Node)(next ak ar to:Int)(s:Bytes)(hz:Sz 1000 ⟨ae,next,ak⟩)(hs:s.length<=100000)(M:aC):aU (aq bW) 68 [.agg [ba ae,aH next,aH ak],aH ar,aH to,.str s] M =
  some (.tuple [br (CK ⟨ae,next,ak⟩ ar to s).1,aH (CK ⟨ae,next,ak⟩ ar to s).2],M):=cO (c68 ⟨ae,next,ak⟩ ar to s hz hs) M
def apR(t:Tree)(ar:Int)(ht:Small t):aq bW 121 [br t,aH ar] []=some (br ⟨fm t.ae ar,t.next,t.ak⟩,[]):=by
 obtain⟨ae,next,ak⟩:=t
 refine aB ?_;have hn:ae.length<=100000:=ht.ae;simp only[ab6,aii,br,aN,Bi,hn,bL,aM,EN,seval]
 repeat' ((first|apply bC|apply bU|apply dK)<;>intro hb<;>simp only[hb,EN,aii,hn,Hi,aml,br,aN,seval])
 all_goals (simp_all only[fm,br,aN,qB,↓reduceIte,reduceCtorEq,az]; done)
def afr(ae:List Node)(next ak ar:Int)(ht:Small ⟨ae,next,ak⟩)(M:aC):aU (aq bW) 121 [.agg [ba ae,aH next,aH ak],aH ar] M =
  some (.agg [ba (fm ae ar),aH next,aH ak],M):=cO (apR ⟨ae,next,ak⟩ ar ht) M
def c71(t:Tree)(ar:Int)(s:Bytes)(hz:Sz 1000 t)(hs:s.length<=100000):aq bW 71 [br t,aH ar,.str s] []=some (.tuple [br (BN t ar s).1,aH (BN t ar s).2.1,aH (BN t ar s).2.2],[]):=by
 obtain⟨ae,next,ak⟩:=t
 refine aB ?_;have ht:Small ⟨ae,next,ak⟩:=hz.small aI
 have hn:ae.length<=100000:=ht.ae;have hl:Small ⟨dr ae ar s,next,ak⟩:=(hz.left ar s next ak).small aI
 simp only[alJ,E71,br,aN,k72,ht,hs,bL,aM,EN,seval]
 repeat' ((first|apply bC|apply bU|apply dK)<;>intro hb<;>simp only[hb,EN,E71,hn,ht,hs,Bi,afs,afr,hl,bL,aM,br,aN,seval])
 all_goals (simp_all only[BN,br,aN,qB,↓reduceIte,reduceCtorEq,az]; done)
def k71(ae:List Node)(next ak ar:Int)(s:Bytes)(hz:Sz 1000 ⟨ae,next,ak⟩)(hs:s.length<=100000)(M:aC):aU (aq bW) 71 [.agg [ba ae,aH next,aH ak],aH ar,.str s] M =
  some (.tuple [br (BN ⟨ae,next,ak⟩ ar s).1,aH (BN ⟨ae,next,ak⟩ ar s).2.1,aH (BN ⟨ae,next,ak⟩ ar s).2.2],M):=cO (c71 ⟨ae,next,ak⟩ ar s hz hs) M
def apX(t:Tree)(x:Node)(y:Int)(ht:Small t):aq bW 127 [br t,bL x,aH y] []=some (aH (u7 t.ae x.kind y),[]):=by
 obtain⟨ae,next,ak⟩:=t
 refine aB ?_;have hn:ae.length<=100000:=ht.ae;simp only[acb,aij,br,aN,Bi,hn,bL,aM,EN,seval]
 repeat' ((first|apply bC|apply bU|apply dK)<;>intro hb<;>simp only[hb,EN,aij,seval])
 all_goals (simp_all only[u7,qB,↓reduceIte,reduceCtorEq,az]; done)
def amc(ae:List Node)(next ak a b c:Int)(d:Bytes)(e:List gM)(u y:Int)(ht:Small ⟨ae,next,ak⟩)(M:aC):aU (aq bW) 127 [.agg [ba ae,aH next,aH ak],.agg [aH a,aH b,aH c,cV d,jb e,aH u],aH y] M =
  some (aH (u7 ae b y),M):=cO (apX ⟨ae,next,ak⟩ ⟨a,b,c,d,e,u⟩ y ht) M
def c83(t:Tree)(ar:Int)(data:Bytes)(ht:Small t)(hd:data.length<=100000):aq bW 83 [br t,aH ar,cV data] []=some (.tuple [br (rP t ar data).1,aH (rP t ar data).2],[]):=by
 obtain⟨ae,next,ak⟩:=t
 refine aB ?_;have hn:ae.length<=100000:=ht.ae;have r1:cq data.length 1=True:=qM;simp only[afi,E83,br,aN,Bi,hn,bL,aM,EN,seval]
 repeat' ((first|apply bC|apply bU|apply dK)<;>intro hb<;>simp only[hb,EN,E83,hn,r1,Hi,br,aN,seval])
 all_goals (simp_all only[rP,br,aN,qB,↓reduceIte,reduceCtorEq,az]; done)
def k83(ae:List Node)(next ak ar:Int)(data:Bytes)(ht:Small ⟨ae,next,ak⟩)(hd:data.length<=100000)(M:aC):aU (aq bW) 83 [.agg [ba ae,aH next,aH ak],aH ar,cV data] M =
  some (.tuple [br (rP ⟨ae,next,ak⟩ ar data).1,aH (rP ⟨ae,next,ak⟩ ar data).2],M):=cO (c83 ⟨ae,next,ak⟩ ar data ht hd) M
def ap5(t:Tree)(ar:Int)(ht:Small t):aq bW 137 [br t,aH ar] []=some (.tuple [br (kK t ar).1,aH (kK t ar).2],[]):=by
 obtain⟨ae,next,ak⟩:=t
 refine aB ?_;have hn:ae.length<=100000:=ht.ae;simp only[ack,aik,br,aN,Bi,hn,bL,aM,EN,seval]
 repeat' ((first|apply bC|apply bU|apply dK)<;>intro hb<;>simp only[hb,EN,aik,hn,aml,br,aN,seval])
 all_goals (simp_all only[kK,br,aN,qB,↓reduceIte,reduceCtorEq,az]; done)
def amg(ae:List Node)(next ak ar:Int)(ht:Small ⟨ae,next,ak⟩)(M:aC):aU (aq bW) 137 [.agg [ba ae,aH next,aH ak],aH ar] M =
  some (.tuple [br (kK ⟨ae,next,ak⟩ ar).1,aH (kK ⟨ae,next,ak⟩ ar).2],M):=cO (ap5 ⟨ae,next,ak⟩ ar ht) M
def c41:aq bW 41 [] []=some (br wR,[]):=by
 refine aB ?_;simp only[alA,E41,EN,seval];rfl
def k41:=cP c41
def aae{ae:List Node}{next ak ar at' d:Int}(ht:ae.length<=100000){k:List K}{R:Int->Option (ag×aC)}
  (hx:∀dE v q,kr (aq bW) [.tmp 6] 0 k ⟨.exit 0,[(1,aH ar),(2,aH at'),(3,cu 0),(7,aH dE),(8,aH d),(9,v),(19,q)],[cv (aN ⟨ae,next,ak⟩)]⟩=R dE) :
  ∀(l pre:List Node)(dE:Int),ae=pre++l->eX (aq bW) [.tmp 6] 0 k (.loop [1,2,3,7,8,9] ZA) [(1,aH ar),(2,aH at'),(3,cu 0),(7,aH dE),(8,aH d),(9,aH pre.length)] [cv (aN ⟨ae,next,ak⟩)]=R (wi ae ar at' d l dE):=by
 intro l;induction l with
 |nil =>
  intro pre dE h;rw[bG];simp only[QJ,aN,jM h,EN,seval];exact hx _ _ _
 |cons n r ih =>
  intro pre dE h;rw[bG];have dD:pre.length+1<=100000:=by rw[h] at ht; simp at ht; omega
  have hw:=zy pre n;have hi:=fun dE=>ih (pre++[n]) dE (by rw[h]; simp)
  rw[wi];simp only[aN] at hi;generalize hst:sC ae ar at' d n dE=m1;simp only[QJ,aN,iM h,gQ h,aM,EN,seval]
  repeat' ((first|apply bC|apply bU|apply dK)<;>intro hb<;>simp only[hb,EN,QJ,hw,afu,Pt,ht,aM,seval])
  all_goals refine il ?_ (hi m1)
  all_goals congr 1
  all_goals (subst hst; clear hi ih hx hw h ht; simp_all only[sC,nz,gt_iff_lt,aA,au,aw,aJ,qB,↓reduceIte,reduceCtorEq,az]; done)
def apZ(t:Tree)(ar at':Int)(ht:t.ae.length<=100000):aq bW 129 [br t,aH ar,aH at'] []=some (aH (B9 t.ae ar at'),[]):=by
 obtain⟨ae,next,ak⟩:=t
 have ht:ae.length<=100000:=ht;refine aB ?_;simp only[ace,QJ,br,aN,Pt,ht,EN,seval];exact aae (R:=fun z=>some (aH z,[])) ht (fun dE v q=>by simp only[QJ,EN,seval]) ae [] 0 rfl
def amd(ae:List Node)(next ak ar at':Int)(h:ae.length<=100000)(M:aC):aU (aq bW) 129 [.agg [ba ae,aH next,aH ak],aH ar,aH at'] M=some (aH (B9 ae ar at'),M) :=
 cO (apZ ⟨ae,next,ak⟩ ar at' h) M
set_option maxHeartbeats 2000000 in
def c73(t:Tree)(kx:Int)(s:Bytes)(to:Int)(nm:Bytes)(hz:Sz 1000 t)(hs:s.length<=100000)(ha:nm.length<=100000):aq bW 73 [br t,aH kx,.str s,aH to,.str nm] [] =
  some (.tuple [br (wU t kx s to nm).1,aH (wU t kx s to nm).2.1,aH (wU t kx s to nm).2.2],[]):=by
 obtain⟨ae,next,ak⟩:=t
 have ht:Small ⟨ae,next,ak⟩:=hz.small aI
 have hn:ae.length<=100000:=ht.ae;have hd:(gW ae to).1.bc.length<=100000:=tF ht to;have z1:Sz 1001 ⟨dr ae kx s,next,ak⟩:=hz.left kx s next ak
 have z2:Sz 1002 ⟨dr (dr ae kx s) to nm,next,ak⟩:=z1.left to nm next ak
 have z3:∀y,Sz 1003 ⟨fm (dr (dr ae kx s) to nm) y,next,ak⟩:=fun y=>z2.unnamed y next ak
 have hx:=hz.find (fh ae kx s).1;have z4:∀y,Sz 1004 ⟨eT (fm (dr (dr ae kx s) to nm) y) { bl ae (fh ae kx s).1 with up:=to },next,ak⟩:=fun y=>(z3 y).with (n:={ bl ae (fh ae kx s).1 with up:=to }) (aZ hx.1 aI) hx.2 next ak
 have z5:Sz 1002 ⟨eT (dr ae kx s) { bl ae (fh ae kx s).1 with up:=to },next,ak⟩:=z1.with (n:={ bl ae (fh ae kx s).1 with up:=to }) (aZ hx.1 aI) hx.2 next ak
 have s1:=z1.small aI;have s2:=z2.small aI;have s3:=fun y=>(z3 y).small aI
 have s4:=fun y=>(z4 y).small aI
 have s5:=z5.small aI;have n1:(dr ae kx s).length<=100000:=s1.ae;have n3:∀y,(fm (dr (dr ae kx s) to nm) y).length<=100000:=fun y=>(s3 y).ae
 clear z1 z2 z3 z4 z5 hx;refine aB ?_;simp only[alM,QS,br,aN,k72,ht,hs,EN,seval];refine bC (fun hb0=>?_) (fun hb0=>?_)
 ·simp only[QS,hb0,EN,seval];clear s1 s2 s3 s4 s5 n1 n3;simp_all only[wU,br,aN,qB,↓reduceIte,reduceCtorEq,az]
 simp only[QS,hb0,Y8,hn,bL,aM,EN,seval];refine bC (fun hb1=>?_) (fun hb1=>?_)
 ·simp only[QS,hb1,EN,seval];clear s1 s2 s3 s4 s5 n1 n3;simp_all only[wU,br,aN,qB,↓reduceIte,reduceCtorEq,az]
 simp only[QS,hb1,SS,ha,EN,seval];refine bC (fun hb2=>?_) (fun hb2=>?_)
 ·simp only[QS,hb2,EN,seval];clear s1 s2 s3 s4 s5 n1 n3;simp_all only[wU,br,aN,qB,↓reduceIte,reduceCtorEq,az]
 simp only[QS,hb2,aft,hd,EN,seval];rcases tw nm (gW ae to).1.bc 0 with ⟨h1,h2⟩|⟨m,n,h1,h2,h3⟩
 ·have hu:jg (gW ae to).1.bc nm=0:=by simp[jg,h1]
  rw[h2];simp only[QS,EN,seval]
  repeat' ((first|apply bC|apply bU|apply dK)<;>intro hb<;>simp only[hb,EN,QS,Bi,hn,ht,bL,aM,afu,amc,Pt,amd,afs,afr,Hi,Y7,s1,s2,s3,s4,s5,n1,n3,br,aN,seval])
  all_goals (clear s1 s2 s3 s4 s5 n1 n3 h2; simp_all only[wU,te,manyN,hu,br,aN,qB,↓reduceIte,reduceCtorEq,az]; done)
 ·have hu:jg (gW ae to).1.bc nm=n.ar:=by simp[jg,h2]
  rw[h3];simp only[QS,h1,fU,EN,seval]
  repeat' ((first|apply bC|apply bU|apply dK)<;>intro hb<;>simp only[hb,EN,QS,Bi,hn,ht,bL,aM,afu,amc,Pt,amd,afs,afr,Hi,Y7,s1,s2,s3,s4,s5,n1,n3,br,aN,seval])
  all_goals (clear s1 s2 s3 s4 s5 n1 n3 h3; simp_all only[wU,te,manyN,hu,br,aN,qB,↓reduceIte,reduceCtorEq,az]; done)
def k73(ae:List Node)(next ak kx:Int)(s:Bytes)(to:Int)(nm:Bytes)(hz:Sz 1000 ⟨ae,next,ak⟩)(hs:s.length<=100000)(ha:nm.length<=100000)(M:aC):aU (aq bW) 73 [.agg [ba ae,aH next,aH ak],aH kx,.str s,aH to,.str nm] M =
  some (.tuple [br (wU ⟨ae,next,ak⟩ kx s to nm).1,aH (wU ⟨ae,next,ak⟩ kx s to nm).2.1,aH (wU ⟨ae,next,ak⟩ kx s to nm).2.2],M):=cO (c73 ⟨ae,next,ak⟩ kx s to nm hz hs ha) M
def VW{α:Type}(lt:α->Bool)(x:α)(l:List α):mw lt (x::l)=if lt x then mw lt l+1 else 0:=by
 unfold mw;rw[iu];split<;>simp
def ag7{l:List fA}(hn:l.length<=100000){c h ar:Int}{t:Tree}{n:Node}{i:Nat}{k:List K}{R:Option (ag×aC)}
  (hx:∀z,kr (aq bW) [.tmp 10,.tmp 11] 0 k ⟨.exit 0,(1,fH l)::(2,aH c)::(3,aH h)::(4,aH ar)::(14,aH i)::z,[cv (aN t),cv (aM n)]⟩=R) :
  ∀(rest pre:List fA),l=pre++rest->pre.length+mw (wJ c h) rest=i->eX (aq bW) [.tmp 10,.tmp 11] 0 k (.loop [1,2,3,4,14] ag0) [(1,fH l),(2,aH c),(3,aH h),(4,aH ar),(14,aH pre.length)] [cv (aN t),cv (aM n)]=R:=by
 simp only[aN,aM] at hx ⊢;intro rest;induction rest with
 |nil =>
  intro pre e hi;obtain rfl:pre.length=i:=by simpa[mw] using hi
  rw[bG];simp only[X9,jM e,EW,seval];exact hx _
 |cons x r ih =>
  intro pre e hi;rw[bG];have dD:pre.length+1<=100000:=by rw[e] at hn; simp at hn; omega
  have hw:=zy pre x;have i1:=ih (pre++[x]) (by rw[e]; simp)
  have h0:((pre.length:Int)<0)=False:=dv;simp only[aA,au,aw,aJ] at i1;rw[VW] at hi;cases hl:wJ c h x<;>rw[hl] at hi
  ·obtain rfl:pre.length=i:=by simpa using hi
   unfold wJ at hl;cases h1:decide (x.bA<c)<;>cases h2:x.bA==c<;>cases h3:decide (x.handle<h)<;>rw[h1,h2,h3] at hl<;>first|(cases hl; done)|skip
   all_goals
    simp only[X9,iM e,gQ e,hw,h0,h1,h2,h3,ic,jc,er,dJ,fE,cT,dV,dZ,dW,aE,af,aD,EW,seval];exact hx _
  ·have i1:=i1 (by simp at hi; omega)
   unfold wJ at hl;cases h1:decide (x.bA<c)<;>cases h2:x.bA==c<;>cases h3:decide (x.handle<h)<;>rw[h1,h2,h3] at hl<;>first|(cases hl; done)|skip
   all_goals
    simp only[X9,iM e,gQ e,hw,h0,h1,h2,h3,ic,jc,er,dJ,fE,cT,dV,dZ,dW,aE,af,aD,EW,seval];exact i1
def c77(t:Tree)(l:List fA)(c h ar:Int)(ht:t.ae.length<=100000)(hn:l.length<=100000):aq bW 77 [br t,fH l,aH c,aH h,aH ar] []=some (.tuple [fH (sH t l c h ar).1,aH (sH t l c h ar).2],[]):=by
 refine aB ?_;have qg:=fun M=>Bi t.ae t.next t.ak ar ht M
 have qo:=fun M=>ame t.ae t.next t.ak ar ht M
 have qp:=fun M=>afv l c h hn M
 have hz:(find t.ae ar).getD Node.zero=bl t.ae ar:=rfl;rw[hz] at qg
 obtain⟨A,B,hl,hA⟩:∃A B,l=A++B/\mw (wJ c h) l=A.length:=⟨l.take (mw (wJ c h) l),l.drop (mw (wJ c h) l),dv,by
  rw[cp];have:mw (wJ c h) l<=l.length:=by unfold mw; exact(List.takeWhile_prefix _).length_le
  omega⟩
 have hlo:=fun {k R} hx=>ag7 (t:=t) (n:=bl t.ae ar) (c:=c) (h:=h) (ar:=ar) (i:=A.length) hn (k:=k) (R:=R) hx l [] rfl (by simpa using hA)
 unfold sH;rw[hA];have a1:l.take A.length=A:=by rw[hl]; simp
 have a2:l.drop A.length=B:=by rw[hl]; simp
 have a3:((A.length:Int)<=(l.length:Int))=True:=by rw[hl]; simp; omega
 have hal:A.length+B.length<=100000:=by rw[hl] at hn; simpa using hn
 have r1:cq A.length 24=True:=qM;have r2:cq (A.length+1) 24=True:=qM;have r3:cq (A.length+1+B.length) 24=True:=qM;generalize bl t.ae ar=n at qg qo hlo;generalize (find t.ae ar).isSome=is at qg qo;generalize zn l c h=p at qp
 cases h1:decide (c<0)<;>cases h2:decide (16<=c)<;>cases h3:decide (h<0)<;>cases h4:decide (99<h) <;>
  simp only[afg,X9,br,aN,qg,h1,h2,h3,h4,bL,aM,er,dJ,fE,cT,fF,aE,af,aD,EW,seval]
 cases is<;>cases h5:gS n<;>rw[h5] at qo<;>simp only[jP,gG,dV,dZ,dW] at qo <;>
  simp only[X9,qo,er,dJ,fE,cT,fF,aE,af,aD,EW,seval]
 cases h6:n.kind==2<;>simp only[X9,h6,aE,af,aD,EW,seval]
 cases h7:decide (0<=p)<;>simp only[X9,qp,h7,aE,af,aD,EW,seval]
 cases h8:decide (64<=(l.length:Int))<;>simp only[X9,h8,aE,af,aD,EW,seval]
 simp only[aw,aJ,aN,aM] at hlo;refine hlo (fun z=>?_)
 rw[a1,a2];have a1':(l.map ic).take A.length=A.map ic:=by rw[<-eP,a1]
 have a2':(l.map ic).drop A.length=B.map ic:=by rw[<-jT,a2]
 have a5:(l.map ic).take l.length=l.map ic:=by rw[<-eP,bF]
 simp only[X9,a1',a2',a3,a5,r1,r2,r3,dN,EW,seval];simp[ic,jc]
def k77(ae:List Node)(next ak:Int)(l:List fA)(c h ar:Int)(ht:ae.length<=100000)(hn:l.length<=100000)(M:aC):aU (aq bW) 77 [.agg [ba ae,aH next,aH ak],fH l,aH c,aH h,aH ar] M=some (.tuple [fH (sH ⟨ae,next,ak⟩ l c h ar).1,aH (sH ⟨ae,next,ak⟩ l c h ar).2],M):=cO (c77 ⟨ae,next,ak⟩ l c h ar ht hn) M
structure AF(t:Tree)(l:List fA)(u:Tree)(m:List fA):Prop where
 rt:Rt u
 mB:uD m
 len:m.length<=64
 mem:∀y,y∈m->y∈l/\(tJ t.ae y.ar->tJ u.ae y.ar)
 orp:(∀n,n∈t.ae->gS n=true->pT l n.ar=true)->∀n,n∈u.ae->gS n=true->pT m n.ar=true
 dir:∀i,XM t.ae i->XM u.ae i
 one:∀Q,OD t Q->OD u Q
 use:∀q,nv u q=nv t q
def AF.refl{t:Tree}{l:List fA}(ht:Rt t)(hl:uD l)(hn:l.length<=64):AF t l t l:=⟨ht,hl,hn,fun _ hy=>⟨hy,id⟩,id,fun _=>id,fun _=>id,fun _=>rfl⟩
theorem AF.trans{t u v:Tree}{l m k:List fA}(h:AF t l u m)(g:AF u m v k):AF t l v k:=⟨g.rt,g.mB,g.len,fun y hy=>⟨(h.mem y (g.mem y hy).1).1,fun hf=>(g.mem y hy).2 ((h.mem y (g.mem y hy).1).2 hf)⟩,fun ho=>g.orp (h.orp ho),fun i hi=>g.dir i (h.dir i hi),fun Q hQ=>g.one Q (h.one Q hQ),fun q=>(g.use q).trans (h.use q)⟩
def CV{l:List fA}{y:fA}(h:y∈l){i:Int}(e:y.ar=i):pT l i=true:=ku.2 ⟨y,h,by simp[e]⟩
def of_held{l:List fA}{i:Int}(h:pT l i=true):∃y,y∈l/\y.ar=i:=by
 obtain⟨y,h1,h2⟩:=ku.1 h;exact⟨y,h1,by simpa using h2⟩
def abj{t u:Tree}{l A B:List fA}{x:fA}(ht:Rt t)(hl:uD l)(hn:l.length<=64)(he:l=A++x::B)(hu:u=t/\(((find t.ae x.ar).isSome&&gS (bl t.ae x.ar))=true->pT (A++B) x.ar=true)\/u=(kK t x.ar).1/\pT (A++B) x.ar=false):AF t l u (A++B):=by
 subst he;have hsub:(A++B).Sublist (A++x::B):=List.Sublist.append (List.Sublist.refl _) (List.sublist_cons_self _ _);have dD:(A++B).length<=64:=aZ hsub.length_le hn
 have hor:∀y,y∈A++x::B->y=x\/y∈A++B:=fun y hy=>by
  rcases bo.1 hy with h|h
  ·exact .inr (fq _ h)
  ·rcases bI.1 h with h|h
   ·exact .inl h
   ·exact .inr (iC _ h)
 rcases hu with ⟨rfl,hb⟩|⟨rfl,hb⟩
 ·exact⟨ht,hl.sublist hsub,dD,fun y hy=>⟨hsub.mem hy,id⟩,fun h n hm ho=>by
   obtain⟨y,h1,h2⟩:=of_held (h n hm ho);rcases hor y h1 with rfl|h3
   ·rw[<-h2];refine hb ?_;have:=(ig ht.lP.mB).2 ⟨hm,h2.symm⟩;simp[bl,this,ho]
   ·exact CV h3 h2,fun _=>id,fun _=>id,fun _=>rfl⟩
 ·have hf:=ht.free x.ar;have hff:=A3 ht x.ar;refine⟨hf,hl.sublist hsub,dD,fun y hy=>⟨hsub.mem hy,fun hi=>Jh ht x.ar hi fun e=>by rw[CV hy e] at hb; cases hb⟩,fun h n hm ho=>?_,fun i hi=>?_,aaM ht x.ar,fun q=>by simp only[nv,Qq ht]⟩
  ·have h1:=(ig hf.lP.mB).2 ⟨hm,rfl⟩;rw[hff] at h1;split at h1
   ·cases h1
   rename_i hc;obtain⟨y,g1,g2⟩:=of_held (h n (cD h1).1 ho);rcases hor y g1 with rfl|h3
   ·exact absurd ⟨g2.symm,n,by rw[g2]; exact h1,ho⟩ hc
   ·exact CV h3 g2
  ·obtain⟨n,h1,h2⟩:=hi;refine⟨n,?_,h2⟩;rw[hff,aL,h1];rintro⟨rfl,m,g1,g2⟩;rw[h1] at g1; cases g1;simp[gS,h2] at g2
def c80(t:Tree)(l:List fA)(c h:Int)(ht:Rt t)(hl:uD l)(hn:l.length<=64):∃u m e,aq bW 80 [br t,fH l,aH c,aH h] []=some (.tuple [br u,fH m,aH e],[])/\AF t l u m:=by
 have qp:=fun M=>afv l c h aI M
 have hnl:=ht.sz.ae;rcases sn c h l 0 with ⟨hp,_⟩|⟨m,x,hp,hx,_⟩<;>rw[show pX c h l 0=zn l c h from rfl] at hp
 ·rw[hp] at qp;refine⟨t,l,80,aB ?_,AF.refl ht hl hn⟩;simp only[Pc,E80,br,aN,qp,EW,seval]
 ·rw[hp,aJ] at qp;have hm:=(aj.1 hx).1;have h1:((m:Int)<0)=False:=dv;have h2:((m:Int)<(l.length:Int))=True:=sk;have w1:IntKind.i64.wrap ((m:Int)+1)=((m+1:Nat):Int):=by rw[gw aI aI]; rfl
  have h3:((m:Int)<=(l.length:Int))=True:=sk;have h4:(((m+1:Nat):Int)<=(l.length:Int))=True:=sk;obtain⟨A,B,e1,e2⟩:∃A B,l.take m=A/\l.drop (m+1)=B:=⟨_,_,rfl,rfl⟩
  have he:l=A++x::B:=by
   have hxe:x=l[m]:=(aj.1 hx).2.symm;rw[<-e1,<-e2,hxe,List.getElem_cons_drop hm,cC]
  have sh:=fun u hu=>abj (u:=u) ht hl hn he hu
  have hab:A.length+B.length<=64:=by rw[he] at hn; simp at hn; omega
  have qo:=fun M=>ame t.ae t.next t.ak x.ar aI M
  have qh:=fun M=>asi (A++B) x.ar gm M
  have qf:=fun M=>amg t.ae t.next t.ak x.ar ht.small M
  have hD:pT (A++B) x.ar = !(I8 (A++B) x.ar==0):=by
   rw[cE];unfold pT I8;rw[ku,<-List.countP_pos_iff (p:=fun z:fA=>z.ar==x.ar)]
   simp only[gN,jl];omega
  rw[hD] at sh;have a1:(l.map ic).take m=A.map ic:=by rw[<-eP,e1]
  have a2:(l.map ic).drop (m+1)=B.map ic:=by rw[<-jT,e2]
  have a5:(l.map ic).take l.length=l.map ic:=by rw[<-eP,bF]
  have r1:cq A.length 24=True:=qM;have r2:cq (A.length+B.length) 24=True:=qM;generalize ((find t.ae x.ar).isSome&&gS (bl t.ae x.ar))=b at qo sh;generalize kK t x.ar=v at qf sh;have eAB:fH (A++B) = gU (A.map ic++B.map ic):=congrArg (ag.slice .sh) aW;rw[eAB] at qh;cases b
  ·refine⟨t,A++B,0,aB ?_,sh t (.inl ⟨rfl,fun h=>by cases h⟩)⟩
   rw[eAB];simp only[Pc,E80,br,aN,qp,qo,h1,h2,h3,h4,w1,hx,a1,a2,a5,r1,r2,ic,jc,aW,dN,EW,seval]
  ·cases h5:I8 (A++B) x.ar==0<;>rw[h5] at sh
   ·refine⟨t,A++B,0,aB ?_,sh t (.inl ⟨rfl,fun _=>rfl⟩)⟩
    rw[eAB];simp only[Pc,E80,br,aN,qp,qo,qh,h1,h2,h3,h4,h5,w1,hx,a1,a2,a5,r1,r2,ic,jc,aW,dN,EW,seval]
   ·refine⟨v.1,A++B,0,aB ?_,sh v.1 (.inr ⟨rfl,rfl⟩)⟩;rw[eAB];simp only[Pc,E80,br,aN,qp,qo,qh,qf,h1,h2,h3,h4,h5,w1,hx,a1,a2,a5,r1,r2,ic,jc,aW,dN,EW,seval]
def c48(t:Tree)(l:List fA)(c:Int)(ht:Rt t)(hl:uD l)(hn:l.length<=64):∃u m,aq bW 48 [br t,fH l,aH c] []=some (.tuple [br u,fH m],[])/\AF t l u m:=by
 have key:∃r:ag×aC,(∃u m,r=(.tuple [br u,fH m],[])/\AF t l u m)/\eX (aq bW) YU.results 0 [] YU.body (eG 0 [br t,fH l,aH c]) []=some r:=by
  simp only[YU,E48,br,aN,EW,seval];refine jd (xs:=List.replicate 100 ()) dv (fun _ (s:Tree×List fA)=>AF t l s.1 s.2) (fun s i=>[(1,fH s.2),(2,aH c),(3,cu 0),(6,cu 1),(8,aH i)]) (fun s=>[cv [ba s.1.ae,aH s.1.next,aH s.1.ak],cv [.slice .c0 [],aH 0,aH 0]]) _ (fun s hs=>?_) (fun pre x post s e hx cL hw h0 _ hs hi=>?_) (t,l) (AF.refl ht hl hn)
  ·have e1:(((100:Nat):Int)<=99)=False:=dv;simp only[E48,e1,kX,EW,seval];exact⟨_,⟨s.1,s.2,rfl,hs⟩,rfl⟩
  ·have e1:((pre.length:Int)<=99)=True:=by
    have:=of_eq_true cL;rw[kX] at this;simp only[fG,ja]; omega
   obtain⟨u,m,e,q,hq⟩:=c80 s.1 s.2 c pre.length hs.rt hs.mB hs.len;have qc:=cP q;simp only[br,aN] at qc;have i1:=hi (u,m) (hs.trans hq);simp only[E48,e1,hw,qc,EW,seval];exact i1
 obtain⟨_,⟨u,m,rfl,h1⟩,h3⟩:=key;exact⟨u,m,aB h3,h1⟩
def c81(l:List fA)(c h:Int)(hn:l.length<=64):∃i e,aq bW 81 [fH l,aH c,aH h] []=some (.tuple [aH i,aH e],[]):=by
 have qp:=fun M=>afv l c h aI M
 rcases sn c h l 0 with ⟨hp,_⟩|⟨m,x,hp,hx,_⟩<;>rw[show pX c h l 0=zn l c h from rfl] at hp
 ·rw[hp] at qp;refine⟨0,80,aB ?_⟩;simp only[afh,E81,qp,EW,seval]
 ·rw[hp,aJ] at qp;have hm:=(aj.1 hx).1;have h1:((m:Int)<0)=False:=dv;have h2:((m:Int)<(l.length:Int))=True:=sk;refine⟨x.ar,0,aB ?_⟩;simp only[afh,E81,qp,h1,h2,hx,ic,jc,EW,seval]
def aqx(l:List fA)(ar:Int)(hn:l.length<=100000):aq bW 172 [fH l,aH ar] []=some (.bool (l.any fun x=>x.ar==ar),[]):=by
 refine aB ?_;simp only[acC,aea,EW,seval];refine AZ (xs:=l) aI (fun post (_:Unit)=>post.any fun x=>x.ar==ar) (fun _ i=>[(0,fH l),(1,aH ar),(5,aH i)]) (fun _=>[]) (fun z=>some (ag.bool z,([]:aC))) (fun _=>?_) (fun pre x post _ e hx cL hw h0 hm hi=>?_) ()
 ·simp[aea,bu,o5,EW]
 ·have i1:=hi ();rw[jS];cases h1:x.ar==ar<;>simp only[aea,cL,hx,hw,h1,ic,jc,dJ,cT,EW,seval]<;>exact i1
def asB(l:List fA)(ar:Int)(hn:l.length<=100000)(M:aC):aU (aq bW) 172 [fH l,aH ar] M=some (.bool (l.any fun x=>x.ar==ar),M):=cO (aqx l _ hn) M
def aqz(t:Tree)(l:List dQ)(hr:Rt t)(hl:l.length<=100000):∃b:Bool,aq bW 174 [br t,cN l] []=some (.bool b,[])/\(b=false->∀y,y∈l->nv t y=false):=by
 have key:∃r:ag×aC,(∃b:Bool,r=(.bool b,[])/\(b=false->∀y,y∈l->nv t y=false))/\eX (aq bW) M1.results 0 [] M1.body (eG 0 [br t,cN l]) []=some r:=by
  simp only[M1,aeb,br,aN,EW,seval];refine jd (xs:=l) aI (fun m (_:Unit)=>∀y,y∈l.take m->nv t y=false) (fun _ i=>[(1,cN l),(2,cu 0),(5,aH i)]) (fun _=>[cv [ba t.ae,aH t.next,aH t.ak]]) _ (fun _ ho=>?_) (fun pre x post _ e hx cL hw h0 _ ho hi=>?_) () (fun y hy=>ka)
  ·simp only[aeb,bu,EW,seval];rw[bF] at ho;simp_all
  ·obtain⟨a,b,q,u1,u2⟩:=akE t x.ar hr;have qu:=cP q;simp only[br,aN] at qu;have htk:l.take (pre.length+1)=l.take pre.length++[x]:=by rw[cB,hx]; rfl
   have i1:=fun h=>hi () (fun y hy=>by
    rw[htk] at hy;exact(bo.1 hy).elim (ho y) fun hy=>by rw[bQ.1 hy]; omega)
   cases h1:decide (x.ae<a)<;>cases h2:decide (x.bytes<b)<;>simp only[aeb,cL,hx,hw,qu,h1,h2,gA,iV,EW,seval]<;>first|exact⟨_,⟨_,rfl,fun h=>by cases h⟩,rfl⟩|exact i1 (by simp only[dz] at h1 h2; simp only[nv,Bool.not_eq_false',bt,bj]; omega)
 obtain⟨_,⟨b,rfl,h1⟩,h3⟩:=key;exact⟨b,aB h3,h1⟩
section
variable {t:Tree} {l:List dQ} {Q:ag×aC->Prop}
def Fst(t:Tree)(l:List dQ)(v:Int)(S:Node->gM->Prop)(a:Int):Prop:=(∀d e,S d e->e.ar=v->mo t.ae l d.ar=a)/\(a<0->∀d e,S d e->e.ar≠v)
abbrev XP(t:Tree):aC:=[.cells [ba t.ae,.int .i64 t.next,.int .i64 t.ak]]
theorem VL{dG:Int->Nat}(h:dU t dG 0)(hq:pz l)(hl:l.length<=100000){S:Node->gM->Prop}{i j:Nat}{x d:Node}(hi':t.ae[i]?=some x)(hdm:d∈t.ae)(hd:d.bc.length<=100000){k:List K}
  (hx:∀(a:Int) z,Fst t l x.ar (fun d' e'=>S d' e'\/(d'=d/\e'∈d.bc)) a->∃r,Q r/\kr (aq bW) [.tmp 4] 0 k ⟨.exit 4,(1,cN l)::(2,cu 0)::(5,aH i)::(6,aH a)::(7,aH j)::(8,cu 1)::z,XP t++[cv (aM d)]⟩=some r)
  (hr:∀M,∃r,Q r/\kr (aq bW) [.tmp 4] 0 k ⟨.ret,[(4,.bool false)],M⟩=some r) (a:Int) (ha:Fst t l x.ar S a) :
  ∃r,Q r/\eX (aq bW) [.tmp 4] 0 k (.loop [1,2,5,6,7,8,9] ZM) [(1,cN l),(2,cu 0),(5,aH i),(6,aH a),(7,aH j),(8,cu 1),(9,aH 0)] (XP t++[cv (aM d)])=some r:=by
 have b1:((i:Int)<0)=False:=dv;refine jd (xs:=d.bc) aI (fun m (a:Int)=>Fst t l x.ar (fun d' e'=>S d' e'\/(d'=d/\e'∈d.bc.take m)) a) (fun(a:Int) n=>[(1,cN l),(2,cu 0),(5,aH i),(6,aH a),(7,aH j),(8,cu 1),(9,aH n)]) (fun _=>XP t++[cv (aM d)]) Q (fun a ha=>?_) (fun pre e post a hp hx' cL hw h0 hm ha hi=>?_) a ⟨fun d' e' h1 h2=>h1.elim (fun h1=>ha.1 d' e' h1 h2) fun h1=>by simp at h1,fun h0 d' e' h1=>h1.elim (ha.2 h0 d' e') fun h1=>by simp at h1⟩
 ·simp only[XP,aM,aG,aQ] at hx ⊢;simp only[EY,bu,EW,seval];rw[bF] at ha;exact hx a _ ha
 ·have hfd:=(ig h.lP.mB).2 ⟨hdm,rfl⟩
  have hkd:d.kind=2:=by
   rcases h.kind _ _ hfd with h1|h1
   ·rw[(h.file _ _ hfd h1).1] at hm; cases hm
   ·exact h1
  have qd:=fun M=>cO (ari h hq hl hfd hkd) M
  have hge:0<=mo t.ae l d.ar:=Iy h l 13 d.ar d hfd hkd;have htk:d.bc.take (pre.length+1)=d.bc.take pre.length++[e]:=by rw[cB,hx']; rfl
  generalize hu:mo t.ae l d.ar=u at qd hge;simp only[br,aN] at qd
  have i1:=fun hne:e.ar≠x.ar=>hi a ⟨fun d' e' h1 h2=>ha.1 d' e' (h1.imp id fun h1=>⟨h1.1,by
    have h1:=h1.2;rw[htk] at h1
    grind⟩) h2,fun h0 d' e' h1 h2=>ha.2 h0 d' e' (h1.imp id fun h1=>⟨h1.1,by
    have h1:=h1.2;rw[htk] at h1;rcases bo.1 h1 with h1|h1
    ·exact h1
    grind⟩) h2⟩
  have i2:=fun hau:a<0\/u=a=>hi u ⟨fun d' e' h1 h2=>by
    have um:∀d' e',(S d' e'\/(d'=d/\e'∈d.bc.take pre.length))->e'.ar=x.ar->mo t.ae l d'.ar=u:=fun d' e' g1 g2=>by
     rcases hau with h0|h0
     ·exact absurd g2 (ha.2 h0 d' e' g1)
     ·rw[h0]; exact ha.1 d' e' g1 g2
    rcases h1 with h1|⟨rfl,h1⟩
    ·exact um d' e' (.inl h1) h2
    ·exact hu,fun h0=>aI⟩
  simp only[XP,aM,aG,aQ] at i1 i2 ⊢;cases h1:e.ar != x.ar
  ·cases h2:decide (0<=a)<;>cases h3:u != a<;>simp only[EY,cL,hx',hw,hi',qd,h1,h2,h3,bL,aM,iG,fU,EW,seval]<;>first|exact hr _|exact i2 (by simp only[dz] at h2; omega)|exact i2 (.inr (by simpa using h3))
  ·simp only[EY,cL,hx',hw,hi',h1,bL,aM,iG,fU,EW,seval];exact i1 (by simpa using h1)
theorem VM{dG:Int->Nat}(h:dU t dG 0)(hq:pz l)(he:∀n,n∈t.ae->n.bc.length<=100000)(hl:l.length<=100000){i:Nat}{x:Node}(hi':t.ae[i]?=some x){k:List K}
  (hx:∀z,(∃a,Fst t l x.ar (fun d' e'=>d'∈t.ae/\e'∈d'.bc) a)->∃r,Q r/\kr (aq bW) [.tmp 4] 0 k ⟨.exit 2,(1,cN l)::(2,cu 0)::(5,aH i)::z,XP t⟩=some r)
  (hr:∀M,∃r,Q r/\kr (aq bW) [.tmp 4] 0 k ⟨.ret,[(4,.bool false)],M⟩=some r) (a:Int) (ha:Fst t l x.ar (fun _ _=>False) a) :
  ∃r,Q r/\eX (aq bW) [.tmp 4] 0 k (.loop [1,2,5,6,7] ZN) [(1,cN l),(2,cu 0),(5,aH i),(6,aH a),(7,aH 0)] (XP t)=some r:=by
 have h200:=h.ae;refine jd (xs:=t.ae) aI (fun m (a:Int)=>Fst t l x.ar (fun d' e'=>d'∈t.ae.take m/\e'∈d'.bc) a) (fun(a:Int) n=>[(1,cN l),(2,cu 0),(5,aH i),(6,aH a),(7,aH n)]) (fun _=>XP t) Q (fun a ha=>?_) (fun pre d post a hp hx' cL hw h0 hm ha hi=>?_) a ⟨fun d' e' h1=>by simp at h1,fun h0 d' e' h1=>by simp at h1⟩
 ·simp only[EY,bu,EW,seval];rw[bF] at ha;exact hx _ ⟨a,ha⟩
 ·have la:=fun {k} h2 h3=>VL (t:=t) (l:=l) (Q:=Q) h hq hl (j:=pre.length) hi' hm (he d hm) (k:=k) h2 h3 a ha
  have htk:t.ae.take (pre.length+1)=t.ae.take pre.length++[d]:=by rw[cB,hx']; rfl
  simp only[XP,aM,aG,aQ] at la ⊢;simp only[EY,cL,hx',bL,aM,EW,seval];refine la (fun a z ha'=>?_) (fun M=>?_)
  ·have sub:∀d' e',(d'∈t.ae.take (pre.length+1)/\e'∈d'.bc)->((d'∈t.ae.take pre.length/\e'∈d'.bc)\/(d'=d/\e'∈d.bc)):=fun d' e' ⟨g1,g2⟩=>by
    rw[htk] at g1
    grind
   have i1:=hi a ⟨fun d' e' g=>ha'.1 d' e' (sub d' e' g),fun h0 d' e' g=>ha'.2 h0 d' e' (sub d' e' g)⟩
   simp only[EY,hw,EW,seval];exact i1
  ·simp only[EW,seval];exact hr _
end
def aqy(t:Tree)(l:List dQ)(hr:Rt t)(hq:pz l)(hl:l.length<=100000):∃b:Bool,aq bW 173 [br t,cN l] []=some (.bool b,[])/\(b=true->OD t l):=by
 have he:∀n,n∈t.ae->n.bc.length<=100000:=fun n hn=>by have:=(hr.XO hn).1; omega
 have h200:=hr.sz.ae;obtain⟨dG,h⟩:=hr
 have key:∃r:ag×aC,(∃b:Bool,r=(.bool b,[])/\(b=true->OD t l))/\eX (aq bW) MZ.results 0 [] MZ.body (eG 0 [br t,cN l]) []=some r:=by
  simp only[MZ,EY,br,aN,EW,seval];refine jd (xs:=t.ae) aI (fun m (_:Unit)=>∀x,x∈t.ae.take m->x.kind=1->∃a,Fst t l x.ar (fun d' e'=>d'∈t.ae/\e'∈d'.bc) a) (fun _ i=>[(1,cN l),(2,cu 0),(5,aH i)]) (fun _=>XP t) _ (fun _ ho=>?_) (fun pre x post _ e hx cL hw h0 _ ho hi=>?_) () (fun y hy=>by simp at hy)
  ·simp only[EY,bu,EW,seval];rw[bF] at ho;refine⟨_,⟨_,rfl,fun _ d1 e1 d2 e2 x h1 h2 h3 h4 h5 h6 h7=>?_⟩,rfl⟩
   obtain⟨x1,x2⟩:=cD h6;obtain⟨a,ha⟩:=ho x x1 h7;rw[ha.1 d1 e1 ⟨h1,h2⟩ x2.symm,ha.1 d2 e2 ⟨h3,h4⟩ (h5.symm.trans x2.symm)]
  ·have htk:t.ae.take (pre.length+1)=t.ae.take pre.length++[x]:=by rw[cB,hx]; rfl
   have lb:=fun {k Q} h2 h3=>VM (t:=t) (l:=l) (Q:=Q) h hq he hl hx (k:=k) h2 h3 (-1) ⟨fun _ _ h=>h.elim,fun _ _ _ h=>h.elim⟩
   have i1:=fun hh:x.kind=1->∃a,Fst t l x.ar (fun d' e'=>d'∈t.ae/\e'∈d'.bc) a=>hi () (fun y hy=>by
    rw[htk] at hy;exact(bo.1 hy).elim (ho y) fun hy=>by rw[bQ.1 hy]; exact hh)
   cases h1:x.kind != 1<;>simp only[EY,cL,hx,hw,h1,bL,aM,EW,seval]
   ·refine lb (fun z hz=>?_) (fun M=>?_)
    ·simp only[EY,hw,EW,seval];exact i1 fun _=>hz
    ·simp only[EW,seval];simp
   ·exact i1 fun hk=>absurd hk ka
 obtain⟨_,⟨b,rfl,h1⟩,h3⟩:=key;exact⟨b,aB h3,h1⟩
section
variable {f:aa} {t:Tree} {q:List dQ} {Q:ag×aC->Prop}
abbrev stM(f:aa)(t:Tree):aC:=[.cells (cg f),.cells [ba t.ae,.int .i64 t.next,.int .i64 t.ak],.cells rR]
abbrev HN(q:List dQ):Env:=[(2,cN q),(3,.ptr 0 0),(4,.ptr 1 0),(6,.ptr 2 0)]
def VC(ht:Rt t)(hh:f.holds.length<=64){k:List K}
  (hx:∀(F:List Int) z,F.length<=1000->(∀i,i∈F->∀y,y∈f.holds->y.ar≠i)->(∀n,n∈t.ae->gS n=true->pT f.holds n.ar=false->n.ar∈F)->∃r,Q r/\kr (aq bW) [.dH 6 10,.tmp 7] 0 k ⟨.exit 0,HN q++(8,.slice (.own 3) (F.map mZ))::z,stM f t++[.tick 1 F.length]⟩=some r) :
  ∃r,Q r/\eX (aq bW) [.dH 6 10,.tmp 7] 0 k (.loop [2,3,4,6,8,9] Zq) (HN q++[(8,.slice (.own 3) []),(9,aH 0)]) (stM f t++[.tick 1 0])=some r:=by
 have h200:=ht.sz.ae;refine jd (xs:=t.ae) aI (fun m (F:List Int)=>F.length<=m/\(∀i,i∈F->∀y,y∈f.holds->y.ar≠i)/\∀n,n∈t.ae.take m->gS n=true->pT f.holds n.ar=false->n.ar∈F) (fun F i=>HN q++[(8,.slice (.own 3) (F.map mZ)),(9,aH i)]) (fun F=>stM f t++[.tick 1 F.length]) Q (fun F hF=>?_) (fun pre x post F e hx' cL hw h0 hm hF hi=>?_) [] ⟨av _,fun i h=>(by cases h),fun n h=>(by simp at h)⟩
 ·simp only[stM,HN,cg,rR,aG,aQ] at hx ⊢;simp only[EX,bu,EW,seval];exact hx F _ aI hF.2.1 (by have:=hF.2.2; rwa[bF] at this)
 ·have hp:=(aj.1 hx').1;have htk:t.ae.take (pre.length+1)=t.ae.take pre.length++[x]:=by rw[cB,hx']; rfl
  have i1:=fun hb:(gS x=true->pT f.holds x.ar=false->False)=>hi F ⟨aI,hF.2.1,fun n h=>by
   rw[htk] at h;rcases bo.1 h with h|h
   ·exact hF.2.2 n h
   ·rw[bQ.1 h]; exact fun a b=>(hb a b).elim⟩
  have i2:=fun hb:(f.holds.any fun y=>y.ar==x.ar)=false=>hi (F++[x.ar]) ⟨gm,fun i h y hy=>by
   rcases bo.1 h with h|h
   ·exact hF.2.1 i h y hy
   ·rw[bQ.1 h];simpa using List.any_eq_false.1 hb y hy,fun n h o1 o2=>by
   rw[htk] at h;rcases bo.1 h with h|h
   ·exact fq _ (hF.2.2 n h o1 o2)
   ·rw[bQ.1 h]; simp⟩
  unfold pT gS at i1;have qh:=fun M=>asB f.holds x.ar aI M
  generalize (f.holds.any fun y=>y.ar==x.ar)=b at qh i1 i2
  have r1:cq (F.length+1) 8=True:=qM;simp only[stM,HN,cg,rR,aG,aQ,aW,aF,aR,aA,au,aw,aJ,mZ] at i1 i2 ⊢;cases h1:x.kind==1<;>cases h2:x.eo==0<;>cases b<;>simp only[EX,cL,hx',hw,h0,h1,h2,qh,r1,uC,bL,aM,mZ,EW,seval]<;>first|exact i1 (by simp[h1,h2])|exact i2 rfl
structure w7(f:aa)(t0:Tree)(F:List Int)(t:Tree):Prop where
 rt:Rt t
 pU:∀y,y∈f.holds->tJ t0.ae y.ar->tJ t.ae y.ar
 sub:∀i n,find t.ae i=some n->find t0.ae i=some n
 gone:∀i,i∈F->∀n,find t.ae i=some n->gS n=false
def w7.file{f:aa}{t0:Tree}{F:List Int}{t:Tree}(h:w7 f t0 F t){i:Int}(hi:tJ t.ae i):tJ t0.ae i:=by
 obtain⟨n,h1,h2⟩:=hi;exact⟨n,h.sub _ _ h1,h2⟩
def w7.step{f:aa}{t0:Tree}{F:List Int}{t:Tree}(h:w7 f t0 F t){x:Int}(hx:∀y,y∈f.holds->y.ar≠x):w7 f t0 (F++[x]) (kK t x).1:=by
 have hf:=A3 h.rt x;refine⟨h.rt.free x,fun y hy hi=>Jh h.rt x (h.pU y hy hi) (hx y hy),fun i n hn=>?_,fun i hi n hn=>?_⟩
 ·rw[hf] at hn;split at hn
  ·cases hn
  ·exact h.sub _ _ hn
 ·rw[hf] at hn;split at hn
  ·cases hn
  ·rename_i hc;rcases bo.1 hi with hi|hi
   ·exact h.gone i hi n hn
   ·rw[bQ.1 hi] at hc hn;cases ho:gS n with
    |false=>rfl
    |true=>exact absurd ⟨rfl,n,hn,ho⟩ hc
def w7.held{f:aa}{t0:Tree}{F:List Int}{t:Tree}(h:w7 f t0 F t)(ha:∀n,n∈t0.ae->gS n=true->pT f.holds n.ar=false->n.ar∈F)(_:Rt t0):∀n,n∈t.ae->gS n=true->pT f.holds n.ar=true:=by
 intro n hn ho;have h1:=(ig h.rt.lP.mB).2 ⟨hn,rfl⟩;cases hh:pT f.holds n.ar with
 |true=>rfl
 |false =>
  have:=h.gone _ (ha n (cD (h.sub _ _ h1)).1 ho hh) n h1;rw[ho] at this; cases this
def VD{F:List Int}(hF:F.length<=1000)(hno:∀i,i∈F->∀y,y∈f.holds->y.ar≠i){t0:Tree}{k:List K}
  (hx:∀(t:Tree) z,w7 f t0 F t->∃r,Q r/\kr (aq bW) [.dH 6 10,.tmp 7] 0 k ⟨.exit 2,HN q++(8,.slice (.own 3) (F.map mZ))::z,stM f t++[.tick 1 F.length]⟩=some r) (ht:w7 f t0 [] t) :
  ∃r,Q r/\eX (aq bW) [.dH 6 10,.tmp 7] 0 k (.loop [2,3,4,6,8,11] Zt) (HN q++[(8,.slice (.own 3) (F.map mZ)),(11,aH 0)]) (stM f t++[.tick 1 F.length])=some r:=by
 refine jd (xs:=F) aI (fun m (t:Tree)=>w7 f t0 (F.take m) t) (fun _ i=>HN q++[(8,.slice (.own 3) (F.map mZ)),(11,aH i)]) (fun t=>stM f t++[.tick 1 F.length]) Q (fun t ht=>?_) (fun pre x post t e hx' cL hw h0 hm ht hi=>?_) t (by simpa using ht)
 ·simp only[stM,HN,cg,rR,aG,aQ] at hx ⊢;simp only[EX,bu,EW,seval];exact hx t _ (by rwa[bF] at ht)
 ·have i1:=hi _ (show w7 f t0 (F.take (pre.length+1)) (kK t x).1 by rw[cB,hx']; exact ht.step (hno x hm))
  have qf:=fun M=>amg t.ae t.next t.ak x ht.rt.small M
  generalize kK t x=v at qf i1;simp only[br,aN] at qf;simp only[stM,HN,cg,rR,aG,aQ] at i1 ⊢;simp only[EX,cL,hx',hw,h0,qf,mZ,EW,seval];exact i1
def VE(ht:Rt t)(hq:pz q)(hn:q.length<=16){F:List Int}{k:List K}
  (hx:∀(L:List dQ) z,pz L->L.length<=16->(∀y,y∈L->y∈q/\(find t.ae y.ar).isSome=true)->∃r,Q r/\kr (aq bW) [.dH 6 10,.tmp 7] 0 k ⟨.exit 4,HN q++(14,.slice (.own 4) (L.map gA))::z,stM f t++[.tick 1 F.length,.tick 3 L.length]⟩=some r) :
  ∃r,Q r/\eX (aq bW) [.dH 6 10,.tmp 7] 0 k (.loop [2,3,4,6,14,15] Zu) (HN q++[(14,.slice (.own 4) []),(15,aH 0)]) (stM f t++[.tick 1 F.length,.tick 3 0])=some r:=by
 have h200:=ht.sz.ae;refine jd (xs:=q) aI (fun m (L:List dQ)=>L.Sublist (q.take m)/\∀y,y∈L->(find t.ae y.ar).isSome=true) (fun L i=>HN q++[(14,.slice (.own 4) (L.map gA)),(15,aH i)]) (fun L=>stM f t++[.tick 1 F.length,.tick 3 L.length]) Q (fun L hL=>?_) (fun pre x post L e hx' cL hw h0 hm hL hi=>?_) [] ⟨List.nil_sublist _,fun y h=>by cases h⟩
 ·rw[bF] at hL;simp only[stM,HN,cg,rR,aG,aQ] at hx ⊢;simp only[EX,bu,EW,seval];exact hx L _ (hq.sublist hL.1) (aZ hL.1.length_le hn) (fun y hy=>⟨hL.1.mem hy,hL.2 y hy⟩)
 ·have ht1:q.take (pre.length+1)=q.take pre.length++[x]:=by rw[cB,hx']; rfl
  have i1:=hi L ⟨by rw[ht1]; exact hL.1.trans (List.sublist_append_left _ _),hL.2⟩
  have i2:=fun hs=>hi (L++[x]) ⟨by rw[ht1]; exact hL.1.append (List.Sublist.refl _),fun y h=>(bo.1 h).elim (hL.2 y) fun h=>by rw[bQ.1 h]; exact hs⟩
  have hLl:L.length<=16:=aZ hL.1.length_le gm;have qg:=fun M=>Bi t.ae t.next t.ak x.ar aI M
  generalize (find t.ae x.ar).getD Node.zero=n at qg;generalize (find t.ae x.ar).isSome=b at qg i2;have r1:cq (L.length+1) 24=True:=qM;simp only[stM,HN,cg,rR,aG,aQ,aW,aF,aR,aA,au,aw,aJ,gA,iV] at i1 i2 ⊢;cases b<;>simp only[EX,cL,hx',hw,h0,qg,r1,bL,aM,gA,iV,EW,seval]<;>first|exact i1|exact i2 rfl
end
structure On(f:aa):Prop where
 file:∀y,y∈f.holds->tJ f.s.now.ae y.ar
 orp:∀n,n∈f.s.now.ae->gS n=true->pT f.holds n.ar=true
 quo:∀q,q∈f.dS->XM f.s.now.ae q.ar
 one:OD f.s.now f.dS
 over:∀q,q∈f.dS->nv f.s.now q=false
 key:∀y,y∈f.holds->z6 y.bA y.handle=true
def Qd(s:iQ)(t:Tree):(qA s t).now=t:=by
 unfold qA;split
 ·rename_i h; exact jW h
 ·rfl
def Hx{f:aa}{t:Tree}{H:List fA}{Q:List dQ}(hH:∀y,y∈H->y∈f.holds/\(tJ f.s.now.ae y.ar->tJ t.ae y.ar))(hO:∀n,n∈t.ae->gS n=true->pT H n.ar=true)(hQ:∀q,q∈Q->XM t.ae q.ar)(h1:OD t Q)(h2:∀q,q∈Q->nv t q=false)(h:On f):On ⟨qA f.s t,H,Q⟩:=by
 refine⟨fun y hy=>?_,fun n hn=>?_,fun q hq=>?_,?_,fun q hq=>?_,fun y hy=>h.key y (hH y hy).1⟩<;>simp only[Qd] at *
 ·exact(hH y hy).2 (h.file y (hH y hy).1)
 ·exact hO n hn
 ·exact hQ q hq
 ·exact h1
 ·exact h2 q hq
def Kp(f g:aa):Prop:=(On f->On g)/\Stp (fun _=>True) f.s g.s
def D5{f:aa}:Kp f f:=⟨id,.inl rfl⟩
def apQ{K:Nat}(f:aa)(t:Tree)(q:List dQ)(hf:FB K f)(hK:K<=89000)(ht:Rt t)(hq:pz q)(hn:q.length<=16)(hkp:∀y,y∈f.holds->tJ f.s.now.ae y.ar->tJ t.ae y.ar)(hqd:On f->∀y,y∈q->¬tJ t.ae y.ar):∃g e,aq bW 120 [.agg (cg f),br t,cN q] []=some (.tuple [.agg (cg g),aH e],[])/\FB (K+200) g/\Kp f g:=by
 have key:∃r:ag×aC,(∃g e,r=(.tuple [.agg (cg g),aH e],[])/\FB (K+200) g/\Kp f g)/\eX (aq bW) IV.results 0 [] IV.body (eG 0 [.agg (cg f),br t,cN q]) []=some r:=by
  have la:=fun {k Q} hx=>VC (f:=f) (t:=t) (q:=q) (Q:=Q) ht hf.ok.dD (k:=k) hx
  simp only[stM,HN,cg,rR,aG,aQ] at la;simp only[IV,EX,cg,br,aN,EW,seval];refine la (fun F z hF hno hall=>?_)
  have lb:=fun {k Q} hx=>VD (f:=f) (t:=t) (q:=q) (Q:=Q) hF hno (t0:=t) (k:=k) hx ⟨ht,fun _ _ h=>h,fun _ _ h=>h,fun i h=>by cases h⟩
  simp only[stM,HN,cg,rR,aG,aQ] at lb;simp only[EX,EW,seval];refine lb (fun t' z hfr=>?_)
  have ht':=hfr.rt;have hor:=hfr.held hall ht;have lc:=fun {k Q} hx=>VE (f:=f) (t:=t') (q:=q) (Q:=Q) ht' hq hn (F:=F) (k:=k) hx
  simp only[stM,HN,cg,rR,aG,aQ] at lc;simp only[EX,EW,seval];refine lc (fun L z hL hLn hLq=>?_)
  have h200:=ht'.sz.ae;obtain⟨b1,q1,k1⟩:=aqy t' L ht' hL aI;obtain⟨b2,q2,k2⟩:=aqz t' L ht' aI;have q3:=c49 f.s t' hf.ok.rt ht' hf.ok.len hf.ok.dR hf.ok.eN;have g1:=cP q1;have g2:=cP q2;have g3:=cP q3;simp only[br,aN,bM] at g1 g2 g3;have hfin:=hf.put hK ht' hf.ok.holds hf.ok.dD hL hLn
  have hho:b1=true->b2=false->On f->On ⟨qA f.s t',f.holds,L⟩:=fun c1 c2 h=>Hx (fun y hy=>⟨hy,fun hf=>hfr.pU y hy (hkp y hy hf)⟩) hor (fun y hy=>by
   obtain⟨h1,h2⟩:=hLq y hy;obtain⟨n,h2⟩:=fz.1 h2;exact ht'.XM h2 (fun hf=>hqd h y h1 (hfr.file hf))) (k1 c1) (k2 c2) h
  cases b1<;>cases b2<;>simp only[EX,g1,g2,g3,EW,seval]
  ·exact⟨_,⟨f,91,rfl,hf.mono aI,D5⟩,rfl⟩
  ·exact⟨_,⟨f,91,rfl,hf.mono aI,D5⟩,rfl⟩
  ·exact⟨_,⟨_,0,rfl,hfin,hho rfl rfl,.inr (.inl ⟨t',ht',rfl⟩)⟩,rfl⟩
  ·exact⟨_,⟨f,90,rfl,hf.mono aI,D5⟩,rfl⟩
 obtain⟨_,⟨g,e,rfl,h1⟩,h3⟩:=key;exact⟨g,e,aB h3,h1⟩
end
def Pw(s:Bytes):(Cb s).1.length<=100000/\(Cb s).2.1.length<=100000:=by
 obtain⟨o1,o2⟩:=yj s;unfold Cb;split
 ·exact⟨dv,dv⟩
 ·generalize (pZ s).1=l at o1 o2;constructor
  ·simp only;cases h:l.getLast? with
   |none=>simp
   |some x=>have:=qT (o1 x (List.mem_of_getLast? h)); simp only[bm]; omega
  ·simp only[Ni];split
   ·simp
   ·have h1:=DZ l.dropLast [] (fun x hx=>qT (o1 x (List.Sublist.mem hx (List.dropLast_sublist _))))
    simp only[aw,List.length_dropLast] at h1;omega
section
attribute [local irreducible] eX fM lC gK dX kr aq aU cr bJ
def c42(e:Int):aq bW 42 [aH e] []=some (.agg (dA (hV e)),[]):=by
 refine aB ?_;simp only[alB,E42,EW,seval];rfl
def k42 e:=cP (c42 e)
def c75(n:Node):∃a:Int,aq bW 75 [bL n] []=some (aH a,[]):=by
 cases h1:n.kind==2
 ·refine⟨n.data.length,aB ?_⟩;simp only[aff,E75,bL,aM,h1,EW,seval]
 ·refine⟨n.bc.length,aB ?_⟩;simp only[aff,E75,bL,aM,h1,EW,seval]
def c67(t:Tree)(s:Bytes)(ht:Small t)(hs:s.length<=100000):∃d nm e,aq bW 67 [br t,.str s] []=some (.tuple [aH d,.str nm,aH e],[])/\nm.length<=100000:=by
 have ql:=fun M=>cO (apN s hs) M
 obtain⟨h1,h2⟩:=Pw s;generalize Cb s=v at ql h1 h2;have qw:=fun M=>k66 t.ae t.next t.ak v.2.1 ht h2 M
 generalize Cy t.ae v.2.1=w at qw;cases h3:v.2.2 != 0
 ·refine⟨w.1,v.1,w.2,aB ?_,h1⟩;simp only[afe,E67,br,aN,ql,qw,h3,EW,seval]
 ·refine⟨0,[],v.2.2,aB ?_,dv⟩;simp only[afe,E67,br,aN,ql,h3,EW,seval]
def FB.adP{K:Nat}{f:aa}(h:FB K f){u:iQ}(e1:u.now=f.s.now)(e2:u.since=f.s.since)(e3:∀p,p∈u.eN->p∈f.s.eN)(e4:u.eN.length<=f.s.eN.length)(e5:u.dR.length<=16):FB (K+200) ⟨u,f.holds,f.dS⟩/\(On f->On ⟨u,f.holds,f.dS⟩) :=
 ⟨⟨⟨by simp only[e1]; exact h.ok.rt,by simp only[e1,e2]; exact h.ok.len,aZ e4 h.ok.eN,fun p hp=>h.ok.Es p (e3 p hp),e5,h.ok.holds,h.ok.dD,h.ok.dS,h.ok.sK⟩,by have:=h.past; simp only; omega⟩,fun g=>⟨by simp only[e1]; exact g.file,by simp only[e1]; exact g.orp,by simp only[e1]; exact g.quo,by simp only[e1]; exact g.one,by simp only[e1]; exact g.over,g.key⟩⟩
def yw(K:Nat)(f:aa)(F:Nat)(vs:List ag):Prop:=∃g a,aq bW F vs []=some (.tuple [.agg (cg g),.agg (dA a)],[])/\FB (K+200) g/\Kp f g
def c69{K:Nat}(f:aa)(t:Tree)(q:List dQ)(e:Int)(a:vU)(hf:FB K f)(hK:K<=89000)(ht:Rt t)(hq:pz q)(hn:q.length<=16)(hkp:∀y,y∈f.holds->tJ f.s.now.ae y.ar->tJ t.ae y.ar)(hqd:On f->∀y,y∈q->¬tJ t.ae y.ar):yw K f 69 [.agg (cg f),br t,cN q,aH e,.agg (dA a)]:=by
 obtain⟨g,e',qs,hg⟩:=apQ f t q hf hK ht hq hn hkp hqd;have q1:=cP qs;have q2:=k42;simp only[br,aN,cg,dA] at q1 q2;cases h1:e != 0
 ·cases h2:e' != 0
  ·refine⟨g,a,aB ?_,hg⟩;simp only[YV,E69,br,aN,cg,dA,q1,q2,h1,h2,EW,seval]
  ·refine⟨f,hV e',aB ?_,hf.mono aI,D5⟩;simp only[YV,E69,br,aN,cg,dA,q1,q2,h1,h2,EW,seval]
 ·refine⟨f,hV e,aB ?_,hf.mono aI,D5⟩;simp only[YV,E69,br,aN,cg,dA,q1,q2,h1,EW,seval]
def c43{K:Nat}(f:aa)(o:jF)(hf:FB K f)(hK:K<=89000)(ho:sN o):yw K f 43 [.agg (cg f),.agg (eW o)]:=by
 have hr:=hf.ok.rt;have hz:Sz 1000 f.s.now:=⟨by have:=hr.sz.ae; omega,fun n hn=>by have:=hr.sz.bc n hn; omega,hr.sz.data⟩
 have hp:o.dI.length<=100000:=by have:=ho.dI; omega
 have hto:o.vh.length<=100000:=by have:=ho.vh; omega
 obtain⟨d,nm,e1,qa,hnm⟩:=c67 f.s.now o.dI hr.small hp;obtain⟨d',nm',e2,qb,hnm'⟩:=c67 f.s.now o.vh hr.small hto;have q1:=cP qa;have q2:=cP qb;have q3:=fun M=>k66 f.s.now.ae f.s.now.next f.s.now.ak o.dI hr.small hp M
 generalize Cy f.s.now.ae o.dI=w at q3;have q4:=k42;simp only[br,aN,cg,dA] at q1 q2 q4;have back:FB (K+200) f:=hf.mono aI;cases h0:o.kind==3
 ·cases h1:e1 != 0
  ·cases h2:o.kind==2
   ·cases h3:o.kind==4
    ·cases h4:e2 != 0
     ·have q5:=fun M=>k73 f.s.now.ae f.s.now.next f.s.now.ak d nm d' nm' hz hnm hnm' M
      have q6:=fun M=>k72 f.s.now.ae f.s.now.next f.s.now.ak d nm hr.small hnm M
      have hv:=hr.mv d nm d' nm';have hkf:=Zf hr d nm d' nm';have hrf:=anM hr d nm d' nm';generalize wU f.s.now d nm d' nm'=v at q5 hv hkf hrf;generalize fh f.s.now.ae d nm=u at q6;obtain⟨g,a,qd,hg⟩:=c69 f v.1 f.dS v.2.2 ⟨0,u.1,0,0,0,[],[]⟩ hf hK hv hf.ok.dS hf.ok.sK (fun y _ h=>hkf.2 _ h) (fun h y hy hi=>(h.quo y hy).no (hrf _ hi))
      have q7:=cP qd;simp only[br,aN,cg,dA,da,cV,aR] at q5 q6 q7;refine⟨g,a,aB ?_,hg⟩;simp only[Hb,E43,cg,eW,dA,h0,h1,h2,h3,h4,q1,q2,q5,q6,q7,EW,seval]
     ·refine⟨f,hV e2,aB ?_,back,D5⟩;simp only[Hb,E43,cg,eW,dA,h0,h1,h2,h3,h4,q1,q2,q4,EW,seval]
    ·have q5:=fun M=>k71 f.s.now.ae f.s.now.next f.s.now.ak d nm hz hnm M
     have hv:=hr.un d nm;have hkf:=Zg hr d nm;have hrf:=anN hr d nm;generalize BN f.s.now d nm=v at q5 hv hkf hrf;obtain⟨g,a,qd,hg⟩:=c69 f v.1 f.dS v.2.2 ⟨0,v.2.1,0,0,0,[],[]⟩ hf hK hv hf.ok.dS hf.ok.sK (fun y _ h=>hkf.2 _ h) (fun h y hy hi=>(h.quo y hy).no (hrf _ hi))
     have q7:=cP qd;simp only[br,aN,cg,dA,da,cV,aR] at q5 q7;refine⟨g,a,aB ?_,hg⟩;simp only[Hb,E43,cg,eW,dA,h0,h1,h2,h3,q1,q5,q7,EW,seval]
   ·have q5:=fun M=>k70 f.s.now.ae f.s.now.next f.s.now.ak d nm o.n hz hnm M
    have hv:=hr.add d nm o.n;have hkf:=SY hr d nm o.n;have hrf:=ahH hr d nm o.n;generalize rU f.s.now d nm o.n=v at q5 hv hkf hrf;obtain⟨g,a,qd,hg⟩:=c69 f v.1 f.dS v.2.2 ⟨0,v.2.1,o.n,0,0,[],[]⟩ hf hK hv hf.ok.dS hf.ok.sK (fun y _ h=>hkf.2 _ h) (fun h y hy hi=>(h.quo y hy).no (hrf _ hi))
    have q7:=cP qd;simp only[br,aN,cg,dA,da,cV,aR] at q5 q7;refine⟨g,a,aB ?_,hg⟩;simp only[Hb,E43,cg,eW,dA,h0,h1,h2,q1,q5,q7,EW,seval]
  ·refine⟨f,hV e1,aB ?_,back,D5⟩;simp only[Hb,E43,cg,eW,dA,h0,h1,q1,q4,EW,seval]
 ·cases h1:w.2 != 0
  ·cases h2:e2 != 0
   ·have q5:=fun M=>k68 f.s.now.ae f.s.now.next f.s.now.ak w.1 d' nm' hz hnm' M
    have hv:=hr.ln w.1 d' nm';have hkf:=Ze hr w.1 d' nm';have hrf:=anL hr w.1 d' nm';generalize CK f.s.now w.1 d' nm'=v at q5 hv hkf hrf;obtain⟨g,a,qd,hg⟩:=c69 f v.1 f.dS v.2 ⟨0,w.1,0,0,0,[],[]⟩ hf hK hv hf.ok.dS hf.ok.sK (fun y _ h=>hkf.2 _ h) (fun h y hy hi=>(h.quo y hy).no (hrf _ hi))
    have q7:=cP qd;simp only[br,aN,cg,dA,da,cV,aR] at q5 q7;refine⟨g,a,aB ?_,hg⟩;simp only[Hb,E43,cg,eW,dA,h0,h1,h2,q2,q3,q5,q7,EW,seval]
   ·refine⟨f,hV e2,aB ?_,back,D5⟩;simp only[Hb,E43,cg,eW,dA,h0,h1,h2,q2,q3,q4,EW,seval]
  ·refine⟨f,hV w.2,aB ?_,back,D5⟩;simp only[Hb,E43,cg,eW,dA,h0,h1,q3,q4,EW,seval]
section
variable {t:Tree} {n:Node} {many:Int} {Q:ag×aC->Prop}
abbrev liM(t:Tree)(n:Node)(out:List gM):aC:=[.cells [ba t.ae,.int .i64 t.next,.int .i64 t.ak],.cells [.int .i64 n.ar,.int .i64 n.kind,.int .i64 n.eo,cV n.data,jb n.bc,.int .i64 n.up],.tick 3 out.length]
def Nt(hn:n.bc.length<=100000){kx:Int}{out:List gM}{k:List K}
  (hx:∀(b:Int) z,(b = -1\/∃i:Nat,i<n.bc.length/\b=i)->∃r,Q r/\kr (aq bW) [.tmp 8,.tmp 9,.tmp 10] 0 k ⟨.exit 2,(2,aH kx)::(3,aH many)::(11,cu 1)::(13,.slice (.own 2) (out.map iG))::(14,aH b)::z,liM t n out⟩=some r) :
  ∃r,Q r/\eX (aq bW) [.tmp 8,.tmp 9,.tmp 10] 0 k (.loop [2,3,11,13,14,15] agY) [(2,aH kx),(3,aH many),(11,cu 1),(13,.slice (.own 2) (out.map iG)),(14,aH (-1)),(15,aH 0)] (liM t n out)=some r:=by
 refine jd (xs:=n.bc) aI (fun _ (b:Int)=>b = -1\/∃i:Nat,i<n.bc.length/\b=i) (fun b i=>[(2,aH kx),(3,aH many),(11,cu 1),(13,.slice (.own 2) (out.map iG)),(14,aH b),(15,aH i)]) (fun _=>liM t n out) Q (fun b hb=>?_) (fun pre e post b h hx' cL hw h0 hm hb hi=>?_) (-1) (.inl rfl)
 ·simp only[Kw,bu,EW,seval];exact hx b _ hb
 ·have hp:=(aj.1 hx').1;have i1:=hi b hb;have i2:=hi pre.length (.inr ⟨_,hp,rfl⟩);rcases hb with rfl|⟨a,ha,rfl⟩
  ·cases h1:decide (kx<=e.ak)<;>simp only[Kw,cL,hx',hw,h0,h1,iG,fU,EW,seval]<;>first|exact i1|exact i2
  ·have a0:((a:Int)<0)=False:=dv;have a1:((a:Int)<(n.bc.length:Int))=True:=sk;obtain⟨y,hy⟩:∃y,n.bc[a]?=some y:=⟨_,ai ha⟩;cases h1:decide (kx<=e.ak)<;>cases h2:decide (e.ak<y.ak)<;>simp only[Kw,cL,hx',hw,h0,a0,a1,hy,h1,h2,iG,fU,EW,seval]<;>first|exact i1|exact i2
def aaD(hn:n.bc.length<=100000){m:Nat}(hm:1<=m)(hm':m<=64){k:List K}
  (hr:∀(out:List gM)(x:Int),out.length<=64->∃r,Q r/\kr (aq bW) [.tmp 8,.tmp 9,.tmp 10] 0 k ⟨.ret,[(8,.slice (.own 2) (out.map iG)),(9,aH x),(10,aH 0)],liM t n out⟩=some r) :
  ∀(d:Nat)(kx:Int)(out:List gM),out.length+d=m->∃r,Q r/\eX (aq bW) [.tmp 8,.tmp 9,.tmp 10] 0 k (.loop [2,3,11,13] agZ) [(2,aH kx),(3,aH m),(11,cu 1),(13,.slice (.own 2) (out.map iG))] (liM t n out)=some r:=by
 intro d;induction d with
 |zero =>
  intro kx out hd;rw[bG];have la:=fun {k} hx=>Nt (t:=t) (n:=n) (many:=m) (Q:=Q) hn (kx:=kx) (out:=out) (k:=k) hx
  simp only[Kw,EW,seval];refine la (fun b z hb=>?_)
  rcases hb with rfl|⟨a,ha,rfl⟩
  ·simp only[Kw,EW,seval];exact hr out 0 aI
  ·have a0:((a:Int)<0)=False:=dv;have e1:((out.length:Int)==(m:Int))=true:=gm;have w1:IntKind.i64.wrap ((m:Int)-1)=((m-1:Nat):Int):=by rw[gw aI aI]; omega
   have e2:(((m-1:Nat):Int)<(out.length:Int))=True:=sk;have e3:(((m-1:Nat):Int)<0)=False:=dv;obtain⟨y,hy⟩:∃y,out[m-1]?=some y:=⟨_,ai aI⟩;simp only[Kw,a0,e1,w1,e2,e3,hy,iG,fU,EW,seval];exact hr out _ aI
 |succ d ih =>
  intro kx out hd;rw[bG];have la:=fun {k} hx=>Nt (t:=t) (n:=n) (many:=m) (Q:=Q) hn (kx:=kx) (out:=out) (k:=k) hx
  simp only[Kw,EW,seval];refine la (fun b z hb=>?_)
  rcases hb with rfl|⟨a,ha,rfl⟩
  ·simp only[Kw,EW,seval];exact hr out 0 aI
  ·have a0:((a:Int)<0)=False:=dv;have a1:((a:Int)<(n.bc.length:Int))=True:=sk;obtain⟨y,hy⟩:∃y,n.bc[a]?=some y:=⟨_,ai ha⟩;have e1:((out.length:Int)==(m:Int))=false:=gm;have r1:cq (out.length+1) 32=True:=qM;have i1:=fun kx=>ih kx (out++[y]) gm
   simp only[liM,aW,aF,aR,aA,au,aw,aJ,iG,fU] at i1 ⊢;simp only[Kw,a0,a1,e1,r1,hy,iG,fU,EW,seval];exact i1 _
end
def c76(t:Tree)(ar kx many:Int)(ht:Rt t):∃out x e,aq bW 76 [br t,aH ar,aH kx,aH many] []=some (.tuple [jb out,aH x,aH e],[])/\out.length<=64:=by
 have key:∃r:ag×aC,(∃out x e,r=(.tuple [jb out,aH x,aH e],[])/\out.length<=64)/\eX (aq bW) Hc.results 0 [] Hc.body (eG 0 [br t,aH ar,aH kx,aH many]) []=some r:=by
  have qd:=fun M=>Y8 t.ae t.next t.ak ar (by have:=ht.sz.ae; omega) M
  have hd:(gW t.ae ar).1.bc.length<=100000:=by obtain⟨dG,g⟩:=ht; have:=(x6 g ar).2; omega
  generalize gW t.ae ar=v at qd hd;cases h1:decide (kx<0)
  case true =>
   simp only[Hc,Kw,br,aN,h1,EW,seval];exact⟨_,⟨[],0,1,rfl,dv⟩,rfl⟩
  cases h2:decide (many<1)
  case true =>
   simp only[Hc,Kw,br,aN,h1,h2,EW,seval];exact⟨_,⟨[],0,1,rfl,dv⟩,rfl⟩
  cases h3:decide (64<many)
  case true =>
   simp only[Hc,Kw,br,aN,h1,h2,h3,EW,seval];exact⟨_,⟨[],0,1,rfl,dv⟩,rfl⟩
  cases h4:v.2 != 0
  case true =>
   simp only[Hc,Kw,br,aN,bL,aM,qd,h1,h2,h3,h4,EW,seval];exact⟨_,⟨[],0,v.2,rfl,dv⟩,rfl⟩
  simp only[dz] at h2 h3;obtain⟨m,rfl⟩:∃m:Nat,many=m:=⟨many.toNat,aI⟩;have g2:decide ((m:Int)<1)=false:=gm;have g3:decide (64<(m:Int))=false:=gm;have lb:=fun {k Q} hr=>aaD (t:=t) (n:=v.1) (Q:=Q) hd (m:=m) aI aI (k:=k) hr m kx [] dv
  simp only[liM,aR,aw] at lb;simp only[Hc,Kw,br,aN,bL,aM,qd,h1,g2,g3,h4,EW,seval];refine lb (fun out x ho=>?_)
  simp only[Kw,EW,seval];exact⟨_,⟨out,x,0,rfl,ho⟩,rfl⟩
 obtain⟨_,⟨out,x,e,rfl,h1⟩,h3⟩:=key;exact⟨out,x,e,aB h3,h1⟩
section
variable {f:aa} {o:jF} {n:Node} {Q:ag×aC->Prop}
abbrev wkM(f:aa)(o:jF)(n:Node):aC:=[.cells (cg f),.cells (eW o),.cells rR,.cells rh,.cells (aN f.s.now),.cells (aM n)]
def ag6{l:List gM}(hl:l.length<=64){nx:Int}{k:List K}
  (hx:∀(S:List Bytes) z,∃r,Q r/\kr (aq bW) [.dH 4 10,.dH 5 7] 0 k ⟨.exit 1,(2,cu 0)::(4,cu 2)::(5,cu 3)::(11,jb l)::(12,aH nx)::(14,.slice (.own 6) (S.map ag.str))::z,wkM f o n++[.tick 1 S.length]⟩=some r) :
  ∃r,Q r/\eX (aq bW) [.dH 4 10,.dH 5 7] 0 k (.loop [2,4,5,11,12,14,15] agP) [(2,cu 0),(4,cu 2),(5,cu 3),(11,jb l),(12,aH nx),(14,.slice (.own 6) []),(15,aH 0)] (wkM f o n++[.tick 1 0])=some r:=by
 refine jd (xs:=l) aI (fun m (S:List Bytes)=>S.length<=m) (fun S i=>[(2,cu 0),(4,cu 2),(5,cu 3),(11,jb l),(12,aH nx),(14,.slice (.own 6) (S.map ag.str)),(15,aH i)]) (fun S=>wkM f o n++[.tick 1 S.length]) Q (fun S hS=>?_) (fun pre e post S h hx' cL hw h0 hm hS hi=>?_) [] (av _)
 ·simp only[wkM,cg,eW,rR,rh,aN,aM,aG,aQ] at hx ⊢;simp only[Ol,bu,EW,seval];exact hx S _
 ·have hp:=(aj.1 hx').1;have i1:=hi (S++[e.name]) gm;have r1:cq (S.length+1) 16=True:=qM;simp only[wkM,cg,eW,rR,rh,aN,aM,aG,aQ,aW,aF,aR,aA,au,aw,aJ] at i1 ⊢;simp only[Ol,cL,hx',hw,h0,r1,iG,fU,EW,seval];exact i1
end
def c44{K:Nat}(f:aa)(o:jF)(hf:FB K f)(hK:K<=89000)(ho:sN o):yw K f 44 [.agg (cg f),.agg (eW o)]:=by
 have hr:=hf.ok.rt;have h200:=hr.sz.ae;have hp:o.dI.length<=100000:=by have:=ho.dI; omega
 have q3:=fun M=>k66 f.s.now.ae f.s.now.next f.s.now.ak o.dI hr.small hp M
 generalize Cy f.s.now.ae o.dI=w at q3;have qg:=fun M=>Bi f.s.now.ae f.s.now.next f.s.now.ak w.1 aI M
 generalize (find f.s.now.ae w.1).getD Node.zero=n at qg;have q4:=k42;simp only[dA,hV,da,cV,aR,bL,aM] at q4 qg;have back:FB (K+200) f:=hf.mono aI;cases h0:w.2 != 0
 case true =>
  refine⟨f,hV w.2,aB ?_,back,D5⟩;simp only[zP,Ol,cg,eW,dA,hV,da,cV,h0,q3,q4,EW,seval]
 cases h1:o.kind==1
 case true =>
  refine⟨f,⟨0,w.1,n.kind,0,0,[],[]⟩,aB ?_,back,D5⟩;simp only[zP,Ol,cg,eW,dA,hV,da,cV,h0,h1,q3,qg,EW,seval]
 cases h2:o.kind==7
 case true =>
  obtain⟨a,qa⟩:=c75 n;have q5:=cP qa;simp only[bL,aM] at q5;refine⟨f,⟨0,w.1,n.kind,n.eo,a,[],[]⟩,aB ?_,back,D5⟩;simp only[zP,Ol,cg,eW,dA,hV,da,cV,h0,h1,h2,q3,qg,q5,EW,seval]
 cases h3:o.kind==6
 case true =>
  obtain⟨l,nx,e,qa,hl⟩:=c76 f.s.now w.1 o.n o.m hr;have q5:=cP qa;simp only[br,aN] at q5;cases h4:e != 0
  case true =>
   refine⟨f,hV e,aB ?_,back,D5⟩;simp only[zP,Ol,cg,eW,dA,hV,da,cV,h0,h1,h2,h3,h4,q3,q4,q5,qg,EW,seval]
  have key:∃r:ag×aC,(∃a,r=(.tuple [.agg (cg f),.agg (dA a)],[]))/\eX (aq bW) zP.results 0 [] zP.body (eG 0 [.agg (cg f),.agg (eW o)]) []=some r:=by
   have la:=fun {k Q} hx=>ag6 (f:=f) (o:=o) (n:=n) (Q:=Q) hl (nx:=nx) (k:=k) hx
   simp only[wkM,cg,eW,rR,rh,aN,aM,aG,aQ] at la;simp only[zP,Ol,cg,eW,dA,hV,da,cV,h0,h1,h2,h3,h4,q3,q5,qg,EW,seval];refine la (fun S z=>?_)
   simp only[Ol,EW,seval];exact⟨_,⟨⟨0,0,0,nx,0,S,[]⟩,rfl⟩,rfl⟩
  obtain⟨_,⟨a,rfl⟩,h5⟩:=key;exact⟨f,a,aB h5,back,D5⟩
 cases h4:o.kind==8
 case true =>
  have q5:=fun M=>k77 f.s.now.ae f.s.now.next f.s.now.ak f.holds o.bA o.handle w.1 aI (by have:=hf.ok.dD; omega) M
  obtain⟨g1,g2⟩:=Wz (t:=f.s.now) hf.ok.holds hf.ok.dD o.bA o.handle w.1;have g4:∀y,y∈f.holds->y∈(sH ⟨f.s.now.ae,f.s.now.next,f.s.now.ak⟩ f.holds o.bA o.handle w.1).1:=fun y hy=>PZ f.s.now f.holds o.bA o.handle w.1 hy
  have g3:∀y,y∈(sH ⟨f.s.now.ae,f.s.now.next,f.s.now.ak⟩ f.holds o.bA o.handle w.1).1->y∈f.holds\/tJ f.s.now.ae y.ar/\z6 y.bA y.handle=true:=fun y hy=>PY (t:=f.s.now) (by obtain⟨dG,g⟩:=hr; exact g.kind) f.holds o.bA o.handle w.1 hy
  change uD (sH ⟨f.s.now.ae,f.s.now.next,f.s.now.ak⟩ f.holds o.bA o.handle w.1).1 at g1
  change(sH ⟨f.s.now.ae,f.s.now.next,f.s.now.ak⟩ f.holds o.bA o.handle w.1).1.length<=64 at g2
  generalize sH ⟨f.s.now.ae,f.s.now.next,f.s.now.ak⟩ f.holds o.bA o.handle w.1=v at q5 g1 g2 g3 g4
  cases h5:v.2 != 0
  ·refine⟨⟨f.s,v.1,f.dS⟩,⟨0,w.1,0,0,0,[],[]⟩,aB ?_,hf.set g1 g2,fun h=>⟨fun y hy=>(g3 y hy).elim (h.file y) And.left,fun n hn ho=>by
    obtain⟨y,h1,h2⟩:=of_held (h.orp n hn ho);exact CV (g4 y h1) h2,h.quo,h.one,h.over,fun y hy=>(g3 y hy).elim (h.key y) And.right⟩,.inl rfl⟩
   simp only[zP,Ol,cg,eW,dA,hV,da,cV,h0,h1,h2,h3,h4,h5,q3,q5,qg,EW,seval]
  ·refine⟨f,hV v.2,aB ?_,back,D5⟩;simp only[zP,Ol,cg,eW,dA,hV,da,cV,h0,h1,h2,h3,h4,h5,q3,q4,q5,qg,EW,seval]
 cases h5:o.kind==13
 case true =>
  obtain⟨l,e,qa,hl,hl',hlm⟩:=c78 f.s.now f.dS w.1 o.n o.m hr hf.ok.dS hf.ok.sK;have q5:=cP qa;obtain⟨g,a,qd,hg⟩:=c69 f f.s.now l e ⟨0,w.1,0,0,0,[],[]⟩ hf hK hr hl hl' (fun _ _ h=>h) (fun h y hy hi=>(hlm y hy).elim (fun hq=>(h.quo y hq).no (.inl hi)) fun hd=>XM.no hd (.inl hi))
  have q7:=cP qd;simp only[br,aN,cg,dA,da,cV,aR] at q5 q7;refine⟨g,a,aB ?_,hg⟩;simp only[zP,Ol,cg,eW,dA,hV,da,cV,h0,h1,h2,h3,h4,h5,q3,q5,q7,qg,EW,seval]
 obtain⟨i,e,qa⟩:=c79 f.s w.1 aI hf.ok.dR;have q5:=cP qa;simp only[bM] at q5;cases h6:e != 0
 ·have hts:(takeN f.s w.1).1.now=f.s.now/\(takeN f.s w.1).1.since=f.s.since/\(takeN f.s w.1).1.eN=f.s.eN/\(takeN f.s w.1).1.dR.length<=16:=by
   have:=hf.ok.dR;unfold takeN;split
   ·exact⟨rfl,rfl,rfl,this⟩
   split
   ·exact⟨rfl,rfl,rfl,this⟩
   split
   ·exact⟨rfl,rfl,rfl,this⟩
   ·rename_i hl;simp only[cS,bj,pb] at hl;exact⟨rfl,rfl,rfl,gm⟩
  obtain⟨t1,t2⟩:=hf.adP hts.1 hts.2.1 (fun p hp=>by rw[hts.2.2.1] at hp; exact hp) (by rw[hts.2.2.1]; exact av _) hts.2.2.2
  refine⟨⟨(takeN f.s w.1).1,f.holds,f.dS⟩,⟨0,0,0,i,0,[],[]⟩,aB ?_,t1,t2,.inr (.inr (.inl ⟨_,rfl⟩))⟩;simp only[zP,Ol,cg,eW,dA,hV,da,cV,h0,h1,h2,h3,h4,h5,h6,q3,q5,qg,EW,seval]
 ·refine⟨f,hV e,aB ?_,back,D5⟩;simp only[zP,Ol,cg,eW,dA,hV,da,cV,h0,h1,h2,h3,h4,h5,h6,q3,q4,q5,qg,EW,seval]
section
variable {data:Bytes} {kx:Nat} {Q:ag×aC->Prop}
def aaE(hf:kx+data.length<=100000){k:List K}
  (hx:∀(v:Nat) (out:Bytes) z,kx+data.length<=out.length->out.length<=100000->∃r,Q r/\kr (aq bW) [.tmp 6] 0 k ⟨.exit 0,(1,aH kx)::(2,cV data)::(7,.cz 0 v 1 0 out.length)::z,[.arr 1 v (out.map pf)]⟩=some r) :
  ∀(d v:Nat)(out:Bytes),kx+data.length-out.length=d->out.length<=100000->∃r,Q r/\eX (aq bW) [.tmp 6] 0 k (.loop [1,2,7] LI) [(1,aH kx),(2,cV data),(7,.cz 0 v 1 0 out.length)] [.arr 1 v (out.map pf)]=some r:=by
 have w1:IntKind.i64.wrap ((kx:Int)+(data.length:Int))=((kx+data.length:Nat):Int):=by rw[gw aI aI]; rfl
 intro d;induction d with
 |zero =>
  intro v out h1 h2;rw[bG];have e1:((out.length:Int)<((kx+data.length:Nat):Int))=False:=XQ;simp only[E82,w1,e1,bK,EW,seval];exact hx v out _ aI h2
 |succ d ih =>
  intro v out h1 h2;rw[bG];have e1:((out.length:Int)<((kx+data.length:Nat):Int))=True:=sk;have r1:cq (out.length+1) 1=True:=qM;have u0:pf 0 = .int .u8 0:=rfl;have i1:=ih (v+1) (out++[0]) gm gm;simp only[aW,aF,aR,aA,au,aw,aJ,u0] at i1;simp only[E82,w1,e1,r1,bK,oe,EW,seval];exact i1
def aaF(hf:kx+data.length<=100000){v L:Nat}(hL:kx+data.length<=L){k:List K}
  (hx:∀(out:Bytes) z,out.length=L->∃r,Q r/\kr (aq bW) [.tmp 6] 0 k ⟨.exit 2,(1,aH kx)::(2,cV data)::(7,.cz 0 v 1 0 L)::z,[.arr 1 v (out.map pf)]⟩=some r) {out:Bytes} (ho:out.length=L) :
  ∃r,Q r/\eX (aq bW) [.tmp 6] 0 k (.loop [1,2,7,8] ag2) [(1,aH kx),(2,cV data),(7,.cz 0 v 1 0 L),(8,aH 0)] [.arr 1 v (out.map pf)]=some r:=by
 refine jd (xs:=data) aI (fun _ (out:Bytes)=>out.length=L) (fun _ i=>[(1,aH kx),(2,cV data),(7,.cz 0 v 1 0 L),(8,aH i)]) (fun out=>[.arr 1 v (out.map pf)]) Q (fun out ho=>?_) (fun pre x post out e hx' cL hw h0 hm ho hi=>?_) out ho
 ·simp only[E82,bu,EW,seval];exact hx out _ ho
 ·have hp:=(aj.1 hx').1;have w1:IntKind.i64.wrap ((kx:Int)+(pre.length:Int))=((kx+pre.length:Nat):Int):=by rw[gw aI aI]; rfl
  have e1:(((kx+pre.length:Nat):Int)<(L:Int))=True:=sk;have e2:(((kx+pre.length:Nat):Int)<0)=False:=XQ;have sU:∀(ds:List UInt8)(b:Nat)(d x:UInt8),iP (ds.map pf) b (putCells (.int .u8 d.toNat) 0 [.int .u8 x.toNat])=(ds.set b x).map pf:=abi;have e3:(kx+pre.length<out.length)=True:=sk;have e4:(kx+pre.length<L)=True:=sk;obtain⟨d,hb⟩:∃d,out[kx+pre.length]?=some d:=⟨_,ai aI⟩;have i1:=hi (out.set (kx+pre.length) x) (by simp[ho])
  simp only[E82,cL,hx',hw,h0,w1,e1,e2,e3,e4,hb,ho,sU,pf,bK,EW,seval];exact i1
end
def c82(file:Bytes)(kx:Nat)(data:Bytes)(hf:file.length<=100000)(hr:kx+data.length<=100000):∃out:Bytes,aq bW 82 [cV file,aH kx,cV data] []=some (cV out,[])/\out.length<=100000:=by
 have key:∃r:ag×aC,(∃out:Bytes,r=(cV out,[])/\out.length<=100000)/\eX (aq bW) Pd.results 0 [] Pd.body (eG 0 [cV file,aH kx,cV data]) []=some r:=by
  have r1:cq file.length 1=True:=qM;cases h1:(data.length:Int)==0
  ·have la:=fun {k Q} hx=>aaE (data:=data) (kx:=kx) (Q:=Q) hr (k:=k) hx _ 0 file rfl aI
   have hk:∀ {k:List K} {a b c d:ag} {M:aC},eX (aq bW) [.tmp 6] 0 k (.loop [1,2,7] LI) [(1,a),(2,b),(7,c),(14,d)] M=eX (aq bW) [.tmp 6] 0 k (.loop [1,2,7] LI) [(1,a),(2,b),(7,c)] M:=by
    intros; rw[bG,bG]; rfl
   simp only[Pd,E82,h1,r1,EW,seval];rw[hk];refine la (fun v out z h2 h3=>?_)
   have lb:=fun {k Q} hx=>aaF (data:=data) (kx:=kx) (Q:=Q) hr (v:=v) h2 (k:=k) hx (out:=out) rfl
   simp only[E82,EW,seval];refine lb (fun out' z h4=>?_)
   have htk:(out'.map pf).take out.length=out'.map pf:=bB (by simp[h4])
   simp only[E82,h4,htk,bK,EW,seval];exact⟨_,⟨out',rfl,aI⟩,rfl⟩
  ·have htk:(file.map pf).take file.length=file.map pf:=bB dv;simp only[Pd,E82,h1,r1,htk,bK,EW,seval];exact⟨_,⟨file,rfl,aI⟩,rfl⟩
 obtain⟨_,⟨out,rfl,h1⟩,h3⟩:=key;exact⟨out,aB h3,h1⟩
def c45{K:Nat}(f:aa)(o:jF)(hf:FB K f)(hK:K<=89000)(ho:sN o):yw K f 45 [.agg (cg f),.agg (eW o)]:=by
 have hr:=hf.ok.rt;have h200:=hr.sz.ae;have hod:=ho.data;have q4:=k42;simp only[dA,hV,da,cV,aR] at q4;have back:FB (K+200) f:=hf.mono aI;cases h0:o.kind==9
 case true =>
  obtain⟨u,l,e,qa,g⟩:=c80 f.s.now f.holds o.bA o.handle hr hf.ok.holds hf.ok.dD;have qp:=c49 f.s u hr g.rt hf.ok.len hf.ok.dR hf.ok.eN;have q1:=cP qa;have q2:=cP qp;simp only[br,aN,bM] at q1 q2;cases h1:e != 0
  ·refine⟨⟨qA f.s u,l,f.dS⟩,hV 0,aB ?_,hf.put hK g.rt g.mB g.len hf.ok.dS hf.ok.sK,fun h=>Hx g.mem (g.orp h.orp) (fun q hq=>g.dir _ (h.quo q hq)) (g.one _ h.one) (fun q hq=>by rw[g.use]; exact h.over q hq) h,.inr (.inl ⟨u,g.rt,rfl⟩)⟩
   simp only[CJ,QR,cg,eW,dA,hV,da,cV,h0,h1,q1,q2,EW,seval]
  ·refine⟨f,hV e,aB ?_,back,D5⟩;simp only[CJ,QR,cg,eW,dA,hV,da,cV,h0,h1,q1,q4,EW,seval]
 obtain⟨x,e,qa⟩:=c81 f.holds o.bA o.handle hf.ok.dD;have q1:=cP qa;cases h1:e != 0
 case true =>
  refine⟨f,hV e,aB ?_,back,D5⟩;simp only[CJ,QR,cg,eW,dA,hV,da,cV,h0,h1,q1,q4,EW,seval]
 have qg:=fun M=>Bi f.s.now.ae f.s.now.next f.s.now.ak x aI M
 have hz:(find f.s.now.ae x).getD Node.zero=bl f.s.now.ae x:=rfl;rw[hz] at qg;obtain⟨s1,s2⟩:=xz hf.ok x;generalize bl f.s.now.ae x=n at qg s1 s2;simp only[bL,aM] at qg;have bad:∀e,aq bW 45 [.agg (cg f),.agg (eW o)] []=some (.tuple [.agg (cg f),.agg (dA (hV e))],[])->yw K f 45 [.agg (cg f),.agg (eW o)]:=fun e h=>⟨f,hV e,h,back,D5⟩
 cases h2:decide (o.n<0)
 case true =>
  refine bad 1 (aB ?_);simp only[CJ,QR,cg,eW,dA,hV,da,cV,h0,h1,h2,q1,q4,qg,EW,seval]
 have hn0:0<=o.n:=by simpa using h2
 obtain⟨m1,m2⟩:=Ab hn0 n.data.length;generalize Bo o.n n.data.length=mn at m1 m2;have t1:((mn:Int)<=(n.data.length:Int))=True:=sk;have ta:(n.data.map pf).take n.data.length=n.data.map pf:=bB dv;cases h3:o.kind==10
 case true =>
  have h3':(o.kind==11)=false:=by simp at h3 ⊢; omega
  cases h4:decide (o.m<0)
  case true =>
   refine bad 1 (aB ?_);simp only[CJ,QR,cg,eW,dA,hV,da,cV,h0,h1,h2,h3,h3',h4,q1,q4,qg,EW,seval]
  cases h5:decide (4096<o.m)
  case true =>
   refine bad 1 (aB ?_);simp only[CJ,QR,cg,eW,dA,hV,da,cV,h0,h1,h2,h3,h3',h4,h5,q1,q4,qg,EW,seval]
  simp only[dz] at h4 h5;have g4:decide (o.m<0)=false:=gm;have g5:decide (4096<o.m)=false:=gm;have w1:IntKind.i64.wrap ((mn:Int)+o.m)=(mn:Int)+o.m:=gw aI aI;obtain⟨p1,p2⟩:=Ab (a:=(mn:Int)+o.m) aI n.data.length
  have p3:mn<=Bo ((mn:Int)+o.m) n.data.length:=by
   have:=p1; split at this<;>omega
  generalize Bo ((mn:Int)+o.m) n.data.length=mx at p1 p2 p3;have t2:((mx:Int)<=(n.data.length:Int))=True:=sk;have t3:((mn:Int)<=(mx:Int))=True:=sk;refine⟨f,⟨0,x,0,0,0,[],(n.data.take mx).drop mn⟩,aB ?_,back,D5⟩;simp only[CJ,QR,cg,eW,dA,hV,da,cV,h0,h1,h2,h3,h3',g4,g5,q1,qg,m1,p1,w1,t1,t2,t3,ta,gz,jT,EW,seval]
 cases h6:o.kind==11
 case true =>
  cases h7:decide (4096<o.n)
  case true =>
   refine bad 1 (aB ?_);simp only[CJ,QR,cg,eW,dA,hV,da,cV,h0,h1,h2,h3,h6,h7,q1,q4,qg,EW,seval]
  have h7':¬4096<o.n:=by simpa using h7
  obtain⟨m,hm⟩:∃m:Nat,o.n=m:=⟨o.n.toNat,aI⟩;rw[hm] at h2 h7;have w1:IntKind.i64.wrap ((m:Int)+(o.data.length:Int))=(m:Int)+(o.data.length:Int):=gw aI aI;cases h8:decide (4096<(m:Int)+(o.data.length:Int))
  case true =>
   refine bad 2 (aB ?_);simp only[CJ,QR,cg,eW,dA,hV,da,cV,hm,h0,h1,h2,h3,h6,h7,h8,w1,q1,q4,qg,EW,seval]
  obtain⟨d,ql,hd⟩:=c82 n.data m o.data aI aI;have q5:=cP ql;have h8':¬4096<(m:Int)+(o.data.length:Int):=by simpa using h8
  have q6:=fun M=>k83 f.s.now.ae f.s.now.next f.s.now.ak x d hr.small hd M
  have hv:=hr.put x d;have hkf:=Jk hr x d;have hrf:=WY hr x d;generalize rP f.s.now x d=v at q6 hv hkf hrf;obtain⟨g,a,qd,hg⟩:=c69 f v.1 f.dS v.2 ⟨0,x,0,0,d.length,[],[]⟩ hf hK hv hf.ok.dS hf.ok.sK (fun y _ h=>hkf.2 _ h) (fun h y hy hi=>(h.quo y hy).no (hrf _ hi))
  have q7:=cP qd;simp only[br,aN,cg,dA,da,cV,aR] at q5 q6 q7;refine⟨g,a,aB ?_,hg⟩;simp only[CJ,QR,cg,eW,dA,hV,da,cV,hm,h0,h1,h2,h3,h6,h7,h8,w1,q1,q5,q6,q7,qg,EW,seval]
 have tl1:(List.take mn (n.data.map pf)).length=mn:=gm;have tl2:(List.take mn n.data).length=mn:=gm;have q6:=fun M=>k83 f.s.now.ae f.s.now.next f.s.now.ak x (n.data.take mn) hr.small gm M
 have hv:=hr.put x (n.data.take mn);have hkf:=Jk hr x (n.data.take mn);have hrf:=WY hr x (n.data.take mn);generalize rP f.s.now x (n.data.take mn)=v at q6 hv hkf hrf;obtain⟨g,a,qd,hg⟩:=c69 f v.1 f.dS v.2 ⟨0,x,0,0,(n.data.take mn).length,[],[]⟩ hf hK hv hf.ok.dS hf.ok.sK (fun y _ h=>hkf.2 _ h) (fun h y hy hi=>(h.quo y hy).no (hrf _ hi))
 have q7:=cP qd;simp only[br,aN,cg,dA,da,cV,aR,eP,tl2] at q6 q7;refine⟨g,a,aB ?_,hg⟩;simp only[CJ,QR,tl1,cg,eW,dA,hV,da,cV,h0,h1,h2,h3,h6,q1,q6,q7,qg,m1,t1,gz,EW,seval]
section
variable {s:iQ} {Q:ag×aC->Prop} {id:Int}
abbrev QB(s:iQ):aC:=[.cells (bM s),.cells [.slice .c0 [],.int .i64 0,.int .i64 0,.int .i64 0,.slice .c0 [],.slice .c0 [],.slice .c0 [],.int .i64 0]]
def aay(hk:s.dR.length<=16){k:List K}
  (hx:∀z,∃r,Q r/\kr (aq bW) [.dH 4 8,.tmp 5] 0 k ⟨.exit 0,(1,aH id)::(2,cu 0)::(4,cu 1)::(6,.slice (.own 2) ((s.dR.filter (rF id)).map kW))::z,QB s++[.tick 3 (s.dR.filter (rF id)).length]⟩=some r) :
  ∃r,Q r/\eX (aq bW) [.dH 4 8,.tmp 5] 0 k (.loop [1,2,4,6,7] agT) [(1,aH id),(2,cu 0),(4,cu 1),(6,.slice (.own 2) []),(7,aH 0)] (QB s++[.tick 3 0])=some r:=by
 refine jd (xs:=s.dR) aI (fun m (ts:List mY)=>ts=(s.dR.take m).filter (rF id)) (fun ts i=>[(1,aH id),(2,cu 0),(4,cu 1),(6,.slice (.own 2) (ts.map kW)),(7,aH i)]) (fun ts=>QB s++[.tick 3 ts.length]) Q (fun ts hK=>?_) (fun pre x post ts e hx' cL hw h0 hm hK hi=>?_) [] rfl
 ·rw[bF] at hK;subst hK;simp only[QB,bM,aG,aQ] at hx ⊢;simp only[E47,bu,EW,seval];exact hx _
 ·have hp:=(aj.1 hx').1;have hl:ts.length<=16:=by rw[hK]; exact aZ (bT _ _) gm
  have i1:=hi (ts++if x.id != id then [x] else []) (by rw[cB,hx',iK,<-hK]; simp only[kJ,eZ,kP,rF]<;>rfl)
  have r1:cq (ts.length+1) 24=True:=qM;simp only[QB,bM,aG,aQ] at i1 ⊢;cases h1:x.id != id<;>simp only[h1,af,aE,aD,c8,aW,aF,aR,aA,au,aw,aJ,kW,iB] at i1<;>simp only[E47,cL,hx',hw,h0,h1,r1,kW,iB,EW,seval]<;>exact i1
def aaz(hp:s.eN.length<=90000){ts:List mY}(hk:ts.length<=16){k:List K}
  (hx:∀z,∃r,Q r/\kr (aq bW) [.dH 4 8,.tmp 5] 0 k ⟨.exit 2,(2,cu 0)::(4,cu 1)::(6,.slice (.own 2) (ts.map kW))::(8,.slice (.own 3) ((s.eN.filter (vM ts)).map mc))::z,QB s++[.tick 3 ts.length,.tick 8 (s.eN.filter (vM ts)).length]⟩=some r) :
  ∃r,Q r/\eX (aq bW) [.dH 4 8,.tmp 5] 0 k (.loop [2,4,6,8,9] agU) [(2,cu 0),(4,cu 1),(6,.slice (.own 2) (ts.map kW)),(8,.slice (.own 3) []),(9,aH 0)] (QB s++[.tick 3 ts.length,.tick 8 0])=some r:=by
 refine jd (xs:=s.eN) aI (fun m (P:List pv)=>P=(s.eN.take m).filter (vM ts)) (fun P i=>[(2,cu 0),(4,cu 1),(6,.slice (.own 2) (ts.map kW)),(8,.slice (.own 3) (P.map mc)),(9,aH i)]) (fun P=>QB s++[.tick 3 ts.length,.tick 8 P.length]) Q (fun P hP=>?_) (fun pre x post P e hx' cL hw h0 hm hP hi=>?_) [] rfl
 ·rw[bF] at hP;subst hP;simp only[QB,bM,aG,aQ] at hx ⊢;simp only[E47,bu,EW,seval];exact hx _
 ·have hp':=(aj.1 hx').1;have hl:P.length<=90000:=by rw[hP]; exact aZ (bT _ _) gm
  have i1:=hi (P++if xH ts x.kx x.BK then [x] else []) (by rw[cB,hx',iK,<-hP]; simp only[kJ,eZ,kP,vM]<;>rfl)
  have qw:=fun M=>k86 ts x.kx x.BK aI M
  generalize xH ts x.kx x.BK=w at qw i1;have r1:cq (P.length+1) 96=True:=qM;simp only[QB,bM,aG,aQ] at i1 ⊢;cases w<;>simp only[af,aE,aD,c8,aW,aF,aR,aA,au,aw,aJ,mc,mP,aM] at i1<;>simp only[E47,cL,hx',hw,h0,qw,r1,mc,mP,aM,EW,seval]<;>exact i1
end
def c47(s:iQ)(id:Int)(hk:s.dR.length<=16)(hp:s.eN.length<=90000):∃e,aq bW 47 [.agg (bM s),aH id] []=some (.tuple [.agg (bM (ru s id).1),aH e],[]):=by
 have key:∃r:ag×aC,(∃e,r=(.tuple [.agg (bM (ru s id).1),aH e],[]))/\eX (aq bW) Sn.results 0 [] Sn.body (eG 0 [.agg (bM s),aH id]) []=some r:=by
  have la:=fun {k Q} hx=>aay (s:=s) (Q:=Q) (id:=id) hk (k:=k) hx
  simp only[QB,bM,aG,aQ] at la;simp only[Sn,E47,bM,EW,seval];refine la (fun z=>?_)
  unfold ru;have hK:(s.dR.filter (rF id)).length<=16:=aZ (bT _ _) hk;generalize s.dR.filter (rF id)=ts at hK ⊢;cases h1:(ts.length:Int)==(s.dR.length:Int)
  ·have lb:=fun {k Q} hx=>aaz (s:=s) (Q:=Q) hp (ts:=ts) hK (k:=k) hx
   simp only[QB,bM,aG,aQ] at lb;simp only[E47,h1,af,aD,EW,seval];refine lb (fun z=>?_)
   simp only[E47,EW,seval];exact⟨_,⟨0,rfl⟩,rfl⟩
  ·simp only[E47,h1,aE,EW,seval];exact⟨_,⟨100,rfl⟩,rfl⟩
 obtain⟨_,⟨e,rfl⟩,h3⟩:=key;exact⟨e,aB h3⟩
def aqC(l:List Node)(n:Node)(hn:l.length<=100000):∃m,aq bW 177 [ba l,bL n] []=some (ba m,[])/\m.length=l.length+1/\∀x,x∈m->x=n\/x∈l:=by
 have key:∃r:ag×aC,(∃m,r=(ba m,[])/\m.length=l.length+1/\∀x,x∈m->x=n\/x∈l)/\eX (aq bW) IZ.results 0 [] IZ.body (eG 0 [ba l,bL n]) []=some r:=by
  simp only[IZ,X0,bL,aM,EW,seval]
  have fin:∀(i:Nat),i<=l.length->∃m:List Node,m.length=l.length+1/\(∀x,x∈m->x=n\/x∈l)/\l.take i++n::l.drop i=m:=fun i hi=>⟨_,gm,fun x hx=>by
   rcases bo.1 hx with hx|hx
   ·exact .inr (dM hx)
   ·rcases bI.1 hx with hx|hx
    ·exact .inl hx
    ·exact .inr (dx hx),rfl⟩
  refine jd (xs:=l) aI (fun _ (_:Unit)=>True) (fun _ i=>[(0,ba l),(3,cu 0),(5,aH i)]) (fun _=>[cv [aH n.ar,aH n.kind,aH n.eo,cV n.data,jb n.bc,aH n.up]]) _ (fun _ _=>?_) (fun pre x post _ e hx cL hw h0 hm _ hi=>?_) () trivial
  ·obtain⟨m,m1,m2,m3⟩:=fin l.length (av _);have r1:cq l.length 80=True:=qM;have r2:cq (l.length+1) 80=True:=qM;have a1:(l.map bL).take l.length=l.map bL:=by rw[<-eP,bF]
   have a2:(l.map bL).drop l.length=[]:=by rw[<-jT,List.drop_length]; rfl
   simp only[X0,bu,dN,a1,a2,r1,r2,EW,seval];refine⟨_,⟨m,rfl,m1,m2⟩,?_⟩;rw[<-m3]; simp[bL,aM]
  ·have hp:=(aj.1 hx).1;obtain⟨m,m1,m2,m3⟩:=fin pre.length aI;have i1:=hi () trivial;have r1:cq pre.length 80=True:=qM;have r2:cq (pre.length+1) 80=True:=qM;obtain⟨B,hB⟩:∃B,x::post=B:=⟨_,rfl⟩;have t1:l.take pre.length=pre:=by rw[e]; simp
   have t2:l.drop pre.length=B:=by rw[e,<-hB]; simp
   have t3:pre.length+B.length=l.length:=by rw[e,<-hB]; simp
   have r3:cq (pre.length+1+B.length) 80=True:=qM;have a1:(l.map bL).take pre.length=pre.map bL:=by rw[<-eP,t1]
   have a2:(l.map bL).drop pre.length=B.map bL:=by rw[<-jT,t2]
   have a3:((pre.length:Int)<=(l.length:Int))=True:=sk;have a4:(l.map bL).take l.length=l.map bL:=by rw[<-eP,bF]
   cases h1:decide (x.ar<=n.ar)<;>simp only[X0,cL,hx,hw,h0,h1,bL,aM,EW,seval]
   ·simp only[X0,a1,a2,a3,a4,r1,r2,r3,dN,EW,seval];refine⟨_,⟨m,rfl,m1,m2⟩,?_⟩;rw[<-m3,t1,t2]; simp[bL,aM]
   ·exact i1
 obtain⟨_,⟨m,rfl,h1⟩,h3⟩:=key;exact⟨m,aB h3,h1⟩
end
def Xz:List Node->List Bool->Nat
 |n::r,b::m=>(if b then 0 else n.bc.length)+Xz r m
 |_,_=>0
def N4:∀(l:List Node)(m:List Bool)(i:Nat)(n:Node),l[i]?=some n->m[i]?=some false->Xz l (m.set i true)+n.bc.length=Xz l m
 | [],m,i,n,h,_=>by simp at h
 |x::l,[],i,n,_,h=>by simp at h
 |x::l,b::m,0,n,h,h'=>by simp at h h'; subst h; subst h'; simp[Xz]; omega
 |x::l,b::m,i+1,n,h,h'=>by
  have:=N4 l m i n (by simpa using h) (by simpa using h')
  simp only[List.set_cons_succ,Xz]; omega
def XA:∀(l:List Node)(m:List Bool),(∀n,n∈l->n.bc.length<=64)->Xz l m<=64*l.length
 | [],m,_=>by simp[Xz]
 |x::l,[],_=>by simp[Xz]
 |x::l,b::m,h=>by
  have h1:=XA l m fun n hn=>h n (bw _ hn)
  have h2:=h x bE;simp only[Xz,au]; split<;>omega
section
attribute [local irreducible] eX fM lC gK dX kr aq aU cr bJ
section
variable {l:List Node} {Q:ag×aC->Prop}
abbrev J3(l:List Node)(m:List Bool)(all:List Int):aC:=[.arr 1 0 (m.map ag.bool),.cells [ba l,.int .i64 0,.int .i64 0],.tick 1 all.length]
abbrev Xh(n:Node):cJ := .cells [.int .i64 n.ar,.int .i64 n.kind,.int .i64 n.eo,cV n.data,jb n.bc,.int .i64 n.up]
def VF(hl:l.length<=100000){m:List Bool}{all:List Int}{i:Nat}{A B:List Node}{n:Node}(hs:l=A++n::B)(hA:∀x,x∈A->x.ar≠n.ar){k:List K}
  (hx:∀z,∃r,Q r/\kr (aq bW) [.tmp 4,.tmp 5] 0 k ⟨.exit 2,(0,ba l)::(6,.cz 0 0 1 0 l.length)::(7,cu 1)::(8,.slice (.own 2) (all.map mZ))::(9,aH i)::(10,cu 3)::(12,aH A.length)::z,J3 l m all++[Xh n]⟩=some r) :
  ∀(d j:Nat),j+d=A.length->∃r,Q r/\eX (aq bW) [.tmp 4,.tmp 5] 0 k (.loop [0,6,7,8,9,10,12] ZC) [(0,ba l),(6,.cz 0 0 1 0 l.length),(7,cu 1),(8,.slice (.own 2) (all.map mZ)),(9,aH i),(10,cu 3),(12,aH j)] (J3 l m all++[Xh n])=some r:=by
 have hl2:l.length=A.length+(B.length+1):=by rw[hs]; simp
 intro d;induction d with
 |zero =>
  intro j hj;obtain rfl:j=A.length:=aI;rw[bG];have b0:((A.length:Int)<0)=False:=dv;have hn:l[A.length]?=some n:=by rw[hs]; simp
  have e1:(n.ar != n.ar)=false:=dv;simp only[J3,Xh,aG,aQ] at hx ⊢;simp only[AE,b0,hn,e1,bL,aM,EW,seval];exact hx _
 |succ d ih =>
  intro j hj;rw[bG];have b0:((j:Int)<0)=False:=dv;obtain⟨x,hx1⟩:∃x,A[j]?=some x:=⟨_,ai aI⟩;have hn:l[j]?=some x:=by rw[hs,aO aI]; exact hx1
  have e1:(x.ar != n.ar)=true:=by simpa using hA x (aK hx1)
  have w1:IntKind.i64.wrap ((j:Int)+1)=((j+1:Nat):Int):=by rw[gw aI aI]; rfl
  have i1:=ih (j+1) aI;simp only[J3,Xh,aG,aQ] at i1 ⊢;simp only[AE,b0,hn,e1,w1,bL,aM,EW,seval];exact i1
def VG{m:List Bool}{all:List Int}{i:Nat}{n:Node}(hn:n.bc.length<=64)(ha:all.length<=10000000){k:List K}
  (hx:∀(S:List Int) z,S.length=all.length+n.bc.length->∃r,Q r/\kr (aq bW) [.tmp 4,.tmp 5] 0 k ⟨.exit 4,(0,ba l)::(6,.cz 0 0 1 0 l.length)::(7,cu 1)::(8,.slice (.own 2) (S.map mZ))::(9,aH i)::z,J3 l m S++[Xh n]⟩=some r) :
  ∃r,Q r/\eX (aq bW) [.tmp 4,.tmp 5] 0 k (.loop [0,6,7,8,9,10,13] ZD) [(0,ba l),(6,.cz 0 0 1 0 l.length),(7,cu 1),(8,.slice (.own 2) (all.map mZ)),(9,aH i),(10,cu 3),(13,aH 0)] (J3 l m all++[Xh n])=some r:=by
 refine jd (xs:=n.bc) aI (fun c (S:List Int)=>S.length=all.length+c) (fun S j=>[(0,ba l),(6,.cz 0 0 1 0 l.length),(7,cu 1),(8,.slice (.own 2) (S.map mZ)),(9,aH i),(10,cu 3),(13,aH j)]) (fun S=>J3 l m S++[Xh n]) Q (fun S hS=>?_) (fun pre e post S h hx' cL hw h0 hm hS hi=>?_) all rfl
 ·have:=fun z=>hx S ((10,cu 3)::z) hS
  simp only[J3,Xh,aG,aQ] at this ⊢;simp only[AE,bu,EW,seval];exact this _
 ·have hp:=(aj.1 hx').1;have i1:=hi (S++[e.ar]) gm
  have r1:cq (S.length+1) 8=True:=by
   simp only[fG,ja]; unfold cq; omega
  simp only[J3,Xh,aG,aQ,aW,aF,aR,aA,au,aw,aJ,mZ] at i1 ⊢;simp only[AE,cL,hx',hw,h0,r1,uC,iG,fU,EW,seval];exact i1
def VH(hl:l.length<=100000)(he:∀n,n∈l->n.bc.length<=64){k:List K}
  (hx:∀(m:List Bool) z M,m.length=l.length->∃r,Q r/\kr (aq bW) [.tmp 4,.tmp 5] 0 k ⟨.exit 0,(0,ba l)::(6,.cz 0 0 1 0 l.length)::z,.arr 1 0 (m.map ag.bool)::M⟩=some r)
  (hr:∀(m:List Bool) M,m.length=l.length->∃r,Q r/\kr (aq bW) [.tmp 4,.tmp 5] 0 k ⟨.ret,[(4,.cz 0 0 1 0 l.length),(5,.bool false)],.arr 1 0 (m.map ag.bool)::M⟩=some r) :
  ∀(d:Nat)(m:List Bool)(all:List Int)(i:Nat),m.length=l.length->i<=all.length->all.length+Xz l m<=7000000->all.length+Xz l m-i=d->∃r,Q r/\eX (aq bW) [.tmp 4,.tmp 5] 0 k (.loop [0,6,7,8,9] ZE) [(0,ba l),(6,.cz 0 0 1 0 l.length),(7,cu 1),(8,.slice (.own 2) (all.map mZ)),(9,aH i)] (J3 l m all)=some r:=by
 intro d;induction d using Nat.strongRecOn with
 |_ d ih =>
  intro m all i hm hi hb hd;rw[bG];rcases bD i all.length with h1|h1
  ·have e1:((i:Int)<(all.length:Int))=True:=sk;have e0:((i:Int)<0)=False:=dv;have w1:IntKind.i64.wrap ((i:Int)+1)=((i+1:Nat):Int):=by rw[gw aI aI]; rfl
   obtain⟨x,hx1⟩:∃x,all[i]?=some x:=⟨_,ai h1⟩;have qg:=fun M=>Bi l 0 0 x hl M
   cases hf:find l x with
   |none =>
    rw[hf] at qg;simp only[iI,dp,bL,aM,Node.zero,aR] at qg;simp only[J3,aG,aQ] at hr ⊢;simp only[AE,e1,e0,hx1,qg,mZ,EW,seval];exact hr m _ hm
   |some n =>
    rw[hf] at qg;simp only[bm,bX,bL,aM] at qg;obtain⟨_,A,B,hs,hA⟩:=List.find?_eq_some_iff_append.1 hf;have hnm:n∈l:=by rw[hs]; simp
    have hne:=he n hnm
    have hA':∀y,y∈A->y.ar≠n.ar:=fun y hy hyn=>by
     have h2:=hA y hy;have h3:=(List.find?_eq_some_iff_append.1 hf).1;simp at h2 h3; omega
    have la:=fun {k} hx=>VF (l:=l) (Q:=Q) hl (m:=m) (all:=all) (i:=i) hs hA' (k:=k) hx A.length 0 aI
    simp only[J3,Xh,aG,aQ] at la ⊢;simp only[AE,e1,e0,hx1,qg,mZ,EW,seval];refine la (fun z=>?_)
    have hAl:A.length<l.length:=by rw[hs]; simp
    have a0:((A.length:Int)<0)=False:=dv;have a1:((A.length:Int)<(l.length:Int))=True:=sk;have a2:(A.length<l.length)=True:=sk;have a3:(A.length<m.length)=True:=sk;have hln:l[A.length]?=some n:=by rw[hs]; simp
    obtain⟨b,hmb⟩:∃b,m[A.length]?=some b:=⟨_,ai aI⟩;cases b
    ·have hu:=N4 l m A.length n hln hmb;have lb:=fun {k} hx=>VG (l:=l) (Q:=Q) (m:=m.set A.length true) (all:=all) (i:=i) (n:=n) hne aI (k:=k) hx
     simp only[J3,Xh,aG,aQ] at lb;simp only[AE,a0,a1,a2,a3,hmb,hm,Gy,bK,EW,seval];refine lb (fun S z hS=>?_)
     have i1:=ih _ aI (m.set A.length true) S (i+1) (by simp[hm]) aI aI rfl
     simp only[J3] at i1;simp only[AE,w1,EW,seval];exact i1
    ·have i1:=ih _ aI m all (i+1) hm aI hb rfl;simp only[J3] at i1;simp only[AE,a0,a1,a2,a3,hmb,hm,w1,bK,EW,seval];exact i1
  ·have e1:((i:Int)<(all.length:Int))=False:=XQ;simp only[J3,aG,aQ] at hx ⊢;simp only[AE,e1,EW,seval];exact hx m _ _ hm
end
def ap6(l:List Node)(ar:Int)(hl:l.length<=100000)(he:∀n,n∈l->n.bc.length<=64):∃(m:List Bool) (b:Bool),aq bW 139 [ba l,aH ar] []=some (.tuple [gU (m.map ag.bool),.bool b],[])/\m.length=l.length:=by
 have key:∃r:ag×aC,(∃(m:List Bool) (b:Bool),r=(.tuple [gU (m.map ag.bool),.bool b],[])/\m.length=l.length)/\eX (aq bW) IW.results 0 [] IW.body (eG 0 [ba l,aH ar]) []=some r:=by
  have r1:cq l.length 8=True:=qM
  have hrep:List.replicate l.length (ag.agg [ag.bool false]).norm=(List.replicate l.length false).map ag.bool:=by
   rw[gX]; rfl
  have hu:=XA l (List.replicate l.length false) he;have lc:=fun {k Q} hx hr=>VH (l:=l) (Q:=Q) hl he (k:=k) hx hr _ (List.replicate l.length false) [ar] 0 dv dv gm rfl
  simp only[J3,aF,aR,au,aw,mZ] at lc;simp only[IW,AE,r1,hrep,EW,seval];refine lc (fun m z M hm=>?_) (fun m M hm=>?_)
  ·have htk:(m.map ag.bool).take l.length=m.map ag.bool:=bB (by simp[hm])
   simp only[AE,hm,htk,bK,EW,seval];exact⟨_,⟨m,true,rfl,hm⟩,rfl⟩
  ·have htk:(m.map ag.bool).take l.length=m.map ag.bool:=bB (by simp[hm])
   simp only[AE,hm,htk,bK,EW,seval];exact⟨_,⟨m,false,rfl,hm⟩,rfl⟩
 obtain⟨_,⟨m,b,rfl,h1⟩,h3⟩:=key;exact⟨m,b,aB h3,h1⟩
section
variable {s:iQ} {a:Int} {Q:ag×aC->Prop}
def BR(c:Nat)(x:ag×List Node):Prop:=(x.1 = .slice .c0 []/\x.2=[]\/x.1=ba x.2)/\x.2.length<=c/\∀n,n∈x.2->Fl n
def BR.al9{c:Nat}{x:ag×List Node}(h:BR c x)(hc:c<=100000){n:Node}(hn:Fl n):∃m,(∀M,aU (aq bW) 177 [x.1.fV,.agg (aM n)] M=some (ba m,M))/\BR (c+1) (ba m,m):=by
 obtain⟨v,l⟩:=x;obtain⟨h1,h2,h3⟩:=h;simp only at h1 h2 h3;obtain⟨m,q,g1,g2⟩:=aqC l n aI
 have hv:v.fV=ba l:=by
  rcases h1 with ⟨rfl,rfl⟩|rfl<;>rfl
 refine⟨m,fun M=>?_,.inr rfl,by simp only; omega,fun y hy=>?_⟩
 ·simp only[hv];exact cO q M
 ·rcases g2 y hy with rfl|hy
  ·exact hn
  ·exact h3 y hy
def BR.mono{c d:Nat}{x:ag×List Node}(h:BR c x)(hd:c<=d):BR d x:=⟨h.1,aZ h.2.1 hd,h.2.2⟩
def c138(s:iQ)(a:Int)(hs:Rt s.now)(hl:s.since.length=s.now.ae.length)(hp:s.eN.length<=90000)(he:∀p,p∈s.eN->Fl p.node):∃l,aq bW 138 [.agg (bM s),aH a] []=some (ba l,[])/\l.length<=90200/\∀n,n∈l->Fl n:=by
 have key:∃r:ag×aC,(∃l,r=(ba l,[])/\l.length<=90200/\∀n,n∈l->Fl n)/\eX (aq bW) MV.results 0 [] MV.body (eG 0 [.agg (bM s),aH a]) []=some r:=by
  have h200:=hs.sz.ae;simp only[MV,Oa,bM,EW,seval];refine jd (xs:=s.now.ae) aI (fun m (x:ag×List Node)=>BR m x) (fun x i=>[(1,aH a),(2,cu 0),(5,x.1),(6,aH i)]) (fun _=>[cv (bM s)]) _ (fun x hI=>?_) (fun pre n post x e hx cL hw h0 hm hI hi=>?_) (.slice .c0 [],[]) ⟨.inl ⟨rfl,rfl⟩,av _,fun n h=>by cases h⟩
  ·simp only[bM];simp only[Oa,bu,EW,seval];refine jd (xs:=s.eN) aI (fun m (x:ag×List Node)=>BR (s.now.ae.length+m) x) (fun x i=>[(1,aH a),(2,cu 0),(5,x.1),(7,aH i)]) (fun _=>[cv (bM s)]) _ (fun x hI=>?_) (fun pre p post x e hx cL hw h0 hm hI hi=>?_) x hI
   ·obtain⟨v,l⟩:=x;obtain⟨h1,h2,h3⟩:=hI;simp only at h2 h3;rcases h1 with ⟨h1,h4⟩|h1<;>simp only at h1
    ·simp only at h4;subst h1; subst h4;simp only[bM];simp only[Oa,bu,EW,seval];exact⟨_,⟨[],rfl,dv,h3⟩,rfl⟩
    ·subst h1;simp only[bM];simp only[Oa,bu,EW,seval];exact⟨_,⟨l,rfl,aI,h3⟩,rfl⟩
   ·have hpl:=(aj.1 hx).1;obtain⟨m,q,g⟩:=hI.al9 aI (he p hm);have i1:=hi x (hI.mono aI);have i2:=hi _ g;obtain⟨v,l⟩:=x;rcases hI.1 with ⟨h3,h4⟩|h3<;>simp only at h3<;>first|(simp only at h4; subst h3; subst h4)|subst h3
    all_goals
     first
      |(change ∀M,aU (aq bW) 177 [gU [],.agg (aM p.node)] M=_ at q)
      |(change ∀M,aU (aq bW) 177 [ba l,.agg (aM p.node)] M=_ at q)
     simp only[bM,aM] at i1 i2 q ⊢;cases h1:decide (p.kx<=a)<;>cases h2:decide (a<p.BK)<;>simp only[Oa,cL,hx,hw,h0,h1,h2,q,mc,mP,aM,EW,seval]<;>first|exact i1|exact i2
  ·have hpl:=(aj.1 hx).1;have hl1:((pre.length:Int)<(s.since.length:Int))=True:=sk;obtain⟨y,hy⟩:∃y,s.since[pre.length]?=some y:=⟨_,ai aI⟩;obtain⟨m,q,g⟩:=hI.al9 aI (hs.XO hm);have i1:=hi x (hI.mono aI);have i2:=hi _ g;obtain⟨v,l⟩:=x;rcases hI.1 with ⟨h3,h4⟩|h3<;>simp only at h3<;>first|(simp only at h4; subst h3; subst h4)|subst h3
   all_goals
    first
     |(change ∀M,aU (aq bW) 177 [gU [],.agg (aM n)] M=_ at q)
     |(change ∀M,aU (aq bW) 177 [ba l,.agg (aM n)] M=_ at q)
    simp only[bM,aM] at i1 i2 q ⊢;cases h1:decide (y<=a)<;>simp only[Oa,cL,hx,hw,h0,hl1,hy,h1,q,bL,aM,mZ,EW,seval]<;>first|exact i1|exact i2
 obtain⟨_,⟨l,rfl,h1⟩,h3⟩:=key;exact⟨l,aB h3,h1⟩
def c84(s:iQ)(id:Int)(hs:Rt s.now)(hl:s.since.length=s.now.ae.length)(hp:s.eN.length<=90000)(he:∀p,p∈s.eN->Fl p.node)(hk:s.dR.length<=16):∃i l e,aq bW 84 [.agg (bM s),aH id] []=some (.tuple [aH i,ba l,aH e],[])/\l.length<=90200/\∀n,n∈l->Fl n:=by
 have key:∃r:ag×aC,(∃i l e,r=(.tuple [aH i,ba l,aH e],[])/\l.length<=90200/\∀n,n∈l->Fl n)/\eX (aq bW) Sq.results 0 [] Sq.body (eG 0 [.agg (bM s),aH id]) []=some r:=by
  simp only[Sq,E84,bM,EW,seval];refine jd (xs:=s.dR) aI (fun _ (_:Unit)=>True) (fun _ i=>[(1,aH id),(2,cu 0),(7,aH i)]) (fun _=>[cv (bM s)]) _ (fun _ _=>?_) (fun pre x post _ e hx cL hw h0 hm _ hi=>?_) () trivial
  ·simp only[bM];simp only[E84,bu,EW,seval];exact⟨_,⟨0,[],100,rfl,dv,fun n h=>by cases h⟩,rfl⟩
  ·have hpl:=(aj.1 hx).1;obtain⟨l,q1,g1,g2⟩:=c138 s x.at' hs hl hp he;obtain⟨m,b,q2,g3⟩:=ap6 l x.ar aI (fun n hn=>(g2 n hn).1)
   have k1:=cP q1;have k2:=cP q2;have i1:=hi () trivial;have e1:((pre.length:Int)<(s.dR.length:Int))=True:=sk;simp only[bM] at i1 k1 ⊢;cases h1:x.id != id<;>simp only[E84,cL,hx,hw,h0,h1,k1,k2,kW,iB,EW,seval]
   ·refine jd (xs:=l) aI (fun c (S:List Node)=>S.length<=c/\∀n,n∈S->n∈l) (fun S i=>[(2,cu 0),(7,aH pre.length),(8,ba l),(9,gU (m.map ag.bool)),(11,.slice (.own 1) (S.map bL)),(12,aH i)]) (fun S=>[cv (bM s),.tick 6 S.length]) _ (fun S hS=>?_) (fun pre2 n post2 S e2 hx2 hlt2 hw2 h02 hm2 hS hi2=>?_) [] ⟨av _,fun n h=>by cases h⟩
    ·simp only[bM];simp only[E84,bu,e1,hx,h0,kW,iB,EW,seval];exact⟨_,⟨_,S,0,rfl,aI,fun n hn=>g2 n (hS.2 n hn)⟩,rfl⟩
    ·have hpl2:=(aj.1 hx2).1;obtain⟨c,hc⟩:∃c,m[pre2.length]?=some c:=⟨_,ai aI⟩;have j1:=hi2 S ⟨aI,hS.2⟩
     have j2:=hi2 (S++[n]) ⟨gm,fun y hy=>by
      rcases bo.1 hy with hy|hy
      ·exact hS.2 y hy
      ·rw[bQ.1 hy]; exact hm2⟩
     have r1:cq (S.length+1) 80=True:=qM;simp only[bM,aW,aF,aR,aA,au,aw,aJ,bL,aM] at j1 j2 ⊢;cases c<;>simp only[E84,hlt2,hx2,hw2,h02,hc,r1,bL,aM,EW,seval]<;>first|exact j1|exact j2
   ·exact i1
 obtain⟨_,⟨i,l,e,rfl,h1⟩,h3⟩:=key;exact⟨i,l,e,aB h3,h1⟩
end
section
variable {f:aa} {o:jF} {l:List Node} {names:List Bytes} {Q:ag×aC->Prop}
abbrev pkC(n:Node):List ag:=[.int .i64 n.ar,.int .i64 n.kind,.int .i64 n.eo,cV n.data,jb n.bc,.int .i64 n.up]
abbrev JO(f:aa)(o:jF)(l:List Node)(n:Node):aC:=[.cells (cg f),.cells (eW o),.cells rh,.cells [ba l,.int .i64 0,.int .i64 0],.cells (pkC n)]
def aav{n:Node}(hn:n.bc.length<=64){i:Nat}{w:Bytes}(hw':names[i]?=some w){k:List K}
  (hx:∀(x:Int) z,∃r,Q r/\kr (aq bW) [.dH 4 7] 0 k ⟨.exit 2,(4,cu 2)::(8,da names)::(9,cu 3)::(10,cu 4)::(12,aH i)::(13,aH x)::z,JO f o l n⟩=some r) :
  ∃r,Q r/\eX (aq bW) [.dH 4 7] 0 k (.loop [4,8,9,10,12,13,14] agQ) [(4,cu 2),(8,da names),(9,cu 3),(10,cu 4),(12,aH i),(13,aH 0),(14,aH 0)] (JO f o l n)=some r:=by
 have b1:((i:Int)<0)=False:=dv;refine jd (xs:=n.bc) aI (fun _ _=>True) (fun(x:Int) j=>[(4,cu 2),(8,da names),(9,cu 3),(10,cu 4),(12,aH i),(13,aH x),(14,aH j)]) (fun _=>JO f o l n) Q (fun x _=>?_) (fun pre e post x h hx' cL hw h0 hm _ hi=>?_) 0 trivial
 ·simp only[JO,pkC,cg,eW,rh] at hx ⊢;simp only[Kv,bu,EW,seval];exact hx x _
 ·have i1:=hi x trivial;have i2:=hi e.ar trivial;simp only[JO,pkC,cg,eW,rh] at i1 i2 ⊢;cases h1:e.name==w<;>simp only[Kv,cL,hx',hw,h0,hw',b1,h1,iG,fU,EW,seval]<;>first|exact i1|exact i2
def aaw(hl:l.length<=100000)(he:∀n,n∈l->Fl n)(hn:names.length<=12){k:List K}
  (hx:∀(n:Node) z,Fl n->∃r,Q r/\kr (aq bW) [.dH 4 7] 0 k ⟨.exit 0,(4,cu 2)::(8,da names)::(9,cu 3)::(10,cu 4)::z,JO f o l n⟩=some r)
  (hr:∀(a:Int) M,∃r,Q r/\kr (aq bW) [.dH 4 7] 0 k ⟨.ret,[(4,cu 2)],cv (cg f) :: cv (eW o) :: cv (dA (hV a))::M⟩=some r) {n:Node} (hno:Fl n) :
  ∃r,Q r/\eX (aq bW) [.dH 4 7] 0 k (.loop [4,8,9,10,12] agR) [(4,cu 2),(8,da names),(9,cu 3),(10,cu 4),(12,aH 0)] (JO f o l n)=some r:=by
 have q4:=k42;simp only[dA,hV] at q4 hr;refine jd (xs:=names) aI (fun _ (n:Node)=>Fl n) (fun _ i=>[(4,cu 2),(8,da names),(9,cu 3),(10,cu 4),(12,aH i)]) (fun n=>JO f o l n) Q (fun n hno=>?_) (fun pre w post n h hx' cL hw h0 hm hno hi=>?_) n hno
 ·simp only[JO,pkC,cg,eW,rh] at hx ⊢;simp only[Kv,bu,EW,seval];exact hx n _ hno
 ·have la:=fun {k} hx=>aav (f:=f) (o:=o) (l:=l) (Q:=Q) hno.1 hx' (k:=k) hx
  simp only[JO,pkC,cg,eW,rh] at la hi hr ⊢;cases h1:n.kind != 2
  ·simp only[Kv,cL,h1,EW,seval];refine la (fun x z=>?_)
   have qg:=fun M=>Bi l 0 0 x hl M
   cases hf:find l x with
   |none =>
    rw[hf] at qg;simp only[iI,dp,bL,aM,Node.zero,aR] at qg;simp only[Kv,qg,q4,EW,seval];exact hr 70 _
   |some m =>
    rw[hf] at qg;simp only[bm,bX,bL,aM] at qg;have i1:=hi m (he m (iA hf));simp only[Kv,qg,hw,EW,seval];exact i1
  ·simp only[Kv,cL,h1,q4,EW,seval];exact hr 73 _
def aax{n:Node}(hn:n.bc.length<=64){k:List K}
  (hx:∀(S:List Bytes) z,∃r,Q r/\kr (aq bW) [.dH 4 7] 0 k ⟨.exit 4,(4,cu 2)::(10,cu 4)::(17,.slice (.own 5) (S.map ag.str))::z,JO f o l n++[.tick 1 S.length]⟩=some r) :
  ∃r,Q r/\eX (aq bW) [.dH 4 7] 0 k (.loop [4,10,17,18] agS) [(4,cu 2),(10,cu 4),(17,.slice (.own 5) []),(18,aH 0)] (JO f o l n++[.tick 1 0])=some r:=by
 refine jd (xs:=n.bc) aI (fun m (S:List Bytes)=>S.length<=m) (fun S i=>[(4,cu 2),(10,cu 4),(17,.slice (.own 5) (S.map ag.str)),(18,aH i)]) (fun S=>JO f o l n++[.tick 1 S.length]) Q (fun S hS=>?_) (fun pre e post S h hx' cL hw h0 hm hS hi=>?_) [] (av _)
 ·simp only[JO,pkC,cg,eW,rh,aG,aQ] at hx ⊢;simp only[Kv,bu,EW,seval];exact hx S _
 ·have hp:=(aj.1 hx').1;have i1:=hi (S++[e.name]) gm;have r1:cq (S.length+1) 16=True:=qM;simp only[JO,pkC,cg,eW,rh,aG,aQ,aW,aF,aR,aA,au,aw,aJ] at i1 ⊢;simp only[Kv,cL,hx',hw,h0,r1,iG,fU,EW,seval];exact i1
end
def c46{K:Nat}(f:aa)(o:jF)(hf:FB K f)(hK:K<=89000)(ho:sN o):∃a,aq bW 46 [.agg (cg f),.agg (eW o)] []=some (.agg (dA a),[]):=by
 have key:∃r:ag×aC,(∃a,r=(.agg (dA a),[]))/\eX (aq bW) Ls.results 0 [] Ls.body (eG 0 [.agg (cg f),.agg (eW o)]) []=some r:=by
  obtain⟨i,l,e,qa,h1,h2⟩:=c84 f.s o.n hf.ok.rt hf.ok.len hf.ok.eN hf.ok.Es hf.ok.dR;have q1:=cP qa;have q2:=fun M=>k85 o.dI (by have:=ho.dI; omega) M
  obtain⟨_,o2⟩:=yj o.dI;generalize pZ o.dI=v at q2 o2;have q4:=k42;simp only[bM,dA,hV] at q1 q4;cases h3:e != 0
  case true =>
   simp only[Ls,Kv,cg,eW,q1,q4,h3,EW,seval];exact⟨_,⟨hV e,rfl⟩,rfl⟩
  cases h4:v.2 != 0
  case true =>
   simp only[Ls,Kv,cg,eW,q1,q2,q4,h3,h4,EW,seval];exact⟨_,⟨hV v.2,rfl⟩,rfl⟩
  have qg:=fun M=>Bi l 0 0 i aI M
  have hz:Fl ((find l i).getD Node.zero):=by
   cases hf:find l i with
   |none=>exact⟨by simp[Node.zero],by simp[Node.zero]⟩
   |some m=>exact h2 m (iA hf)
  generalize (find l i).getD Node.zero=n at qg hz;have lb:=fun {k Q} hx hr=>aaw (f:=f) (o:=o) (l:=l) (names:=v.1) (Q:=Q) aI h2 o2 (k:=k) hx hr hz
  simp only[JO,pkC,cg,eW,rh,bL,aM] at lb qg;simp only[Ls,Kv,cg,eW,bL,aM,q1,q2,qg,h3,h4,EW,seval];refine lb (fun n z hn=>?_) (fun a M=>?_)
  ·have lc:=fun {k Q} hx=>aax (f:=f) (o:=o) (l:=l) (Q:=Q) hn.1 (k:=k) hx
   simp only[JO,pkC,cg,eW,rh,aG,aQ] at lc;simp only[Kv,EW,seval];refine lc (fun S z=>?_)
   obtain⟨b,qs⟩:=c75 n;have q5:=cP qs;simp only[bL,aM] at q5;simp only[Kv,q5,EW,seval];exact⟨_,⟨⟨0,n.ar,n.kind,n.eo,b,S,n.data⟩,rfl⟩,rfl⟩
  ·simp only[Kv,dA,EW,seval];exact⟨_,⟨hV a,rfl⟩,rfl⟩
 obtain⟨_,⟨a,rfl⟩,h3⟩:=key;exact⟨a,aB h3⟩
def c28{K:Nat}(f:aa)(o:jF)(hf:FB K f)(hK:K<=89000)(ho:sN o):yw K f 28 [.agg (cg f),.agg (eW o)]:=by
 have q4:=k42;simp only[dA,hV,da,cV,aR] at q4;have back:FB (K+200) f:=hf.mono aI;have bad:aq bW 28 [.agg (cg f),.agg (eW o)] []=some (.tuple [.agg (cg f),.agg (dA (hV 1))],[])->yw K f 28 [.agg (cg f),.agg (eW o)]:=fun h=>⟨f,hV 1,h,back,D5⟩
 cases c1:decide (o.bA<0)
 case true =>
  refine bad (aB ?_);simp only[uF,EZ,cg,eW,dA,hV,da,cV,c1,q4,EW,seval]
 cases c2:decide (16<=o.bA)
 case true =>
  refine bad (aB ?_);simp only[uF,EZ,cg,eW,dA,hV,da,cV,c1,c2,q4,EW,seval]
 obtain⟨g1,a1,r1,f1⟩:=c43 f o hf hK ho;obtain⟨g2,a2,r2,f2⟩:=c44 f o hf hK ho;obtain⟨g3,a3,r3,f3⟩:=c45 f o hf hK ho;have q1:=cP r1;have q2:=cP r2;have q3:=cP r3;simp only[cg,eW,dA] at q1 q2 q3;have byN:aq bW 28 [.agg (cg f),.agg (eW o)] []=some (.tuple [.agg (cg g1),.agg (dA a1)],[])->yw K f 28 [.agg (cg f),.agg (eW o)]:=fun h=>⟨g1,a1,h,f1⟩
 have byW:aq bW 28 [.agg (cg f),.agg (eW o)] []=some (.tuple [.agg (cg g2),.agg (dA a2)],[])->yw K f 28 [.agg (cg f),.agg (eW o)]:=fun h=>⟨g2,a2,h,f2⟩
 have byH:aq bW 28 [.agg (cg f),.agg (eW o)] []=some (.tuple [.agg (cg g3),.agg (dA a3)],[])->yw K f 28 [.agg (cg f),.agg (eW o)]:=fun h=>⟨g3,a3,h,f3⟩
 cases k2:o.kind==2
 case true =>
  refine byN (aB ?_);simp only[uF,EZ,cg,eW,dA,hV,da,cV,c1,c2,k2,q1,EW,seval]
 cases k3:o.kind==3
 case true =>
  refine byN (aB ?_);simp only[uF,EZ,cg,eW,dA,hV,da,cV,c1,c2,k2,k3,q1,EW,seval]
 cases k4:o.kind==4
 case true =>
  refine byN (aB ?_);simp only[uF,EZ,cg,eW,dA,hV,da,cV,c1,c2,k2,k3,k4,q1,EW,seval]
 cases k5:o.kind==5
 case true =>
  refine byN (aB ?_);simp only[uF,EZ,cg,eW,dA,hV,da,cV,c1,c2,k2,k3,k4,k5,q1,EW,seval]
 cases k1:o.kind==1
 case true =>
  refine byW (aB ?_);simp only[uF,EZ,cg,eW,dA,hV,da,cV,c1,c2,k2,k3,k4,k5,k1,q2,EW,seval]
 cases k6:o.kind==6
 case true =>
  refine byW (aB ?_);simp only[uF,EZ,cg,eW,dA,hV,da,cV,c1,c2,k2,k3,k4,k5,k1,k6,q2,EW,seval]
 cases k7:o.kind==7
 case true =>
  refine byW (aB ?_);simp only[uF,EZ,cg,eW,dA,hV,da,cV,c1,c2,k2,k3,k4,k5,k1,k6,k7,q2,EW,seval]
 cases k8:o.kind==8
 case true =>
  refine byW (aB ?_);simp only[uF,EZ,cg,eW,dA,hV,da,cV,c1,c2,k2,k3,k4,k5,k1,k6,k7,k8,q2,EW,seval]
 cases k13:o.kind==13
 case true =>
  refine byW (aB ?_);simp only[uF,EZ,cg,eW,dA,hV,da,cV,c1,c2,k2,k3,k4,k5,k1,k6,k7,k8,k13,q2,EW,seval]
 cases k14:o.kind==14
 case true =>
  refine byW (aB ?_);simp only[uF,EZ,cg,eW,dA,hV,da,cV,c1,c2,k2,k3,k4,k5,k1,k6,k7,k8,k13,k14,q2,EW,seval]
 cases k9:o.kind==9
 case true =>
  refine byH (aB ?_);simp only[uF,EZ,cg,eW,dA,hV,da,cV,c1,c2,k2,k3,k4,k5,k1,k6,k7,k8,k13,k14,k9,q3,EW,seval]
 cases k10:o.kind==10
 case true =>
  refine byH (aB ?_);simp only[uF,EZ,cg,eW,dA,hV,da,cV,c1,c2,k2,k3,k4,k5,k1,k6,k7,k8,k13,k14,k9,k10,q3,EW,seval]
 cases k11:o.kind==11
 case true =>
  refine byH (aB ?_);simp only[uF,EZ,cg,eW,dA,hV,da,cV,c1,c2,k2,k3,k4,k5,k1,k6,k7,k8,k13,k14,k9,k10,k11,q3,EW,seval]
 cases k12:o.kind==12
 case true =>
  refine byH (aB ?_);simp only[uF,EZ,cg,eW,dA,hV,da,cV,c1,c2,k2,k3,k4,k5,k1,k6,k7,k8,k13,k14,k9,k10,k11,k12,q3,EW,seval]
 cases SV:o.kind==15
 case true =>
  obtain⟨a,r5⟩:=c46 f o hf hK ho;have q5:=cP r5;simp only[cg,eW,dA] at q5;refine⟨f,a,aB ?_,back,D5⟩;simp only[uF,EZ,cg,eW,dA,hV,da,cV,c1,c2,k2,k3,k4,k5,k1,k6,k7,k8,k13,k14,k9,k10,k11,k12,SV,q5,EW,seval]
 cases k16:o.kind==16
 case true =>
  obtain⟨e,r5⟩:=c47 f.s o.n hf.ok.dR hf.ok.eN;have q5:=cP r5;simp only[bM] at q5;cases h1:e != 0
  ·obtain⟨t1,t2⟩:=hf.adP (u:=(ru f.s o.n).1) (by unfold ru; split<;>rfl) (by unfold ru; split<;>rfl) (fun p hp=>by
    unfold ru at hp;split at hp
    ·exact hp
    ·exact(ei.1 hp).1) (by unfold ru; split<;>first|exact av _|exact bT _ _) (by
    have:=hf.ok.dR;unfold ru; split<;>first|exact this|exact aZ (bT _ _) this)
   refine⟨⟨(ru f.s o.n).1,f.holds,f.dS⟩,hV 0,aB ?_,t1,t2,.inr (.inr (.inr ⟨_,trivial,rfl⟩))⟩;simp only[uF,EZ,cg,eW,dA,hV,da,cV,c1,c2,k2,k3,k4,k5,k1,k6,k7,k8,k13,k14,k9,k10,k11,k12,SV,k16,q5,h1,EW,seval]
  ·refine⟨f,hV e,aB ?_,back,D5⟩;simp only[uF,EZ,cg,eW,dA,hV,da,cV,c1,c2,k2,k3,k4,k5,k1,k6,k7,k8,k13,k14,k9,k10,k11,k12,SV,k16,q4,q5,h1,EW,seval]
 cases k17:o.kind==17
 case true =>
  obtain⟨u,l,r5,g⟩:=c48 f.s.now f.holds o.bA hf.ok.rt hf.ok.holds hf.ok.dD;have r6:=c49 f.s u hf.ok.rt g.rt hf.ok.len hf.ok.dR hf.ok.eN;have q5:=cP r5;have q6:=cP r6;simp only[br,aN,bM] at q5 q6;refine⟨⟨qA f.s u,l,f.dS⟩,hV 0,aB ?_,hf.put hK g.rt g.mB g.len hf.ok.dS hf.ok.sK,fun h=>Hx g.mem (g.orp h.orp) (fun q hq=>g.dir _ (h.quo q hq)) (g.one _ h.one) (fun q hq=>by rw[g.use]; exact h.over q hq) h,.inr (.inl ⟨u,g.rt,rfl⟩)⟩
  simp only[uF,EZ,cg,eW,dA,hV,da,cV,c1,c2,k2,k3,k4,k5,k1,k6,k7,k8,k13,k14,k9,k10,k11,k12,SV,k16,k17,q5,q6,EW,seval]
 refine bad (aB ?_);simp only[uF,EZ,cg,eW,dA,hV,da,cV,c1,c2,k2,k3,k4,k5,k1,k6,k7,k8,k13,k14,k9,k10,k11,k12,SV,k16,k17,q4,EW,seval]
def k28{K:Nat}(f:aa)(o:jF)(hf:FB K f)(hK:K<=89000)(ho:sN o):∃g a,(∀M,aU (aq bW) 28 [.agg (cg f),.agg (eW o)] M=some (.tuple [.agg (cg g),.agg (dA a)],M))/\FB (K+200) g/\Kp f g:=by
 obtain⟨g,a,h,hg⟩:=c28 f o hf hK ho;exact⟨g,a,fun M=>cO h M,hg⟩
def al8(a b:Int):(a != b) = !decide (a=b):=by rw[cE]; simp
def c57(a b:List Int)(ha:a.length<=100000):aq bW 57 [ua a,ua b] []=some (.bool (decide (a=b)),[]) :=
 DK (sz:=1) (e:=mZ) (ld := .rD) (ne := .bin .neq) fy rfl ha (fun _=>rfl) (fun _=>rfl) (fun _=>rfl) (fun _ _ _ _ h=>by simp only[ec,fZ.ev,h,mZ,ag.cells,nth,bO]) (fun _ _ _ _ _ _ h h'=>by simp only[ec,fZ.ev,h,h',mZ,p9,al8,ne_eq,nj,aD,bO])
def k57 a b ha:=cP (c57 a b ha)
def ae6(x y:mY):lh [.i,.i,.i] (iB x) (iB y)=some (decide (x=y)):=by
 cases x; cases y;simp only[iB,YH,gd];rw[cE];simp
def c59(a b:List mY)(ha:a.length<=100000):aq bW 59 [kj a,kj b] []=some (.bool (decide (a=b)),[]) :=
 DK (sz:=3) (e:=kW) (ld := .mR 3) (ne := .QC [.i,.i,.i] true) fy rfl ha (fun _=>rfl) (fun _=>rfl) (fun _=>rfl) (fun _ _ _ _ h=>by simp only[ec,fZ.ev,h]; rfl) (fun _ _ _ _ _ _ h h'=>by simp only[ec,fZ.ev,h,h',kW,ae6,bO])
def k59 a b ha:=cP (c59 a b ha)
def ae5(x y:fA):lh [.i,.i,.i] (jc x) (jc y)=some (decide (x=y)):=by
 cases x; cases y;simp only[jc,YH,gd];rw[cE];simp
def c60(a b:List fA)(ha:a.length<=100000):aq bW 60 [fH a,fH b] []=some (.bool (decide (a=b)),[]) :=
 DK (sz:=3) (e:=ic) (ld := .mR 3) (ne := .QC [.i,.i,.i] true) fy rfl ha (fun _=>rfl) (fun _=>rfl) (fun _=>rfl) (fun _ _ _ _ h=>by simp only[ec,fZ.ev,h]; rfl) (fun _ _ _ _ _ _ h h'=>by simp only[ec,fZ.ev,h,h',ic,ae5,bO])
def k60 a b ha:=cP (c60 a b ha)
def YI(x y:dQ):lh [.i,.i,.i] (iV x) (iV y)=some (decide (x=y)):=by
 cases x; cases y;simp only[iV,YH,gd];rw[cE];simp
def c61(a b:List dQ)(ha:a.length<=100000):aq bW 61 [cN a,cN b] []=some (.bool (decide (a=b)),[]) :=
 DK (sz:=3) (e:=gA) (ld := .mR 3) (ne := .QC [.i,.i,.i] true) fy rfl ha (fun _=>rfl) (fun _=>rfl) (fun _=>rfl) (fun _ _ _ _ h=>by simp only[ec,fZ.ev,h]; rfl) (fun _ _ _ _ _ _ h h'=>by simp only[ec,fZ.ev,h,h',gA,YI,bO])
def k61 a b ha:=cP (c61 a b ha)
def anw(x y:pv):decide (x=y)=(x.kx==y.kx&&(x.BK==y.BK&&decide (x.node=y.node))):=by
 cases x; cases y;simp only[pv.mk.injEq];rw[cE];simp
def atb(a b:Node)(ha:Fl a)(M:aC):aU (aq bW) 56 [.agg [gU [.agg (aM a)],aH 0,aH 0],.agg [gU [.agg (aM b)],aH 0,aH 0]] M=some (.bool (decide (a=b)),M):=by
 have h:=c56 ⟨[a],0,0⟩ ⟨[b],0,0⟩ ⟨dv,fun n hn=>by rw[bQ.1 hn]; have:=ha.1; omega,fun n hn=>by rw[bQ.1 hn]; have:=ha.2; omega⟩
 have hd:decide ((⟨[a],0,0⟩:Tree)=⟨[b],0,0⟩)=decide (a=b):=by rw[cE]; simp
 rw[hd] at h;exact cO h M
def c55(x y:pv)(hx:Fl x.node):aq bW 55 [.agg (mP x),.agg (mP y)] []=some (.bool (decide (x=y)),[]):=by
 rw[anw];refine aB ?_;have q:=fun M=>atb x.node y.node hx M
 simp only[aM] at q;simp only[alE,E55,mc,mP,aM,EW,seval]
 repeat' ((first|apply bC|apply bU|apply dK)<;>intro hb<;>simp only[hb,EW,E55,q,seval])
 all_goals simp_all only[qB,↓reduceIte,reduceCtorEq,az]
def k55 x y hx:=cP (c55 x y hx)
def c58(a b:List pv)(ha:a.length<=100000)(he:∀n,n∈a->Fl n.node):aq bW 58 [r8 a,r8 b,.func 55 []] []=some (.bool (decide (a=b)),[]) :=
 adA (sz:=8) (e:=mP) (z:=[aH 0,aH 0,aH 0,aH 0,aH 0,.slice .c0 [],.slice .c0 [],aH 0]) fy rfl ha (fun _=>rfl) rfl (fun _=>rfl) (fun _=>rfl) fun x y M h=>k55 x y (he x h) M
def k58 a b ha he:=cP (c58 a b ha he)
def fsB(x y:aa):decide (x=y)=(decide (x.s.now=y.s.now)&&(x.s.tick==y.s.tick&&(x.s.next==y.s.next&&(decide (x.s.since=y.s.since)&&(decide (x.s.eN=y.s.eN)&&(decide (x.s.dR=y.s.dR)&&(decide (x.holds=y.holds)&&decide (x.dS=y.dS)))))))):=by
 obtain⟨⟨a,b,c,d,e,f⟩,g,h⟩:=x;obtain⟨⟨a',b',c',d',e',f'⟩,g',h'⟩:=y;simp only[aa.mk.injEq,iQ.mk.injEq];rw[cE];simp only[bj,bt,eu];constructor
 ·rintro⟨⟨h1,h2,h3,h4,h5,h6⟩,h7,h8⟩; exact⟨h1,h2,h6,h3,h4,h5,h7,h8⟩
 ·rintro⟨h1,h2,h6,h3,h4,h5,h7,h8⟩; exact⟨⟨h1,h2,h3,h4,h5,h6⟩,h7,h8⟩
def c34(x y:aa)(hx:vk x):aq bW 34 [.agg (cg x),.agg (cg y)] []=some (.bool (decide (x=y)),[]):=by
 rw[fsB];refine aB ?_;have hn:=hx.rt.sz.ae;have q1:=fun M=>k56 x.s.now y.s.now hx.rt.small M
 have q2:=fun M=>k57 x.s.since y.s.since (by have:=hx.len; omega) M
 have q3:=fun M=>k58 x.s.eN y.s.eN (by have:=hx.eN; omega) (fun n hn=>hx.Es n hn) M
 have q4:=fun M=>k59 x.s.dR y.s.dR (by have:=hx.dR; omega) M
 have q5:=fun M=>k60 x.holds y.holds (by have:=hx.dD; omega) M
 have q6:=fun M=>k61 x.dS y.dS (by have:=hx.sK; omega) M
 simp only[alv,E34,cg,q1,q2,q3,q4,q5,q6,EW,seval]
 repeat' ((first|apply bC|apply bU|apply dK)<;>intro hb<;>simp only[hb,EW,E34,q2,q3,q4,q5,q6,seval])
 all_goals simp_all only[qB,↓reduceIte,reduceCtorEq,az]
def c40(t:Tree)(ht:t.ae.length<=100000):aq bW 40 [br t] []=some (.agg (bM ⟨t,0,List.replicate t.ae.length 0,[],[],1⟩),[]):=by
 refine aB ?_;have r1:cq t.ae.length 8=True:=qM;have hrep:List.replicate t.ae.length (ag.agg [aH 0]).norm=(List.replicate t.ae.length (0:Int)).map mZ:=by rw[gX]; rfl
 simp only[alz,E40,br,aN,r1,hrep,EW,seval];rfl
def c27:aq bW 27 [] []=some (.agg (cg f0),[]):=by
 have q1:=k41;have q2:∀M,aU (aq bW) 40 [.agg (aN wR)] M=some (.agg (bM f0.s),M):=fun M=>cO (c40 wR mr) M
 simp only[br,aN,bM] at q1 q2;refine aB ?_;simp only[alo,E27,q1,q2,EW,seval];rfl
inductive Chn:Nat->aa->Prop
 |new:Chn 0 f0
 |step {K:Nat} {f g:aa}:Chn K f->FB K f->Stp (fun _=>True) f.s g.s->Chn (K+200) g
def c13(xs:List jF)(hn:xs.length<=50)(ho:∀o,o∈xs->sN o):∃f,aq bW 13 [IA xs] []=some (.agg (cg f),[])/\FB 10000 f/\On f/\∃K,K<=10000/\Chn K f:=by
 have key:∃r:ag×aC,(∃f,r=(.agg (cg f),[])/\FB 10000 f/\On f/\∃K,K<=10000/\Chn K f)/\eX (aq bW) YT.results 0 [] YT.body (eG 0 [IA xs]) []=some r:=by
  have q1:=cP c27;simp only[cg] at q1;simp only[YT,E13,q1,EVO,EW,seval]
  refine jd (xs:=xs) aI (fun m (f:aa)=>FB (200*m) f/\On f/\Chn (200*m) f) (fun _ i=>[(0,IA xs),(2,cu 0),(3,cu 1),(4,aH i)]) (fun f=>[.cells rR,cv (cg f)]) _ (fun f hf=>?_) (fun pre o post f e hx cL hw h0 hm hf hi=>?_) f0 ⟨fb0,⟨fun y hy=>(by cases hy),fun n hn ho=>(by revert n; decide),fun y hy=>(by cases hy),fun d1 e1 d2 e2 x h1 h2=>(by
   have key:∀d,d∈f0.s.now.ae->d.bc=[]:=mr;rw[key d1 h1] at h2; cases h2),fun y hy=>(by cases hy),fun y hy=>(by cases hy)⟩,.new⟩
  ·simp only[cg,rR];simp only[E13,bu,EVO,EW,seval];exact⟨_,⟨f,rfl,hf.1.mono aI,hf.2.1,_,aI,hf.2.2⟩,rfl⟩
  ·have hp:=(aj.1 hx).1;obtain⟨g,a,q2,hg,hh⟩:=k28 f o hf.1 aI (ho o hm);have i1:=hi g ⟨by rw[Nat.mul_add]; exact hg,hh.1 hf.2.1,by rw[Nat.mul_add]; exact .step hf.2.2 hf.1 hh.2⟩
   simp only[cg,eW,dA,rR] at q2 i1 ⊢;simp only[E13,cL,hx,hw,h0,q2,eW,EVO,EW,seval];exact i1
 obtain⟨_,⟨f,rfl,h1⟩,h3⟩:=key;exact⟨f,aB h3,h1⟩
end
end Go.Proofs.YteoamaffclmdbaaGreatDoor
namespace Hs
section
open Go
variable {S O A:Type} (step:S->O->S×A)
structure Call(O A:Type) where
 b:Nat
 e:Option Nat
 op:O
 lg:A
def Yb(cs:List (Call O A))(done:List Nat)(i:Nat):Prop :=
 i∉done/\∀k c d,cs[k]?=some c->cs[i]?=some d->(∃e,c.e=some e/\e<d.b)->k∈done
inductive pO(cs:List (Call O A)):S->List Nat->List Nat->Prop
 |nil {s done}:(∀k c,cs[k]?=some c->c.e≠none->k∈done)->pO cs s done []
 |cons {s done i c ord}:cs[i]?=some c->Yb cs done i->(c.e≠none->(step s c.op).2=c.lg)->pO cs (step s c.op).1 (done++[i]) ord->pO cs s done (i::ord)
def Fits(cs:List (Call O A))(s:S):Prop:=∃ord,pO step cs s [] ord
theorem pO.more{cs:List (Call O A)}{c:Call O A}(hc:c.e=none):∀ {s done ord},pO step cs s done ord->pO step (cs++[c]) s done ord:=by
 have um:∀(k:Nat)(x:Call O A),(cs++[c])[k]?=some x->x.e≠none->cs[k]?=some x:=by
  grind
 intro s done ord h;induction h with
 |nil h1=>exact .nil fun k x hx he=>h1 k x (um k x hx he) he
 | @cons s done i d ord h1 h2 h3 _ ih =>
  have hi  := (aj.1 h1).1;have h1':(cs++[c])[i]?=some d:=by rw[aO hi]; omega
  refine .cons h1' ⟨h2.1,fun k x y hx hy he=>?_⟩ h3 ih
  obtain⟨e,e1,e2⟩:=he;rw[h1'] at hy; cases hy;exact h2.2 k x d (um k x hx (by rw[e1]; simp)) h1 ⟨e,e1,e2⟩
theorem pO.wider{cs ds:List (Call O A)}(hl:cs.length=ds.length)(hs:∀(k:Nat)(c d:Call O A),cs[k]?=some c->ds[k]?=some d->d.op=c.op/\(c.e≠none->d.lg=c.lg)/\(d.e=none↔c.e=none))
  (hw:∀(i k:Nat)(ci di:Call O A)(ck dk:Call O A),cs[i]?=some ci->ds[i]?=some di->cs[k]?=some ck->ds[k]?=some dk->(∃e,dk.e=some e/\e<di.b)->∃e,ck.e=some e/\e<ci.b) :
  ∀ {s done ord},pO step cs s done ord->pO step ds s done ord:=by
 have bk:∀(k:Nat)(d:Call O A),ds[k]?=some d->∃c,cs[k]?=some c:=fun k d h=>by
  have:=(aj.1 h).1;exact⟨_,ai aI⟩
 intro s done ord h;induction h with
 |nil h1 =>
  refine .nil fun k d hd he=>?_
  grind
 | @cons s done i c ord h1 h2 h3 _ ih =>
  obtain⟨d,hd⟩:∃d,ds[i]?=some d:=⟨_,ai (by have:=(aj.1 h1).1; omega)⟩
  obtain⟨s1,s2,s3⟩:=hs i c d h1 hd;rw[<-s1] at ih h3;refine .cons hd ⟨h2.1,fun k x y hx hy he=>?_⟩ (fun he=>by have hc:=fun h=>he (s3.2 h); rw[s2 hc]; exact h3 hc) ih
  rw[hd] at hy; cases hy;obtain⟨ck,hck⟩:=bk k x hx;exact h2.2 k _ c hck h1 (hw i k c d ck x h1 hd hck hx he)
end
section
open Go
variable {S O A:Type} (step:S->O->S×A)
inductive vl(cs:List (Call O A)):S->List Nat->List Nat->S->Prop
 |nil {s done}:vl cs s done [] s
 |cons {s s' done i c ord}:cs[i]?=some c->Yb cs done i->(step s c.op).2=c.lg->vl cs (step s c.op).1 (done++[i]) ord s'->vl cs s done (i::ord) s'
variable {step}
def vl.snoc{cs:List (Call O A)}:∀ {s done ord s'},vl step cs s done ord s'->∀ {i:Nat} {c:Call O A},cs[i]?=some c->Yb cs (done++ord) i->(step s' c.op).2=c.lg->vl step cs s done (ord++[i]) (step s' c.op).1:=by
 intro s done ord s' h;induction h with
 |nil=>intro i c h1 h2 h3; rw[c8] at h2; exact .cons h1 h2 h3 .nil
 |cons a1 a2 a3 _ ih =>
  intro i c h1 h2 h3;exact .cons a1 a2 a3 (ih h1 (by rwa[bZ]) h3)
def vl.to{cs ds:List (Call O A)}:∀ {s done ord s'},vl step cs s done ord s' ->
  (∀i,i∈ord->∀c,cs[i]?=some c->∃d,ds[i]?=some d/\d.op=c.op/\d.lg=c.lg/\∀(k:Nat)(dk:Call O A),ds[k]?=some dk->(∃e,dk.e=some e/\e<d.b)->∃ck,cs[k]?=some ck/\∃e,ck.e=some e/\e<c.b) ->
  vl step ds s done ord s':=by
 intro s done ord s' h;induction h with
 |nil=>exact fun _ => .nil
 | @cons s s' done i c ord a1 a2 a3 _ ih =>
  intro hx;obtain⟨d,d1,d2,d3,d4⟩:=hx i bE c a1;have ih:=ih fun j hj=>hx j (bw _ hj)
  rw[<-d2] at ih a3;refine .cons d1 ⟨a2.1,fun k x y hkx hky he=>?_⟩ (by rw[d3]; omega) ih
  rw[d1] at hky; cases hky;obtain⟨ck,c1,c2⟩:=d4 k x hkx he;exact a2.2 k _ c c1 a1 c2
def vl.runs{cs:List (Call O A)}:∀ {s done ord s'},vl step cs s done ord s'->(∀k c,cs[k]?=some c->c.e≠none->k∈done++ord)->pO step cs s done ord:=by
 intro s done ord s' h;induction h with
 |nil=>exact fun hx => .nil fun k c hk he=>ka
 |cons a1 a2 a3 _ ih=>exact fun hx => .cons a1 a2 (fun _=>a3) (ih fun k c hk he=>ka)
structure yO(step:S->O->S×A)(s0:S)(cs:List (Call O A))(ord:List Nat)(s:S)(n:Nat):Prop where
 chain:vl step cs s0 [] ord s
 mB:cs.Pairwise fun a b=>a.b<b.b
 bn:∀c,c∈cs->c.b<n
 en:∀c,c∈cs->∀e,c.e=some e->e<n
 dn:∀(k:Nat)(c:Call O A),cs[k]?=some c->c.e≠none->k∈ord
 lt:∀k,k∈ord->k<cs.length
def yO.new(s0:S):yO step s0 [] [] s0 0:=⟨.nil,.nil,dv,dv,dv,dv⟩
def yO.fits{s0 s:S}{cs:List (Call O A)}{ord:List Nat}{n:Nat}(h:yO step s0 cs ord s n):Fits step cs s0:=⟨ord,h.chain.runs fun k c hk he=>by simpa using h.dn k c hk he⟩
theorem yO.begin{s0 s:S}{cs:List (Call O A)}{ord:List Nat}{n:Nat}(h:yO step s0 cs ord s n)(o:O)(a:A):yO step s0 (cs++[⟨n,none,o,a⟩]) ord s (n+1):=by
 have um:∀(k:Nat)(x:Call O A),(cs++[⟨n,none,o,a⟩])[k]?=some x->cs[k]?=some x\/x.e=none:=fun k x hx=>by
  grind
 refine⟨h.chain.to fun i hi c hc=>⟨c,?_,rfl,rfl,fun k dk hk he=>?_⟩,?_,?_,?_,?_,?_⟩
 ·rw[aO (h.lt i hi)]; omega
 ·grind
 ·refine ft.2 ⟨h.mB,List.pairwise_singleton _ _,fun x hx y hy=>?_⟩
  rw[bQ.1 hy]; exact h.bn x hx
 ·intro c hc;rcases bo.1 hc with hc|hc
  ·have:=h.bn c hc; omega
  grind
 ·intro c hc e he;rcases bo.1 hc with hc|hc
  ·have:=h.en c hc e he; omega
  grind
 ·intro k c hk he;rcases um k c hk with h1|h1
  ·exact h.dn k c h1 he
  grind
 ·intro k hk; have:=h.lt k hk; grind
theorem yO.ae3{s0 s:S}{cs:List (Call O A)}{ord:List Nat}{n:Nat}(h:yO step s0 cs ord s n){i:Nat}{c:Call O A}(hi:cs[i]?=some c)(hno:i∉ord)(he:c.e=none) :
  yO step s0 (cs.set i { c with lg:=(step s c.op).2 }) (ord++[i]) (step s c.op).1 n:=by
 have hil:i<cs.length:=(aj.1 hi).1
 have hat:∀(k:Nat)(x:Call O A),(cs.set i { c with lg:=(step s c.op).2 })[k]?=some x->∃y,cs[k]?=some y/\x.b=y.b/\x.e=y.e:=fun k x hx=>by
  rw[fJ] at hx
  grind
 have hmem:∀x,x∈cs.set i { c with lg:=(step s c.op).2 }->∃y,y∈cs/\x.b=y.b/\x.e=y.e:=fun x hx=>by
  grind
 have hd:(cs.set i { c with lg:=(step s c.op).2 })[i]?=some { c with lg:=(step s c.op).2 }:=by rw[fa hil]
 have h1:vl step (cs.set i { c with lg:=(step s c.op).2 }) s0 [] ord s:=h.chain.to fun j hj x hx=>by
  have hji:i≠j:=fun e=>hno (e▸hj)
  refine⟨x,by rw[eJ hji]; exact hx,rfl,rfl,fun k dk hk he=>?_⟩
  grind
 have h2:=h1.snoc hd ⟨ka,fun k x y hx _ he=>?_⟩ rfl
 ·refine⟨h2,?_,?_,?_,?_,?_⟩
  ·have ha:=h.mB;rw[cm] at ha ⊢
   grind
  ·intro x hx;obtain⟨y,y1,y2,_⟩:=hmem x hx;rw[y2]; exact h.bn y y1
  ·intro x hx e hxe;obtain⟨y,y1,_,y2⟩:=hmem x hx;exact h.en y y1 e (by rw[<-y2]; exact hxe)
  ·intro k x hx hxe;obtain⟨y,y1,_,y2⟩:=hat k x hx;exact fq _ (h.dn k y y1 (by rw[<-y2]; exact hxe))
  ·intro k hk;rw[cG];rcases bo.1 hk with hk|hk
   ·exact h.lt k hk
   grind
 ·obtain⟨e,e1,_⟩:=he;obtain⟨z,z1,_,z2⟩:=hat k x hx;simpa using h.dn k z z1 (by rw[<-z2,e1]; simp)
theorem yO.ends{s0 s:S}{cs:List (Call O A)}{ord:List Nat}{n:Nat}(h:yO step s0 cs ord s n){i:Nat}{c:Call O A}(hi:cs[i]?=some c)(hd:i∈ord) :
  yO step s0 (cs.set i { c with e:=some n }) ord s (n+1):=by
 have hil:i<cs.length:=(aj.1 hi).1
 have hat:∀(k:Nat)(x:Call O A),(cs.set i { c with e:=some n })[k]?=some x->∃y,cs[k]?=some y/\x.b=y.b/\x.op=y.op/\x.lg=y.lg/\(x.e=y.e\/(k=i/\x.e=some n)):=fun k x hx=>by
  rw[fJ] at hx
  grind
 have hmem:∀x,x∈cs.set i { c with e:=some n }->∃y,y∈cs/\x.b=y.b/\(x.e=y.e\/x.e=some n):=fun x hx=>by
  grind
 refine⟨h.chain.to fun j hj x hx=>?_,?_,?_,?_,?_,?_⟩
 ·obtain⟨d,hd1⟩:∃d,(cs.set i { c with e:=some n })[j]?=some d:=⟨_,ai (by rw[cG]; exact h.lt j hj)⟩
  obtain⟨y,y1,y2,y3,y4,_⟩:=hat j d hd1;rw[hx] at y1; cases y1;refine⟨d,hd1,y3,y4,fun k dk hk he=>?_⟩
  obtain⟨z,z1,_,_,_,z5⟩:=hat k dk hk;obtain⟨e,e1,e2⟩:=he;rcases z5 with z5|⟨_,z5⟩
  ·grind
  ·rw[z5] at e1; injection e1 with e1
   have:=h.bn x (aK hx);omega
 ·have ha:=h.mB;rw[cm] at ha ⊢
  grind
 ·intro x hx;obtain⟨y,y1,y2,_⟩:=hmem x hx;have:=h.bn y y1;omega
 ·intro x hx e hxe;obtain⟨y,y1,_,y3⟩:=hmem x hx;rcases y3 with y3|y3
  ·have:=h.en y y1 e (by rw[<-y3]; exact hxe); omega
  grind
 ·intro k x hx hxe;obtain⟨y,y1,_,_,_,y3⟩:=hat k x hx;rcases y3 with y3|⟨rfl,_⟩
  ·exact h.dn k y y1 (by rw[<-y3]; exact hxe)
  ·exact hd
 ·intro k hk; rw[cG]; exact h.lt k hk
end
end Hs
set_option linter.unusedSectionVars false
namespace Hs
open Go
variable {S O A:Type} {step:S->O->S×A}
def Yb.congr{cs:List (Call O A)}{d1 d2:List Nat}(h:∀k,k∈d1↔k∈d2){i:Nat}(g:Yb cs d1 i):Yb cs d2 i:=⟨fun hi=>g.1 ((h i).2 hi),fun k c d hc hd he=>(h k).1 (g.2 k c d hc hd he)⟩
def pO.congr{cs:List (Call O A)}:∀ {s d1 ord},pO step cs s d1 ord->∀ {d2:List Nat},(∀k,k∈d1↔k∈d2)->pO step cs s d2 ord:=by
 intro s d1 ord g;induction g with
 |nil h1=>intro d2 h; exact .nil fun k c hk he=>(h k).1 (h1 k c hk he)
 |cons h1 h2 h3 _ ih=>intro d2 h; exact .cons h1 (h2.congr h) h3 (ih fun k=>ka)
section
variable [DecidableEq S] [DecidableEq A]
def lR(cs:List (Call O A))(k i:Nat):Bool:=match cs[k]?,cs[i]? with
 |some c,some d=>match c.e with
  |some e=>decide (e<d.b)
  |none=>false
 |_,_=>false
def Ec(cs:List (Call O A))(done:List Nat)(i:Nat):Bool := !done.contains i&&(List.range cs.length).all fun k => !lR cs k i||done.contains k
def KD(step:S->O->S×A)(s:S)(c:Call O A):Bool:=c.e.isNone||decide ((step s c.op).2=c.lg)
def BP(cs:List (Call O A))(done:List Nat):Bool:=(List.range cs.length).all fun k=>match cs[k]? with
 |some c=>c.e.isNone||done.contains k
 |none=>true
theorem Jy{cs:List (Call O A)}{done:List Nat}{i:Nat}(hi:i<cs.length):Ec cs done i=true↔Yb cs done i:=by
 unfold Ec Yb;simp only[bt,gN,bN,gk,cS];constructor
 ·grind [List.contains_iff_mem,List.getElem?_eq_some_iff,lR]
 ·rintro⟨h1,h2⟩;refine⟨ka,fun k hk=>?_⟩
  cases ha:lR cs k i
  ·exact .inl rfl
  grind [List.contains_iff_mem,List.getElem?_eq_getElem,lR]
theorem ET{cs:List (Call O A)}{done:List Nat}:BP cs done=true↔∀(k:Nat)(c:Call O A),cs[k]?=some c->c.e≠none->k∈done:=by
 unfold BP;simp;constructor
 ·intro h k c hk he;have:=h k (aj.1 hk).1;simp_all
 grind
abbrev uE(S:Type):=List (Nat×S)
def I6(step:S->O->S×A)(cs:List (Call O A))(T:S->List Nat->uE S->Option (List Nat)×uE S)(s:S)(done:List Nat):List Nat->uE S->Option (List Nat)×uE S
 | [],lost=>(none,lost)
 |i::r,lost=>match cs[i]? with
  |none=>I6 step cs T s done r lost
  |some c=>if Ec cs done i&&KD step s c then
    match T (step s c.op).1 (done++[i]) lost with
    |(some o,l)=>(some (i::o),l)
    |(none,l)=>I6 step cs T s done r l
   else I6 step cs T s done r lost
def wS(step:S->O->S×A)(key:List Nat->Nat)(cs:List (Call O A)):Nat->S->List Nat->uE S->Option (List Nat)×uE S
 |0,_,_,lost=>(none,lost)
 |f+1,s,done,lost =>
  if BP cs done then (some [],lost)
  else if lost.any (fun p=>p.1==key done&&decide (p.2=s))=true then (none,lost)
  else match I6 step cs (wS step key cs f) s done (List.range cs.length) lost with
   |(some o,l)=>(some o,l)
   |(none,l)=>(none,l++[(key done,s)])
def C8(step:S->O->S×A)(key:List Nat->Nat)(cs:List (Call O A))(lost:uE S):Prop:=∀p,p∈lost->∀done,key done=p.1->¬ ∃ord,pO step cs p.2 done ord
def aiF(step:S->O->S×A)(key:List Nat->Nat)(cs:List (Call O A))(s:S)(done:List Nat)(r:Option (List Nat)×uE S):Prop :=
 C8 step key cs r.2/\match r.1 with
  |some ord=>pO step cs s done ord
  |none=>¬ ∃ord,pO step cs s done ord
structure Good(cs:List (Call O A))(done:List Nat):Prop where
 nodup:done.Nodup
 lt:∀k,k∈done->k<cs.length
theorem Good.len{cs:List (Call O A)}{done:List Nat}(h:Good cs done):done.length<=cs.length:=by
 have key:∀(n:Nat)(l:List _),l.Nodup->(∀k,k∈l->k<n)->l.length<=n:=by
  intro n;induction n with
  |zero =>
   intro l _ hl;cases l with
   |nil=>simp
   |cons a r=>exact absurd (hl a bE) (jL _)
  |succ n ih =>
   intro l hd hl
   have:=ih _ (hd.erase n) fun k hk=>by
    grind
   rw[List.length_erase] at this;split at this<;>omega
 exact key _ _ h.nodup h.lt
def H6{s:S}{c:Call O A}:KD step s c=true↔(c.e≠none->(step s c.op).2=c.lg):=by
 unfold KD;cases hc:c.e<;>simp
theorem CU{key:List Nat->Nat}{cs:List (Call O A)}{T:S->List Nat->uE S->Option (List Nat)×uE S}{s:S}{done:List Nat}
  (hT:∀i c lost,cs[i]?=some c->i∉done->C8 step key cs lost->aiF step key cs (step s c.op).1 (done++[i]) (T (step s c.op).1 (done++[i]) lost)) :
  ∀(is:List Nat)(lost:uE S),C8 step key cs lost->C8 step key cs (I6 step cs T s done is lost).2/\match (I6 step cs T s done is lost).1 with
   |some ord=>∃i r,ord=i::r/\i∈is/\pO step cs s done ord
   |none=>∀i c r,i∈is->cs[i]?=some c->Yb cs done i->(c.e≠none->(step s c.op).2=c.lg)->¬pO step cs (step s c.op).1 (done++[i]) r
 | [],lost,h=>⟨h,by simp[I6]⟩
 |i::is,lost,h=>by
  rw[I6];cases hc:cs[i]? with
  |none =>
   obtain⟨g1,g2⟩:=CU hT is lost h
   grind
  |some c =>
   have hil:i<cs.length:=(aj.1 hc).1;simp only
   by_cases hm:(Ec cs done i&&KD step s c)=true
   ·rw[aX hm];simp only[bt] at hm;have hm1:=(Jy hil).1 hm.1;have hm2:=H6.1 hm.2;obtain⟨t1,t2⟩:=hT i c lost hc hm1.1 h;generalize T (step s c.op).1 (done++[i]) lost=t at t1 t2;obtain⟨o,l⟩:=t;cases o with
    |some o=>exact⟨t1,i,o,rfl,bE,.cons hc hm1 hm2 t2⟩
    |none =>
     simp only at t1 t2 ⊢;obtain⟨g1,g2⟩:=CU hT is l t1;refine⟨g1,?_⟩;split
     ·grind
     grind
   ·rw[aL hm];obtain⟨g1,g2⟩:=CU hT is lost h;refine⟨g1,?_⟩;split
    ·grind
    ·rename_i ho;rw[ho] at g2;intro j d r hj hdj;rcases bI.1 hj with rfl|hj
     ·rw[hc] at hdj; cases hdj;exact fun h1 h2 _=>hm (by rw[(Jy hil).2 h1,H6.2 h2]; rfl)
     ·exact g2 j d r hj hdj
theorem Ke{key:List Nat->Nat}(hkey:∀a b,key a=key b->∀k,k∈a↔k∈b){cs:List (Call O A)}:∀(f:Nat)(s:S)(done:List Nat)(lost:uE S),Good cs done->cs.length<done.length+f->C8 step key cs lost->aiF step key cs s done (wS step key cs f s done lost)
 |0,s,done,lost,hg,hf,_=>by have:=hg.len; omega
 |f+1,s,done,lost,hg,hf,hl=>by
  rw[wS];split
  ·rename_i hw;exact⟨hl,.nil (ET.1 hw)⟩
  rename_i hw;split
  ·rename_i ha;obtain⟨p,p1,p2⟩:=ku.1 ha;simp only[bt,eu,bj] at p2;refine⟨hl,?_⟩;have:=hl p p1 done p2.1.symm;rw[p2.2] at this;omega
  have hgo:=CU (step:=step) (key:=key) (cs:=cs) (T:=wS step key cs f) (s:=s) (done:=done) (fun i c lost' hc hi hl'=>by
   refine Ke hkey f _ _ lost' ⟨?_,fun k hk=>?_⟩ gm hl'
   ·refine lu.2 ⟨hg.nodup,dv,fun a ha b hb=>?_⟩
    rw[bQ.1 hb]
    grind
   ·rcases bo.1 hk with hk|hk
    ·exact hg.lt k hk
    grind) (List.range cs.length) lost hl
  obtain⟨g1,g2⟩:=hgo;generalize I6 step cs (wS step key cs f) s done (List.range cs.length) lost=r at g1 g2;obtain⟨o,l⟩:=r;cases o with
  |some o =>
   obtain⟨i,r,e1,e2,e3⟩:=g2;exact⟨g1,e3⟩
  |none =>
   simp only at g1 g2 ⊢
   have hno:¬ ∃ord,pO step cs s done ord:=by
    rintro⟨ord,ho⟩;cases ho<;>grind [ET]
   refine⟨fun p hp d hd=>?_,hno⟩
   rcases bo.1 hp with hp|hp
   ·exact g1 p hp d hd
   ·rw[bQ.1 hp] at hd ⊢;rintro⟨ord,ho⟩;exact hno ⟨ord,ho.congr (hkey _ _ hd)⟩
end
end Hs
set_option linter.unusedSectionVars false
namespace Hs
open Go
variable {S O A:Type} {step:S->O->S×A}
theorem pO.new{cs:List (Call O A)}:∀ {s done ord},pO step cs s done ord->∀i,i∈ord->i∉done:=by
 intro s done ord h;induction h with
 |nil=>simp
 |cons h1 h2 _ _ ih =>
  intro j hj;rcases bI.1 hj with rfl|hj
  ·exact h2.1
  grind
def pO.nodup{cs:List (Call O A)}:∀ {s done ord},pO step cs s done ord->ord.Nodup:=by
 intro s done ord h;induction h with
 |nil=>simp
 |cons _ _ _ h4 ih=>exact oO.2 ⟨fun hi=>h4.new _ hi dv,ih⟩
theorem pO.lt{cs:List (Call O A)}:∀ {s done ord},pO step cs s done ord->∀i,i∈ord->i<cs.length:=by
 intro s done ord h;induction h<;>grind
theorem pO.back{cs:List (Call O A)}:∀ {s done ord},pO step cs s done ord->∀pre i post,ord=pre++i::post->∀k,k∈pre->∀ci ck,cs[i]?=some ci->cs[k]?=some ck->¬ ∃e,ci.e=some e/\e<ck.b:=by
 intro s done ord h;induction h with
 |nil=>simp
 | @cons s done j c ord h1 h2 h3 h4 ih =>
  intro pre i post e k hk ci ck hi hck he;cases pre with
  |nil=>cases hk
  |cons p pre =>
   simp only[aG] at e;obtain⟨rfl,rfl⟩:=e;rcases bI.1 hk with rfl|hk
   ·have:=h2.2 i ci ck hi hck he;exact h4.new i dv (fq _ this)
   grind
theorem pO.all{cs:List (Call O A)}:∀ {s done ord},pO step cs s done ord->∀(k:Nat)(c:Call O A),cs[k]?=some c->c.e≠none->k∈done\/k∈ord:=by
 intro s done ord h;induction h<;>grind
end Hs
set_option linter.unusedSectionVars false
namespace Hs
open Go
variable {S O A:Type} {step:S->O->S×A}
structure Ev(O A:Type) where
 begin:Bool
 cl:Nat
 op:O
 lg:A
structure Cl(O A:Type) where
 n:Nat
 cs:List (Call O A)
 last:Nat->Nat
def ij(t:Cl O A)(x:Ev O A):Cl O A :=
 if x.begin then ⟨t.n+1,t.cs++[⟨t.n,none,x.op,x.lg⟩],fun c=>if c=x.cl then t.cs.length else t.last c⟩
 else ⟨t.n+1,t.cs.modify (t.last x.cl) fun c=>{ c with e:=some t.n,lg:=x.lg },t.last⟩
def fN(l:List (Ev O A)):Cl O A:=l.foldl ij ⟨0,[],fun _=>0⟩
def kS(l:List (Ev O A))(x:Ev O A):fN (l++[x])=ij (fN l) x:=by simp[fN]
structure Rn(S O A:Type) where
 out:List (Ev O A)
 s:S
 st:Nat->Nat
 op:Nat->O
 lg:Nat->A
structure Of(cs ds:List (Call O A)):Prop where
 len:ds.length=cs.length
 at':∀(k:Nat)(c d:Call O A),cs[k]?=some c->ds[k]?=some d->d.b=c.b/\d.e=c.e/\d.op=c.op/\(c.e≠none->d.lg=c.lg)
structure tU(step:S->O->S×A)(s0:S)(r:Rn S O A):Prop where
 ex:∃ds ord,yO step s0 ds ord r.s (fN r.out).n/\Of (fN r.out).cs ds /\
  (∀c,r.st c=1->∃d,ds[(fN r.out).last c]?=some d/\d.e=none/\(fN r.out).last c∉ord/\d.op=r.op c) /\
  (∀c,r.st c=2->∃d,ds[(fN r.out).last c]?=some d/\d.e=none/\(fN r.out).last c∈ord/\d.lg=r.lg c)
 dis:∀c c',c≠c'->(r.st c=1\/r.st c=2)->(r.st c'=1\/r.st c'=2)->(fN r.out).last c≠(fN r.out).last c'
def tU.new(s0:S)(op:Nat->O)(lg:Nat->A):tU step s0 ⟨[],s0,fun _=>0,op,lg⟩ :=
 ⟨⟨[],[],yO.new _,⟨rfl,dv⟩,dv,dv⟩,dv⟩
theorem tU.fits{s0:S}{r:Rn S O A}(h:tU step s0 r):Fits step (fN r.out).cs s0:=by
 obtain⟨ds,ord,h1,h2,_⟩:=h.ex;obtain⟨o,ho⟩:=h1.fits;refine⟨o,pO.wider _ h2.len (fun k d c hd hc=>?_) (fun i k ci di ck dk hci hdi hck hdk he=>?_) ho⟩
 ·obtain⟨_,g2,g3,g4⟩:=h2.at' k c d hc hd
  grind
 ·obtain⟨g1,_⟩:=h2.at' i _ ci hdi hci;obtain⟨_,k2,_⟩:=h2.at' k _ ck hdk hck;rw[g1,k2]; omega
theorem tU.begin{s0:S}{r:Rn S O A}(h:tU step s0 r){c:Nat}(_hc:r.st c=0)(o:O)(a:A):tU step s0 ⟨r.out++[⟨true,c,o,a⟩],r.s,fun x=>if x=c then 1 else r.st x,fun x=>if x=c then o else r.op x,r.lg⟩:=by
 obtain⟨ds,ord,h1,h2,h3,h4⟩:=h.ex;have dD:=h2.len;refine⟨⟨ds++[⟨(fN r.out).n,none,o,a⟩],ord,?_,⟨?_,fun k x y hx hy=>?_⟩,fun x hx=>?_,fun x hx=>?_⟩,fun x y hxy hx hy=>?_⟩
 ·simp only[kS,ij,aE]; exact h1.begin o a
 ·simp_all [kS,ij]
 ·simp only[kS,ij,aE] at hx;rcases bD k (fN r.out).cs.length with hk|hk
  ·rw[aO hk] at hx;rw[aO aI] at hy;exact h2.at' k x y hx hy
  grind
 ·simp only[kS,ij,aE] at hx ⊢
  by_cases hxc:x=c
  ·rw[aX hxc,aX hxc];refine⟨⟨(fN r.out).n,none,o,a⟩,by rw[<-dD]; simp,rfl,fun hm=>?_,rfl⟩
   have:=h1.lt _ hm; omega
  grind
 ·simp only[kS,ij,aE] at hx ⊢
  grind
 ·simp only[kS,ij,aE] at hx hy ⊢
  have lt:∀z,z≠c->((if z=c then 1 else r.st z)=1\/(if z=c then 1 else r.st z)=2)->(fN r.out).last z<(fN r.out).cs.length:=fun z hz hzz=>by
   rw[aL hz] at hzz
   grind
  by_cases hxc:x=c
  ·have hyc:y≠c:=fun e=>hxy (hxc.trans e.symm)
   rw[aX hxc,aL hyc];have:=lt y hyc hy; omega
  ·by_cases hyc:y=c
   ·rw[aL hxc,aX hyc];have:=lt x hxc hx; omega
   ·rw[aL hxc] at hx;rw[aL hyc] at hy;rw[aL hxc,aL hyc];exact h.dis x y hxy hx hy
theorem tU.ae3{s0:S}{r:Rn S O A}(h:tU step s0 r){c:Nat}(hc:r.st c=1):tU step s0 ⟨r.out,(step r.s (r.op c)).1,fun x=>if x=c then 2 else r.st x,r.op,fun x=>if x=c then (step r.s (r.op c)).2 else r.lg x⟩:=by
 obtain⟨ds,ord,h1,h2,h3,h4⟩:=h.ex;obtain⟨d,d1,d2,d3,d4⟩:=h3 c hc;have g:=h1.ae3 d1 d3 d2;rw[d4] at g;have hil:=(aj.1 d1).1;have hne  := fun x hx hs=>h.dis c x (eS hx) (.inl hc) hs
 refine⟨⟨_,_,g,⟨by rw[cG]; exact h2.len,fun k x y hx hy=>?_⟩,fun x hx=>?_,fun x hx=>?_⟩,fun x y hxy hx hy=>h.dis x y hxy ?_ ?_⟩
 ·rw[fJ] at hy;split at hy
  ·rename_i hk;subst hk;cases hy;obtain⟨e1,e2,e3,e4⟩:=h2.at' _ x d hx d1
   grind
  ·exact h2.at' k x y hx hy
 ·grind
 ·grind
 ·grind
 grind
theorem tU.ends{s0:S}{r:Rn S O A}(h:tU step s0 r){c:Nat}(hc:r.st c=2)(o:O):tU step s0 ⟨r.out++[⟨false,c,o,r.lg c⟩],r.s,fun x=>if x=c then 0 else r.st x,r.op,r.lg⟩:=by
 obtain⟨ds,ord,h1,h2,h3,h4⟩:=h.ex;obtain⟨d,d1,d2,d3,d4⟩:=h4 c hc;have g:=h1.ends d1 d3;have hil:=(aj.1 d1).1;have hne  := fun x hx hs=>h.dis c x (eS hx) (.inr hc) hs
 refine⟨⟨ds.set ((fN r.out).last c) { d with e:=some (fN r.out).n },ord,?_,⟨?_,fun k x y hx hy=>?_⟩,fun x hx=>?_,fun x hx=>?_⟩,fun x y hxy hx hy=>?_⟩
 ·simp_all [kS,ij,af]
 ·simp only[kS,ij,af,aD]; rw[cG,jy]; exact h2.len
 ·simp only[kS,ij,af,aD] at hx;rw[fP] at hx;rw[fJ] at hy;obtain⟨z,hz,rfl⟩:=aV.1 hx;split at hy
  ·rename_i hk;subst hk;cases hy;obtain⟨e1,e2,e3,e4⟩:=h2.at' _ z d hz d1;rw[aX rfl]
   grind
  ·rename_i hk;rw[aL hk];exact h2.at' k z y hz hy
 ·simp only[kS,ij,af,aD] at hx ⊢
  grind
 ·simp only[kS,ij,af,aD] at hx ⊢
  grind
 ·simp only[kS,ij,af,aD] at hx hy ⊢
  by_cases hxc:x=c
  ·rw[aX hxc] at hx; omega
  by_cases hyc:y=c
  ·rw[aX hyc] at hy; omega
  rw[aL hxc] at hx;rw[aL hyc] at hy;exact h.dis x y hxy hx hy
end Hs
namespace Go.Proofs.YteoamaffclmdbaaGreatDoor
open Go Go.Abs
structure lk where
 kind:Int
 bA:Int
 op:jF
 lg:vU
 deriving DecidableEq,Inhabited
structure wT where
 bA:UInt8
 op:jF
def nV(e:lk):List ag:=[.int .i64 e.kind,.int .i64 e.bA,.int .i64 e.op.kind,.int .i64 e.op.bA,.str e.op.dI,.str e.op.vh,.int .i64 e.op.n,.int .i64 e.op.m,.int .i64 e.op.handle,cV e.op.data,.int .i64 e.lg.err,.int .i64 e.lg.ar,.int .i64 e.lg.kind,.int .i64 e.lg.n,.int .i64 e.lg.m,da e.lg.names,cV e.lg.data]
def tq(e:lk):ag := .agg (nV e)
abbrev vw(l:List lk):ag := .slice .sh (l.map tq)
def uN(t:wT):List ag:=[pf t.bA,.int .i64 t.op.kind,.int .i64 t.op.bA,.str t.op.dI,.str t.op.vh,.int .i64 t.op.n,.int .i64 t.op.m,.int .i64 t.op.handle,cV t.op.data]
def RE(t:wT):ag := .agg (uN t)
abbrev B3(l:List wT):ag := .slice .sh (l.map RE)
def KT(n:lk):(tq n).cells=nV n:=rfl
def PB(n:lk):(nV n).length=17:=rfl
def XE(l:List lk):wid (l.map tq) 17=True:=pr tq _ (fun _=>rfl) l
def aub(n:lk):List.take 17 (nV n)=nV n:=rfl
def at7(n:lk):List.map ag.shut (nV n)=nV n:=rfl
def KU(n:wT):(RE n).cells=uN n:=rfl
def PC(n:wT):(uN n).length=9:=rfl
def XG(l:List wT):wid (l.map RE) 9=True:=pr RE _ (fun _=>rfl) l
def auc(n:wT):List.take 9 (uN n)=uN n:=rfl
def aua(n:wT):List.map ag.shut (uN n)=uN n:=rfl
set_option linter.defProp false in
def CC:=bR @KT (bR @PB (bR @XE (bR @aub (bR @at7 (bR @KU (bR @PC (bR @XG (bR @auc (bR @aua (bR @Fx (bR @Jr (bR @N5 (bR @tkO (@shO))))))))))))))
def aiI(x y:vU):decide (x=y)=(x.err==y.err&&(x.ar==y.ar&&(x.kind==y.kind&&(x.n==y.n&&(x.m==y.m&&(decide (x.names=y.names)&&decide (x.data=y.data))))))):=by
 cases x; cases y;rw[cE];simp only[vU.mk.injEq,bj,bt,eu]
section
attribute [local irreducible] eX fM lC gK dX kr aq aU cr bJ
def c62(a b:List Bytes)(ha:a.length<=100000):aq bW 62 [da a,da b] []=some (.bool (decide (a=b)),[]) :=
 DK (sz:=1) (e:=ag.str) (ld := .rD) (ne := .bin .neq) fy rfl ha (fun _=>rfl) (fun _=>rfl) (fun _=>rfl) (fun _ _ _ _ h=>by simp only[ec,fZ.ev,h,ag.cells,nth,bO]) (fun _ _ _ _ x y h h'=>by
  have:(x != y) = !decide (x=y):=by rw[cE]; simp
  simp only[ec,fZ.ev,h,h',p9,this,bO])
def c63(a b:Bytes)(ha:a.length<=100000):aq bW 63 [cV a,cV b] []=some (.bool (decide (a=b)),[]) :=
 DK (sz:=1) (e:=pf) (ld := .rD) (ne := .bin .neq) fy rfl ha (fun _=>rfl) (fun _=>rfl) (fun _=>rfl) (fun _ _ _ _ h=>by simp only[ec,fZ.ev,h,pf,ag.cells,nth,bO]) (fun _ _ _ _ x y h h'=>by
  have:((x.toNat:Int) != (y.toNat:Int)) = !decide (x=y):=by rw[cE]; simp only[nC,ne_eq,gN,dz,<-kQ]; omega
  simp only[ec,fZ.ev,h,h',pf,p9,this,ne_eq,nj,aD,bO])
def c35(x y:vU)(hn:x.names.length<=100000)(hd:x.data.length<=100000):aq bW 35 [Ld x,Ld y] []=some (.bool (decide (x=y)),[]):=by
 have q1:=fun M=>cO (c62 x.names y.names hn) M
 have q2:=fun M=>cO (c63 x.data y.data hd) M
 rw[aiI];refine aB ?_;simp only[alw,E35,Ld,dA,EW,seval]
 repeat' ((first|apply bC|apply bU|apply dK)<;>intro hb<;>simp only[hb,EW,E35,q1,q2,seval])
 all_goals simp_all only[qB,↓reduceIte,reduceCtorEq,az]
def k35(x y:vU)(hn:x.names.length<=100000)(hd:x.data.length<=100000)(M:aC):aU (aq bW) 35 [.agg (dA x),.agg (dA y)] M=some (.bool (decide (x=y)),M):=cO (c35 x y hn hd) M
def xg(c:Int):List lk->Nat->Int
 | [],_ => -1
 |x::r,i=>if x.bA==c then (i:Int) else xg c r (i+1)
def zV(l:List jF)(m:List wT):Bool:=DQ l||(decide (24<(m.length:Int))||m.any fun t=>xn t.op)
def c10(l:List jF)(m:List wT):aq bW 10 [IA l,B3 m] []=some (.bool (zV l m),[]):=by
 have q1:=fun M=>k25 l M
 unfold zV;refine aB ?_
 cases h1:DQ l<;>cases h2:decide (24<(m.length:Int))<;>rw[h1] at q1 <;>
  simp only[ak6,E10,q1,h1,h2,dJ,cT,CC,EW,seval]
 have hn:m.length<=24:=by simp at h2; omega
 refine AZ (xs:=m) aI (fun l (_:Unit)=>l.any fun t=>xn t.op) (fun _ i=>[(1,B3 m),(5,aH i)]) (fun _=>[]) (fun b=>some (ag.bool b,([]:aC))) (fun _=>?_) (fun pre x post _ h hx cL hw h0 hm hi=>?_) ()
 ·simp only[E10,bu,o5,CC,EW,seval]
 ·have q:=fun M=>k26 x.op M
  have i1:=hi ();simp only[eW] at q;cases hl:xn x.op<;>rw[hl] at q<;>simp only[E10,cL,hx,hw,h0,uN,eW,q,hl,jS,dJ,cT,CC,EW,seval]
  exact i1
end
def uG(e:lk):Hs.Ev jF vU:=⟨e.kind==1,e.bA.toNat,e.op,e.lg⟩
abbrev Cls:=Hs.Cl jF vU
abbrev xQ:=Hs.Call jF vU
def wg(c:xQ):Int:=match c.e with
 |some n=>(n:Int)
 |none => -1
def qC(c:xQ):List ag:=[.int .i64 c.b,.int .i64 (wg c)]
def qy(c:xQ):ag := .agg (qC c)
def jZ(n:xQ):(qy n).cells=qC n:=rfl
def kV(n:xQ):(qC n).length=2:=rfl
def Qs(l:List xQ):wid (l.map qy) 2=True:=pr qy _ (fun _=>rfl) l
def BM(n:xQ):List.take 2 (qC n)=qC n:=rfl
def Xc(n:xQ):List.map ag.shut (qC n)=qC n:=rfl
def cj(l:List lk):Cls:=Hs.fN (l.map uG)
def nr(l:List lk)(x:lk):cj (l++[x])=Hs.ij (cj l) (uG x):=by
 unfold cj; rw[aW]; exact Hs.kS _ _
structure aiC(l:List lk):Prop where
 len:l.length<=1000
 hd:∀x,l[0]?=some x->x.kind=1
 cl:∀x,x∈l->0<=x.bA
def Su:∀(l:List (Hs.Ev jF vU)) (t:Cls),(l.foldl Hs.ij t).n=t.n+l.length
 | [],t=>rfl
 |x::r,t=>by
  rw[cF,Su r,au];unfold Hs.ij;split<;>simp<;>omega
def vt(l:List lk):(cj l).n=l.length:=by
 unfold cj Hs.fN; rw[Su]; simp
def FG:∀(l:List (Hs.Ev jF vU)) (t:Cls),(∀c,t.last c<t.cs.length)->∀c,(l.foldl Hs.ij t).last c<(l.foldl Hs.ij t).cs.length
 | [],t,h=>h
 |x::r,t,h=>by
  rw[cF];refine FG r _ fun c=>?_
  have:=h c;unfold Hs.ij;split
  ·simp only[aA,au,aw];split<;>omega
  ·simpa using this
def Zj{l:List lk}(h:∀x,l[0]?=some x->x.kind=1)(h0:l≠[])(c:Nat):(cj l).last c<(cj l).cs.length:=by
 cases l with
 |nil=>exact absurd rfl h0
 |cons x r =>
  have hk:=h x rfl;unfold cj Hs.fN;rw[aF,cF];refine FG _ _ (fun c=>?_) c
  unfold Hs.ij uG;simp[hk]
def Ij{l:List lk}{i:Nat}{x:lk}(h:l[i]?=some x):cj (l.take (i+1))=Hs.ij (cj (l.take i)) (uG x):=by
 rw[cB,h,kJ,nr]
def amU(o:Option Int):po (aH 0) false (o.map (ag.int .i64)) = aH (o.getD 0):=by cases o<;>rfl
def I2:∀(l:List (Hs.Ev jF vU)) (t:Cls),(l.foldl Hs.ij t).cs.length<=t.cs.length+l.length
 | [],t=>dv
 |x::r,t=>by
  rw[cF,au];refine aZ (I2 r _) ?_;unfold Hs.ij;split<;>simp<;>omega
def KO(l:List lk):(cj l).cs.length<=l.length:=by
 have:=I2 (l.map uG) ⟨0,[],fun _=>0⟩
 simpa[cj,Hs.fN] using this
def akB(B:Nat)(M:aC)(m:AM Int):List.map (ag.jY B M) (ph (ag.int .i64) m)=ph (ag.int .i64) m:=by
 unfold ph; rw[gH]; rfl
def ae4{cs:List xQ}{k n:Nat}{o:vU}(h:k<cs.length):List.set (cs.map qy) k (.agg [aH (cs[k]).b,aH (n:Int)])=(cs.modify k fun c=>{ c with e:=some n,lg:=o }).map qy:=by
 refine ct fun i=>?_
 rw[aY,fP,fJ]
 by_cases hi:k=i
 ·subst hi;simp[h,qy,qC,wg]
 ·simp[hi]
section
attribute [local irreducible] eX fM lC gK dX kr aq aU cr bJ
def c30{l:List lk}(h:aiC l):aq bW 30 [vw l] []=some (gU ((cj l).cs.map qy),[]):=by
 refine aB ?_;have hn:=h.len;simp only[afc,E30,EW,seval]
 refine qL (xs:=l) aI (fun i (s:List xQ×AM Int×Nat)=>s.1=(cj (l.take i)).cs/\∀c,0<=c->(eY s.2.1 c).getD 0=((cj (l.take i)).last c.toNat:Int)) (fun _ _=>()) (fun s i=>[(3,.cz 0 s.2.2 2 0 s.1.length),(4,.iy 1),(8,vw l),(9,aH l.length),(10,aH i)])
  (fun s=>[.arr 2 s.2.2 (s.1.map qy),.map (B1 s.2.1) (ph (ag.int .i64) s.2.1)]) (fun _=>some (gU ((cj l).cs.map qy),[])) (fun s hs=>?_) (fun pre x post s e hx cL hw h0 hm hs hi=>?_) ([],[],0) ⟨rfl,fun c _=>rfl⟩
 ·have hs1:=hs.1;rw[bF] at hs1;simp only[E30,bu,hs1,oe,EW,seval]
  done
 ·obtain⟨cs,m,v⟩:=s;obtain⟨hs1,hs2⟩:=hs;simp only at hs1 hs2;have dD:cs.length<=pre.length:=by rw[hs1]; exact aZ (KO _) (by rw[cp]; exact Nat.min_le_left _ _)
  have hpl:pre.length<l.length:=(aj.1 hx).1;have hne:cs.length-0=cs.length:=rfl;have r1:cq (cs.length+1) 16=True:=qM;have hck:=h.cl x hm;have hnx:=Ij hx;have wl:=Qs cs;cases hk:x.kind==1
  ·have hj:=hs2 x.bA hck
   have h0l:l.take pre.length≠[]:=by
    intro e
    have hp:pre.length=0:=by
     rcases List.take_eq_nil_iff.1 e with h1|h1
     ·exact h1
     ·rw[h1] at hpl; simp at hpl
    have:=h.hd x (by rw[<-hp]; exact hx)
    rw[this] at hk; cases hk
   have hlast:(cj (l.take pre.length)).last x.bA.toNat<cs.length:=by
    rw[hs1]
    exact Zj (fun y hy=>h.hd y (by
     rw[fx] at hy;split at hy
     ·exact hy
     ·cases hy)) h0l _
   have i1:=hi (cs.modify ((cj (l.take pre.length)).last x.bA.toNat) fun c=>{ c with e:=some pre.length,lg:=x.lg },m,v) (by
    rw[hnx];unfold Hs.ij uG;simp only[hk,af,aD];rw[vt,hs1,cp,iv aI];exact⟨rfl,hs2⟩)
   simp only[<-ae4 (n:=pre.length) (o:=x.lg) hlast,jy] at i1;generalize (cj (l.take pre.length)).last x.bA.toNat=q at hj hlast i1;have hq:((q:Int)<(cs.length:Int))=True:=sk;have hg:(cs.map qy)[q]?=some (qy cs[q]):=by rw[aY,ai hlast]; rfl
   simp only[E30,cL,hx,hw,hne,akB,hq,hg,nV,hk,mapOf.eq_1,pa,amU,hj,qy,qC,CC,EW,seval];rw[fe];exact i1
  ·have i1:=hi (cs++[⟨pre.length,none,x.op,x.lg⟩],kL m x.bA cs.length,v+1) (by
    rw[hnx];unfold Hs.ij uG;simp only[hk,aE];rw[vt,hs1,cp,iv aI];refine⟨rfl,fun c hc=>?_⟩
    rw[jA];split
    ·rename_i e; subst e; simp
    ·rename_i e;rw[aL aI];exact hs2 c hc)
   simp only[aW,aF,aR,aA,au,aw,aJ,qy,qC,wg] at i1;simp only[E30,cL,hx,hw,hne,akB,nV,hk,r1,wl,sF,oe,CC,EW,seval];exact i1
end
end Go.Proofs.YteoamaffclmdbaaGreatDoor
namespace Go.Abs
open Go
def bitsOf(p:Nat->Bool):Nat->Nat
 |0=>0
 |n+1=>bitsOf p n ||| (if p n then 2 ^ n else 0)
def vp(p:Nat->Bool):∀n k,(bitsOf p n).testBit k=(decide (k<n)&&p k)
 |0,k=>by simp[bitsOf]
 |n+1,k=>by
  rw[bitsOf,ni,vp p n k]
  by_cases hk:k=n
  ·subst hk;cases hp:p k<;>simp[Nat.testBit_two_pow_self]
  ·have h1:(if p n then 2 ^ n else 0).testBit k=false:=by
    split
    ·rw[oQ]; simp; omega
    ·simp
   rw[h1,fE];have:(decide (k<n+1))=decide (k<n):=by simp only[decide_eq_decide]; omega
   rw[this]
def Yu(p:Nat->Bool)(n:Nat):bitsOf p n<2 ^ n:=by
 refine Nat.lt_pow_two_of_testBit _ fun i hi=>?_
 rw[vp];simp; omega
def xY(p:Nat->Bool){n:Nat}(h:n<=64):bitsOf p n<2 ^ 64:=bz (Yu p n) (Nat.pow_le_pow_right aI h)
def jh:List Nat->Nat
 | []=>0
 |k::r=>2 ^ k ||| jh r
def n9:∀(l:List Nat)(k:Nat),(jh l).testBit k=l.contains k
 | [],k=>by simp[jh]
 |x::r,k=>by
  rw[jh,ni,n9 r k,oQ,List.contains_cons];congr 1;rw[cE,bj,eu];exact⟨Eq.symm,Eq.symm⟩
def aaI{l:List Nat}(h:∀k,k∈l->k<64):jh l<2 ^ 64:=by
 refine Nat.lt_pow_two_of_testBit _ fun i hi=>?_
 rw[n9,<-Bool.not_eq_true];intro hc;have:=h i (jB.1 hc);omega
def PI(l:List Nat)(i:Nat):jh l ||| 2 ^ i=jh (l++[i]):=by
 refine nU fun k=>?_
 rw[ni,n9,n9,oQ];rw[cE,jB,cS,jB,bj,bo,bQ];exact⟨fun h=>h.imp id Eq.symm,fun h=>h.imp id Eq.symm⟩
def V0{a b:List Nat}(h:jh a=jh b)(k:Nat):k∈a↔k∈b:=by
 rw[<-jB,<-jB,<-n9,<-n9,h]
def N7{n:Nat}(h:n<2 ^ 64):IntKind.u64.wrap (n:Int)=n:=by
 have:(n:Int) % (2 ^ IntKind.u64.bits:Int)=n:=Int.emod_eq_of_lt aI (by simp only[IntKind.bits]; omega)
 simp[IntKind.wrap,this,IntKind.signed]
def tL{n:Nat}(h:n<2 ^ 64):(BitVec.ofInt IntKind.u64.bits (n:Int)).toNat=n:=by
 rw[BitVec.ofInt_natCast,BitVec.toNat_ofNat];exact nL h
def SC{m n:Nat}(hm:m<2 ^ 64)(hn:n<2 ^ 64):DV .u64 (m:Int) (n:Int)=((m &&& n:Nat):Int):=by
 unfold DV;rw[BitVec.toNat_and,tL hm,tL hn];exact N7 (Nat.and_lt_two_pow _ hn)
def SO{m n:Nat}(hm:m<2 ^ 64)(hn:n<2 ^ 64):ior .u64 (m:Int) (n:Int)=((m ||| n:Nat):Int):=by
 unfold ior;rw[BitVec.toNat_or,tL hm,tL hn];exact N7 (Nat.or_lt_two_pow hm hn)
def KN(m n:Nat):Nat:=m &&& (2 ^ 64-1-n)
def afo{m n:Nat}(hm:m<2 ^ 64)(hn:n<2 ^ 64):Hf .u64 (m:Int) (n:Int)=(KN m n:Int):=by
 unfold Hf KN;rw[BitVec.toNat_and,tL hm,BitVec.toNat_not,tL hn];refine(N7 (Nat.lt_of_le_of_lt Nat.and_le_left hm)).trans ?_;rfl
def Rb{m x:Nat}(hm:m<2 ^ 64)(hx:x<2 ^ 64):(KN m x=0)↔∀k,m.testBit k=true->x.testBit k=true:=by
 have ht:∀k,(KN m x).testBit k=(m.testBit k&&(decide (k<64) && !x.testBit k)):=by
  intro k;unfold KN;rw[Nat.testBit_and,show 2 ^ 64-1-x=2 ^ 64-(x+1) by omega,Nat.testBit_two_pow_sub_succ hx]
 have cL:∀k,m.testBit k=true->k<64:=fun k hk=>by
  refine Nat.lt_of_not_le fun h=>?_
  have:=Nat.testBit_lt_two_pow (bz hm (Nat.pow_le_pow_right aI h));rw[this] at hk; cases hk
 constructor
 ·intro h k hk;have:=ht k;rw[h,Nat.zero_testBit] at this;simpa[hk,cL k hk] using this
 ·intro h;refine nU fun k=>?_
  rw[ht,Nat.zero_testBit];cases hk:m.testBit k
  ·rfl
  ·simp[h k hk]
def Xe{k:Nat}(hk:k<64):IntKind.u64.wrap ((1:Int)*2 ^ (min (k:Int).toNat IntKind.u64.bits))=((2 ^ k:Nat):Int):=by
 have e:min (k:Int).toNat IntKind.u64.bits=k:=by simp only[eL,IntKind.bits]; omega
 rw[e];have:=N7 (n:=2 ^ k) (lI aI hk);rw[<-this]; congr 1; simp
def Xf{m k:Nat}(hk:k<64):(m:Int).fdiv (2 ^ (min (k:Int).toNat IntKind.u64.bits))=((m >>> k:Nat):Int):=by
 have e:min (k:Int).toNat IntKind.u64.bits=k:=by simp only[eL,IntKind.bits]; omega
 rw[e,Nat.shiftRight_eq_div_pow];rw[Int.fdiv_eq_ediv_of_nonneg _ (Int.pow_nonneg mr)];simp
def aky{m k:Nat}(hm:m<2 ^ 64):(DV .u64 ((m >>> k:Nat):Int) 1==1)=m.testBit k:=by
 have h1:m >>> k<2 ^ 64:=by rw[Nat.shiftRight_eq_div_pow]; exact Nat.lt_of_le_of_lt (Nat.div_le_self _ _) hm
 have:=SC (n:=1) h1 mr;have e:((1:Nat):Int)=1:=rfl;rw[e] at this;rw[this,Nat.testBit,Nat.and_comm];have h2:1 &&& (m >>> k)<=1:=Nat.and_le_left;generalize 1 &&& (m >>> k)=z at h2
 match z,h2 with
 |0,_=>rfl
 |1,_=>rfl
def Yf{m x:Nat}:(x &&& m=m)↔∀k,m.testBit k=true->x.testBit k=true:=by
 constructor
 ·intro h k hk;have:(x &&& m).testBit k=true:=by rw[h]; exact hk
  rw[Nat.testBit_and] at this;simp only[bt] at this;exact this.1
 ·intro h;refine nU fun k=>?_
  rw[Nat.testBit_and];cases hk:m.testBit k
  ·simp
  ·simp[h k hk]
end Go.Abs
namespace Go.Proofs.YteoamaffclmdbaaGreatDoor
open Go Go.Abs
inductive SB
 |cl (c:xQ)
 |fs (f:aa)
 |an (a:vU)
 |tk (k:Nat)
def B2:SB->cJ
 | .cl c => .cells (qC c)
 | .fs f => .cells (cg f)
 | .an a => .cells (dA a)
 | .tk k => .tick 10 k
section
variable {α:Type}
def eKu(l:AM α):List ag:=l.map fun p => .int .u64 p.1
def xv(enc:α->ag):∀(l:AM α)(k:Int),xu .i (.int .u64 k) (eKu l) (ph enc l)=some ((eY l k).map enc)
 | [],k=>rfl
 |(k',v)::l,k=>by
  show bJ (kC .i (.int .u64 k) (.int .u64 k')) (fun b=>Br b (some (some (enc v))) (xu .i (.int .u64 k) (eKu l) (ph enc l)))=_
  rw[xv enc l k];simp only[kC,↓reduceIte,bO,eY]
  by_cases h:k=k'
  ·rw[aX h,show(k==k')=true by simpa using h,vI]; rfl
  ·rw[aL h,show(k==k')=false by simpa using h,qq]
def Ea(enc:α->ag):∀(l:AM α)(k:Int)(v:α),xw .i (.int .u64 k) (enc v) (eKu l) (ph enc l)=some (eKu (kL l k v),ph enc (kL l k v))
 | [],k,v=>by
  show bJ (kC .i (.int .u64 k) (.int .u64 k)) (fun _=>some ([ag.int .u64 k],[enc v]))=_
  simp only[kC,↓reduceIte,bO];rfl
 |(k',v')::l,k,v=>by
  show bJ (kC .i (.int .u64 k) (.int .u64 k')) (fun b=>Br b (some (ag.int .u64 k::eKu l,enc v::ph enc l)) (bJ (xw .i (.int .u64 k) (enc v) (eKu l) (ph enc l)) fun x=>some (ag.int .u64 k'::x.1,enc v'::x.2)))=_
  rw[Ea enc l k v];simp only[kC,↓reduceIte,bO,kL]
  by_cases h:k=k'
  ·rw[aX h,show(k==k')=true by simpa using h,vI]; rfl
  ·rw[aL h,show(k==k')=false by simpa using h,qq]; rfl
end
abbrev SM:=AM (Nat×List aa)
def Lf(p:Nat×List aa):ag := .slice (.own p.1) (p.2.map O2)
structure C9(b:Nat)(m:SM)(r:List SB):Prop where
 at':∀g id l,eY m g=some (id,l)->∃i,id=b+i/\r[i]?=some (SB.tk l.length)
 ne:∀g g' id l l',eY m g=some (id,l)->eY m g'=some (id,l')->g=g'
 low:∀p,p∈m->p.2.1<b+r.length
def C9.nil(b:Nat)(r:List SB):C9 b [] r:=⟨fun _ _ _ h=>(by cases h),fun _ _ _ _ _ h=>(by cases h),fun _ h=>(by cases h)⟩
structure Kept(r r':List SB):Prop where
 len:r.length<=r'.length
 at':∀(i:Nat)(x:SB),r[i]?=some x->(∀n,x≠SB.tk n)->r'[i]?=some x
def Kept.rfl{r:List SB}:Kept r r:=⟨av _,fun _ _ h _=>h⟩
theorem Kept.trans{a b c:List SB}(h:Kept a b)(g:Kept b c):Kept a c:=⟨aZ h.len g.len,fun i x hx hn=>g.at' i x (h.at' i x hx hn) hn⟩
def Kept.app(r x:List SB):Kept r (r++x):=⟨dv,fun i y hy _=>by rw[aO (aj.1 hy).1]; exact hy⟩
def C9.app{b:Nat}{m:SM}{r:List SB}(h:C9 b m r)(x:List SB):C9 b m (r++x):=by
 refine⟨fun g id l hm=>?_,h.ne,fun p hp=>?_⟩
 ·obtain⟨i,h1,h2⟩:=h.at' g id l hm;refine⟨i,h1,?_⟩;rw[aO (aj.1 h2).1]; exact h2
 ·have:=h.low p hp;rw[aA]; omega
def Ee{α:Type}:∀ {m:AM α} {k:Int} {v:α} {p:Int×α},p∈kL m k v->p=(k,v)\/p∈m
 | [],k,v,p,h=>by simp[kL] at h; exact .inl h
 |(k',v')::m,k,v,p,h=>by
  simp only[kL] at h;split at h
  ·rcases bI.1 h with rfl|h
   ·exact .inl rfl
   ·exact .inr (bw _ h)
  ·rcases bI.1 h with rfl|h
   ·exact .inr bE
   ·exact(Ee h).imp id (bw _)
def C9.new{b:Nat}{m:SM}{r:List SB}(h:C9 b m r){g0:Int}(_hg:eY m g0=none)(f:aa):C9 b (kL m g0 (b+r.length,[f])) (r++[.tk 1]):=by
 have hfar:∀g id l,eY m g=some (id,l)->id≠b+r.length:=fun g id l hm e=>by
  obtain⟨i,h1,h2⟩:=h.at' g id l hm;have:=(aj.1 h2).1;omega
 refine⟨fun g id l hm=>?_,fun g g' id l l' hm hm'=>?_,fun p hp=>?_⟩
 ·simp only[jA] at hm;split at hm
  ·injection hm with hm; injection hm with h1 h2; subst h1; subst h2
   exact⟨r.length,_root_.rfl,dv⟩
  ·exact(h.app _).at' g id l hm
 ·simp only[jA] at hm hm';split at hm<;>split at hm'
  ·rename_i a b; rw[a,b]
  ·injection hm with hm; injection hm with h1 h2; subst h1
   exact absurd _root_.rfl (hfar _ _ _ hm')
  ·injection hm' with hm'; injection hm' with h1 h2; subst h1
   exact absurd _root_.rfl (hfar _ _ _ hm)
  ·exact h.ne _ _ _ _ _ hm hm'
 ·rcases Ee hp with rfl|hp
  ·simp
  ·exact(h.app _).low p hp
def C9.more{b:Nat}{m:SM}{r:List SB}(h:C9 b m r){g0:Int}{id0:Nat}{l0:List aa}(hg:eY m g0=some (id0,l0))(f:aa):C9 b (kL m g0 (id0,l0++[f])) (r.set (id0-b) (.tk (l0.length+1))):=by
 obtain⟨i0,e0,a0⟩:=h.at' _ _ _ hg;have hi0:=(aj.1 a0).1;have hsub:id0-b=i0:=aI;rw[hsub];refine⟨fun g id l hm=>?_,fun g g' id l l' hm hm'=>?_,fun p hp=>?_⟩
 ·simp only[jA] at hm;split at hm
  ·injection hm with hm; injection hm with h1 h2; subst h1; subst h2
   refine⟨i0,e0,?_⟩;rw[fa hi0]; simp
  ·rename_i hne;obtain⟨i,h1,h2⟩:=h.at' g id l hm;refine⟨i,h1,?_⟩;have:i≠i0:=fun e=>hne (h.ne _ _ id l l0 hm (by rw[hg,e0,h1,e]))
   rw[eJ aI]; exact h2
 ·simp only[jA] at hm hm';split at hm<;>split at hm'
  ·rename_i a b; rw[a,b]
  ·rename_i a b;injection hm with hm; injection hm with h1 h2; subst h1
   rw[a]; exact h.ne _ _ _ _ _ hg hm'
  ·rename_i a b;injection hm' with hm'; injection hm' with h1 h2; subst h1
   rw[b]; exact h.ne _ _ _ _ _ hm hg
  ·exact h.ne _ _ _ _ _ hm hm'
 ·rcases Ee hp with rfl|hp
  ·simp; omega
  ·simpa using h.low p hp
def Kept.set{r:List SB}{i k:Nat}(h:r[i]?=some (SB.tk k))(k':Nat):Kept r (r.set i (.tk k')):=by
 refine⟨dv,fun j x hx hn=>?_⟩
 have:i≠j:=by
  intro e;subst e;rw[h] at hx; injection hx with hx
  exact hn k hx.symm
 rw[eJ this]; exact hx
def LR(m:SM)(lost:Hs.uE aa):Prop:=∀k:Nat,((eY m (k:Int)).map Prod.snd).getD []=(lost.filter fun p=>p.1==k).map Prod.snd
def Mt(k:Nat)(f:aa):∀lost:Hs.uE aa,lost.any (fun p=>p.1==k&&decide (p.2=f))=((lost.filter fun p=>p.1==k).map Prod.snd).any fun g=>decide (f=g)
 | []=>rfl
 |p::r=>by
  rw[jS,eZ,Mt k f r];cases hk:p.1==k
  ·simp only[dW,cT,af,aD]
  ·simp only[dZ,aE,aF,jS];rw[decide_eq_decide.2 (show p.2=f↔f=p.2 from⟨Eq.symm,Eq.symm⟩)]
def LR.any{m:SM}{lost:Hs.uE aa}(h:LR m lost)(k:Nat)(f:aa):lost.any (fun p=>p.1==k&&decide (p.2=f))=(((eY m (k:Int)).map Prod.snd).getD []).any fun g=>decide (f=g):=by
 rw[h k]; exact Mt k f lost
def LR.add{m:SM}{lost:Hs.uE aa}(h:LR m lost)(k:Nat)(f:aa)(id:Nat):LR (kL m (k:Int) (id,((eY m (k:Int)).map Prod.snd).getD []++[f])) (lost++[(k,f)]):=by
 intro j;rw[iK,aW,<-h j,jA]
 by_cases hj:j=k
 ·subst hj; simp
 ·have h1:¬(j:Int)=(k:Int):=aI;have h2:(k==j)=false:=gm;rw[aL h1]; simp[h2]
def RB(B:Nat)(M:aC)(r:List SB):(r.map B2).map (cJ.back B M)=r.map B2:=by
 rw[gH];refine cX fun x _=>?_
 cases x<;>rfl
def apw{m:SM}{B:Nat}(h:∀p,p∈m->p.2.1<B)(M:aC):List.map (ag.jY B M) (ph Lf m)=ph Lf m:=by
 unfold ph;rw[gH];refine cX fun p hp=>?_
 show ag.jY B M (Lf p.2)=Lf p.2
 simp only[Lf,ag.jY,ag.jX,ag.jC,h p hp,aE]
def CP:vU:=⟨0,0,0,0,0,[],[]⟩
def Ki:jF:=⟨0,0,[],[],0,0,0,[]⟩
abbrev AL(c:Int)(o:jF):lk:=⟨1,c,{ o with bA:=c },CP⟩
abbrev CL(c:Int)(a:vU):lk:=⟨2,c,Ki,a⟩
def wq:List lk->List Bool->Bool
 | [],_=>true
 |x::r,s =>
  if decide (x.bA<0)||decide (16<=x.bA) then false
  else if (!(x.kind==1)&&x.kind != 2)||((x.kind==1)==(s[x.bA.toNat]?).getD false)||((x.kind==1)&&x.op.bA != x.bA) then false
  else wq r (s.set x.bA.toNat (x.kind==1))
def zo(l:List lk):Bool:=if 64<l.length then false else wq l (List.replicate 16 false)
def bqt:(false==true)=false:=rfl
def bqu:(true==false)=false:=rfl
def bqv:(true==true)=true:=rfl
def bqw:(false==false)=true:=rfl
def apu(B:Nat)(M:aC)(s:List Bool):List.map (ag.jX B M) (s.map ag.bool)=s.map ag.bool:=by rw[gH]; rfl
def WL(s:List Bool)(i:Nat)(b:Bool)(h:i<s.length):List.take i (s.map ag.bool)++ag.bool b::List.drop (i+1) (s.map ag.bool)=(s.set i b).map ag.bool:=by
 rw[gj,ju,aX (by simpa using h)]
def V9(s:List Bool)(i:Nat)(b:Bool)(h:s[i]?=some b):nth (s.map ag.bool) i=some (.bool b):=by rw[fc,aY,h]; rfl
section
attribute [local irreducible] eX fM lC gK dX kr aq aU cr bJ
def c22(c:Int)(o:jF):aq bW 22 [aH c,.agg (eW o)] []=some (tq (AL c o),[]):=by
 refine aB ?_;simp only[alf,E22,eW,tq,nV,EW,seval];rfl
def c23(c:Int)(a:vU):aq bW 23 [aH c,.agg (dA a)] []=some (tq (CL c a),[]):=by
 refine aB ?_;simp only[alg,E23,dA,tq,nV,EW,seval];rfl
def c11(l:List lk)(hl:l.length<=100000):aq bW 11 [vw l] []=some (.bool (zo l),[]):=by
 refine aB ?_;unfold zo
 by_cases h6:64<l.length
 ·have h7:((64:Int)<(l.length:Int))=True:=sk;simp only[afa,E11,h6,h7,aE,CC,EW,seval]
  done
 ·have h7:((64:Int)<(l.length:Int))=False:=XQ;simp only[afa,E11,h6,h7,aD,af,CC,EW,seval];refine qL (xs:=l) aI (fun _ s=>s.length=16) (fun r (s:List Bool)=>wq r s) (fun _ i=>[(3,cu 0),(10,vw l),(11,aH l.length),(12,aH i)]) (fun s=>[cv (s.map ag.bool)]) (fun b=>some (ag.bool b,([]:aC))) (fun s hs=>?_) (fun pre x post s h hx cL hw h0 hm hs hi=>?_) (List.replicate 16 false) rfl
  ·simp only[E11,bu,wq,CC,EW,seval]
   done
  ·rw[wq];cases c1:decide (x.bA<0)
   ·cases c2:decide (16<=x.bA)
    ·have d1:0<=x.bA:=by simpa using c1
     have d2:x.bA<16:=by simpa using c2
     obtain⟨b,hb⟩:∃b,s[x.bA.toNat]?=some b:=⟨_,ai aI⟩;have hn:=V9 s _ b hb;have p1:(0<=x.bA)=True:=eq_true d1;have p2:(x.bA<16)=True:=eq_true d2;have p4:x.bA.toNat<s.length:=aI;have p3:(x.bA.toNat+1<=s.length)=True:=eq_true p4;have i1:=hi (s.set x.bA.toNat (x.kind==1)) (by simpa using hs)
     cases k1:x.kind==1<;>cases k2:x.kind==2<;>cases b<;>cases k3:x.op.bA==x.bA<;>rw[k1] at i1<;>simp only[E11,cL,hx,hw,nV,c1,c2,k1,k2,k3,hb,hn,p1,p2,bqt,bqu,bqv,bqw,p3,apu,aE,WL _ _ _ p4,pP,bne,bm,CC,EW,seval]
     all_goals first|rfl|exact i1|skip
    ·simp only[E11,cL,hx,hw,nV,c1,c2,er,aE,CC,EW,seval]
   ·simp only[E11,cL,hx,hw,nV,c1,dJ,aE,CC,EW,seval]
    done
end
end Go.Proofs.YteoamaffclmdbaaGreatDoor
namespace Go.Abs
open Go
def Yz{C:eR}{f p:Nat}{vs:List ag}{q q' r:ag}{M:aC}{cs:List ag}(hq:q.ids=[p])(hqf:q.flat=true)(hqr:q.pq (iw [p])=q')(hM:nth M p=some (.cells cs))(h:C f (vs++[q']) [.cells cs]=some (r,[.cells cs]))(h1:vs.all ag.flat=true)(h2:vs.flatMap ag.ids=[])(h3:r.wH=true)
  (h4:vs.map (ag.pq (iw [p]))=vs) (h5:r.Ar (wD [p])=r) (h6:cs.all ag.vA=true) (h7:cs.flatMap ag.nJ=[]) (h8:cs.map (ag.sf (iw [p]))=cs) (h10:cs.map (ag.sf (wD [p]))=cs) :
  aU C f (vs++[q]) M=some (r,M):=by
 have hids:(vs++[q]).flatMap ag.ids=[p]:=by simp[hq,h2]
 have hi:qz M [p]=[]:=by simp_all [qz,cJ.ids]
 have e0:kD M [p]=[p]:=by simp[kD,hi,kc]
 have e1:reach M [p]=[p]:=by
  have ea:kc [] [p]=[p]:=rfl;simp only[reach,ea,e0]
 have hfl:(vs++[q]).all ag.flat=true:=by rw[oM,h1]; simp[hqf]
 have hmp:(vs++[q]).map (ag.pq (iw [p]))=vs++[q']:=by rw[aW,h4]; simp[hqr]
 have hpk:j5 M (iw [p]) [p]=some [.cells cs]:=by simp[j5,hM,cJ.pq,h8,bO,show(cJ.cells cs).flat=true from h6]
 refine ly (ids:=[p]) hfl (by rw[hids]; exact e1) hpk e0 hmp h rfl h3 (by simp only[kN,List.all_nil,gG]; exact h6) h5 ?_
 have hren:(cJ.cells cs).pq (wD [p]) = .cells cs:=by rw[cJ.pq,h10]
 simp[mh,hren,uV hM]
end Go.Abs
namespace Go.Proofs.YteoamaffclmdbaaGreatDoor
open Go Go.Abs
def ahu(f:aa):j5 [cv (cg f)] (iw [0]) [0]=some [cv (cg f)]:=rfl
section
attribute [local irreducible] eX fM lC gK dX kr aq aU cr bJ
def c33(f g:aa)(hf:vk f):aq bW 33 [.agg (cg g),cu 0] [cv (cg f)]=some (.bool (decide (f=g)),[cv (cg f)]):=by
 refine aB ?_;have q:=fun M=>cO (c34 f g hf) M
 simp only[cg] at q;simp only[alu,E33,cg,q,EW,seval]
def c54(xs:List aa)(f:aa)(hf:vk f)(hn:xs.length<=900000):aq bW 54 [gU (xs.map O2),.func 33 [cu 0]] [cv (cg f)]=some (aH (qD (fun g:aa=>decide (f=g)) xs 0),[cv (cg f)]) :=
 DL (sz:=10) (e:=cg) fy rfl hn (fun _=>rfl) (fun _=>rfl) rfl rfl fun x _ => .inl ⟨_,_,rfl,uK (p:=0) (vs:=[.agg (cg x)]) rfl (c33 f x hf) rfl rfl rfl rfl rfl rfl rfl rfl rfl⟩
def c32(xs:List aa)(f:aa)(hf:vk f)(hn:xs.length<=900000):aq bW 32 [gU (xs.map O2),.func 33 [cu 0]] [cv (cg f)]=some (.bool (xs.any fun g=>decide (f=g)),[cv (cg f)]):=by
 refine aB ?_;have hk:aU (aq bW) 54 [gU (xs.map O2),.func 33 [cu 0]] _=some (aH _,[cv (cg f)]):=ly (ids:=[0]) rfl rfl (ahu f) rfl rfl (c54 xs f hf hn) rfl rfl rfl rfl rfl;simp only[als,E32,hk,xj,EW,seval];rfl
def k32(xs:List aa)(f:aa)(hf:vk f)(hn:xs.length<=900000){M:aC}{p:Nat}(hM:nth M p=some (cv (cg f))):aU (aq bW) 32 [gU (xs.map O2),.func 33 [cu p]] M=some (.bool (xs.any fun g=>decide (f=g)),M) :=
 Yz (p:=p) (vs:=[gU (xs.map O2)]) (q' := .func 33 [cu 0]) rfl rfl (by simp[ag.pq,ag.sf,ag.ur,iw]) hM (c32 xs f hf hn) rfl rfl rfl rfl rfl rfl rfl rfl rfl
end
end Go.Proofs.YteoamaffclmdbaaGreatDoor
namespace Go.Abs
open Go
variable [kH]
noncomputable def JL(C:eR)(fn:eH)(args:List ag)(M:aC):Option (ag×aC) :=
 if args.length=fn.nparams then bJ (eO C fn.body (eG 0 args) M) fun o=>bJ (finish fn.results o.mem.length o) fun x=>if M.length<=o.mem.length/\o.mem.length<=x.2.length then some x else none else none
def LF{P:Program}{C:eR}(hmix:P.follows .mixedOrders=true)(hC:nP P C){f:Nat}{fn:eH}{A:Cz}{func:Func}(hf:P.funcs[f]?=some func)(hc:pg P A func=some fn){args:List ag}{M:aC}{x:ag×aC}
  (h:JL C fn args M=some x):dh P f args M x:=by
 unfold JL at h;split at h
 ·rename_i hl;obtain⟨o,ho,h⟩:=bp h;obtain⟨y,hy,h⟩:=bp h;split at h
  ·rename_i dD;cases h;exact(A6 hmix hC hf hc dD.1 (.inr dD.2) hl (by rw[ho]; exact hy)).2
  ·cases h
 ·cases h
def Zd{C:eR}{fn:eH}{args:List ag}{M M':aC}{v:ag}(hl:args.length=fn.nparams)(h:∀B,eX C fn.results B [] fn.body (eG 0 args) M=some (v.lK B M',iT B M'))(hM:M.length<=M'.length) :
  JL C fn args M=some (v.lK M'.length M',iT M'.length M'):=by
 unfold JL;rw[aX hl];cases ha:eO C fn.body (eG 0 args) M with
 |none=>have:=h 0; unfold eX at this; rw[ha] at this; cases this
 |some o =>
  have h':∀B,finish fn.results B o=some (v.lK B M',iT B M'):=fun B=>by
   have:=h B;unfold eX at this;rw[ha] at this;exact this
  have dD:o.mem.length=M'.length:=by
   have e:=h' (o.mem.length+M'.length);have e2:(finish fn.results (o.mem.length+M'.length) o)=some (v.lK (o.mem.length+M'.length) M',iT (o.mem.length+M'.length) M'):=e;unfold finish at e2
   have hb:∀M2:aC,M2.length<=o.mem.length+M'.length->(iT (o.mem.length+M'.length) M2).length=M2.length:=fun M2 h2=>by
    unfold iT; rw[ef,cp]; omega
   split at e2
   ·cases e2
   ·injection e2 with e2
    have:=congrArg (fun x:ag×aC=>x.2.length) e2
    simp only at this;rw[hb _ aI,hb _ aI] at this; exact this
   ·obtain⟨l,_,e2⟩:=bp e2;injection e2 with e2
    have:=congrArg (fun x:ag×aC=>x.2.length) e2
    simp only at this;rw[hb _ aI,hb _ aI] at this; exact this
  rw[bO,dD,h',bO,aX ⟨hM,by unfold iT; rw[ef,cp]; omega⟩]
end Go.Abs
namespace Go.Proofs.YteoamaffclmdbaaGreatDoor
open Go Go.Abs
noncomputable def gT:Nat->List ag->aC->Option (ag×aC)
 |0=>fun _ _=>none
 |n+1=>JL (aq (mi Fi 31 (gT n))) afd
noncomputable def rQ(n:Nat):zB:=mi Fi 31 (gT n)
def Sv:∀n,vn Tryz.prog (rQ n)/\∀ {args:List ag} {M:aC} {x:ag×aC},gT n args M=some x->dh Tryz.prog 31 args M x
 |0=>⟨p7 N0 fy (fun h=>by cases h),fun h=>by cases h⟩
 |n+1=>by
  have ih:=(Sv n).1
  have key:∀ {args:List ag} {M:aC} {x:ag×aC},gT (n+1) args M=some x->dh Tryz.prog 31 args M x:=fun h =>
   LF fy (qU fy ih) (f:=31) func31 atE h
  exact⟨p7 N0 fy key,key⟩
def Xk(n:Nat):nP Tryz.prog (aq (rQ n)):=qU fy (Sv n).1
def lT'{n f:Nat}{a:List ag}{M:aC}{x:ag×aC}(h:aq Fi f a M=some x):aq (rQ n) f a M=some x:=rb rfl rfl h
def lT{n f:Nat}{vs:List ag}{M:aC}{x:ag×aC}(h:aU (aq Fi) f vs M=some x):aU (aq (rQ n)) f vs M=some x:=by
 obtain⟨a,B,y,h1,h2⟩:=pR h;exact h2 _ (lT' h1)
def Kc{n:Nat}{a:List ag}{M:aC}{x:ag×aC}(h:gT n a M=some x):aq (rQ n) 31 a M=some x:=fg (g:=gT n) rfl h
end Go.Proofs.YteoamaffclmdbaaGreatDoor
namespace Go.Abs
open Go
def D6{C:eR}{fn:List sP}{bS:Nat}{bq:Env}{M:aC}:∀(k:List K),kr C fn bS k ⟨.ret,bq,M⟩=finish fn bS ⟨.ret,bq,M⟩
 | []=>rfl
 | .seq _::k=>D6 k
 | .block _::k=>D6 k
 | .loop _ _ _::k=>D6 k
 | .nI _ _::k=>D6 k
end Go.Abs
namespace Go.Proofs.YteoamaffclmdbaaGreatDoor
open Go Go.Abs
abbrev xM(n:Nat):ag := .int .u64 n
abbrev mS(n:Nat):ag := .int .i64 n
structure TS where
 m:SM
 r:List SB
 ov:Nat
 ox:List Nat
 k:Nat
def yx:List ag:=[.ptr 3 0,.ptr 7 0,.ptr 2 0,.ptr 5 0,.ptr 1 0,.ptr 9 0,.ptr 10 0]
structure Bs where
 f0:aa
 l:List lk
 cs:List xQ
 E:Nat
 rv:Nat
 rd:List Nat
def mf(b:Bs)(s:TS):aC :=
 .cells (cg b.f0) :: .cells [vw b.l] :: .cells [.slice .sh (b.cs.map qy)] :: .cells [xM b.E] :: .arr 1 b.rv (b.rd.map xM) :: .cells [.cz 4 b.rv 1 0 b.rd.length] :: .map (eKu s.m) (ph Lf s.m) :: .cells [.iy 6] :: .arr 1 s.ov (s.ox.map mS) :: .cells [.cz 8 s.ov 1 0 s.k] ::
  .cells [.func 31 yx]::s.r.map B2
def z8(b:Bs)(s:TS):(mf b s).length=s.r.length+11:=by simp[mf]
def KM(b:Bs){s:TS}(h:C9 11 s.m s.r){n:Nat}(hl:n=s.r.length+11)(M:aC):List.map (cJ.back n M) (mf b s)=mf b s:=by
 have e1:∀i,i<11->(i<n)=True:=fun i hi=>by simp only[fG,ja]; omega
 have e2:List.map (ag.jY n M) (ph Lf s.m)=ph Lf s.m:=apw (fun p hp=>by have:=h.low p hp; omega) M
 unfold mf;simp only[aF,RB,cJ.back,e2,cg,aR,ag.jX,ag.jC,yx,e1 0 aI,e1 1 aI,e1 2 aI,e1 3 aI,e1 5 aI,e1 7 aI,e1 9 aI,e1 10 aI,e1 4 aI,e1 6 aI,e1 8 aI,aE,ba,ua,r8,kj,fH,cN]
def Fu(b:Bs){s:TS}(h:C9 11 s.m s.r):iT (mf b s).length (mf b s)=mf b s:=by
 unfold iT;rw[bF];exact KM b h (z8 b s) _
def CI(B:Nat)(b:Bool)(M:aC):Option (ag×aC):=some ((ag.bool b).lK B M,iT B M)
section
attribute [local irreducible] eX fM lC gK dX kr aq aU cr bJ
def ahG{C:eR}{B:Nat}{k:List K}{bq:Env}{M:aC}{b:Bool}:eX C [.tmp 11] B k (.seq (.region [ob 11 (.mv (.tc (.bool b)))] false [11]) .ret) bq M=kr C [.tmp 11] B k ⟨.ret,[(11,.bool b)],M⟩:=by
 simp only[EW,seval]
end
def NR{C:eR}{B:Nat}{k:List K}{c:cA}{bq:Env}{M:aC}{b:Bool}(hc:c = .seq (.region [ob 11 (.mv (.tc (.bool b)))] false [11]) .ret):eX C [.tmp 11] B k c bq M=CI B b M:=by
 subst hc;rw[ahG,D6];rfl
noncomputable def Xq(n B:Nat)(k:List K)(bq:Env)(M:aC):Option (ag×aC):=eX (aq (rQ n)) [.tmp 11] B k (sub Kk 58) bq M
def Nw:List Nat:=[1,3,5,6,7,8,9,26,27,28]
def AY(b:Bs)(mask P j:Nat):Env:=[(1,xM mask),(3,.ptr 7 0),(5,.ptr 5 0),(6,.ptr 1 0),(7,.ptr 9 0),(8,.ptr 10 0),(9,.ptr P 0),(26,.slice .sh (b.cs.map qy)),(27,.int .i64 b.cs.length),(28,mS j)]
noncomputable def qY(n B:Nat)(b:Bs)(mask P j:Nat)(M:aC):Option (ag×aC):=eX (aq (rQ n)) [.tmp 11] B [.block 0,.seq (sub Kk 59)] (.nI Nw (sub Kk 23)) (AY b mask P j) M
section
attribute [local irreducible] eX fM lC gK dX kr aq aU cr bJ
def BA{n B:Nat}{b:Bs}{mask P j:Nat}{s:TS}(hj:j<1000)(h:C9 11 s.m s.r)(hP:P<11+s.r.length){bq:Env}(he:jq bq Nw=AY b mask P j) :
  Xq n B [.nI Nw (sub Kk 23),.block 0,.seq (sub Kk 59)] bq (mf b s)=qY n B b mask P (j+1) (mf b s):=by
 have hb:=Fu b h;have hl:=z8 b s;simp only[jq,Nw,AY,aF,aR,kO,iE,true_and,pQ] at he;obtain⟨g1,g3,g5,g6,g7,g8,g9,g26,g27,g28⟩:=he;unfold Xq qY AY Nw;generalize mf b s=M at hb hl;have e1:∀i,i<11->(i<M.length)=True:=fun i hi=>by simp only[fG,ja]; omega
 have e2:(P<M.length)=True:=sk;have e3:IntKind.i64.wrap ((j:Int)+1)=((j+1:Nat):Int):=by rw[gw aI aI]; rfl
 have e9:=e1 9 aI;have e10:=e1 10 aI;have e7:=e1 7 aI;have e5:=e1 5 aI;have e01:=e1 1 aI;simp only[Oj,↓hb,g1,g3,g5,g6,g7,g8,g9,g26,g27,g28,e3,e2,e9,e10,e7,e5,e01,EW,seval]
end
end Go.Proofs.YteoamaffclmdbaaGreatDoor
namespace Go.Proofs.YteoamaffclmdbaaGreatDoor
open Go Go.Abs
def ko(f:aa):(cg f).length=10:=rfl
def wy(f:aa):List.take 10 (cg f)=cg f:=rfl
def AQ(f:aa):List.drop 10 (cg f)=[]:=rfl
def vg(f:aa):List.map ag.shut (cg f)=cg f:=rfl
def La(c:xQ):List.drop 2 (qC c)=[]:=rfl
def zk(c:xQ):nth (qC c) 0=some (aH c.b):=rfl
def ve(c:xQ):nth (qC c) 1=some (aH (wg c)):=rfl
def za(f:aa):List.flatMap ag.nJ (cg f)=[]:=rfl
def P8{α:Type}(l a b:List α):(l++a <+: l++b)=(a <+: b):=propext (List.prefix_append_right_inj l)
def Bg(c:xQ):(qC c).all ag.jf=true:=rfl
def wO(f:aa):(cg f).all ag.jf=true:=rfl
def Ad(r:List SB)(a:cJ)(X:aC):nth (r.map B2++a::X) r.length=some a:=by rw[fc]; simp
def ED(r:List SB)(a c:cJ)(X:aC):iP (r.map B2++a::X) r.length c=r.map B2++c::X:=by rw[fe]; simp
def Eh(r:List SB)(a a':cJ)(X:aC):nth (r.map B2++a::a'::X) (r.length+1)=some a':=by rw[fc]; simp
def EE(r:List SB)(a a' c:cJ)(X:aC):iP (r.map B2++a::a'::X) (r.length+1) c=r.map B2++a::c::X:=by rw[fe]; simp
def Ei(r:List SB)(a a' a'':cJ)(X:aC):nth (r.map B2++a::a'::a''::X) (r.length+2)=some a'':=by rw[fc]; simp
def EF(r:List SB)(a a' a'' c:cJ)(X:aC):iP (r.map B2++a::a'::a''::X) (r.length+2) c=r.map B2++a::a'::c::X:=by rw[fe]; simp
section
attribute [local irreducible] eX fM lC gK dX kr aq aU cr bJ
def anK{C:eR}{B:Nat}{k:List K}{bq:Env}{M:aC}:eX C [.tmp 11] B k (sub Kk 6) bq M=CI B true M:=NR fy
def WW{C:eR}{B:Nat}{k:List K}{bq:Env}{M:aC}:eX C [.tmp 11] B k (sub Kk 14) bq M=CI B false M:=NR fy
def HC{C:eR}{B:Nat}{k:List K}{bq:Env}{M:aC}:eX C [.tmp 11] B k (sub Kk 53) bq M=CI B true M:=NR fy
def WX{C:eR}{B:Nat}{k:List K}{bq:Env}{M:aC}:eX C [.tmp 11] B k (sub Kk 61) bq M=CI B false M:=NR fy
def wx{n B:Nat}{k:List K}{bq:Env}{M:aC}:eX (aq (rQ n)) [.tmp 11] B k (sub Kk 58) bq M=Xq n B k bq M:=rfl
variable {n B:Nat} {b:Bs} {mask P j:Nat} {s:TS} {c:xQ} {f:aa}
def step_skip(hn:b.cs.length<=60)(hj:b.cs[j]?=some c)(hL:C9 11 s.m s.r)(hP:P<11+s.r.length){q:Nat}{x1 x2:Bool}(hlr:b.rd.length=b.cs.length)(hq:b.rd[j]?=some q)(hx1:(DV .u64 ((mask >>> j:Nat):Int) 1==1)=x1)(hx2:(Hf .u64 (q:Int) (mask:Int) != 0)=x2)(h:(x1||x2)=true) :
  qY n B b mask P j (mf b s)=qY n B b mask P (j+1) (mf b { s with r:=s.r++[.cl c] }):=by
 have hjl:j<b.cs.length:=(aj.1 hj).1;have cL:((j:Int)<(b.cs.length:Int))=True:=sk;have hlt2:((j:Int)<((b.rd.length-0:Nat):Int))=True:=sk;have hsh:=Xf (m:=mask) (k:=j) aI;simp only[eL] at hsh;have fin:=fun bq (he:jq bq Nw=AY b mask P j)=>BA (n:=n) (B:=B) (b:=b) (mask:=mask) (P:=P) (j:=j) (s:={ s with r:=s.r++[.cl c] }) aI (hL.app _) gm he
 unfold qY;rw[vy];simp only[AY,Nw,mf,aW,aF,aR,B2] at fin ⊢;cases x1
 ·cases x2
  ·cases h
  ·simp only[Oj,↓wx,cL,hlt2,hj,hq,hsh,hx1,hx2,Ad,ED,jZ,kV,BM,La,Bg,aE,EW,seval];exact fin _ rfl
 ·simp only[Oj,↓wx,cL,hlt2,hj,hq,hsh,hx1,Ad,ED,jZ,kV,BM,La,Bg,aE,EW,seval];exact fin _ rfl
def Xn(hn:b.cs.length<=60)(hj:b.cs[j]?=some c)(hL:C9 11 s.m s.r)(hP:∃p,P=11+p/\s.r[p]?=some (.fs f)){q:Nat}(hlr:b.rd.length=b.cs.length)(hq:b.rd[j]?=some q)(hx1:(DV .u64 ((mask >>> j:Nat):Int) 1==1)=false)(hx2:(Hf .u64 (q:Int) (mask:Int) != 0)=false)
  (hf:vk f) {x:lk} (hx:b.l[c.b]?=some x) (ho:sN x.op) {e:Nat} (he:c.e=some e) {y:lk} (hy:b.l[e]?=some y) (ha:decide ((p8 f x.op).2=y.lg)=false) :
  qY n B b mask P j (mf b s)=qY n B b mask P (j+1) (mf b { s with r:=s.r++[.cl c,.fs (p8 f x.op).1,.an (p8 f x.op).2] }):=by
 have hjl:j<b.cs.length:=(aj.1 hj).1;have cL:((j:Int)<(b.cs.length:Int))=True:=sk;have hlt2:((j:Int)<((b.rd.length-0:Nat):Int))=True:=sk;have hsh:=Xf (m:=mask) (k:=j) aI;simp only[eL] at hsh;obtain⟨p,hP1,hP2⟩:=hP;have hpl:=(aj.1 hP2).1
 have hnP:∀(a0 a1 a2 a3 a4 a5 a6 a7 a8 a9 a10:cJ)(X:aC),nth (a0::a1::a2::a3::a4::a5::a6::a7::a8::a9::a10::(s.r.map B2++X)) P=some (cv (cg f)):=fun a0 a1 a2 a3 a4 a5 a6 a7 a8 a9 a10 X=>by
  rw[fc,hP1,show 11+p=p+11 by omega]
  simp only[cW];rw[aO (by simpa using hpl),aY,hP2]; rfl
 have qd:=fun M=>lT (n:=n) (k29 f x.op hf ho M)
 have hae:=G5 hf x.op;have qa:=fun M=>lT (n:=n) (lE (k35 (p8 f x.op).2 y.lg (by have:=hae.names; omega) (by have:=hae.data; omega) M))
 simp only[ha,eW,dA] at qd qa;have fin:=fun bq (he:jq bq Nw=AY b mask P j)=>BA (n:=n) (B:=B) (b:=b) (mask:=mask) (P:=P) (j:=j) (s:={ s with r:=s.r++[.cl c,.fs (p8 f x.op).1,.an (p8 f x.op).2] }) aI (hL.app _) gm he
 unfold qY;rw[vy];simp only[AY,Nw,mf,aW,aF,aR,B2] at fin ⊢;have hce:wg c=(e:Int):=by unfold wg; rw[he]
 simp only[Oj,↓wx,cL,hlt2,hj,hq,hsh,hx1,hx2,hnP,Ad,ED,Eh,EE,Ei,EF,jZ,kV,BM,Xc,La,ko,wy,AQ,vg,za,P8,bZ,aG,aQ,zk,ve,Bg,wO,qd,qa,aE,hx,hy,hce,nV,dA,CC,EW,seval];exact fin _ rfl
def Qk(hn:b.cs.length<=60)(hj:b.cs[j]?=some c)(hP:∃p,P=11+p/\s.r[p]?=some (.fs f)){q:Nat}(hlr:b.rd.length=b.cs.length)(hq:b.rd[j]?=some q)(hx1:(DV .u64 ((mask >>> j:Nat):Int) 1==1)=false)(hx2:(Hf .u64 (q:Int) (mask:Int) != 0)=false)(hm:mask<2 ^ 64)
  (hk:s.k<=s.ox.length) (hk2:s.k<=1000)
  (hf:vk f) {x:lk} (hx:b.l[c.b]?=some x) (ho:sN x.op) (he:c.e=none\/∃e y,c.e=some e/\b.l[e]?=some y/\decide ((p8 f x.op).2=y.lg)=true) {s2:TS} {k2:Nat} {t:Bool} (hs2:s2.k=k2+1) (hk3:t=false->k2<=1000) (hL:C9 11 s2.m s2.r) (hP3:P<11+s2.r.length)
  (hin:gT n (.agg (cg (p8 f x.op).1)::xM (mask ||| 2 ^ j)::yx) (mf b ⟨s.m,s.r++[.cl c,.fs (p8 f x.op).1,.an (p8 f x.op).2],s.ov+1,s.ox.take s.k++[c.b],s.k+1⟩)=some (.bool t,mf b s2)) :
  qY n B b mask P j (mf b s)=if t then CI B true (mf b s2) else qY n B b mask P (j+1) (mf b { s2 with k:=k2 }):=by
 have hjl:j<b.cs.length:=(aj.1 hj).1;have cL:((j:Int)<(b.cs.length:Int))=True:=sk;have hlt2:((j:Int)<((b.rd.length-0:Nat):Int))=True:=sk;have hsh:=Xf (m:=mask) (k:=j) aI;simp only[eL] at hsh;have hsl:=Xe (k:=j) aI;simp only[eL] at hsl;have hor:=SO hm (n:=2 ^ j) (lI aI aI);obtain⟨p,hP1,hP2⟩:=hP;have hpl:=(aj.1 hP2).1
 have hnP:∀(a0 a1 a2 a3 a4 a5 a6 a7 a8 a9 a10:cJ)(X:aC),nth (a0::a1::a2::a3::a4::a5::a6::a7::a8::a9::a10::(s.r.map B2++X)) P=some (cv (cg f)):=fun a0 a1 a2 a3 a4 a5 a6 a7 a8 a9 a10 X=>by
  rw[fc,hP1,show 11+p=p+11 by omega]
  simp only[cW];rw[aO (by simpa using hpl),aY,hP2]; rfl
 have qd:=fun M=>lT (n:=n) (k29 f x.op hf ho M)
 have hae:=G5 hf x.op;simp only[eW,dA] at qd;have fin:=fun bq (he:jq bq Nw=AY b mask P j)=>BA (n:=n) (B:=B) (b:=b) (mask:=mask) (P:=P) (j:=j) (s:={ s2 with k:=k2 }) aI hL hP3 he
 have hin':=Kc hin;obtain⟨m2,r2,ov2,ox2,k2'⟩:=s2;simp only at hs2;subst hs2;unfold qY;rw[vy];simp only[AY,Nw,mf,aW,aF,aR,eP,B2,dA] at fin hin' ⊢;have rm:cq (s.k+1) 8=True:=qM;have hne:k2+1-0=k2+1:=rfl;have hwk:t=false->IntKind.i64.wrap (((k2+1:Nat):Int)-1)=(k2:Int):=fun ht=>by have:=hk3 ht; rw[gw aI aI]; omega
 have hck:((k2:Int)<((k2+1:Nat):Int))=True:=sk;have hkl:(s.k<=s.ox.length)=True:=eq_true hk;have wdT:wid (List.take s.k (List.map mS s.ox)) 1=True:=by rw[<-eP]; exact pr mS _ (fun _=>rfl) _
 rcases he with he|⟨e,y,he,hy,ha⟩
 ·have hce:wg c = -1:=by unfold wg; rw[he]
  cases t
  ·have hwk:=hwk rfl;simp only[Oj,↓wx,↓HC,cL,hlt2,hj,hq,hsh,hsl,hor,rm,wdT,hne,hwk,hck,hkl,hin',hx1,hx2,hnP,Ad,ED,Eh,EE,Ei,EF,jZ,kV,BM,Xc,La,ko,wy,AQ,vg,za,P8,bZ,aG,aQ,zk,ve,Bg,wO,qd,aE,hx,hce,nV,dA,CC,EW,seval];exact fin _ rfl
  ·simp only[Oj,↓wx,↓HC,cL,hlt2,hj,hq,hsh,hsl,hor,rm,wdT,hne,hck,hkl,hin',hx1,hx2,hnP,Ad,ED,Eh,EE,Ei,EF,jZ,kV,BM,Xc,La,ko,wy,AQ,vg,za,P8,bZ,aG,aQ,zk,ve,Bg,wO,qd,aE,hx,hce,nV,dA,CC,EW,seval]
   done
 ·have hce:wg c=(e:Int):=by unfold wg; rw[he]
  have qa:=fun M=>lT (n:=n) (lE (k35 (p8 f x.op).2 y.lg (by have:=hae.names; omega) (by have:=hae.data; omega) M))
  simp only[ha,dA] at qa;cases t
  ·have hwk:=hwk rfl;simp only[Oj,↓wx,↓HC,cL,hlt2,hj,hq,hsh,hsl,hor,rm,wdT,hne,hwk,hck,hkl,hin',hx1,hx2,hnP,Ad,ED,Eh,EE,Ei,EF,jZ,kV,BM,Xc,La,ko,wy,AQ,vg,za,P8,bZ,aG,aQ,zk,ve,Bg,wO,qd,qa,hy,aE,hx,hce,nV,dA,CC,EW,seval];exact fin _ rfl
  ·simp only[Oj,↓wx,↓HC,cL,hlt2,hj,hq,hsh,hsl,hor,rm,wdT,hne,hck,hkl,hin',hx1,hx2,hnP,Ad,ED,Eh,EE,Ei,EF,jZ,kV,BM,Xc,La,ko,wy,AQ,vg,za,P8,bZ,aG,aQ,zk,ve,Bg,wO,qd,qa,hy,aE,hx,hce,nV,dA,CC,EW,seval]
   done
end
section
attribute [local irreducible] eX fM lC gK dX kr aq aU cr bJ
variable {n B:Nat} {b:Bs} {mask P:Nat} {s:TS} {f:aa}
def rowsOf(o:Option (Nat×List aa)):ag:=match o with
 |none => .slice .c0 []
 |some p => .slice (.own p.1) (p.2.map O2)
def NV(o:Option (Nat×List aa)):(rowsOf o).fV = gU (((o.map Prod.snd).getD []).map O2):=by cases o<;>rfl
def anx(f:aa):(cg f).all ag.plainCell=true:=rfl
def adU(l:List aa):wid (l.map O2) 10=True:=pr O2 _ (fun _=>rfl) l
def JM(o:Option (Nat×List aa)):(rowsOf o).jo=false:=by cases o<;>rfl
def Vy(o:Option (Nat×List aa)):po (.slice .c0 []) false (o.map Lf)=rowsOf o:=by cases o<;>rfl
def IE(hw:(DV .u64 (mask:Int) (b.E:Int)==(b.E:Int))=true):eX (aq (rQ n)) [.tmp 11] B [] (sub Kk 0) (eG 0 (.agg (cg f)::xM mask::yx)) (mf b s)=CI B true (mf b { s with r:=s.r++[.fs f] }):=by
 simp only[yx,mf,aW,aF,aR,B2];simp only[Oj,↓anK,hw,vg,EW,seval]
def DA(hw:(DV .u64 (mask:Int) (b.E:Int)==(b.E:Int))=false)(hf:vk f){x:Bool}(hx:((((eY s.m (mask:Int)).map Prod.snd).getD []).any fun g=>decide (f=g))=x)(hn:(((eY s.m (mask:Int)).map Prod.snd).getD []).length<=900000) :
  eX (aq (rQ n)) [.tmp 11] B [] (sub Kk 0) (eG 0 (.agg (cg f)::xM mask::yx)) (mf b s)=if x then CI B false (mf b { s with r:=s.r++[.fs f] }) else qY n B b mask (s.r.length+11) 0 (mf b { s with r:=s.r++[.fs f] }):=by
 have qc:=fun {M p} hM=>lT (n:=n) (lE (k32 (((eY s.m (mask:Int)).map Prod.snd).getD []) f hf hn (M:=M) (p:=p) hM))
 rw[hx] at qc;unfold qY;simp only[yx,AY,Nw,mf,aW,aF,aR,B2] at qc ⊢;cases x
 ·simp only[Oj,↓WW,hw,vg,mapOf.eq_1,xv,Vy,NV,JM,qc,Ad,EW,seval];rfl
 ·simp only[Oj,↓WW,hw,vg,mapOf.eq_1,xv,Vy,NV,JM,qc,Ad,EW,seval]
def Px(hP:∃p,P=11+p/\s.r[p]?=some (.fs f))(hg:eY s.m (mask:Int)=none):qY n B b mask P b.cs.length (mf b s)=CI B false (mf b { s with m:=kL s.m (mask:Int) (s.r.length+11,[f]),r:=s.r++[.tk 1] }):=by
 obtain⟨p,hP1,hP2⟩:=hP;have hpl:=(aj.1 hP2).1
 have hnP:∀(a0 a1 a2 a3 a4 a5 a6 a7 a8 a9 a10:cJ),nth (a0::a1::a2::a3::a4::a5::a6::a7::a8::a9::a10::s.r.map B2) P=some (cv (cg f)):=fun a0 a1 a2 a3 a4 a5 a6 a7 a8 a9 a10=>by
  rw[fc,hP1,show 11+p=p+11 by omega]
  simp only[cW];rw[aY,hP2]; rfl
 have hput:=Ea Lf s.m (mask:Int) (s.r.length+11,[f]);simp only[Lf,aF,aR,O2] at hput;have rm:cq (0+1) 176=True:=qM;unfold qY;rw[vy];simp only[AY,Nw,mf,aW,aF,aR,B2];simp only[Oj,↓WX,bu,hnP,mapOf.eq_1,xv,Vy,hg,rowsOf,hput,rm,vg,wy,ko,wO,anx,aE,adU,EW,seval]
 done
def LJ(hP:∃p,P=11+p/\s.r[p]?=some (.fs f)){id:Nat}{l0:List aa}(hL:C9 11 s.m s.r)(hl0:l0.length<=900000)(hg:eY s.m (mask:Int)=some (id,l0)):qY n B b mask P b.cs.length (mf b s)=CI B false (mf b { s with m:=kL s.m (mask:Int) (id,l0++[f]),r:=s.r.set (id-11) (.tk (l0.length+1)) }):=by
 obtain⟨p,hP1,hP2⟩:=hP;have hpl:=(aj.1 hP2).1
 have hnP:∀(a0 a1 a2 a3 a4 a5 a6 a7 a8 a9 a10:cJ),nth (a0::a1::a2::a3::a4::a5::a6::a7::a8::a9::a10::s.r.map B2) P=some (cv (cg f)):=fun a0 a1 a2 a3 a4 a5 a6 a7 a8 a9 a10=>by
  rw[fc,hP1,show 11+p=p+11 by omega]
  simp only[cW];rw[aY,hP2]; rfl
 obtain⟨i,hi1,hi2⟩:=hL.at' _ _ _ hg
 have hnI:∀(a0 a1 a2 a3 a4 a5 a6 a7 a8 a9 a10:cJ),nth (a0::a1::a2::a3::a4::a5::a6::a7::a8::a9::a10::s.r.map B2) id=some (.tick 10 l0.length):=fun a0 a1 a2 a3 a4 a5 a6 a7 a8 a9 a10=>by
  rw[fc,hi1,show 11+i=i+11 by omega]
  simp only[cW];rw[aY,hi2]; rfl
 have hsI:∀(a0 a1 a2 a3 a4 a5 a6 a7 a8 a9 a10:cJ)(k:Nat),iP (a0::a1::a2::a3::a4::a5::a6::a7::a8::a9::a10::s.r.map B2) id (.tick 10 k)=a0::a1::a2::a3::a4::a5::a6::a7::a8::a9::a10::(s.r.set (id-11) (.tk k)).map B2:=fun a0 a1 a2 a3 a4 a5 a6 a7 a8 a9 a10 k=>by
  rw[fe,hi1,show 11+i=i+11 by omega,show i+11-11=i by omega,gj]; rfl
 have hput:=Ea Lf s.m (mask:Int) (id,l0++[f]);simp only[Lf,aW,aF,aR,O2] at hput;have e1:po (.slice .c0 []) false (some (Lf (id,l0))) = .slice (.own id) (l0.map O2):=rfl;have rm:cq (l0.length+1) 176=True:=qM;unfold qY;rw[vy];simp only[AY,Nw,mf,aW,aF,aR,B2];simp only[Oj,↓WX,bu,hnP,hnI,hsI,mapOf.eq_1,xv,hg,dL,e1,hput,rm,vg,wy,ko,wO,anx,aE,adU,EW,seval]
 done
end
def Tb(W:Nat):Nat->Nat
 |0=>0
 |r+1=>1+min r W*Tb W r
def GV(cs:List xQ)(i:Nat):Nat:=match cs[i]? with
 |some c=>c.b
 |none=>0
structure Lk(b:Bs):Prop where
 len:b.cs.length<=60
 E:b.E=bitsOf (fun k=>match b.cs[k]? with|some c=>c.e.isSome|none=>false) b.cs.length
 rdl:b.rd.length=b.cs.length
 rd:∀j,j<b.cs.length->b.rd[j]?=some (bitsOf (fun k=>Hs.lR b.cs k j) b.cs.length)
 ev:∀c,c∈b.cs->∃x,b.l[c.b]?=some x/\x.op=c.op/\sN c.op
 nd:∀c,c∈b.cs->∀e,c.e=some e->∃y,b.l[e]?=some y/\y.lg=c.lg
structure Ms(b:Bs)(s s':TS)(lost:Hs.uE aa)(t:Nat)(x:Option (List Nat)×Hs.uE aa):Prop where
 lt:C9 11 s'.m s'.r
 lr:LR s'.m x.2
 len:x.2.length<=lost.length+t
 kept:Kept s.r s'.r
 k:s'.k<=s'.ox.length
 out:s'.ox.take s'.k=s.ox.take s.k++(x.1.getD []).map (GV b.cs)
def Ms.kk{b:Bs}{s s':TS}{lost:Hs.uE aa}{t:Nat}{x:Option (List Nat)×Hs.uE aa}(h:Ms b s s' lost t x)(hk:s.k<=s.ox.length):s'.k=s.k+(x.1.getD []).length:=by
 have:=congrArg List.length h.out;rw[aA,cp,cp,ef,iv h.k] at this;omega
def abH(W:Nat)(b:Bs)(n r:Nat):Prop:=∀(f:aa)(K:Nat)(done:List Nat)(lost:Hs.uE aa)(s:TS),b.cs.length+1=done.length+r->FB K f->K+200*r<=89000->Hs.Good b.cs done->C9 11 s.m s.r->LR s.m lost->lost.length+Tb W r<=900000->s.k<=s.ox.length->s.k+r<=900 ->
 ∃s',gT n (.agg (cg f)::xM (jh done)::yx) (mf b s)=some (.bool (Hs.wS p8 jh b.cs n f done lost).1.isSome,mf b s')/\Ms b s s' lost (Tb W r) (Hs.wS p8 jh b.cs n f done lost)
def tH{b:Bs}(h:Lk b){done:List Nat}(hg:Hs.Good b.cs done):jh done<2 ^ 64:=aaI fun k hk=>by have:=hg.lt k hk; have:=h.len; omega
def afm{b:Bs}(h:Lk b){done:List Nat}(hg:Hs.Good b.cs done)(j:Nat):(DV .u64 ((jh done >>> j:Nat):Int) 1==1)=done.contains j:=by
 rw[aky (tH h hg),n9]
theorem afn{b:Bs}(h:Lk b){done:List Nat}(hg:Hs.Good b.cs done)(j:Nat):(Hf .u64 ((bitsOf (fun k=>Hs.lR b.cs k j) b.cs.length:Nat):Int) (jh done:Int) != 0) = !((List.range b.cs.length).all fun k => !Hs.lR b.cs k j||done.contains k):=by
 have hn:=h.len;have hl:=xY (fun k=>Hs.lR b.cs k j) (n:=b.cs.length) aI
 rw[afo hl (tH h hg)];have hz:=Rb hl (tH h hg);rw[bne,Bool.not_inj_iff,cE,eu,bN];have e:((KN (bitsOf (fun k=>Hs.lR b.cs k j) b.cs.length) (jh done):Nat):Int)=0↔KN (bitsOf (fun k=>Hs.lR b.cs k j) b.cs.length) (jh done)=0:=dv
 rw[e,hz];constructor
 ·intro h1 k hk;cases ha:Hs.lR b.cs k j
  ·rfl
  simp_all [vp,n9,er]
 ·intro h1 k hk;rw[vp] at hk;simp only[bt,bj] at hk;have:=h1 k (gk.2 hk.1);rw[hk.2] at this;rw[n9]
  grind
theorem al4{b:Bs}(h:Lk b){done:List Nat}(hg:Hs.Good b.cs done):(DV .u64 (jh done:Int) (b.E:Int)==(b.E:Int))=Hs.BP b.cs done:=by
 have hn:=h.len;have hl:=xY (fun k=>match b.cs[k]? with|some c=>c.e.isSome|none=>false) (n:=b.cs.length) aI
 rw[<-h.E] at hl;have ht:∀k,b.E.testBit k=(decide (k<b.cs.length)&&(match b.cs[k]? with|some c=>c.e.isSome|none=>false)):=fun k=>by rw[h.E,vp]
 rw[SC (tH h hg) hl,cE,eu];have e:((jh done &&& b.E:Nat):Int)=(b.E:Int)↔jh done &&& b.E=b.E:=aI;rw[e,Yf];unfold Hs.BP;rw[bN];constructor
 ·intro h1 k hk;rw[gk] at hk;have h2:=h1 k;rw[ht,n9] at h2;have hc:=ai hk;generalize b.cs[k]=c at hc;rw[hc] at h2 ⊢;obtain⟨cb,ce,co,ca⟩:=c;cases ce<;>grind
 ·intro h1 k hk;rw[ht] at hk;simp only[bt,bj] at hk;obtain⟨hk1,hk2⟩:=hk;have h2:=h1 k (gk.2 hk1);have hc:=ai hk1;generalize b.cs[k]=c at hc;rw[n9];obtain⟨cb,ce,co,ca⟩:=c;cases ce<;>grind
def E3(cs:List xQ)(done is:List Nat):Nat:=(is.filter fun i=>Hs.Ec cs done i).length
theorem OW(cs:List xQ)(done is:List Nat)(i:Nat):E3 cs done (i::is)=(if Hs.Ec cs done i then 1 else 0)+E3 cs done is:=by
 grind [E3]
theorem aaJ{cs:List xQ}{done:List Nat}{i:Nat}(h:Hs.Ec cs done i=true):done.contains i=false:=by
 grind [Hs.Ec]
theorem It{cs:List xQ}{done:List Nat}(hg:Hs.Good cs done):E3 cs done (List.range cs.length)+done.length<=cs.length:=by
 have:Hs.Good cs (((List.range cs.length).filter fun i=>Hs.Ec cs done i)++done):=by
  refine⟨lu.2 ⟨List.nodup_range.filter _,hg.nodup,fun a ha b' hb e=>?_⟩,fun k hk=>?_⟩
  ·have:=aaJ (ei.1 ha).2
   grind
  ·rcases bo.1 hk with hk|hk
   ·grind
   ·exact hg.lt k hk
 have:=this.len;rw[aA] at this;exact this
theorem aaG{W:Nat}{b:Bs}(h:Lk b){n r:Nat}(IH:abH W b n r){f:aa}{K P:Nat}{done:List Nat}(hr:b.cs.length+1=done.length+(r+1))(hf:FB K f)(hK:K+200*(r+1)<=89000)(hg:Hs.Good b.cs done) :
  ∀(m j:Nat)(lost:Hs.uE aa)(s:TS),j+m=b.cs.length->C9 11 s.m s.r->LR s.m lost->lost.length+E3 b.cs done (List.range' j m)*Tb W r+1<=900000->(∃p,P=11+p/\s.r[p]?=some (.fs f))->s.k<=s.ox.length->s.k+(r+1)<=900 ->
  ∃s',Ms b s s' lost (E3 b.cs done (List.range' j m)*Tb W r) (Hs.I6 p8 b.cs (Hs.wS p8 jh b.cs n) f done (List.range' j m) lost) /\
   ∀B,qY n B b (jh done) P j (mf b s)=if (Hs.I6 p8 b.cs (Hs.wS p8 jh b.cs n) f done (List.range' j m) lost).1.isSome=true then CI B true (mf b s') else qY n B b (jh done) P b.cs.length (mf b s'):=by
 intro m;induction m with
 |zero =>
  intro j lost s hj hL hR _ _ hk _;refine⟨s,⟨hL,hR,by simp[Hs.I6],.rfl,hk,by simp[Hs.I6]⟩,fun B=>?_⟩
  rw[<-hj];simp[Hs.I6]
 |succ m ih =>
  intro j lost s hj hL hR hc hP hk hk9;have hjl:j<b.cs.length:=aI;have hcj:=ai hjl;generalize b.cs[j]=c at hcj;have hcm:c∈b.cs:=aK hcj;have dD:=h.len;obtain⟨p,hp1,hp2⟩:=hP;have hpl:=(aj.1 hp2).1;have hx1:=afm h hg j;have hx2:=afn h hg j;have hmk:=tH h hg;rw[List.range'_succ] at hc ⊢;rw[OW] at hc ⊢;have hmay:Hs.Ec b.cs done j=(!done.contains j&&(List.range b.cs.length).all fun k => !Hs.lR b.cs k j||done.contains k):=rfl
  generalize hX:Hs.I6 p8 b.cs (Hs.wS p8 jh b.cs n) f done (j::List.range' (j+1) m) lost=X;rw[Hs.I6,hcj] at hX;simp only at hX;cases hm:Hs.Ec b.cs done j
  ·-- it may not come
   rw[hm] at hc;simp only[af,aD,aJ] at hc ⊢;obtain⟨s',ha,hh⟩:=ih (j+1) lost { s with r:=s.r++[.cl c] } aI (hL.app _) hR hc ⟨p,hp1,by rw[aO hpl]; exact hp2⟩ hk hk9
   rw[hm,dW,aL dv] at hX;subst hX;refine⟨s',⟨ha.lt,ha.lr,ha.len,(Kept.app _ _).trans ha.kept,ha.k,ha.out⟩,fun B=>?_⟩
   rw[step_skip dD hcj hL aI h.rdl (h.rd j hjl) hx1 hx2 (by
    rw[hm] at hmay;have:=hmay.symm;cases hd:done.contains j
    ·rw[hd] at this;simpa using this
    ·rfl)]
   exact hh B
  ·rw[hm] at hmay hX hc
   have hnd:done.contains j=false:=by
    cases hd:done.contains j
    ·rfl
    ·rw[hd] at hmay; cases hmay
   have hall:((List.range b.cs.length).all fun k => !Hs.lR b.cs k j||done.contains k)=true:=by
    rw[hnd] at hmay; simpa using hmay.symm
   rw[hnd] at hx1;rw[hall] at hx2;obtain⟨x,hx,hxo,hoo⟩:=h.ev c hcm;simp only[aE] at hc ⊢;rw[bP,fL] at hc ⊢;cases ha:Hs.KD p8 f c
   ·-- it answers otherwise
    have hansF:=ha;simp only[Hs.KD,jQ] at ha;obtain⟨ha1,ha2⟩:=ha
    obtain⟨e,he⟩:∃e,c.e=some e:=by
     cases he:c.e with
     |none=>rw[he] at ha1; cases ha1
     |some e=>exact⟨e,rfl⟩
    obtain⟨y,hy,hya⟩:=h.nd c hcm e he;obtain⟨s',hA,hh⟩:=ih (j+1) lost { s with r:=s.r++[.cl c,.fs (p8 f x.op).1,.an (p8 f x.op).2] } aI (hL.app _) hR aI ⟨p,hp1,by rw[aO hpl]; exact hp2⟩ hk hk9
    rw[hansF,dV,aL dv] at hX;subst hX;refine⟨s',⟨hA.lt,hA.lr,by have:=hA.len; omega,(Kept.app _ _).trans hA.kept,hA.k,hA.out⟩,fun B=>?_⟩
    rw[Xn dD hcj hL ⟨p,hp1,hp2⟩ h.rdl (h.rd j hjl) hx1 hx2 hf.ok hx (by rw[hxo]; exact hoo) he hy (by rw[hxo,hya]; exact ha2)]
    exact hh B
   ·-- it may be the next one
    rw[ha,jP,aX rfl] at hX;have hfb:=Ry hf aI c.op
    have hg':Hs.Good b.cs (done++[j]):=by
     refine⟨lu.2 ⟨hg.nodup,dv,fun a ha' b' hb e=>?_⟩,fun k hk=>?_⟩
     ·grind
     ·rcases bo.1 hk with hk|hk
      ·exact hg.lt k hk
      ·simp at hk; omega
    obtain⟨s2,hin,hA⟩:=IH (p8 f c.op).1 (K+200) (done++[j]) lost ⟨s.m,s.r++[.cl c,.fs (p8 f c.op).1,.an (p8 f c.op).2],s.ov+1,s.ox.take s.k++[c.b],s.k+1⟩ (by rw[aA]; simp; omega) hfb aI hg' (hL.app _) hR aI (by rw[aA,cp,iv hk]; simp) (by simp only; omega)
    have hk0:(⟨s.m,s.r++[.cl c,.fs (p8 f c.op).1,.an (p8 f c.op).2],s.ov+1,s.ox.take s.k++[c.b],s.k+1⟩:TS).k<=(s.ox.take s.k++[c.b]).length:=by rw[aA,cp,iv hk]; simp
    have hkk:=hA.kk hk0;have hout:=hA.out;rw[<-PI] at hin;have hkept:=(Kept.app s.r [.cl c,.fs (p8 f c.op).1,.an (p8 f c.op).2]).trans hA.kept;have hP2:s2.r[p]?=some (.fs f):=hkept.at' p _ hp2 (fun _ h=>by cases h)
    have hst:∀B,_:=fun B=>Qk (n:=n) (B:=B) (P:=P) dD hcj ⟨p,hp1,hp2⟩ h.rdl (h.rd j hjl) hx1 hx2 hmk hk aI hf.ok hx (by rw[hxo]; exact hoo) (by
     rw[hxo];simp only[Hs.KD,cS] at ha;cases he:c.e with
     |none=>exact .inl rfl
     |some e =>
      obtain⟨y,hy,hya⟩:=h.nd c hcm e he
      grind) (s2:=s2) (k2:=s2.k-1) (t:=(Hs.wS p8 jh b.cs n (p8 f c.op).1 (done++[j]) lost).1.isSome) (by simp only at hkk; omega) (fun ht=>by
      have e:(Hs.wS p8 jh b.cs n (p8 f c.op).1 (done++[j]) lost).1=none:=by
       simp_all
      rw[e] at hkk;simp at hkk; omega) hA.lt (by have:=hkept.len; omega) (by rw[hxo]; exact hin)
    generalize Hs.wS p8 jh b.cs n (p8 f c.op).1 (done++[j]) lost=T at hA hkk hout hst hX;obtain⟨o,l⟩:=T;cases o with
    |some o =>
     simp only at hX;subst hX;simp only[bX,aE] at hst ⊢;refine⟨s2,⟨hA.lt,hA.lr,by have:=hA.len; simp only at this ⊢; omega,hkept,hA.k,?_⟩,hst⟩
     rw[hout];simp only[bm,aF];rw[bB (by rw[aA,cp,iv hk]; simp),bZ]
     simp only[GV,hcj,aG,aQ]
    |none =>
     simp only at hX;subst hX;simp only[dp,af,aD,iI,aR,c8,aw,db] at hst hout hkk ⊢;have hk1:s2.k-1=s.k:=aI;rw[hk1] at hst
     have htk:s2.ox.take s.k=s.ox.take s.k:=by
      have:=congrArg (List.take s.k) hout;rw[List.take_take,iv aI] at this;rw[this,bB (l:=s.ox.take s.k++[c.b]) (by rw[aA,cp,iv hk]; simp),fQ (by rw[cp,iv hk]; exact av _),List.take_take,Nat.min_self]
     have hA2:=hA.len;simp only at hA2;obtain⟨s',hA3,hh⟩:=ih (j+1) l { s2 with k:=s.k } aI hA.lt hA.lr aI ⟨p,hp1,hP2⟩ (by have:=hA.k; simp only; omega) hk9
     refine⟨s',⟨hA3.lt,hA3.lr,by have:=hA3.len; omega,hkept.trans hA3.kept,hA3.k,?_⟩,fun B=>(hst B).trans (hh B)⟩
     rw[hA3.out];simp only[htk]
def D1{b:Bs}{n:Nat}{a:List ag}{s s':TS}{t:Bool}(hl:a.length=9)(h:∀B,eX (aq (rQ n)) [.tmp 11] B [] (sub Kk 0) (eG 0 a) (mf b s)=CI B t (mf b s'))(hL:C9 11 s'.m s'.r)(hk:s.r.length<=s'.r.length):gT (n+1) a (mf b s)=some (.bool t,mf b s'):=by
 have:=Zd (C:=aq (rQ n)) (fn:=afd) (args:=a) (M:=mf b s) (M':=mf b s') (v := .bool t) (by rw[hl]; rfl) h (by rw[z8,z8]; omega)
 rw[Fu b hL] at this;exact this
def Xv{W:Nat}{b:Bs}(h:Lk b)(hW:∀done,Hs.Good b.cs done->E3 b.cs done (List.range b.cs.length)<=W):∀n r:Nat,r<=n->abH W b n r
 |n,0,_=>fun f K done lost s hr _ _ hg=>by have:=hg.len; omega
 |0,r+1,hn=>aI
 |n+1,r+1,hn=>fun f K done lost s hr hf hK hg hL hR hc hk hk9=>by
  have hmk:=tH h hg;have hw:=al4 h hg;rw[Hs.wS];rw[Tb] at hc ⊢;cases hwb:Hs.BP b.cs done
  rotate_left
  ·rw[aX rfl];refine⟨{ s with r:=s.r++[.fs f] },D1 rfl (fun B=>IE (by rw[hw,hwb])) (hL.app _) dv,⟨hL.app _,hR,dv,Kept.app _ _,hk,dv⟩⟩
  rw[aL dv];have hany:=hR.any (jh done) f
  have hrows:(((eY s.m (jh done:Int)).map Prod.snd).getD []).length<=lost.length:=by
   rw[hR (jh done),ef]; exact bT _ _
  cases hla:lost.any (fun p=>p.1==jh done&&decide (p.2=f))
  rotate_left
  ·rw[aX rfl];rw[hla] at hany;refine⟨{ s with r:=s.r++[.fs f] },D1 rfl (fun B=>?_) (hL.app _) dv,⟨hL.app _,hR,dv,Kept.app _ _,hk,dv⟩⟩
   rw[DA (x:=true) (by rw[hw,hwb]) hf.ok hany.symm aI]
   rfl
  rw[aL dv];rw[hla] at hany;have hcn:=It hg;have hcw:=hW done hg;rw[lG] at hcn hcw ⊢;have hcb:E3 b.cs done (List.range' 0 b.cs.length)*Tb W r<=min r W*Tb W r:=bd _ aI;obtain⟨s1,hA,hh⟩:=aaG h (Xv h hW n r aI) (P:=11+s.r.length) hr hf hK hg b.cs.length 0 lost { s with r:=s.r++[.fs f] } aI (hL.app _) hR aI ⟨s.r.length,rfl,dv⟩ hk hk9
  generalize Hs.I6 p8 b.cs (Hs.wS p8 jh b.cs n) f done (List.range' 0 b.cs.length) lost=X at hA hh;obtain⟨o,l⟩:=X
  have hen:∀B,eX (aq (rQ n)) [.tmp 11] B [] (sub Kk 0) (eG 0 (.agg (cg f)::xM (jh done)::yx)) (mf b s)=qY n B b (jh done) (11+s.r.length) 0 (mf b { s with r:=s.r++[.fs f] }):=fun B=>by
   rw[DA (x:=false) (by rw[hw,hwb]) hf.ok hany.symm aI,Nat.add_comm]
   rfl
  have hk1:=(Kept.app s.r [.fs f]).trans hA.kept;cases o with
  |some o =>
   simp only[bX,aE] at hh ⊢;refine⟨s1,D1 rfl (fun B=>(hen B).trans (hh B)) hA.lt hk1.len,⟨hA.lt,hA.lr,by have:=hA.len; simp only at this ⊢; omega,hk1,hA.k,hA.out⟩⟩
  |none =>
   simp only[dp,af,aD] at hh ⊢;have hP1:s1.r[s.r.length]?=some (.fs f):=hA.kept.at' s.r.length _ dv (fun _ h=>by cases h)
   have hlr:=hA.lr;have dD:=hA.len;simp only at hlr dD
   have hrows1:(((eY s1.m (jh done:Int)).map Prod.snd).getD []).length<=l.length:=by
    rw[hlr (jh done),ef]; exact bT _ _
   have hadd:=fun id=>hlr.add (jh done) f id
   cases hgm:eY s1.m (jh done:Int) with
   |none =>
    have hadd:=hadd (s1.r.length+11);rw[hgm] at hadd;have cL:=hA.lt.new hgm f;rw[Nat.add_comm 11] at cL;refine⟨{ s1 with m:=kL s1.m (jh done:Int) (s1.r.length+11,[f]),r:=s1.r++[.tk 1] },D1 rfl (fun B=>(hen B).trans ((hh B).trans (Px ⟨_,rfl,hP1⟩ hgm))) cL (by have:=hk1.len; simp only[aA]; omega),⟨cL,hadd,by simp only[aA,au,aw]; omega,hk1.trans (Kept.app _ _),hA.k,hA.out⟩⟩
   |some v =>
    obtain⟨id,l0⟩:=v;have hadd:=hadd id;rw[hgm] at hadd hrows1;have cL:=hA.lt.more hgm f;obtain⟨i,hi1,hi2⟩:=hA.lt.at' _ _ _ hgm
    have hks:Kept s1.r (s1.r.set (id-11) (.tk (l0.length+1))):=by
     rw[show id-11=i by omega]
     exact Kept.set hi2 _
    refine⟨{ s1 with m:=kL s1.m (jh done:Int) (id,l0++[f]),r:=s1.r.set (id-11) (.tk (l0.length+1)) },D1 rfl (fun B=>(hen B).trans ((hh B).trans (LJ ⟨_,rfl,hP1⟩ hA.lt (by simp only[dL,bm] at hrows1; omega) hgm))) cL (by have:=(hk1.trans hks).len; exact this),⟨cL,hadd,by simp only[aA,au,aw]; omega,hk1.trans hks,hA.k,hA.out⟩⟩
end Go.Proofs.YteoamaffclmdbaaGreatDoor
