import Derived.Test.YteoamaffclmdbaaGreatDoorHoaE
set_option linter.unusedSimpArgs false
set_option linter.unusedVariables false
set_option linter.unusedSectionVars false
set_option linter.defProp false
open Go.Proofs.Tryz
namespace Go.Proofs.YteoamaffclmdbaaGreatDoor
open Go Go.Abs
section
attribute [local irreducible] eX fJ lj gK dY kr aq aR cp bI
def abK{X:Option (ag×aC)}{v:ag×aC}(h:∃r,r=v/\X=some r):X=some v:=by
 obtain⟨_,rfl,h⟩:=h;exact h
def apY(a b:List gM)(ha:a.length<=100000):aq cd 141 [jb a,jb b] []=some (.bool (decide (a=b)),[]):=by
 refine aB ?_;cases h0:(a.length:Int) != (b.length:Int)
 ·have hl:a.length=b.length:=by simp at h0; omega
  simp only[RU,QC,h0,EW,seval];refine abK (jd (xs:=a) aH (fun m (_:Unit)=>a.take m=b.take m) (fun _ i=>[(0,jb a),(1,jb b),(5,aF i)]) (fun _=>[]) (fun r=>r=(.bool (decide (a=b)),[])) (fun _ hI=>?_) (fun pre x post _ e hx cJ hw h0 hm hI hi=>?_) () rfl)
  ·refine⟨_,rfl,?_⟩;rw[ik (Ai hl hI)];simp only[QC,bm,EW,seval]
  ·have hp:=(aj.1 hx).1;obtain⟨y,hy⟩:∃y,b[pre.length]?=some y:=⟨_,ai aH⟩;cases h1:decide (x=y)
   ·have hd:decide (a=b)=false:=gn fun e=>of_decide_eq_false h1 (by rw[e,hy] at hx; injection hx with hx; exact hx.symm)
    refine⟨_,rfl,?_⟩;rw[hd];simp only[QC,cJ,hx,hy,h0,h1,iH,Ru,aiv,EW,seval]
   ·have i1:=hi () (yc hI hx (by rw[hy,jT h1]))
    simp only[QC,cJ,hx,hy,hw,h0,h1,iH,Ru,aiv,EW,seval];exact i1
 ·have hd:decide (a=b)=false:=gn fun e=>by rw[e] at h0; simp at h0
  rw[hd];simp only[RU,QC,h0,EW,seval]
def ar7 a b ha:=cP (apY a b ha)
def c88(x y:Node)(hx:x.bc.length<=100000):aq cd 88 [.agg (aL x),.agg (aL y)] []=some (.bool (decide (x=y)),[]):=by
 rw[adw];have hk:=fun M=>ar7 x.bc y.bc hx M
 refine aB ?_;simp only[alE,E88,bK,aL,EN,seval]
 repeat' ((first|apply bA|apply bW|apply dK)<;>intro hb<;>simp only[hb,EN,E88,hk,vm,seval])
 all_goals clear hk
 all_goals simp_all [bne]
def k88 x y hx:=cP (c88 x y hx)
def apX(a b:List Node)(ha:a.length<=100000)(he:∀n,n∈a->n.bc.length<=100000):aq cd 140 [ba a,ba b] []=some (.bool (decide (a=b)),[]):=by
 refine aB ?_;cases h0:(a.length:Int) != (b.length:Int)
 ·have hl:a.length=b.length:=by simp at h0; omega
  simp only[RT,QB,h0,EW,seval];refine abK (jd (xs:=a) aH (fun m (_:Unit)=>a.take m=b.take m) (fun _ i=>[(0,ba a),(1,ba b),(5,aF i)]) (fun _=>[]) (fun r=>r=(.bool (decide (a=b)),[])) (fun _ hI=>?_) (fun pre x post _ e hx cJ hw h0 hm hI hi=>?_) () rfl)
  ·refine⟨_,rfl,?_⟩;rw[ik (Ai hl hI)];simp only[QB,bm,EW,seval]
  ·have hp:=(aj.1 hx).1;obtain⟨y,hy⟩:∃y,b[pre.length]?=some y:=⟨_,ai aH⟩;have q:=fun M=>k88 x y (he x hm) M
   simp only[aL] at q;cases h1:decide (x=y)<;>rw[h1] at q
   ·have hd:decide (a=b)=false:=gn fun e=>of_decide_eq_false h1 (by rw[e,hy] at hx; injection hx with hx; exact hx.symm)
    refine⟨_,rfl,?_⟩;rw[hd];simp only[QB,cJ,hx,hy,h0,q,bK,aL,EW,seval]
   ·have i1:=hi () (yc hI hx (by rw[hy,jT h1]))
    simp only[QB,cJ,hx,hy,hw,h0,q,bK,aL,EW,seval];exact i1
 ·have hd:decide (a=b)=false:=gn fun e=>by rw[e] at h0; simp at h0
  rw[hd];simp only[RT,QB,h0,EW,seval]
def ar6 a b ha he:=cP (apX a b ha he)
def c87(a b:Tree)(ha:a.ae.length<=100000)(he:∀n,n∈a.ae->n.bc.length<=100000):aq cd 87 [br a,br b] []=some (.bool (decide (a=b)),[]):=by
 have hd:decide (a=b)=(a.next==b.next&&(a.ak==b.ak&&decide (a.ae=b.ae))):=by
  obtain⟨a1,a2,a3⟩:=a;obtain⟨b1,b2,b3⟩:=b;rw[cu]; simp; constructor
  ·rintro⟨h1,h2,h3⟩; exact⟨h2,h3,h1⟩
  ·rintro⟨h1,h2,h3⟩; exact⟨h3,h1,h2⟩
 rw[hd];have q:=fun M=>ar6 a.ae b.ae ha he M
 refine aB ?_
 cases h1:a.next==b.next<;>cases h2:a.ak==b.ak <;>
  simp only[alD,E87,h1,h2,q,br,aM,cH,cI,dM,EW,seval]
def k87(a b:Tree)(ha:a.ae.length<=100000)(he:∀n,n∈a.ae->n.bc.length<=100000)(M:aC):aR (aq cd) 87 [.agg [ba a.ae,aF a.next,aF a.ak],.agg [ba b.ae,aF b.next,aF b.ak]] M=some (.bool (decide (a=b)),M):=cO (c87 a b ha he) M
end
def Sv{l:List Node}(h:oS l){i j:Nat}{n m:Node}(hi:l[i]?=some n)(hj:l[j]?=some m)(e:n.ar=m.ar):i=j:=by
 obtain⟨i1,i2⟩:=aj.1 hi;obtain⟨j1,j2⟩:=aj.1 hj;have hp:=cm.1 h;rcases iZ i j with cJ|rfl|cJ
 ·have:=hp i j i1 j1 cJ; rw[i2,j2] at this; omega
 ·rfl
 ·have:=hp j i j1 i1 cJ; rw[i2,j2] at this; omega
def W7{s:iQ}(hs:oS s.now.ae)(hl:s.since.length=s.now.ae.length)(T:Int)(n:Node):(∃(j:Nat),s.now.ae[j]?=some n/\s.since[j]?=some (rI s T n))\/(find s.now.ae n.ar≠some n/\rI s T n=T):=by
 unfold rI;rcases CF hs n.ar with ⟨_,h2,h3,h4⟩|⟨_,h2,h3⟩
 ·by_cases e:n=bl s.now.ae n.ar
  ·left;have hj:=(aj.1 h3).1;refine⟨_,by rw[h3,<-e],?_⟩
   rw[aW (by rw[h2]; simp[<-e])]
   rw[kW,ai aH]; rfl
  ·right;rw[aP (by simp[e]),h4]
   exact⟨fun hh=>e (by injection hh with hh; exact hh.symm),rfl⟩
 ·right;rw[h3,aP (by rw[h2]; simp)]
  simp
def B9{t:Tree}{tk:List mR}{c:Int}:∀(l:List Node)(y:List Int)(n:Node)(x:Int),l.length=y.length->lN t tk c (l++[n]) (y++[x])=lN t tk c l y++lN t tk c [n] [x]
 | [],[],n,x,_=>by simp[lN]
 |a::l,b::y,n,x,h=>by simp only[aG,lN,B9 l y n x (by simpa using h),bV]
def Stp(P:Int->Prop)(s u:iQ):Prop:=u=s\/(∃t,Rt t/\u=qv s t)\/(∃i,u=(takeN s i).1)\/∃d,P d/\u=(rn s d).1
def aaT(s:iQ)(t:Tree)(c:Int):List po:=s.eN++lN t s.dV c s.now.ae s.since
section
attribute [local irreducible] eX fJ lj gK dY kr aq aR cp bI
def c86(l:List mR)(a b:Int)(hn:l.length<=100000):aq cd 86 [ke l,aF a,aF b] []=some (.bool (xz l a b),[]):=by
 refine aB ?_;simp only[alC,E86,EW,seval];refine AL (xs:=l) aH (fun post (_:Unit)=>post.any (zg a b)) (fun _ i=>[(0,ke l),(1,aF a),(2,aF b),(7,aF i)]) (fun _=>[]) (fun z=>some (ag.bool z,([]:aC))) (fun _=>?_) (fun pre x post _ e hx cJ hw h0 hm hi=>?_) ()
 ·simp only[E86,bm,oU,EW,seval]
 ·have i1:=hi ();rw[jP,zg]
  cases h1:decide (a<=x.at')<;>cases h2:decide (x.at'<b) <;>
   simp only[E86,cJ,hx,hw,h0,h1,h2,kO,iC,dM,cH,cI,dI,cV,EW,seval]<;>exact i1
def k86 l a b hn:=cP (c86 l a b hn)
abbrev JQ(s:iQ)(t:Tree):aC:=[.cells (bL s),.cells [ba t.ae,.int .i64 t.next,.int .i64 t.ak],.cells [.slice .c0 [],.int .i64 0,.int .i64 0,.int .i64 0,.slice .c0 [],.slice .c0 [],.slice .c0 [],.int .i64 0]]
abbrev JP(c:Int):Env:=[(2,.ptr 0 0),(3,.ptr 1 0),(4,.ptr 2 0),(5,.int .i64 c)]
section
variable {s:iQ} {t:Tree} {Q:ag×aC->Prop} {c:Int}
def aao(hs:Rt s.now)(ht:Rt t)(hl:s.since.length=s.now.ae.length)(hk:s.dV.length<=16)(hp:s.eN.length<=90000){k:List K}
  (hx:∀z,∃r,Q r/\kr (aq cd) [.dG 4 8] 0 k ⟨.exit 0,JP c++(6,.slice (.own 3) ((aaT s t c).map lV))::z,JQ s t++[.tick 8 (aaT s t c).length]⟩=some r) :
  ∃r,Q r/\eX (aq cd) [.dG 4 8] 0 k (.loop [2,3,4,5,6,7] agL) (JP c++[(6,.slice (.own 3) (s.eN.map lV)),(7,aF 0)]) (JQ s t++[.tick 8 s.eN.length])=some r:=by
 have h200:=hs.sz.ae;refine jd (xs:=s.now.ae) aH (fun m (P:List po)=>P.length<=s.eN.length+m/\P=s.eN++lN t s.dV c (s.now.ae.take m) (s.since.take m)) (fun P i=>JP c++[(6,.slice (.own 3) (P.map lV)),(7,aF i)]) (fun P=>JQ s t++[.tick 8 P.length]) Q (fun P hP=>?_) (fun pre x post P e hx' cJ hw h0 hm hP hi=>?_) s.eN ⟨au _,by simp[lN]⟩
 ·have hP:=hP.2;rw[bH,<-hl,bH] at hP;have hP:aaT s t c=P:=hP.symm;simp only[hP,JQ,JP,bL,aG,aO] at hx ⊢;simp only[Qp,bm,EW,seval];exact hx _
 ·have hlx:=(aj.1 hx').1;obtain⟨y,hy⟩:∃y,s.since[pre.length]?=some y:=⟨_,ai aH⟩;have qg:=fun M=>A5 t.ae t.next t.ak x.ar (by have:=ht.sz.ae; omega) M
  have hc:lN t s.dV c [x] [y]=if (!(find t.ae x.ar).isSome || !decide (x=(find t.ae x.ar).getD Node.zero))&&xz s.dV y c then [⟨y,c,x⟩] else []:=by
   rw[lN,lN,db]
   ·rcases CF ht.lI.mj x.ar with ⟨_,h2,_,h4⟩|⟨_,h2,h4⟩
    ·have e1:decide (X7 t.ae x.ar<0)=false:=by rw[h2]; simp
     rw[e1,h4]; rfl
    ·rw[h2,h4]; simp
   ·rintro _ _ _ _ ⟨⟩
  have hi:=hi (P++lN t s.dV c [x] [y]) ⟨by
   have:=(Bi t s.dV c [x] [y]).1;simp only[aA,av,az] at this ⊢; omega,by
   rw[cz,cz,hx',hy];simp only[kB];rw[B9 _ _ _ _ gh,<-bV,<-hP.2]⟩
  rw[hc] at hi;generalize (find t.ae x.ar).getD Node.zero=n at qg hi;generalize (find t.ae x.ar).isSome=b at qg hi;have qs:=fun M=>k88 x n (by have:=(hs.XF hm).1; omega) M
  have qw:=fun M=>k86 s.dV y c aH M
  generalize decide (x=n)=d at qs hi;generalize xz s.dV y c=w at qw hi;have r1:cr (P.length+1) 96=True:=qI;simp only[JQ,JP,bL,aG,aO,aL] at hi qs ⊢;cases b<;>cases d<;>cases w<;>simp only[ct,dC,eu,fG,gb,dM,cH,cI,af,aE,aD,db,aZ,aK,aU,aA,av,az,aJ,lV,mH,aL] at hi<;>simp only[Qp,cJ,hx',hy,hw,h0,qg,qs,qw,r1,bK,aL,mS,EW,seval]<;>exact hi
def aap(hs:Rt s.now)(hl:s.since.length=s.now.ae.length){P:List po}{S:List Int}{i:Nat}{n:Node}(hn:t.ae[i]?=some n){k:List K}
  (hx:∀z,∃r,Q r/\kr (aq cd) [.dG 4 8] 0 k ⟨.exit 4,JP c++(6,.slice (.own 3) (P.map lV))::(11,.slice (.own 4) (S.map mS))::(12,aF i)::(13,aF (rI s c n))::z,JQ s t++[.tick 8 P.length,.tick 1 S.length]⟩=some r) :
  ∃r,Q r/\eX (aq cd) [.dG 4 8] 0 k (.loop [2,3,4,5,6,11,12,13,14] agM) (JP c++[(6,.slice (.own 3) (P.map lV)),(11,.slice (.own 4) (S.map mS)),(12,aF i),(13,aF c),(14,aF 0)]) (JQ s t++[.tick 8 P.length,.tick 1 S.length])=some r:=by
 have h200:=hs.sz.ae;have b1:((i:Int)<0)=False:=dw;refine jd (xs:=s.now.ae) aH (fun m (x:Int)=>(x=c/\∀(j:Nat),j<m->s.now.ae[j]?≠some n)\/∃j:Nat,j<m/\s.now.ae[j]?=some n/\s.since[j]?=some x) (fun(x:Int) j=>JP c++[(6,.slice (.own 3) (P.map lV)),(11,.slice (.own 4) (S.map mS)),(12,aF i),(13,aF x),(14,aF j)]) (fun _=>JQ s t++[.tick 8 P.length,.tick 1 S.length]) Q (fun x hI=>?_) (fun pre m post x e hx' cJ hw h0 hm hI hi=>?_) c (.inl ⟨rfl,fun j hj=>aH⟩)
 ·have he:x=rI s c n:=by
   rcases W7 hs.lI.mj hl c n with ⟨j,j1,j2⟩|⟨j1,j2⟩<;>rcases hI with ⟨h1,h2⟩|⟨i,h1,h2,h3⟩
   ·exact absurd j1 (h2 j (aj.1 j1).1)
   ·have:=Sv hs.lI.mj j1 h2 rfl;subst this;rw[j2] at h3; injection h3 with h3; exact h3.symm
   ·rw[h1,j2]
   ·exact absurd ((ij hs.lI.mj).2 ⟨aI h2,rfl⟩) j1
  subst he;simp only[JQ,JP,bL,aG,aO] at hx ⊢;simp only[Qp,bm,EW,seval];exact hx _
 ·have hlx:=(aj.1 hx').1;obtain⟨y,hy⟩:∃y,s.since[pre.length]?=some y:=⟨_,ai aH⟩;have qs:=fun M=>k88 m n (by have:=(hs.XF hm).1; omega) M
  have i1:m≠n->_:=fun hne=>hi x (by
   rcases hI with ⟨h1,h2⟩|⟨j,h1,h2⟩
   ·refine .inl ⟨h1,fun j hj=>?_⟩
    by_cases e:j=pre.length
    ·rw[e,hx']; exact fun hh=>hne (by injection hh)
    ·exact h2 j aH
   ·exact .inr ⟨j,aH,h2⟩)
  have i2:m=n->_:=fun he=>hi y (.inr ⟨pre.length,aH,by rw[hx',he],hy⟩)
  simp only[JQ,JP,bL,aG,aO,aL] at i1 i2 qs ⊢
  by_cases hd:m=n
  ·rw[ik hd] at qs;simp only[Qp,cJ,hx',hy,hn,b1,hw,h0,qs,bK,aL,mS,EW,seval];exact i2 hd
  ·rw[gn hd] at qs;simp only[Qp,cJ,hx',hy,hn,b1,hw,h0,qs,bK,aL,mS,EW,seval];exact i1 hd
def aaq(hs:Rt s.now)(ht:Rt t)(hl:s.since.length=s.now.ae.length){P:List po}{k:List K}
  (hx:∀z,∃r,Q r/\kr (aq cd) [.dG 4 8] 0 k ⟨.exit 2,JP c++(6,.slice (.own 3) (P.map lV))::(11,.slice (.own 4) ((t.ae.map (rI s c)).map mS))::z,JQ s t++[.tick 8 P.length,.tick 1 (t.ae.map (rI s c)).length]⟩=some r) :
  ∃r,Q r/\eX (aq cd) [.dG 4 8] 0 k (.loop [2,3,4,5,6,11,12] agN) (JP c++[(6,.slice (.own 3) (P.map lV)),(11,.slice (.own 4) []),(12,aF 0)]) (JQ s t++[.tick 8 P.length,.tick 1 0])=some r:=by
 have h200:=ht.sz.ae;refine jd (xs:=t.ae) aH (fun m (S:List Int)=>S=(t.ae.take m).map (rI s c)) (fun S i=>JP c++[(6,.slice (.own 3) (P.map lV)),(11,.slice (.own 4) (S.map mS)),(12,aF i)]) (fun S=>JQ s t++[.tick 8 P.length,.tick 1 S.length]) Q (fun S hS=>?_) (fun pre n post S e hx' cJ hw h0 hm hS hi=>?_) [] rfl
 ·rw[bH] at hS;simp only[<-hS,JQ,JP,bL,aG,aO] at hx ⊢;simp only[Qp,bm,EW,seval];exact hx _
 ·have hlx:=(aj.1 hx').1;have hSl:S.length=pre.length:=by rw[hS]; simp; omega
  have lb:=fun {k} h2=>aap (s:=s) (t:=t) (Q:=Q) (c:=c) hs hl (P:=P) (S:=S) hx' (k:=k) h2
  have r1:cr (S.length+1) 8=True:=qI;have i1:=hi (S++[rI s c n]) (by rw[cz,hx',hS]; simp)
  simp only[JQ,JP,bL,aG,aO,aZ,aK,aU,aA,av,az,aJ,mS] at lb i1 ⊢;simp only[Qp,cJ,EW,seval];refine lb (fun z=>?_)
  simp only[Qp,hw,r1,uw,mS,EW,seval];exact i1
end
def c49(s:iQ)(t:Tree)(hs:Rt s.now)(ht:Rt t)(hl:s.since.length=s.now.ae.length)(hk:s.dV.length<=16)(hp:s.eN.length<=90000):aq cd 49 [.agg (bL s),br t] []=some (.agg (bL (qv s t)),[]):=by
 have key:∃r:ag×aC,r=(.agg (bL (qv s t)),[])/\eX (aq cd) O2.results 0 [] O2.body (eF 0 [.agg (bL s),br t]) []=some r:=by
  have h200:=hs.sz.ae;have qs:=fun M=>k87 s.now t aH (fun n hn=>by have:=(hs.XF hn).1; omega) M
  unfold qv;cases hd:decide (s.now=t)<;>rw[hd] at qs
  ·have la:=fun {k Q} hx=>aao (s:=s) (t:=t) (Q:=Q) (c:=IntKind.i64.wrap (s.tick+1)) hs ht hl hk hp (k:=k) hx
   have r1:cr s.eN.length 96=True:=qI;simp only[JQ,JP,bL,aG,aO] at la;simp only[O2,Qp,bL,br,aM,qs,r1,EW,seval];refine la (fun z=>?_)
   have lc:=fun {k Q} hx=>aaq (s:=s) (t:=t) (Q:=Q) (c:=IntKind.i64.wrap (s.tick+1)) hs ht hl (P:=aaT s t (IntKind.i64.wrap (s.tick+1))) (k:=k) hx
   simp only[JQ,JP,bL,aG,aO] at lc;simp only[Qp,EW,seval];refine lc (fun z=>?_)
   simp only[Qp,af,aD,EW,seval];exact⟨_,rfl,rfl⟩
  ·simp only[O2,Qp,bL,br,aM,qs,aE,EW,seval];exact⟨_,rfl,rfl⟩
 obtain⟨_,rfl,h3⟩:=key;exact aB h3
def c79(s:iQ)(ar:Int)(hs:s.now.ae.length<=100000)(hk:s.dV.length<=16):∃i e,aq cd 79 [.agg (bL s),aF ar] []=some (.tuple [.agg (bL (takeN s ar).1),aF i,aF e],[]):=by
 have qg:=fun M=>A5 s.now.ae s.now.next s.now.ak ar hs M
 unfold takeN bl;generalize (find s.now.ae ar).getD Node.zero=n at qg;cases h1:(find s.now.ae ar).isSome<;>rw[h1] at qg
 ·refine⟨0,70,aB ?_⟩;simp only[Ll,E79,bL,bK,aL,qg,dC,aE,EW,seval]
 cases h2:n.kind != 2
 case true =>
  refine⟨0,73,aB ?_⟩;simp only[Ll,E79,bL,bK,aL,qg,h2,ct,af,aE,aD,EW,seval]
 simp only[pZ];cases h3:decide (16<=(s.dV.length:Int))
 case true =>
  refine⟨0,76,aB ?_⟩;simp only[Ll,E79,bL,bK,aL,qg,h2,h3,ct,dI,af,aE,aD,EW,seval]
 cases h4:decide (1099511627776<=s.next)
 case true =>
  refine⟨0,76,aB ?_⟩;simp only[Ll,E79,bL,bK,aL,qg,h2,h3,h4,ct,eu,af,aE,aD,EW,seval]
 have h16:s.dV.length<16:=by simp at h3; omega
 have r1:cr s.dV.length 24=True:=qI;have r2:cr (s.dV.length+1) 24=True:=qI;refine⟨s.next,0,aB ?_⟩
 simp only[Ll,E79,bL,bK,aL,qg,h2,h3,h4,r1,r2,aZ,kO,ct,fH,af,aD,EW,seval];rw[show ke (s.dV++[⟨s.next,ar,s.tick⟩]) = gA (s.dV.map kO++[.agg [aF s.next,aF ar,aF s.tick]]) by simp[kO,iC]]
end
def tG(ae:List Node)(i:Int):Prop:=∃n,find ae i=some n/\n.kind=1
def Zr(ae:List Node):Prop:=oS ae/\¬tG ae 0
def KF(a b:List Node):Prop:=Zr b/\∀i,tG a i->tG b i
theorem KF.trans{a b c:List Node}(h:KF a b)(k:KF b c):KF a c:=⟨k.1,fun i hi=>k.2 i (h.2 i hi)⟩
def Rt.zr{t:Tree}(h:Rt t):Zr t.ae:=by
 obtain⟨dE,g⟩:=h;exact⟨g.lI.mj,fun⟨n,h1,_⟩=>by have:=(g.num _ _ h1).1; omega⟩
def KF.refl{a:List Node}(h:Zr a):KF a a:=⟨h,fun _ hi=>hi⟩
def DN{ae:List Node}(h:oS ae){n:Node}(hn:tG ae n.ar->n.kind=1){i:Int}(hi:tG ae i):tG (eV ae n) i:=by
 unfold tG;rw[gq h];split
 ·rename_i e; exact⟨n,rfl,hn (e▸hi)⟩
 ·exact hi
def Zr.edit{ae:List Node}(h:Zr ae)(d:Int){n:Node}(h1:n.ar=(bl ae d).ar)(h2:n.kind=(bl ae d).kind):KF ae (eV ae n):=by
 have key:∀i,tG ae i->i=n.ar->n.kind=1:=by
  intro i hi e;cases hd:find ae d with
  |none =>
   have:bl ae d=Node.zero:=by simp[bl,hd]
   rw[h1,this] at e;subst e;exact absurd hi h.2
  |some m =>
   have:bl ae d=m:=by simp[bl,hd]
   rw[this] at h1 h2;have hm:=(cG hd).2;obtain⟨x,g1,g2⟩:=hi;rw[e,h1,hm,hd] at g1;injection g1 with g1
   rw[h2,g1]; exact g2
 refine⟨⟨lJ h.1 n,fun⟨x,g1,g2⟩=>?_⟩,fun i hi=>DN h.1 (fun hf=>key _ hf rfl) hi⟩
 rw[gq h.1] at g1;split at g1
 ·rename_i e;injection g1 with g1
  subst g1;cases hd:find ae d with
  |none =>
   have:bl ae d=Node.zero:=by simp[bl,hd]
   rw[h2,this] at g2;cases g2
  |some m =>
   have:bl ae d=m:=by simp[bl,hd]
   rw[this] at h1 h2;have hm:=(cG hd).2;exact h.2 ⟨m,by rw[e,h1,hm]; exact hd,by rw[<-h2]; exact g2⟩
 ·exact h.2 ⟨x,g1,g2⟩
def Zr.BS{ae:List Node}(h:Zr ae)(d:Int){n:Node}(h1:n.ar=(bl ae d).ar)(h2:n.kind=(bl ae d).kind){i:Int}(hi:tG (eV ae n) i):tG ae i:=by
 obtain⟨x,g1,g2⟩:=hi;rw[gq h.1] at g1;split at g1
 ·rename_i e;injection g1 with g1
  subst g1;cases hd:find ae d with
  |none =>
   have:bl ae d=Node.zero:=by simp[bl,hd]
   rw[h2,this] at g2;cases g2
  |some m =>
   have:bl ae d=m:=by simp[bl,hd]
   rw[this] at h1 h2;exact⟨m,by rw[e,h1,(cG hd).2]; exact hd,by rw[<-h2]; exact g2⟩
 ·exact⟨x,g1,g2⟩
def Zr.EG{ae:List Node}(h:Zr ae)(k:Int){i:Int}(hi:tG (fp ae k) i):tG ae i:=by
 unfold fp at hi;split at hi
 ·obtain⟨x,g1,g2⟩:=hi;rw[mh h.1] at g1;split at g1
  ·cases g1
  ·exact⟨x,g1,g2⟩
 ·exact h.BS k (by rfl) (by rfl) hi
def Zr.uT{ae:List Node}(h:Zr ae)(k:Int):Zr (fQ ae k)/\∀i,tG ae i->i≠k->tG (fQ ae k) i:=by
 refine⟨⟨rK h.1 k,fun⟨x,g1,g2⟩=>?_⟩,fun i hi hk=>?_⟩
 ·rw[mh h.1] at g1;split at g1
  ·cases g1
  ·exact h.2 ⟨x,g1,g2⟩
 ·unfold tG;rw[mh h.1,aP hk]; exact hi
def Zr.unnamed{ae:List Node}(h:Zr ae)(k:Int):KF ae (fp ae k):=by
 unfold fp;split
 ·rename_i hk;obtain⟨g1,g2⟩:=h.uT k;refine⟨g1,fun i hi=>g2 i hi ?_⟩
  rintro rfl;obtain⟨n,h1,h2⟩:=hi;simp[bl,h1,h2] at hk
 ·exact h.edit k rfl rfl
def I8{t:Tree}(h:Rt t)(k:Int){i:Int}(hi:tG t.ae i)(hk:i≠k):tG (kC t k).1.ae i:=by
 unfold kC
 repeat' split
 all_goals first|exact hi|exact(h.zr.uT k).2 i hi hk
def Zr.left{ae:List Node}(h:Zr ae)(d:Int)(s:Bytes):KF ae (dv ae d s):=h.edit d rfl rfl
def Zr.nH{t:Tree}(h:Zr t.ae)(d:Int)(s:Bytes)(o:Int):KF t.ae (iq t d s o).ae:=h.edit d rfl rfl
def SK{t:Tree}(h:Rt t)(d:Int)(s:Bytes)(k:Int):KF t.ae (rR t d s k).1.ae:=by
 have hz:=h.zr;unfold rR;split
 ·exact KF.refl hz
 split
 ·exact KF.refl hz
 split
 ·exact KF.refl hz
 ·obtain⟨dE,g⟩:=h;have h0:¬tG t.ae t.next:=fun⟨n,h1,_⟩=>by have:=(g.num _ _ h1).2; omega
  have h1:1<=t.next:=by
   obtain⟨r,g1,_⟩:=g.root;have:=(g.num _ _ g1).2; omega
  have hw:KF t.ae (eV t.ae ⟨t.next,k,1,[],[],if k==2 then d else 0⟩):=by
   refine⟨⟨lJ hz.1 _,fun⟨x,g1,g2⟩=>?_⟩,fun i hi=>DN hz.1 (fun hf=>absurd hf h0) hi⟩
   rw[gq hz.1,aP (show ¬((0:Int)=t.next) by omega)] at g1
   exact hz.2 ⟨x,g1,g2⟩
  exact hw.trans (Zr.nH (t:=⟨_,nq (t.next+1),t.ak⟩) hw.1 d s t.next)
def Y2{t:Tree}(h:Rt t)(i d:Int)(s:Bytes):KF t.ae (CA t i d s).1.ae:=by
 have hz:=h.zr;unfold CA;split
 ·exact KF.refl hz
 split
 ·exact KF.refl hz
 split
 ·exact KF.refl hz
 ·have hw:KF t.ae (eV t.ae { bl t.ae i with ep:=nq ((bl t.ae i).ep+1) }):=hz.edit i rfl rfl
  exact hw.trans (Zr.nH (t:=⟨_,t.next,t.ak⟩) hw.1 d s i)
def Y4{t:Tree}(h:Rt t)(d:Int)(s:Bytes):KF t.ae (BC t d s).1.ae:=by
 have hz:=h.zr;unfold BC;split
 ·exact KF.refl hz
 split
 ·exact KF.refl hz
 ·exact(hz.left d s).trans ((hz.left d s).1.unnamed _)
def Jb{t:Tree}(h:Rt t)(i:Int)(d:Bytes):KF t.ae (rO t i d).1.ae:=by
 have hz:=h.zr;unfold rO;split
 ·exact KF.refl hz
 split
 ·exact KF.refl hz
 split
 ·exact KF.refl hz
 ·exact hz.edit i rfl rfl
def Y3{t:Tree}(h:Rt t)(d:Int)(s:Bytes)(to:Int)(nm:Bytes):KF t.ae (wM t d s to nm).1.ae:=by
 have hz:=h.zr;unfold wM;split
 ·exact KF.refl hz
 split
 ·exact KF.refl hz
 split
 ·exact KF.refl hz
 split
 ·exact KF.refl hz
 split
 ·exact KF.refl hz
 split
 ·exact KF.refl hz
 split
 ·exact KF.refl hz
 ·generalize (fh t.ae d s).1=x;generalize jg (gY t.ae to).1.bc nm=y;unfold tc;have h1:=hz.left d s
  have h2:KF t.ae (if y != 0 then fp (dv (dv t.ae d s) to nm) y else dv t.ae d s):=by
   split
   ·exact h1.trans ((h1.1.left to nm).trans ((h1.1.left to nm).1.unnamed y))
   ·exact h1
  split
  ·rename_i hk
   have hx:∃m,find t.ae x=some m/\bl t.ae x=m:=by
    cases hf:find t.ae x with
    |none=>simp[bl,hf,Node.zero] at hk
    |some m=>exact⟨m,rfl,by simp[bl,hf]⟩
   obtain⟨m,m1,m2⟩:=hx;rw[m2] at hk ⊢;have hmi:=(cG m1).2;have hmk:m.kind=2:=by simpa using hk
   have hb:∀i,tG (if y != 0 then fp (dv (dv t.ae d s) to nm) y else dv t.ae d s) i->tG t.ae i:=by
    intro i hi;split at hi
    ·exact hz.BS d (by rfl) (by rfl) (h1.1.BS to (by rfl) (by rfl) ((h1.1.left to nm).1.EG y hi))
    ·exact hz.BS d (by rfl) (by rfl) hi
   generalize (if y != 0 then fp (dv (dv t.ae d s) to nm) y else dv t.ae d s)=B at h2 hb
   have hw:KF B (eV B { m with up:=to }):=by
    refine⟨⟨lJ h2.1.1 _,fun⟨z,g1,g2⟩=>?_⟩,fun i hi=>DN h2.1.1 (fun hf=>?_) hi⟩
    ·rw[gq h2.1.1] at g1;split at g1
     ·injection g1 with g1
      rw[<-g1] at g2;simp only at g2;omega
     ·exact h2.1.2 ⟨z,g1,g2⟩
    ·simp only at hf;rw[hmi] at hf;obtain⟨z,g1,g2⟩:=hb _ hf;rw[m1] at g1; injection g1 with g1
     rw[<-g1] at g2;omega
   exact(h2.trans hw).trans (Zr.nH (t:=⟨_,t.next,t.ak⟩) hw.1 to nm x)
  ·exact h2.trans (Zr.nH (t:=⟨_,t.next,t.ak⟩) h2.1 to nm x)
def Mk(ae:List Node)(m:List Bool)(v:Int):Prop:=∀(a:Nat)(y:Node),ae[a]?=some y->y.ar=v->m[a]?=some true
def Clo(ae:List Node)(ar:Int)(m:List Bool):Prop:=∀(i:Nat)(x:Node),ae[i]?=some x->(x.ar=ar\/m[i]?=some true)->∀e,e∈x.bc->Mk ae m e.ar
def nT(m:List Bool):Nat:=m.countP id
def ag3{m:List Bool}{a:Nat}(h:m[a]?=some false):nT (m.set a true)=nT m+1:=by
 have ha:=(aj.1 h).1;have hv:=(aj.1 h).2;unfold nT;rw[List.countP_set ha];simp[hv]
def aec{ae:List Node}(h:oS ae){a b:Nat}{x y:Node}(hx:ae[a]?=some x)(hy:ae[b]?=some y)(e:x.ar=y.ar):a=b:=by
 obtain⟨ha,rfl⟩:=aj.1 hx;obtain⟨hb,rfl⟩:=aj.1 hy;rcases iZ a b with h1|h1|h1
 ·have:=cm.1 h _ _ ha hb h1; omega
 ·exact h1
 ·have:=cm.1 h _ _ hb ha h1; omega
def aeL{t:Tree}{dE:Int->Nat}(h:dX t dE 0){ar:Int}{m:List Bool}(hc:Clo t.ae ar m){v:Int}(hv:InB t.ae ar v):Mk t.ae m v:=by
 have step:∀ {d:Node},d∈t.ae->(d.ar=ar\/Mk t.ae m d.ar)->∀e,e∈d.bc->Mk t.ae m e.ar:=fun hd ho e he=>by
  obtain⟨a,ha⟩:=bZ hd;exact hc a _ ha (ho.imp id fun hk=>hk a _ ha rfl) e he
 have key:∀(c:Nat)(i:Int)(n:Node),find t.ae i=some n->n.kind=2->dE i=c->iM t.ae i ar=true->i=ar\/Mk t.ae m i:=by
  intro c;induction c with
  |zero =>
   intro i n hi hk hd hb
   by_cases ho:i=ar
   ·exact .inl ho
   ·by_cases h1:i=1
    ·subst h1;rw[dX.qK (fun hh=>ho hh.symm)] at hb; cases hb
    ·have:=(h.qE _ _ hi hk h1).1; omega
  |succ c ih =>
   intro i n hi hk hd hb
   by_cases ho:i=ar
   ·exact .inl ho
   ·right;have h1:i≠1:=fun hh=>by subst hh; have:=h.Ct; omega
    rw[h.sr hi hk h1 ho] at hb;obtain⟨a,q,hq,hqk⟩:=h.qE _ _ hi hk h1;obtain⟨p,e',p1,p2,p3,p4⟩:=h.named hi hk h1 (by have:=(h.num _ _ hi).1; omega)
    have hp:=ih n.up p p1 p2 aH hb;have:=step (cG p1).1 (by rw[(cG p1).2]; exact hp) e' p3
    rwa[p4] at this
 obtain⟨d,e,hd,hk,hb,he,rfl⟩:=hv;exact step hd (key _ _ d ((ij h.lI.mj).2 ⟨hd,rfl⟩) hk rfl hb) e he
def ahI{ae:List Node}:∀ {a b:List Bool},a.length=ae.length->b.length=ae.length->(∀i:Nat,a[i]?=some true->b[i]?=some true)->nT a<=nT b/\HE ae a<=HE ae b:=by
 induction ae with
 |nil =>
  intro a b ha hb _;rw[dD ha,dD hb];exact⟨au _,au _⟩
 |cons n r ih =>
  intro a b ha hb hab;cases a with
  |nil=>cases ha
  |cons x a =>
  cases b with
  |nil=>cases hb
  |cons y b =>
  obtain⟨h1,h2⟩:=ih (a:=a) (b:=b) (by simpa using ha) (by simpa using hb) fun i hi=>by simpa using hab (i+1) (by simpa using hi)
  have h0:x=true->y=true:=fun e=>by simpa using hab 0 (by simp[e])
  simp only[nT,HE] at h1 h2 ⊢;simp only[lQ,List.zip_cons_cons,aK,List.sum_cons,id] at h1 h2 ⊢;cases x<;>cases y<;>simp at h0 ⊢ <;> omega
def Q9{t:Tree}(hr:Rt t){ar:Int}{m:List Bool}(hm:m.length=t.ae.length)(hc:Clo t.ae ar m):(lk t.ae ar).1<=nT m/\(lk t.ae ar).2<=HE t.ae m:=by
 rw[HB hr];obtain⟨dE,h⟩:=hr;obtain⟨q,h1,h2⟩:=w7 t.ae ar
 have:=ahI (ae:=t.ae) (a:=sy t.ae ar) (b:=m) (by rw[h1]; simp) hm fun i hi=>by
  rw[h1,aX] at hi;obtain⟨n,hn,hq⟩:=aV.1 hi;exact aeL h hc ((h2 n).1 hq) i n hn rfl
 unfold nT at this ⊢;unfold OJ;simp only;omega
def YT{l:List dU}(h:pt l)(ar:Int):FT l ar=true↔∃x,x∈l/\x.ar=ar:=by
 have hl:=x4 h ar;unfold FT pg
 have hc:∀a b:Int,(qM a b==0)=true↔a=b:=fun a b=>by
  unfold qM;simp only[bh,dZ];split
  ·constructor<;>intro<;>omega
  split
  ·constructor<;>intro<;>omega
  ·constructor<;>intro<;>omega
 have cJ:∀a b:Int,decide (qM a b<0)=true↔a<b:=fun a b=>by
  unfold qM;simp only[bh];split
  ·constructor<;>intro<;>omega
  split
  ·constructor<;>intro<;>omega
  ·constructor<;>intro<;>omega
 constructor
 ·intro hq;split at hq
  ·rename_i x hx;exact⟨x,aI hx,(hc _ _).1 hq⟩
  ·cases hq
 ·rintro⟨x,hx,rfl⟩;obtain⟨i,hi⟩:=bZ hx;have h1:=hl.lt i x hi;rw[cJ] at h1
  have hge:wI l x.ar<=i:=by
   rcases bE i (wI l x.ar) with h2|h2
   ·have:=h1.2 h2; omega
   ·exact h2
  have hil:=(aj.1 hi).1;have hb:l[wI l x.ar]?=some (l[wI l x.ar]'(by omega)):=ai _;rw[hb];simp only;rw[hc];rcases bE (wI l x.ar) i with h2|h2
  ·have h3:=hl.lt _ _ hb;rw[cJ] at h3;have h4:=cm.1 h _ _ aH hil h2;have h5:=(aj.1 hi).2;rw[h5] at h4;have:=h3.1 h4;omega
  ·have:wI l x.ar=i:=aH;have h5:=(aj.1 hi).2;simp only[this,h5]
def Dm{t:Tree}{dE:Int->Nat}(h:dX t dE 0)(l:List dU):∀(f g:Nat)(i:Int)(n:Node),find t.ae i=some n->n.kind=2->dE i<f->dE i<g->sA t.ae l f i=sA t.ae l g i
 |0,_,_,_,_,_,hf,_=>aH
 |_+1,0,_,_,_,_,_,hg=>aH
 |f+1,g+1,i,n,hi,hk,hf,hg=>by
  rw[sA,sA];split
  ·rfl
  split
  ·rename_i h1;obtain⟨a,p,p1,p2⟩:=h.qE _ _ hi hk (by simpa using h1)
   have hn:bl t.ae i=n:=by simp[bl,hi]
   rw[hn];exact Dm h l f g n.up p p1 p2 aH aH
  ·rfl
def K1{t:Tree}{dE:Int->Nat}(h:dX t dE 0)(l:List dU){i:Int}{n:Node}(hi:find t.ae i=some n)(hk:n.kind=2):mf t.ae l i=if FT l i then i else if i=1 then 0 else mf t.ae l n.up:=by
 have hn:bl t.ae i=n:=by simp[bl,hi]
 unfold mf
 conv=>lhs; rw[sA]
 rw[hn]
 by_cases h1:i=1
 ·simp[h1]
 ·obtain⟨a,p,p1,p2⟩:=h.qE _ _ hi hk h1;have hd:=(h.deep _ _ hi hk).1;have h1':(i != 1)=true:=by simpa using h1
  rw[h1'];simp only[aE,h1,aD];rw[Dm h l 12 13 n.up p p1 p2 aH aH]
def Il{t:Tree}{dE:Int->Nat}(h:dX t dE 0)(l:List dU):∀(f:Nat)(i:Int)(n:Node),find t.ae i=some n->n.kind=2->0<=sA t.ae l f i
 |0,_,_,_,_=>dP 0
 |f+1,i,n,hi,hk=>by
  rw[sA];split
  ·have:=(h.num _ _ hi).1; omega
  split
  ·rename_i h1;obtain⟨_,p,p1,p2⟩:=h.qE _ _ hi hk (by simpa using h1)
   have hn:bl t.ae i=n:=by simp[bl,hi]
   rw[hn];exact Il h l f n.up p p1 p2
  ·exact dP 0
def OD(t:Tree)(l:List dU):Prop:=∀d1 e1 d2 e2 x,d1∈t.ae->e1∈d1.bc->d2∈t.ae->e2∈d2.bc->e1.ar=e2.ar->find t.ae e1.ar=some x->x.kind=1->mf t.ae l d1.ar=mf t.ae l d2.ar
def w8{t u:Tree}{dE:Int->Nat}(h:dX t dE 0)(hk:∀i n,find t.ae i=some n->n.kind=2->(bl u.ae i).up=n.up)(l:List dU):∀(f:Nat)(i:Int)(n:Node),find t.ae i=some n->n.kind=2->sA u.ae l f i=sA t.ae l f i
 |0,_,_,_,_=>rfl
 |f+1,i,n,hi,hk2=>by
  have h1:bl t.ae i=n:=by simp[bl,hi]
  rw[sA,sA,h1,hk _ _ hi hk2];split
  ·rfl
  split
  ·rename_i hne;obtain⟨_,p,p1,p2⟩:=h.qE _ _ hi hk2 (by simpa using hne)
   exact w8 h hk l f n.up p p1 p2
  ·rfl
def dX.Rl{t:Tree}{dE:Int->Nat}(h:dX t dE 0){d:Node}{e:gM}(hd:d∈t.ae)(he:e∈d.bc):find t.ae d.ar=some d/\d.kind=2:=by
 have hf:=(ij h.lI.mj).2 ⟨hd,rfl⟩;refine⟨hf,?_⟩;rcases h.kind _ _ hf with h1|h1
 ·rw[(h.file _ _ hf h1).1] at he; cases he
 ·exact h1
def XD(ae:List Node)(i:Int):Prop:=∃n,find ae i=some n/\n.kind=2
def RF(a b:List Node):Prop:=∀i,tG b i->tG a i\/find a i=none
def XD.no{a:List Node}{i:Int}(h:XD a i)(hf:tG a i\/find a i=none):False:=by
 obtain⟨n,h1,h2⟩:=h;rcases hf with ⟨m,g1,g2⟩|h3
 ·rw[h1] at g1; cases g1; omega
 ·rw[h1] at h3; cases h3
def Rt.XD{t:Tree}(h:Rt t){i:Int}{n:Node}(hn:find t.ae i=some n)(hf:¬tG t.ae i):XD t.ae i:=by
 obtain⟨dE,g⟩:=h;rcases g.kind _ _ hn with hk|hk
 ·exact absurd ⟨n,hn,hk⟩ hf
 ·exact⟨n,hn,hk⟩
def Zr.B3{ae:List Node}(h:Zr ae)(d:Int)(s:Bytes){i:Int}(hi:tG (dv ae d s) i):tG ae i:=h.BS d (by rfl) (by rfl) hi
def Zr.zD{t:Tree}(h:Zr t.ae)(d:Int)(s:Bytes)(o:Int){i:Int}(hi:tG (iq t d s o).ae i):tG t.ae i:=h.BS d (by rfl) (by rfl) hi
def ahx{t:Tree}(h:Rt t)(d:Int)(s:Bytes)(k:Int):RF t.ae (rR t d s k).1.ae:=by
 have hz:=h.zr;intro i hi;unfold rR at hi;split at hi
 ·exact .inl hi
 split at hi
 ·exact .inl hi
 split at hi
 ·exact .inl hi
 ·obtain⟨dE,g⟩:=h
  have h0:find t.ae t.next=none:=by
   cases hf:find t.ae t.next with
   |none=>rfl
   |some n=>have:=(g.num _ _ hf).2; omega
  have h1:1<=t.next:=by
   obtain⟨r,g1,_⟩:=g.root;have:=(g.num _ _ g1).2; omega
  have hw:Zr (eV t.ae ⟨t.next,k,1,[],[],if k==2 then d else 0⟩):=by
   refine⟨lJ hz.1 _,fun⟨x,g1,g2⟩=>?_⟩
   rw[gq hz.1,aP (show ¬((0:Int)=t.next) by omega)] at g1
   exact hz.2 ⟨x,g1,g2⟩
  obtain⟨x,g1,g2⟩:=Zr.zD (t:=⟨_,nq (t.next+1),t.ak⟩) hw d s t.next hi
  have g1:find (eV t.ae ⟨t.next,k,1,[],[],if k==2 then d else 0⟩) i=some x:=g1
  rw[gq hz.1] at g1
  by_cases e:i=t.next
  ·right; rw[e]; exact h0
  ·rw[aP e] at g1; exact .inl ⟨x,g1,g2⟩
def anw{t:Tree}(h:Rt t)(j d:Int)(s:Bytes):RF t.ae (CA t j d s).1.ae:=by
 have hz:=h.zr;intro i hi;unfold CA at hi;split at hi
 ·exact .inl hi
 split at hi
 ·exact .inl hi
 split at hi
 ·exact .inl hi
 ·have hw:KF t.ae (eV t.ae { bl t.ae j with ep:=nq ((bl t.ae j).ep+1) }):=hz.edit j rfl rfl
  exact .inl (hz.BS j (by rfl) (by rfl) (Zr.zD (t:=⟨_,t.next,t.ak⟩) hw.1 d s j hi))
def anz{t:Tree}(h:Rt t)(d:Int)(s:Bytes):RF t.ae (BC t d s).1.ae:=by
 have hz:=h.zr;intro i hi;unfold BC at hi;split at hi
 ·exact .inl hi
 split at hi
 ·exact .inl hi
 ·exact .inl (hz.B3 d s ((hz.left d s).1.EG _ hi))
def WN{t:Tree}(h:Rt t)(j:Int)(d:Bytes):RF t.ae (rO t j d).1.ae:=by
 have hz:=h.zr;intro i hi;unfold rO at hi;split at hi
 ·exact .inl hi
 split at hi
 ·exact .inl hi
 split at hi
 ·exact .inl hi
 ·exact .inl (hz.BS j (by rfl) (by rfl) hi)
def anx{t:Tree}(h:Rt t)(d:Int)(s:Bytes)(to:Int)(nm:Bytes):RF t.ae (wM t d s to nm).1.ae:=by
 have hz:=h.zr;intro i hi;left;unfold wM at hi;split at hi
 ·exact hi
 split at hi
 ·exact hi
 split at hi
 ·exact hi
 split at hi
 ·exact hi
 split at hi
 ·exact hi
 split at hi
 ·exact hi
 split at hi
 ·exact hi
 ·generalize (fh t.ae d s).1=x at hi;generalize jg (gY t.ae to).1.bc nm=y at hi;unfold tc at hi;have h1:=hz.left d s
  have hb:∀i,tG (if y != 0 then fp (dv (dv t.ae d s) to nm) y else dv t.ae d s) i->tG t.ae i:=by
   intro i hi;split at hi
   ·exact hz.B3 d s (h1.1.B3 to nm ((h1.1.left to nm).1.EG y hi))
   ·exact hz.B3 d s hi
  have h2:Zr (if y != 0 then fp (dv (dv t.ae d s) to nm) y else dv t.ae d s):=by
   split
   ·exact((h1.1.left to nm).1.unnamed y).1
   ·exact h1.1
  refine hb i ?_;generalize (if y != 0 then fp (dv (dv t.ae d s) to nm) y else dv t.ae d s)=B at h2 hi
  split at hi
  ·rename_i hk;have hk2:(bl t.ae x).kind=2:=by simpa using hk
   have hw:∀j,tG (eV B { bl t.ae x with up:=to }) j->tG B j:=by
    rintro j ⟨z,g1,g2⟩;rw[gq h2.1] at g1;split at g1
    ·injection g1 with g1
     rw[<-g1] at g2;simp only at g2;omega
    ·exact⟨z,g1,g2⟩
   exact hw _ (Zr.zD (t:=⟨_,t.next,t.ak⟩) ⟨lJ h2.1 _,fun hf=>h2.2 (hw _ hf)⟩ to nm x hi)
  ·exact Zr.zD (t:=⟨_,t.next,t.ak⟩) h2 to nm x hi
def AN{t:Tree}(h:Rt t)(k i:Int):find (kC t k).1.ae i=if i=k/\∃n,find t.ae k=some n/\gV n=true then none else find t.ae i:=by
 have hz:=h.zr;obtain⟨dE,g⟩:=h;unfold kC;cases hf:find t.ae k with
 |none=>simp
 |some n =>
  have hn:bl t.ae k=n:=by simp[bl,hf]
  have hl:=g.ep _ _ hf;simp only[bX,ct,af,aD,hn];rcases g.kind _ _ hf with hk|hk
  ·have h1:(n.kind==2)=false:=by simp[hk]
   simp only[h1,af,aD];split
   ·rename_i h2;have h2':0<n.ep:=by simpa using h2
    have:gV n=false:=by simp[gV,hk]; omega
    simp[this]
   ·rename_i h2;have h2':¬0<n.ep:=by simpa using h2
    have h3:0<=n.ep:=by rw[hl]; split<;>omega
    have:gV n=true:=by simp[gV,hk]; omega
    rw[mh hz.1];simp[this]
  ·have h1:(n.kind==2)=true:=by simp[hk]
   have:gV n=false:=by simp[gV,hk]
   simp[h1,this]
def aaz{t:Tree}(hr:Rt t)(k:Int)(l:List dU)(ho:OD t l):OD (kC t k).1 l:=by
 have hf:=AN hr k;have hu:=(hr.free k).lI.mj;obtain⟨dE,h⟩:=hr
 have back:∀ {d:Node},d∈(kC t k).1.ae->d∈t.ae:=fun hd=>by
  have h1:=(ij hu).2 ⟨hd,rfl⟩;rw[hf] at h1;split at h1
  ·cases h1
  ·exact(cG h1).1
 have pO:∀i n,find t.ae i=some n->n.kind=2->(bl (kC t k).1.ae i).up=n.up:=fun i n h1 h2=>by
  unfold bl;rw[hf,aP,h1]
  ·rfl
  rintro⟨rfl,m,g1,g2⟩;rw[h1] at g1; cases g1;simp[gV,h2] at g2
 intro d1 e1 d2 e2 x h1 h2 h3 h4 h5 h6 h7;obtain⟨a1,a2⟩:=h.Rl (back h1) h2;obtain⟨b1,b2⟩:=h.Rl (back h3) h4
 have hx:find t.ae e1.ar=some x:=by
  rw[hf] at h6;split at h6
  ·cases h6
  ·exact h6
 unfold mf;rw[w8 h pO l 13 _ _ a1 a2,w8 h pO l 13 _ _ b1 b2];exact ho d1 e1 d2 e2 x (back h1) h2 (back h3) h4 h5 hx h7
def Hw:Bytes->Bytes->List Bytes->Option (List Bytes)
 | [],cur,out=>if !fY cur||(out.length:Int)==12 then none else some (out++[cur])
 |b::r,cur,out=>if (b.toNat:Int) != 47 then Hw r (cur++[b]) out else if !fY cur||(out.length:Int)==12 then none else Hw r [] (out++[cur])
def pU(s:Bytes):List Bytes×Int:=if s==[47] then ([],0) else match s with
 | []=>([],60)
 |b::r=>if (b.toNat:Int) != 47 then ([],60) else match Hw r [] [] with
  |none=>([],60)
  |some l=>(l,0)
section
attribute [local irreducible] eX fJ lj gK dY kr aq aR cp bI
def agZ{s:Bytes}(hs:s.length<=100000){k:List K}{R:Option (List Bytes)->Option (ag×aC)}
  (hx:∀(l:List Bytes) z,kr (aq cd) [.tmp 2,.tmp 3] 0 k ⟨.exit 0,(0,.str s)::(4,.slice (.own 0) (l.map .str))::z,[.tick 1 l.length]⟩=R (some l))
  (hr:∀n,kr (aq cd) [.tmp 2,.tmp 3] 0 k ⟨.ret,[(2,.slice .c0 []),(3,aF 60)],[.tick 1 n]⟩=R none) :
  ∀(rest:Bytes)(n m:Nat)(cur:Bytes)(out:List Bytes),s.drop m=rest->m+rest.length=s.length->n<=m->(s.take m).drop n=cur->out.length<=12 ->
   eX (aq cd) [.tmp 2,.tmp 3] 0 k (.loop [0,4,5,6] agT) [(0,.str s),(4,.slice (.own 0) (out.map .str)),(5,aF n),(6,aF m)] [.tick 1 out.length]=R (Hw rest cur out):=by
 intro rest;induction rest with
 |nil =>
  intro n m cur out h1 h2 h3 h4 h5;simp only[az,df] at h2;rw[bF];have e1:((m:Int)<=(s.length:Int))=True:=sH;have e2:((m:Int)<(s.length:Int))=False:=oyf;have e3:((n:Int)<=(m:Int))=True:=sH;have w1:IntKind.i64.wrap ((m:Int)+1)=(m:Int)+1:=gW aH aH;have e4:((m:Int)+1<=(s.length:Int))=False:=oyf;have hc:cur.length<=100000:=by rw[<-h4]; simp; omega
  have q:=fun M=>SH cur hc M
  have r1:cr (out.length+1) 16=True:=qI;have i1:=hx (out++[cur]);simp only[aZ,aK,aU,aA,av,az,aJ] at i1;rw[Hw]
  cases h6:fY cur<;>rw[h6] at q<;>cases h7:(out.length:Int)==12 <;>
   simp only[Qq,e1,e2,e3,h4,q,h7,dI,cV,eu,fG,aE,af,aD,EW,seval]<;>first|exact hr _|skip
  simp only[Qq,r1,w1,EW,seval];rw[bF];simp only[Qq,e4,EW,seval];exact i1 _
 |cons b r ih =>
  intro n m cur out h1 h2 h3 h4 h5;simp only[av] at h2;rw[bF];have e1:((m:Int)<=(s.length:Int))=True:=sH;have e2:((m:Int)<(s.length:Int))=True:=sH;have e3:((n:Int)<=(m:Int))=True:=sH;have w1:IntKind.i64.wrap ((m:Int)+1)=((m+1:Nat):Int):=by rw[gW aH aH]; rfl
  have hc:cur.length<=100000:=by rw[<-h4]; simp; omega
  have hb:s[m]?=some b:=by
   have:(s.drop m)[0]?=some b:=by rw[h1]; rfl
   simpa using this
  have hd:s.drop (m+1)=r:=by rw[<-List.drop_drop,h1]; rfl
  have hm:=(aj.1 hb).1
  have ht:(s.take (m+1)).drop n=cur++[b]:=by
   rw[cz,hb,kB,List.drop_append_of_le_length gh,h4]
  have q:=fun M=>SH cur hc M
  have r1:cr (out.length+1) 16=True:=qI;have i1:=ih n (m+1) (cur++[b]) out hd aH aH ht h5;have i2:=fun h=>ih (m+1) (m+1) [] (out++[cur]) hd aH aH dw h
  simp only[aZ,aK,aU,aA,av,az,aJ] at i2;rw[Hw];cases h8:(b.toNat:Int) != 47
  ·cases h6:fY cur<;>rw[h6] at q<;>cases h7:(out.length:Int)==12 <;>
    simp only[Qq,e1,e2,e3,h4,hb,h8,q,h7,dI,cV,eu,fG,aE,af,aD,EW,seval]<;>first|exact hr _|skip
   have h9:out.length+1<=12:=by simp at h7; omega
   simp only[Qq,r1,w1,EW,seval];exact i2 h9
  ·simp only[Qq,e1,e2,hb,h8,w1,aE,EW,seval];exact i1
def c85(s:Bytes)(hs:s.length<=100000):aq cd 85 [.str s] []=some (.tuple [dj (pU s).1,aF (pU s).2],[]):=by
 refine aB ?_;unfold pU;cases h0:s==[47]
 ·cases s with
  |nil=>simp only[O5,Qq,h0,af,aD,EW,seval]; rfl
  |cons b r =>
   have h1:((b::r)==[])=false:=rfl;cases h8:(b.toNat:Int) != 47
   ·have hl:=fun {k R} hx hr=>agZ hs (k:=k) (R:=R) hx hr r 1 1 [] [] rfl gh aH dw dw
    simp only[aU,az] at hl;simp only[O5,Qq,h0,h1,h8,af,aD,EW,seval];refine hl (R:=fun o=>some (.tuple [dj (match o with|none=>(([]:List Bytes),(60:Int))|some l=>(l,0)).1,aF (match o with|none=>(([]:List Bytes),(60:Int))|some l=>(l,0)).2],[])) (fun l z=>?_) (fun n=>?_)
    ·simp only[Qq,EW,seval]
    ·simp only[Qq,EW,seval]; rfl
   ·simp only[O5,Qq,h0,h1,h8,af,aD,aE,EW,seval]; rfl
 ·simp only[O5,Qq,h0,aE,EW,seval]; rfl
def k85 s hs:=cP (c85 s hs)
def yX(l:List Bytes)(s:Bytes):Bytes:=l.foldl (fun s x=>s++[47]++x) s
def Na(l:List Bytes):Bytes:=if (l.length:Int)==0 then [47] else yX l []
def DP:∀(l:List Bytes)(s:Bytes),(∀x,x∈l->x.length<=32)->(yX l s).length<=s.length+33*l.length
 | [],s,_=>by simp[yX]
 |x::l,s,h=>by
  have h1:=DP l (s++[47]++x) fun y hy=>h y (bw _ hy)
  have h2:=h x bD;simp only[yX,ei,aA,av,az] at h1 ⊢;omega
def aql(l:List Bytes)(hl:l.length<=100)(h:∀x,x∈l->x.length<=32):aq cd 170 [dj l] []=some (.str (Na l),[]):=by
 refine aB ?_;unfold Na;cases h0:(l.length:Int)==0<;>simp only[acn,XO,h0,af,aD,aE,EW,seval]
 have key:∀ {k:List K} {R:Bytes->Option (ag×aC)} (hx:∀s z,kr (aq cd) [.tmp 2] 0 k ⟨.exit 0,(0,dj l)::(3,.str s)::z,[]⟩=R s) (rest pre:List Bytes) (s:Bytes),l=pre++rest->s.length<=33*pre.length->eX (aq cd) [.tmp 2] 0 k (.loop [0,3,4] Zz) [(0,dj l),(3,.str s),(4,aF pre.length)] []=R (yX rest s):=by
  intro k R hx rest;induction rest with
  |nil =>
   intro pre s e _;rw[bF];simp only[XO,jJ e,yX,mX,EW,seval];exact hx _ _
  |cons x r ih =>
   intro pre s e hs;rw[bF];have hxl:=h x (by rw[e]; simp)
   have hp:pre.length+1<=100:=by rw[e] at hl; simp at hl; omega
   have hw:=zl pre x;have i1:=ih (pre++[x]) (s++[47]++x) (by rw[e]; simp) gh
   have m1:(IntKind.i64.max<((s.length+1:Nat):Int))=False:=max_lt _ aH;have m2:(IntKind.i64.max<((s.length+1+x.length:Nat):Int))=False:=max_lt _ aH;simp only[aA,av,az,aJ] at i1;simp only[yX,ei] at i1 ⊢;simp only[XO,iP e,gU e,hw,m1,m2,EW,seval];exact i1
 exact key (R:=fun s=>some (.str s,[])) (fun s z=>by simp only[XO,EW,seval]) l [] [] rfl dw
def asm l hl h:=cP (aql l hl h)
def aa8:∀(rest cur:Bytes)(out l:List Bytes),Hw rest cur out=some l->(∀x,x∈out->fY x=true)->out.length<=12->(∀x,x∈l->fY x=true)/\l.length<=12:=by
 have key:∀(cur:Bytes)(out:List Bytes),¬(!fY cur||(out.length:Int)==12)=true->(∀x,x∈out->fY x=true)->out.length<=12->(∀x,x∈out++[cur]->fY x=true)/\(out++[cur]).length<=12:=by
  intro cur out h1 h2 h3;simp only[cU,gN,dZ,o4,Bool.not_eq_false] at h1;refine⟨fun x hx=>?_,gh⟩
  rcases bo.1 hx with hx|hx
  ·exact h2 x hx
  ·rw[bQ.1 hx]; exact h1.1
 intro rest;induction rest with
 |nil =>
  intro cur out l h h1 h2;rw[Hw] at h;split at h
  ·cases h
  ·rename_i hc;cases h;exact key cur out hc h1 h2
 |cons b r ih =>
  intro cur out l h h1 h2;rw[Hw] at h;split at h
  ·exact ih _ _ _ h h1 h2
  split at h
  ·cases h
  ·rename_i hc;obtain⟨k1,k2⟩:=key cur out hc h1 h2;exact ih _ _ _ h k1 k2
def ya(s:Bytes):(∀x,x∈(pU s).1->fY x=true)/\(pU s).1.length<=12:=by
 unfold pU;split
 ·simp
 split
 ·simp
 split
 ·simp
 split
 ·simp
 ·rename_i h;exact aa8 _ _ _ _ h dw dw
def B1(s:Bytes):Bytes×Bytes×Int:=if (pU s).2 != 0||(((pU s).1.length:Int)==0) then ([],[],60) else ((pU s).1.getLast?.getD [],Na (pU s).1.dropLast,0)
def apD(s:Bytes)(hs:s.length<=100000):aq cd 116 [.str s] []=some (.tuple [.str (B1 s).1,.str (B1 s).2.1,aF (B1 s).2.2],[]):=by
 refine aB ?_;have q:=fun M=>k85 s hs M
 obtain⟨o1,o2⟩:=ya s;unfold B1;generalize pU s=X at q o1 o2;obtain⟨l,e⟩:=X;simp only at q o1 o2 ⊢;cases h1:e != 0
 ·cases h2:(l.length:Int)==0
  ·obtain⟨A,x,rfl⟩:∃A x,l=A++[x]:=by
    refine⟨l.dropLast,l.getLast (by rintro rfl; simp at h2),(List.dropLast_concat_getLast _).symm⟩
   have qj:=fun M=>asm A (by simp at o2; omega) (fun y hy=>qO (o1 y (by simp[hy]))) M
   simp only[aA,av,az,aJ] at h2 o2;have w1:IntKind.i64.wrap (((A.length+1:Nat):Int)-1)=(A.length:Int):=by rw[gW aH aH]; omega
   have a1:(A++[x])[A.length]?=some x:=dw;have a2:((A.length:Int)<((A.length+1:Nat):Int))=True:=sH;have a3:((A.length:Int)<=((A.length+1:Nat):Int))=True:=sH;have a4:((A.length:Int)<0)=False:=dw;have a5:(A++[x]).take A.length=A:=dw;simp only[ML,adN,q,h1,h2,w1,a2,a3,a4,a1,<-eP,a5,qj,fH,fG,af,aD,List.getLast?_append,List.getLast?_singleton,List.dropLast_concat,bj,Option.or_some,Option.some_or,EW,seval]
  ·simp only[ML,adN,q,h1,h2,eu,cV,aE,EW,seval]
 ·simp only[ML,adN,q,h1,dI,aE,EW,seval]
def An(ae:List Node):List Bytes->Int->Int×Int
 | [],a=>(a,0)
 |x::r,a=>if (fh ae a x).2 != 0 then (0,(fh ae a x).2) else An ae r (fh ae a x).1
def Cn(ae:List Node)(s:Bytes):Int×Int:=if (pU s).2 != 0 then (0,(pU s).2) else An ae (pU s).1 1
def c66(t:Tree)(s:Bytes)(ht:Small t)(hs:s.length<=100000):aq cd 66 [br t,.str s] []=some (.tuple [aF (Cn t.ae s).1,aF (Cn t.ae s).2],[]):=by
 refine aB ?_;have q:=fun M=>k85 s hs M
 obtain⟨o1,o2⟩:=ya s;unfold Cn;generalize pU s=X at q o1 o2;obtain⟨l,e⟩:=X;simp only at q o1 o2 ⊢;cases h1:e != 0<;>simp only[alv,E66,br,aM,q,h1,af,aD,aE,EW,seval]
 refine AL (xs:=l) aH (An t.ae) (fun a i=>[(2,cv 0),(6,dj l),(8,aF a),(9,aF i)]) (fun _=>[cA [ba t.ae,aF t.next,aF t.ak]]) (fun p=>some (.tuple [aF p.1,aF p.2],([]:aC))) (fun a=>?_) (fun pre x post a h hx cJ hw h0 hm hi=>?_) 1
 ·simp only[E66,bm,An,EW,seval]
 ·have ql:=fun M=>k72 t.ae t.next t.ak a x ht (by have:=qO (o1 x hm); omega) M
  rw[An];have i1:=hi (fh t.ae a x).1;generalize fh t.ae a x=u at ql i1;cases h2:u.2 != 0<;>simp only[E66,cJ,hx,hw,ql,h2,af,aD,aE,EW,seval]
  exact i1
def k66(ae:List Node)(next ak:Int)(s:Bytes)(ht:Small ⟨ae,next,ak⟩)(hs:s.length<=100000)(M:aC):aR (aq cd) 66 [.agg [ba ae,aF next,aF ak],.str s] M=some (.tuple [aF (Cn ae s).1,aF (Cn ae s).2],M):=cO (c66 ⟨ae,next,ak⟩ s ht hs) M
end
def rG(q:dU):List dU->Bool->List dU
 | [],d=>if d then [] else [q]
 |x::r,d=>(if !d&&decide (q.ar<=x.ar) then [q] else [])++((if x.ar != q.ar then [x] else [])++rG q r (d||decide (q.ar<=x.ar)))
def zi(q:dU):∀l,rG q l true=l.filter fun x=>x.ar != q.ar
 | []=>rfl
 |x::r=>by
  rw[rG,dI,zi q r,ft];cases x.ar != q.ar<;>rfl
theorem L7(q x:dU)(r:List dU):rG q (x::r) false=if q.ar<=x.ar then q::(x::r).filter fun x=>x.ar != q.ar else x::rG q r false:=by
 rw[rG]
 by_cases h:q.ar<=x.ar
 ·rw[aW h,ik h,cV,zi,ft];cases x.ar != q.ar<;>rfl
 grind
theorem Gq(q:dU):∀l,pt l->pt (rG q l false)/\(∀y,y∈rG q l false->y=q\/y∈l)/\(rG q l false).length<=l.length+1/\((∃x,x∈l/\x.ar=q.ar)->(rG q l false).length<=l.length)
 | [],_=>⟨List.pairwise_singleton _ _,fun y hy => .inl (by grind [rG]),au _,fun⟨x,h,_⟩=>j6⟩
 |x::r,h=>by
  have hc:=dq.1 h;obtain⟨i1,i2,i3,i4⟩:=Gq q r hc.2;rw[L7]
  grind [List.pairwise_cons]
section
attribute [local irreducible] eX fJ lj gK dY kr aq aR cp bI
def apT(t:Tree)(ar:Int)(ht:t.ae.length<=100000):aq cd 133 [br t,aF ar] []=some (.bool ((find t.ae ar).isSome&&(bl t.ae ar).kind==2),[]):=by
 refine aB ?_;have q:=fun M=>A5 t.ae t.next t.ak ar ht M
 have hz:(find t.ae ar).getD Node.zero=bl t.ae ar:=rfl;rw[hz] at q;generalize bl t.ae ar=n at q
 cases h1:(find t.ae ar).isSome<;>rw[h1] at q<;>cases h2:n.kind==2 <;>
  simp only[ab5,aol,br,aM,q,h2,bK,aL,dM,EW,seval]
def al3(ae:List Node)(next ak ar:Int)(h:ae.length<=100000)(M:aC):aR (aq cd) 133 [.agg [ba ae,aF next,aF ak],aF ar] M=some (.bool ((find ae ar).isSome&&(bl ae ar).kind==2),M) :=
 cO (apT ⟨ae,next,ak⟩ _ h) M
def Plc(ae:List Node)(ar n:Int):Prop:=(n = -1/\∀y,y∈ae->y.ar≠ar)\/∃(i:Nat) (y:Node),ae[i]?=some y/\y.ar=ar/\n=i
def aq7(t:Tree)(ar:Int)(ht:t.ae.length<=100000):∃n:Int,aq cd 237 [br t,aF ar] []=some (aF n,[])/\Plc t.ae ar n:=by
 have key:∃r:ag×aC,(∃n:Int,r=(aF n,[])/\Plc t.ae ar n)/\eX (aq cd) MV.results 0 [] MV.body (eF 0 [br t,aF ar]) []=some r:=by
  simp only[MV,ad6,br,aM,EW,seval];refine jd (xs:=t.ae) aH (fun m (_:Unit)=>∀y,y∈t.ae.take m->y.ar≠ar) (fun _ i=>[(1,aF ar),(2,cv 0),(5,aF i)]) (fun _=>[cA [ba t.ae,aF t.next,aF t.ak]]) _ (fun _ hq=>?_) (fun pre x post _ e hx cJ hw h0 hm hq hi=>?_) () (fun y hy=>by simp at hy)
  ·simp only[ad6,bm,EW,seval];exact⟨_,⟨-1,rfl,.inl ⟨rfl,by rwa[bH] at hq⟩⟩,rfl⟩
  ·have htk:t.ae.take (pre.length+1)=t.ae.take pre.length++[x]:=by rw[cz,hx]; rfl
   have i1:=fun h=>hi () (fun y hy=>by
    rw[htk] at hy;exact(bo.1 hy).elim (hq y) fun hy=>by rw[bQ.1 hy]; exact h)
   cases h1:x.ar==ar<;>simp only[ad6,cJ,hx,hw,h1,bK,aL,EW,seval]
   ·exact i1 (by simpa using h1)
   ·exact⟨_,⟨_,rfl,.inr ⟨_,x,hx,by simpa using h1,rfl⟩⟩,rfl⟩
 obtain⟨_,⟨n,rfl,h1⟩,h3⟩:=key;exact⟨n,aB h3,h1⟩
theorem aks(l:List dU)(ar:Int)(hn:l.length<=100000):∃n:Int,aq cd 135 [cQ l,aF ar] []=some (aF n,[])/\(0<=n↔∃x,x∈l/\x.ar=ar):=by
 have key:∃r:ag×aC,(∃n:Int,r=(aF n,[])/\(0<=n↔∃x,x∈l/\x.ar=ar))/\eX (aq cd) MN.results 0 [] MN.body (eF 0 [cQ l,aF ar]) []=some r:=by
  simp only[MN,adQ,EW,seval];refine jd (xs:=l) aH (fun m (_:Unit)=>∀y,y∈l.take m->y.ar≠ar) (fun _ i=>[(0,cQ l),(1,aF ar),(5,aF i)]) (fun _=>[]) _ (fun _ hq=>?_) (fun pre x post _ e hx cJ hw h0 hm hq hi=>?_) () (fun y hy=>by simp at hy)
  ·simp only[adQ,bm,EW,seval];rw[bH] at hq
   grind
  ·have htk:l.take (pre.length+1)=l.take pre.length++[x]:=by rw[cz,hx]; rfl
   have i1:=fun h=>hi () (fun y hy=>by
    rw[htk] at hy;exact(bo.1 hy).elim (hq y) fun hy=>by rw[bQ.1 hy]; exact h)
   cases h1:x.ar==ar<;>simp only[adQ,cJ,hx,hw,h1,gz,iW,EW,seval]
   ·exact i1 (by simpa using h1)
   grind
 obtain⟨_,⟨n,rfl,h1⟩,h3⟩:=key;exact⟨n,aB h3,h1⟩
abbrev BL(n:Nat):={ m:List Bool // m.length=n }
def XA(ae:List Node)(m0:List Bool)(P:List gM->Prop)(s:Bool×List Bool):Prop:=(s.1=false->s.2=m0/\∀L,P L->∀e,e∈L->Mk ae m0 e.ar)/\(s.1=true->nT m0<nT s.2)
abbrev Fb(t:Tree)(m:List Bool):aC:=[.cells [ba t.ae,.int .i64 t.next,.int .i64 t.ak],.arr 1 0 (m.map ag.bool)]
section
variable {t:Tree} {ar by':Int} {Q:ag×aC->Prop}
def VC(ht:t.ae.length<=100000)(hasc:oS t.ae){m0:List Bool}{P:List gM->Prop}{i:Nat}{x:Node}(hxi:t.ae[i]?=some x)(hxe:x.bc.length<=100000){k:List K}
  (hx:∀(s:Bool×BL t.ae.length) z,XA t.ae m0 (fun L=>P L\/L=x.bc) (s.1,s.2.1)->∃r,Q r/\kr (aq cd) [.tmp 4] 0 k ⟨.exit 4,(1,aF ar)::(2,cv 0)::(5,.cB 1 0 1 0 t.ae.length)::(6,aF by')::(7,.bool s.1)::(8,aF i)::z,Fb t s.2.1⟩=some r) (s:Bool×BL t.ae.length) (hs0:XA t.ae m0 P (s.1,s.2.1)) :
  ∃r,Q r/\eX (aq cd) [.tmp 4] 0 k (.loop [1,2,5,6,7,8,9] ZD) [(1,aF ar),(2,cv 0),(5,.cB 1 0 1 0 t.ae.length),(6,aF by'),(7,.bool s.1),(8,aF i),(9,aF 0)] (Fb t s.2.1)=some r:=by
 have b1:((i:Int)<0)=False:=dw;refine jd (xs:=x.bc) aH (fun j (s:Bool×BL t.ae.length)=>XA t.ae m0 (fun L=>P L\/L=x.bc.take j) (s.1,s.2.1)) (fun(s:Bool×BL t.ae.length) j=>[(1,aF ar),(2,cv 0),(5,.cB 1 0 1 0 t.ae.length),(6,aF by'),(7,.bool s.1),(8,aF i),(9,aF j)]) (fun s=>Fb t s.2.1) Q (fun s hs=>?_) (fun pre e post s h hx' cJ hw h0 hm hs hi=>?_) s ⟨fun h=>⟨(hs0.1 h).1,fun L hL=>hL.elim ((hs0.1 h).2 L) fun hL e he=>by rw[hL] at he; simp at he⟩,hs0.2⟩
 ·simp only[Cp,bm,hxi,bK,aL,EW,seval];rw[bH] at hs;exact hx s _ hs
 ·obtain⟨n,q,hn⟩:=aq7 t e.ar ht;have qp:=cP q;simp only[br,aM] at qp;have hm2:=s.2.2;have htk:x.bc.take (pre.length+1)=x.bc.take pre.length++[e]:=by rw[cz,hx']; rfl
  have same:(s.1=false->Mk t.ae m0 e.ar)->XA t.ae m0 (fun L=>P L\/L=x.bc.take (pre.length+1)) (s.1,s.2.1):=fun hk=>⟨fun h=>⟨(hs.1 h).1,fun L hL e' he=>by
   rcases hL with hL|hL
   ·exact(hs.1 h).2 L (.inl hL) e' he
   ·rw[hL,htk] at he;rcases bo.1 he with he|he
    ·exact(hs.1 h).2 _ (.inr rfl) e' he
    ·rw[bQ.1 he]; exact hk h⟩,hs.2⟩
  rcases hn with ⟨rfl,hno⟩|⟨a,y,hay,hye,rfl⟩
  ·have i1:=hi s (same fun _ a y h1 h2=>absurd h2 (hno y (aI h1)))
   simp only[Cp,cJ,hx',hw,hxi,qp,bK,aL,iH,fU,EW,seval];exact i1
  ·have ha:=(aj.1 hay).1;have a0:((a:Int)<0)=False:=dw;have a1:((a:Int)<(t.ae.length:Int))=True:=j6;have a2:(a<t.ae.length)=True:=sH;have a3:(0<=(a:Int))=True:=dw;have a4:(a<s.2.1.length)=True:=sH;obtain⟨b,hb⟩:∃b,s.2.1[a]?=some b:=⟨_,ai aH⟩;cases b
   ·have i1:=hi (true,⟨s.2.1.set a true,by simp[hm2]⟩) ⟨fun h=>(by cases h),fun _=>by
     simp only[ag3 hb];cases h1:s.1 with
     |false=>have:=(hs.1 h1).1; simp only at this; rw[this]; omega
     |true=>have:=hs.2 h1; simp only at this; omega⟩
    simp only[Cp,cJ,hx',hw,hxi,qp,a1,a3,hb,Gr,bT,bK,aL,iH,fU,EW,seval];omega
   ·have i1:=hi s (same fun h1 a' y' g1 g2=>by
     have:=aec hasc g1 hay (by rw[g2,hye])
     have he:=(hs.1 h1).1;simp only at he;rw[this,<-he]; exact hb)
    simp only[Cp,cJ,hx',hw,hxi,qp,a1,a3,hb,bT,bK,aL,iH,fU,EW,seval];exact i1
theorem VD(ht:t.ae.length<=100000)(he:∀n,n∈t.ae->n.bc.length<=100000)(hasc:oS t.ae){m0:List Bool}{k:List K}
  (hx:∀(s:Bool×BL t.ae.length) z,XA t.ae m0 (fun L=>∃(i:Nat) (x:Node),t.ae[i]?=some x/\(x.ar=ar\/m0[i]?=some true)/\L=x.bc) (s.1,s.2.1)->∃r,Q r/\kr (aq cd) [.tmp 4] 0 k ⟨.exit 2,(1,aF ar)::(2,cv 0)::(5,.cB 1 0 1 0 t.ae.length)::(6,aF by')::(7,.bool s.1)::z,Fb t s.2.1⟩=some r) (s:Bool×BL t.ae.length) (hs0:XA t.ae m0 (fun _=>False) (s.1,s.2.1)) :
  ∃r,Q r/\eX (aq cd) [.tmp 4] 0 k (.loop [1,2,5,6,7,8] ZE) [(1,aF ar),(2,cv 0),(5,.cB 1 0 1 0 t.ae.length),(6,aF by'),(7,.bool s.1),(8,aF 0)] (Fb t s.2.1)=some r:=by
 refine jd (xs:=t.ae) aH (fun j (s:Bool×BL t.ae.length)=>XA t.ae m0 (fun L=>∃(i:Nat) (x:Node),i<j/\t.ae[i]?=some x/\(x.ar=ar\/m0[i]?=some true)/\L=x.bc) (s.1,s.2.1)) (fun(s:Bool×BL t.ae.length) j=>[(1,aF ar),(2,cv 0),(5,.cB 1 0 1 0 t.ae.length),(6,aF by'),(7,.bool s.1),(8,aF j)]) (fun s=>Fb t s.2.1) Q (fun s hs=>?_) (fun pre x post s h hx' cJ hw h0 hm hs hi=>?_) s ⟨fun h=>⟨(hs0.1 h).1,fun L ⟨i,x,hi,_⟩=>aH⟩,hs0.2⟩
 ·simp only[Cp,bm,EW,seval];exact hx s _ ⟨fun h=>⟨(hs.1 h).1,fun L ⟨i,x,h1,h2,h3⟩=>(hs.1 h).2 L ⟨i,x,(aj.1 h1).1,h1,h2,h3⟩⟩,hs.2⟩
 ·have hl:=(aj.1 hx').1;have hm2:=s.2.2;have a4:(pre.length<s.2.1.length)=True:=sH;have a2:(pre.length<t.ae.length)=True:=sH;obtain⟨b,hb⟩:∃b,s.2.1[pre.length]?=some b:=⟨_,ai aH⟩;have la:=fun {k} hx2=>VC (t:=t) (ar:=ar) (by':=by') (Q:=Q) ht hasc hx' (he x hm) (k:=k) hx2 s hs
  have fin:∀(s':Bool×BL t.ae.length),XA t.ae m0 (fun L=>(∃(i:Nat) (x:Node),i<pre.length/\t.ae[i]?=some x/\(x.ar=ar\/m0[i]?=some true)/\L=x.bc)\/L=x.bc) (s'.1,s'.2.1)->XA t.ae m0 (fun L=>∃(i:Nat) (x:Node),i<pre.length+1/\t.ae[i]?=some x/\(x.ar=ar\/m0[i]?=some true)/\L=x.bc) (s'.1,s'.2.1):=fun s' h'=>⟨fun h=>⟨(h'.1 h).1,fun L ⟨i,x',h1,h2,h3,h4⟩=>(h'.1 h).2 L (by
   grind)⟩,h'.2⟩
  have skip:b=false->x.ar≠ar->XA t.ae m0 (fun L=>∃(i:Nat) (x:Node),i<pre.length+1/\t.ae[i]?=some x/\(x.ar=ar\/m0[i]?=some true)/\L=x.bc) (s.1,s.2.1):=fun hbf hne=>⟨fun h=>⟨(hs.1 h).1,fun L ⟨i,x',h1,h2,h3,h4⟩=>(hs.1 h).2 L (by
   by_cases hip:i=pre.length
   ·exfalso;have e0:=(hs.1 h).1
    grind
   ·exact⟨i,x',aH,h2,h3,h4⟩)⟩,hs.2⟩
  cases b<;>cases h1:x.ar != ar <;>
   simp only[Cp,cJ,hx',hw,hb,h1,bT,bK,aL,EW,seval]
  all_goals first
   |exact hi s (skip rfl (by simpa using h1))
   |(refine la (fun s' z hs'=>?_)
     have i1:=hi s' (fin s' hs');simp only[Cp,hw,EW,seval];exact i1)
theorem VE(ht:t.ae.length<=100000)(he:∀n,n∈t.ae->n.bc.length<=100000)(hasc:oS t.ae){k:List K}
  (hx:∀(m:BL t.ae.length) z,Clo t.ae ar m.1->∃r,Q r/\kr (aq cd) [.tmp 4] 0 k ⟨.exit 0,(1,aF ar)::(2,cv 0)::(5,.cB 1 0 1 0 t.ae.length)::z,Fb t m.1⟩=some r)
  (hr:∀(m:BL t.ae.length),Clo t.ae ar m.1->∃r,Q r/\kr (aq cd) [.tmp 4] 0 k ⟨.ret,[(4,.cB 1 0 1 0 t.ae.length)],Fb t m.1⟩=some r) (m:BL t.ae.length) :
  ∃r,Q r/\eX (aq cd) [.tmp 4] 0 k (.loop [1,2,5,6] ZF) [(1,aF ar),(2,cv 0),(5,.cB 1 0 1 0 t.ae.length),(6,aF 0)] (Fb t m.1)=some r:=by
 refine jd (xs:=t.ae) aH (fun j (m:BL t.ae.length)=>j<=nT m.1) (fun(_:BL t.ae.length) j=>[(1,aF ar),(2,cv 0),(5,.cB 1 0 1 0 t.ae.length),(6,aF j)]) (fun m=>Fb t m.1) Q (fun m hm=>?_) (fun pre x post m h hx' cJ hw h0 hm hj hi=>?_) m (cR _)
 ·simp only[Cp,bm,EW,seval];refine hx m _ fun i x h1 _ e _ a y h3 _=>?_
  have h4:nT m.1=m.1.length:=Nat.le_antisymm (nt) (by rw[m.2]; exact hm)
  have ha:=(aj.1 h3).1;have h5:=List.countP_eq_length.1 h4 (m.1[a]'(by rw[m.2]; exact ha)) (jq _)
  grind
 ·have lb:=fun {k} hx2=>VD (t:=t) (ar:=ar) (by':=pre.length) (Q:=Q) ht he hasc (m0:=m.1) (k:=k) hx2 (false,m) ⟨fun _=>⟨rfl,fun _ h=>h.elim⟩,fun h=>by cases h⟩
  simp only[Cp,cJ,EW,seval];refine lb (fun s z hs=>?_)
  obtain⟨b,m'⟩:=s;cases b<;>simp only[Cp,hw,EW,seval]
  ·obtain⟨e0,hc⟩:=hs.1 rfl;simp only at e0;exact hr m' (by rw[e0]; exact fun i x h1 h2 e he=>hc x.bc ⟨i,x,h1,h2,rfl⟩ e he)
  ·have:=hs.2 rfl;simp only at this;exact hi m' aH
end
def aqr(t:Tree)(ar:Int)(ht:t.ae.length<=100000)(he:∀n,n∈t.ae->n.bc.length<=100000)(hasc:oS t.ae):∃m:List Bool,aq cd 176 [br t,aF ar] []=some (gA (m.map ag.bool),[])/\m.length=t.ae.length/\Clo t.ae ar m:=by
 have key:∃r:ag×aC,(∃m:List Bool,r=(gA (m.map ag.bool),[])/\m.length=t.ae.length/\Clo t.ae ar m)/\eX (aq cd) IM.results 0 [] IM.body (eF 0 [br t,aF ar]) []=some r:=by
  have r1:cr t.ae.length 8=True:=qI
  have hrep:List.replicate t.ae.length (ag.agg [ag.bool false]).norm=(List.replicate t.ae.length false).map ag.bool:=by
   rw[gZ]; rfl
  have lc:=fun {k Q} hx hr=>VE (t:=t) (ar:=ar) (Q:=Q) ht he hasc (k:=k) hx hr ⟨List.replicate t.ae.length false,dw⟩
  simp only[IM,Cp,br,aM,r1,hrep,EW,seval];refine lc (fun m z hc=>?_) (fun m hc=>?_) <;>
  ·have hm:=m.2;have htk:(m.1.map ag.bool).take t.ae.length=m.1.map ag.bool:=bB j6;simp only[Cp,htk,EW,seval];exact⟨_,⟨m.1,rfl,hm,hc⟩,rfl⟩
 obtain⟨_,⟨m,rfl,h1⟩,h3⟩:=key;exact⟨m,aB h3,h1⟩
def J1{A:List Node}{B:List Bool}(h:A.length=B.length)(n:Node)(b:Bool):HE (A++[n]) (B++[b])=HE A B+if b then n.data.length else 0:=by
 unfold HE;rw[List.zip_append h];simp
def Xi:∀(A:List Node)(B:List Bool),(∀n,n∈A->n.data.length<=4096)->HE A B<=4096*A.length
 | [],_,_=>by simp[HE]
 |n::A,[],_=>by simp[HE]
 |n::A,b::B,h=>by
  have h1:=Xi A B fun x hx=>h x (bw _ hx)
  have h2:=h n bD;simp only[HE,List.zip_cons_cons,aK,List.sum_cons,av] at h1 ⊢;split<;>omega
def akr(t:Tree)(ar:Int)(hr:Rt t):∃a b:Int,aq cd 134 [br t,aF ar] []=some (.tuple [aF a,aF b],[])/\(lk t.ae ar).1<=a/\(lk t.ae ar).2<=b:=by
 have h200:=hr.sz.ae
 have key:∃r:ag×aC,(∃a b:Int,r=(.tuple [aF a,aF b],[])/\(lk t.ae ar).1<=a/\(lk t.ae ar).2<=b)/\eX (aq cd) MM.results 0 [] MM.body (eF 0 [br t,aF ar]) []=some r:=by
  obtain⟨m,q,hm,hc⟩:=aqr t ar aH (fun n hn=>by have:=(hr.XF hn).1; omega) hr.lI.mj
  have qu:=cP q;have qd:=fun M=>al3 t.ae t.next t.ak ar aH M
  have hu:=Q9 hr hm hc;cases hb:((find t.ae ar).isSome&&(bl t.ae ar).kind==2)<;>rw[hb] at qd<;>simp only[br,aM] at qu<;>simp only[MM,adP,br,aM,qd,qu,EW,seval]
  ·have h0:lk t.ae ar=(0,0):=by unfold lk; rw[hb]; rfl
   exact⟨_,⟨_,_,rfl,by rw[h0]; exact dP 0,by rw[h0]; exact dP 0⟩,rfl⟩
  refine jd (xs:=m) aH (fun j (s:Int×Int)=>s.1=nT (m.take j)/\s.2=HE (t.ae.take j) (m.take j)) (fun s i=>[(2,cv 0),(7,gA (m.map ag.bool)),(8,aF s.1),(9,aF s.2),(10,aF i)]) (fun _=>[cA [ba t.ae,aF t.next,aF t.ak]]) _ (fun s hs=>?_) (fun pre x post s e hx cJ hw h0 _ hs hi=>?_) (0,0) (by simp[nT,HE])
  ·rw[bH,hm,bH] at hs;simp only[adP,bm,EW,seval];exact⟨_,⟨_,_,rfl,by rw[hs.1]; exact hu.1,by rw[hs.2]; exact hu.2⟩,rfl⟩
  ·have hl:=(aj.1 hx).1;obtain⟨n,hn⟩:∃n,t.ae[pre.length]?=some n:=⟨_,ai aH⟩;have t1:m.take (pre.length+1)=m.take pre.length++[x]:=by rw[cz,hx]; rfl
   have t2:t.ae.take (pre.length+1)=t.ae.take pre.length++[n]:=by rw[cz,hn]; rfl
   have t3:(t.ae.take pre.length).length=(m.take pre.length).length:=gh;have hnd:=(hr.XF (aI hn)).2;have b1:nT (m.take pre.length)<=200:=aY nt gh;have b2:=Xi (t.ae.take pre.length) (m.take pre.length) fun y hy=>(hr.XF (dN hy)).2
   have b3:(t.ae.take pre.length).length<=200:=gh;cases x<;>simp only[adP,cJ,hx,hw,h0,hn,bK,aL,EW,seval]
   ·exact hi s (by rw[t1,t2,J1 t3,hs.1,hs.2]; simp[nT])
   ·have w1:IntKind.i64.wrap (s.1+1)=s.1+1:=gW aH aH;have w2:IntKind.i64.wrap (s.2+(n.data.length:Int))=s.2+(n.data.length:Int):=gW aH aH;simp only[w1,w2];exact hi (s.1+1,s.2+(n.data.length:Int)) (by rw[t1,t2,J1 t3,hs.1,hs.2]; simp[nT])
 obtain⟨_,⟨a,b,rfl,h1⟩,h3⟩:=key;exact⟨a,b,aB h3,h1⟩
def aq6{t:Tree}{dE:Int->Nat}(h:dX t dE 0){l:List dU}(hq:pt l)(hl:l.length<=100000){ar:Int}{n:Node}(hi0:find t.ae ar=some n)(hk0:n.kind=2):aq cd 236 [br t,cQ l,aF ar] []=some (aF (mf t.ae l ar),[]):=by
 have ht:=h.ae;have hdl:=h.Dl hi0 hk0
 have key:∃r:ag×aC,r=(aF (mf t.ae l ar),[])/\eX (aq cd) MU.results 0 [] MU.body (eF 0 [br t,cQ l,aF ar]) []=some r:=by
  simp only[MU,ad5,br,aM,EW,seval];refine jd (xs:=List.replicate (t.ae.length+1) ()) gh (fun j (a:Int)=>∃y,find t.ae a=some y/\y.kind=2/\dE a+j=dE ar/\mf t.ae l a=mf t.ae l ar) (fun a i=>[(1,cQ l),(3,cv 0),(7,aF a),(8,aF i)]) (fun _=>[cA [ba t.ae,aF t.next,aF t.ak]]) _ (fun a ha=>?_) (fun pre x post a e hx cJ hw h0 _ ha hi=>?_) ar ⟨n,hi0,hk0,aH,rfl⟩
  ·obtain⟨_,_,_,h1,_⟩:=ha;simp at h1; omega
  ·obtain⟨y,y1,y2,y3,y4⟩:=ha
   have e1:((pre.length:Int)<=(t.ae.length:Int))=True:=by
    have:=of_eq_true cJ;rw[kP] at this;simp only[fx,ja]; omega
   obtain⟨n,q,hn⟩:=aks l a hl;have qf:=cP q;have qg:=fun M=>A5 t.ae t.next t.ak a aH M
   have hup:=K1 h l y1 y2;have hqi:=(YT hq a).trans hn.symm;rw[y1] at qg;simp only[bj,bK,aL] at qg;cases h1:decide (0<=n)
   ·have h1':FT l a=false:=by
     cases hc:FT l a with
     |false=>rfl
     |true=>exact absurd (hqi.1 hc) (by simpa using h1)
    rw[h1'] at hup;cases h2:a==1<;>simp only[ad5,e1,hw,qf,qg,h1,h2,EW,seval]
    ·have h2':a≠1:=by simpa using h2
     obtain⟨d1,p,p1,p2⟩:=h.qE _ _ y1 y2 h2';refine hi _ ⟨p,p1,p2,aH,?_⟩;rw[<-y4,hup]; simp[h2']
    ·refine⟨_,?_,rfl⟩;rw[<-y4,hup]; simp[show a=1 by simpa using h2]
   ·have h1':FT l a=true:=hqi.2 (by simpa using h1)
    rw[h1'] at hup;simp only[ad5,e1,hw,qf,qg,h1,EW,seval];refine⟨_,?_,rfl⟩;rw[<-y4,hup]; rfl
 obtain⟨_,rfl,h3⟩:=key;exact aB h3
def agY{l:List dU}(hl:l.length<=16){q:dU}{t:Tree}{k:List K}{R:List dU->Option (ag×aC)}
  (hx:∀(out:List dU) (d:Bool) z,out.length<=40->kr (aq cd) [.tmp 10,.tmp 11] 0 k ⟨.exit 0,(1,cQ l)::(2,aF q.ar)::(3,aF q.ae)::(4,aF q.bytes)::(17,.slice (.own 2) (out.map gz))::(18,.bool d)::z,[cA (aM t),cA (aL (bl t.ae q.ar)),.tick 3 out.length]⟩=R (out++rG q [] d)) :
  ∀(s:List dU×Bool),s.1.length<=0->eX (aq cd) [.tmp 10,.tmp 11] 0 k (.loop [1,2,3,4,17,18,19] agR) [(1,cQ l),(2,aF q.ar),(3,aF q.ae),(4,aF q.bytes),(17,.slice (.own 2) (s.1.map gz)),(18,.bool s.2),(19,aF 0)] [cA (aM t),cA (aL (bl t.ae q.ar)),.tick 3 s.1.length]=R (s.1++rG q l s.2):=by
 refine nh (xs:=l) aH (fun m (s:List dU×Bool)=>s.1.length<=2*m) (fun post s=>s.1++rG q post s.2) (fun s i=>[(1,cQ l),(2,aF q.ar),(3,aF q.ae),(4,aF q.bytes),(17,.slice (.own 2) (s.1.map gz)),(18,.bool s.2),(19,aF i)]) (fun s=>[cA (aM t),cA (aL (bl t.ae q.ar)),.tick 3 s.1.length]) R (fun s hI=>?_) (fun pre x post s e hx' cJ hw h0 hm hI hi=>?_)
 ·simp only[aM,aL] at hx ⊢;simp only[QL,bm,EW,seval];exact hx s.1 s.2 _ aH
 ·have hp:=(aj.1 hx').1;obtain⟨out,d⟩:=s;simp only at hI;have r1:cr (out.length+1) 24=True:=qI;have r2:cr (out.length+1+1) 24=True:=qI;rw[rG];simp only[aM,aL] at hi ⊢;have i1:=hi (out++[q]++[x],true) gh;have i2:=hi (out++[q],true) gh;have i3:=hi (out++[x],d) gh;have i4:=hi (out,d) (by simp only; omega)
  simp only[aZ,aK,aU,aA,av,az,aJ,bV,aG,aO,gz,iW] at i1 i2 i3 i4
  cases d<;>cases h1:decide (q.ar<=x.ar)<;>cases h2:x.ar != q.ar <;>
   simp only[QL,cJ,hx',hw,h0,h1,h2,r1,r2,gz,iW,cH,cI,dI,cV,eu,fG,af,aE,aD,bV,EW,seval]<;>first|exact i4|exact i3|exact i2|exact i1
def c78(t:Tree)(l:List dU)(ar ae bytes:Int)(hr:Rt t)(hq:pt l)(hn:l.length<=16) :
  ∃m e,aq cd 78 [br t,cQ l,aF ar,aF ae,aF bytes] []=some (.tuple [cQ m,aF e],[])/\pt m/\m.length<=16/\∀y,y∈m->y∈l\/∃n,find t.ae y.ar=some n/\n.kind=2:=by
 have ht:t.ae.length<=100000:=by have:=hr.sz.ae; omega
 obtain⟨a,b,qa,_⟩:=akr t ar hr;obtain⟨n,qn,hf⟩:=aks l ar aH;have qu:=cP qa;have qf:=cP qn;have qg:=fun M=>A5 t.ae t.next t.ak ar ht M
 have qd:=fun M=>al3 t.ae t.next t.ak ar ht M
 have hz:(find t.ae ar).getD Node.zero=bl t.ae ar:=rfl;rw[hz] at qg;simp only[br,aM] at qu;have hl:=fun {k R} hx=>agY (l:=l) hn (q:=⟨ar,ae,bytes⟩) (t:=t) (k:=k) (R:=R) hx ([],decide (ae<0)) (au 0)
 simp only[aM,aL,aU,az] at hl
 have hneg:decide (ae<0) = !decide (0<=ae):=by
  rw[cu]; simp
 have sh:(0<=ae->n<0->l.length<16)->pt (rG ⟨ar,ae,bytes⟩ l (decide (ae<0)))/\(rG ⟨ar,ae,bytes⟩ l (decide (ae<0))).length<=16/\∀y,y∈rG ⟨ar,ae,bytes⟩ l (decide (ae<0))->y∈l\/y.ar=ar:=by
  intro hh;rcases Int.lt_or_le ae 0 with h|h
  ·rw[ik h,zi];exact⟨hq.filter _,aY (bU _ _) hn,fun y hy => .inl (eo.1 hy).1⟩
  ·rw[gn (Int.not_lt.2 h)];obtain⟨g1,g2,g3,g4⟩:=Gq ⟨ar,ae,bytes⟩ l hq;refine⟨g1,?_,fun y hy=>(g2 y hy).elim (fun e => .inr (by rw[e])) .inl⟩
   rcases Int.lt_or_le n 0 with h'|h'
   ·have:=hh h h'; omega
   ·exact aY (g4 (hf.1 h')) hn
 cases h1:(find t.ae ar).isSome<;>rw[h1] at qg qd
 ·refine⟨l,70,aB ?_,hq,hn,fun _ => .inl⟩
  simp only[E0,QL,br,aM,bK,aL,qg,EW,seval]
 cases h2:(bl t.ae ar).kind==2<;>rw[h2] at qd<;>simp only[jM,dM] at qd
 ·refine⟨l,73,aB ?_,hq,hn,fun _ => .inl⟩
  simp only[E0,QL,br,aM,bK,aL,qg,qd,EW,seval]
 cases h3:decide (0<=ae)
 case' true =>
  cases h4:decide (ae<a)
  case true =>
   refine⟨l,90,aB ?_,hq,hn,fun _ => .inl⟩
   simp only[E0,QL,br,aM,bK,aL,qg,qd,qu,qf,h3,hneg,h4,EW,seval]
  cases h5:decide (bytes<b)
  case true =>
   refine⟨l,90,aB ?_,hq,hn,fun _ => .inl⟩
   simp only[E0,QL,br,aM,bK,aL,qg,qd,qu,qf,h3,hneg,h4,h5,EW,seval]
  cases h6:decide (n<0)
  case' true =>
   cases h7:decide (16<=(l.length:Int))
   case true =>
    refine⟨l,76,aB ?_,hq,hn,fun _ => .inl⟩
    simp only[E0,QL,br,aM,bK,aL,qg,qd,qu,qf,h3,hneg,h4,h5,h6,h7,EW,seval]
 all_goals
  obtain⟨s1,s2,s3⟩:=sh (by intro g1 g2; simp only[bh,dA] at *; omega)
  refine⟨_,0,aB ?_,s1,s2,fun y hy=>(s3 y hy).elim .inl fun e => .inr ⟨bl t.ae ar,by rw[e]; cases hf':find t.ae ar<;>simp_all [bl],by simpa using h2⟩⟩
  rw[hneg,h3] at hl
  first
   |simp only[E0,QL,br,aM,bK,aL,qg,qd,qu,qf,h3,hneg,h4,h5,h6,h7,EW,seval]
   |simp only[E0,QL,br,aM,bK,aL,qg,qd,qu,qf,h3,hneg,h4,h5,h6,EW,seval]
   |simp only[E0,QL,br,aM,bK,aL,qg,qd,qu,qf,h3,hneg,EW,seval]
  refine(hl (R:=fun m=>some (.tuple [cQ m,aF 0],([]:aC))) (fun out d z ho=>?_)).trans (by first|rfl|(rw[hneg,h3]; rfl))
  have r1:cr (out.length+1) 24=True:=qI;cases d<;>simp only[QL,r1,rG,gz,iW,aZ,af,aE,aD,EW,seval]
  all_goals simp[gz,iW]
end
def pS(c h:Int):List fE->Nat->Int
 | [],_ => -1
 |x::r,i=>if x.bC==c&&x.handle==h then i else pS c h r (i+1)
def zf(l:List fE)(c h:Int):Int:=pS c h l 0
def sm(c h:Int):∀(l:List fE)(i:Nat),(pS c h l i = -1/\∀x,x∈l->(x.bC==c&&x.handle==h)=false) \/
  ∃(m:Nat) (x:fE),pS c h l i=((i+m:Nat):Int)/\l[m]?=some x/\(x.bC==c&&x.handle==h)=true
 | [],i => .inl ⟨rfl,dw⟩
 |x::r,i=>by
  rw[pS];cases hx:x.bC==c&&x.handle==h
  ·rcases sm c h r (i+1) with ⟨h1,h2⟩|⟨m,y,h1,h2,h3⟩
   ·exact .inl ⟨by simpa using h1,fun y hy=>by rcases bJ.1 hy with rfl|hy; exact hx; exact h2 y hy⟩
   ·exact .inr ⟨m+1,y,by simp only[af,aD,h1]; congr 1; omega,by simpa using h2,h3⟩
  ·exact .inr ⟨0,x,dw,rfl,hx⟩
def I0(l:List fE)(ar:Int):Int:=((l.countP fun x=>x.ar==ar:Nat):Int)
def wB(c h:Int)(x:fE):Bool:=decide (x.bC<c)||(x.bC==c&&decide (x.handle<h))
def sG(t:Tree)(l:List fE)(c h ar:Int):List fE×Int :=
 if decide (c<0)||(decide (16<=c)||(decide (h<0)||decide (99<h))) then (l,1)
 else if !(find t.ae ar).isSome||gV (bl t.ae ar) then (l,70)
 else if (bl t.ae ar).kind==2 then (l,72)
 else if decide (0<=zf l c h) then (l,71)
 else if decide (64<=(l.length:Int)) then (l,76)
 else (l.take (mi (wB c h) l)++⟨c,h,ar⟩::l.drop (mi (wB c h) l),0)
def Pt(c h:Int):(fun x=>decide (il x c h<0))=wB c h:=by
 funext x;rw[cu];simp only[wB,bh,r8,cU,bu,dZ]
def Wp{t:Tree}{l:List fE}(hl:uz l)(hn:l.length<=64)(c g ar:Int):uz (sG t l c g ar).1/\(sG t l c g ar).1.length<=64:=by
 have h0:=Jv (t:=t) hl hn c g ar;unfold sG;split
 ·exact⟨hl,hn⟩
 rename_i h1;split
 ·exact⟨hl,hn⟩
 rename_i h2;split
 ·exact⟨hl,hn⟩
 rename_i h3;split
 ·exact⟨hl,hn⟩
 rename_i h4;split
 ·exact⟨hl,hn⟩
 rename_i h5
 have k1:¬(!zO c g)=true:=by
  simp only[cU,bh,o4,zO,gN,Bool.and_eq_false_iff,dA,Classical.not_not] at h1 ⊢;omega
 have k2:¬pg (fun x=>il x c g==0) l (mi (fun x=>decide (il x c g<0)) l)=true:=by
  intro hk;unfold pg at hk;split at hk
  ·rename_i z hz
   have hz':(z.bC==c&&z.handle==g)=true:=by
    have:=(DJ z c g).1 (by simpa using hk)
    simp[this.1,this.2]
   rcases sm c g l 0 with ⟨_,h6⟩|⟨m,_,h6,_⟩
   ·have:=h6 z (aI hz);rw[hz'] at this; cases this
   ·apply h4;unfold zf;rw[h6];simp
  ·cases hk
 unfold vD at h0;rw[aP k1,aP h2,aP h3,aP k2,aP h5,Pt] at h0;exact h0
def PO{t:Tree}(ht:∀i n,find t.ae i=some n->n.kind=1\/n.kind=2)(l:List fE)(c g ar:Int){y:fE}(hy:y∈(sG t l c g ar).1):y∈l\/(∃n,find t.ae y.ar=some n/\n.kind=1)/\zO y.bC y.handle=true:=by
 unfold sG at hy;split at hy
 ·exact .inl hy
 rename_i h1;split at hy
 ·exact .inl hy
 rename_i h2;split at hy
 ·exact .inl hy
 rename_i h3;split at hy
 ·exact .inl hy
 split at hy
 ·exact .inl hy
 rcases bo.1 hy with hy|hy
 ·exact .inl (dN hy)
 rcases bJ.1 hy with rfl|hy
 ·right;simp only[cU,o4,gN,Bool.not_eq_false] at h2;obtain⟨n,hn⟩:=fD.1 h2.1;refine⟨⟨n,hn,?_⟩,?_⟩
  case refine_2 =>
   simp only[cU,bh,o4] at h1;simp only[zO,bu,bh];omega
  have hnn:bl t.ae ar=n:=by simp[bl,hn]
  rw[hnn] at h3;rcases ht _ _ hn with h|h
  ·exact h
  ·simp[h] at h3
 ·exact .inl (dy hy)
def PQ(t:Tree)(l:List fE)(c g ar:Int){y:fE}(hy:y∈l):y∈(sG t l c g ar).1:=by
 unfold sG;split
 ·exact hy
 split
 ·exact hy
 split
 ·exact hy
 split
 ·exact hy
 split
 ·exact hy
 simp only;generalize (mi _ l)=k;rw[<-cF k l] at hy;rcases bo.1 hy with hy|hy
 ·exact eH _ hy
 ·exact iG _ (bw _ hy)
section
attribute [local irreducible] eX fJ lj gK dY kr aq aR cp bI
def apS(l:List fE)(c h:Int)(hn:l.length<=100000):aq cd 132 [fI l,aF c,aF h] []=some (aF (zf l c h),[]):=by
 refine aB ?_;have e0:zf l c h=pS c h l (l.length-l.length):=by rw[Nat.sub_self]; rfl
 rw[e0];simp only[ab4,adO,EW,seval];refine AL (xs:=l) aH (fun post (_:Unit)=>pS c h post (l.length-post.length)) (fun _ i=>[(0,fI l),(1,aF c),(2,aF h),(7,aF i)]) (fun _=>[]) (fun n=>some (aF n,([]:aC))) (fun _=>?_) (fun pre x post _ e hx cJ hw h0 hm hi=>?_) ()
 ·simp only[adO,bm,pS,EW,seval]
 ·have i1:=hi ();have e1:l.length-(x::post).length=pre.length:=by rw[e]; simp
  have e2:l.length-post.length=pre.length+1:=by rw[e]; simp; omega
  rw[e2] at i1;rw[e1,pS];cases h1:x.bC==c<;>cases h2:x.handle==h<;>simp only[adO,cJ,hx,hw,h0,h1,h2,ig,jc,dM,cH,cI,af,aD,aE,EW,seval]<;>exact i1
def afj l c h hn:=cP (apS l c h hn)
def apU(l:List fE)(ar:Int)(hn:l.length<=100000):aq cd 136 [fI l,aF ar] []=some (aF (I0 l ar),[]):=by
 refine aB ?_;simp only[ab6,XK,EW,seval];refine(nh (xs:=l) aH (fun m n=>n<=m) (fun post (n:Nat)=>((n+post.countP fun x=>x.ar==ar:Nat):Int)) (fun n i=>[(0,fI l),(1,aF ar),(5,aF n),(6,aF i)]) (fun _=>[]) (fun n=>some (aF n,([]:aC))) (fun n _=>?_) (fun pre x post n e hx cJ hw h0 hm hI hi=>?_) 0 aH).trans (by simp[I0])
 ·simp only[XK,bm,List.countP_nil,EW,seval]
 ·have i1:=hi n aH;have i2:=hi (n+1) aH;have hl:=(aj.1 hx).1;have w1:IntKind.i64.wrap ((n:Int)+1)=((n+1:Nat):Int):=by rw[gW aH aH]; rfl
  cases h1:x.ar==ar
  ·simp only[lQ,h1,af,aD,df] at i1 ⊢;simp only[XK,cJ,hx,hw,h0,h1,ig,jc,EW,seval];exact i1
  ·have e2:n+(List.countP (fun x=>x.ar==ar) (x::post))=n+1+List.countP (fun x=>x.ar==ar) post:=by simp only[lQ,h1,aE]; omega
   simp only[e2];simp only[XK,cJ,hx,hw,w1,h0,h1,ig,jc,EW,seval];exact i2
def ar5 l ar hn:=cP (apU l ar hn)
def apR(t:Tree)(ar:Int)(ht:t.ae.length<=100000):aq cd 131 [br t,aF ar] []=some (.bool ((find t.ae ar).isSome&&gV (bl t.ae ar)),[]):=by
 refine aB ?_;have q:=fun M=>A5 t.ae t.next t.ak ar ht M
 have hz:(find t.ae ar).getD Node.zero=bl t.ae ar:=rfl;rw[hz] at q;unfold gV;generalize bl t.ae ar=n at q
 cases h1:(find t.ae ar).isSome<;>rw[h1] at q<;>cases h2:n.kind==1<;>cases h3:n.ep==0 <;>
  simp only[ab3,aok,br,aM,q,h2,h3,bK,aL,dM,cH,cI,EW,seval]
def al2(ae:List Node)(next ak ar:Int)(h:ae.length<=100000)(M:aC):aR (aq cd) 131 [.agg [ba ae,aF next,aF ak],aF ar] M=some (.bool ((find ae ar).isSome&&gV (bl ae ar)),M) :=
 cO (apR ⟨ae,next,ak⟩ ar h) M
def afg(ae:List Node)(next ak ar:Int)(s:Bytes)(ht:Small ⟨ae,next,ak⟩)(M:aC):aR (aq cd) 122 [.agg [ba ae,aF next,aF ak],aF ar,.str s] M =
  some (.agg [ba (dv ae ar s),aF next,aF ak],M):=cO (apI ⟨ae,next,ak⟩ ar s ht) M
def ZV{T:List ag}{n:Node}{e:gM}(hn:n.bc.length<=100000){k:List K}{R:List gM->Bool->Option (ag×aC)}
  (hx:∀out done v q,out.length<=300000->kr (aq cd) [.dG 8 3] 0 k ⟨.exit 0,[(2,.str e.name),(4,cv 0),(8,cv 1),(9,cv 2),(11,cv 3),(12,.slice (.own 4) (out.map iH)),(13,.bool done),(14,v),(30,q)],[.cells T,.cells zT,cA (aL n),cA (fU e),.tick 3 out.length]⟩=R out done)
  (hT:∀B M,T.map (ag.jE B M)=T) :
  ∀(l pre out:List gM)(done:Bool),n.bc=pre++l->out.length+2*l.length<=300000->eX (aq cd) [.dG 8 3] 0 k (.loop [2,4,8,9,11,12,13,14] Zc) [(2,.str e.name),(4,cv 0),(8,cv 1),(9,cv 2),(11,cv 3),(12,.slice (.own 4) (out.map iH)),(13,.bool done),(14,aF pre.length)] [.cells T,.cells zT,cA (aL n),cA (fU e),.tick 3 out.length]=R (vy e l out done).1 (vy e l out done).2:=by
 intro l;induction l with
 |nil =>
  intro pre out done h ho;rw[bF];simp only[GG,aL,jb,jJ h,EN,seval];exact hx _ _ _ _ (by simp at ho; omega)
 |cons m r ih =>
  intro pre out done h ho;rw[bF];have dR:pre.length+1<=100000:=by rw[h] at hn; simp at hn; omega
  have hw:=zl pre m;have hi:=fun out done ho=>ih (pre++[m]) out done (by rw[h]; simp) ho
  simp only[av] at ho;have r1:cr (out.length+1) 32=True:=qI;have r2:cr (out.length+1+1) 32=True:=qI;have hg:(!(strLt m.name e.name||m.name==e.name))=gtB m.name e.name:=rfl
  rw[vy];simp only[GG,hg,aL,jb,iP h,gU h,fU,hT,zT,EN,seval]
  repeat' ((first|apply bA|apply bW|apply dK)<;>intro hb<;>simp only[hb,EN,GG,gU h,hw,r1,r2,fU,hT,zT,hg,seval])
  all_goals try simp only[GG,gU h,hw,r1,r2,fU,hT,zT,hg,EN,seval]
  all_goals first
   |(refine im ?_ ((hi (out++[e]++[m]) true gh).trans ?_)
     ·simp only[aZ,aK,aU,aA,av,az]; rfl
     ·clear hi ih hx hw h hT hg; simp_all; done)
   |(refine im ?_ ((hi (out++[m]) done gh).trans ?_)
     ·simp only[aZ,aK,aU,aA,av,az]; rfl
     ·clear hi ih hx hw h hT hg; simp_all; done)
def apF(t:Tree)(ar:Int)(s:Bytes)(of:Int)(ht:Small t):aq cd 118 [br t,aF ar,.str s,aF of] []=some (br (iq t ar s of),[]):=by
 refine aB ?_;have hd:=Fw ht ar;unfold iq;simp only[RP,GG,br,aM,A5,ht.ae,bK,EN,seval];generalize (find t.ae ar).getD Node.zero=n at hd ⊢;simp only[GG,aL,EN,seval];refine(ZV (e:=⟨s,of,t.ak⟩) (R:=fun out done=>some (br ⟨eV t.ae { n with bc:=out++(if done then [] else [⟨s,of,t.ak⟩]) },t.next,nq (t.ak+1)⟩,[])) hd (fun out done v e ho=>?_) (fun B M=>by simp only[GG,EN,seval]) n.bc [] [] false rfl gh).trans (by simp[br,aM,yW])
 have r1:cr (out.length+1) 32=True:=qI;cases done
 ·simp only[GG,zT,aL,fU,r1,aav,G9,ht.ae,EN,seval];simp[br,aM]
 ·simp only[GG,zT,aL,fU,r1,G9,ht.ae,EN,seval];simp[br,aM]
def YV(ae:List Node)(next ak ar:Int)(s:Bytes)(of:Int)(ht:Small ⟨ae,next,ak⟩)(M:aC):aR (aq cd) 118 [.agg [ba ae,aF next,aF ak],aF ar,.str s,aF of] M =
  some (br (iq ⟨ae,next,ak⟩ ar s of),M):=cO (apF ⟨ae,next,ak⟩ ar s of ht) M
def Z1{t:Tree}(ht:t.ae.length<=100000){k:List K}{R:Nat->Option (ag×aC)}
  (hx:∀(d:Nat) v q,kr (aq cd) [.tmp 4] 0 k ⟨.exit 0,[(1,v),(2,cv 0),(5,aF d),(13,q)],[cA (aM t)]⟩=R d) :
  ∀(m:Nat)(ar:Int)(d:Nat),d+m=201->eX (aq cd) [.tmp 4] 0 k (.loop [1,2,5] Zl) [(1,aF ar),(2,cv 0),(5,aF d)] [cA (aM t)]=R (vW t.ae m ar d):=by
 intro m;induction m with
 |zero =>
  intro ar d hd;rw[bF];have hd':((d:Int)<=200)=False:=gh;simp only[Kf,EN,seval]
  repeat' ((first|apply bA|apply bW|apply dK)<;>intro hb<;>simp only[hb,EN,Kf,hd',seval])
  all_goals exact hx _ _ _
 |succ m ih =>
  intro ar d hd;rw[bF];have hd':((d:Int)<=200)=True:=gh;have hw:IntKind.i64.wrap ((d:Int)+1)=((d+1:Nat):Int):=by rw[gW aH aH]; rfl
  have hi:=fun ar=>ih ar (d+1) aH
  rw[vW];simp only[Kf,EN,seval];refine bW (fun hb=>?_) (fun hb=>?_)
  ·simp only[Kf,hb,hd',hw,aM,A5,ht,bK,aL,EN,seval];have h1:¬ar=1:=by simpa using hb
   rw[aP h1];exact hi _
  ·simp only[Kf,hb,hd',hw,aM,A5,ht,bK,aL,EN,seval];have h1:ar=1:=by simpa using hb
   rw[aW h1];exact hx _ _ _
def apO(t:Tree)(ar:Int)(ht:t.ae.length<=100000):aq cd 128 [br t,aF ar] []=some (aF (pM t.ae ar),[]):=by
 refine aB ?_;simp only[ab0,Kf,br,EN,seval];exact Z1 (R:=fun(d:Nat)=>some (aF d,[])) ht (fun d v q=>by simp only[Kf,EN,seval]) 201 ar 0 rfl
def Pj(ae:List Node)(next ak ar:Int)(h:ae.length<=100000)(M:aC):aR (aq cd) 128 [.agg [ba ae,aF next,aF ak],aF ar] M=some (aF (pM ae ar),M) :=
 cO (apO ⟨ae,next,ak⟩ ar h) M
def aqm(t:Tree)(n:Node)(ht:Small t):aq cd 171 [br t,bK n] []=some (.bool (Dy t n),[]):=by
 refine aB ?_;simp only[aco,aib,br,aM,bK,aL,Pj,ht.ae,EN,seval];unfold Dy
 repeat' ((first|apply bA|apply bW|apply dK)<;>intro hb<;>simp only[hb,EN,aib,Pj,ht.ae,seval])
 all_goals simp_all
def asn(ae:List Node)(next ak a b c:Int)(d:Bytes)(e:List gM)(u:Int)(h:Small ⟨ae,next,ak⟩)(M:aC):aR (aq cd) 171 [.agg [ba ae,aF next,aF ak],.agg [aF a,aF b,aF c,c8 d,jb e,aF u]] M =
  some (.bool (Dy ⟨ae,next,ak⟩ ⟨a,b,c,d,e,u⟩),M):=cO (aqm ⟨ae,next,ak⟩ ⟨a,b,c,d,e,u⟩ h) M
def apE(t:Tree)(ar:Int)(s:Bytes)(ht:Small t)(hs:s.length<=100000):aq cd 117 [br t,aF ar,.str s] []=some (aF (oV t ar s),[]):=by
 refine aB ?_;have hd:=tC ht ar;have ht':Small ⟨t.ae,t.next,t.ak⟩:=ht
 simp only[abT,GF,br,aM,YW,ht.ae,bK,aL,EN,seval];unfold oV;refine bA (fun hb=>?_) (fun hb=>?_)
 ·simp only[GF,EN,seval];simp_all
 ·simp only[GF,SH,hs,EN,seval];refine bA (fun hb'=>?_) (fun hb'=>?_)
  ·simp only[GF,EN,seval];simp_all
  ·simp only[GF,afh,hd,EN,seval];rcases tq s (gY t.ae ar).1.bc 0 with ⟨h1,h2⟩|⟨m,n,h1,h2,h3⟩
   ·rw[h2];simp only[GF,asn,ht',EN,seval];refine bA (fun hb''=>?_) (fun hb''=>?_)
    ·simp only[GF,EN,seval];simp_all
    ·simp only[GF,EN,seval];simp_all
   ·rw[h3];simp only[GF,EN,seval];simp_all
def afe(ae:List Node)(next ak ar:Int)(s:Bytes)(ht:Small ⟨ae,next,ak⟩)(hs:s.length<=100000)(M:aC):aR (aq cd) 117 [.agg [ba ae,aF next,aF ak],aF ar,.str s] M =
  some (aF (oV ⟨ae,next,ak⟩ ar s),M):=cO (apE ⟨ae,next,ak⟩ ar s ht hs) M
def alZ(ae:List Node)(next ak a b c u:Int)(h:ae.length<=100000)(M:aC):aR (aq cd) 119 [.agg [ba ae,aF next,aF ak],.agg [aF a,aF b,aF c,gA [],gA [],aF u]] M =
  some (.agg [ba (eV ae ⟨a,b,c,[],[],u⟩),aF next,aF ak],M):=G9 ae next ak a b c [] [] u h M
def P6{t:Tree}(hz:Sz 1000 t)(k u next ak a c:Int):Small ⟨eV t.ae ⟨a,k,c,[],[],u⟩,next,ak⟩:=(hz.with dw dw next ak).small aH
set_option maxHeartbeats 1000000 in
def c70(t:Tree)(ar:Int)(s:Bytes)(kind:Int)(hz:Sz 1000 t)(hs:s.length<=100000):aq cd 70 [br t,aF ar,.str s,aF kind] []=some (.tuple [br (rR t ar s kind).1,aF (rR t ar s kind).2.1,aF (rR t ar s kind).2.2],[]):=by
 obtain⟨ae,next,ak⟩:=t
 refine aB ?_;have ht:Small ⟨ae,next,ak⟩:=hz.small aH
 have hn:ae.length<=100000:=ht.ae;have hw:=fun k u next' cookie' a c=>P6 hz k u next' cookie' a c
 simp only[alx,E70,br,aM,afe,ht,hs,EN,seval]
 repeat' ((first|apply bA|apply bW|apply dK)<;>intro hb<;>simp only[hb,EN,E70,afe,ht,hs,hn,alZ,YV,hw,br,aM,seval])
 all_goals (clear hw; simp_all only[rR,br,aM,qx,↓reduceIte,reduceCtorEq,aw]; done)
def Z0{t:Tree}{of:Int}(ht:t.ae.length<=100000){k:List K}{R:Bool->Option (ag×aC)}
  (hx:∀e,kr (aq cd) [.tmp 6] 0 k ⟨.exit 0,e,[cA (aM t)]⟩=R false) (hr:∀b,kr (aq cd) [.tmp 6] 0 k ⟨.ret,[(6,.bool b)],[cA (aM t)]⟩=R b) :
  ∀(m:Nat)(ar:Int)(d:Nat),d+m=t.ae.length+1->eX (aq cd) [.tmp 6] 0 k (.loop [1,2,3,7] Zk) [(1,aF ar),(2,aF of),(3,cv 0),(7,aF d)] [cA (aM t)]=R (nc t.ae of m ar):=by
 intro m;induction m with
 |zero =>
  intro ar d hd;rw[bF];have hd':((d:Int)<=(t.ae.length:Int))=False:=gh;simp only[GH,aM,ba,hd',EN,seval];exact hx _
 |succ m ih =>
  intro ar d hd;rw[bF];have hd':((d:Int)<=(t.ae.length:Int))=True:=gh;have hw:IntKind.i64.wrap ((d:Int)+1)=((d+1:Nat):Int):=by rw[gW aH aH]; rfl
  have hi:=fun ar=>ih ar (d+1) aH
  rw[nc];simp only[GH,aM,ba,hd',EN,seval];refine bA (fun hb=>?_) (fun hb=>?_)
  ·have h1:ar=of:=by simpa using hb
   simp only[GH,EN,seval];rw[aW h1];exact hr _
  ·have h1:¬ar=of:=by simpa using hb
   simp only[GH,EN,seval];rw[aP h1];refine bA (fun hb=>?_) (fun hb=>?_)
   ·have h1:ar=1:=by simpa using hb
    simp only[GH,EN,seval];rw[aW h1];exact hr _
   ·have h1:¬ar=1:=by simpa using hb
    simp only[GH,hw,A5,ht,bK,aL,EN,seval];rw[aP h1];exact hi _
def apM(t:Tree)(ar of:Int)(ht:t.ae.length<=100000):aq cd 126 [br t,aF ar,aF of] []=some (.bool (iM t.ae ar of),[]):=by
 refine aB ?_;simp only[abY,GH,br,EN,seval];exact Z0 (R:=fun b=>some (.bool b,[])) ht (fun e=>by simp only[GH,EN,seval]) (fun b=>by simp only[GH,EN,seval]) (t.ae.length+1) ar 0 aH
def afi(ae:List Node)(next ak ar of:Int)(h:ae.length<=100000)(M:aC):aR (aq cd) 126 [.agg [ba ae,aF next,aF ak],aF ar,aF of] M=some (.bool (iM ae ar of),M) :=
 cO (apM ⟨ae,next,ak⟩ ar of h) M
def k70(ae:List Node)(next ak ar:Int)(s:Bytes)(kind:Int)(hz:Sz 1000 ⟨ae,next,ak⟩)(hs:s.length<=100000)(M:aC):aR (aq cd) 70 [.agg [ba ae,aF next,aF ak],aF ar,.str s,aF kind] M =
  some (.tuple [br (rR ⟨ae,next,ak⟩ ar s kind).1,aF (rR ⟨ae,next,ak⟩ ar s kind).2.1,aF (rR ⟨ae,next,ak⟩ ar s kind).2.2],M):=cO (c70 ⟨ae,next,ak⟩ ar s kind hz hs) M
def c68(t:Tree)(ar to:Int)(s:Bytes)(hz:Sz 1000 t)(hs:s.length<=100000):aq cd 68 [br t,aF ar,aF to,.str s] []=some (.tuple [br (CA t ar to s).1,aF (CA t ar to s).2],[]):=by
 obtain⟨ae,next,ak⟩:=t
 refine aB ?_;have ht:Small ⟨ae,next,ak⟩:=hz.small aH
 have hn:ae.length<=100000:=ht.ae;have hf:=hz.find ar;have hw':∀l,Small ⟨eV ae { bl ae ar with ep:=l },next,ak⟩:=fun l=>(hz.with (n:={ bl ae ar with ep:=l }) (iY hf.1) hf.2 next ak).small aH
 simp only[alw,E68,br,aM,A5,hn,bK,aL,EN,seval]
 repeat' ((first|apply bA|apply bW|apply dK)<;>intro hb<;>simp only[hb,EN,E68,afe,ht,hs,hn,G9,YV,hw',br,aM,seval])
 all_goals (clear hw' hf; simp_all only[CA,br,aM,qx,↓reduceIte,reduceCtorEq,aw]; done)
def k68(ae:List Node)(next ak ar to:Int)(s:Bytes)(hz:Sz 1000 ⟨ae,next,ak⟩)(hs:s.length<=100000)(M:aC):aR (aq cd) 68 [.agg [ba ae,aF next,aF ak],aF ar,aF to,.str s] M =
  some (.tuple [br (CA ⟨ae,next,ak⟩ ar to s).1,aF (CA ⟨ae,next,ak⟩ ar to s).2],M):=cO (c68 ⟨ae,next,ak⟩ ar to s hz hs) M
def apH(t:Tree)(ar:Int)(ht:Small t):aq cd 121 [br t,aF ar] []=some (br ⟨fp t.ae ar,t.next,t.ak⟩,[]):=by
 obtain⟨ae,next,ak⟩:=t
 refine aB ?_;have hn:ae.length<=100000:=ht.ae;simp only[abU,ah5,br,aM,A5,hn,bK,aL,EN,seval]
 repeat' ((first|apply bA|apply bW|apply dK)<;>intro hb<;>simp only[hb,EN,ah5,hn,G9,al9,br,aM,seval])
 all_goals (simp_all only[fp,br,aM,qx,↓reduceIte,reduceCtorEq,aw]; done)
def aff(ae:List Node)(next ak ar:Int)(ht:Small ⟨ae,next,ak⟩)(M:aC):aR (aq cd) 121 [.agg [ba ae,aF next,aF ak],aF ar] M =
  some (.agg [ba (fp ae ar),aF next,aF ak],M):=cO (apH ⟨ae,next,ak⟩ ar ht) M
def c71(t:Tree)(ar:Int)(s:Bytes)(hz:Sz 1000 t)(hs:s.length<=100000):aq cd 71 [br t,aF ar,.str s] []=some (.tuple [br (BC t ar s).1,aF (BC t ar s).2.1,aF (BC t ar s).2.2],[]):=by
 obtain⟨ae,next,ak⟩:=t
 refine aB ?_;have ht:Small ⟨ae,next,ak⟩:=hz.small aH
 have hn:ae.length<=100000:=ht.ae;have hl:Small ⟨dv ae ar s,next,ak⟩:=(hz.left ar s next ak).small aH
 simp only[aly,E71,br,aM,k72,ht,hs,bK,aL,EN,seval]
 repeat' ((first|apply bA|apply bW|apply dK)<;>intro hb<;>simp only[hb,EN,E71,hn,ht,hs,A5,afg,aff,hl,bK,aL,br,aM,seval])
 all_goals (simp_all only[BC,br,aM,qx,↓reduceIte,reduceCtorEq,aw]; done)
def k71(ae:List Node)(next ak ar:Int)(s:Bytes)(hz:Sz 1000 ⟨ae,next,ak⟩)(hs:s.length<=100000)(M:aC):aR (aq cd) 71 [.agg [ba ae,aF next,aF ak],aF ar,.str s] M =
  some (.tuple [br (BC ⟨ae,next,ak⟩ ar s).1,aF (BC ⟨ae,next,ak⟩ ar s).2.1,aF (BC ⟨ae,next,ak⟩ ar s).2.2],M):=cO (c71 ⟨ae,next,ak⟩ ar s hz hs) M
def apN(t:Tree)(x:Node)(y:Int)(ht:Small t):aq cd 127 [br t,bK x,aF y] []=some (aF (uW t.ae x.kind y),[]):=by
 obtain⟨ae,next,ak⟩:=t
 refine aB ?_;have hn:ae.length<=100000:=ht.ae;simp only[abZ,ah6,br,aM,A5,hn,bK,aL,EN,seval]
 repeat' ((first|apply bA|apply bW|apply dK)<;>intro hb<;>simp only[hb,EN,ah6,seval])
 all_goals (simp_all only[uW,qx,↓reduceIte,reduceCtorEq,aw]; done)
def al0(ae:List Node)(next ak a b c:Int)(d:Bytes)(e:List gM)(u y:Int)(ht:Small ⟨ae,next,ak⟩)(M:aC):aR (aq cd) 127 [.agg [ba ae,aF next,aF ak],.agg [aF a,aF b,aF c,c8 d,jb e,aF u],aF y] M =
  some (aF (uW ae b y),M):=cO (apN ⟨ae,next,ak⟩ ⟨a,b,c,d,e,u⟩ y ht) M
def c83(t:Tree)(ar:Int)(data:Bytes)(ht:Small t)(hd:data.length<=100000):aq cd 83 [br t,aF ar,c8 data] []=some (.tuple [br (rO t ar data).1,aF (rO t ar data).2],[]):=by
 obtain⟨ae,next,ak⟩:=t
 refine aB ?_;have hn:ae.length<=100000:=ht.ae;have r1:cr data.length 1=True:=qI;simp only[ae6,E83,br,aM,A5,hn,bK,aL,EN,seval]
 repeat' ((first|apply bA|apply bW|apply dK)<;>intro hb<;>simp only[hb,EN,E83,hn,r1,G9,br,aM,seval])
 all_goals (simp_all only[rO,br,aM,qx,↓reduceIte,reduceCtorEq,aw]; done)
def k83(ae:List Node)(next ak ar:Int)(data:Bytes)(ht:Small ⟨ae,next,ak⟩)(hd:data.length<=100000)(M:aC):aR (aq cd) 83 [.agg [ba ae,aF next,aF ak],aF ar,c8 data] M =
  some (.tuple [br (rO ⟨ae,next,ak⟩ ar data).1,aF (rO ⟨ae,next,ak⟩ ar data).2],M):=cO (c83 ⟨ae,next,ak⟩ ar data ht hd) M
def apV(t:Tree)(ar:Int)(ht:Small t):aq cd 137 [br t,aF ar] []=some (.tuple [br (kC t ar).1,aF (kC t ar).2],[]):=by
 obtain⟨ae,next,ak⟩:=t
 refine aB ?_;have hn:ae.length<=100000:=ht.ae;simp only[ab7,ah7,br,aM,A5,hn,bK,aL,EN,seval]
 repeat' ((first|apply bA|apply bW|apply dK)<;>intro hb<;>simp only[hb,EN,ah7,hn,al9,br,aM,seval])
 all_goals (simp_all only[kC,br,aM,qx,↓reduceIte,reduceCtorEq,aw]; done)
def al4(ae:List Node)(next ak ar:Int)(ht:Small ⟨ae,next,ak⟩)(M:aC):aR (aq cd) 137 [.agg [ba ae,aF next,aF ak],aF ar] M =
  some (.tuple [br (kC ⟨ae,next,ak⟩ ar).1,aF (kC ⟨ae,next,ak⟩ ar).2],M):=cO (apV ⟨ae,next,ak⟩ ar ht) M
def c41:aq cd 41 [] []=some (br wJ,[]):=by
 refine aB ?_;simp only[alo,E41,EN,seval];rfl
def k41:=cP c41
def Z2{ae:List Node}{next ak ar at' d:Int}(ht:ae.length<=100000){k:List K}{R:Int->Option (ag×aC)}
  (hx:∀dS v q,kr (aq cd) [.tmp 6] 0 k ⟨.exit 0,[(1,aF ar),(2,aF at'),(3,cv 0),(7,aF dS),(8,aF d),(9,v),(19,q)],[cA (aM ⟨ae,next,ak⟩)]⟩=R dS) :
  ∀(l pre:List Node)(dS:Int),ae=pre++l->eX (aq cd) [.tmp 6] 0 k (.loop [1,2,3,7,8,9] Zm) [(1,aF ar),(2,aF at'),(3,cv 0),(7,aF dS),(8,aF d),(9,aF pre.length)] [cA (aM ⟨ae,next,ak⟩)]=R (vY ae ar at' d l dS):=by
 intro l;induction l with
 |nil =>
  intro pre dS h;rw[bF];simp only[QA,aM,jJ h,EN,seval];exact hx _ _ _
 |cons n r ih =>
  intro pre dS h;rw[bF];have dR:pre.length+1<=100000:=by rw[h] at ht; simp at ht; omega
  have hw:=zl pre n;have hi:=fun dS=>ih (pre++[n]) dS (by rw[h]; simp)
  rw[vY];simp only[aM] at hi;generalize hst:sC ae ar at' d n dS=m1;simp only[QA,aM,iP h,gU h,aL,EN,seval]
  repeat' ((first|apply bA|apply bW|apply dK)<;>intro hb<;>simp only[hb,EN,QA,hw,afi,Pj,ht,aL,seval])
  all_goals refine im ?_ (hi m1)
  all_goals congr 1
  all_goals (subst hst; clear hi ih hx hw h ht; simp_all only[sC,nq,gt_iff_lt,aA,av,az,aJ,qx,↓reduceIte,reduceCtorEq,aw]; done)
def apP(t:Tree)(ar at':Int)(ht:t.ae.length<=100000):aq cd 129 [br t,aF ar,aF at'] []=some (aF (BX t.ae ar at'),[]):=by
 obtain⟨ae,next,ak⟩:=t
 have ht:ae.length<=100000:=ht;refine aB ?_;simp only[ab1,QA,br,aM,Pj,ht,EN,seval];exact Z2 (R:=fun z=>some (aF z,[])) ht (fun dS v q=>by simp only[QA,EN,seval]) ae [] 0 rfl
def al1(ae:List Node)(next ak ar at':Int)(h:ae.length<=100000)(M:aC):aR (aq cd) 129 [.agg [ba ae,aF next,aF ak],aF ar,aF at'] M=some (aF (BX ae ar at'),M) :=
 cO (apP ⟨ae,next,ak⟩ ar at' h) M
set_option maxHeartbeats 2000000 in
def c73(t:Tree)(ki:Int)(s:Bytes)(to:Int)(nm:Bytes)(hz:Sz 1000 t)(hs:s.length<=100000)(ha:nm.length<=100000):aq cd 73 [br t,aF ki,.str s,aF to,.str nm] [] =
  some (.tuple [br (wM t ki s to nm).1,aF (wM t ki s to nm).2.1,aF (wM t ki s to nm).2.2],[]):=by
 obtain⟨ae,next,ak⟩:=t
 have ht:Small ⟨ae,next,ak⟩:=hz.small aH
 have hn:ae.length<=100000:=ht.ae;have hd:(gY ae to).1.bc.length<=100000:=tC ht to;have z1:Sz 1001 ⟨dv ae ki s,next,ak⟩:=hz.left ki s next ak
 have z2:Sz 1002 ⟨dv (dv ae ki s) to nm,next,ak⟩:=z1.left to nm next ak
 have z3:∀y,Sz 1003 ⟨fp (dv (dv ae ki s) to nm) y,next,ak⟩:=fun y=>z2.unnamed y next ak
 have hx:=hz.find (fh ae ki s).1;have z4:∀y,Sz 1004 ⟨eV (fp (dv (dv ae ki s) to nm) y) { bl ae (fh ae ki s).1 with up:=to },next,ak⟩:=fun y=>(z3 y).with (n:={ bl ae (fh ae ki s).1 with up:=to }) (aY hx.1 aH) hx.2 next ak
 have z5:Sz 1002 ⟨eV (dv ae ki s) { bl ae (fh ae ki s).1 with up:=to },next,ak⟩:=z1.with (n:={ bl ae (fh ae ki s).1 with up:=to }) (aY hx.1 aH) hx.2 next ak
 have s1:=z1.small aH;have s2:=z2.small aH;have s3:=fun y=>(z3 y).small aH
 have s4:=fun y=>(z4 y).small aH
 have s5:=z5.small aH;have n1:(dv ae ki s).length<=100000:=s1.ae;have n3:∀y,(fp (dv (dv ae ki s) to nm) y).length<=100000:=fun y=>(s3 y).ae
 clear z1 z2 z3 z4 z5 hx;refine aB ?_;simp only[alA,QK,br,aM,k72,ht,hs,EN,seval];refine bA (fun hb0=>?_) (fun hb0=>?_)
 ·simp only[QK,hb0,EN,seval];clear s1 s2 s3 s4 s5 n1 n3;simp_all only[wM,br,aM,qx,↓reduceIte,reduceCtorEq,aw]
 simp only[QK,hb0,YW,hn,bK,aL,EN,seval];refine bA (fun hb1=>?_) (fun hb1=>?_)
 ·simp only[QK,hb1,EN,seval];clear s1 s2 s3 s4 s5 n1 n3;simp_all only[wM,br,aM,qx,↓reduceIte,reduceCtorEq,aw]
 simp only[QK,hb1,SH,ha,EN,seval];refine bA (fun hb2=>?_) (fun hb2=>?_)
 ·simp only[QK,hb2,EN,seval];clear s1 s2 s3 s4 s5 n1 n3;simp_all only[wM,br,aM,qx,↓reduceIte,reduceCtorEq,aw]
 simp only[QK,hb2,afh,hd,EN,seval];rcases tq nm (gY ae to).1.bc 0 with ⟨h1,h2⟩|⟨m,n,h1,h2,h3⟩
 ·have hu:jg (gY ae to).1.bc nm=0:=by simp[jg,h1]
  rw[h2];simp only[QK,EN,seval]
  repeat' ((first|apply bA|apply bW|apply dK)<;>intro hb<;>simp only[hb,EN,QK,A5,hn,ht,bK,aL,afi,al0,Pj,al1,afg,aff,G9,YV,s1,s2,s3,s4,s5,n1,n3,br,aM,seval])
  all_goals (clear s1 s2 s3 s4 s5 n1 n3 h2; simp_all only[wM,tc,manyN,hu,br,aM,qx,↓reduceIte,reduceCtorEq,aw]; done)
 ·have hu:jg (gY ae to).1.bc nm=n.ar:=by simp[jg,h2]
  rw[h3];simp only[QK,h1,fU,EN,seval]
  repeat' ((first|apply bA|apply bW|apply dK)<;>intro hb<;>simp only[hb,EN,QK,A5,hn,ht,bK,aL,afi,al0,Pj,al1,afg,aff,G9,YV,s1,s2,s3,s4,s5,n1,n3,br,aM,seval])
  all_goals (clear s1 s2 s3 s4 s5 n1 n3 h3; simp_all only[wM,tc,manyN,hu,br,aM,qx,↓reduceIte,reduceCtorEq,aw]; done)
def k73(ae:List Node)(next ak ki:Int)(s:Bytes)(to:Int)(nm:Bytes)(hz:Sz 1000 ⟨ae,next,ak⟩)(hs:s.length<=100000)(ha:nm.length<=100000)(M:aC):aR (aq cd) 73 [.agg [ba ae,aF next,aF ak],aF ki,.str s,aF to,.str nm] M =
  some (.tuple [br (wM ⟨ae,next,ak⟩ ki s to nm).1,aF (wM ⟨ae,next,ak⟩ ki s to nm).2.1,aF (wM ⟨ae,next,ak⟩ ki s to nm).2.2],M):=cO (c73 ⟨ae,next,ak⟩ ki s to nm hz hs ha) M
def VK{α:Type}(lt:α->Bool)(x:α)(l:List α):mi lt (x::l)=if lt x then mi lt l+1 else 0:=by
 unfold mi;rw[iv];split<;>simp
def agX{l:List fE}(hn:l.length<=100000){c h ar:Int}{t:Tree}{n:Node}{i:Nat}{k:List K}{R:Option (ag×aC)}
  (hx:∀z,kr (aq cd) [.tmp 10,.tmp 11] 0 k ⟨.exit 0,(1,fI l)::(2,aF c)::(3,aF h)::(4,aF ar)::(14,aF i)::z,[cA (aM t),cA (aL n)]⟩=R) :
  ∀(rest pre:List fE),l=pre++rest->pre.length+mi (wB c h) rest=i->eX (aq cd) [.tmp 10,.tmp 11] 0 k (.loop [1,2,3,4,14] agQ) [(1,fI l),(2,aF c),(3,aF h),(4,aF ar),(14,aF pre.length)] [cA (aM t),cA (aL n)]=R:=by
 simp only[aM,aL] at hx ⊢;intro rest;induction rest with
 |nil =>
  intro pre e hi;obtain rfl:pre.length=i:=by simpa[mi] using hi
  rw[bF];simp only[XZ,jJ e,EW,seval];exact hx _
 |cons x r ih =>
  intro pre e hi;rw[bF];have dR:pre.length+1<=100000:=by rw[e] at hn; simp at hn; omega
  have hw:=zl pre x;have i1:=ih (pre++[x]) (by rw[e]; simp)
  have h0:((pre.length:Int)<0)=False:=dw;simp only[aA,av,az,aJ] at i1;rw[VK] at hi;cases hl:wB c h x<;>rw[hl] at hi
  ·obtain rfl:pre.length=i:=by simpa using hi
   unfold wB at hl;cases h1:decide (x.bC<c)<;>cases h2:x.bC==c<;>cases h3:decide (x.handle<h)<;>rw[h1,h2,h3] at hl<;>first|(cases hl; done)|skip
   all_goals
    simp only[XZ,iP e,gU e,hw,h0,h1,h2,h3,ig,jc,eu,dI,fG,cV,dM,cH,cI,aE,af,aD,EW,seval];exact hx _
  ·have i1:=i1 (by simp at hi; omega)
   unfold wB at hl;cases h1:decide (x.bC<c)<;>cases h2:x.bC==c<;>cases h3:decide (x.handle<h)<;>rw[h1,h2,h3] at hl<;>first|(cases hl; done)|skip
   all_goals
    simp only[XZ,iP e,gU e,hw,h0,h1,h2,h3,ig,jc,eu,dI,fG,cV,dM,cH,cI,aE,af,aD,EW,seval];exact i1
def c77(t:Tree)(l:List fE)(c h ar:Int)(ht:t.ae.length<=100000)(hn:l.length<=100000):aq cd 77 [br t,fI l,aF c,aF h,aF ar] []=some (.tuple [fI (sG t l c h ar).1,aF (sG t l c h ar).2],[]):=by
 refine aB ?_;have qg:=fun M=>A5 t.ae t.next t.ak ar ht M
 have qo:=fun M=>al2 t.ae t.next t.ak ar ht M
 have qp:=fun M=>afj l c h hn M
 have hz:(find t.ae ar).getD Node.zero=bl t.ae ar:=rfl;rw[hz] at qg
 obtain⟨A,B,hl,hA⟩:∃A B,l=A++B/\mi (wB c h) l=A.length:=⟨l.take (mi (wB c h) l),l.drop (mi (wB c h) l),dw,by
  rw[cq];have:mi (wB c h) l<=l.length:=by unfold mi; exact(List.takeWhile_prefix _).length_le
  omega⟩
 have hlo:=fun {k R} hx=>agX (t:=t) (n:=bl t.ae ar) (c:=c) (h:=h) (ar:=ar) (i:=A.length) hn (k:=k) (R:=R) hx l [] rfl (by simpa using hA)
 unfold sG;rw[hA];have a1:l.take A.length=A:=by rw[hl]; simp
 have a2:l.drop A.length=B:=by rw[hl]; simp
 have a3:((A.length:Int)<=(l.length:Int))=True:=by rw[hl]; simp; omega
 have hal:A.length+B.length<=100000:=by rw[hl] at hn; simpa using hn
 have r1:cr A.length 24=True:=qI;have r2:cr (A.length+1) 24=True:=qI;have r3:cr (A.length+1+B.length) 24=True:=qI;generalize bl t.ae ar=n at qg qo hlo;generalize (find t.ae ar).isSome=is at qg qo;generalize zf l c h=p at qp
 cases h1:decide (c<0)<;>cases h2:decide (16<=c)<;>cases h3:decide (h<0)<;>cases h4:decide (99<h) <;>
  simp only[ae4,XZ,br,aM,qg,h1,h2,h3,h4,bK,aL,eu,dI,fG,cV,fH,aE,af,aD,EW,seval]
 cases is<;>cases h5:gV n<;>rw[h5] at qo<;>simp only[jM,gb,dM,cH,cI] at qo <;>
  simp only[XZ,qo,eu,dI,fG,cV,fH,aE,af,aD,EW,seval]
 cases h6:n.kind==2<;>simp only[XZ,h6,aE,af,aD,EW,seval]
 cases h7:decide (0<=p)<;>simp only[XZ,qp,h7,aE,af,aD,EW,seval]
 cases h8:decide (64<=(l.length:Int))<;>simp only[XZ,h8,aE,af,aD,EW,seval]
 simp only[az,aJ,aM,aL] at hlo;refine hlo (fun z=>?_)
 rw[a1,a2];have a1':(l.map ig).take A.length=A.map ig:=by rw[<-eP,a1]
 have a2':(l.map ig).drop A.length=B.map ig:=by rw[<-jQ,a2]
 have a5:(l.map ig).take l.length=l.map ig:=by rw[<-eP,bH]
 simp only[XZ,a1',a2',a3,a5,r1,r2,r3,dP,EW,seval];simp[ig,jc]
def k77(ae:List Node)(next ak:Int)(l:List fE)(c h ar:Int)(ht:ae.length<=100000)(hn:l.length<=100000)(M:aC):aR (aq cd) 77 [.agg [ba ae,aF next,aF ak],fI l,aF c,aF h,aF ar] M=some (.tuple [fI (sG ⟨ae,next,ak⟩ l c h ar).1,aF (sG ⟨ae,next,ak⟩ l c h ar).2],M):=cO (c77 ⟨ae,next,ak⟩ l c h ar ht hn) M
structure Au(t:Tree)(l:List fE)(u:Tree)(m:List fE):Prop where
 rt:Rt u
 mj:uz m
 len:m.length<=64
 mem:∀y,y∈m->y∈l/\(tG t.ae y.ar->tG u.ae y.ar)
 orp:(∀n,n∈t.ae->gV n=true->pN l n.ar=true)->∀n,n∈u.ae->gV n=true->pN m n.ar=true
 dir:∀i,XD t.ae i->XD u.ae i
 one:∀Q,OD t Q->OD u Q
 use:∀q,nj u q=nj t q
def Au.refl{t:Tree}{l:List fE}(ht:Rt t)(hl:uz l)(hn:l.length<=64):Au t l t l:=⟨ht,hl,hn,fun _ hy=>⟨hy,id⟩,id,fun _=>id,fun _=>id,fun _=>rfl⟩
theorem Au.trans{t u v:Tree}{l m k:List fE}(h:Au t l u m)(g:Au u m v k):Au t l v k:=⟨g.rt,g.mj,g.len,fun y hy=>⟨(h.mem y (g.mem y hy).1).1,fun hf=>(g.mem y hy).2 ((h.mem y (g.mem y hy).1).2 hf)⟩,fun ho=>g.orp (h.orp ho),fun i hi=>g.dir i (h.dir i hi),fun Q hQ=>g.one Q (h.one Q hQ),fun q=>(g.use q).trans (h.use q)⟩
def CK{l:List fE}{y:fE}(h:y∈l){i:Int}(e:y.ar=i):pN l i=true:=iJ.2 ⟨y,h,by simp[e]⟩
def of_held{l:List fE}{i:Int}(h:pN l i=true):∃y,y∈l/\y.ar=i:=by
 obtain⟨y,h1,h2⟩:=iJ.1 h;exact⟨y,h1,by simpa using h2⟩
def aa7{t u:Tree}{l A B:List fE}{x:fE}(ht:Rt t)(hl:uz l)(hn:l.length<=64)(he:l=A++x::B)(hu:u=t/\(((find t.ae x.ar).isSome&&gV (bl t.ae x.ar))=true->pN (A++B) x.ar=true)\/u=(kC t x.ar).1/\pN (A++B) x.ar=false):Au t l u (A++B):=by
 subst he;have hsub:(A++B).Sublist (A++x::B):=List.Sublist.append (List.Sublist.refl _) (List.sublist_cons_self _ _);have dR:(A++B).length<=64:=aY hsub.length_le hn
 have hor:∀y,y∈A++x::B->y=x\/y∈A++B:=fun y hy=>by
  rcases bo.1 hy with h|h
  ·exact .inr (eH _ h)
  ·rcases bJ.1 h with h|h
   ·exact .inl h
   ·exact .inr (iG _ h)
 rcases hu with ⟨rfl,hb⟩|⟨rfl,hb⟩
 ·exact⟨ht,hl.sublist hsub,dR,fun y hy=>⟨hsub.mem hy,id⟩,fun h n hm ho=>by
   obtain⟨y,h1,h2⟩:=of_held (h n hm ho);rcases hor y h1 with rfl|h3
   ·rw[<-h2];refine hb ?_;have:=(ij ht.lI.mj).2 ⟨hm,h2.symm⟩;simp[bl,this,ho]
   ·exact CK h3 h2,fun _=>id,fun _=>id,fun _=>rfl⟩
 ·have hf:=ht.free x.ar;have hff:=AN ht x.ar;refine⟨hf,hl.sublist hsub,dR,fun y hy=>⟨hsub.mem hy,fun hi=>I8 ht x.ar hi fun e=>by rw[CK hy e] at hb; cases hb⟩,fun h n hm ho=>?_,fun i hi=>?_,aaz ht x.ar,fun q=>by simp only[nj,Qf ht]⟩
  ·have h1:=(ij hf.lI.mj).2 ⟨hm,rfl⟩;rw[hff] at h1;split at h1
   ·cases h1
   rename_i hc;obtain⟨y,g1,g2⟩:=of_held (h n (cG h1).1 ho);rcases hor y g1 with rfl|h3
   ·exact absurd ⟨g2.symm,n,by rw[g2]; exact h1,ho⟩ hc
   ·exact CK h3 g2
  ·obtain⟨n,h1,h2⟩:=hi;refine⟨n,?_,h2⟩;rw[hff,aP,h1];rintro⟨rfl,m,g1,g2⟩;rw[h1] at g1; cases g1;simp[gV,h2] at g2
def c80(t:Tree)(l:List fE)(c h:Int)(ht:Rt t)(hl:uz l)(hn:l.length<=64):∃u m e,aq cd 80 [br t,fI l,aF c,aF h] []=some (.tuple [br u,fI m,aF e],[])/\Au t l u m:=by
 have qp:=fun M=>afj l c h aH M
 have hnl:=ht.sz.ae;rcases sm c h l 0 with ⟨hp,_⟩|⟨m,x,hp,hx,_⟩<;>rw[show pS c h l 0=zf l c h from rfl] at hp
 ·rw[hp] at qp;refine⟨t,l,80,aB ?_,Au.refl ht hl hn⟩;simp only[O3,E80,br,aM,qp,EW,seval]
 ·rw[hp,aJ] at qp;have hm:=(aj.1 hx).1;have h1:((m:Int)<0)=False:=dw;have h2:((m:Int)<(l.length:Int))=True:=sH;have w1:IntKind.i64.wrap ((m:Int)+1)=((m+1:Nat):Int):=by rw[gW aH aH]; rfl
  have h3:((m:Int)<=(l.length:Int))=True:=sH;have h4:(((m+1:Nat):Int)<=(l.length:Int))=True:=sH;obtain⟨A,B,e1,e2⟩:∃A B,l.take m=A/\l.drop (m+1)=B:=⟨_,_,rfl,rfl⟩
  have he:l=A++x::B:=by
   have hxe:x=l[m]:=(aj.1 hx).2.symm;rw[<-e1,<-e2,hxe,List.getElem_cons_drop hm,cF]
  have sh:=fun u hu=>aa7 (u:=u) ht hl hn he hu
  have hab:A.length+B.length<=64:=by rw[he] at hn; simp at hn; omega
  have qo:=fun M=>al2 t.ae t.next t.ak x.ar aH M
  have qh:=fun M=>ar5 (A++B) x.ar gh M
  have qf:=fun M=>al4 t.ae t.next t.ak x.ar ht.small M
  have hD:pN (A++B) x.ar = !(I0 (A++B) x.ar==0):=by
   rw[cu];unfold pN I0;rw[iJ,<-List.countP_pos_iff (p:=fun z:fE=>z.ar==x.ar)]
   simp only[gN,kb];omega
  rw[hD] at sh;have a1:(l.map ig).take m=A.map ig:=by rw[<-eP,e1]
  have a2:(l.map ig).drop (m+1)=B.map ig:=by rw[<-jQ,e2]
  have a5:(l.map ig).take l.length=l.map ig:=by rw[<-eP,bH]
  have r1:cr A.length 24=True:=qI;have r2:cr (A.length+B.length) 24=True:=qI;generalize ((find t.ae x.ar).isSome&&gV (bl t.ae x.ar))=b at qo sh;generalize kC t x.ar=v at qf sh;have eAB:fI (A++B) = gA (A.map ig++B.map ig):=congrArg (ag.slice .sh) aZ;rw[eAB] at qh;cases b
  ·refine⟨t,A++B,0,aB ?_,sh t (.inl ⟨rfl,fun h=>by cases h⟩)⟩
   rw[eAB];simp only[O3,E80,br,aM,qp,qo,h1,h2,h3,h4,w1,hx,a1,a2,a5,r1,r2,ig,jc,aZ,dP,EW,seval]
  ·cases h5:I0 (A++B) x.ar==0<;>rw[h5] at sh
   ·refine⟨t,A++B,0,aB ?_,sh t (.inl ⟨rfl,fun _=>rfl⟩)⟩
    rw[eAB];simp only[O3,E80,br,aM,qp,qo,qh,h1,h2,h3,h4,h5,w1,hx,a1,a2,a5,r1,r2,ig,jc,aZ,dP,EW,seval]
   ·refine⟨v.1,A++B,0,aB ?_,sh v.1 (.inr ⟨rfl,rfl⟩)⟩;rw[eAB];simp only[O3,E80,br,aM,qp,qo,qh,qf,h1,h2,h3,h4,h5,w1,hx,a1,a2,a5,r1,r2,ig,jc,aZ,dP,EW,seval]
def c48(t:Tree)(l:List fE)(c:Int)(ht:Rt t)(hl:uz l)(hn:l.length<=64):∃u m,aq cd 48 [br t,fI l,aF c] []=some (.tuple [br u,fI m],[])/\Au t l u m:=by
 have key:∃r:ag×aC,(∃u m,r=(.tuple [br u,fI m],[])/\Au t l u m)/\eX (aq cd) YI.results 0 [] YI.body (eF 0 [br t,fI l,aF c]) []=some r:=by
  simp only[YI,E48,br,aM,EW,seval];refine jd (xs:=List.replicate 100 ()) dw (fun _ (s:Tree×List fE)=>Au t l s.1 s.2) (fun s i=>[(1,fI s.2),(2,aF c),(3,cv 0),(6,cv 1),(8,aF i)]) (fun s=>[cA [ba s.1.ae,aF s.1.next,aF s.1.ak],cA [.slice .c0 [],aF 0,aF 0]]) _ (fun s hs=>?_) (fun pre x post s e hx cJ hw h0 _ hs hi=>?_) (t,l) (Au.refl ht hl hn)
  ·have e1:(((100:Nat):Int)<=99)=False:=dw;simp only[E48,e1,kP,EW,seval];exact⟨_,⟨s.1,s.2,rfl,hs⟩,rfl⟩
  ·have e1:((pre.length:Int)<=99)=True:=by
    have:=of_eq_true cJ;rw[kP] at this;simp only[fx,ja]; omega
   obtain⟨u,m,e,q,hq⟩:=c80 s.1 s.2 c pre.length hs.rt hs.mj hs.len;have qc:=cP q;simp only[br,aM] at qc;have i1:=hi (u,m) (hs.trans hq);simp only[E48,e1,hw,qc,EW,seval];exact i1
 obtain⟨_,⟨u,m,rfl,h1⟩,h3⟩:=key;exact⟨u,m,aB h3,h1⟩
def c81(l:List fE)(c h:Int)(hn:l.length<=64):∃i e,aq cd 81 [fI l,aF c,aF h] []=some (.tuple [aF i,aF e],[]):=by
 have qp:=fun M=>afj l c h aH M
 rcases sm c h l 0 with ⟨hp,_⟩|⟨m,x,hp,hx,_⟩<;>rw[show pS c h l 0=zf l c h from rfl] at hp
 ·rw[hp] at qp;refine⟨0,80,aB ?_⟩;simp only[ae5,E81,qp,EW,seval]
 ·rw[hp,aJ] at qp;have hm:=(aj.1 hx).1;have h1:((m:Int)<0)=False:=dw;have h2:((m:Int)<(l.length:Int))=True:=sH;refine⟨x.ar,0,aB ?_⟩;simp only[ae5,E81,qp,h1,h2,hx,ig,jc,EW,seval]
def aqn(l:List fE)(ar:Int)(hn:l.length<=100000):aq cd 172 [fI l,aF ar] []=some (.bool (l.any fun x=>x.ar==ar),[]):=by
 refine aB ?_;simp only[acp,adY,EW,seval];refine AL (xs:=l) aH (fun post (_:Unit)=>post.any fun x=>x.ar==ar) (fun _ i=>[(0,fI l),(1,aF ar),(5,aF i)]) (fun _=>[]) (fun z=>some (ag.bool z,([]:aC))) (fun _=>?_) (fun pre x post _ e hx cJ hw h0 hm hi=>?_) ()
 ·simp[adY,bm,oU,EW]
 ·have i1:=hi ();rw[jP];cases h1:x.ar==ar<;>simp only[adY,cJ,hx,hw,h1,ig,jc,dI,cV,EW,seval]<;>exact i1
def aso(l:List fE)(ar:Int)(hn:l.length<=100000)(M:aC):aR (aq cd) 172 [fI l,aF ar] M=some (.bool (l.any fun x=>x.ar==ar),M):=cO (aqn l _ hn) M
def aqp(t:Tree)(l:List dU)(hr:Rt t)(hl:l.length<=100000):∃b:Bool,aq cd 174 [br t,cQ l] []=some (.bool b,[])/\(b=false->∀y,y∈l->nj t y=false):=by
 have key:∃r:ag×aC,(∃b:Bool,r=(.bool b,[])/\(b=false->∀y,y∈l->nj t y=false))/\eX (aq cd) MT.results 0 [] MT.body (eF 0 [br t,cQ l]) []=some r:=by
  simp only[MT,adZ,br,aM,EW,seval];refine jd (xs:=l) aH (fun m (_:Unit)=>∀y,y∈l.take m->nj t y=false) (fun _ i=>[(1,cQ l),(2,cv 0),(5,aF i)]) (fun _=>[cA [ba t.ae,aF t.next,aF t.ak]]) _ (fun _ ho=>?_) (fun pre x post _ e hx cJ hw h0 _ ho hi=>?_) () (fun y hy=>j6)
  ·simp only[adZ,bm,EW,seval];rw[bH] at ho;simp_all
  ·obtain⟨a,b,q,u1,u2⟩:=akr t x.ar hr;have qu:=cP q;simp only[br,aM] at qu;have htk:l.take (pre.length+1)=l.take pre.length++[x]:=by rw[cz,hx]; rfl
   have i1:=fun h=>hi () (fun y hy=>by
    rw[htk] at hy;exact(bo.1 hy).elim (ho y) fun hy=>by rw[bQ.1 hy]; omega)
   cases h1:decide (x.ae<a)<;>cases h2:decide (x.bytes<b)<;>simp only[adZ,cJ,hx,hw,qu,h1,h2,gz,iW,EW,seval]<;>first|exact⟨_,⟨_,rfl,fun h=>by cases h⟩,rfl⟩|exact i1 (by simp only[dA] at h1 h2; simp only[nj,Bool.not_eq_false',bu,bh]; omega)
 obtain⟨_,⟨b,rfl,h1⟩,h3⟩:=key;exact⟨b,aB h3,h1⟩
section
variable {t:Tree} {l:List dU} {Q:ag×aC->Prop}
def Fst(t:Tree)(l:List dU)(v:Int)(S:Node->gM->Prop)(a:Int):Prop:=(∀d e,S d e->e.ar=v->mf t.ae l d.ar=a)/\(a<0->∀d e,S d e->e.ar≠v)
abbrev XG(t:Tree):aC:=[.cells [ba t.ae,.int .i64 t.next,.int .i64 t.ak]]
theorem VA{dE:Int->Nat}(h:dX t dE 0)(hq:pt l)(hl:l.length<=100000){S:Node->gM->Prop}{i j:Nat}{x d:Node}(hi':t.ae[i]?=some x)(hdm:d∈t.ae)(hd:d.bc.length<=100000){k:List K}
  (hx:∀(a:Int) z,Fst t l x.ar (fun d' e'=>S d' e'\/(d'=d/\e'∈d.bc)) a->∃r,Q r/\kr (aq cd) [.tmp 4] 0 k ⟨.exit 4,(1,cQ l)::(2,cv 0)::(5,aF i)::(6,aF a)::(7,aF j)::(8,cv 1)::z,XG t++[cA (aL d)]⟩=some r)
  (hr:∀M,∃r,Q r/\kr (aq cd) [.tmp 4] 0 k ⟨.ret,[(4,.bool false)],M⟩=some r) (a:Int) (ha:Fst t l x.ar S a) :
  ∃r,Q r/\eX (aq cd) [.tmp 4] 0 k (.loop [1,2,5,6,7,8,9] ZA) [(1,cQ l),(2,cv 0),(5,aF i),(6,aF a),(7,aF j),(8,cv 1),(9,aF 0)] (XG t++[cA (aL d)])=some r:=by
 have b1:((i:Int)<0)=False:=dw;refine jd (xs:=d.bc) aH (fun m (a:Int)=>Fst t l x.ar (fun d' e'=>S d' e'\/(d'=d/\e'∈d.bc.take m)) a) (fun(a:Int) n=>[(1,cQ l),(2,cv 0),(5,aF i),(6,aF a),(7,aF j),(8,cv 1),(9,aF n)]) (fun _=>XG t++[cA (aL d)]) Q (fun a ha=>?_) (fun pre e post a hp hx' cJ hw h0 hm ha hi=>?_) a ⟨fun d' e' h1 h2=>h1.elim (fun h1=>ha.1 d' e' h1 h2) fun h1=>by simp at h1,fun h0 d' e' h1=>h1.elim (ha.2 h0 d' e') fun h1=>by simp at h1⟩
 ·simp only[XG,aL,aG,aO] at hx ⊢;simp only[EM,bm,EW,seval];rw[bH] at ha;exact hx a _ ha
 ·have hfd:=(ij h.lI.mj).2 ⟨hdm,rfl⟩
  have hkd:d.kind=2:=by
   rcases h.kind _ _ hfd with h1|h1
   ·rw[(h.file _ _ hfd h1).1] at hm; cases hm
   ·exact h1
  have qd:=fun M=>cO (aq6 h hq hl hfd hkd) M
  have hge:0<=mf t.ae l d.ar:=Il h l 13 d.ar d hfd hkd;have htk:d.bc.take (pre.length+1)=d.bc.take pre.length++[e]:=by rw[cz,hx']; rfl
  generalize hu:mf t.ae l d.ar=u at qd hge;simp only[br,aM] at qd
  have i1:=fun hne:e.ar≠x.ar=>hi a ⟨fun d' e' h1 h2=>ha.1 d' e' (h1.imp id fun h1=>⟨h1.1,by
    have h1:=h1.2;rw[htk] at h1
    grind⟩) h2,fun h0 d' e' h1 h2=>ha.2 h0 d' e' (h1.imp id fun h1=>⟨h1.1,by
    have h1:=h1.2;rw[htk] at h1;rcases bo.1 h1 with h1|h1
    ·exact h1
    grind⟩) h2⟩
  have i2:=fun hau:a<0\/u=a=>hi u ⟨fun d' e' h1 h2=>by
    have uh:∀d' e',(S d' e'\/(d'=d/\e'∈d.bc.take pre.length))->e'.ar=x.ar->mf t.ae l d'.ar=u:=fun d' e' g1 g2=>by
     rcases hau with h0|h0
     ·exact absurd g2 (ha.2 h0 d' e' g1)
     ·rw[h0]; exact ha.1 d' e' g1 g2
    rcases h1 with h1|⟨rfl,h1⟩
    ·exact uh d' e' (.inl h1) h2
    ·exact hu,fun h0=>aH⟩
  simp only[XG,aL,aG,aO] at i1 i2 ⊢;cases h1:e.ar != x.ar
  ·cases h2:decide (0<=a)<;>cases h3:u != a<;>simp only[EM,cJ,hx',hw,hi',qd,h1,h2,h3,bK,aL,iH,fU,EW,seval]<;>first|exact hr _|exact i2 (by simp only[dA] at h2; omega)|exact i2 (.inr (by simpa using h3))
  ·simp only[EM,cJ,hx',hw,hi',h1,bK,aL,iH,fU,EW,seval];exact i1 (by simpa using h1)
theorem VB{dE:Int->Nat}(h:dX t dE 0)(hq:pt l)(he:∀n,n∈t.ae->n.bc.length<=100000)(hl:l.length<=100000){i:Nat}{x:Node}(hi':t.ae[i]?=some x){k:List K}
  (hx:∀z,(∃a,Fst t l x.ar (fun d' e'=>d'∈t.ae/\e'∈d'.bc) a)->∃r,Q r/\kr (aq cd) [.tmp 4] 0 k ⟨.exit 2,(1,cQ l)::(2,cv 0)::(5,aF i)::z,XG t⟩=some r)
  (hr:∀M,∃r,Q r/\kr (aq cd) [.tmp 4] 0 k ⟨.ret,[(4,.bool false)],M⟩=some r) (a:Int) (ha:Fst t l x.ar (fun _ _=>False) a) :
  ∃r,Q r/\eX (aq cd) [.tmp 4] 0 k (.loop [1,2,5,6,7] ZB) [(1,cQ l),(2,cv 0),(5,aF i),(6,aF a),(7,aF 0)] (XG t)=some r:=by
 have h200:=h.ae;refine jd (xs:=t.ae) aH (fun m (a:Int)=>Fst t l x.ar (fun d' e'=>d'∈t.ae.take m/\e'∈d'.bc) a) (fun(a:Int) n=>[(1,cQ l),(2,cv 0),(5,aF i),(6,aF a),(7,aF n)]) (fun _=>XG t) Q (fun a ha=>?_) (fun pre d post a hp hx' cJ hw h0 hm ha hi=>?_) a ⟨fun d' e' h1=>by simp at h1,fun h0 d' e' h1=>by simp at h1⟩
 ·simp only[EM,bm,EW,seval];rw[bH] at ha;exact hx _ ⟨a,ha⟩
 ·have la:=fun {k} h2 h3=>VA (t:=t) (l:=l) (Q:=Q) h hq hl (j:=pre.length) hi' hm (he d hm) (k:=k) h2 h3 a ha
  have htk:t.ae.take (pre.length+1)=t.ae.take pre.length++[d]:=by rw[cz,hx']; rfl
  simp only[XG,aL,aG,aO] at la ⊢;simp only[EM,cJ,hx',bK,aL,EW,seval];refine la (fun a z ha'=>?_) (fun M=>?_)
  ·have sub:∀d' e',(d'∈t.ae.take (pre.length+1)/\e'∈d'.bc)->((d'∈t.ae.take pre.length/\e'∈d'.bc)\/(d'=d/\e'∈d.bc)):=fun d' e' ⟨g1,g2⟩=>by
    rw[htk] at g1
    grind
   have i1:=hi a ⟨fun d' e' g=>ha'.1 d' e' (sub d' e' g),fun h0 d' e' g=>ha'.2 h0 d' e' (sub d' e' g)⟩
   simp only[EM,hw,EW,seval];exact i1
  ·simp only[EW,seval];exact hr _
end
def aqo(t:Tree)(l:List dU)(hr:Rt t)(hq:pt l)(hl:l.length<=100000):∃b:Bool,aq cd 173 [br t,cQ l] []=some (.bool b,[])/\(b=true->OD t l):=by
 have he:∀n,n∈t.ae->n.bc.length<=100000:=fun n hn=>by have:=(hr.XF hn).1; omega
 have h200:=hr.sz.ae;obtain⟨dE,h⟩:=hr
 have key:∃r:ag×aC,(∃b:Bool,r=(.bool b,[])/\(b=true->OD t l))/\eX (aq cd) MS.results 0 [] MS.body (eF 0 [br t,cQ l]) []=some r:=by
  simp only[MS,EM,br,aM,EW,seval];refine jd (xs:=t.ae) aH (fun m (_:Unit)=>∀x,x∈t.ae.take m->x.kind=1->∃a,Fst t l x.ar (fun d' e'=>d'∈t.ae/\e'∈d'.bc) a) (fun _ i=>[(1,cQ l),(2,cv 0),(5,aF i)]) (fun _=>XG t) _ (fun _ ho=>?_) (fun pre x post _ e hx cJ hw h0 _ ho hi=>?_) () (fun y hy=>by simp at hy)
  ·simp only[EM,bm,EW,seval];rw[bH] at ho;refine⟨_,⟨_,rfl,fun _ d1 e1 d2 e2 x h1 h2 h3 h4 h5 h6 h7=>?_⟩,rfl⟩
   obtain⟨x1,x2⟩:=cG h6;obtain⟨a,ha⟩:=ho x x1 h7;rw[ha.1 d1 e1 ⟨h1,h2⟩ x2.symm,ha.1 d2 e2 ⟨h3,h4⟩ (h5.symm.trans x2.symm)]
  ·have htk:t.ae.take (pre.length+1)=t.ae.take pre.length++[x]:=by rw[cz,hx]; rfl
   have lb:=fun {k Q} h2 h3=>VB (t:=t) (l:=l) (Q:=Q) h hq he hl hx (k:=k) h2 h3 (-1) ⟨fun _ _ h=>h.elim,fun _ _ _ h=>h.elim⟩
   have i1:=fun hh:x.kind=1->∃a,Fst t l x.ar (fun d' e'=>d'∈t.ae/\e'∈d'.bc) a=>hi () (fun y hy=>by
    rw[htk] at hy;exact(bo.1 hy).elim (ho y) fun hy=>by rw[bQ.1 hy]; exact hh)
   cases h1:x.kind != 1<;>simp only[EM,cJ,hx,hw,h1,bK,aL,EW,seval]
   ·refine lb (fun z hz=>?_) (fun M=>?_)
    ·simp only[EM,hw,EW,seval];exact i1 fun _=>hz
    ·simp only[EW,seval];simp
   ·exact i1 fun hk=>absurd hk j6
 obtain⟨_,⟨b,rfl,h1⟩,h3⟩:=key;exact⟨b,aB h3,h1⟩
section
variable {f:aa} {t:Tree} {q:List dU} {Q:ag×aC->Prop}
abbrev stM(f:aa)(t:Tree):aC:=[.cells (cf f),.cells [ba t.ae,.int .i64 t.next,.int .i64 t.ak],.cells rh]
abbrev HD(q:List dU):Env:=[(2,cQ q),(3,.ptr 0 0),(4,.ptr 1 0),(6,.ptr 2 0)]
def Vr(ht:Rt t)(hh:f.holds.length<=64){k:List K}
  (hx:∀(F:List Int) z,F.length<=1000->(∀i,i∈F->∀y,y∈f.holds->y.ar≠i)->(∀n,n∈t.ae->gV n=true->pN f.holds n.ar=false->n.ar∈F)->∃r,Q r/\kr (aq cd) [.dG 6 10,.tmp 7] 0 k ⟨.exit 0,HD q++(8,.slice (.own 3) (F.map mS))::z,stM f t++[.tick 1 F.length]⟩=some r) :
  ∃r,Q r/\eX (aq cd) [.dG 6 10,.tmp 7] 0 k (.loop [2,3,4,6,8,9] Ze) (HD q++[(8,.slice (.own 3) []),(9,aF 0)]) (stM f t++[.tick 1 0])=some r:=by
 have h200:=ht.sz.ae;refine jd (xs:=t.ae) aH (fun m (F:List Int)=>F.length<=m/\(∀i,i∈F->∀y,y∈f.holds->y.ar≠i)/\∀n,n∈t.ae.take m->gV n=true->pN f.holds n.ar=false->n.ar∈F) (fun F i=>HD q++[(8,.slice (.own 3) (F.map mS)),(9,aF i)]) (fun F=>stM f t++[.tick 1 F.length]) Q (fun F hF=>?_) (fun pre x post F e hx' cJ hw h0 hm hF hi=>?_) [] ⟨au _,fun i h=>(by cases h),fun n h=>(by simp at h)⟩
 ·simp only[stM,HD,cf,rh,aG,aO] at hx ⊢;simp only[EK,bm,EW,seval];exact hx F _ aH hF.2.1 (by have:=hF.2.2; rwa[bH] at this)
 ·have hp:=(aj.1 hx').1;have htk:t.ae.take (pre.length+1)=t.ae.take pre.length++[x]:=by rw[cz,hx']; rfl
  have i1:=fun hb:(gV x=true->pN f.holds x.ar=false->False)=>hi F ⟨aH,hF.2.1,fun n h=>by
   rw[htk] at h;rcases bo.1 h with h|h
   ·exact hF.2.2 n h
   ·rw[bQ.1 h]; exact fun a b=>(hb a b).elim⟩
  have i2:=fun hb:(f.holds.any fun y=>y.ar==x.ar)=false=>hi (F++[x.ar]) ⟨gh,fun i h y hy=>by
   rcases bo.1 h with h|h
   ·exact hF.2.1 i h y hy
   ·rw[bQ.1 h];simpa using List.any_eq_false.1 hb y hy,fun n h o1 o2=>by
   rw[htk] at h;rcases bo.1 h with h|h
   ·exact eH _ (hF.2.2 n h o1 o2)
   ·rw[bQ.1 h]; simp⟩
  unfold pN gV at i1;have qh:=fun M=>aso f.holds x.ar aH M
  generalize (f.holds.any fun y=>y.ar==x.ar)=b at qh i1 i2
  have r1:cr (F.length+1) 8=True:=qI;simp only[stM,HD,cf,rh,aG,aO,aZ,aK,aU,aA,av,az,aJ,mS] at i1 i2 ⊢;cases h1:x.kind==1<;>cases h2:x.ep==0<;>cases b<;>simp only[EK,cJ,hx',hw,h0,h1,h2,qh,r1,uw,bK,aL,mS,EW,seval]<;>first|exact i1 (by simp[h1,h2])|exact i2 rfl
structure wT(f:aa)(t0:Tree)(F:List Int)(t:Tree):Prop where
 rt:Rt t
 pO:∀y,y∈f.holds->tG t0.ae y.ar->tG t.ae y.ar
 sub:∀i n,find t.ae i=some n->find t0.ae i=some n
 gone:∀i,i∈F->∀n,find t.ae i=some n->gV n=false
def wT.file{f:aa}{t0:Tree}{F:List Int}{t:Tree}(h:wT f t0 F t){i:Int}(hi:tG t.ae i):tG t0.ae i:=by
 obtain⟨n,h1,h2⟩:=hi;exact⟨n,h.sub _ _ h1,h2⟩
def wT.step{f:aa}{t0:Tree}{F:List Int}{t:Tree}(h:wT f t0 F t){x:Int}(hx:∀y,y∈f.holds->y.ar≠x):wT f t0 (F++[x]) (kC t x).1:=by
 have hf:=AN h.rt x;refine⟨h.rt.free x,fun y hy hi=>I8 h.rt x (h.pO y hy hi) (hx y hy),fun i n hn=>?_,fun i hi n hn=>?_⟩
 ·rw[hf] at hn;split at hn
  ·cases hn
  ·exact h.sub _ _ hn
 ·rw[hf] at hn;split at hn
  ·cases hn
  ·rename_i hc;rcases bo.1 hi with hi|hi
   ·exact h.gone i hi n hn
   ·rw[bQ.1 hi] at hc hn;cases ho:gV n with
    |false=>rfl
    |true=>exact absurd ⟨rfl,n,hn,ho⟩ hc
def wT.held{f:aa}{t0:Tree}{F:List Int}{t:Tree}(h:wT f t0 F t)(ha:∀n,n∈t0.ae->gV n=true->pN f.holds n.ar=false->n.ar∈F)(_:Rt t0):∀n,n∈t.ae->gV n=true->pN f.holds n.ar=true:=by
 intro n hn ho;have h1:=(ij h.rt.lI.mj).2 ⟨hn,rfl⟩;cases hh:pN f.holds n.ar with
 |true=>rfl
 |false =>
  have:=h.gone _ (ha n (cG (h.sub _ _ h1)).1 ho hh) n h1;rw[ho] at this; cases this
def Vs{F:List Int}(hF:F.length<=1000)(hno:∀i,i∈F->∀y,y∈f.holds->y.ar≠i){t0:Tree}{k:List K}
  (hx:∀(t:Tree) z,wT f t0 F t->∃r,Q r/\kr (aq cd) [.dG 6 10,.tmp 7] 0 k ⟨.exit 2,HD q++(8,.slice (.own 3) (F.map mS))::z,stM f t++[.tick 1 F.length]⟩=some r) (ht:wT f t0 [] t) :
  ∃r,Q r/\eX (aq cd) [.dG 6 10,.tmp 7] 0 k (.loop [2,3,4,6,8,11] Zf) (HD q++[(8,.slice (.own 3) (F.map mS)),(11,aF 0)]) (stM f t++[.tick 1 F.length])=some r:=by
 refine jd (xs:=F) aH (fun m (t:Tree)=>wT f t0 (F.take m) t) (fun _ i=>HD q++[(8,.slice (.own 3) (F.map mS)),(11,aF i)]) (fun t=>stM f t++[.tick 1 F.length]) Q (fun t ht=>?_) (fun pre x post t e hx' cJ hw h0 hm ht hi=>?_) t (by simpa using ht)
 ·simp only[stM,HD,cf,rh,aG,aO] at hx ⊢;simp only[EK,bm,EW,seval];exact hx t _ (by rwa[bH] at ht)
 ·have i1:=hi _ (show wT f t0 (F.take (pre.length+1)) (kC t x).1 by rw[cz,hx']; exact ht.step (hno x hm))
  have qf:=fun M=>al4 t.ae t.next t.ak x ht.rt.small M
  generalize kC t x=v at qf i1;simp only[br,aM] at qf;simp only[stM,HD,cf,rh,aG,aO] at i1 ⊢;simp only[EK,cJ,hx',hw,h0,qf,mS,EW,seval];exact i1
def Vt(ht:Rt t)(hq:pt q)(hn:q.length<=16){F:List Int}{k:List K}
  (hx:∀(L:List dU) z,pt L->L.length<=16->(∀y,y∈L->y∈q/\(find t.ae y.ar).isSome=true)->∃r,Q r/\kr (aq cd) [.dG 6 10,.tmp 7] 0 k ⟨.exit 4,HD q++(14,.slice (.own 4) (L.map gz))::z,stM f t++[.tick 1 F.length,.tick 3 L.length]⟩=some r) :
  ∃r,Q r/\eX (aq cd) [.dG 6 10,.tmp 7] 0 k (.loop [2,3,4,6,14,15] Zg) (HD q++[(14,.slice (.own 4) []),(15,aF 0)]) (stM f t++[.tick 1 F.length,.tick 3 0])=some r:=by
 have h200:=ht.sz.ae;refine jd (xs:=q) aH (fun m (L:List dU)=>L.Sublist (q.take m)/\∀y,y∈L->(find t.ae y.ar).isSome=true) (fun L i=>HD q++[(14,.slice (.own 4) (L.map gz)),(15,aF i)]) (fun L=>stM f t++[.tick 1 F.length,.tick 3 L.length]) Q (fun L hL=>?_) (fun pre x post L e hx' cJ hw h0 hm hL hi=>?_) [] ⟨List.nil_sublist _,fun y h=>by cases h⟩
 ·rw[bH] at hL;simp only[stM,HD,cf,rh,aG,aO] at hx ⊢;simp only[EK,bm,EW,seval];exact hx L _ (hq.sublist hL.1) (aY hL.1.length_le hn) (fun y hy=>⟨hL.1.mem hy,hL.2 y hy⟩)
 ·have ht1:q.take (pre.length+1)=q.take pre.length++[x]:=by rw[cz,hx']; rfl
  have i1:=hi L ⟨by rw[ht1]; exact hL.1.trans (List.sublist_append_left _ _),hL.2⟩
  have i2:=fun hs=>hi (L++[x]) ⟨by rw[ht1]; exact hL.1.append (List.Sublist.refl _),fun y h=>(bo.1 h).elim (hL.2 y) fun h=>by rw[bQ.1 h]; exact hs⟩
  have hLl:L.length<=16:=aY hL.1.length_le gh;have qg:=fun M=>A5 t.ae t.next t.ak x.ar aH M
  generalize (find t.ae x.ar).getD Node.zero=n at qg;generalize (find t.ae x.ar).isSome=b at qg i2;have r1:cr (L.length+1) 24=True:=qI;simp only[stM,HD,cf,rh,aG,aO,aZ,aK,aU,aA,av,az,aJ,gz,iW] at i1 i2 ⊢;cases b<;>simp only[EK,cJ,hx',hw,h0,qg,r1,bK,aL,gz,iW,EW,seval]<;>first|exact i1|exact i2 rfl
end
structure Od(f:aa):Prop where
 file:∀y,y∈f.holds->tG f.s.now.ae y.ar
 orp:∀n,n∈f.s.now.ae->gV n=true->pN f.holds n.ar=true
 quo:∀q,q∈f.dW->XD f.s.now.ae q.ar
 one:OD f.s.now f.dW
 over:∀q,q∈f.dW->nj f.s.now q=false
 key:∀y,y∈f.holds->zO y.bC y.handle=true
def P2(s:iQ)(t:Tree):(qv s t).now=t:=by
 unfold qv;split
 ·rename_i h; exact jT h
 ·rfl
def Hn{f:aa}{t:Tree}{H:List fE}{Q:List dU}(hH:∀y,y∈H->y∈f.holds/\(tG f.s.now.ae y.ar->tG t.ae y.ar))(hO:∀n,n∈t.ae->gV n=true->pN H n.ar=true)(hQ:∀q,q∈Q->XD t.ae q.ar)(h1:OD t Q)(h2:∀q,q∈Q->nj t q=false)(h:Od f):Od ⟨qv f.s t,H,Q⟩:=by
 refine⟨fun y hy=>?_,fun n hn=>?_,fun q hq=>?_,?_,fun q hq=>?_,fun y hy=>h.key y (hH y hy).1⟩<;>simp only[P2] at *
 ·exact(hH y hy).2 (h.file y (hH y hy).1)
 ·exact hO n hn
 ·exact hQ q hq
 ·exact h1
 ·exact h2 q hq
def Kp(f g:aa):Prop:=(Od f->Od g)/\Stp (fun _=>True) f.s g.s
def DV{f:aa}:Kp f f:=⟨id,.inl rfl⟩
def apG{K:Nat}(f:aa)(t:Tree)(q:List dU)(hf:FB K f)(hK:K<=89000)(ht:Rt t)(hq:pt q)(hn:q.length<=16)(hkp:∀y,y∈f.holds->tG f.s.now.ae y.ar->tG t.ae y.ar)(hqd:Od f->∀y,y∈q->¬tG t.ae y.ar):∃g e,aq cd 120 [.agg (cf f),br t,cQ q] []=some (.tuple [.agg (cf g),aF e],[])/\FB (K+200) g/\Kp f g:=by
 have key:∃r:ag×aC,(∃g e,r=(.tuple [.agg (cf g),aF e],[])/\FB (K+200) g/\Kp f g)/\eX (aq cd) IJ.results 0 [] IJ.body (eF 0 [.agg (cf f),br t,cQ q]) []=some r:=by
  have la:=fun {k Q} hx=>Vr (f:=f) (t:=t) (q:=q) (Q:=Q) ht hf.ok.dR (k:=k) hx
  simp only[stM,HD,cf,rh,aG,aO] at la;simp only[IJ,EK,cf,br,aM,EW,seval];refine la (fun F z hF hno hall=>?_)
  have lb:=fun {k Q} hx=>Vs (f:=f) (t:=t) (q:=q) (Q:=Q) hF hno (t0:=t) (k:=k) hx ⟨ht,fun _ _ h=>h,fun _ _ h=>h,fun i h=>by cases h⟩
  simp only[stM,HD,cf,rh,aG,aO] at lb;simp only[EK,EW,seval];refine lb (fun t' z hfr=>?_)
  have ht':=hfr.rt;have hor:=hfr.held hall ht;have lc:=fun {k Q} hx=>Vt (f:=f) (t:=t') (q:=q) (Q:=Q) ht' hq hn (F:=F) (k:=k) hx
  simp only[stM,HD,cf,rh,aG,aO] at lc;simp only[EK,EW,seval];refine lc (fun L z hL hLn hLq=>?_)
  have h200:=ht'.sz.ae;obtain⟨b1,q1,k1⟩:=aqo t' L ht' hL aH;obtain⟨b2,q2,k2⟩:=aqp t' L ht' aH;have q3:=c49 f.s t' hf.ok.rt ht' hf.ok.len hf.ok.dV hf.ok.eN;have g1:=cP q1;have g2:=cP q2;have g3:=cP q3;simp only[br,aM,bL] at g1 g2 g3;have hfin:=hf.put hK ht' hf.ok.holds hf.ok.dR hL hLn
  have hho:b1=true->b2=false->Od f->Od ⟨qv f.s t',f.holds,L⟩:=fun c1 c2 h=>Hn (fun y hy=>⟨hy,fun hf=>hfr.pO y hy (hkp y hy hf)⟩) hor (fun y hy=>by
   obtain⟨h1,h2⟩:=hLq y hy;obtain⟨n,h2⟩:=fD.1 h2;exact ht'.XD h2 (fun hf=>hqd h y h1 (hfr.file hf))) (k1 c1) (k2 c2) h
  cases b1<;>cases b2<;>simp only[EK,g1,g2,g3,EW,seval]
  ·exact⟨_,⟨f,91,rfl,hf.mono aH,DV⟩,rfl⟩
  ·exact⟨_,⟨f,91,rfl,hf.mono aH,DV⟩,rfl⟩
  ·exact⟨_,⟨_,0,rfl,hfin,hho rfl rfl,.inr (.inl ⟨t',ht',rfl⟩)⟩,rfl⟩
  ·exact⟨_,⟨f,90,rfl,hf.mono aH,DV⟩,rfl⟩
 obtain⟨_,⟨g,e,rfl,h1⟩,h3⟩:=key;exact⟨g,e,aB h3,h1⟩
end
def Pn(s:Bytes):(B1 s).1.length<=100000/\(B1 s).2.1.length<=100000:=by
 obtain⟨o1,o2⟩:=ya s;unfold B1;split
 ·exact⟨dw,dw⟩
 ·generalize (pU s).1=l at o1 o2;constructor
  ·simp only;cases h:l.getLast? with
   |none=>simp
   |some x=>have:=qO (o1 x (List.mem_of_getLast? h)); simp only[bj]; omega
  ·simp only[Na];split
   ·simp
   ·have h1:=DP l.dropLast [] (fun x hx=>qO (o1 x (List.Sublist.mem hx (List.dropLast_sublist _))))
    simp only[az,List.length_dropLast] at h1;omega
section
attribute [local irreducible] eX fJ lj gK dY kr aq aR cp bI
def c42(e:Int):aq cd 42 [aF e] []=some (.agg (cT (hZ e)),[]):=by
 refine aB ?_;simp only[alp,E42,EW,seval];rfl
def k42 e:=cP (c42 e)
def c75(n:Node):∃a:Int,aq cd 75 [bK n] []=some (aF a,[]):=by
 cases h1:n.kind==2
 ·refine⟨n.data.length,aB ?_⟩;simp only[ae3,E75,bK,aL,h1,EW,seval]
 ·refine⟨n.bc.length,aB ?_⟩;simp only[ae3,E75,bK,aL,h1,EW,seval]
def c67(t:Tree)(s:Bytes)(ht:Small t)(hs:s.length<=100000):∃d nm e,aq cd 67 [br t,.str s] []=some (.tuple [aF d,.str nm,aF e],[])/\nm.length<=100000:=by
 have ql:=fun M=>cO (apD s hs) M
 obtain⟨h1,h2⟩:=Pn s;generalize B1 s=v at ql h1 h2;have qw:=fun M=>k66 t.ae t.next t.ak v.2.1 ht h2 M
 generalize Cn t.ae v.2.1=w at qw;cases h3:v.2.2 != 0
 ·refine⟨w.1,v.1,w.2,aB ?_,h1⟩;simp only[ae2,E67,br,aM,ql,qw,h3,EW,seval]
 ·refine⟨0,[],v.2.2,aB ?_,dw⟩;simp only[ae2,E67,br,aM,ql,h3,EW,seval]
def FB.adE{K:Nat}{f:aa}(h:FB K f){u:iQ}(e1:u.now=f.s.now)(e2:u.since=f.s.since)(e3:∀p,p∈u.eN->p∈f.s.eN)(e4:u.eN.length<=f.s.eN.length)(e5:u.dV.length<=16):FB (K+200) ⟨u,f.holds,f.dW⟩/\(Od f->Od ⟨u,f.holds,f.dW⟩) :=
 ⟨⟨⟨by simp only[e1]; exact h.ok.rt,by simp only[e1,e2]; exact h.ok.len,aY e4 h.ok.eN,fun p hp=>h.ok.Ej p (e3 p hp),e5,h.ok.holds,h.ok.dR,h.ok.dW,h.ok.sJ⟩,by have:=h.past; simp only; omega⟩,fun g=>⟨by simp only[e1]; exact g.file,by simp only[e1]; exact g.orp,by simp only[e1]; exact g.quo,by simp only[e1]; exact g.one,by simp only[e1]; exact g.over,g.key⟩⟩
def yp(K:Nat)(f:aa)(F:Nat)(vs:List ag):Prop:=∃g a,aq cd F vs []=some (.tuple [.agg (cf g),.agg (cT a)],[])/\FB (K+200) g/\Kp f g
def c69{K:Nat}(f:aa)(t:Tree)(q:List dU)(e:Int)(a:vN)(hf:FB K f)(hK:K<=89000)(ht:Rt t)(hq:pt q)(hn:q.length<=16)(hkp:∀y,y∈f.holds->tG f.s.now.ae y.ar->tG t.ae y.ar)(hqd:Od f->∀y,y∈q->¬tG t.ae y.ar):yp K f 69 [.agg (cf f),br t,cQ q,aF e,.agg (cT a)]:=by
 obtain⟨g,e',qs,hg⟩:=apG f t q hf hK ht hq hn hkp hqd;have q1:=cP qs;have q2:=k42;simp only[br,aM,cf,cT] at q1 q2;cases h1:e != 0
 ·cases h2:e' != 0
  ·refine⟨g,a,aB ?_,hg⟩;simp only[YJ,E69,br,aM,cf,cT,q1,q2,h1,h2,EW,seval]
  ·refine⟨f,hZ e',aB ?_,hf.mono aH,DV⟩;simp only[YJ,E69,br,aM,cf,cT,q1,q2,h1,h2,EW,seval]
 ·refine⟨f,hZ e,aB ?_,hf.mono aH,DV⟩;simp only[YJ,E69,br,aM,cf,cT,q1,q2,h1,EW,seval]
def c43{K:Nat}(f:aa)(o:jC)(hf:FB K f)(hK:K<=89000)(ho:sg o):yp K f 43 [.agg (cf f),.agg (eT o)]:=by
 have hr:=hf.ok.rt;have hz:Sz 1000 f.s.now:=⟨by have:=hr.sz.ae; omega,fun n hn=>by have:=hr.sz.bc n hn; omega,hr.sz.data⟩
 have hp:o.dH.length<=100000:=by have:=ho.dH; omega
 have hto:o.u9.length<=100000:=by have:=ho.u9; omega
 obtain⟨d,nm,e1,qa,hnm⟩:=c67 f.s.now o.dH hr.small hp;obtain⟨d',nm',e2,qb,hnm'⟩:=c67 f.s.now o.u9 hr.small hto;have q1:=cP qa;have q2:=cP qb;have q3:=fun M=>k66 f.s.now.ae f.s.now.next f.s.now.ak o.dH hr.small hp M
 generalize Cn f.s.now.ae o.dH=w at q3;have q4:=k42;simp only[br,aM,cf,cT] at q1 q2 q4;have back:FB (K+200) f:=hf.mono aH;cases h0:o.kind==3
 ·cases h1:e1 != 0
  ·cases h2:o.kind==2
   ·cases h3:o.kind==4
    ·cases h4:e2 != 0
     ·have q5:=fun M=>k73 f.s.now.ae f.s.now.next f.s.now.ak d nm d' nm' hz hnm hnm' M
      have q6:=fun M=>k72 f.s.now.ae f.s.now.next f.s.now.ak d nm hr.small hnm M
      have hv:=hr.mv d nm d' nm';have hkf:=Y3 hr d nm d' nm';have hrf:=anx hr d nm d' nm';generalize wM f.s.now d nm d' nm'=v at q5 hv hkf hrf;generalize fh f.s.now.ae d nm=u at q6;obtain⟨g,a,qd,hg⟩:=c69 f v.1 f.dW v.2.2 ⟨0,u.1,0,0,0,[],[]⟩ hf hK hv hf.ok.dW hf.ok.sJ (fun y _ h=>hkf.2 _ h) (fun h y hy hi=>(h.quo y hy).no (hrf _ hi))
      have q7:=cP qd;simp only[br,aM,cf,cT,dj,c8,aU] at q5 q6 q7;refine⟨g,a,aB ?_,hg⟩;simp only[G3,E43,cf,eT,cT,h0,h1,h2,h3,h4,q1,q2,q5,q6,q7,EW,seval]
     ·refine⟨f,hZ e2,aB ?_,back,DV⟩;simp only[G3,E43,cf,eT,cT,h0,h1,h2,h3,h4,q1,q2,q4,EW,seval]
    ·have q5:=fun M=>k71 f.s.now.ae f.s.now.next f.s.now.ak d nm hz hnm M
     have hv:=hr.un d nm;have hkf:=Y4 hr d nm;have hrf:=anz hr d nm;generalize BC f.s.now d nm=v at q5 hv hkf hrf;obtain⟨g,a,qd,hg⟩:=c69 f v.1 f.dW v.2.2 ⟨0,v.2.1,0,0,0,[],[]⟩ hf hK hv hf.ok.dW hf.ok.sJ (fun y _ h=>hkf.2 _ h) (fun h y hy hi=>(h.quo y hy).no (hrf _ hi))
     have q7:=cP qd;simp only[br,aM,cf,cT,dj,c8,aU] at q5 q7;refine⟨g,a,aB ?_,hg⟩;simp only[G3,E43,cf,eT,cT,h0,h1,h2,h3,q1,q5,q7,EW,seval]
   ·have q5:=fun M=>k70 f.s.now.ae f.s.now.next f.s.now.ak d nm o.n hz hnm M
    have hv:=hr.add d nm o.n;have hkf:=SK hr d nm o.n;have hrf:=ahx hr d nm o.n;generalize rR f.s.now d nm o.n=v at q5 hv hkf hrf;obtain⟨g,a,qd,hg⟩:=c69 f v.1 f.dW v.2.2 ⟨0,v.2.1,o.n,0,0,[],[]⟩ hf hK hv hf.ok.dW hf.ok.sJ (fun y _ h=>hkf.2 _ h) (fun h y hy hi=>(h.quo y hy).no (hrf _ hi))
    have q7:=cP qd;simp only[br,aM,cf,cT,dj,c8,aU] at q5 q7;refine⟨g,a,aB ?_,hg⟩;simp only[G3,E43,cf,eT,cT,h0,h1,h2,q1,q5,q7,EW,seval]
  ·refine⟨f,hZ e1,aB ?_,back,DV⟩;simp only[G3,E43,cf,eT,cT,h0,h1,q1,q4,EW,seval]
 ·cases h1:w.2 != 0
  ·cases h2:e2 != 0
   ·have q5:=fun M=>k68 f.s.now.ae f.s.now.next f.s.now.ak w.1 d' nm' hz hnm' M
    have hv:=hr.ln w.1 d' nm';have hkf:=Y2 hr w.1 d' nm';have hrf:=anw hr w.1 d' nm';generalize CA f.s.now w.1 d' nm'=v at q5 hv hkf hrf;obtain⟨g,a,qd,hg⟩:=c69 f v.1 f.dW v.2 ⟨0,w.1,0,0,0,[],[]⟩ hf hK hv hf.ok.dW hf.ok.sJ (fun y _ h=>hkf.2 _ h) (fun h y hy hi=>(h.quo y hy).no (hrf _ hi))
    have q7:=cP qd;simp only[br,aM,cf,cT,dj,c8,aU] at q5 q7;refine⟨g,a,aB ?_,hg⟩;simp only[G3,E43,cf,eT,cT,h0,h1,h2,q2,q3,q5,q7,EW,seval]
   ·refine⟨f,hZ e2,aB ?_,back,DV⟩;simp only[G3,E43,cf,eT,cT,h0,h1,h2,q2,q3,q4,EW,seval]
  ·refine⟨f,hZ w.2,aB ?_,back,DV⟩;simp only[G3,E43,cf,eT,cT,h0,h1,q3,q4,EW,seval]
section
variable {t:Tree} {n:Node} {many:Int} {Q:ag×aC->Prop}
abbrev liM(t:Tree)(n:Node)(out:List gM):aC:=[.cells [ba t.ae,.int .i64 t.next,.int .i64 t.ak],.cells [.int .i64 n.ar,.int .i64 n.kind,.int .i64 n.ep,c8 n.data,jb n.bc,.int .i64 n.up],.tick 3 out.length]
def Nk(hn:n.bc.length<=100000){ki:Int}{out:List gM}{k:List K}
  (hx:∀(b:Int) z,(b = -1\/∃i:Nat,i<n.bc.length/\b=i)->∃r,Q r/\kr (aq cd) [.tmp 8,.tmp 9,.tmp 10] 0 k ⟨.exit 2,(2,aF ki)::(3,aF many)::(11,cv 1)::(13,.slice (.own 2) (out.map iH))::(14,aF b)::z,liM t n out⟩=some r) :
  ∃r,Q r/\eX (aq cd) [.tmp 8,.tmp 9,.tmp 10] 0 k (.loop [2,3,11,13,14,15] agO) [(2,aF ki),(3,aF many),(11,cv 1),(13,.slice (.own 2) (out.map iH)),(14,aF (-1)),(15,aF 0)] (liM t n out)=some r:=by
 refine jd (xs:=n.bc) aH (fun _ (b:Int)=>b = -1\/∃i:Nat,i<n.bc.length/\b=i) (fun b i=>[(2,aF ki),(3,aF many),(11,cv 1),(13,.slice (.own 2) (out.map iH)),(14,aF b),(15,aF i)]) (fun _=>liM t n out) Q (fun b hb=>?_) (fun pre e post b h hx' cJ hw h0 hm hb hi=>?_) (-1) (.inl rfl)
 ·simp only[Kl,bm,EW,seval];exact hx b _ hb
 ·have hp:=(aj.1 hx').1;have i1:=hi b hb;have i2:=hi pre.length (.inr ⟨_,hp,rfl⟩);rcases hb with rfl|⟨a,ha,rfl⟩
  ·cases h1:decide (ki<=e.ak)<;>simp only[Kl,cJ,hx',hw,h0,h1,iH,fU,EW,seval]<;>first|exact i1|exact i2
  ·have a0:((a:Int)<0)=False:=dw;have a1:((a:Int)<(n.bc.length:Int))=True:=sH;obtain⟨y,hy⟩:∃y,n.bc[a]?=some y:=⟨_,ai ha⟩;cases h1:decide (ki<=e.ak)<;>cases h2:decide (e.ak<y.ak)<;>simp only[Kl,cJ,hx',hw,h0,a0,a1,hy,h1,h2,iH,fU,EW,seval]<;>first|exact i1|exact i2
def aar(hn:n.bc.length<=100000){m:Nat}(hm:1<=m)(hm':m<=64){k:List K}
  (hr:∀(out:List gM)(x:Int),out.length<=64->∃r,Q r/\kr (aq cd) [.tmp 8,.tmp 9,.tmp 10] 0 k ⟨.ret,[(8,.slice (.own 2) (out.map iH)),(9,aF x),(10,aF 0)],liM t n out⟩=some r) :
  ∀(d:Nat)(ki:Int)(out:List gM),out.length+d=m->∃r,Q r/\eX (aq cd) [.tmp 8,.tmp 9,.tmp 10] 0 k (.loop [2,3,11,13] agP) [(2,aF ki),(3,aF m),(11,cv 1),(13,.slice (.own 2) (out.map iH))] (liM t n out)=some r:=by
 intro d;induction d with
 |zero =>
  intro ki out hd;rw[bF];have la:=fun {k} hx=>Nk (t:=t) (n:=n) (many:=m) (Q:=Q) hn (ki:=ki) (out:=out) (k:=k) hx
  simp only[Kl,EW,seval];refine la (fun b z hb=>?_)
  rcases hb with rfl|⟨a,ha,rfl⟩
  ·simp only[Kl,EW,seval];exact hr out 0 aH
  ·have a0:((a:Int)<0)=False:=dw;have e1:((out.length:Int)==(m:Int))=true:=gh;have w1:IntKind.i64.wrap ((m:Int)-1)=((m-1:Nat):Int):=by rw[gW aH aH]; omega
   have e2:(((m-1:Nat):Int)<(out.length:Int))=True:=sH;have e3:(((m-1:Nat):Int)<0)=False:=dw;obtain⟨y,hy⟩:∃y,out[m-1]?=some y:=⟨_,ai aH⟩;simp only[Kl,a0,e1,w1,e2,e3,hy,iH,fU,EW,seval];exact hr out _ aH
 |succ d ih =>
  intro ki out hd;rw[bF];have la:=fun {k} hx=>Nk (t:=t) (n:=n) (many:=m) (Q:=Q) hn (ki:=ki) (out:=out) (k:=k) hx
  simp only[Kl,EW,seval];refine la (fun b z hb=>?_)
  rcases hb with rfl|⟨a,ha,rfl⟩
  ·simp only[Kl,EW,seval];exact hr out 0 aH
  ·have a0:((a:Int)<0)=False:=dw;have a1:((a:Int)<(n.bc.length:Int))=True:=sH;obtain⟨y,hy⟩:∃y,n.bc[a]?=some y:=⟨_,ai ha⟩;have e1:((out.length:Int)==(m:Int))=false:=gh;have r1:cr (out.length+1) 32=True:=qI;have i1:=fun ki=>ih ki (out++[y]) gh
   simp only[liM,aZ,aK,aU,aA,av,az,aJ,iH,fU] at i1 ⊢;simp only[Kl,a0,a1,e1,r1,hy,iH,fU,EW,seval];exact i1 _
end
def c76(t:Tree)(ar ki many:Int)(ht:Rt t):∃out x e,aq cd 76 [br t,aF ar,aF ki,aF many] []=some (.tuple [jb out,aF x,aF e],[])/\out.length<=64:=by
 have key:∃r:ag×aC,(∃out x e,r=(.tuple [jb out,aF x,aF e],[])/\out.length<=64)/\eX (aq cd) G4.results 0 [] G4.body (eF 0 [br t,aF ar,aF ki,aF many]) []=some r:=by
  have qd:=fun M=>YW t.ae t.next t.ak ar (by have:=ht.sz.ae; omega) M
  have hd:(gY t.ae ar).1.bc.length<=100000:=by obtain⟨dE,g⟩:=ht; have:=(xT g ar).2; omega
  generalize gY t.ae ar=v at qd hd;cases h1:decide (ki<0)
  case true =>
   simp only[G4,Kl,br,aM,h1,EW,seval];exact⟨_,⟨[],0,1,rfl,dw⟩,rfl⟩
  cases h2:decide (many<1)
  case true =>
   simp only[G4,Kl,br,aM,h1,h2,EW,seval];exact⟨_,⟨[],0,1,rfl,dw⟩,rfl⟩
  cases h3:decide (64<many)
  case true =>
   simp only[G4,Kl,br,aM,h1,h2,h3,EW,seval];exact⟨_,⟨[],0,1,rfl,dw⟩,rfl⟩
  cases h4:v.2 != 0
  case true =>
   simp only[G4,Kl,br,aM,bK,aL,qd,h1,h2,h3,h4,EW,seval];exact⟨_,⟨[],0,v.2,rfl,dw⟩,rfl⟩
  simp only[dA] at h2 h3;obtain⟨m,rfl⟩:∃m:Nat,many=m:=⟨many.toNat,aH⟩;have g2:decide ((m:Int)<1)=false:=gh;have g3:decide (64<(m:Int))=false:=gh;have lb:=fun {k Q} hr=>aar (t:=t) (n:=v.1) (Q:=Q) hd (m:=m) aH aH (k:=k) hr m ki [] dw
  simp only[liM,aU,az] at lb;simp only[G4,Kl,br,aM,bK,aL,qd,h1,g2,g3,h4,EW,seval];refine lb (fun out x ho=>?_)
  simp only[Kl,EW,seval];exact⟨_,⟨out,x,0,rfl,ho⟩,rfl⟩
 obtain⟨_,⟨out,x,e,rfl,h1⟩,h3⟩:=key;exact⟨out,x,e,aB h3,h1⟩
section
variable {f:aa} {o:jC} {n:Node} {Q:ag×aC->Prop}
abbrev wkM(f:aa)(o:jC)(n:Node):aC:=[.cells (cf f),.cells (eT o),.cells rh,.cells qZ,.cells (aM f.s.now),.cells (aL n)]
def agW{l:List gM}(hl:l.length<=64){nx:Int}{k:List K}
  (hx:∀(S:List Bytes) z,∃r,Q r/\kr (aq cd) [.dG 4 10,.dG 5 7] 0 k ⟨.exit 1,(2,cv 0)::(4,cv 2)::(5,cv 3)::(11,jb l)::(12,aF nx)::(14,.slice (.own 6) (S.map ag.str))::z,wkM f o n++[.tick 1 S.length]⟩=some r) :
  ∃r,Q r/\eX (aq cd) [.dG 4 10,.dG 5 7] 0 k (.loop [2,4,5,11,12,14,15] agF) [(2,cv 0),(4,cv 2),(5,cv 3),(11,jb l),(12,aF nx),(14,.slice (.own 6) []),(15,aF 0)] (wkM f o n++[.tick 1 0])=some r:=by
 refine jd (xs:=l) aH (fun m (S:List Bytes)=>S.length<=m) (fun S i=>[(2,cv 0),(4,cv 2),(5,cv 3),(11,jb l),(12,aF nx),(14,.slice (.own 6) (S.map ag.str)),(15,aF i)]) (fun S=>wkM f o n++[.tick 1 S.length]) Q (fun S hS=>?_) (fun pre e post S h hx' cJ hw h0 hm hS hi=>?_) [] (au _)
 ·simp only[wkM,cf,eT,rh,qZ,aM,aL,aG,aO] at hx ⊢;simp only[Ob,bm,EW,seval];exact hx S _
 ·have hp:=(aj.1 hx').1;have i1:=hi (S++[e.name]) gh;have r1:cr (S.length+1) 16=True:=qI;simp only[wkM,cf,eT,rh,qZ,aM,aL,aG,aO,aZ,aK,aU,aA,av,az,aJ] at i1 ⊢;simp only[Ob,cJ,hx',hw,h0,r1,iH,fU,EW,seval];exact i1
end
def c44{K:Nat}(f:aa)(o:jC)(hf:FB K f)(hK:K<=89000)(ho:sg o):yp K f 44 [.agg (cf f),.agg (eT o)]:=by
 have hr:=hf.ok.rt;have h200:=hr.sz.ae;have hp:o.dH.length<=100000:=by have:=ho.dH; omega
 have q3:=fun M=>k66 f.s.now.ae f.s.now.next f.s.now.ak o.dH hr.small hp M
 generalize Cn f.s.now.ae o.dH=w at q3;have qg:=fun M=>A5 f.s.now.ae f.s.now.next f.s.now.ak w.1 aH M
 generalize (find f.s.now.ae w.1).getD Node.zero=n at qg;have q4:=k42;simp only[cT,hZ,dj,c8,aU,bK,aL] at q4 qg;have back:FB (K+200) f:=hf.mono aH;cases h0:w.2 != 0
 case true =>
  refine⟨f,hZ w.2,aB ?_,back,DV⟩;simp only[zF,Ob,cf,eT,cT,hZ,dj,c8,h0,q3,q4,EW,seval]
 cases h1:o.kind==1
 case true =>
  refine⟨f,⟨0,w.1,n.kind,0,0,[],[]⟩,aB ?_,back,DV⟩;simp only[zF,Ob,cf,eT,cT,hZ,dj,c8,h0,h1,q3,qg,EW,seval]
 cases h2:o.kind==7
 case true =>
  obtain⟨a,qa⟩:=c75 n;have q5:=cP qa;simp only[bK,aL] at q5;refine⟨f,⟨0,w.1,n.kind,n.ep,a,[],[]⟩,aB ?_,back,DV⟩;simp only[zF,Ob,cf,eT,cT,hZ,dj,c8,h0,h1,h2,q3,qg,q5,EW,seval]
 cases h3:o.kind==6
 case true =>
  obtain⟨l,nx,e,qa,hl⟩:=c76 f.s.now w.1 o.n o.m hr;have q5:=cP qa;simp only[br,aM] at q5;cases h4:e != 0
  case true =>
   refine⟨f,hZ e,aB ?_,back,DV⟩;simp only[zF,Ob,cf,eT,cT,hZ,dj,c8,h0,h1,h2,h3,h4,q3,q4,q5,qg,EW,seval]
  have key:∃r:ag×aC,(∃a,r=(.tuple [.agg (cf f),.agg (cT a)],[]))/\eX (aq cd) zF.results 0 [] zF.body (eF 0 [.agg (cf f),.agg (eT o)]) []=some r:=by
   have la:=fun {k Q} hx=>agW (f:=f) (o:=o) (n:=n) (Q:=Q) hl (nx:=nx) (k:=k) hx
   simp only[wkM,cf,eT,rh,qZ,aM,aL,aG,aO] at la;simp only[zF,Ob,cf,eT,cT,hZ,dj,c8,h0,h1,h2,h3,h4,q3,q5,qg,EW,seval];refine la (fun S z=>?_)
   simp only[Ob,EW,seval];exact⟨_,⟨⟨0,0,0,nx,0,S,[]⟩,rfl⟩,rfl⟩
  obtain⟨_,⟨a,rfl⟩,h5⟩:=key;exact⟨f,a,aB h5,back,DV⟩
 cases h4:o.kind==8
 case true =>
  have q5:=fun M=>k77 f.s.now.ae f.s.now.next f.s.now.ak f.holds o.bC o.handle w.1 aH (by have:=hf.ok.dR; omega) M
  obtain⟨g1,g2⟩:=Wp (t:=f.s.now) hf.ok.holds hf.ok.dR o.bC o.handle w.1;have g4:∀y,y∈f.holds->y∈(sG ⟨f.s.now.ae,f.s.now.next,f.s.now.ak⟩ f.holds o.bC o.handle w.1).1:=fun y hy=>PQ f.s.now f.holds o.bC o.handle w.1 hy
  have g3:∀y,y∈(sG ⟨f.s.now.ae,f.s.now.next,f.s.now.ak⟩ f.holds o.bC o.handle w.1).1->y∈f.holds\/tG f.s.now.ae y.ar/\zO y.bC y.handle=true:=fun y hy=>PO (t:=f.s.now) (by obtain⟨dE,g⟩:=hr; exact g.kind) f.holds o.bC o.handle w.1 hy
  change uz (sG ⟨f.s.now.ae,f.s.now.next,f.s.now.ak⟩ f.holds o.bC o.handle w.1).1 at g1
  change(sG ⟨f.s.now.ae,f.s.now.next,f.s.now.ak⟩ f.holds o.bC o.handle w.1).1.length<=64 at g2
  generalize sG ⟨f.s.now.ae,f.s.now.next,f.s.now.ak⟩ f.holds o.bC o.handle w.1=v at q5 g1 g2 g3 g4
  cases h5:v.2 != 0
  ·refine⟨⟨f.s,v.1,f.dW⟩,⟨0,w.1,0,0,0,[],[]⟩,aB ?_,hf.set g1 g2,fun h=>⟨fun y hy=>(g3 y hy).elim (h.file y) And.left,fun n hn ho=>by
    obtain⟨y,h1,h2⟩:=of_held (h.orp n hn ho);exact CK (g4 y h1) h2,h.quo,h.one,h.over,fun y hy=>(g3 y hy).elim (h.key y) And.right⟩,.inl rfl⟩
   simp only[zF,Ob,cf,eT,cT,hZ,dj,c8,h0,h1,h2,h3,h4,h5,q3,q5,qg,EW,seval]
  ·refine⟨f,hZ v.2,aB ?_,back,DV⟩;simp only[zF,Ob,cf,eT,cT,hZ,dj,c8,h0,h1,h2,h3,h4,h5,q3,q4,q5,qg,EW,seval]
 cases h5:o.kind==13
 case true =>
  obtain⟨l,e,qa,hl,hl',hlm⟩:=c78 f.s.now f.dW w.1 o.n o.m hr hf.ok.dW hf.ok.sJ;have q5:=cP qa;obtain⟨g,a,qd,hg⟩:=c69 f f.s.now l e ⟨0,w.1,0,0,0,[],[]⟩ hf hK hr hl hl' (fun _ _ h=>h) (fun h y hy hi=>(hlm y hy).elim (fun hq=>(h.quo y hq).no (.inl hi)) fun hd=>XD.no hd (.inl hi))
  have q7:=cP qd;simp only[br,aM,cf,cT,dj,c8,aU] at q5 q7;refine⟨g,a,aB ?_,hg⟩;simp only[zF,Ob,cf,eT,cT,hZ,dj,c8,h0,h1,h2,h3,h4,h5,q3,q5,q7,qg,EW,seval]
 obtain⟨i,e,qa⟩:=c79 f.s w.1 aH hf.ok.dV;have q5:=cP qa;simp only[bL] at q5;cases h6:e != 0
 ·have hts:(takeN f.s w.1).1.now=f.s.now/\(takeN f.s w.1).1.since=f.s.since/\(takeN f.s w.1).1.eN=f.s.eN/\(takeN f.s w.1).1.dV.length<=16:=by
   have:=hf.ok.dV;unfold takeN;split
   ·exact⟨rfl,rfl,rfl,this⟩
   split
   ·exact⟨rfl,rfl,rfl,this⟩
   split
   ·exact⟨rfl,rfl,rfl,this⟩
   ·rename_i hl;simp only[cU,bh,o4] at hl;exact⟨rfl,rfl,rfl,gh⟩
  obtain⟨t1,t2⟩:=hf.adE hts.1 hts.2.1 (fun p hp=>by rw[hts.2.2.1] at hp; exact hp) (by rw[hts.2.2.1]; exact au _) hts.2.2.2
  refine⟨⟨(takeN f.s w.1).1,f.holds,f.dW⟩,⟨0,0,0,i,0,[],[]⟩,aB ?_,t1,t2,.inr (.inr (.inl ⟨_,rfl⟩))⟩;simp only[zF,Ob,cf,eT,cT,hZ,dj,c8,h0,h1,h2,h3,h4,h5,h6,q3,q5,qg,EW,seval]
 ·refine⟨f,hZ e,aB ?_,back,DV⟩;simp only[zF,Ob,cf,eT,cT,hZ,dj,c8,h0,h1,h2,h3,h4,h5,h6,q3,q4,q5,qg,EW,seval]
section
variable {data:Bytes} {ki:Nat} {Q:ag×aC->Prop}
def aas(hf:ki+data.length<=100000){k:List K}
  (hx:∀(v:Nat) (out:Bytes) z,ki+data.length<=out.length->out.length<=100000->∃r,Q r/\kr (aq cd) [.tmp 6] 0 k ⟨.exit 0,(1,aF ki)::(2,c8 data)::(7,.cB 0 v 1 0 out.length)::z,[.arr 1 v (out.map qW)]⟩=some r) :
  ∀(d v:Nat)(out:Bytes),ki+data.length-out.length=d->out.length<=100000->∃r,Q r/\eX (aq cd) [.tmp 6] 0 k (.loop [1,2,7] Lz) [(1,aF ki),(2,c8 data),(7,.cB 0 v 1 0 out.length)] [.arr 1 v (out.map qW)]=some r:=by
 have w1:IntKind.i64.wrap ((ki:Int)+(data.length:Int))=((ki+data.length:Nat):Int):=by rw[gW aH aH]; rfl
 intro d;induction d with
 |zero =>
  intro v out h1 h2;rw[bF];have e1:((out.length:Int)<((ki+data.length:Nat):Int))=False:=oyf;simp only[E82,w1,e1,bT,EW,seval];exact hx v out _ aH h2
 |succ d ih =>
  intro v out h1 h2;rw[bF];have e1:((out.length:Int)<((ki+data.length:Nat):Int))=True:=sH;have r1:cr (out.length+1) 1=True:=qI;have u0:qW 0 = .int .u8 0:=rfl;have i1:=ih (v+1) (out++[0]) gh gh;simp only[aZ,aK,aU,aA,av,az,aJ,u0] at i1;simp only[E82,w1,e1,r1,bT,se,EW,seval];exact i1
def aat(hf:ki+data.length<=100000){v L:Nat}(hL:ki+data.length<=L){k:List K}
  (hx:∀(out:Bytes) z,out.length=L->∃r,Q r/\kr (aq cd) [.tmp 6] 0 k ⟨.exit 2,(1,aF ki)::(2,c8 data)::(7,.cB 0 v 1 0 L)::z,[.arr 1 v (out.map qW)]⟩=some r) {out:Bytes} (ho:out.length=L) :
  ∃r,Q r/\eX (aq cd) [.tmp 6] 0 k (.loop [1,2,7,8] agS) [(1,aF ki),(2,c8 data),(7,.cB 0 v 1 0 L),(8,aF 0)] [.arr 1 v (out.map qW)]=some r:=by
 refine jd (xs:=data) aH (fun _ (out:Bytes)=>out.length=L) (fun _ i=>[(1,aF ki),(2,c8 data),(7,.cB 0 v 1 0 L),(8,aF i)]) (fun out=>[.arr 1 v (out.map qW)]) Q (fun out ho=>?_) (fun pre x post out e hx' cJ hw h0 hm ho hi=>?_) out ho
 ·simp only[E82,bm,EW,seval];exact hx out _ ho
 ·have hp:=(aj.1 hx').1;have w1:IntKind.i64.wrap ((ki:Int)+(pre.length:Int))=((ki+pre.length:Nat):Int):=by rw[gW aH aH]; rfl
  have e1:(((ki+pre.length:Nat):Int)<(L:Int))=True:=sH;have e2:(((ki+pre.length:Nat):Int)<0)=False:=oyf;have sU:∀(ds:List UInt8)(b:Nat)(d x:UInt8),iT (ds.map qW) b (putCells (.int .u8 d.toNat) 0 [.int .u8 x.toNat])=(ds.set b x).map qW:=aa6;have e3:(ki+pre.length<out.length)=True:=sH;have e4:(ki+pre.length<L)=True:=sH;obtain⟨d,hb⟩:∃d,out[ki+pre.length]?=some d:=⟨_,ai aH⟩;have i1:=hi (out.set (ki+pre.length) x) (by simp[ho])
  simp only[E82,cJ,hx',hw,h0,w1,e1,e2,e3,e4,hb,ho,sU,qW,bT,EW,seval];exact i1
end
def c82(file:Bytes)(ki:Nat)(data:Bytes)(hf:file.length<=100000)(hr:ki+data.length<=100000):∃out:Bytes,aq cd 82 [c8 file,aF ki,c8 data] []=some (c8 out,[])/\out.length<=100000:=by
 have key:∃r:ag×aC,(∃out:Bytes,r=(c8 out,[])/\out.length<=100000)/\eX (aq cd) O4.results 0 [] O4.body (eF 0 [c8 file,aF ki,c8 data]) []=some r:=by
  have r1:cr file.length 1=True:=qI;cases h1:(data.length:Int)==0
  ·have la:=fun {k Q} hx=>aas (data:=data) (ki:=ki) (Q:=Q) hr (k:=k) hx _ 0 file rfl aH
   have hk:∀ {k:List K} {a b c d:ag} {M:aC},eX (aq cd) [.tmp 6] 0 k (.loop [1,2,7] Lz) [(1,a),(2,b),(7,c),(14,d)] M=eX (aq cd) [.tmp 6] 0 k (.loop [1,2,7] Lz) [(1,a),(2,b),(7,c)] M:=by
    intros; rw[bF,bF]; rfl
   simp only[O4,E82,h1,r1,EW,seval];rw[hk];refine la (fun v out z h2 h3=>?_)
   have lb:=fun {k Q} hx=>aat (data:=data) (ki:=ki) (Q:=Q) hr (v:=v) h2 (k:=k) hx (out:=out) rfl
   simp only[E82,EW,seval];refine lb (fun out' z h4=>?_)
   have htk:(out'.map qW).take out.length=out'.map qW:=bB (by simp[h4])
   simp only[E82,h4,htk,bT,EW,seval];exact⟨_,⟨out',rfl,aH⟩,rfl⟩
  ·have htk:(file.map qW).take file.length=file.map qW:=bB dw;simp only[O4,E82,h1,r1,htk,bT,EW,seval];exact⟨_,⟨file,rfl,aH⟩,rfl⟩
 obtain⟨_,⟨out,rfl,h1⟩,h3⟩:=key;exact⟨out,aB h3,h1⟩
def c45{K:Nat}(f:aa)(o:jC)(hf:FB K f)(hK:K<=89000)(ho:sg o):yp K f 45 [.agg (cf f),.agg (eT o)]:=by
 have hr:=hf.ok.rt;have h200:=hr.sz.ae;have hod:=ho.data;have q4:=k42;simp only[cT,hZ,dj,c8,aU] at q4;have back:FB (K+200) f:=hf.mono aH;cases h0:o.kind==9
 case true =>
  obtain⟨u,l,e,qa,g⟩:=c80 f.s.now f.holds o.bC o.handle hr hf.ok.holds hf.ok.dR;have qp:=c49 f.s u hr g.rt hf.ok.len hf.ok.dV hf.ok.eN;have q1:=cP qa;have q2:=cP qp;simp only[br,aM,bL] at q1 q2;cases h1:e != 0
  ·refine⟨⟨qv f.s u,l,f.dW⟩,hZ 0,aB ?_,hf.put hK g.rt g.mj g.len hf.ok.dW hf.ok.sJ,fun h=>Hn g.mem (g.orp h.orp) (fun q hq=>g.dir _ (h.quo q hq)) (g.one _ h.one) (fun q hq=>by rw[g.use]; exact h.over q hq) h,.inr (.inl ⟨u,g.rt,rfl⟩)⟩
   simp only[Cy,QJ,cf,eT,cT,hZ,dj,c8,h0,h1,q1,q2,EW,seval]
  ·refine⟨f,hZ e,aB ?_,back,DV⟩;simp only[Cy,QJ,cf,eT,cT,hZ,dj,c8,h0,h1,q1,q4,EW,seval]
 obtain⟨x,e,qa⟩:=c81 f.holds o.bC o.handle hf.ok.dR;have q1:=cP qa;cases h1:e != 0
 case true =>
  refine⟨f,hZ e,aB ?_,back,DV⟩;simp only[Cy,QJ,cf,eT,cT,hZ,dj,c8,h0,h1,q1,q4,EW,seval]
 have qg:=fun M=>A5 f.s.now.ae f.s.now.next f.s.now.ak x aH M
 have hz:(find f.s.now.ae x).getD Node.zero=bl f.s.now.ae x:=rfl;rw[hz] at qg;obtain⟨s1,s2⟩:=xm hf.ok x;generalize bl f.s.now.ae x=n at qg s1 s2;simp only[bK,aL] at qg;have bad:∀e,aq cd 45 [.agg (cf f),.agg (eT o)] []=some (.tuple [.agg (cf f),.agg (cT (hZ e))],[])->yp K f 45 [.agg (cf f),.agg (eT o)]:=fun e h=>⟨f,hZ e,h,back,DV⟩
 cases h2:decide (o.n<0)
 case true =>
  refine bad 1 (aB ?_);simp only[Cy,QJ,cf,eT,cT,hZ,dj,c8,h0,h1,h2,q1,q4,qg,EW,seval]
 have hn0:0<=o.n:=by simpa using h2
 obtain⟨m1,m2⟩:=zU hn0 n.data.length;generalize Ba o.n n.data.length=mn at m1 m2;have t1:((mn:Int)<=(n.data.length:Int))=True:=sH;have ta:(n.data.map qW).take n.data.length=n.data.map qW:=bB dw;cases h3:o.kind==10
 case true =>
  have h3':(o.kind==11)=false:=by simp at h3 ⊢; omega
  cases h4:decide (o.m<0)
  case true =>
   refine bad 1 (aB ?_);simp only[Cy,QJ,cf,eT,cT,hZ,dj,c8,h0,h1,h2,h3,h3',h4,q1,q4,qg,EW,seval]
  cases h5:decide (4096<o.m)
  case true =>
   refine bad 1 (aB ?_);simp only[Cy,QJ,cf,eT,cT,hZ,dj,c8,h0,h1,h2,h3,h3',h4,h5,q1,q4,qg,EW,seval]
  simp only[dA] at h4 h5;have g4:decide (o.m<0)=false:=gh;have g5:decide (4096<o.m)=false:=gh;have w1:IntKind.i64.wrap ((mn:Int)+o.m)=(mn:Int)+o.m:=gW aH aH;obtain⟨p1,p2⟩:=zU (a:=(mn:Int)+o.m) aH n.data.length
  have p3:mn<=Ba ((mn:Int)+o.m) n.data.length:=by
   have:=p1; split at this<;>omega
  generalize Ba ((mn:Int)+o.m) n.data.length=mx at p1 p2 p3;have t2:((mx:Int)<=(n.data.length:Int))=True:=sH;have t3:((mn:Int)<=(mx:Int))=True:=sH;refine⟨f,⟨0,x,0,0,0,[],(n.data.take mx).drop mn⟩,aB ?_,back,DV⟩;simp only[Cy,QJ,cf,eT,cT,hZ,dj,c8,h0,h1,h2,h3,h3',g4,g5,q1,qg,m1,p1,w1,t1,t2,t3,ta,gy,jQ,EW,seval]
 cases h6:o.kind==11
 case true =>
  cases h7:decide (4096<o.n)
  case true =>
   refine bad 1 (aB ?_);simp only[Cy,QJ,cf,eT,cT,hZ,dj,c8,h0,h1,h2,h3,h6,h7,q1,q4,qg,EW,seval]
  have h7':¬4096<o.n:=by simpa using h7
  obtain⟨m,hm⟩:∃m:Nat,o.n=m:=⟨o.n.toNat,aH⟩;rw[hm] at h2 h7;have w1:IntKind.i64.wrap ((m:Int)+(o.data.length:Int))=(m:Int)+(o.data.length:Int):=gW aH aH;cases h8:decide (4096<(m:Int)+(o.data.length:Int))
  case true =>
   refine bad 2 (aB ?_);simp only[Cy,QJ,cf,eT,cT,hZ,dj,c8,hm,h0,h1,h2,h3,h6,h7,h8,w1,q1,q4,qg,EW,seval]
  obtain⟨d,ql,hd⟩:=c82 n.data m o.data aH aH;have q5:=cP ql;have h8':¬4096<(m:Int)+(o.data.length:Int):=by simpa using h8
  have q6:=fun M=>k83 f.s.now.ae f.s.now.next f.s.now.ak x d hr.small hd M
  have hv:=hr.put x d;have hkf:=Jb hr x d;have hrf:=WN hr x d;generalize rO f.s.now x d=v at q6 hv hkf hrf;obtain⟨g,a,qd,hg⟩:=c69 f v.1 f.dW v.2 ⟨0,x,0,0,d.length,[],[]⟩ hf hK hv hf.ok.dW hf.ok.sJ (fun y _ h=>hkf.2 _ h) (fun h y hy hi=>(h.quo y hy).no (hrf _ hi))
  have q7:=cP qd;simp only[br,aM,cf,cT,dj,c8,aU] at q5 q6 q7;refine⟨g,a,aB ?_,hg⟩;simp only[Cy,QJ,cf,eT,cT,hZ,dj,c8,hm,h0,h1,h2,h3,h6,h7,h8,w1,q1,q5,q6,q7,qg,EW,seval]
 have tl1:(List.take mn (n.data.map qW)).length=mn:=gh;have tl2:(List.take mn n.data).length=mn:=gh;have q6:=fun M=>k83 f.s.now.ae f.s.now.next f.s.now.ak x (n.data.take mn) hr.small gh M
 have hv:=hr.put x (n.data.take mn);have hkf:=Jb hr x (n.data.take mn);have hrf:=WN hr x (n.data.take mn);generalize rO f.s.now x (n.data.take mn)=v at q6 hv hkf hrf;obtain⟨g,a,qd,hg⟩:=c69 f v.1 f.dW v.2 ⟨0,x,0,0,(n.data.take mn).length,[],[]⟩ hf hK hv hf.ok.dW hf.ok.sJ (fun y _ h=>hkf.2 _ h) (fun h y hy hi=>(h.quo y hy).no (hrf _ hi))
 have q7:=cP qd;simp only[br,aM,cf,cT,dj,c8,aU,eP,tl2] at q6 q7;refine⟨g,a,aB ?_,hg⟩;simp only[Cy,QJ,tl1,cf,eT,cT,hZ,dj,c8,h0,h1,h2,h3,h6,q1,q6,q7,qg,m1,t1,gy,EW,seval]
section
variable {s:iQ} {Q:ag×aC->Prop} {id:Int}
abbrev Qr(s:iQ):aC:=[.cells (bL s),.cells [.slice .c0 [],.int .i64 0,.int .i64 0,.int .i64 0,.slice .c0 [],.slice .c0 [],.slice .c0 [],.int .i64 0]]
def aam(hk:s.dV.length<=16){k:List K}
  (hx:∀z,∃r,Q r/\kr (aq cd) [.dG 4 8,.tmp 5] 0 k ⟨.exit 0,(1,aF id)::(2,cv 0)::(4,cv 1)::(6,.slice (.own 2) ((s.dV.filter (rD id)).map kO))::z,Qr s++[.tick 3 (s.dV.filter (rD id)).length]⟩=some r) :
  ∃r,Q r/\eX (aq cd) [.dG 4 8,.tmp 5] 0 k (.loop [1,2,4,6,7] agJ) [(1,aF id),(2,cv 0),(4,cv 1),(6,.slice (.own 2) []),(7,aF 0)] (Qr s++[.tick 3 0])=some r:=by
 refine jd (xs:=s.dV) aH (fun m (ts:List mR)=>ts=(s.dV.take m).filter (rD id)) (fun ts i=>[(1,aF id),(2,cv 0),(4,cv 1),(6,.slice (.own 2) (ts.map kO)),(7,aF i)]) (fun ts=>Qr s++[.tick 3 ts.length]) Q (fun ts hK=>?_) (fun pre x post ts e hx' cJ hw h0 hm hK hi=>?_) [] rfl
 ·rw[bH] at hK;subst hK;simp only[Qr,bL,aG,aO] at hx ⊢;simp only[E47,bm,EW,seval];exact hx _
 ·have hp:=(aj.1 hx').1;have hl:ts.length<=16:=by rw[hK]; exact aY (bU _ _) gh
  have i1:=hi (ts++if x.id != id then [x] else []) (by rw[cz,hx',jv,<-hK]; simp only[kB,ft,kH,rD]<;>rfl)
  have r1:cr (ts.length+1) 24=True:=qI;simp only[Qr,bL,aG,aO] at i1 ⊢;cases h1:x.id != id<;>simp only[h1,af,aE,aD,db,aZ,aK,aU,aA,av,az,aJ,kO,iC] at i1<;>simp only[E47,cJ,hx',hw,h0,h1,r1,kO,iC,EW,seval]<;>exact i1
def aan(hp:s.eN.length<=90000){ts:List mR}(hk:ts.length<=16){k:List K}
  (hx:∀z,∃r,Q r/\kr (aq cd) [.dG 4 8,.tmp 5] 0 k ⟨.exit 2,(2,cv 0)::(4,cv 1)::(6,.slice (.own 2) (ts.map kO))::(8,.slice (.own 3) ((s.eN.filter (vG ts)).map lV))::z,Qr s++[.tick 3 ts.length,.tick 8 (s.eN.filter (vG ts)).length]⟩=some r) :
  ∃r,Q r/\eX (aq cd) [.dG 4 8,.tmp 5] 0 k (.loop [2,4,6,8,9] agK) [(2,cv 0),(4,cv 1),(6,.slice (.own 2) (ts.map kO)),(8,.slice (.own 3) []),(9,aF 0)] (Qr s++[.tick 3 ts.length,.tick 8 0])=some r:=by
 refine jd (xs:=s.eN) aH (fun m (P:List po)=>P=(s.eN.take m).filter (vG ts)) (fun P i=>[(2,cv 0),(4,cv 1),(6,.slice (.own 2) (ts.map kO)),(8,.slice (.own 3) (P.map lV)),(9,aF i)]) (fun P=>Qr s++[.tick 3 ts.length,.tick 8 P.length]) Q (fun P hP=>?_) (fun pre x post P e hx' cJ hw h0 hm hP hi=>?_) [] rfl
 ·rw[bH] at hP;subst hP;simp only[Qr,bL,aG,aO] at hx ⊢;simp only[E47,bm,EW,seval];exact hx _
 ·have hp':=(aj.1 hx').1;have hl:P.length<=90000:=by rw[hP]; exact aY (bU _ _) gh
  have i1:=hi (P++if xz ts x.ki x.BA then [x] else []) (by rw[cz,hx',jv,<-hP]; simp only[kB,ft,kH,vG]<;>rfl)
  have qw:=fun M=>k86 ts x.ki x.BA aH M
  generalize xz ts x.ki x.BA=w at qw i1;have r1:cr (P.length+1) 96=True:=qI;simp only[Qr,bL,aG,aO] at i1 ⊢;cases w<;>simp only[af,aE,aD,db,aZ,aK,aU,aA,av,az,aJ,lV,mH,aL] at i1<;>simp only[E47,cJ,hx',hw,h0,qw,r1,lV,mH,aL,EW,seval]<;>exact i1
end
def c47(s:iQ)(id:Int)(hk:s.dV.length<=16)(hp:s.eN.length<=90000):∃e,aq cd 47 [.agg (bL s),aF id] []=some (.tuple [.agg (bL (rn s id).1),aF e],[]):=by
 have key:∃r:ag×aC,(∃e,r=(.tuple [.agg (bL (rn s id).1),aF e],[]))/\eX (aq cd) Se.results 0 [] Se.body (eF 0 [.agg (bL s),aF id]) []=some r:=by
  have la:=fun {k Q} hx=>aam (s:=s) (Q:=Q) (id:=id) hk (k:=k) hx
  simp only[Qr,bL,aG,aO] at la;simp only[Se,E47,bL,EW,seval];refine la (fun z=>?_)
  unfold rn;have hK:(s.dV.filter (rD id)).length<=16:=aY (bU _ _) hk;generalize s.dV.filter (rD id)=ts at hK ⊢;cases h1:(ts.length:Int)==(s.dV.length:Int)
  ·have lb:=fun {k Q} hx=>aan (s:=s) (Q:=Q) hp (ts:=ts) hK (k:=k) hx
   simp only[Qr,bL,aG,aO] at lb;simp only[E47,h1,af,aD,EW,seval];refine lb (fun z=>?_)
   simp only[E47,EW,seval];exact⟨_,⟨0,rfl⟩,rfl⟩
  ·simp only[E47,h1,aE,EW,seval];exact⟨_,⟨100,rfl⟩,rfl⟩
 obtain⟨_,⟨e,rfl⟩,h3⟩:=key;exact⟨e,aB h3⟩
def aqs(l:List Node)(n:Node)(hn:l.length<=100000):∃m,aq cd 177 [ba l,bK n] []=some (ba m,[])/\m.length=l.length+1/\∀x,x∈m->x=n\/x∈l:=by
 have key:∃r:ag×aC,(∃m,r=(ba m,[])/\m.length=l.length+1/\∀x,x∈m->x=n\/x∈l)/\eX (aq cd) IP.results 0 [] IP.body (eF 0 [ba l,bK n]) []=some r:=by
  simp only[IP,XP,bK,aL,EW,seval]
  have fin:∀(i:Nat),i<=l.length->∃m:List Node,m.length=l.length+1/\(∀x,x∈m->x=n\/x∈l)/\l.take i++n::l.drop i=m:=fun i hi=>⟨_,gh,fun x hx=>by
   rcases bo.1 hx with hx|hx
   ·exact .inr (dN hx)
   ·rcases bJ.1 hx with hx|hx
    ·exact .inl hx
    ·exact .inr (dy hx),rfl⟩
  refine jd (xs:=l) aH (fun _ (_:Unit)=>True) (fun _ i=>[(0,ba l),(3,cv 0),(5,aF i)]) (fun _=>[cA [aF n.ar,aF n.kind,aF n.ep,c8 n.data,jb n.bc,aF n.up]]) _ (fun _ _=>?_) (fun pre x post _ e hx cJ hw h0 hm _ hi=>?_) () trivial
  ·obtain⟨m,m1,m2,m3⟩:=fin l.length (au _);have r1:cr l.length 80=True:=qI;have r2:cr (l.length+1) 80=True:=qI;have a1:(l.map bK).take l.length=l.map bK:=by rw[<-eP,bH]
   have a2:(l.map bK).drop l.length=[]:=by rw[<-jQ,nF]; rfl
   simp only[XP,bm,dP,a1,a2,r1,r2,EW,seval];refine⟨_,⟨m,rfl,m1,m2⟩,?_⟩;rw[<-m3]; simp[bK,aL]
  ·have hp:=(aj.1 hx).1;obtain⟨m,m1,m2,m3⟩:=fin pre.length aH;have i1:=hi () trivial;have r1:cr pre.length 80=True:=qI;have r2:cr (pre.length+1) 80=True:=qI;obtain⟨B,hB⟩:∃B,x::post=B:=⟨_,rfl⟩;have t1:l.take pre.length=pre:=by rw[e]; simp
   have t2:l.drop pre.length=B:=by rw[e,<-hB]; simp
   have t3:pre.length+B.length=l.length:=by rw[e,<-hB]; simp
   have r3:cr (pre.length+1+B.length) 80=True:=qI;have a1:(l.map bK).take pre.length=pre.map bK:=by rw[<-eP,t1]
   have a2:(l.map bK).drop pre.length=B.map bK:=by rw[<-jQ,t2]
   have a3:((pre.length:Int)<=(l.length:Int))=True:=sH;have a4:(l.map bK).take l.length=l.map bK:=by rw[<-eP,bH]
   cases h1:decide (x.ar<=n.ar)<;>simp only[XP,cJ,hx,hw,h0,h1,bK,aL,EW,seval]
   ·simp only[XP,a1,a2,a3,a4,r1,r2,r3,dP,EW,seval];refine⟨_,⟨m,rfl,m1,m2⟩,?_⟩;rw[<-m3,t1,t2]; simp[bK,aL]
   ·exact i1
 obtain⟨_,⟨m,rfl,h1⟩,h3⟩:=key;exact⟨m,aB h3,h1⟩
end
def Xp:List Node->List Bool->Nat
 |n::r,b::m=>(if b then 0 else n.bc.length)+Xp r m
 |_,_=>0
def NW:∀(l:List Node)(m:List Bool)(i:Nat)(n:Node),l[i]?=some n->m[i]?=some false->Xp l (m.set i true)+n.bc.length=Xp l m
 | [],m,i,n,h,_=>by simp at h
 |x::l,[],i,n,_,h=>by simp at h
 |x::l,b::m,0,n,h,h'=>by simp at h h'; subst h; subst h'; simp[Xp]; omega
 |x::l,b::m,i+1,n,h,h'=>by
  have:=NW l m i n (by simpa using h) (by simpa using h')
  simp only[List.set_cons_succ,Xp]; omega
def Xq:∀(l:List Node)(m:List Bool),(∀n,n∈l->n.bc.length<=64)->Xp l m<=64*l.length
 | [],m,_=>by simp[Xp]
 |x::l,[],_=>by simp[Xp]
 |x::l,b::m,h=>by
  have h1:=Xq l m fun n hn=>h n (bw _ hn)
  have h2:=h x bD;simp only[Xp,av]; split<;>omega
section
attribute [local irreducible] eX fJ lj gK dY kr aq aR cp bI
section
variable {l:List Node} {Q:ag×aC->Prop}
abbrev JU(l:List Node)(m:List Bool)(all:List Int):aC:=[.arr 1 0 (m.map ag.bool),.cells [ba l,.int .i64 0,.int .i64 0],.tick 1 all.length]
abbrev W8(n:Node):cL := .cells [.int .i64 n.ar,.int .i64 n.kind,.int .i64 n.ep,c8 n.data,jb n.bc,.int .i64 n.up]
def Vu(hl:l.length<=100000){m:List Bool}{all:List Int}{i:Nat}{A B:List Node}{n:Node}(hs:l=A++n::B)(hA:∀x,x∈A->x.ar≠n.ar){k:List K}
  (hx:∀z,∃r,Q r/\kr (aq cd) [.tmp 4,.tmp 5] 0 k ⟨.exit 2,(0,ba l)::(6,.cB 0 0 1 0 l.length)::(7,cv 1)::(8,.slice (.own 2) (all.map mS))::(9,aF i)::(10,cv 3)::(12,aF A.length)::z,JU l m all++[W8 n]⟩=some r) :
  ∀(d j:Nat),j+d=A.length->∃r,Q r/\eX (aq cd) [.tmp 4,.tmp 5] 0 k (.loop [0,6,7,8,9,10,12] Zo) [(0,ba l),(6,.cB 0 0 1 0 l.length),(7,cv 1),(8,.slice (.own 2) (all.map mS)),(9,aF i),(10,cv 3),(12,aF j)] (JU l m all++[W8 n])=some r:=by
 have hl2:l.length=A.length+(B.length+1):=by rw[hs]; simp
 intro d;induction d with
 |zero =>
  intro j hj;obtain rfl:j=A.length:=aH;rw[bF];have b0:((A.length:Int)<0)=False:=dw;have hn:l[A.length]?=some n:=by rw[hs]; simp
  have e1:(n.ar != n.ar)=false:=dw;simp only[JU,W8,aG,aO] at hx ⊢;simp only[Ar,b0,hn,e1,bK,aL,EW,seval];exact hx _
 |succ d ih =>
  intro j hj;rw[bF];have b0:((j:Int)<0)=False:=dw;obtain⟨x,hx1⟩:∃x,A[j]?=some x:=⟨_,ai aH⟩;have hn:l[j]?=some x:=by rw[hs,aQ aH]; exact hx1
  have e1:(x.ar != n.ar)=true:=by simpa using hA x (aI hx1)
  have w1:IntKind.i64.wrap ((j:Int)+1)=((j+1:Nat):Int):=by rw[gW aH aH]; rfl
  have i1:=ih (j+1) aH;simp only[JU,W8,aG,aO] at i1 ⊢;simp only[Ar,b0,hn,e1,w1,bK,aL,EW,seval];exact i1
def Vv{m:List Bool}{all:List Int}{i:Nat}{n:Node}(hn:n.bc.length<=64)(ha:all.length<=10000000){k:List K}
  (hx:∀(S:List Int) z,S.length=all.length+n.bc.length->∃r,Q r/\kr (aq cd) [.tmp 4,.tmp 5] 0 k ⟨.exit 4,(0,ba l)::(6,.cB 0 0 1 0 l.length)::(7,cv 1)::(8,.slice (.own 2) (S.map mS))::(9,aF i)::z,JU l m S++[W8 n]⟩=some r) :
  ∃r,Q r/\eX (aq cd) [.tmp 4,.tmp 5] 0 k (.loop [0,6,7,8,9,10,13] Zp) [(0,ba l),(6,.cB 0 0 1 0 l.length),(7,cv 1),(8,.slice (.own 2) (all.map mS)),(9,aF i),(10,cv 3),(13,aF 0)] (JU l m all++[W8 n])=some r:=by
 refine jd (xs:=n.bc) aH (fun c (S:List Int)=>S.length=all.length+c) (fun S j=>[(0,ba l),(6,.cB 0 0 1 0 l.length),(7,cv 1),(8,.slice (.own 2) (S.map mS)),(9,aF i),(10,cv 3),(13,aF j)]) (fun S=>JU l m S++[W8 n]) Q (fun S hS=>?_) (fun pre e post S h hx' cJ hw h0 hm hS hi=>?_) all rfl
 ·have:=fun z=>hx S ((10,cv 3)::z) hS
  simp only[JU,W8,aG,aO] at this ⊢;simp only[Ar,bm,EW,seval];exact this _
 ·have hp:=(aj.1 hx').1;have i1:=hi (S++[e.ar]) gh
  have r1:cr (S.length+1) 8=True:=by
   simp only[fx,ja]; unfold cr; omega
  simp only[JU,W8,aG,aO,aZ,aK,aU,aA,av,az,aJ,mS] at i1 ⊢;simp only[Ar,cJ,hx',hw,h0,r1,uw,iH,fU,EW,seval];exact i1
def Vw(hl:l.length<=100000)(he:∀n,n∈l->n.bc.length<=64){k:List K}
  (hx:∀(m:List Bool) z M,m.length=l.length->∃r,Q r/\kr (aq cd) [.tmp 4,.tmp 5] 0 k ⟨.exit 0,(0,ba l)::(6,.cB 0 0 1 0 l.length)::z,.arr 1 0 (m.map ag.bool)::M⟩=some r)
  (hr:∀(m:List Bool) M,m.length=l.length->∃r,Q r/\kr (aq cd) [.tmp 4,.tmp 5] 0 k ⟨.ret,[(4,.cB 0 0 1 0 l.length),(5,.bool false)],.arr 1 0 (m.map ag.bool)::M⟩=some r) :
  ∀(d:Nat)(m:List Bool)(all:List Int)(i:Nat),m.length=l.length->i<=all.length->all.length+Xp l m<=7000000->all.length+Xp l m-i=d->∃r,Q r/\eX (aq cd) [.tmp 4,.tmp 5] 0 k (.loop [0,6,7,8,9] Zq) [(0,ba l),(6,.cB 0 0 1 0 l.length),(7,cv 1),(8,.slice (.own 2) (all.map mS)),(9,aF i)] (JU l m all)=some r:=by
 intro d;induction d using Nat.strongRecOn with
 |_ d ih =>
  intro m all i hm hi hb hd;rw[bF];rcases bE i all.length with h1|h1
  ·have e1:((i:Int)<(all.length:Int))=True:=sH;have e0:((i:Int)<0)=False:=dw;have w1:IntKind.i64.wrap ((i:Int)+1)=((i+1:Nat):Int):=by rw[gW aH aH]; rfl
   obtain⟨x,hx1⟩:∃x,all[i]?=some x:=⟨_,ai h1⟩;have qg:=fun M=>A5 l 0 0 x hl M
   cases hf:find l x with
   |none =>
    rw[hf] at qg;simp only[iK,dr,bK,aL,Node.zero,aU] at qg;simp only[JU,aG,aO] at hr ⊢;simp only[Ar,e1,e0,hx1,qg,mS,EW,seval];exact hr m _ hm
   |some n =>
    rw[hf] at qg;simp only[bj,bX,bK,aL] at qg;obtain⟨_,A,B,hs,hA⟩:=List.find?_eq_some_iff_append.1 hf;have hnm:n∈l:=by rw[hs]; simp
    have hne:=he n hnm
    have hA':∀y,y∈A->y.ar≠n.ar:=fun y hy hyn=>by
     have h2:=hA y hy;have h3:=(List.find?_eq_some_iff_append.1 hf).1;simp at h2 h3; omega
    have la:=fun {k} hx=>Vu (l:=l) (Q:=Q) hl (m:=m) (all:=all) (i:=i) hs hA' (k:=k) hx A.length 0 aH
    simp only[JU,W8,aG,aO] at la ⊢;simp only[Ar,e1,e0,hx1,qg,mS,EW,seval];refine la (fun z=>?_)
    have hAl:A.length<l.length:=by rw[hs]; simp
    have a0:((A.length:Int)<0)=False:=dw;have a1:((A.length:Int)<(l.length:Int))=True:=sH;have a2:(A.length<l.length)=True:=sH;have a3:(A.length<m.length)=True:=sH;have hln:l[A.length]?=some n:=by rw[hs]; simp
    obtain⟨b,hmb⟩:∃b,m[A.length]?=some b:=⟨_,ai aH⟩;cases b
    ·have hu:=NW l m A.length n hln hmb;have lb:=fun {k} hx=>Vv (l:=l) (Q:=Q) (m:=m.set A.length true) (all:=all) (i:=i) (n:=n) hne aH (k:=k) hx
     simp only[JU,W8,aG,aO] at lb;simp only[Ar,a0,a1,a2,a3,hmb,hm,Gr,bT,EW,seval];refine lb (fun S z hS=>?_)
     have i1:=ih _ aH (m.set A.length true) S (i+1) (by simp[hm]) aH aH rfl
     simp only[JU] at i1;simp only[Ar,w1,EW,seval];exact i1
    ·have i1:=ih _ aH m all (i+1) hm aH hb rfl;simp only[JU] at i1;simp only[Ar,a0,a1,a2,a3,hmb,hm,w1,bT,EW,seval];exact i1
  ·have e1:((i:Int)<(all.length:Int))=False:=oyf;simp only[JU,aG,aO] at hx ⊢;simp only[Ar,e1,EW,seval];exact hx m _ _ hm
end
def apW(l:List Node)(ar:Int)(hl:l.length<=100000)(he:∀n,n∈l->n.bc.length<=64):∃(m:List Bool) (b:Bool),aq cd 139 [ba l,aF ar] []=some (.tuple [gA (m.map ag.bool),.bool b],[])/\m.length=l.length:=by
 have key:∃r:ag×aC,(∃(m:List Bool) (b:Bool),r=(.tuple [gA (m.map ag.bool),.bool b],[])/\m.length=l.length)/\eX (aq cd) IK.results 0 [] IK.body (eF 0 [ba l,aF ar]) []=some r:=by
  have r1:cr l.length 8=True:=qI
  have hrep:List.replicate l.length (ag.agg [ag.bool false]).norm=(List.replicate l.length false).map ag.bool:=by
   rw[gZ]; rfl
  have hu:=Xq l (List.replicate l.length false) he;have lc:=fun {k Q} hx hr=>Vw (l:=l) (Q:=Q) hl he (k:=k) hx hr _ (List.replicate l.length false) [ar] 0 dw dw gh rfl
  simp only[JU,aK,aU,av,az,mS] at lc;simp only[IK,Ar,r1,hrep,EW,seval];refine lc (fun m z M hm=>?_) (fun m M hm=>?_)
  ·have htk:(m.map ag.bool).take l.length=m.map ag.bool:=bB (by simp[hm])
   simp only[Ar,hm,htk,bT,EW,seval];exact⟨_,⟨m,true,rfl,hm⟩,rfl⟩
  ·have htk:(m.map ag.bool).take l.length=m.map ag.bool:=bB (by simp[hm])
   simp only[Ar,hm,htk,bT,EW,seval];exact⟨_,⟨m,false,rfl,hm⟩,rfl⟩
 obtain⟨_,⟨m,b,rfl,h1⟩,h3⟩:=key;exact⟨m,b,aB h3,h1⟩
section
variable {s:iQ} {a:Int} {Q:ag×aC->Prop}
def BG(c:Nat)(x:ag×List Node):Prop:=(x.1 = .slice .c0 []/\x.2=[]\/x.1=ba x.2)/\x.2.length<=c/\∀n,n∈x.2->Fe n
def BG.alX{c:Nat}{x:ag×List Node}(h:BG c x)(hc:c<=100000){n:Node}(hn:Fe n):∃m,(∀M,aR (aq cd) 177 [x.1.fV,.agg (aL n)] M=some (ba m,M))/\BG (c+1) (ba m,m):=by
 obtain⟨v,l⟩:=x;obtain⟨h1,h2,h3⟩:=h;simp only at h1 h2 h3;obtain⟨m,q,g1,g2⟩:=aqs l n aH
 have hv:v.fV=ba l:=by
  rcases h1 with ⟨rfl,rfl⟩|rfl<;>rfl
 refine⟨m,fun M=>?_,.inr rfl,by simp only; omega,fun y hy=>?_⟩
 ·simp only[hv];exact cO q M
 ·rcases g2 y hy with rfl|hy
  ·exact hn
  ·exact h3 y hy
def BG.mono{c d:Nat}{x:ag×List Node}(h:BG c x)(hd:c<=d):BG d x:=⟨h.1,aY h.2.1 hd,h.2.2⟩
def c138(s:iQ)(a:Int)(hs:Rt s.now)(hl:s.since.length=s.now.ae.length)(hp:s.eN.length<=90000)(he:∀p,p∈s.eN->Fe p.node):∃l,aq cd 138 [.agg (bL s),aF a] []=some (ba l,[])/\l.length<=90200/\∀n,n∈l->Fe n:=by
 have key:∃r:ag×aC,(∃l,r=(ba l,[])/\l.length<=90200/\∀n,n∈l->Fe n)/\eX (aq cd) MO.results 0 [] MO.body (eF 0 [.agg (bL s),aF a]) []=some r:=by
  have h200:=hs.sz.ae;simp only[MO,N2,bL,EW,seval];refine jd (xs:=s.now.ae) aH (fun m (x:ag×List Node)=>BG m x) (fun x i=>[(1,aF a),(2,cv 0),(5,x.1),(6,aF i)]) (fun _=>[cA (bL s)]) _ (fun x hI=>?_) (fun pre n post x e hx cJ hw h0 hm hI hi=>?_) (.slice .c0 [],[]) ⟨.inl ⟨rfl,rfl⟩,au _,fun n h=>by cases h⟩
  ·simp only[bL];simp only[N2,bm,EW,seval];refine jd (xs:=s.eN) aH (fun m (x:ag×List Node)=>BG (s.now.ae.length+m) x) (fun x i=>[(1,aF a),(2,cv 0),(5,x.1),(7,aF i)]) (fun _=>[cA (bL s)]) _ (fun x hI=>?_) (fun pre p post x e hx cJ hw h0 hm hI hi=>?_) x hI
   ·obtain⟨v,l⟩:=x;obtain⟨h1,h2,h3⟩:=hI;simp only at h2 h3;rcases h1 with ⟨h1,h4⟩|h1<;>simp only at h1
    ·simp only at h4;subst h1; subst h4;simp only[bL];simp only[N2,bm,EW,seval];exact⟨_,⟨[],rfl,dw,h3⟩,rfl⟩
    ·subst h1;simp only[bL];simp only[N2,bm,EW,seval];exact⟨_,⟨l,rfl,aH,h3⟩,rfl⟩
   ·have hpl:=(aj.1 hx).1;obtain⟨m,q,g⟩:=hI.alX aH (he p hm);have i1:=hi x (hI.mono aH);have i2:=hi _ g;obtain⟨v,l⟩:=x;rcases hI.1 with ⟨h3,h4⟩|h3<;>simp only at h3<;>first|(simp only at h4; subst h3; subst h4)|subst h3
    all_goals
     first
      |(change ∀M,aR (aq cd) 177 [gA [],.agg (aL p.node)] M=_ at q)
      |(change ∀M,aR (aq cd) 177 [ba l,.agg (aL p.node)] M=_ at q)
     simp only[bL,aL] at i1 i2 q ⊢;cases h1:decide (p.ki<=a)<;>cases h2:decide (a<p.BA)<;>simp only[N2,cJ,hx,hw,h0,h1,h2,q,lV,mH,aL,EW,seval]<;>first|exact i1|exact i2
  ·have hpl:=(aj.1 hx).1;have hl1:((pre.length:Int)<(s.since.length:Int))=True:=sH;obtain⟨y,hy⟩:∃y,s.since[pre.length]?=some y:=⟨_,ai aH⟩;obtain⟨m,q,g⟩:=hI.alX aH (hs.XF hm);have i1:=hi x (hI.mono aH);have i2:=hi _ g;obtain⟨v,l⟩:=x;rcases hI.1 with ⟨h3,h4⟩|h3<;>simp only at h3<;>first|(simp only at h4; subst h3; subst h4)|subst h3
   all_goals
    first
     |(change ∀M,aR (aq cd) 177 [gA [],.agg (aL n)] M=_ at q)
     |(change ∀M,aR (aq cd) 177 [ba l,.agg (aL n)] M=_ at q)
    simp only[bL,aL] at i1 i2 q ⊢;cases h1:decide (y<=a)<;>simp only[N2,cJ,hx,hw,h0,hl1,hy,h1,q,bK,aL,mS,EW,seval]<;>first|exact i1|exact i2
 obtain⟨_,⟨l,rfl,h1⟩,h3⟩:=key;exact⟨l,aB h3,h1⟩
def c84(s:iQ)(id:Int)(hs:Rt s.now)(hl:s.since.length=s.now.ae.length)(hp:s.eN.length<=90000)(he:∀p,p∈s.eN->Fe p.node)(hk:s.dV.length<=16):∃i l e,aq cd 84 [.agg (bL s),aF id] []=some (.tuple [aF i,ba l,aF e],[])/\l.length<=90200/\∀n,n∈l->Fe n:=by
 have key:∃r:ag×aC,(∃i l e,r=(.tuple [aF i,ba l,aF e],[])/\l.length<=90200/\∀n,n∈l->Fe n)/\eX (aq cd) Sf.results 0 [] Sf.body (eF 0 [.agg (bL s),aF id]) []=some r:=by
  simp only[Sf,E84,bL,EW,seval];refine jd (xs:=s.dV) aH (fun _ (_:Unit)=>True) (fun _ i=>[(1,aF id),(2,cv 0),(7,aF i)]) (fun _=>[cA (bL s)]) _ (fun _ _=>?_) (fun pre x post _ e hx cJ hw h0 hm _ hi=>?_) () trivial
  ·simp only[bL];simp only[E84,bm,EW,seval];exact⟨_,⟨0,[],100,rfl,dw,fun n h=>by cases h⟩,rfl⟩
  ·have hpl:=(aj.1 hx).1;obtain⟨l,q1,g1,g2⟩:=c138 s x.at' hs hl hp he;obtain⟨m,b,q2,g3⟩:=apW l x.ar aH (fun n hn=>(g2 n hn).1)
   have k1:=cP q1;have k2:=cP q2;have i1:=hi () trivial;have e1:((pre.length:Int)<(s.dV.length:Int))=True:=sH;simp only[bL] at i1 k1 ⊢;cases h1:x.id != id<;>simp only[E84,cJ,hx,hw,h0,h1,k1,k2,kO,iC,EW,seval]
   ·refine jd (xs:=l) aH (fun c (S:List Node)=>S.length<=c/\∀n,n∈S->n∈l) (fun S i=>[(2,cv 0),(7,aF pre.length),(8,ba l),(9,gA (m.map ag.bool)),(11,.slice (.own 1) (S.map bK)),(12,aF i)]) (fun S=>[cA (bL s),.tick 6 S.length]) _ (fun S hS=>?_) (fun pre2 n post2 S e2 hx2 hlt2 hw2 h02 hm2 hS hi2=>?_) [] ⟨au _,fun n h=>by cases h⟩
    ·simp only[bL];simp only[E84,bm,e1,hx,h0,kO,iC,EW,seval];exact⟨_,⟨_,S,0,rfl,aH,fun n hn=>g2 n (hS.2 n hn)⟩,rfl⟩
    ·have hpl2:=(aj.1 hx2).1;obtain⟨c,hc⟩:∃c,m[pre2.length]?=some c:=⟨_,ai aH⟩;have j1:=hi2 S ⟨aH,hS.2⟩
     have j2:=hi2 (S++[n]) ⟨gh,fun y hy=>by
      rcases bo.1 hy with hy|hy
      ·exact hS.2 y hy
      ·rw[bQ.1 hy]; exact hm2⟩
     have r1:cr (S.length+1) 80=True:=qI;simp only[bL,aZ,aK,aU,aA,av,az,aJ,bK,aL] at j1 j2 ⊢;cases c<;>simp only[E84,hlt2,hx2,hw2,h02,hc,r1,bK,aL,EW,seval]<;>first|exact j1|exact j2
   ·exact i1
 obtain⟨_,⟨i,l,e,rfl,h1⟩,h3⟩:=key;exact⟨i,l,e,aB h3,h1⟩
end
section
variable {f:aa} {o:jC} {l:List Node} {names:List Bytes} {Q:ag×aC->Prop}
abbrev pkC(n:Node):List ag:=[.int .i64 n.ar,.int .i64 n.kind,.int .i64 n.ep,c8 n.data,jb n.bc,.int .i64 n.up]
abbrev JG(f:aa)(o:jC)(l:List Node)(n:Node):aC:=[.cells (cf f),.cells (eT o),.cells qZ,.cells [ba l,.int .i64 0,.int .i64 0],.cells (pkC n)]
def aaj{n:Node}(hn:n.bc.length<=64){i:Nat}{w:Bytes}(hw':names[i]?=some w){k:List K}
  (hx:∀(x:Int) z,∃r,Q r/\kr (aq cd) [.dG 4 7] 0 k ⟨.exit 2,(4,cv 2)::(8,dj names)::(9,cv 3)::(10,cv 4)::(12,aF i)::(13,aF x)::z,JG f o l n⟩=some r) :
  ∃r,Q r/\eX (aq cd) [.dG 4 7] 0 k (.loop [4,8,9,10,12,13,14] agG) [(4,cv 2),(8,dj names),(9,cv 3),(10,cv 4),(12,aF i),(13,aF 0),(14,aF 0)] (JG f o l n)=some r:=by
 have b1:((i:Int)<0)=False:=dw;refine jd (xs:=n.bc) aH (fun _ _=>True) (fun(x:Int) j=>[(4,cv 2),(8,dj names),(9,cv 3),(10,cv 4),(12,aF i),(13,aF x),(14,aF j)]) (fun _=>JG f o l n) Q (fun x _=>?_) (fun pre e post x h hx' cJ hw h0 hm _ hi=>?_) 0 trivial
 ·simp only[JG,pkC,cf,eT,qZ] at hx ⊢;simp only[Kk,bm,EW,seval];exact hx x _
 ·have i1:=hi x trivial;have i2:=hi e.ar trivial;simp only[JG,pkC,cf,eT,qZ] at i1 i2 ⊢;cases h1:e.name==w<;>simp only[Kk,cJ,hx',hw,h0,hw',b1,h1,iH,fU,EW,seval]<;>first|exact i1|exact i2
def aak(hl:l.length<=100000)(he:∀n,n∈l->Fe n)(hn:names.length<=12){k:List K}
  (hx:∀(n:Node) z,Fe n->∃r,Q r/\kr (aq cd) [.dG 4 7] 0 k ⟨.exit 0,(4,cv 2)::(8,dj names)::(9,cv 3)::(10,cv 4)::z,JG f o l n⟩=some r)
  (hr:∀(a:Int) M,∃r,Q r/\kr (aq cd) [.dG 4 7] 0 k ⟨.ret,[(4,cv 2)],cA (cf f) :: cA (eT o) :: cA (cT (hZ a))::M⟩=some r) {n:Node} (hno:Fe n) :
  ∃r,Q r/\eX (aq cd) [.dG 4 7] 0 k (.loop [4,8,9,10,12] agH) [(4,cv 2),(8,dj names),(9,cv 3),(10,cv 4),(12,aF 0)] (JG f o l n)=some r:=by
 have q4:=k42;simp only[cT,hZ] at q4 hr;refine jd (xs:=names) aH (fun _ (n:Node)=>Fe n) (fun _ i=>[(4,cv 2),(8,dj names),(9,cv 3),(10,cv 4),(12,aF i)]) (fun n=>JG f o l n) Q (fun n hno=>?_) (fun pre w post n h hx' cJ hw h0 hm hno hi=>?_) n hno
 ·simp only[JG,pkC,cf,eT,qZ] at hx ⊢;simp only[Kk,bm,EW,seval];exact hx n _ hno
 ·have la:=fun {k} hx=>aaj (f:=f) (o:=o) (l:=l) (Q:=Q) hno.1 hx' (k:=k) hx
  simp only[JG,pkC,cf,eT,qZ] at la hi hr ⊢;cases h1:n.kind != 2
  ·simp only[Kk,cJ,h1,EW,seval];refine la (fun x z=>?_)
   have qg:=fun M=>A5 l 0 0 x hl M
   cases hf:find l x with
   |none =>
    rw[hf] at qg;simp only[iK,dr,bK,aL,Node.zero,aU] at qg;simp only[Kk,qg,q4,EW,seval];exact hr 70 _
   |some m =>
    rw[hf] at qg;simp only[bj,bX,bK,aL] at qg;have i1:=hi m (he m (iB hf));simp only[Kk,qg,hw,EW,seval];exact i1
  ·simp only[Kk,cJ,h1,q4,EW,seval];exact hr 73 _
def aal{n:Node}(hn:n.bc.length<=64){k:List K}
  (hx:∀(S:List Bytes) z,∃r,Q r/\kr (aq cd) [.dG 4 7] 0 k ⟨.exit 4,(4,cv 2)::(10,cv 4)::(17,.slice (.own 5) (S.map ag.str))::z,JG f o l n++[.tick 1 S.length]⟩=some r) :
  ∃r,Q r/\eX (aq cd) [.dG 4 7] 0 k (.loop [4,10,17,18] agI) [(4,cv 2),(10,cv 4),(17,.slice (.own 5) []),(18,aF 0)] (JG f o l n++[.tick 1 0])=some r:=by
 refine jd (xs:=n.bc) aH (fun m (S:List Bytes)=>S.length<=m) (fun S i=>[(4,cv 2),(10,cv 4),(17,.slice (.own 5) (S.map ag.str)),(18,aF i)]) (fun S=>JG f o l n++[.tick 1 S.length]) Q (fun S hS=>?_) (fun pre e post S h hx' cJ hw h0 hm hS hi=>?_) [] (au _)
 ·simp only[JG,pkC,cf,eT,qZ,aG,aO] at hx ⊢;simp only[Kk,bm,EW,seval];exact hx S _
 ·have hp:=(aj.1 hx').1;have i1:=hi (S++[e.name]) gh;have r1:cr (S.length+1) 16=True:=qI;simp only[JG,pkC,cf,eT,qZ,aG,aO,aZ,aK,aU,aA,av,az,aJ] at i1 ⊢;simp only[Kk,cJ,hx',hw,h0,r1,iH,fU,EW,seval];exact i1
end
def c46{K:Nat}(f:aa)(o:jC)(hf:FB K f)(hK:K<=89000)(ho:sg o):∃a,aq cd 46 [.agg (cf f),.agg (eT o)] []=some (.agg (cT a),[]):=by
 have key:∃r:ag×aC,(∃a,r=(.agg (cT a),[]))/\eX (aq cd) Lj.results 0 [] Lj.body (eF 0 [.agg (cf f),.agg (eT o)]) []=some r:=by
  obtain⟨i,l,e,qa,h1,h2⟩:=c84 f.s o.n hf.ok.rt hf.ok.len hf.ok.eN hf.ok.Ej hf.ok.dV;have q1:=cP qa;have q2:=fun M=>k85 o.dH (by have:=ho.dH; omega) M
  obtain⟨_,o2⟩:=ya o.dH;generalize pU o.dH=v at q2 o2;have q4:=k42;simp only[bL,cT,hZ] at q1 q4;cases h3:e != 0
  case true =>
   simp only[Lj,Kk,cf,eT,q1,q4,h3,EW,seval];exact⟨_,⟨hZ e,rfl⟩,rfl⟩
  cases h4:v.2 != 0
  case true =>
   simp only[Lj,Kk,cf,eT,q1,q2,q4,h3,h4,EW,seval];exact⟨_,⟨hZ v.2,rfl⟩,rfl⟩
  have qg:=fun M=>A5 l 0 0 i aH M
  have hz:Fe ((find l i).getD Node.zero):=by
   cases hf:find l i with
   |none=>exact⟨by simp[Node.zero],by simp[Node.zero]⟩
   |some m=>exact h2 m (iB hf)
  generalize (find l i).getD Node.zero=n at qg hz;have lb:=fun {k Q} hx hr=>aak (f:=f) (o:=o) (l:=l) (names:=v.1) (Q:=Q) aH h2 o2 (k:=k) hx hr hz
  simp only[JG,pkC,cf,eT,qZ,bK,aL] at lb qg;simp only[Lj,Kk,cf,eT,bK,aL,q1,q2,qg,h3,h4,EW,seval];refine lb (fun n z hn=>?_) (fun a M=>?_)
  ·have lc:=fun {k Q} hx=>aal (f:=f) (o:=o) (l:=l) (Q:=Q) hn.1 (k:=k) hx
   simp only[JG,pkC,cf,eT,qZ,aG,aO] at lc;simp only[Kk,EW,seval];refine lc (fun S z=>?_)
   obtain⟨b,qs⟩:=c75 n;have q5:=cP qs;simp only[bK,aL] at q5;simp only[Kk,q5,EW,seval];exact⟨_,⟨⟨0,n.ar,n.kind,n.ep,b,S,n.data⟩,rfl⟩,rfl⟩
  ·simp only[Kk,cT,EW,seval];exact⟨_,⟨hZ a,rfl⟩,rfl⟩
 obtain⟨_,⟨a,rfl⟩,h3⟩:=key;exact⟨a,aB h3⟩
def c28{K:Nat}(f:aa)(o:jC)(hf:FB K f)(hK:K<=89000)(ho:sg o):yp K f 28 [.agg (cf f),.agg (eT o)]:=by
 have q4:=k42;simp only[cT,hZ,dj,c8,aU] at q4;have back:FB (K+200) f:=hf.mono aH;have bad:aq cd 28 [.agg (cf f),.agg (eT o)] []=some (.tuple [.agg (cf f),.agg (cT (hZ 1))],[])->yp K f 28 [.agg (cf f),.agg (eT o)]:=fun h=>⟨f,hZ 1,h,back,DV⟩
 cases c1:decide (o.bC<0)
 case true =>
  refine bad (aB ?_);simp only[uB,EO,cf,eT,cT,hZ,dj,c8,c1,q4,EW,seval]
 cases c2:decide (16<=o.bC)
 case true =>
  refine bad (aB ?_);simp only[uB,EO,cf,eT,cT,hZ,dj,c8,c1,c2,q4,EW,seval]
 obtain⟨g1,a1,r1,f1⟩:=c43 f o hf hK ho;obtain⟨g2,a2,r2,f2⟩:=c44 f o hf hK ho;obtain⟨g3,a3,r3,f3⟩:=c45 f o hf hK ho;have q1:=cP r1;have q2:=cP r2;have q3:=cP r3;simp only[cf,eT,cT] at q1 q2 q3;have byN:aq cd 28 [.agg (cf f),.agg (eT o)] []=some (.tuple [.agg (cf g1),.agg (cT a1)],[])->yp K f 28 [.agg (cf f),.agg (eT o)]:=fun h=>⟨g1,a1,h,f1⟩
 have byW:aq cd 28 [.agg (cf f),.agg (eT o)] []=some (.tuple [.agg (cf g2),.agg (cT a2)],[])->yp K f 28 [.agg (cf f),.agg (eT o)]:=fun h=>⟨g2,a2,h,f2⟩
 have byH:aq cd 28 [.agg (cf f),.agg (eT o)] []=some (.tuple [.agg (cf g3),.agg (cT a3)],[])->yp K f 28 [.agg (cf f),.agg (eT o)]:=fun h=>⟨g3,a3,h,f3⟩
 cases k2:o.kind==2
 case true =>
  refine byN (aB ?_);simp only[uB,EO,cf,eT,cT,hZ,dj,c8,c1,c2,k2,q1,EW,seval]
 cases k3:o.kind==3
 case true =>
  refine byN (aB ?_);simp only[uB,EO,cf,eT,cT,hZ,dj,c8,c1,c2,k2,k3,q1,EW,seval]
 cases k4:o.kind==4
 case true =>
  refine byN (aB ?_);simp only[uB,EO,cf,eT,cT,hZ,dj,c8,c1,c2,k2,k3,k4,q1,EW,seval]
 cases k5:o.kind==5
 case true =>
  refine byN (aB ?_);simp only[uB,EO,cf,eT,cT,hZ,dj,c8,c1,c2,k2,k3,k4,k5,q1,EW,seval]
 cases k1:o.kind==1
 case true =>
  refine byW (aB ?_);simp only[uB,EO,cf,eT,cT,hZ,dj,c8,c1,c2,k2,k3,k4,k5,k1,q2,EW,seval]
 cases k6:o.kind==6
 case true =>
  refine byW (aB ?_);simp only[uB,EO,cf,eT,cT,hZ,dj,c8,c1,c2,k2,k3,k4,k5,k1,k6,q2,EW,seval]
 cases k7:o.kind==7
 case true =>
  refine byW (aB ?_);simp only[uB,EO,cf,eT,cT,hZ,dj,c8,c1,c2,k2,k3,k4,k5,k1,k6,k7,q2,EW,seval]
 cases k8:o.kind==8
 case true =>
  refine byW (aB ?_);simp only[uB,EO,cf,eT,cT,hZ,dj,c8,c1,c2,k2,k3,k4,k5,k1,k6,k7,k8,q2,EW,seval]
 cases k13:o.kind==13
 case true =>
  refine byW (aB ?_);simp only[uB,EO,cf,eT,cT,hZ,dj,c8,c1,c2,k2,k3,k4,k5,k1,k6,k7,k8,k13,q2,EW,seval]
 cases k14:o.kind==14
 case true =>
  refine byW (aB ?_);simp only[uB,EO,cf,eT,cT,hZ,dj,c8,c1,c2,k2,k3,k4,k5,k1,k6,k7,k8,k13,k14,q2,EW,seval]
 cases k9:o.kind==9
 case true =>
  refine byH (aB ?_);simp only[uB,EO,cf,eT,cT,hZ,dj,c8,c1,c2,k2,k3,k4,k5,k1,k6,k7,k8,k13,k14,k9,q3,EW,seval]
 cases k10:o.kind==10
 case true =>
  refine byH (aB ?_);simp only[uB,EO,cf,eT,cT,hZ,dj,c8,c1,c2,k2,k3,k4,k5,k1,k6,k7,k8,k13,k14,k9,k10,q3,EW,seval]
 cases k11:o.kind==11
 case true =>
  refine byH (aB ?_);simp only[uB,EO,cf,eT,cT,hZ,dj,c8,c1,c2,k2,k3,k4,k5,k1,k6,k7,k8,k13,k14,k9,k10,k11,q3,EW,seval]
 cases k12:o.kind==12
 case true =>
  refine byH (aB ?_);simp only[uB,EO,cf,eT,cT,hZ,dj,c8,c1,c2,k2,k3,k4,k5,k1,k6,k7,k8,k13,k14,k9,k10,k11,k12,q3,EW,seval]
 cases Qv:o.kind==15
 case true =>
  obtain⟨a,r5⟩:=c46 f o hf hK ho;have q5:=cP r5;simp only[cf,eT,cT] at q5;refine⟨f,a,aB ?_,back,DV⟩;simp only[uB,EO,cf,eT,cT,hZ,dj,c8,c1,c2,k2,k3,k4,k5,k1,k6,k7,k8,k13,k14,k9,k10,k11,k12,Qv,q5,EW,seval]
 cases k16:o.kind==16
 case true =>
  obtain⟨e,r5⟩:=c47 f.s o.n hf.ok.dV hf.ok.eN;have q5:=cP r5;simp only[bL] at q5;cases h1:e != 0
  ·obtain⟨t1,t2⟩:=hf.adE (u:=(rn f.s o.n).1) (by unfold rn; split<;>rfl) (by unfold rn; split<;>rfl) (fun p hp=>by
    unfold rn at hp;split at hp
    ·exact hp
    ·exact(eo.1 hp).1) (by unfold rn; split<;>first|exact au _|exact bU _ _) (by
    have:=hf.ok.dV;unfold rn; split<;>first|exact this|exact aY (bU _ _) this)
   refine⟨⟨(rn f.s o.n).1,f.holds,f.dW⟩,hZ 0,aB ?_,t1,t2,.inr (.inr (.inr ⟨_,trivial,rfl⟩))⟩;simp only[uB,EO,cf,eT,cT,hZ,dj,c8,c1,c2,k2,k3,k4,k5,k1,k6,k7,k8,k13,k14,k9,k10,k11,k12,Qv,k16,q5,h1,EW,seval]
  ·refine⟨f,hZ e,aB ?_,back,DV⟩;simp only[uB,EO,cf,eT,cT,hZ,dj,c8,c1,c2,k2,k3,k4,k5,k1,k6,k7,k8,k13,k14,k9,k10,k11,k12,Qv,k16,q4,q5,h1,EW,seval]
 cases k17:o.kind==17
 case true =>
  obtain⟨u,l,r5,g⟩:=c48 f.s.now f.holds o.bC hf.ok.rt hf.ok.holds hf.ok.dR;have r6:=c49 f.s u hf.ok.rt g.rt hf.ok.len hf.ok.dV hf.ok.eN;have q5:=cP r5;have q6:=cP r6;simp only[br,aM,bL] at q5 q6;refine⟨⟨qv f.s u,l,f.dW⟩,hZ 0,aB ?_,hf.put hK g.rt g.mj g.len hf.ok.dW hf.ok.sJ,fun h=>Hn g.mem (g.orp h.orp) (fun q hq=>g.dir _ (h.quo q hq)) (g.one _ h.one) (fun q hq=>by rw[g.use]; exact h.over q hq) h,.inr (.inl ⟨u,g.rt,rfl⟩)⟩
  simp only[uB,EO,cf,eT,cT,hZ,dj,c8,c1,c2,k2,k3,k4,k5,k1,k6,k7,k8,k13,k14,k9,k10,k11,k12,Qv,k16,k17,q5,q6,EW,seval]
 refine bad (aB ?_);simp only[uB,EO,cf,eT,cT,hZ,dj,c8,c1,c2,k2,k3,k4,k5,k1,k6,k7,k8,k13,k14,k9,k10,k11,k12,Qv,k16,k17,q4,EW,seval]
def k28{K:Nat}(f:aa)(o:jC)(hf:FB K f)(hK:K<=89000)(ho:sg o):∃g a,(∀M,aR (aq cd) 28 [.agg (cf f),.agg (eT o)] M=some (.tuple [.agg (cf g),.agg (cT a)],M))/\FB (K+200) g/\Kp f g:=by
 obtain⟨g,a,h,hg⟩:=c28 f o hf hK ho;exact⟨g,a,fun M=>cO h M,hg⟩
def alW(a b:Int):(a != b) = !decide (a=b):=by rw[cu]; simp
def c57(a b:List Int)(ha:a.length<=100000):aq cd 57 [tV a,tV b] []=some (.bool (decide (a=b)),[]) :=
 DA (sz:=1) (e:=mS) (ld := .rz) (ne := .bin .neq) fA rfl ha (fun _=>rfl) (fun _=>rfl) (fun _=>rfl) (fun _ _ _ _ h=>by simp only[ef,fZ.ev,h,mS,ag.cells,nth,bO]) (fun _ _ _ _ _ _ h h'=>by simp only[ef,fZ.ev,h,h',mS,pX,alW,ne_eq,mZ,aD,bO])
def k57 a b ha:=cP (c57 a b ha)
def aeT(x y:mR):kU [.i,.i,.i] (iC x) (iC y)=some (decide (x=y)):=by
 cases x; cases y;simp only[iC,Yw,gS];rw[cu];simp
def c59(a b:List mR)(ha:a.length<=100000):aq cd 59 [ke a,ke b] []=some (.bool (decide (a=b)),[]) :=
 DA (sz:=3) (e:=kO) (ld := .mL 3) (ne := .Qs [.i,.i,.i] true) fA rfl ha (fun _=>rfl) (fun _=>rfl) (fun _=>rfl) (fun _ _ _ _ h=>by simp only[ef,fZ.ev,h]; rfl) (fun _ _ _ _ _ _ h h'=>by simp only[ef,fZ.ev,h,h',kO,aeT,bO])
def k59 a b ha:=cP (c59 a b ha)
def aeS(x y:fE):kU [.i,.i,.i] (jc x) (jc y)=some (decide (x=y)):=by
 cases x; cases y;simp only[jc,Yw,gS];rw[cu];simp
def c60(a b:List fE)(ha:a.length<=100000):aq cd 60 [fI a,fI b] []=some (.bool (decide (a=b)),[]) :=
 DA (sz:=3) (e:=ig) (ld := .mL 3) (ne := .Qs [.i,.i,.i] true) fA rfl ha (fun _=>rfl) (fun _=>rfl) (fun _=>rfl) (fun _ _ _ _ h=>by simp only[ef,fZ.ev,h]; rfl) (fun _ _ _ _ _ _ h h'=>by simp only[ef,fZ.ev,h,h',ig,aeS,bO])
def k60 a b ha:=cP (c60 a b ha)
def Yx(x y:dU):kU [.i,.i,.i] (iW x) (iW y)=some (decide (x=y)):=by
 cases x; cases y;simp only[iW,Yw,gS];rw[cu];simp
def c61(a b:List dU)(ha:a.length<=100000):aq cd 61 [cQ a,cQ b] []=some (.bool (decide (a=b)),[]) :=
 DA (sz:=3) (e:=gz) (ld := .mL 3) (ne := .Qs [.i,.i,.i] true) fA rfl ha (fun _=>rfl) (fun _=>rfl) (fun _=>rfl) (fun _ _ _ _ h=>by simp only[ef,fZ.ev,h]; rfl) (fun _ _ _ _ _ _ h h'=>by simp only[ef,fZ.ev,h,h',gz,Yx,bO])
def k61 a b ha:=cP (c61 a b ha)
def ani(x y:po):decide (x=y)=(x.ki==y.ki&&(x.BA==y.BA&&decide (x.node=y.node))):=by
 cases x; cases y;simp only[po.mk.injEq];rw[cu];simp
def asY(a b:Node)(ha:Fe a)(M:aC):aR (aq cd) 56 [.agg [gA [.agg (aL a)],aF 0,aF 0],.agg [gA [.agg (aL b)],aF 0,aF 0]] M=some (.bool (decide (a=b)),M):=by
 have h:=c56 ⟨[a],0,0⟩ ⟨[b],0,0⟩ ⟨dw,fun n hn=>by rw[bQ.1 hn]; have:=ha.1; omega,fun n hn=>by rw[bQ.1 hn]; have:=ha.2; omega⟩
 have hd:decide ((⟨[a],0,0⟩:Tree)=⟨[b],0,0⟩)=decide (a=b):=by rw[cu]; simp
 rw[hd] at h;exact cO h M
def c55(x y:po)(hx:Fe x.node):aq cd 55 [.agg (mH x),.agg (mH y)] []=some (.bool (decide (x=y)),[]):=by
 rw[ani];refine aB ?_;have q:=fun M=>asY x.node y.node hx M
 simp only[aL] at q;simp only[als,E55,lV,mH,aL,EW,seval]
 repeat' ((first|apply bA|apply bW|apply dK)<;>intro hb<;>simp only[hb,EW,E55,q,seval])
 all_goals simp_all only[qx,↓reduceIte,reduceCtorEq,aw]
def k55 x y hx:=cP (c55 x y hx)
def c58(a b:List po)(ha:a.length<=100000)(he:∀n,n∈a->Fe n.node):aq cd 58 [rY a,rY b,.func 55 []] []=some (.bool (decide (a=b)),[]) :=
 ado (sz:=8) (e:=mH) (z:=[aF 0,aF 0,aF 0,aF 0,aF 0,.slice .c0 [],.slice .c0 [],aF 0]) fA rfl ha (fun _=>rfl) rfl (fun _=>rfl) (fun _=>rfl) fun x y M h=>k55 x y (he x h) M
def k58 a b ha he:=cP (c58 a b ha he)
def fsB(x y:aa):decide (x=y)=(decide (x.s.now=y.s.now)&&(x.s.tick==y.s.tick&&(x.s.next==y.s.next&&(decide (x.s.since=y.s.since)&&(decide (x.s.eN=y.s.eN)&&(decide (x.s.dV=y.s.dV)&&(decide (x.holds=y.holds)&&decide (x.dW=y.dW)))))))):=by
 obtain⟨⟨a,b,c,d,e,f⟩,g,h⟩:=x;obtain⟨⟨a',b',c',d',e',f'⟩,g',h'⟩:=y;simp only[aa.mk.injEq,iQ.mk.injEq];rw[cu];simp only[bh,bu,dZ];constructor
 ·rintro⟨⟨h1,h2,h3,h4,h5,h6⟩,h7,h8⟩; exact⟨h1,h2,h6,h3,h4,h5,h7,h8⟩
 ·rintro⟨h1,h2,h6,h3,h4,h5,h7,h8⟩; exact⟨⟨h1,h2,h3,h4,h5,h6⟩,h7,h8⟩
def c34(x y:aa)(hx:vf x):aq cd 34 [.agg (cf x),.agg (cf y)] []=some (.bool (decide (x=y)),[]):=by
 rw[fsB];refine aB ?_;have hn:=hx.rt.sz.ae;have q1:=fun M=>k56 x.s.now y.s.now hx.rt.small M
 have q2:=fun M=>k57 x.s.since y.s.since (by have:=hx.len; omega) M
 have q3:=fun M=>k58 x.s.eN y.s.eN (by have:=hx.eN; omega) (fun n hn=>hx.Ej n hn) M
 have q4:=fun M=>k59 x.s.dV y.s.dV (by have:=hx.dV; omega) M
 have q5:=fun M=>k60 x.holds y.holds (by have:=hx.dR; omega) M
 have q6:=fun M=>k61 x.dW y.dW (by have:=hx.sJ; omega) M
 simp only[alh,E34,cf,q1,q2,q3,q4,q5,q6,EW,seval]
 repeat' ((first|apply bA|apply bW|apply dK)<;>intro hb<;>simp only[hb,EW,E34,q2,q3,q4,q5,q6,seval])
 all_goals simp_all only[qx,↓reduceIte,reduceCtorEq,aw]
def c40(t:Tree)(ht:t.ae.length<=100000):aq cd 40 [br t] []=some (.agg (bL ⟨t,0,List.replicate t.ae.length 0,[],[],1⟩),[]):=by
 refine aB ?_;have r1:cr t.ae.length 8=True:=qI;have hrep:List.replicate t.ae.length (ag.agg [aF 0]).norm=(List.replicate t.ae.length (0:Int)).map mS:=by rw[gZ]; rfl
 simp only[aln,E40,br,aM,r1,hrep,EW,seval];rfl
def c27:aq cd 27 [] []=some (.agg (cf f0),[]):=by
 have q1:=k41;have q2:∀M,aR (aq cd) 40 [.agg (aM wJ)] M=some (.agg (bL f0.s),M):=fun M=>cO (c40 wJ mu) M
 simp only[br,aM,bL] at q1 q2;refine aB ?_;simp only[alb,E27,q1,q2,EW,seval];rfl
inductive Chn:Nat->aa->Prop
 |new:Chn 0 f0
 |step {K:Nat} {f g:aa}:Chn K f->FB K f->Stp (fun _=>True) f.s g.s->Chn (K+200) g
def c13(xs:List jC)(hn:xs.length<=50)(ho:∀o,o∈xs->sg o):∃f,aq cd 13 [Iq xs] []=some (.agg (cf f),[])/\FB 10000 f/\Od f/\∃K,K<=10000/\Chn K f:=by
 have key:∃r:ag×aC,(∃f,r=(.agg (cf f),[])/\FB 10000 f/\Od f/\∃K,K<=10000/\Chn K f)/\eX (aq cd) YH.results 0 [] YH.body (eF 0 [Iq xs]) []=some r:=by
  have q1:=cP c27;simp only[cf] at q1;simp only[YH,E13,q1,EVO,EW,seval]
  refine jd (xs:=xs) aH (fun m (f:aa)=>FB (200*m) f/\Od f/\Chn (200*m) f) (fun _ i=>[(0,Iq xs),(2,cv 0),(3,cv 1),(4,aF i)]) (fun f=>[.cells rh,cA (cf f)]) _ (fun f hf=>?_) (fun pre o post f e hx cJ hw h0 hm hf hi=>?_) f0 ⟨fb0,⟨fun y hy=>(by cases hy),fun n hn ho=>(by revert n; decide),fun y hy=>(by cases hy),fun d1 e1 d2 e2 x h1 h2=>(by
   have key:∀d,d∈f0.s.now.ae->d.bc=[]:=mu;rw[key d1 h1] at h2; cases h2),fun y hy=>(by cases hy),fun y hy=>(by cases hy)⟩,.new⟩
  ·simp only[cf,rh];simp only[E13,bm,EVO,EW,seval];exact⟨_,⟨f,rfl,hf.1.mono aH,hf.2.1,_,aH,hf.2.2⟩,rfl⟩
  ·have hp:=(aj.1 hx).1;obtain⟨g,a,q2,hg,hh⟩:=k28 f o hf.1 aH (ho o hm);have i1:=hi g ⟨by rw[Nat.mul_add]; exact hg,hh.1 hf.2.1,by rw[Nat.mul_add]; exact .step hf.2.2 hf.1 hh.2⟩
   simp only[cf,eT,cT,rh] at q2 i1 ⊢;simp only[E13,cJ,hx,hw,h0,q2,eT,EVO,EW,seval];exact i1
 obtain⟨_,⟨f,rfl,h1⟩,h3⟩:=key;exact⟨f,aB h3,h1⟩
end
end Go.Proofs.YteoamaffclmdbaaGreatDoor
namespace Hs
section
open Go
variable {S O A:Type} (step:S->O->S×A)
structure Call(O A:Type) where
 b:Nat
 e:Option Nat
 op:O
 ll:A
def X1(cs:List (Call O A))(done:List Nat)(i:Nat):Prop :=
 i∉done/\∀k c d,cs[k]?=some c->cs[i]?=some d->(∃e,c.e=some e/\e<d.b)->k∈done
inductive o7(cs:List (Call O A)):S->List Nat->List Nat->Prop
 |nil {s done}:(∀k c,cs[k]?=some c->c.e≠none->k∈done)->o7 cs s done []
 |cons {s done i c ord}:cs[i]?=some c->X1 cs done i->(c.e≠none->(step s c.op).2=c.ll)->o7 cs (step s c.op).1 (done++[i]) ord->o7 cs s done (i::ord)
def Fits(cs:List (Call O A))(s:S):Prop:=∃ord,o7 step cs s [] ord
theorem o7.more{cs:List (Call O A)}{c:Call O A}(hc:c.e=none):∀ {s done ord},o7 step cs s done ord->o7 step (cs++[c]) s done ord:=by
 have uh:∀(k:Nat)(x:Call O A),(cs++[c])[k]?=some x->x.e≠none->cs[k]?=some x:=by
  grind
 intro s done ord h;induction h with
 |nil h1=>exact .nil fun k x hx he=>h1 k x (uh k x hx he) he
 | @cons s done i d ord h1 h2 h3 _ ih =>
  have hi  := (aj.1 h1).1;have h1':(cs++[c])[i]?=some d:=by rw[aQ hi]; omega
  refine .cons h1' ⟨h2.1,fun k x y hx hy he=>?_⟩ h3 ih
  obtain⟨e,e1,e2⟩:=he;rw[h1'] at hy; cases hy;exact h2.2 k x d (uh k x hx (by rw[e1]; simp)) h1 ⟨e,e1,e2⟩
theorem o7.wider{cs ds:List (Call O A)}(hl:cs.length=ds.length)(hs:∀(k:Nat)(c d:Call O A),cs[k]?=some c->ds[k]?=some d->d.op=c.op/\(c.e≠none->d.ll=c.ll)/\(d.e=none↔c.e=none))
  (hw:∀(i k:Nat)(ci di:Call O A)(ck dk:Call O A),cs[i]?=some ci->ds[i]?=some di->cs[k]?=some ck->ds[k]?=some dk->(∃e,dk.e=some e/\e<di.b)->∃e,ck.e=some e/\e<ci.b) :
  ∀ {s done ord},o7 step cs s done ord->o7 step ds s done ord:=by
 have bk:∀(k:Nat)(d:Call O A),ds[k]?=some d->∃c,cs[k]?=some c:=fun k d h=>by
  have:=(aj.1 h).1;exact⟨_,ai aH⟩
 intro s done ord h;induction h with
 |nil h1 =>
  refine .nil fun k d hd he=>?_
  grind
 | @cons s done i c ord h1 h2 h3 _ ih =>
  obtain⟨d,hd⟩:∃d,ds[i]?=some d:=⟨_,ai (by have:=(aj.1 h1).1; omega)⟩
  obtain⟨s1,s2,s3⟩:=hs i c d h1 hd;rw[<-s1] at ih h3;refine .cons hd ⟨h2.1,fun k x y hx hy he=>?_⟩ (fun he=>by have hc:=fun h=>he (s3.2 h); rw[s2 hc]; exact h3 hc) ih
  rw[hd] at hy; cases hy;obtain⟨ck,hck⟩:=bk k x hx;exact h2.2 k _ c hck h1 (hw i k c d ck x h1 hd hck hx he)
end
section
open Go
variable {S O A:Type} (step:S->O->S×A)
inductive vg(cs:List (Call O A)):S->List Nat->List Nat->S->Prop
 |nil {s done}:vg cs s done [] s
 |cons {s s' done i c ord}:cs[i]?=some c->X1 cs done i->(step s c.op).2=c.ll->vg cs (step s c.op).1 (done++[i]) ord s'->vg cs s done (i::ord) s'
variable {step}
def vg.snoc{cs:List (Call O A)}:∀ {s done ord s'},vg step cs s done ord s'->∀ {i:Nat} {c:Call O A},cs[i]?=some c->X1 cs (done++ord) i->(step s' c.op).2=c.ll->vg step cs s done (ord++[i]) (step s' c.op).1:=by
 intro s done ord s' h;induction h with
 |nil=>intro i c h1 h2 h3; rw[db] at h2; exact .cons h1 h2 h3 .nil
 |cons a1 a2 a3 _ ih =>
  intro i c h1 h2 h3;exact .cons a1 a2 a3 (ih h1 (by rwa[bV]) h3)
def vg.to{cs ds:List (Call O A)}:∀ {s done ord s'},vg step cs s done ord s' ->
  (∀i,i∈ord->∀c,cs[i]?=some c->∃d,ds[i]?=some d/\d.op=c.op/\d.ll=c.ll/\∀(k:Nat)(dk:Call O A),ds[k]?=some dk->(∃e,dk.e=some e/\e<d.b)->∃ck,cs[k]?=some ck/\∃e,ck.e=some e/\e<c.b) ->
  vg step ds s done ord s':=by
 intro s done ord s' h;induction h with
 |nil=>exact fun _ => .nil
 | @cons s s' done i c ord a1 a2 a3 _ ih =>
  intro hx;obtain⟨d,d1,d2,d3,d4⟩:=hx i bD c a1;have ih:=ih fun j hj=>hx j (bw _ hj)
  rw[<-d2] at ih a3;refine .cons d1 ⟨a2.1,fun k x y hkx hky he=>?_⟩ (by rw[d3]; omega) ih
  rw[d1] at hky; cases hky;obtain⟨ck,c1,c2⟩:=d4 k x hkx he;exact a2.2 k _ c c1 a1 c2
def vg.runs{cs:List (Call O A)}:∀ {s done ord s'},vg step cs s done ord s'->(∀k c,cs[k]?=some c->c.e≠none->k∈done++ord)->o7 step cs s done ord:=by
 intro s done ord s' h;induction h with
 |nil=>exact fun hx => .nil fun k c hk he=>j6
 |cons a1 a2 a3 _ ih=>exact fun hx => .cons a1 a2 (fun _=>a3) (ih fun k c hk he=>j6)
structure yI(step:S->O->S×A)(s0:S)(cs:List (Call O A))(ord:List Nat)(s:S)(n:Nat):Prop where
 chain:vg step cs s0 [] ord s
 mj:cs.Pairwise fun a b=>a.b<b.b
 bn:∀c,c∈cs->c.b<n
 en:∀c,c∈cs->∀e,c.e=some e->e<n
 dn:∀(k:Nat)(c:Call O A),cs[k]?=some c->c.e≠none->k∈ord
 lt:∀k,k∈ord->k<cs.length
def yI.new(s0:S):yI step s0 [] [] s0 0:=⟨.nil,.nil,dw,dw,dw,dw⟩
def yI.fits{s0 s:S}{cs:List (Call O A)}{ord:List Nat}{n:Nat}(h:yI step s0 cs ord s n):Fits step cs s0:=⟨ord,h.chain.runs fun k c hk he=>by simpa using h.dn k c hk he⟩
theorem yI.begin{s0 s:S}{cs:List (Call O A)}{ord:List Nat}{n:Nat}(h:yI step s0 cs ord s n)(o:O)(a:A):yI step s0 (cs++[⟨n,none,o,a⟩]) ord s (n+1):=by
 have uh:∀(k:Nat)(x:Call O A),(cs++[⟨n,none,o,a⟩])[k]?=some x->cs[k]?=some x\/x.e=none:=fun k x hx=>by
  grind
 refine⟨h.chain.to fun i hi c hc=>⟨c,?_,rfl,rfl,fun k dk hk he=>?_⟩,?_,?_,?_,?_,?_⟩
 ·rw[aQ (h.lt i hi)]; omega
 ·grind
 ·refine fu.2 ⟨h.mj,List.pairwise_singleton _ _,fun x hx y hy=>?_⟩
  rw[bQ.1 hy]; exact h.bn x hx
 ·intro c hc;rcases bo.1 hc with hc|hc
  ·have:=h.bn c hc; omega
  grind
 ·intro c hc e he;rcases bo.1 hc with hc|hc
  ·have:=h.en c hc e he; omega
  grind
 ·intro k c hk he;rcases uh k c hk with h1|h1
  ·exact h.dn k c h1 he
  grind
 ·intro k hk; have:=h.lt k hk; grind
theorem yI.aeQ{s0 s:S}{cs:List (Call O A)}{ord:List Nat}{n:Nat}(h:yI step s0 cs ord s n){i:Nat}{c:Call O A}(hi:cs[i]?=some c)(hno:i∉ord)(he:c.e=none) :
  yI step s0 (cs.set i { c with ll:=(step s c.op).2 }) (ord++[i]) (step s c.op).1 n:=by
 have hil:i<cs.length:=(aj.1 hi).1
 have hat:∀(k:Nat)(x:Call O A),(cs.set i { c with ll:=(step s c.op).2 })[k]?=some x->∃y,cs[k]?=some y/\x.b=y.b/\x.e=y.e:=fun k x hx=>by
  rw[fL] at hx
  grind
 have hmem:∀x,x∈cs.set i { c with ll:=(step s c.op).2 }->∃y,y∈cs/\x.b=y.b/\x.e=y.e:=fun x hx=>by
  grind
 have hd:(cs.set i { c with ll:=(step s c.op).2 })[i]?=some { c with ll:=(step s c.op).2 }:=by rw[fa hil]
 have h1:vg step (cs.set i { c with ll:=(step s c.op).2 }) s0 [] ord s:=h.chain.to fun j hj x hx=>by
  have hji:i≠j:=fun e=>hno (e▸hj)
  refine⟨x,by rw[fc hji]; exact hx,rfl,rfl,fun k dk hk he=>?_⟩
  grind
 have h2:=h1.snoc hd ⟨j6,fun k x y hx _ he=>?_⟩ rfl
 ·refine⟨h2,?_,?_,?_,?_,?_⟩
  ·have ha:=h.mj;rw[cm] at ha ⊢
   grind
  ·intro x hx;obtain⟨y,y1,y2,_⟩:=hmem x hx;rw[y2]; exact h.bn y y1
  ·intro x hx e hxe;obtain⟨y,y1,_,y2⟩:=hmem x hx;exact h.en y y1 e (by rw[<-y2]; exact hxe)
  ·intro k x hx hxe;obtain⟨y,y1,_,y2⟩:=hat k x hx;exact eH _ (h.dn k y y1 (by rw[<-y2]; exact hxe))
  ·intro k hk;rw[dL];rcases bo.1 hk with hk|hk
   ·exact h.lt k hk
   grind
 ·obtain⟨e,e1,_⟩:=he;obtain⟨z,z1,_,z2⟩:=hat k x hx;simpa using h.dn k z z1 (by rw[<-z2,e1]; simp)
theorem yI.ends{s0 s:S}{cs:List (Call O A)}{ord:List Nat}{n:Nat}(h:yI step s0 cs ord s n){i:Nat}{c:Call O A}(hi:cs[i]?=some c)(hd:i∈ord) :
  yI step s0 (cs.set i { c with e:=some n }) ord s (n+1):=by
 have hil:i<cs.length:=(aj.1 hi).1
 have hat:∀(k:Nat)(x:Call O A),(cs.set i { c with e:=some n })[k]?=some x->∃y,cs[k]?=some y/\x.b=y.b/\x.op=y.op/\x.ll=y.ll/\(x.e=y.e\/(k=i/\x.e=some n)):=fun k x hx=>by
  rw[fL] at hx
  grind
 have hmem:∀x,x∈cs.set i { c with e:=some n }->∃y,y∈cs/\x.b=y.b/\(x.e=y.e\/x.e=some n):=fun x hx=>by
  grind
 refine⟨h.chain.to fun j hj x hx=>?_,?_,?_,?_,?_,?_⟩
 ·obtain⟨d,hd1⟩:∃d,(cs.set i { c with e:=some n })[j]?=some d:=⟨_,ai (by rw[dL]; exact h.lt j hj)⟩
  obtain⟨y,y1,y2,y3,y4,_⟩:=hat j d hd1;rw[hx] at y1; cases y1;refine⟨d,hd1,y3,y4,fun k dk hk he=>?_⟩
  obtain⟨z,z1,_,_,_,z5⟩:=hat k dk hk;obtain⟨e,e1,e2⟩:=he;rcases z5 with z5|⟨_,z5⟩
  ·grind
  ·rw[z5] at e1; injection e1 with e1
   have:=h.bn x (aI hx);omega
 ·have ha:=h.mj;rw[cm] at ha ⊢
  grind
 ·intro x hx;obtain⟨y,y1,y2,_⟩:=hmem x hx;have:=h.bn y y1;omega
 ·intro x hx e hxe;obtain⟨y,y1,_,y3⟩:=hmem x hx;rcases y3 with y3|y3
  ·have:=h.en y y1 e (by rw[<-y3]; exact hxe); omega
  grind
 ·intro k x hx hxe;obtain⟨y,y1,_,_,_,y3⟩:=hat k x hx;rcases y3 with y3|⟨rfl,_⟩
  ·exact h.dn k y y1 (by rw[<-y3]; exact hxe)
  ·exact hd
 ·intro k hk; rw[dL]; exact h.lt k hk
end
end Hs
set_option linter.unusedSectionVars false
namespace Hs
open Go
variable {S O A:Type} {step:S->O->S×A}
def X1.congr{cs:List (Call O A)}{d1 d2:List Nat}(h:∀k,k∈d1↔k∈d2){i:Nat}(g:X1 cs d1 i):X1 cs d2 i:=⟨fun hi=>g.1 ((h i).2 hi),fun k c d hc hd he=>(h k).1 (g.2 k c d hc hd he)⟩
def o7.congr{cs:List (Call O A)}:∀ {s d1 ord},o7 step cs s d1 ord->∀ {d2:List Nat},(∀k,k∈d1↔k∈d2)->o7 step cs s d2 ord:=by
 intro s d1 ord g;induction g with
 |nil h1=>intro d2 h; exact .nil fun k c hk he=>(h k).1 (h1 k c hk he)
 |cons h1 h2 h3 _ ih=>intro d2 h; exact .cons h1 (h2.congr h) h3 (ih fun k=>j6)
section
variable [DecidableEq S] [DecidableEq A]
def lK(cs:List (Call O A))(k i:Nat):Bool:=match cs[k]?,cs[i]? with
 |some c,some d=>match c.e with
  |some e=>decide (e<d.b)
  |none=>false
 |_,_=>false
def D3(cs:List (Call O A))(done:List Nat)(i:Nat):Bool := !done.contains i&&(List.range cs.length).all fun k => !lK cs k i||done.contains k
def Ku(step:S->O->S×A)(s:S)(c:Call O A):Bool:=c.e.isNone||decide ((step s c.op).2=c.ll)
def BE(cs:List (Call O A))(done:List Nat):Bool:=(List.range cs.length).all fun k=>match cs[k]? with
 |some c=>c.e.isNone||done.contains k
 |none=>true
theorem Jo{cs:List (Call O A)}{done:List Nat}{i:Nat}(hi:i<cs.length):D3 cs done i=true↔X1 cs done i:=by
 unfold D3 X1;simp only[bu,gN,bM,gj,cU];constructor
 ·grind [List.contains_iff_mem,List.getElem?_eq_some_iff,lK]
 ·rintro⟨h1,h2⟩;refine⟨j6,fun k hk=>?_⟩
  cases ha:lK cs k i
  ·exact .inl rfl
  grind [List.contains_iff_mem,List.getElem?_eq_getElem,lK]
theorem EI{cs:List (Call O A)}{done:List Nat}:BE cs done=true↔∀(k:Nat)(c:Call O A),cs[k]?=some c->c.e≠none->k∈done:=by
 unfold BE;simp;constructor
 ·intro h k c hk he;have:=h k (aj.1 hk).1;simp_all
 grind
abbrev uA(S:Type):=List (Nat×S)
def IY(step:S->O->S×A)(cs:List (Call O A))(T:S->List Nat->uA S->Option (List Nat)×uA S)(s:S)(done:List Nat):List Nat->uA S->Option (List Nat)×uA S
 | [],lost=>(none,lost)
 |i::r,lost=>match cs[i]? with
  |none=>IY step cs T s done r lost
  |some c=>if D3 cs done i&&Ku step s c then
    match T (step s c.op).1 (done++[i]) lost with
    |(some o,l)=>(some (i::o),l)
    |(none,l)=>IY step cs T s done r l
   else IY step cs T s done r lost
def wL(step:S->O->S×A)(key:List Nat->Nat)(cs:List (Call O A)):Nat->S->List Nat->uA S->Option (List Nat)×uA S
 |0,_,_,lost=>(none,lost)
 |f+1,s,done,lost =>
  if BE cs done then (some [],lost)
  else if lost.any (fun p=>p.1==key done&&decide (p.2=s))=true then (none,lost)
  else match IY step cs (wL step key cs f) s done (List.range cs.length) lost with
   |(some o,l)=>(some o,l)
   |(none,l)=>(none,l++[(key done,s)])
def CZ(step:S->O->S×A)(key:List Nat->Nat)(cs:List (Call O A))(lost:uA S):Prop:=∀p,p∈lost->∀done,key done=p.1->¬ ∃ord,o7 step cs p.2 done ord
def ait(step:S->O->S×A)(key:List Nat->Nat)(cs:List (Call O A))(s:S)(done:List Nat)(r:Option (List Nat)×uA S):Prop :=
 CZ step key cs r.2/\match r.1 with
  |some ord=>o7 step cs s done ord
  |none=>¬ ∃ord,o7 step cs s done ord
structure Good(cs:List (Call O A))(done:List Nat):Prop where
 nodup:done.Nodup
 lt:∀k,k∈done->k<cs.length
theorem Good.len{cs:List (Call O A)}{done:List Nat}(h:Good cs done):done.length<=cs.length:=by
 have key:∀(n:Nat)(l:List _),l.Nodup->(∀k,k∈l->k<n)->l.length<=n:=by
  intro n;induction n with
  |zero =>
   intro l _ hl;cases l with
   |nil=>simp
   |cons a r=>exact absurd (hl a bD) (jI _)
  |succ n ih =>
   intro l hd hl
   have:=ih _ (hd.erase n) fun k hk=>by
    grind
   rw[List.length_erase] at this;split at this<;>omega
 exact key _ _ h.nodup h.lt
def HV{s:S}{c:Call O A}:Ku step s c=true↔(c.e≠none->(step s c.op).2=c.ll):=by
 unfold Ku;cases hc:c.e<;>simp
theorem CJ{key:List Nat->Nat}{cs:List (Call O A)}{T:S->List Nat->uA S->Option (List Nat)×uA S}{s:S}{done:List Nat}
  (hT:∀i c lost,cs[i]?=some c->i∉done->CZ step key cs lost->ait step key cs (step s c.op).1 (done++[i]) (T (step s c.op).1 (done++[i]) lost)) :
  ∀(is:List Nat)(lost:uA S),CZ step key cs lost->CZ step key cs (IY step cs T s done is lost).2/\match (IY step cs T s done is lost).1 with
   |some ord=>∃i r,ord=i::r/\i∈is/\o7 step cs s done ord
   |none=>∀i c r,i∈is->cs[i]?=some c->X1 cs done i->(c.e≠none->(step s c.op).2=c.ll)->¬o7 step cs (step s c.op).1 (done++[i]) r
 | [],lost,h=>⟨h,by simp[IY]⟩
 |i::is,lost,h=>by
  rw[IY];cases hc:cs[i]? with
  |none =>
   obtain⟨g1,g2⟩:=CJ hT is lost h
   grind
  |some c =>
   have hil:i<cs.length:=(aj.1 hc).1;simp only
   by_cases hm:(D3 cs done i&&Ku step s c)=true
   ·rw[aW hm];simp only[bu] at hm;have hm1:=(Jo hil).1 hm.1;have hm2:=HV.1 hm.2;obtain⟨t1,t2⟩:=hT i c lost hc hm1.1 h;generalize T (step s c.op).1 (done++[i]) lost=t at t1 t2;obtain⟨o,l⟩:=t;cases o with
    |some o=>exact⟨t1,i,o,rfl,bD,.cons hc hm1 hm2 t2⟩
    |none =>
     simp only at t1 t2 ⊢;obtain⟨g1,g2⟩:=CJ hT is l t1;refine⟨g1,?_⟩;split
     ·grind
     grind
   ·rw[aP hm];obtain⟨g1,g2⟩:=CJ hT is lost h;refine⟨g1,?_⟩;split
    ·grind
    ·rename_i ho;rw[ho] at g2;intro j d r hj hdj;rcases bJ.1 hj with rfl|hj
     ·rw[hc] at hdj; cases hdj;exact fun h1 h2 _=>hm (by rw[(Jo hil).2 h1,HV.2 h2]; rfl)
     ·exact g2 j d r hj hdj
theorem J5{key:List Nat->Nat}(hkey:∀a b,key a=key b->∀k,k∈a↔k∈b){cs:List (Call O A)}:∀(f:Nat)(s:S)(done:List Nat)(lost:uA S),Good cs done->cs.length<done.length+f->CZ step key cs lost->ait step key cs s done (wL step key cs f s done lost)
 |0,s,done,lost,hg,hf,_=>by have:=hg.len; omega
 |f+1,s,done,lost,hg,hf,hl=>by
  rw[wL];split
  ·rename_i hw;exact⟨hl,.nil (EI.1 hw)⟩
  rename_i hw;split
  ·rename_i ha;obtain⟨p,p1,p2⟩:=iJ.1 ha;simp only[bu,dZ,bh] at p2;refine⟨hl,?_⟩;have:=hl p p1 done p2.1.symm;rw[p2.2] at this;omega
  have hgo:=CJ (step:=step) (key:=key) (cs:=cs) (T:=wL step key cs f) (s:=s) (done:=done) (fun i c lost' hc hi hl'=>by
   refine J5 hkey f _ _ lost' ⟨?_,fun k hk=>?_⟩ gh hl'
   ·refine kX.2 ⟨hg.nodup,dw,fun a ha b hb=>?_⟩
    rw[bQ.1 hb]
    grind
   ·rcases bo.1 hk with hk|hk
    ·exact hg.lt k hk
    grind) (List.range cs.length) lost hl
  obtain⟨g1,g2⟩:=hgo;generalize IY step cs (wL step key cs f) s done (List.range cs.length) lost=r at g1 g2;obtain⟨o,l⟩:=r;cases o with
  |some o =>
   obtain⟨i,r,e1,e2,e3⟩:=g2;exact⟨g1,e3⟩
  |none =>
   simp only at g1 g2 ⊢
   have hno:¬ ∃ord,o7 step cs s done ord:=by
    rintro⟨ord,ho⟩;cases ho<;>grind [EI]
   refine⟨fun p hp d hd=>?_,hno⟩
   rcases bo.1 hp with hp|hp
   ·exact g1 p hp d hd
   ·rw[bQ.1 hp] at hd ⊢;rintro⟨ord,ho⟩;exact hno ⟨ord,ho.congr (hkey _ _ hd)⟩
end
end Hs
set_option linter.unusedSectionVars false
namespace Hs
open Go
variable {S O A:Type} {step:S->O->S×A}
theorem o7.new{cs:List (Call O A)}:∀ {s done ord},o7 step cs s done ord->∀i,i∈ord->i∉done:=by
 intro s done ord h;induction h with
 |nil=>simp
 |cons h1 h2 _ _ ih =>
  intro j hj;rcases bJ.1 hj with rfl|hj
  ·exact h2.1
  grind
def o7.nodup{cs:List (Call O A)}:∀ {s done ord},o7 step cs s done ord->ord.Nodup:=by
 intro s done ord h;induction h with
 |nil=>simp
 |cons _ _ _ h4 ih=>exact oE.2 ⟨fun hi=>h4.new _ hi dw,ih⟩
theorem o7.lt{cs:List (Call O A)}:∀ {s done ord},o7 step cs s done ord->∀i,i∈ord->i<cs.length:=by
 intro s done ord h;induction h<;>grind
theorem o7.back{cs:List (Call O A)}:∀ {s done ord},o7 step cs s done ord->∀pre i post,ord=pre++i::post->∀k,k∈pre->∀ci ck,cs[i]?=some ci->cs[k]?=some ck->¬ ∃e,ci.e=some e/\e<ck.b:=by
 intro s done ord h;induction h with
 |nil=>simp
 | @cons s done j c ord h1 h2 h3 h4 ih =>
  intro pre i post e k hk ci ck hi hck he;cases pre with
  |nil=>cases hk
  |cons p pre =>
   simp only[aG] at e;obtain⟨rfl,rfl⟩:=e;rcases bJ.1 hk with rfl|hk
   ·have:=h2.2 i ci ck hi hck he;exact h4.new i dw (eH _ this)
   grind
theorem o7.all{cs:List (Call O A)}:∀ {s done ord},o7 step cs s done ord->∀(k:Nat)(c:Call O A),cs[k]?=some c->c.e≠none->k∈done\/k∈ord:=by
 intro s done ord h;induction h<;>grind
end Hs
set_option linter.unusedSectionVars false
namespace Hs
open Go
variable {S O A:Type} {step:S->O->S×A}
structure Ev(O A:Type) where
 begin:Bool
 cl:Nat
 op:O
 ll:A
structure Cl(O A:Type) where
 n:Nat
 cs:List (Call O A)
 last:Nat->Nat
def kN(t:Cl O A)(x:Ev O A):Cl O A :=
 if x.begin then ⟨t.n+1,t.cs++[⟨t.n,none,x.op,x.ll⟩],fun c=>if c=x.cl then t.cs.length else t.last c⟩
 else ⟨t.n+1,t.cs.modify (t.last x.cl) fun c=>{ c with e:=some t.n,ll:=x.ll },t.last⟩
def iE(l:List (Ev O A)):Cl O A:=l.foldl kN ⟨0,[],fun _=>0⟩
def kK(l:List (Ev O A))(x:Ev O A):iE (l++[x])=kN (iE l) x:=by simp[iE]
structure Rn(S O A:Type) where
 out:List (Ev O A)
 s:S
 st:Nat->Nat
 op:Nat->O
 ll:Nat->A
structure Of(cs ds:List (Call O A)):Prop where
 len:ds.length=cs.length
 at':∀(k:Nat)(c d:Call O A),cs[k]?=some c->ds[k]?=some d->d.b=c.b/\d.e=c.e/\d.op=c.op/\(c.e≠none->d.ll=c.ll)
structure tM(step:S->O->S×A)(s0:S)(r:Rn S O A):Prop where
 ex:∃ds ord,yI step s0 ds ord r.s (iE r.out).n/\Of (iE r.out).cs ds /\
  (∀c,r.st c=1->∃d,ds[(iE r.out).last c]?=some d/\d.e=none/\(iE r.out).last c∉ord/\d.op=r.op c) /\
  (∀c,r.st c=2->∃d,ds[(iE r.out).last c]?=some d/\d.e=none/\(iE r.out).last c∈ord/\d.ll=r.ll c)
 dis:∀c c',c≠c'->(r.st c=1\/r.st c=2)->(r.st c'=1\/r.st c'=2)->(iE r.out).last c≠(iE r.out).last c'
def tM.new(s0:S)(op:Nat->O)(ll:Nat->A):tM step s0 ⟨[],s0,fun _=>0,op,ll⟩ :=
 ⟨⟨[],[],yI.new _,⟨rfl,dw⟩,dw,dw⟩,dw⟩
theorem tM.fits{s0:S}{r:Rn S O A}(h:tM step s0 r):Fits step (iE r.out).cs s0:=by
 obtain⟨ds,ord,h1,h2,_⟩:=h.ex;obtain⟨o,ho⟩:=h1.fits;refine⟨o,o7.wider _ h2.len (fun k d c hd hc=>?_) (fun i k ci di ck dk hci hdi hck hdk he=>?_) ho⟩
 ·obtain⟨_,g2,g3,g4⟩:=h2.at' k c d hc hd
  grind
 ·obtain⟨g1,_⟩:=h2.at' i _ ci hdi hci;obtain⟨_,k2,_⟩:=h2.at' k _ ck hdk hck;rw[g1,k2]; omega
theorem tM.begin{s0:S}{r:Rn S O A}(h:tM step s0 r){c:Nat}(_hc:r.st c=0)(o:O)(a:A):tM step s0 ⟨r.out++[⟨true,c,o,a⟩],r.s,fun x=>if x=c then 1 else r.st x,fun x=>if x=c then o else r.op x,r.ll⟩:=by
 obtain⟨ds,ord,h1,h2,h3,h4⟩:=h.ex;have dR:=h2.len;refine⟨⟨ds++[⟨(iE r.out).n,none,o,a⟩],ord,?_,⟨?_,fun k x y hx hy=>?_⟩,fun x hx=>?_,fun x hx=>?_⟩,fun x y hxy hx hy=>?_⟩
 ·simp only[kK,kN,aE]; exact h1.begin o a
 ·simp_all [kK,kN]
 ·simp only[kK,kN,aE] at hx;rcases bE k (iE r.out).cs.length with hk|hk
  ·rw[aQ hk] at hx;rw[aQ aH] at hy;exact h2.at' k x y hx hy
  grind
 ·simp only[kK,kN,aE] at hx ⊢
  by_cases hxc:x=c
  ·rw[aW hxc,aW hxc];refine⟨⟨(iE r.out).n,none,o,a⟩,by rw[<-dR]; simp,rfl,fun hm=>?_,rfl⟩
   have:=h1.lt _ hm; omega
  grind
 ·simp only[kK,kN,aE] at hx ⊢
  grind
 ·simp only[kK,kN,aE] at hx hy ⊢
  have lt:∀z,z≠c->((if z=c then 1 else r.st z)=1\/(if z=c then 1 else r.st z)=2)->(iE r.out).last z<(iE r.out).cs.length:=fun z hz hzz=>by
   rw[aP hz] at hzz
   grind
  by_cases hxc:x=c
  ·have hyc:y≠c:=fun e=>hxy (hxc.trans e.symm)
   rw[aW hxc,aP hyc];have:=lt y hyc hy; omega
  ·by_cases hyc:y=c
   ·rw[aP hxc,aW hyc];have:=lt x hxc hx; omega
   ·rw[aP hxc] at hx;rw[aP hyc] at hy;rw[aP hxc,aP hyc];exact h.dis x y hxy hx hy
theorem tM.aeQ{s0:S}{r:Rn S O A}(h:tM step s0 r){c:Nat}(hc:r.st c=1):tM step s0 ⟨r.out,(step r.s (r.op c)).1,fun x=>if x=c then 2 else r.st x,r.op,fun x=>if x=c then (step r.s (r.op c)).2 else r.ll x⟩:=by
 obtain⟨ds,ord,h1,h2,h3,h4⟩:=h.ex;obtain⟨d,d1,d2,d3,d4⟩:=h3 c hc;have g:=h1.aeQ d1 d3 d2;rw[d4] at g;have hil:=(aj.1 d1).1;have hne  := fun x hx hs=>h.dis c x (eY hx) (.inl hc) hs
 refine⟨⟨_,_,g,⟨by rw[dL]; exact h2.len,fun k x y hx hy=>?_⟩,fun x hx=>?_,fun x hx=>?_⟩,fun x y hxy hx hy=>h.dis x y hxy ?_ ?_⟩
 ·rw[fL] at hy;split at hy
  ·rename_i hk;subst hk;cases hy;obtain⟨e1,e2,e3,e4⟩:=h2.at' _ x d hx d1
   grind
  ·exact h2.at' k x y hx hy
 ·grind
 ·grind
 ·grind
 grind
theorem tM.ends{s0:S}{r:Rn S O A}(h:tM step s0 r){c:Nat}(hc:r.st c=2)(o:O):tM step s0 ⟨r.out++[⟨false,c,o,r.ll c⟩],r.s,fun x=>if x=c then 0 else r.st x,r.op,r.ll⟩:=by
 obtain⟨ds,ord,h1,h2,h3,h4⟩:=h.ex;obtain⟨d,d1,d2,d3,d4⟩:=h4 c hc;have g:=h1.ends d1 d3;have hil:=(aj.1 d1).1;have hne  := fun x hx hs=>h.dis c x (eY hx) (.inr hc) hs
 refine⟨⟨ds.set ((iE r.out).last c) { d with e:=some (iE r.out).n },ord,?_,⟨?_,fun k x y hx hy=>?_⟩,fun x hx=>?_,fun x hx=>?_⟩,fun x y hxy hx hy=>?_⟩
 ·simp_all [kK,kN,af]
 ·simp only[kK,kN,af,aD]; rw[dL,List.length_modify]; exact h2.len
 ·simp only[kK,kN,af,aD] at hx;rw[ib] at hx;rw[fL] at hy;obtain⟨z,hz,rfl⟩:=aV.1 hx;split at hy
  ·rename_i hk;subst hk;cases hy;obtain⟨e1,e2,e3,e4⟩:=h2.at' _ z d hz d1;rw[aW rfl]
   grind
  ·rename_i hk;rw[aP hk];exact h2.at' k z y hz hy
 ·simp only[kK,kN,af,aD] at hx ⊢
  grind
 ·simp only[kK,kN,af,aD] at hx ⊢
  grind
 ·simp only[kK,kN,af,aD] at hx hy ⊢
  by_cases hxc:x=c
  ·rw[aW hxc] at hx; omega
  by_cases hyc:y=c
  ·rw[aW hyc] at hy; omega
  rw[aP hxc] at hx;rw[aP hyc] at hy;exact h.dis x y hxy hx hy
end Hs
namespace Go.Proofs.YteoamaffclmdbaaGreatDoor
open Go Go.Abs
structure nr where
 kind:Int
 bC:Int
 op:jC
 ll:vN
 deriving DecidableEq,Inhabited
structure wU where
 bC:UInt8
 op:jC
def nA(e:nr):List ag:=[.int .i64 e.kind,.int .i64 e.bC,.int .i64 e.op.kind,.int .i64 e.op.bC,.str e.op.dH,.str e.op.u9,.int .i64 e.op.n,.int .i64 e.op.m,.int .i64 e.op.handle,c8 e.op.data,.int .i64 e.ll.err,.int .i64 e.ll.ar,.int .i64 e.ll.kind,.int .i64 e.ll.n,.int .i64 e.ll.m,dj e.ll.names,c8 e.ll.data]
def zC(e:nr):ag := .agg (nA e)
abbrev qR(l:List nr):ag := .slice .sh (l.map zC)
def uI(t:wU):List ag:=[qW t.bC,.int .i64 t.op.kind,.int .i64 t.op.bC,.str t.op.dH,.str t.op.u9,.int .i64 t.op.n,.int .i64 t.op.m,.int .i64 t.op.handle,c8 t.op.data]
def Rr(t:wU):ag := .agg (uI t)
abbrev BR(l:List wU):ag := .slice .sh (l.map Rr)
def KJ(n:nr):(zC n).cells=nA n:=rfl
def Pr(n:nr):(nA n).length=17:=rfl
def Xv(l:List nr):wid (l.map zC) 17=True:=pk zC _ (fun _=>rfl) l
def atT(n:nr):List.take 17 (nA n)=nA n:=rfl
def atQ(n:nr):List.map ag.shut (nA n)=nA n:=rfl
def KK(n:wU):(Rr n).cells=uI n:=rfl
def Ps(n:wU):(uI n).length=9:=rfl
def Xx(l:List wU):wid (l.map Rr) 9=True:=pk Rr _ (fun _=>rfl) l
def atU(n:wU):List.take 9 (uI n)=uI n:=rfl
def atS(n:wU):List.map ag.shut (uI n)=uI n:=rfl
set_option linter.defProp false in
def yn:=bR @KJ (bR @Pr (bR @Xv (bR @atT (bR @atQ (bR @KK (bR @Ps (bR @Xx (bR @atU (bR @atS (bR @Fp (bR @Ji (bR @NX (bR @tkO (@shO))))))))))))))
def abx(x y:vN):decide (x=y)=(x.err==y.err&&(x.ar==y.ar&&(x.kind==y.kind&&(x.n==y.n&&(x.m==y.m&&(decide (x.names=y.names)&&decide (x.data=y.data))))))):=by
 cases x; cases y;rw[cu];simp only[vN.mk.injEq,bh,bu,dZ]
section
attribute [local irreducible] eX fJ lj gK dY kr aq aR cp bI
def c62(a b:List Bytes)(ha:a.length<=100000):aq cd 62 [dj a,dj b] []=some (.bool (decide (a=b)),[]) :=
 DA (sz:=1) (e:=ag.str) (ld := .rz) (ne := .bin .neq) fA rfl ha (fun _=>rfl) (fun _=>rfl) (fun _=>rfl) (fun _ _ _ _ h=>by simp only[ef,fZ.ev,h,ag.cells,nth,bO]) (fun _ _ _ _ x y h h'=>by
  have:(x != y) = !decide (x=y):=by rw[cu]; simp
  simp only[ef,fZ.ev,h,h',pX,this,bO])
def c63(a b:Bytes)(ha:a.length<=100000):aq cd 63 [c8 a,c8 b] []=some (.bool (decide (a=b)),[]) :=
 DA (sz:=1) (e:=qW) (ld := .rz) (ne := .bin .neq) fA rfl ha (fun _=>rfl) (fun _=>rfl) (fun _=>rfl) (fun _ _ _ _ h=>by simp only[ef,fZ.ev,h,qW,ag.cells,nth,bO]) (fun _ _ _ _ x y h h'=>by
  have:((x.toNat:Int) != (y.toNat:Int)) = !decide (x=y):=by rw[cu]; simp only[nv,ne_eq,gN,dA,<-kI]; omega
  simp only[ef,fZ.ev,h,h',qW,pX,this,ne_eq,mZ,aD,bO])
def c35(x y:vN)(hn:x.names.length<=100000)(hd:x.data.length<=100000):aq cd 35 [K5 x,K5 y] []=some (.bool (decide (x=y)),[]):=by
 have q1:=fun M=>cO (c62 x.names y.names hn) M
 have q2:=fun M=>cO (c63 x.data y.data hd) M
 rw[abx];refine aB ?_;simp only[ali,E35,K5,cT,EW,seval]
 repeat' ((first|apply bA|apply bW|apply dK)<;>intro hb<;>simp only[hb,EW,E35,q1,q2,seval])
 all_goals simp_all only[qx,↓reduceIte,reduceCtorEq,aw]
def k35(x y:vN)(hn:x.names.length<=100000)(hd:x.data.length<=100000)(M:aC):aR (aq cd) 35 [.agg (cT x),.agg (cT y)] M=some (.bool (decide (x=y)),M):=cO (c35 x y hn hd) M
def tW(c:Int):List nr->Nat->Int
 | [],_ => -1
 |x::r,i=>if x.bC==c then (i:Int) else tW c r (i+1)
def zJ(l:List jC)(m:List wU):Bool:=DF l||(decide (24<(m.length:Int))||m.any fun t=>xf t.op)
def c10(l:List jC)(m:List wU):aq cd 10 [Iq l,BR m] []=some (.bool (zJ l m),[]):=by
 have q1:=fun M=>k25 l M
 unfold zJ;refine aB ?_
 cases h1:DF l<;>cases h2:decide (24<(m.length:Int))<;>rw[h1] at q1 <;>
  simp only[akU,E10,q1,h1,h2,dI,cV,yn,EW,seval]
 have hn:m.length<=24:=by simp at h2; omega
 refine AL (xs:=m) aH (fun l (_:Unit)=>l.any fun t=>xf t.op) (fun _ i=>[(1,BR m),(5,aF i)]) (fun _=>[]) (fun b=>some (ag.bool b,([]:aC))) (fun _=>?_) (fun pre x post _ h hx cJ hw h0 hm hi=>?_) ()
 ·simp only[E10,bm,oU,yn,EW,seval]
 ·have q:=fun M=>k26 x.op M
  have i1:=hi ();simp only[eT] at q;cases hl:xf x.op<;>rw[hl] at q<;>simp only[E10,cJ,hx,hw,h0,uI,eT,q,hl,jP,dI,cV,yn,EW,seval]
  exact i1
def c37{l:List nr}(hn:l.length<=1000){at':Nat}{x:nr}(hx:l[at']?=some x):aq cd 37 [qR l,aF at'] []=some (aF (tW x.bC (l.drop (at'+1)) (at'+1)),[]):=by
 have cJ:=(aj.1 hx).1;refine aB ?_;have w1:IntKind.i64.wrap ((at':Int)+1)=((at'+1+Int.toNat 0:Nat):Int):=by rw[gW aH aH]; rfl
 simp only[alj,E37,w1,yn,EW,seval];refine nh (xs:=l.drop (at'+1)) gh (fun m s=>s=at'+1+m) (fun r (s:Nat)=>tW x.bC r s) (fun _ i=>[(0,qR l),(1,aF at'),(5,aF ((at'+1+i.toNat:Nat):Int))]) (fun _=>[]) (fun b=>some (aF b,([]:aC))) (fun s hs=>?_) (fun pre y post s h hy _ hw _ hm hs hi=>?_) (at'+1) rfl
 ·have e1:(((at'+1+(l.length-(at'+1)):Nat):Int)<(l.length:Int))=False:=oyf;simp only[E37,fS,dJ,e1,tW,yn,EW,seval]
 ·have dR:=congrArg List.length h;simp only[fS,aA,av] at dR;rw[cC] at hy;have e1:(((at'+1+pre.length:Nat):Int)<(l.length:Int))=True:=sH;have e2:IntKind.i64.wrap (((at'+1+pre.length:Nat):Int)+1)=((at'+1+(pre.length+1):Nat):Int):=by rw[gW aH aH]; omega
  have hi1:=hi (s+1) aH;have e5:((pre.length:Int)+1).toNat=pre.length+1:=aH;rw[e5] at hi1;rw[tW];subst hs;cases hc:y.bC==x.bC
  ·simp only[E37,dJ,e1,e2,hy,hx,nA,hc,af,aD,yn,EW,seval];exact hi1
  ·simp only[E37,dJ,e1,e2,hy,hx,nA,hc,aE,yn,EW,seval]
def k37{l:List nr}(hn:l.length<=1000){at':Nat}{x:nr}(hx:l[at']?=some x):=cP (c37 hn hx)
end
def wK(e:nr):Hs.Ev jC vN:=⟨e.kind==1,e.bC.toNat,e.op,e.ll⟩
abbrev Cls:=Hs.Cl jC vN
abbrev ve:=Hs.Call jC vN
def rp(c:ve):Int:=match c.e with
 |some n=>(n:Int)
 |none => -1
def qy(c:ve):List ag:=[.int .i64 c.b,.int .i64 (rp c)]
def qq(c:ve):ag := .agg (qy c)
def jV(n:ve):(qq n).cells=qy n:=rfl
def kM(n:ve):(qy n).length=2:=rfl
def Qh(l:List ve):wid (l.map qq) 2=True:=pk qq _ (fun _=>rfl) l
def BB(n:ve):List.take 2 (qy n)=qy n:=rfl
def WY(n:ve):List.map ag.shut (qy n)=qy n:=rfl
def bN(l:List nr):Cls:=Hs.iE (l.map wK)
def lf(l:List nr)(x:nr):bN (l++[x])=Hs.kN (bN l) (wK x):=by
 unfold bN; rw[aZ]; exact Hs.kK _ _
structure aiq(l:List nr):Prop where
 len:l.length<=1000
 hd:∀x,l[0]?=some x->x.kind=1
 cl:∀x,x∈l->0<=x.bC
def Sj:∀(l:List (Hs.Ev jC vN)) (t:Cls),(l.foldl Hs.kN t).n=t.n+l.length
 | [],t=>rfl
 |x::r,t=>by
  rw[ei,Sj r,av];unfold Hs.kN;split<;>simp<;>omega
def sw(l:List nr):(bN l).n=l.length:=by
 unfold bN Hs.iE; rw[Sj]; simp
def Fy:∀(l:List (Hs.Ev jC vN)) (t:Cls),(∀c,t.last c<t.cs.length)->∀c,(l.foldl Hs.kN t).last c<(l.foldl Hs.kN t).cs.length
 | [],t,h=>h
 |x::r,t,h=>by
  rw[ei];refine Fy r _ fun c=>?_
  have:=h c;unfold Hs.kN;split
  ·simp only[aA,av,az];split<;>omega
  ·simpa using this
def Y7{l:List nr}(h:∀x,l[0]?=some x->x.kind=1)(h0:l≠[])(c:Nat):(bN l).last c<(bN l).cs.length:=by
 cases l with
 |nil=>exact absurd rfl h0
 |cons x r =>
  have hk:=h x rfl;unfold bN Hs.iE;rw[aK,ei];refine Fy _ _ (fun c=>?_) c
  unfold Hs.kN wK;simp[hk]
def H8{l:List nr}{i:Nat}{x:nr}(h:l[i]?=some x):bN (l.take (i+1))=Hs.kN (bN (l.take i)) (wK x):=by
 rw[cz,h,kB,lf]
def amH(o:Option Int):ph (aF 0) false (o.map (ag.int .i64)) = aF (o.getD 0):=by cases o<;>rfl
def IU:∀(l:List (Hs.Ev jC vN)) (t:Cls),(l.foldl Hs.kN t).cs.length<=t.cs.length+l.length
 | [],t=>dw
 |x::r,t=>by
  rw[ei,av];refine aY (IU r _) ?_;unfold Hs.kN;split<;>simp<;>omega
def KE(l:List nr):(bN l).cs.length<=l.length:=by
 have:=IU (l.map wK) ⟨0,[],fun _=>0⟩
 simpa[bN,Hs.iE] using this
def ako(B:Nat)(M:aC)(m:AM Int):List.map (ag.jU B M) (o9 (ag.int .i64) m)=o9 (ag.int .i64) m:=by
 unfold o9; rw[gG]; rfl
def aeR{cs:List ve}{k n:Nat}{o:vN}(h:k<cs.length):List.set (cs.map qq) k (.agg [aF (cs[k]).b,aF (n:Int)])=(cs.modify k fun c=>{ c with e:=some n,ll:=o }).map qq:=by
 refine cE fun i=>?_
 rw[aX,ib,fL]
 by_cases hi:k=i
 ·subst hi;simp[h,qq,qy,rp]
 ·simp[hi]
section
attribute [local irreducible] eX fJ lj gK dY kr aq aR cp bI
def c30{l:List nr}(h:aiq l):aq cd 30 [qR l] []=some (gA ((bN l).cs.map qq),[]):=by
 refine aB ?_;have hn:=h.len;simp only[ae0,E30,EW,seval]
 refine nh (xs:=l) aH (fun i (s:List ve×AM Int×Nat)=>s.1=(bN (l.take i)).cs/\∀c,0<=c->(eZ s.2.1 c).getD 0=((bN (l.take i)).last c.toNat:Int)) (fun _ _=>()) (fun s i=>[(3,.cB 0 s.2.2 2 0 s.1.length),(4,.iz 1),(8,qR l),(9,aF l.length),(10,aF i)])
  (fun s=>[.arr 2 s.2.2 (s.1.map qq),.map (BP s.2.1) (o9 (ag.int .i64) s.2.1)]) (fun _=>some (gA ((bN l).cs.map qq),[])) (fun s hs=>?_) (fun pre x post s e hx cJ hw h0 hm hs hi=>?_) ([],[],0) ⟨rfl,fun c _=>rfl⟩
 ·have hs1:=hs.1;rw[bH] at hs1;simp only[E30,bm,hs1,se,EW,seval]
  done
 ·obtain⟨cs,m,v⟩:=s;obtain⟨hs1,hs2⟩:=hs;simp only at hs1 hs2;have dR:cs.length<=pre.length:=by rw[hs1]; exact aY (KE _) (by rw[cq]; exact Nat.min_le_left _ _)
  have hpl:pre.length<l.length:=(aj.1 hx).1;have hne:cs.length-0=cs.length:=rfl;have r1:cr (cs.length+1) 16=True:=qI;have hck:=h.cl x hm;have hnx:=H8 hx;have wl:=Qh cs;cases hk:x.kind==1
  ·have hj:=hs2 x.bC hck
   have h0l:l.take pre.length≠[]:=by
    intro e
    have hp:pre.length=0:=by
     rcases List.take_eq_nil_iff.1 e with h1|h1
     ·exact h1
     ·rw[h1] at hpl; simp at hpl
    have:=h.hd x (by rw[<-hp]; exact hx)
    rw[this] at hk; cases hk
   have hlast:(bN (l.take pre.length)).last x.bC.toNat<cs.length:=by
    rw[hs1]
    exact Y7 (fun y hy=>h.hd y (by
     rw[fz] at hy;split at hy
     ·exact hy
     ·cases hy)) h0l _
   have i1:=hi (cs.modify ((bN (l.take pre.length)).last x.bC.toNat) fun c=>{ c with e:=some pre.length,ll:=x.ll },m,v) (by
    rw[hnx];unfold Hs.kN wK;simp only[hk,af,aD];rw[sw,hs1,cq,iw aH];exact⟨rfl,hs2⟩)
   simp only[<-aeR (n:=pre.length) (o:=x.ll) hlast,List.length_modify] at i1;generalize (bN (l.take pre.length)).last x.bC.toNat=q at hj hlast i1;have hq:((q:Int)<(cs.length:Int))=True:=sH;have hg:(cs.map qq)[q]?=some (qq cs[q]):=by rw[aX,ai hlast]; rfl
   simp only[E30,cJ,hx,hw,hne,ako,hq,hg,nA,hk,mapOf.eq_1,oZ,amH,hj,qq,qy,yn,EW,seval];rw[fj];exact i1
  ·have i1:=hi (cs++[⟨pre.length,none,x.op,x.ll⟩],kD m x.bC cs.length,v+1) (by
    rw[hnx];unfold Hs.kN wK;simp only[hk,aE];rw[sw,hs1,cq,iw aH];refine⟨rfl,fun c hc=>?_⟩
    rw[jx];split
    ·rename_i e; subst e; simp
    ·rename_i e;rw[aP aH];exact hs2 c hc)
   simp only[aZ,aK,aU,aA,av,az,aJ,qq,qy,rp] at i1;simp only[E30,cJ,hx,hw,hne,ako,nA,hk,r1,wl,sE,se,yn,EW,seval];exact i1
end
end Go.Proofs.YteoamaffclmdbaaGreatDoor
namespace Go.Abs
open Go
def bitsOf(p:Nat->Bool):Nat->Nat
 |0=>0
 |n+1=>bitsOf p n ||| (if p n then 2 ^ n else 0)
def vk(p:Nat->Bool):∀n k,(bitsOf p n).testBit k=(decide (k<n)&&p k)
 |0,k=>by simp[bitsOf]
 |n+1,k=>by
  rw[bitsOf,mY,vk p n k]
  by_cases hk:k=n
  ·subst hk;cases hp:p k<;>simp[Nat.testBit_two_pow_self]
  ·have h1:(if p n then 2 ^ n else 0).testBit k=false:=by
    split
    ·rw[oG]; simp; omega
    ·simp
   rw[h1,fG];have:(decide (k<n+1))=decide (k<n):=by simp only[decide_eq_decide]; omega
   rw[this]
def Yi(p:Nat->Bool)(n:Nat):bitsOf p n<2 ^ n:=by
 refine Nat.lt_pow_two_of_testBit _ fun i hi=>?_
 rw[vk];simp; omega
def xO(p:Nat->Bool){n:Nat}(h:n<=64):bitsOf p n<2 ^ 64:=bz (Yi p n) (Nat.pow_le_pow_right aH h)
def jh:List Nat->Nat
 | []=>0
 |k::r=>2 ^ k ||| jh r
def nQ:∀(l:List Nat)(k:Nat),(jh l).testBit k=l.contains k
 | [],k=>by simp[jh]
 |x::r,k=>by
  rw[jh,mY,nQ r k,oG,List.contains_cons];congr 1;rw[cu,bh,dZ];exact⟨Eq.symm,Eq.symm⟩
def aaw{l:List Nat}(h:∀k,k∈l->k<64):jh l<2 ^ 64:=by
 refine Nat.lt_pow_two_of_testBit _ fun i hi=>?_
 rw[nQ,<-Bool.not_eq_true];intro hc;have:=h i (jy.1 hc);omega
def Py(l:List Nat)(i:Nat):jh l ||| 2 ^ i=jh (l++[i]):=by
 refine nM fun k=>?_
 rw[mY,nQ,nQ,oG];rw[cu,jy,cU,jy,bh,bo,bQ];exact⟨fun h=>h.imp id Eq.symm,fun h=>h.imp id Eq.symm⟩
def VO{a b:List Nat}(h:jh a=jh b)(k:Nat):k∈a↔k∈b:=by
 rw[<-jy,<-jy,<-nQ,<-nQ,h]
def NZ{n:Nat}(h:n<2 ^ 64):IntKind.u64.wrap (n:Int)=n:=by
 have:(n:Int) % (2 ^ IntKind.u64.bits:Int)=n:=Int.emod_eq_of_lt aH (by simp only[IntKind.bits]; omega)
 simp[IntKind.wrap,this,IntKind.signed]
def tH{n:Nat}(h:n<2 ^ 64):(BitVec.ofInt IntKind.u64.bits (n:Int)).toNat=n:=by
 rw[BitVec.ofInt_natCast,BitVec.toNat_ofNat];exact nG h
def Sr{m n:Nat}(hm:m<2 ^ 64)(hn:n<2 ^ 64):DK .u64 (m:Int) (n:Int)=((m &&& n:Nat):Int):=by
 unfold DK;rw[BitVec.toNat_and,tH hm,tH hn];exact NZ (Nat.and_lt_two_pow _ hn)
def SE{m n:Nat}(hm:m<2 ^ 64)(hn:n<2 ^ 64):ior .u64 (m:Int) (n:Int)=((m ||| n:Nat):Int):=by
 unfold ior;rw[BitVec.toNat_or,tH hm,tH hn];exact NZ (Nat.or_lt_two_pow hm hn)
def KD(m n:Nat):Nat:=m &&& (2 ^ 64-1-n)
def afc{m n:Nat}(hm:m<2 ^ 64)(hn:n<2 ^ 64):G6 .u64 (m:Int) (n:Int)=(KD m n:Int):=by
 unfold G6 KD;rw[BitVec.toNat_and,tH hm,BitVec.toNat_not,tH hn];refine(NZ (Nat.lt_of_le_of_lt Nat.and_le_left hm)).trans ?_;rfl
def Q1{m x:Nat}(hm:m<2 ^ 64)(hx:x<2 ^ 64):(KD m x=0)↔∀k,m.testBit k=true->x.testBit k=true:=by
 have ht:∀k,(KD m x).testBit k=(m.testBit k&&(decide (k<64) && !x.testBit k)):=by
  intro k;unfold KD;rw[Nat.testBit_and,show 2 ^ 64-1-x=2 ^ 64-(x+1) by omega,Nat.testBit_two_pow_sub_succ hx]
 have cJ:∀k,m.testBit k=true->k<64:=fun k hk=>by
  refine Nat.lt_of_not_le fun h=>?_
  have:=Nat.testBit_lt_two_pow (bz hm (Nat.pow_le_pow_right aH h));rw[this] at hk; cases hk
 constructor
 ·intro h k hk;have:=ht k;rw[h,Nat.zero_testBit] at this;simpa[hk,cJ k hk] using this
 ·intro h;refine nM fun k=>?_
  rw[ht,Nat.zero_testBit];cases hk:m.testBit k
  ·rfl
  ·simp[h k hk]
def W0{k:Nat}(hk:k<64):IntKind.u64.wrap ((1:Int)*2 ^ (min (k:Int).toNat IntKind.u64.bits))=((2 ^ k:Nat):Int):=by
 have e:min (k:Int).toNat IntKind.u64.bits=k:=by simp only[dJ,IntKind.bits]; omega
 rw[e];have:=NZ (n:=2 ^ k) (lx aH hk);rw[<-this]; congr 1; simp
def W6{m k:Nat}(hk:k<64):(m:Int).fdiv (2 ^ (min (k:Int).toNat IntKind.u64.bits))=((m >>> k:Nat):Int):=by
 have e:min (k:Int).toNat IntKind.u64.bits=k:=by simp only[dJ,IntKind.bits]; omega
 rw[e,Nat.shiftRight_eq_div_pow];rw[Int.fdiv_eq_ediv_of_nonneg _ (Int.pow_nonneg mu)];simp
def akl{m k:Nat}(hm:m<2 ^ 64):(DK .u64 ((m >>> k:Nat):Int) 1==1)=m.testBit k:=by
 have h1:m >>> k<2 ^ 64:=by rw[Nat.shiftRight_eq_div_pow]; exact Nat.lt_of_le_of_lt (Nat.div_le_self _ _) hm
 have:=Sr (n:=1) h1 mu;have e:((1:Nat):Int)=1:=rfl;rw[e] at this;rw[this,Nat.testBit,Nat.and_comm];have h2:1 &&& (m >>> k)<=1:=Nat.and_le_left;generalize 1 &&& (m >>> k)=z at h2
 match z,h2 with
 |0,_=>rfl
 |1,_=>rfl
def X4{m x:Nat}:(x &&& m=m)↔∀k,m.testBit k=true->x.testBit k=true:=by
 constructor
 ·intro h k hk;have:(x &&& m).testBit k=true:=by rw[h]; exact hk
  rw[Nat.testBit_and] at this;simp only[bu] at this;exact this.1
 ·intro h;refine nM fun k=>?_
  rw[Nat.testBit_and];cases hk:m.testBit k
  ·simp
  ·simp[h k hk]
end Go.Abs
namespace Go.Proofs.YteoamaffclmdbaaGreatDoor
open Go Go.Abs
inductive SB
 |cl (c:ve)
 |fs (f:aa)
 |an (a:vN)
 |tk (k:Nat)
def BQ:SB->cL
 | .cl c => .cells (qy c)
 | .fs f => .cells (cf f)
 | .an a => .cells (cT a)
 | .tk k => .tick 10 k
section
variable {α:Type}
def eKu(l:AM α):List ag:=l.map fun p => .int .u64 p.1
def xi(enc:α->ag):∀(l:AM α)(k:Int),xh .i (.int .u64 k) (eKu l) (o9 enc l)=some ((eZ l k).map enc)
 | [],k=>rfl
 |(k',v)::l,k=>by
  show bI (km .i (.int .u64 k) (.int .u64 k')) (fun b=>Be b (some (some (enc v))) (xh .i (.int .u64 k) (eKu l) (o9 enc l)))=_
  rw[xi enc l k];simp only[km,↓reduceIte,bO,eZ]
  by_cases h:k=k'
  ·rw[aW h,show(k==k')=true by simpa using h,vC]; rfl
  ·rw[aP h,show(k==k')=false by simpa using h,p9]
def D1(enc:α->ag):∀(l:AM α)(k:Int)(v:α),xj .i (.int .u64 k) (enc v) (eKu l) (o9 enc l)=some (eKu (kD l k v),o9 enc (kD l k v))
 | [],k,v=>by
  show bI (km .i (.int .u64 k) (.int .u64 k)) (fun _=>some ([ag.int .u64 k],[enc v]))=_
  simp only[km,↓reduceIte,bO];rfl
 |(k',v')::l,k,v=>by
  show bI (km .i (.int .u64 k) (.int .u64 k')) (fun b=>Be b (some (ag.int .u64 k::eKu l,enc v::o9 enc l)) (bI (xj .i (.int .u64 k) (enc v) (eKu l) (o9 enc l)) fun x=>some (ag.int .u64 k'::x.1,enc v'::x.2)))=_
  rw[D1 enc l k v];simp only[km,↓reduceIte,bO,kD]
  by_cases h:k=k'
  ·rw[aW h,show(k==k')=true by simpa using h,vC]; rfl
  ·rw[aP h,show(k==k')=false by simpa using h,p9]; rfl
end
abbrev SM:=AM (Nat×List aa)
def K6(p:Nat×List aa):ag := .slice (.own p.1) (p.2.map OU)
structure C0(b:Nat)(m:SM)(r:List SB):Prop where
 at':∀g id l,eZ m g=some (id,l)->∃i,id=b+i/\r[i]?=some (SB.tk l.length)
 ne:∀g g' id l l',eZ m g=some (id,l)->eZ m g'=some (id,l')->g=g'
 low:∀p,p∈m->p.2.1<b+r.length
def C0.nil(b:Nat)(r:List SB):C0 b [] r:=⟨fun _ _ _ h=>(by cases h),fun _ _ _ _ _ h=>(by cases h),fun _ h=>(by cases h)⟩
structure Kept(r r':List SB):Prop where
 len:r.length<=r'.length
 at':∀(i:Nat)(x:SB),r[i]?=some x->(∀n,x≠SB.tk n)->r'[i]?=some x
def Kept.rfl{r:List SB}:Kept r r:=⟨au _,fun _ _ h _=>h⟩
theorem Kept.trans{a b c:List SB}(h:Kept a b)(g:Kept b c):Kept a c:=⟨aY h.len g.len,fun i x hx hn=>g.at' i x (h.at' i x hx hn) hn⟩
def Kept.app(r x:List SB):Kept r (r++x):=⟨dw,fun i y hy _=>by rw[aQ (aj.1 hy).1]; exact hy⟩
def C0.app{b:Nat}{m:SM}{r:List SB}(h:C0 b m r)(x:List SB):C0 b m (r++x):=by
 refine⟨fun g id l hm=>?_,h.ne,fun p hp=>?_⟩
 ·obtain⟨i,h1,h2⟩:=h.at' g id l hm;refine⟨i,h1,?_⟩;rw[aQ (aj.1 h2).1]; exact h2
 ·have:=h.low p hp;rw[aA]; omega
def D7{α:Type}:∀ {m:AM α} {k:Int} {v:α} {p:Int×α},p∈kD m k v->p=(k,v)\/p∈m
 | [],k,v,p,h=>by simp[kD] at h; exact .inl h
 |(k',v')::m,k,v,p,h=>by
  simp only[kD] at h;split at h
  ·rcases bJ.1 h with rfl|h
   ·exact .inl rfl
   ·exact .inr (bw _ h)
  ·rcases bJ.1 h with rfl|h
   ·exact .inr bD
   ·exact(D7 h).imp id (bw _)
def C0.new{b:Nat}{m:SM}{r:List SB}(h:C0 b m r){g0:Int}(_hg:eZ m g0=none)(f:aa):C0 b (kD m g0 (b+r.length,[f])) (r++[.tk 1]):=by
 have hfar:∀g id l,eZ m g=some (id,l)->id≠b+r.length:=fun g id l hm e=>by
  obtain⟨i,h1,h2⟩:=h.at' g id l hm;have:=(aj.1 h2).1;omega
 refine⟨fun g id l hm=>?_,fun g g' id l l' hm hm'=>?_,fun p hp=>?_⟩
 ·simp only[jx] at hm;split at hm
  ·injection hm with hm; injection hm with h1 h2; subst h1; subst h2
   exact⟨r.length,_root_.rfl,dw⟩
  ·exact(h.app _).at' g id l hm
 ·simp only[jx] at hm hm';split at hm<;>split at hm'
  ·rename_i a b; rw[a,b]
  ·injection hm with hm; injection hm with h1 h2; subst h1
   exact absurd _root_.rfl (hfar _ _ _ hm')
  ·injection hm' with hm'; injection hm' with h1 h2; subst h1
   exact absurd _root_.rfl (hfar _ _ _ hm)
  ·exact h.ne _ _ _ _ _ hm hm'
 ·rcases D7 hp with rfl|hp
  ·simp
  ·exact(h.app _).low p hp
def C0.more{b:Nat}{m:SM}{r:List SB}(h:C0 b m r){g0:Int}{id0:Nat}{l0:List aa}(hg:eZ m g0=some (id0,l0))(f:aa):C0 b (kD m g0 (id0,l0++[f])) (r.set (id0-b) (.tk (l0.length+1))):=by
 obtain⟨i0,e0,a0⟩:=h.at' _ _ _ hg;have hi0:=(aj.1 a0).1;have hsub:id0-b=i0:=aH;rw[hsub];refine⟨fun g id l hm=>?_,fun g g' id l l' hm hm'=>?_,fun p hp=>?_⟩
 ·simp only[jx] at hm;split at hm
  ·injection hm with hm; injection hm with h1 h2; subst h1; subst h2
   refine⟨i0,e0,?_⟩;rw[fa hi0]; simp
  ·rename_i hne;obtain⟨i,h1,h2⟩:=h.at' g id l hm;refine⟨i,h1,?_⟩;have:i≠i0:=fun e=>hne (h.ne _ _ id l l0 hm (by rw[hg,e0,h1,e]))
   rw[fc aH]; exact h2
 ·simp only[jx] at hm hm';split at hm<;>split at hm'
  ·rename_i a b; rw[a,b]
  ·rename_i a b;injection hm with hm; injection hm with h1 h2; subst h1
   rw[a]; exact h.ne _ _ _ _ _ hg hm'
  ·rename_i a b;injection hm' with hm'; injection hm' with h1 h2; subst h1
   rw[b]; exact h.ne _ _ _ _ _ hm hg
  ·exact h.ne _ _ _ _ _ hm hm'
 ·rcases D7 hp with rfl|hp
  ·simp; omega
  ·simpa using h.low p hp
def Kept.set{r:List SB}{i k:Nat}(h:r[i]?=some (SB.tk k))(k':Nat):Kept r (r.set i (.tk k')):=by
 refine⟨dw,fun j x hx hn=>?_⟩
 have:i≠j:=by
  intro e;subst e;rw[h] at hx; injection hx with hx
  exact hn k hx.symm
 rw[fc this]; exact hx
def LR(m:SM)(lost:Hs.uA aa):Prop:=∀k:Nat,((eZ m (k:Int)).map Prod.snd).getD []=(lost.filter fun p=>p.1==k).map Prod.snd
def Mj(k:Nat)(f:aa):∀lost:Hs.uA aa,lost.any (fun p=>p.1==k&&decide (p.2=f))=((lost.filter fun p=>p.1==k).map Prod.snd).any fun g=>decide (f=g)
 | []=>rfl
 |p::r=>by
  rw[jP,ft,Mj k f r];cases hk:p.1==k
  ·simp only[cI,cV,af,aD]
  ·simp only[cH,aE,aK,jP];rw[decide_eq_decide.2 (show p.2=f↔f=p.2 from⟨Eq.symm,Eq.symm⟩)]
def LR.any{m:SM}{lost:Hs.uA aa}(h:LR m lost)(k:Nat)(f:aa):lost.any (fun p=>p.1==k&&decide (p.2=f))=(((eZ m (k:Int)).map Prod.snd).getD []).any fun g=>decide (f=g):=by
 rw[h k]; exact Mj k f lost
def LR.add{m:SM}{lost:Hs.uA aa}(h:LR m lost)(k:Nat)(f:aa)(id:Nat):LR (kD m (k:Int) (id,((eZ m (k:Int)).map Prod.snd).getD []++[f])) (lost++[(k,f)]):=by
 intro j;rw[jv,aZ,<-h j,jx]
 by_cases hj:j=k
 ·subst hj; simp
 ·have h1:¬(j:Int)=(k:Int):=aH;have h2:(k==j)=false:=gh;rw[aP h1]; simp[h2]
def Rp(B:Nat)(M:aC)(r:List SB):(r.map BQ).map (cL.back B M)=r.map BQ:=by
 rw[gG];refine cY fun x _=>?_
 cases x<;>rfl
def apl{m:SM}{B:Nat}(h:∀p,p∈m->p.2.1<B)(M:aC):List.map (ag.jU B M) (o9 K6 m)=o9 K6 m:=by
 unfold o9;rw[gG];refine cY fun p hp=>?_
 show ag.jU B M (K6 p.2)=K6 p.2
 simp only[K6,ag.jU,ag.jE,ag.jz,h p hp,aE]
def CE:vN:=⟨0,0,0,0,0,[],[]⟩
def J9:jC:=⟨0,0,[],[],0,0,0,[]⟩
abbrev AA(c:Int)(o:jC):nr:=⟨1,c,{ o with bC:=c },CE⟩
abbrev CB(c:Int)(a:vN):nr:=⟨2,c,J9,a⟩
def we:List nr->List Bool->Bool
 | [],_=>true
 |x::r,s =>
  if decide (x.bC<0)||decide (16<=x.bC) then false
  else if (!(x.kind==1)&&x.kind != 2)||((x.kind==1)==(s[x.bC.toNat]?).getD false)||((x.kind==1)&&x.op.bC != x.bC) then false
  else we r (s.set x.bC.toNat (x.kind==1))
def Bn(l:List nr):Bool:=if 64<l.length then false else we l (List.replicate 16 false)
def bqt:(false==true)=false:=rfl
def bqu:(true==false)=false:=rfl
def bqv:(true==true)=true:=rfl
def bqw:(false==false)=true:=rfl
def apj(B:Nat)(M:aC)(s:List Bool):List.map (ag.jE B M) (s.map ag.bool)=s.map ag.bool:=by rw[gG]; rfl
def WA(s:List Bool)(i:Nat)(b:Bool)(h:i<s.length):List.take i (s.map ag.bool)++ag.bool b::List.drop (i+1) (s.map ag.bool)=(s.set i b).map ag.bool:=by
 rw[gH,js,aW (by simpa using h)]
def VZ(s:List Bool)(i:Nat)(b:Bool)(h:s[i]?=some b):nth (s.map ag.bool) i=some (.bool b):=by rw[fe,aX,h]; rfl
section
attribute [local irreducible] eX fJ lj gK dY kr aq aR cp bI
def c22(c:Int)(o:jC):aq cd 22 [aF c,.agg (eT o)] []=some (zC (AA c o),[]):=by
 refine aB ?_;simp only[ak3,E22,eT,zC,nA,EW,seval];rfl
def c23(c:Int)(a:vN):aq cd 23 [aF c,.agg (cT a)] []=some (zC (CB c a),[]):=by
 refine aB ?_;simp only[ak4,E23,cT,zC,nA,EW,seval];rfl
def c11(l:List nr)(hl:l.length<=100000):aq cd 11 [qR l] []=some (.bool (Bn l),[]):=by
 refine aB ?_;unfold Bn
 by_cases h6:64<l.length
 ·have h7:((64:Int)<(l.length:Int))=True:=sH;simp only[aeX,E11,h6,h7,aE,yn,EW,seval]
  done
 ·have h7:((64:Int)<(l.length:Int))=False:=oyf;simp only[aeX,E11,h6,h7,aD,af,yn,EW,seval];refine nh (xs:=l) aH (fun _ s=>s.length=16) (fun r (s:List Bool)=>we r s) (fun _ i=>[(3,cv 0),(10,qR l),(11,aF l.length),(12,aF i)]) (fun s=>[cA (s.map ag.bool)]) (fun b=>some (ag.bool b,([]:aC))) (fun s hs=>?_) (fun pre x post s h hx cJ hw h0 hm hs hi=>?_) (List.replicate 16 false) rfl
  ·simp only[E11,bm,we,yn,EW,seval]
   done
  ·rw[we];cases c1:decide (x.bC<0)
   ·cases c2:decide (16<=x.bC)
    ·have d1:0<=x.bC:=by simpa using c1
     have d2:x.bC<16:=by simpa using c2
     obtain⟨b,hb⟩:∃b,s[x.bC.toNat]?=some b:=⟨_,ai aH⟩;have hn:=VZ s _ b hb;have p1:(0<=x.bC)=True:=eq_true d1;have p2:(x.bC<16)=True:=eq_true d2;have p4:x.bC.toNat<s.length:=aH;have p3:(x.bC.toNat+1<=s.length)=True:=eq_true p4;have i1:=hi (s.set x.bC.toNat (x.kind==1)) (by simpa using hs)
     cases k1:x.kind==1<;>cases k2:x.kind==2<;>cases b<;>cases k3:x.op.bC==x.bC<;>rw[k1] at i1<;>simp only[E11,cJ,hx,hw,nA,c1,c2,k1,k2,k3,hb,hn,p1,p2,bqt,bqu,bqv,bqw,p3,apj,aE,WA _ _ _ p4,pK,bne,bj,yn,EW,seval]
     all_goals first|rfl|exact i1|skip
    ·simp only[E11,cJ,hx,hw,nA,c1,c2,eu,aE,yn,EW,seval]
   ·simp only[E11,cJ,hx,hw,nA,c1,dI,aE,yn,EW,seval]
    done
end
end Go.Proofs.YteoamaffclmdbaaGreatDoor
namespace Go.Abs
open Go
def Yn{C:eR}{f p:Nat}{vs:List ag}{q q' r:ag}{M:aC}{cs:List ag}(hq:q.ids=[p])(hqf:q.flat=true)(hqr:q.pj (iy [p])=q')(hM:nth M p=some (.cells cs))(h:C f (vs++[q']) [.cells cs]=some (r,[.cells cs]))(h1:vs.all ag.flat=true)(h2:vs.flatMap ag.ids=[])(h3:r.wz=true)
  (h4:vs.map (ag.pj (iy [p]))=vs) (h5:r.Ah (wu [p])=r) (h6:cs.all ag.vu=true) (h7:cs.flatMap ag.nC=[]) (h8:cs.map (ag.sd (iy [p]))=cs) (h10:cs.map (ag.sd (wu [p]))=cs) :
  aR C f (vs++[q]) M=some (r,M):=by
 have hids:(vs++[q]).flatMap ag.ids=[p]:=by simp[hq,h2]
 have hi:qt M [p]=[]:=by simp_all [qt,cL.ids]
 have e0:ko M [p]=[p]:=by simp[ko,hi,j8]
 have e1:reach M [p]=[p]:=by
  have ea:j8 [] [p]=[p]:=rfl;simp only[reach,ea,e0]
 have hfl:(vs++[q]).all ag.flat=true:=by rw[ow,h1]; simp[hqf]
 have hmp:(vs++[q]).map (ag.pj (iy [p]))=vs++[q']:=by rw[aZ,h4]; simp[hqr]
 have hpk:jX M (iy [p]) [p]=some [.cells cs]:=by simp[jX,hM,cL.pj,h8,bO,show(cL.cells cs).flat=true from h6]
 refine kZ (ids:=[p]) hfl (by rw[hids]; exact e1) hpk e0 hmp h rfl h3 (by simp only[kG,List.all_nil,gb]; exact h6) h5 ?_
 have hren:(cL.cells cs).pj (wu [p]) = .cells cs:=by rw[cL.pj,h10]
 simp[ma,hren,uQ hM]
end Go.Abs
namespace Go.Proofs.YteoamaffclmdbaaGreatDoor
open Go Go.Abs
def ahk(f:aa):jX [cA (cf f)] (iy [0]) [0]=some [cA (cf f)]:=rfl
section
attribute [local irreducible] eX fJ lj gK dY kr aq aR cp bI
def c33(f g:aa)(hf:vf f):aq cd 33 [.agg (cf g),cv 0] [cA (cf f)]=some (.bool (decide (f=g)),[cA (cf f)]):=by
 refine aB ?_;have q:=fun M=>cO (c34 f g hf) M
 simp only[cf] at q;simp only[alg,E33,cf,q,EW,seval]
def c54(xs:List aa)(f:aa)(hf:vf f)(hn:xs.length<=900000):aq cd 54 [gA (xs.map OU),.func 33 [cv 0]] [cA (cf f)]=some (aF (qz (fun g:aa=>decide (f=g)) xs 0),[cA (cf f)]) :=
 DB (sz:=10) (e:=cf) fA rfl hn (fun _=>rfl) (fun _=>rfl) rfl rfl fun x _ => .inl ⟨_,_,rfl,uF (p:=0) (vs:=[.agg (cf x)]) rfl (c33 f x hf) rfl rfl rfl rfl rfl rfl rfl rfl rfl⟩
def c32(xs:List aa)(f:aa)(hf:vf f)(hn:xs.length<=900000):aq cd 32 [gA (xs.map OU),.func 33 [cv 0]] [cA (cf f)]=some (.bool (xs.any fun g=>decide (f=g)),[cA (cf f)]):=by
 refine aB ?_;have hk:aR (aq cd) 54 [gA (xs.map OU),.func 33 [cv 0]] _=some (aF _,[cA (cf f)]):=kZ (ids:=[0]) rfl rfl (ahk f) rfl rfl (c54 xs f hf hn) rfl rfl rfl rfl rfl;simp only[alf,E32,hk,xb,EW,seval];rfl
def k32(xs:List aa)(f:aa)(hf:vf f)(hn:xs.length<=900000){M:aC}{p:Nat}(hM:nth M p=some (cA (cf f))):aR (aq cd) 32 [gA (xs.map OU),.func 33 [cv p]] M=some (.bool (xs.any fun g=>decide (f=g)),M) :=
 Yn (p:=p) (vs:=[gA (xs.map OU)]) (q' := .func 33 [cv 0]) rfl rfl (by simp[ag.pj,ag.sd,ag.uk,iy]) hM (c32 xs f hf hn) rfl rfl rfl rfl rfl rfl rfl rfl rfl
end
end Go.Proofs.YteoamaffclmdbaaGreatDoor
namespace Go.Abs
open Go
variable [kx]
noncomputable def JC(C:eR)(fn:eG)(args:List ag)(M:aC):Option (ag×aC) :=
 if args.length=fn.nparams then bI (eO C fn.body (eF 0 args) M) fun o=>bI (finish fn.results o.mem.length o) fun x=>if M.length<=o.mem.length/\o.mem.length<=x.2.length then some x else none else none
def Lw{P:Program}{C:eR}(hmix:P.follows .mixedOrders=true)(hC:nI P C){f:Nat}{fn:eG}{A:Co}{func:Func}(hf:P.funcs[f]?=some func)(hc:o8 P A func=some fn){args:List ag}{M:aC}{x:ag×aC}
  (h:JC C fn args M=some x):dp P f args M x:=by
 unfold JC at h;split at h
 ·rename_i hl;obtain⟨o,ho,h⟩:=bp h;obtain⟨y,hy,h⟩:=bp h;split at h
  ·rename_i dR;cases h;exact(AP hmix hC hf hc dR.1 (.inr dR.2) hl (by rw[ho]; exact hy)).2
  ·cases h
 ·cases h
def Y1{C:eR}{fn:eG}{args:List ag}{M M':aC}{v:ag}(hl:args.length=fn.nparams)(h:∀B,eX C fn.results B [] fn.body (eF 0 args) M=some (v.lA B M',iU B M'))(hM:M.length<=M'.length) :
  JC C fn args M=some (v.lA M'.length M',iU M'.length M'):=by
 unfold JC;rw[aW hl];cases ha:eO C fn.body (eF 0 args) M with
 |none=>have:=h 0; unfold eX at this; rw[ha] at this; cases this
 |some o =>
  have h':∀B,finish fn.results B o=some (v.lA B M',iU B M'):=fun B=>by
   have:=h B;unfold eX at this;rw[ha] at this;exact this
  have dR:o.mem.length=M'.length:=by
   have e:=h' (o.mem.length+M'.length);have e2:(finish fn.results (o.mem.length+M'.length) o)=some (v.lA (o.mem.length+M'.length) M',iU (o.mem.length+M'.length) M'):=e;unfold finish at e2
   have hb:∀M2:aC,M2.length<=o.mem.length+M'.length->(iU (o.mem.length+M'.length) M2).length=M2.length:=fun M2 h2=>by
    unfold iU; rw[eK,cq]; omega
   split at e2
   ·cases e2
   ·injection e2 with e2
    have:=congrArg (fun x:ag×aC=>x.2.length) e2
    simp only at this;rw[hb _ aH,hb _ aH] at this; exact this
   ·obtain⟨l,_,e2⟩:=bp e2;injection e2 with e2
    have:=congrArg (fun x:ag×aC=>x.2.length) e2
    simp only at this;rw[hb _ aH,hb _ aH] at this; exact this
  rw[bO,dR,h',bO,aW ⟨hM,by unfold iU; rw[eK,cq]; omega⟩]
end Go.Abs
namespace Go.Proofs.YteoamaffclmdbaaGreatDoor
open Go Go.Abs
noncomputable def gT:Nat->List ag->aC->Option (ag×aC)
 |0=>fun _ _=>none
 |n+1=>JC (aq (mb Fa 31 (gT n))) ae1
noncomputable def rf(n:Nat):zo:=mb Fa 31 (gT n)
def Sk:∀n,vi Tryz.prog (rf n)/\∀ {args:List ag} {M:aC} {x:ag×aC},gT n args M=some x->dp Tryz.prog 31 args M x
 |0=>⟨pW NS fA (fun h=>by cases h),fun h=>by cases h⟩
 |n+1=>by
  have ih:=(Sk n).1
  have key:∀ {args:List ag} {M:aC} {x:ag×aC},gT (n+1) args M=some x->dp Tryz.prog 31 args M x:=fun h =>
   Lw fA (qP fA ih) (f:=31) func31 ato h
  exact⟨pW NS fA key,key⟩
def Xb(n:Nat):nI Tryz.prog (aq (rf n)):=qP fA (Sk n).1
def lT'{n f:Nat}{a:List ag}{M:aC}{x:ag×aC}(h:aq Fa f a M=some x):aq (rf n) f a M=some x:=qX rfl rfl h
def lT{n f:Nat}{vs:List ag}{M:aC}{x:ag×aC}(h:aR (aq Fa) f vs M=some x):aR (aq (rf n)) f vs M=some x:=by
 obtain⟨a,B,y,h1,h2⟩:=pL h;exact h2 _ (lT' h1)
def J3{n:Nat}{a:List ag}{M:aC}{x:ag×aC}(h:gT n a M=some x):aq (rf n) 31 a M=some x:=fg (g:=gT n) rfl h
end Go.Proofs.YteoamaffclmdbaaGreatDoor
namespace Go.Abs
open Go
def DW{C:eR}{fn:List sN}{bS:Nat}{bq:Env}{M:aC}:∀(k:List K),kr C fn bS k ⟨.ret,bq,M⟩=finish fn bS ⟨.ret,bq,M⟩
 | []=>rfl
 | .seq _::k=>DW k
 | .block _::k=>DW k
 | .loop _ _ _::k=>DW k
 | .nB _ _::k=>DW k
end Go.Abs
namespace Go.Proofs.YteoamaffclmdbaaGreatDoor
open Go Go.Abs
abbrev xE(n:Nat):ag := .int .u64 n
abbrev lh(n:Nat):ag := .int .i64 n
structure TS where
 m:SM
 r:List SB
 ov:Nat
 ox:List Nat
 k:Nat
def yq:List ag:=[.ptr 3 0,.ptr 7 0,.ptr 2 0,.ptr 5 0,.ptr 1 0,.ptr 9 0,.ptr 10 0]
structure Bs where
 f0:aa
 l:List nr
 cs:List ve
 E:Nat
 rv:Nat
 rd:List Nat
def lY(b:Bs)(s:TS):aC :=
 .cells (cf b.f0) :: .cells [qR b.l] :: .cells [.slice .sh (b.cs.map qq)] :: .cells [xE b.E] :: .arr 1 b.rv (b.rd.map xE) :: .cells [.cB 4 b.rv 1 0 b.rd.length] :: .map (eKu s.m) (o9 K6 s.m) :: .cells [.iz 6] :: .arr 1 s.ov (s.ox.map lh) :: .cells [.cB 8 s.ov 1 0 s.k] ::
  .cells [.func 31 yq]::s.r.map BQ
def zQ(b:Bs)(s:TS):(lY b s).length=s.r.length+11:=by simp[lY]
def KC(b:Bs){s:TS}(h:C0 11 s.m s.r){n:Nat}(hl:n=s.r.length+11)(M:aC):List.map (cL.back n M) (lY b s)=lY b s:=by
 have e1:∀i,i<11->(i<n)=True:=fun i hi=>by simp only[fx,ja]; omega
 have e2:List.map (ag.jU n M) (o9 K6 s.m)=o9 K6 s.m:=apl (fun p hp=>by have:=h.low p hp; omega) M
 unfold lY;simp only[aK,Rp,cL.back,e2,cf,aU,ag.jE,ag.jz,yq,e1 0 aH,e1 1 aH,e1 2 aH,e1 3 aH,e1 5 aH,e1 7 aH,e1 9 aH,e1 10 aH,e1 4 aH,e1 6 aH,e1 8 aH,aE,ba,tV,rY,ke,fI,cQ]
def Fl(b:Bs){s:TS}(h:C0 11 s.m s.r):iU (lY b s).length (lY b s)=lY b s:=by
 unfold iU;rw[bH];exact KC b h (zQ b s) _
def Cx(B:Nat)(b:Bool)(M:aC):Option (ag×aC):=some ((ag.bool b).lA B M,iU B M)
section
attribute [local irreducible] eX fJ lj gK dY kr aq aR cp bI
def ahw{C:eR}{B:Nat}{k:List K}{bq:Env}{M:aC}{b:Bool}:eX C [.tmp 11] B k (.seq (.region [ob 11 (.mv (.sY (.bool b)))] false [11]) .ret) bq M=kr C [.tmp 11] B k ⟨.ret,[(11,.bool b)],M⟩:=by
 simp only[EW,seval]
end
def NJ{C:eR}{B:Nat}{k:List K}{c:cD}{bq:Env}{M:aC}{b:Bool}(hc:c = .seq (.region [ob 11 (.mv (.sY (.bool b)))] false [11]) .ret):eX C [.tmp 11] B k c bq M=Cx B b M:=by
 subst hc;rw[ahw,DW];rfl
noncomputable def Xh(n B:Nat)(k:List K)(bq:Env)(M:aC):Option (ag×aC):=eX (aq (rf n)) [.tmp 11] B k (sub Kb 58) bq M
def Np:List Nat:=[1,3,5,6,7,8,9,26,27,28]
def AK(b:Bs)(mask P j:Nat):Env:=[(1,xE mask),(3,.ptr 7 0),(5,.ptr 5 0),(6,.ptr 1 0),(7,.ptr 9 0),(8,.ptr 10 0),(9,.ptr P 0),(26,.slice .sh (b.cs.map qq)),(27,.int .i64 b.cs.length),(28,lh j)]
noncomputable def qT(n B:Nat)(b:Bs)(mask P j:Nat)(M:aC):Option (ag×aC):=eX (aq (rf n)) [.tmp 11] B [.block 0,.seq (sub Kb 59)] (.nB Np (sub Kb 23)) (AK b mask P j) M
section
attribute [local irreducible] eX fJ lj gK dY kr aq aR cp bI
def Bo{n B:Nat}{b:Bs}{mask P j:Nat}{s:TS}(hj:j<1000)(h:C0 11 s.m s.r)(hP:P<11+s.r.length){bq:Env}(he:jn bq Np=AK b mask P j) :
  Xh n B [.nB Np (sub Kb 23),.block 0,.seq (sub Kb 59)] bq (lY b s)=qT n B b mask P (j+1) (lY b s):=by
 have hb:=Fl b h;have hl:=zQ b s;simp only[jn,Np,AK,aK,aU,List.cons.injEq,pY,true_and,and_true] at he;obtain⟨g1,g3,g5,g6,g7,g8,g9,g26,g27,g28⟩:=he;unfold Xh qT AK Np;generalize lY b s=M at hb hl;have e1:∀i,i<11->(i<M.length)=True:=fun i hi=>by simp only[fx,ja]; omega
 have e2:(P<M.length)=True:=sH;have e3:IntKind.i64.wrap ((j:Int)+1)=((j+1:Nat):Int):=by rw[gW aH aH]; rfl
 have e9:=e1 9 aH;have e10:=e1 10 aH;have e7:=e1 7 aH;have e5:=e1 5 aH;have e01:=e1 1 aH;simp only[Oa,↓hb,g1,g3,g5,g6,g7,g8,g9,g26,g27,g28,e3,e2,e9,e10,e7,e5,e01,EW,seval]
end
end Go.Proofs.YteoamaffclmdbaaGreatDoor
namespace Go.Proofs.YteoamaffclmdbaaGreatDoor
open Go Go.Abs
def lX(f:aa):(cf f).length=10:=rfl
def yj(f:aa):List.take 10 (cf f)=cf f:=rfl
def EU(f:aa):List.drop 10 (cf f)=[]:=rfl
def wh(f:aa):List.map ag.shut (cf f)=cf f:=rfl
def K2(c:ve):List.drop 2 (qy c)=[]:=rfl
def zd(c:ve):nth (qy c) 0=some (aF c.b):=rfl
def u6(c:ve):nth (qy c) 1=some (aF (rp c)):=rfl
def Cz(f:aa):List.flatMap ag.nC (cf f)=[]:=rfl
def JF{α:Type}(l a b:List α):(l++a <+: l++b)=(a <+: b):=propext (List.prefix_append_right_inj l)
def A3(c:ve):(qy c).all ag.jf=true:=rfl
def yg(f:aa):(cf f).all ag.jf=true:=rfl
def zW(r:List SB)(a:cL)(X:aC):nth (r.map BQ++a::X) r.length=some a:=by rw[fe]; simp
def Ew(r:List SB)(a c:cL)(X:aC):iT (r.map BQ++a::X) r.length c=r.map BQ++c::X:=by rw[fj]; simp
def Ea(r:List SB)(a a':cL)(X:aC):nth (r.map BQ++a::a'::X) (r.length+1)=some a':=by rw[fe]; simp
def Ex(r:List SB)(a a' c:cL)(X:aC):iT (r.map BQ++a::a'::X) (r.length+1) c=r.map BQ++a::c::X:=by rw[fj]; simp
def Eb(r:List SB)(a a' a'':cL)(X:aC):nth (r.map BQ++a::a'::a''::X) (r.length+2)=some a'':=by rw[fe]; simp
def Ey(r:List SB)(a a' a'' c:cL)(X:aC):iT (r.map BQ++a::a'::a''::X) (r.length+2) c=r.map BQ++a::a'::c::X:=by rw[fj]; simp
section
attribute [local irreducible] eX fJ lj gK dY kr aq aR cp bI
def anv{C:eR}{B:Nat}{k:List K}{bq:Env}{M:aC}:eX C [.tmp 11] B k (sub Kb 6) bq M=Cx B true M:=NJ fA
def WL{C:eR}{B:Nat}{k:List K}{bq:Env}{M:aC}:eX C [.tmp 11] B k (sub Kb 14) bq M=Cx B false M:=NJ fA
def Hr{C:eR}{B:Nat}{k:List K}{bq:Env}{M:aC}:eX C [.tmp 11] B k (sub Kb 53) bq M=Cx B true M:=NJ fA
def WM{C:eR}{B:Nat}{k:List K}{bq:Env}{M:aC}:eX C [.tmp 11] B k (sub Kb 61) bq M=Cx B false M:=NJ fA
def wj{n B:Nat}{k:List K}{bq:Env}{M:aC}:eX (aq (rf n)) [.tmp 11] B k (sub Kb 58) bq M=Xh n B k bq M:=rfl
variable {n B:Nat} {b:Bs} {mask P j:Nat} {s:TS} {c:ve} {f:aa}
def step_skip(hn:b.cs.length<=60)(hj:b.cs[j]?=some c)(hL:C0 11 s.m s.r)(hP:P<11+s.r.length){q:Nat}{x1 x2:Bool}(hlr:b.rd.length=b.cs.length)(hq:b.rd[j]?=some q)(hx1:(DK .u64 ((mask >>> j:Nat):Int) 1==1)=x1)(hx2:(G6 .u64 (q:Int) (mask:Int) != 0)=x2)(h:(x1||x2)=true) :
  qT n B b mask P j (lY b s)=qT n B b mask P (j+1) (lY b { s with r:=s.r++[.cl c] }):=by
 have hjl:j<b.cs.length:=(aj.1 hj).1;have cJ:((j:Int)<(b.cs.length:Int))=True:=sH;have hlt2:((j:Int)<((b.rd.length-0:Nat):Int))=True:=sH;have hsh:=W6 (m:=mask) (k:=j) aH;simp only[dJ] at hsh;have fin:=fun bq (he:jn bq Np=AK b mask P j)=>Bo (n:=n) (B:=B) (b:=b) (mask:=mask) (P:=P) (j:=j) (s:={ s with r:=s.r++[.cl c] }) aH (hL.app _) gh he
 unfold qT;rw[vr];simp only[AK,Np,lY,aZ,aK,aU,BQ] at fin ⊢;cases x1
 ·cases x2
  ·cases h
  ·simp only[Oa,↓wj,cJ,hlt2,hj,hq,hsh,hx1,hx2,zW,Ew,jV,kM,BB,K2,A3,aE,EW,seval];exact fin _ rfl
 ·simp only[Oa,↓wj,cJ,hlt2,hj,hq,hsh,hx1,zW,Ew,jV,kM,BB,K2,A3,aE,EW,seval];exact fin _ rfl
def Xe(hn:b.cs.length<=60)(hj:b.cs[j]?=some c)(hL:C0 11 s.m s.r)(hP:∃p,P=11+p/\s.r[p]?=some (.fs f)){q:Nat}(hlr:b.rd.length=b.cs.length)(hq:b.rd[j]?=some q)(hx1:(DK .u64 ((mask >>> j:Nat):Int) 1==1)=false)(hx2:(G6 .u64 (q:Int) (mask:Int) != 0)=false)
  (hf:vf f) {x:nr} (hx:b.l[c.b]?=some x) (ho:sg x.op) {e:Nat} (he:c.e=some e) {y:nr} (hy:b.l[e]?=some y) (ha:decide ((pf f x.op).2=y.ll)=false) :
  qT n B b mask P j (lY b s)=qT n B b mask P (j+1) (lY b { s with r:=s.r++[.cl c,.fs (pf f x.op).1,.an (pf f x.op).2] }):=by
 have hjl:j<b.cs.length:=(aj.1 hj).1;have cJ:((j:Int)<(b.cs.length:Int))=True:=sH;have hlt2:((j:Int)<((b.rd.length-0:Nat):Int))=True:=sH;have hsh:=W6 (m:=mask) (k:=j) aH;simp only[dJ] at hsh;obtain⟨p,hP1,hP2⟩:=hP;have hpl:=(aj.1 hP2).1
 have hnP:∀(a0 a1 a2 a3 a4 a5 a6 a7 a8 a9 a10:cL)(X:aC),nth (a0::a1::a2::a3::a4::a5::a6::a7::a8::a9::a10::(s.r.map BQ++X)) P=some (cA (cf f)):=fun a0 a1 a2 a3 a4 a5 a6 a7 a8 a9 a10 X=>by
  rw[fe,hP1,show 11+p=p+11 by omega]
  simp only[cX];rw[aQ (by simpa using hpl),aX,hP2]; rfl
 have qd:=fun M=>lT (n:=n) (k29 f x.op hf ho M)
 have hae:=CH hf x.op;have qa:=fun M=>lT (n:=n) (lE (k35 (pf f x.op).2 y.ll (by have:=hae.names; omega) (by have:=hae.data; omega) M))
 simp only[ha,eT,cT] at qd qa;have fin:=fun bq (he:jn bq Np=AK b mask P j)=>Bo (n:=n) (B:=B) (b:=b) (mask:=mask) (P:=P) (j:=j) (s:={ s with r:=s.r++[.cl c,.fs (pf f x.op).1,.an (pf f x.op).2] }) aH (hL.app _) gh he
 unfold qT;rw[vr];simp only[AK,Np,lY,aZ,aK,aU,BQ] at fin ⊢;have hce:rp c=(e:Int):=by unfold rp; rw[he]
 simp only[Oa,↓wj,cJ,hlt2,hj,hq,hsh,hx1,hx2,hnP,zW,Ew,Ea,Ex,Eb,Ey,jV,kM,BB,WY,K2,lX,yj,EU,wh,Cz,JF,bV,aG,aO,zd,u6,A3,yg,qd,qa,aE,hx,hy,hce,nA,cT,yn,EW,seval];exact fin _ rfl
def P9(hn:b.cs.length<=60)(hj:b.cs[j]?=some c)(hP:∃p,P=11+p/\s.r[p]?=some (.fs f)){q:Nat}(hlr:b.rd.length=b.cs.length)(hq:b.rd[j]?=some q)(hx1:(DK .u64 ((mask >>> j:Nat):Int) 1==1)=false)(hx2:(G6 .u64 (q:Int) (mask:Int) != 0)=false)(hm:mask<2 ^ 64)
  (hk:s.k<=s.ox.length) (hk2:s.k<=1000)
  (hf:vf f) {x:nr} (hx:b.l[c.b]?=some x) (ho:sg x.op) (he:c.e=none\/∃e y,c.e=some e/\b.l[e]?=some y/\decide ((pf f x.op).2=y.ll)=true) {s2:TS} {k2:Nat} {t:Bool} (hs2:s2.k=k2+1) (hk3:t=false->k2<=1000) (hL:C0 11 s2.m s2.r) (hP3:P<11+s2.r.length)
  (hin:gT n (.agg (cf (pf f x.op).1)::xE (mask ||| 2 ^ j)::yq) (lY b ⟨s.m,s.r++[.cl c,.fs (pf f x.op).1,.an (pf f x.op).2],s.ov+1,s.ox.take s.k++[c.b],s.k+1⟩)=some (.bool t,lY b s2)) :
  qT n B b mask P j (lY b s)=if t then Cx B true (lY b s2) else qT n B b mask P (j+1) (lY b { s2 with k:=k2 }):=by
 have hjl:j<b.cs.length:=(aj.1 hj).1;have cJ:((j:Int)<(b.cs.length:Int))=True:=sH;have hlt2:((j:Int)<((b.rd.length-0:Nat):Int))=True:=sH;have hsh:=W6 (m:=mask) (k:=j) aH;simp only[dJ] at hsh;have hsl:=W0 (k:=j) aH;simp only[dJ] at hsl;have hor:=SE hm (n:=2 ^ j) (lx aH aH);obtain⟨p,hP1,hP2⟩:=hP;have hpl:=(aj.1 hP2).1
 have hnP:∀(a0 a1 a2 a3 a4 a5 a6 a7 a8 a9 a10:cL)(X:aC),nth (a0::a1::a2::a3::a4::a5::a6::a7::a8::a9::a10::(s.r.map BQ++X)) P=some (cA (cf f)):=fun a0 a1 a2 a3 a4 a5 a6 a7 a8 a9 a10 X=>by
  rw[fe,hP1,show 11+p=p+11 by omega]
  simp only[cX];rw[aQ (by simpa using hpl),aX,hP2]; rfl
 have qd:=fun M=>lT (n:=n) (k29 f x.op hf ho M)
 have hae:=CH hf x.op;simp only[eT,cT] at qd;have fin:=fun bq (he:jn bq Np=AK b mask P j)=>Bo (n:=n) (B:=B) (b:=b) (mask:=mask) (P:=P) (j:=j) (s:={ s2 with k:=k2 }) aH hL hP3 he
 have hin':=J3 hin;obtain⟨m2,r2,ov2,ox2,k2'⟩:=s2;simp only at hs2;subst hs2;unfold qT;rw[vr];simp only[AK,Np,lY,aZ,aK,aU,eP,BQ,cT] at fin hin' ⊢;have rm:cr (s.k+1) 8=True:=qI;have hne:k2+1-0=k2+1:=rfl;have hwk:t=false->IntKind.i64.wrap (((k2+1:Nat):Int)-1)=(k2:Int):=fun ht=>by have:=hk3 ht; rw[gW aH aH]; omega
 have hck:((k2:Int)<((k2+1:Nat):Int))=True:=sH;have hkl:(s.k<=s.ox.length)=True:=eq_true hk;have wdT:wid (List.take s.k (List.map lh s.ox)) 1=True:=by rw[<-eP]; exact pk lh _ (fun _=>rfl) _
 rcases he with he|⟨e,y,he,hy,ha⟩
 ·have hce:rp c = -1:=by unfold rp; rw[he]
  cases t
  ·have hwk:=hwk rfl;simp only[Oa,↓wj,↓Hr,cJ,hlt2,hj,hq,hsh,hsl,hor,rm,wdT,hne,hwk,hck,hkl,hin',hx1,hx2,hnP,zW,Ew,Ea,Ex,Eb,Ey,jV,kM,BB,WY,K2,lX,yj,EU,wh,Cz,JF,bV,aG,aO,zd,u6,A3,yg,qd,aE,hx,hce,nA,cT,yn,EW,seval];exact fin _ rfl
  ·simp only[Oa,↓wj,↓Hr,cJ,hlt2,hj,hq,hsh,hsl,hor,rm,wdT,hne,hck,hkl,hin',hx1,hx2,hnP,zW,Ew,Ea,Ex,Eb,Ey,jV,kM,BB,WY,K2,lX,yj,EU,wh,Cz,JF,bV,aG,aO,zd,u6,A3,yg,qd,aE,hx,hce,nA,cT,yn,EW,seval]
   done
 ·have hce:rp c=(e:Int):=by unfold rp; rw[he]
  have qa:=fun M=>lT (n:=n) (lE (k35 (pf f x.op).2 y.ll (by have:=hae.names; omega) (by have:=hae.data; omega) M))
  simp only[ha,cT] at qa;cases t
  ·have hwk:=hwk rfl;simp only[Oa,↓wj,↓Hr,cJ,hlt2,hj,hq,hsh,hsl,hor,rm,wdT,hne,hwk,hck,hkl,hin',hx1,hx2,hnP,zW,Ew,Ea,Ex,Eb,Ey,jV,kM,BB,WY,K2,lX,yj,EU,wh,Cz,JF,bV,aG,aO,zd,u6,A3,yg,qd,qa,hy,aE,hx,hce,nA,cT,yn,EW,seval];exact fin _ rfl
  ·simp only[Oa,↓wj,↓Hr,cJ,hlt2,hj,hq,hsh,hsl,hor,rm,wdT,hne,hck,hkl,hin',hx1,hx2,hnP,zW,Ew,Ea,Ex,Eb,Ey,jV,kM,BB,WY,K2,lX,yj,EU,wh,Cz,JF,bV,aG,aO,zd,u6,A3,yg,qd,qa,hy,aE,hx,hce,nA,cT,yn,EW,seval]
   done
end
section
attribute [local irreducible] eX fJ lj gK dY kr aq aR cp bI
variable {n B:Nat} {b:Bs} {mask P:Nat} {s:TS} {f:aa}
def rowsOf(o:Option (Nat×List aa)):ag:=match o with
 |none => .slice .c0 []
 |some p => .slice (.own p.1) (p.2.map OU)
def NM(o:Option (Nat×List aa)):(rowsOf o).fV = gA (((o.map Prod.snd).getD []).map OU):=by cases o<;>rfl
def anj(f:aa):(cf f).all ag.plainCell=true:=rfl
def adI(l:List aa):wid (l.map OU) 10=True:=pk OU _ (fun _=>rfl) l
def JD(o:Option (Nat×List aa)):(rowsOf o).jm=false:=by cases o<;>rfl
def Vn(o:Option (Nat×List aa)):ph (.slice .c0 []) false (o.map K6)=rowsOf o:=by cases o<;>rfl
def Iu(hw:(DK .u64 (mask:Int) (b.E:Int)==(b.E:Int))=true):eX (aq (rf n)) [.tmp 11] B [] (sub Kb 0) (eF 0 (.agg (cf f)::xE mask::yq)) (lY b s)=Cx B true (lY b { s with r:=s.r++[.fs f] }):=by
 simp only[yq,lY,aZ,aK,aU,BQ];simp only[Oa,↓anv,hw,wh,EW,seval]
def Dq(hw:(DK .u64 (mask:Int) (b.E:Int)==(b.E:Int))=false)(hf:vf f){x:Bool}(hx:((((eZ s.m (mask:Int)).map Prod.snd).getD []).any fun g=>decide (f=g))=x)(hn:(((eZ s.m (mask:Int)).map Prod.snd).getD []).length<=900000) :
  eX (aq (rf n)) [.tmp 11] B [] (sub Kb 0) (eF 0 (.agg (cf f)::xE mask::yq)) (lY b s)=if x then Cx B false (lY b { s with r:=s.r++[.fs f] }) else qT n B b mask (s.r.length+11) 0 (lY b { s with r:=s.r++[.fs f] }):=by
 have qc:=fun {M p} hM=>lT (n:=n) (lE (k32 (((eZ s.m (mask:Int)).map Prod.snd).getD []) f hf hn (M:=M) (p:=p) hM))
 rw[hx] at qc;unfold qT;simp only[yq,AK,Np,lY,aZ,aK,aU,BQ] at qc ⊢;cases x
 ·simp only[Oa,↓WL,hw,wh,mapOf.eq_1,xi,Vn,NM,JD,qc,zW,EW,seval];rfl
 ·simp only[Oa,↓WL,hw,wh,mapOf.eq_1,xi,Vn,NM,JD,qc,zW,EW,seval]
def Po(hP:∃p,P=11+p/\s.r[p]?=some (.fs f))(hg:eZ s.m (mask:Int)=none):qT n B b mask P b.cs.length (lY b s)=Cx B false (lY b { s with m:=kD s.m (mask:Int) (s.r.length+11,[f]),r:=s.r++[.tk 1] }):=by
 obtain⟨p,hP1,hP2⟩:=hP;have hpl:=(aj.1 hP2).1
 have hnP:∀(a0 a1 a2 a3 a4 a5 a6 a7 a8 a9 a10:cL),nth (a0::a1::a2::a3::a4::a5::a6::a7::a8::a9::a10::s.r.map BQ) P=some (cA (cf f)):=fun a0 a1 a2 a3 a4 a5 a6 a7 a8 a9 a10=>by
  rw[fe,hP1,show 11+p=p+11 by omega]
  simp only[cX];rw[aX,hP2]; rfl
 have hput:=D1 K6 s.m (mask:Int) (s.r.length+11,[f]);simp only[K6,aK,aU,OU] at hput;have rm:cr (0+1) 176=True:=qI;unfold qT;rw[vr];simp only[AK,Np,lY,aZ,aK,aU,BQ];simp only[Oa,↓WM,bm,hnP,mapOf.eq_1,xi,Vn,hg,rowsOf,hput,rm,wh,yj,lX,yg,anj,aE,adI,EW,seval]
 done
def LA(hP:∃p,P=11+p/\s.r[p]?=some (.fs f)){id:Nat}{l0:List aa}(hL:C0 11 s.m s.r)(hl0:l0.length<=900000)(hg:eZ s.m (mask:Int)=some (id,l0)):qT n B b mask P b.cs.length (lY b s)=Cx B false (lY b { s with m:=kD s.m (mask:Int) (id,l0++[f]),r:=s.r.set (id-11) (.tk (l0.length+1)) }):=by
 obtain⟨p,hP1,hP2⟩:=hP;have hpl:=(aj.1 hP2).1
 have hnP:∀(a0 a1 a2 a3 a4 a5 a6 a7 a8 a9 a10:cL),nth (a0::a1::a2::a3::a4::a5::a6::a7::a8::a9::a10::s.r.map BQ) P=some (cA (cf f)):=fun a0 a1 a2 a3 a4 a5 a6 a7 a8 a9 a10=>by
  rw[fe,hP1,show 11+p=p+11 by omega]
  simp only[cX];rw[aX,hP2]; rfl
 obtain⟨i,hi1,hi2⟩:=hL.at' _ _ _ hg
 have hnI:∀(a0 a1 a2 a3 a4 a5 a6 a7 a8 a9 a10:cL),nth (a0::a1::a2::a3::a4::a5::a6::a7::a8::a9::a10::s.r.map BQ) id=some (.tick 10 l0.length):=fun a0 a1 a2 a3 a4 a5 a6 a7 a8 a9 a10=>by
  rw[fe,hi1,show 11+i=i+11 by omega]
  simp only[cX];rw[aX,hi2]; rfl
 have hsI:∀(a0 a1 a2 a3 a4 a5 a6 a7 a8 a9 a10:cL)(k:Nat),iT (a0::a1::a2::a3::a4::a5::a6::a7::a8::a9::a10::s.r.map BQ) id (.tick 10 k)=a0::a1::a2::a3::a4::a5::a6::a7::a8::a9::a10::(s.r.set (id-11) (.tk k)).map BQ:=fun a0 a1 a2 a3 a4 a5 a6 a7 a8 a9 a10 k=>by
  rw[fj,hi1,show 11+i=i+11 by omega,show i+11-11=i by omega,gH]; rfl
 have hput:=D1 K6 s.m (mask:Int) (id,l0++[f]);simp only[K6,aZ,aK,aU,OU] at hput;have e1:ph (.slice .c0 []) false (some (K6 (id,l0))) = .slice (.own id) (l0.map OU):=rfl;have rm:cr (l0.length+1) 176=True:=qI;unfold qT;rw[vr];simp only[AK,Np,lY,aZ,aK,aU,BQ];simp only[Oa,↓WM,bm,hnP,hnI,hsI,mapOf.eq_1,xi,hg,eL,e1,hput,rm,wh,yj,lX,yg,anj,aE,adI,EW,seval]
 done
end
def Tb(W:Nat):Nat->Nat
 |0=>0
 |r+1=>1+min r W*Tb W r
def rV(cs:List ve)(i:Nat):Nat:=match cs[i]? with
 |some c=>c.b
 |none=>0
structure Lk(b:Bs):Prop where
 len:b.cs.length<=60
 E:b.E=bitsOf (fun k=>match b.cs[k]? with|some c=>c.e.isSome|none=>false) b.cs.length
 rdl:b.rd.length=b.cs.length
 rd:∀j,j<b.cs.length->b.rd[j]?=some (bitsOf (fun k=>Hs.lK b.cs k j) b.cs.length)
 ev:∀c,c∈b.cs->∃x,b.l[c.b]?=some x/\x.op=c.op/\sg c.op
 nd:∀c,c∈b.cs->∀e,c.e=some e->∃y,b.l[e]?=some y/\y.ll=c.ll
structure Mi(b:Bs)(s s':TS)(lost:Hs.uA aa)(t:Nat)(x:Option (List Nat)×Hs.uA aa):Prop where
 lt:C0 11 s'.m s'.r
 lr:LR s'.m x.2
 len:x.2.length<=lost.length+t
 kept:Kept s.r s'.r
 k:s'.k<=s'.ox.length
 out:s'.ox.take s'.k=s.ox.take s.k++(x.1.getD []).map (rV b.cs)
def Mi.kk{b:Bs}{s s':TS}{lost:Hs.uA aa}{t:Nat}{x:Option (List Nat)×Hs.uA aa}(h:Mi b s s' lost t x)(hk:s.k<=s.ox.length):s'.k=s.k+(x.1.getD []).length:=by
 have:=congrArg List.length h.out;rw[aA,cq,cq,eK,iw h.k] at this;omega
def abu(W:Nat)(b:Bs)(n r:Nat):Prop:=∀(f:aa)(K:Nat)(done:List Nat)(lost:Hs.uA aa)(s:TS),b.cs.length+1=done.length+r->FB K f->K+200*r<=89000->Hs.Good b.cs done->C0 11 s.m s.r->LR s.m lost->lost.length+Tb W r<=900000->s.k<=s.ox.length->s.k+r<=900 ->
 ∃s',gT n (.agg (cf f)::xE (jh done)::yq) (lY b s)=some (.bool (Hs.wL pf jh b.cs n f done lost).1.isSome,lY b s')/\Mi b s s' lost (Tb W r) (Hs.wL pf jh b.cs n f done lost)
def tE{b:Bs}(h:Lk b){done:List Nat}(hg:Hs.Good b.cs done):jh done<2 ^ 64:=aaw fun k hk=>by have:=hg.lt k hk; have:=h.len; omega
def afa{b:Bs}(h:Lk b){done:List Nat}(hg:Hs.Good b.cs done)(j:Nat):(DK .u64 ((jh done >>> j:Nat):Int) 1==1)=done.contains j:=by
 rw[akl (tE h hg),nQ]
theorem afb{b:Bs}(h:Lk b){done:List Nat}(hg:Hs.Good b.cs done)(j:Nat):(G6 .u64 ((bitsOf (fun k=>Hs.lK b.cs k j) b.cs.length:Nat):Int) (jh done:Int) != 0) = !((List.range b.cs.length).all fun k => !Hs.lK b.cs k j||done.contains k):=by
 have hn:=h.len;have hl:=xO (fun k=>Hs.lK b.cs k j) (n:=b.cs.length) aH
 rw[afc hl (tE h hg)];have hz:=Q1 hl (tE h hg);rw[bne,Bool.not_inj_iff,cu,dZ,bM];have e:((KD (bitsOf (fun k=>Hs.lK b.cs k j) b.cs.length) (jh done):Nat):Int)=0↔KD (bitsOf (fun k=>Hs.lK b.cs k j) b.cs.length) (jh done)=0:=dw
 rw[e,hz];constructor
 ·intro h1 k hk;cases ha:Hs.lK b.cs k j
  ·rfl
  simp_all [vk,nQ,eu]
 ·intro h1 k hk;rw[vk] at hk;simp only[bu,bh] at hk;have:=h1 k (gj.2 hk.1);rw[hk.2] at this;rw[nQ]
  grind
theorem alT{b:Bs}(h:Lk b){done:List Nat}(hg:Hs.Good b.cs done):(DK .u64 (jh done:Int) (b.E:Int)==(b.E:Int))=Hs.BE b.cs done:=by
 have hn:=h.len;have hl:=xO (fun k=>match b.cs[k]? with|some c=>c.e.isSome|none=>false) (n:=b.cs.length) aH
 rw[<-h.E] at hl;have ht:∀k,b.E.testBit k=(decide (k<b.cs.length)&&(match b.cs[k]? with|some c=>c.e.isSome|none=>false)):=fun k=>by rw[h.E,vk]
 rw[Sr (tE h hg) hl,cu,dZ];have e:((jh done &&& b.E:Nat):Int)=(b.E:Int)↔jh done &&& b.E=b.E:=aH;rw[e,X4];unfold Hs.BE;rw[bM];constructor
 ·intro h1 k hk;rw[gj] at hk;have h2:=h1 k;rw[ht,nQ] at h2;have hc:=ai hk;generalize b.cs[k]=c at hc;rw[hc] at h2 ⊢;obtain⟨cb,ce,co,ca⟩:=c;cases ce<;>grind
 ·intro h1 k hk;rw[ht] at hk;simp only[bu,bh] at hk;obtain⟨hk1,hk2⟩:=hk;have h2:=h1 k (gj.2 hk1);have hc:=ai hk1;generalize b.cs[k]=c at hc;rw[nQ];obtain⟨cb,ce,co,ca⟩:=c;cases ce<;>grind
def ET(cs:List ve)(done is:List Nat):Nat:=(is.filter fun i=>Hs.D3 cs done i).length
theorem OM(cs:List ve)(done is:List Nat)(i:Nat):ET cs done (i::is)=(if Hs.D3 cs done i then 1 else 0)+ET cs done is:=by
 grind [ET]
theorem aax{cs:List ve}{done:List Nat}{i:Nat}(h:Hs.D3 cs done i=true):done.contains i=false:=by
 grind [Hs.D3]
theorem Ih{cs:List ve}{done:List Nat}(hg:Hs.Good cs done):ET cs done (List.range cs.length)+done.length<=cs.length:=by
 have:Hs.Good cs (((List.range cs.length).filter fun i=>Hs.D3 cs done i)++done):=by
  refine⟨kX.2 ⟨List.nodup_range.filter _,hg.nodup,fun a ha b' hb e=>?_⟩,fun k hk=>?_⟩
  ·have:=aax (eo.1 ha).2
   grind
  ·rcases bo.1 hk with hk|hk
   ·grind
   ·exact hg.lt k hk
 have:=this.len;rw[aA] at this;exact this
theorem aau{W:Nat}{b:Bs}(h:Lk b){n r:Nat}(IH:abu W b n r){f:aa}{K P:Nat}{done:List Nat}(hr:b.cs.length+1=done.length+(r+1))(hf:FB K f)(hK:K+200*(r+1)<=89000)(hg:Hs.Good b.cs done) :
  ∀(m j:Nat)(lost:Hs.uA aa)(s:TS),j+m=b.cs.length->C0 11 s.m s.r->LR s.m lost->lost.length+ET b.cs done (List.range' j m)*Tb W r+1<=900000->(∃p,P=11+p/\s.r[p]?=some (.fs f))->s.k<=s.ox.length->s.k+(r+1)<=900 ->
  ∃s',Mi b s s' lost (ET b.cs done (List.range' j m)*Tb W r) (Hs.IY pf b.cs (Hs.wL pf jh b.cs n) f done (List.range' j m) lost) /\
   ∀B,qT n B b (jh done) P j (lY b s)=if (Hs.IY pf b.cs (Hs.wL pf jh b.cs n) f done (List.range' j m) lost).1.isSome=true then Cx B true (lY b s') else qT n B b (jh done) P b.cs.length (lY b s'):=by
 intro m;induction m with
 |zero =>
  intro j lost s hj hL hR _ _ hk _;refine⟨s,⟨hL,hR,by simp[Hs.IY],.rfl,hk,by simp[Hs.IY]⟩,fun B=>?_⟩
  rw[<-hj];simp[Hs.IY]
 |succ m ih =>
  intro j lost s hj hL hR hc hP hk hk9;have hjl:j<b.cs.length:=aH;have hcj:=ai hjl;generalize b.cs[j]=c at hcj;have hcm:c∈b.cs:=aI hcj;have dR:=h.len;obtain⟨p,hp1,hp2⟩:=hP;have hpl:=(aj.1 hp2).1;have hx1:=afa h hg j;have hx2:=afb h hg j;have hmk:=tE h hg;rw[List.range'_succ] at hc ⊢;rw[OM] at hc ⊢;have hmay:Hs.D3 b.cs done j=(!done.contains j&&(List.range b.cs.length).all fun k => !Hs.lK b.cs k j||done.contains k):=rfl
  generalize hX:Hs.IY pf b.cs (Hs.wL pf jh b.cs n) f done (j::List.range' (j+1) m) lost=X;rw[Hs.IY,hcj] at hX;simp only at hX;cases hm:Hs.D3 b.cs done j
  ·-- it may not come
   rw[hm] at hc;simp only[af,aD,aJ] at hc ⊢;obtain⟨s',ha,hh⟩:=ih (j+1) lost { s with r:=s.r++[.cl c] } aH (hL.app _) hR hc ⟨p,hp1,by rw[aQ hpl]; exact hp2⟩ hk hk9
   rw[hm,cI,aP dw] at hX;subst hX;refine⟨s',⟨ha.lt,ha.lr,ha.len,(Kept.app _ _).trans ha.kept,ha.k,ha.out⟩,fun B=>?_⟩
   rw[step_skip dR hcj hL aH h.rdl (h.rd j hjl) hx1 hx2 (by
    rw[hm] at hmay;have:=hmay.symm;cases hd:done.contains j
    ·rw[hd] at this;simpa using this
    ·rfl)]
   exact hh B
  ·rw[hm] at hmay hX hc
   have hnd:done.contains j=false:=by
    cases hd:done.contains j
    ·rfl
    ·rw[hd] at hmay; cases hmay
   have hall:((List.range b.cs.length).all fun k => !Hs.lK b.cs k j||done.contains k)=true:=by
    rw[hnd] at hmay; simpa using hmay.symm
   rw[hnd] at hx1;rw[hall] at hx2;obtain⟨x,hx,hxo,hoo⟩:=h.ev c hcm;simp only[aE] at hc ⊢;rw[bP,fN] at hc ⊢;cases ha:Hs.Ku pf f c
   ·-- it answers otherwise
    have hansF:=ha;simp only[Hs.Ku,jN] at ha;obtain⟨ha1,ha2⟩:=ha
    obtain⟨e,he⟩:∃e,c.e=some e:=by
     cases he:c.e with
     |none=>rw[he] at ha1; cases ha1
     |some e=>exact⟨e,rfl⟩
    obtain⟨y,hy,hya⟩:=h.nd c hcm e he;obtain⟨s',hA,hh⟩:=ih (j+1) lost { s with r:=s.r++[.cl c,.fs (pf f x.op).1,.an (pf f x.op).2] } aH (hL.app _) hR aH ⟨p,hp1,by rw[aQ hpl]; exact hp2⟩ hk hk9
    rw[hansF,dM,aP dw] at hX;subst hX;refine⟨s',⟨hA.lt,hA.lr,by have:=hA.len; omega,(Kept.app _ _).trans hA.kept,hA.k,hA.out⟩,fun B=>?_⟩
    rw[Xe dR hcj hL ⟨p,hp1,hp2⟩ h.rdl (h.rd j hjl) hx1 hx2 hf.ok hx (by rw[hxo]; exact hoo) he hy (by rw[hxo,hya]; exact ha2)]
    exact hh B
   ·-- it may be the next one
    rw[ha,jM,aW rfl] at hX;have hfb:=K0 hf aH c.op
    have hg':Hs.Good b.cs (done++[j]):=by
     refine⟨kX.2 ⟨hg.nodup,dw,fun a ha' b' hb e=>?_⟩,fun k hk=>?_⟩
     ·grind
     ·rcases bo.1 hk with hk|hk
      ·exact hg.lt k hk
      ·simp at hk; omega
    obtain⟨s2,hin,hA⟩:=IH (pf f c.op).1 (K+200) (done++[j]) lost ⟨s.m,s.r++[.cl c,.fs (pf f c.op).1,.an (pf f c.op).2],s.ov+1,s.ox.take s.k++[c.b],s.k+1⟩ (by rw[aA]; simp; omega) hfb aH hg' (hL.app _) hR aH (by rw[aA,cq,iw hk]; simp) (by simp only; omega)
    have hk0:(⟨s.m,s.r++[.cl c,.fs (pf f c.op).1,.an (pf f c.op).2],s.ov+1,s.ox.take s.k++[c.b],s.k+1⟩:TS).k<=(s.ox.take s.k++[c.b]).length:=by rw[aA,cq,iw hk]; simp
    have hkk:=hA.kk hk0;have hout:=hA.out;rw[<-Py] at hin;have hkept:=(Kept.app s.r [.cl c,.fs (pf f c.op).1,.an (pf f c.op).2]).trans hA.kept;have hP2:s2.r[p]?=some (.fs f):=hkept.at' p _ hp2 (fun _ h=>by cases h)
    have hst:∀B,_:=fun B=>P9 (n:=n) (B:=B) (P:=P) dR hcj ⟨p,hp1,hp2⟩ h.rdl (h.rd j hjl) hx1 hx2 hmk hk aH hf.ok hx (by rw[hxo]; exact hoo) (by
     rw[hxo];simp only[Hs.Ku,cU] at ha;cases he:c.e with
     |none=>exact .inl rfl
     |some e =>
      obtain⟨y,hy,hya⟩:=h.nd c hcm e he
      grind) (s2:=s2) (k2:=s2.k-1) (t:=(Hs.wL pf jh b.cs n (pf f c.op).1 (done++[j]) lost).1.isSome) (by simp only at hkk; omega) (fun ht=>by
      have e:(Hs.wL pf jh b.cs n (pf f c.op).1 (done++[j]) lost).1=none:=by
       simp_all
      rw[e] at hkk;simp at hkk; omega) hA.lt (by have:=hkept.len; omega) (by rw[hxo]; exact hin)
    generalize Hs.wL pf jh b.cs n (pf f c.op).1 (done++[j]) lost=T at hA hkk hout hst hX;obtain⟨o,l⟩:=T;cases o with
    |some o =>
     simp only at hX;subst hX;simp only[bX,aE] at hst ⊢;refine⟨s2,⟨hA.lt,hA.lr,by have:=hA.len; simp only at this ⊢; omega,hkept,hA.k,?_⟩,hst⟩
     rw[hout];simp only[bj,aK];rw[bB (by rw[aA,cq,iw hk]; simp),bV]
     simp only[rV,hcj,aG,aO]
    |none =>
     simp only at hX;subst hX;simp only[dr,af,aD,iK,aU,db,az,df] at hst hout hkk ⊢;have hk1:s2.k-1=s.k:=aH;rw[hk1] at hst
     have htk:s2.ox.take s.k=s.ox.take s.k:=by
      have:=congrArg (List.take s.k) hout;rw[List.take_take,iw aH] at this;rw[this,bB (l:=s.ox.take s.k++[c.b]) (by rw[aA,cq,iw hk]; simp),fP (by rw[cq,iw hk]; exact au _),List.take_take,Nat.min_self]
     have hA2:=hA.len;simp only at hA2;obtain⟨s',hA3,hh⟩:=ih (j+1) l { s2 with k:=s.k } aH hA.lt hA.lr aH ⟨p,hp1,hP2⟩ (by have:=hA.k; simp only; omega) hk9
     refine⟨s',⟨hA3.lt,hA3.lr,by have:=hA3.len; omega,hkept.trans hA3.kept,hA3.k,?_⟩,fun B=>(hst B).trans (hh B)⟩
     rw[hA3.out];simp only[htk]
def DR{b:Bs}{n:Nat}{a:List ag}{s s':TS}{t:Bool}(hl:a.length=9)(h:∀B,eX (aq (rf n)) [.tmp 11] B [] (sub Kb 0) (eF 0 a) (lY b s)=Cx B t (lY b s'))(hL:C0 11 s'.m s'.r)(hk:s.r.length<=s'.r.length):gT (n+1) a (lY b s)=some (.bool t,lY b s'):=by
 have:=Y1 (C:=aq (rf n)) (fn:=ae1) (args:=a) (M:=lY b s) (M':=lY b s') (v := .bool t) (by rw[hl]; rfl) h (by rw[zQ,zQ]; omega)
 rw[Fl b hL] at this;exact this
def Xl{W:Nat}{b:Bs}(h:Lk b)(hW:∀done,Hs.Good b.cs done->ET b.cs done (List.range b.cs.length)<=W):∀n r:Nat,r<=n->abu W b n r
 |n,0,_=>fun f K done lost s hr _ _ hg=>by have:=hg.len; omega
 |0,r+1,hn=>aH
 |n+1,r+1,hn=>fun f K done lost s hr hf hK hg hL hR hc hk hk9=>by
  have hmk:=tE h hg;have hw:=alT h hg;rw[Hs.wL];rw[Tb] at hc ⊢;cases hwb:Hs.BE b.cs done
  rotate_left
  ·rw[aW rfl];refine⟨{ s with r:=s.r++[.fs f] },DR rfl (fun B=>Iu (by rw[hw,hwb])) (hL.app _) dw,⟨hL.app _,hR,dw,Kept.app _ _,hk,dw⟩⟩
  rw[aP dw];have hany:=hR.any (jh done) f
  have hrows:(((eZ s.m (jh done:Int)).map Prod.snd).getD []).length<=lost.length:=by
   rw[hR (jh done),eK]; exact bU _ _
  cases hla:lost.any (fun p=>p.1==jh done&&decide (p.2=f))
  rotate_left
  ·rw[aW rfl];rw[hla] at hany;refine⟨{ s with r:=s.r++[.fs f] },DR rfl (fun B=>?_) (hL.app _) dw,⟨hL.app _,hR,dw,Kept.app _ _,hk,dw⟩⟩
   rw[Dq (x:=true) (by rw[hw,hwb]) hf.ok hany.symm aH]
   rfl
  rw[aP dw];rw[hla] at hany;have hcn:=Ih hg;have hcw:=hW done hg;rw[lu] at hcn hcw ⊢;have hcb:ET b.cs done (List.range' 0 b.cs.length)*Tb W r<=min r W*Tb W r:=bd _ aH;obtain⟨s1,hA,hh⟩:=aau h (Xl h hW n r aH) (P:=11+s.r.length) hr hf hK hg b.cs.length 0 lost { s with r:=s.r++[.fs f] } aH (hL.app _) hR aH ⟨s.r.length,rfl,dw⟩ hk hk9
  generalize Hs.IY pf b.cs (Hs.wL pf jh b.cs n) f done (List.range' 0 b.cs.length) lost=X at hA hh;obtain⟨o,l⟩:=X
  have hen:∀B,eX (aq (rf n)) [.tmp 11] B [] (sub Kb 0) (eF 0 (.agg (cf f)::xE (jh done)::yq)) (lY b s)=qT n B b (jh done) (11+s.r.length) 0 (lY b { s with r:=s.r++[.fs f] }):=fun B=>by
   rw[Dq (x:=false) (by rw[hw,hwb]) hf.ok hany.symm aH,Nat.add_comm]
   rfl
  have hk1:=(Kept.app s.r [.fs f]).trans hA.kept;cases o with
  |some o =>
   simp only[bX,aE] at hh ⊢;refine⟨s1,DR rfl (fun B=>(hen B).trans (hh B)) hA.lt hk1.len,⟨hA.lt,hA.lr,by have:=hA.len; simp only at this ⊢; omega,hk1,hA.k,hA.out⟩⟩
  |none =>
   simp only[dr,af,aD] at hh ⊢;have hP1:s1.r[s.r.length]?=some (.fs f):=hA.kept.at' s.r.length _ dw (fun _ h=>by cases h)
   have hlr:=hA.lr;have dR:=hA.len;simp only at hlr dR
   have hrows1:(((eZ s1.m (jh done:Int)).map Prod.snd).getD []).length<=l.length:=by
    rw[hlr (jh done),eK]; exact bU _ _
   have hadd:=fun id=>hlr.add (jh done) f id
   cases hgm:eZ s1.m (jh done:Int) with
   |none =>
    have hadd:=hadd (s1.r.length+11);rw[hgm] at hadd;have cJ:=hA.lt.new hgm f;rw[Nat.add_comm 11] at cJ;refine⟨{ s1 with m:=kD s1.m (jh done:Int) (s1.r.length+11,[f]),r:=s1.r++[.tk 1] },DR rfl (fun B=>(hen B).trans ((hh B).trans (Po ⟨_,rfl,hP1⟩ hgm))) cJ (by have:=hk1.len; simp only[aA]; omega),⟨cJ,hadd,by simp only[aA,av,az]; omega,hk1.trans (Kept.app _ _),hA.k,hA.out⟩⟩
   |some v =>
    obtain⟨id,l0⟩:=v;have hadd:=hadd id;rw[hgm] at hadd hrows1;have cJ:=hA.lt.more hgm f;obtain⟨i,hi1,hi2⟩:=hA.lt.at' _ _ _ hgm
    have hks:Kept s1.r (s1.r.set (id-11) (.tk (l0.length+1))):=by
     rw[show id-11=i by omega]
     exact Kept.set hi2 _
    refine⟨{ s1 with m:=kD s1.m (jh done:Int) (id,l0++[f]),r:=s1.r.set (id-11) (.tk (l0.length+1)) },DR rfl (fun B=>(hen B).trans ((hh B).trans (LA ⟨_,rfl,hP1⟩ hA.lt (by simp only[eL,bj] at hrows1; omega) hgm))) cJ (by have:=(hk1.trans hks).len; exact this),⟨cJ,hadd,by simp only[aA,av,az]; omega,hk1.trans hks,hA.k,hA.out⟩⟩
end Go.Proofs.YteoamaffclmdbaaGreatDoor
