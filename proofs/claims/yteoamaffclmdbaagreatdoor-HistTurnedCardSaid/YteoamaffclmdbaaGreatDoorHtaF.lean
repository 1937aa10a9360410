import Derived.Test.YteoamaffclmdbaaGreatDoorHtaE
set_option linter.all false
open Go.Proofs.Tryz
namespace Go.Proofs.YteoamaffclmdbaaGreatDoor
open Go Go.Abs
section
attribute [local irreducible] eX fJ lu gK eb kr aq aU cq bI
def ab8{X:Option (ag×aC)}{v:ag×aC}(h:∃r,r=v/\X=some r):X=some v:=by
 obtain⟨_,rfl,h⟩:=h;exact h
def aqn(a b:List gP)(ha:a.length<=100000):aq bZ 141 [jc a,jc b] []=some (.bool (decide (a=b)),[]):=by
 refine aB ?_;cases h0:(a.length:Int) != (b.length:Int)
 ·have hl:a.length=b.length:=by simp at h0; omega
  simp only[Sa,QQ,h0,EW,seval];refine ab8 (je (xs:=a) aJ (fun m (_:Unit)=>a.take m=b.take m) (fun _ i=>[(0,jc a),(1,jc b),(5,aF i)]) (fun _=>[]) (fun r=>r=(.bool (decide (a=b)),[])) (fun _ hI=>?_) (fun pre x post _ e hx cJ hw h0 hm hI hi=>?_) () rfl)
  ·refine⟨_,rfl,?_⟩;rw[il (Av hl hI)];simp only[QQ,bl,EW,seval]
  ·have hp:=(aj.1 hx).1;obtain⟨y,hy⟩:∃y,b[pre.length]?=some y:=⟨_,ai aJ⟩;cases h1:decide (x=y)
   ·have hd:decide (a=b)=false:=gr fun e=>of_decide_eq_false h1 (by rw[e,hy] at hx; injection hx with hx; exact hx.symm)
    refine⟨_,rfl,?_⟩;rw[hd];simp only[QQ,cJ,hx,hy,h0,h1,iJ,RO,aiV,EW,seval]
   ·have i1:=hi () (yn hI hx (by rw[hy,jV h1]))
    simp only[QQ,cJ,hx,hy,hw,h0,h1,iJ,RO,aiV,EW,seval];exact i1
 ·have hd:decide (a=b)=false:=gr fun e=>by rw[e] at h0; simp at h0
  rw[hd];simp only[Sa,QQ,h0,EW,seval]
def asz a b ha:=cP (aqn a b ha)
def c88(x y:Node)(hx:x.bc.length<=100000):aq bZ 88 [.agg (aL x),.agg (aL y)] []=some (.bool (decide (x=y)),[]):=by
 rw[adU];have hk:=fun M=>asz x.bc y.bc hx M
 refine aB ?_;simp only[al4,E88,bL,aL,EN,seval]
 repeat' ((first|apply bA|apply bV|apply dP)<;>intro hb<;>simp only[hb,EN,E88,hk,vu,seval])
 all_goals clear hk
 all_goals simp_all [bne]
def k88 x y hx:=cP (c88 x y hx)
def aqm(a b:List Node)(ha:a.length<=100000)(he:∀n,n∈a->n.bc.length<=100000):aq bZ 140 [ba a,ba b] []=some (.bool (decide (a=b)),[]):=by
 refine aB ?_;cases h0:(a.length:Int) != (b.length:Int)
 ·have hl:a.length=b.length:=by simp at h0; omega
  simp only[R9,QP,h0,EW,seval];refine ab8 (je (xs:=a) aJ (fun m (_:Unit)=>a.take m=b.take m) (fun _ i=>[(0,ba a),(1,ba b),(5,aF i)]) (fun _=>[]) (fun r=>r=(.bool (decide (a=b)),[])) (fun _ hI=>?_) (fun pre x post _ e hx cJ hw h0 hm hI hi=>?_) () rfl)
  ·refine⟨_,rfl,?_⟩;rw[il (Av hl hI)];simp only[QP,bl,EW,seval]
  ·have hp:=(aj.1 hx).1;obtain⟨y,hy⟩:∃y,b[pre.length]?=some y:=⟨_,ai aJ⟩;have q:=fun M=>k88 x y (he x hm) M
   simp only[aL] at q;cases h1:decide (x=y)<;>rw[h1] at q
   ·have hd:decide (a=b)=false:=gr fun e=>of_decide_eq_false h1 (by rw[e,hy] at hx; injection hx with hx; exact hx.symm)
    refine⟨_,rfl,?_⟩;rw[hd];simp only[QP,cJ,hx,hy,h0,q,bL,aL,EW,seval]
   ·have i1:=hi () (yn hI hx (by rw[hy,jV h1]))
    simp only[QP,cJ,hx,hy,hw,h0,q,bL,aL,EW,seval];exact i1
 ·have hd:decide (a=b)=false:=gr fun e=>by rw[e] at h0; simp at h0
  rw[hd];simp only[R9,QP,h0,EW,seval]
def asy a b ha he:=cP (aqm a b ha he)
def c87(a b:Tree)(ha:a.ae.length<=100000)(he:∀n,n∈a.ae->n.bc.length<=100000):aq bZ 87 [br a,br b] []=some (.bool (decide (a=b)),[]):=by
 have hd:decide (a=b)=(a.next==b.next&&(a.ak==b.ak&&decide (a.ae=b.ae))):=by
  obtain⟨a1,a2,a3⟩:=a;obtain⟨b1,b2,b3⟩:=b;rw[cz]; simp; constructor
  ·rintro⟨h1,h2,h3⟩; exact⟨h2,h3,h1⟩
  ·rintro⟨h1,h2,h3⟩; exact⟨h3,h1,h2⟩
 rw[hd];have q:=fun M=>asy a.ae b.ae ha he M
 refine aB ?_
 cases h1:a.next==b.next<;>cases h2:a.ak==b.ak <;>
  simp only[al3,E87,h1,h2,q,br,aM,cN,cI,dR,EW,seval]
def k87(a b:Tree)(ha:a.ae.length<=100000)(he:∀n,n∈a.ae->n.bc.length<=100000)(M:aC):aU (aq bZ) 87 [.agg [ba a.ae,aF a.next,aF a.ak],.agg [ba b.ae,aF b.next,aF b.ak]] M=some (.bool (decide (a=b)),M):=cO (c87 a b ha he) M
end
def SN{l:List Node}(h:oZ l){i j:Nat}{n m:Node}(hi:l[i]?=some n)(hj:l[j]?=some m)(e:n.ar=m.ar):i=j:=by
 obtain⟨i1,i2⟩:=aj.1 hi;obtain⟨j1,j2⟩:=aj.1 hj;have hp:=cm.1 h;rcases ja i j with cJ|rfl|cJ
 ·have:=hp i j i1 j1 cJ; rw[i2,j2] at this; omega
 ·rfl
 ·have:=hp j i j1 i1 cJ; rw[i2,j2] at this; omega
def Xm{s:iT}(hs:oZ s.now.ae)(hl:s.since.length=s.now.ae.length)(T:Int)(n:Node):(∃(j:Nat),s.now.ae[j]?=some n/\s.since[j]?=some (rO s T n))\/(find s.now.ae n.ar≠some n/\rO s T n=T):=by
 unfold rO;rcases CQ hs n.ar with ⟨_,h2,h3,h4⟩|⟨_,h2,h3⟩
 ·by_cases e:n=bm s.now.ae n.ar
  ·left;have hj:=(aj.1 h3).1;refine⟨_,by rw[h3,<-e],?_⟩
   rw[aZ (by rw[h2]; simp[<-e])]
   rw[lf,ai aJ]; rfl
  ·right;rw[aR (by simp[e]),h4]
   exact⟨fun hh=>e (by injection hh with hh; exact hh.symm),rfl⟩
 ·right;rw[h3,aR (by rw[h2]; simp)]
  simp
def Ck{t:Tree}{tk:List mU}{c:Int}:∀(l:List Node)(y:List Int)(n:Node)(x:Int),l.length=y.length->lP t tk c (l++[n]) (y++[x])=lP t tk c l y++lP t tk c [n] [x]
 | [],[],n,x,_=>by simp[lP]
 |a::l,b::y,n,x,h=>by simp only[aG,lP,Ck l y n x (by simpa using h),cd]
def Stp(P:Int->Prop)(s u:iT):Prop:=u=s\/(∃t,Rt t/\u=qA s t)\/(∃i,u=(takeN s i).1)\/∃d,P d/\u=(rC s d).1
def abd(s:iT)(t:Tree)(c:Int):List pv:=s.eS++lP t s.dW c s.now.ae s.since
section
attribute [local irreducible] eX fJ lu gK eb kr aq aU cq bI
def c86(l:List mU)(a b:Int)(hn:l.length<=100000):aq bZ 86 [kh l,aF a,aF b] []=some (.bool (xJ l a b),[]):=by
 refine aB ?_;simp only[al2,E86,EW,seval];refine A4 (xs:=l) aJ (fun post (_:Unit)=>post.any (zp a b)) (fun _ i=>[(0,kh l),(1,aF a),(2,aF b),(7,aF i)]) (fun _=>[]) (fun z=>some (ag.bool z,([]:aC))) (fun _=>?_) (fun pre x post _ e hx cJ hw h0 hm hi=>?_) ()
 ·simp only[E86,bl,o4,EW,seval]
 ·have i1:=hi ();rw[jR,zp]
  cases h1:decide (a<=x.at')<;>cases h2:decide (x.at'<b) <;>
   simp only[E86,cJ,hx,hw,h0,h1,h2,kS,iH,dR,cN,cI,dM,cV,EW,seval]<;>exact i1
def k86 l a b hn:=cP (c86 l a b hn)
abbrev JZ(s:iT)(t:Tree):aC:=[.cells (bM s),.cells [ba t.ae,.int .i64 t.next,.int .i64 t.ak],.cells [.slice .c0 [],.int .i64 0,.int .i64 0,.int .i64 0,.slice .c0 [],.slice .c0 [],.slice .c0 [],.int .i64 0]]
abbrev JY(c:Int):Env:=[(2,.ptr 0 0),(3,.ptr 1 0),(4,.ptr 2 0),(5,.int .i64 c)]
section
variable {s:iT} {t:Tree} {Q:ag×aC->Prop} {c:Int}
def aaJ(hs:Rt s.now)(ht:Rt t)(hl:s.since.length=s.now.ae.length)(hk:s.dW.length<=16)(hp:s.eS.length<=90000){k:List K}
  (hx:∀z,∃r,Q r/\kr (aq bZ) [.dK 4 8] 0 k ⟨.exit 0,JY c++(6,.slice (.own 3) ((abd s t c).map lY))::z,JZ s t++[.tick 8 (abd s t c).length]⟩=some r) :
  ∃r,Q r/\eX (aq bZ) [.dK 4 8] 0 k (.loop [2,3,4,5,6,7] ag9) (JY c++[(6,.slice (.own 3) (s.eS.map lY)),(7,aF 0)]) (JZ s t++[.tick 8 s.eS.length])=some r:=by
 have h200:=hs.sz.ae;refine je (xs:=s.now.ae) aJ (fun m (P:List pv)=>P.length<=s.eS.length+m/\P=s.eS++lP t s.dW c (s.now.ae.take m) (s.since.take m)) (fun P i=>JY c++[(6,.slice (.own 3) (P.map lY)),(7,aF i)]) (fun P=>JZ s t++[.tick 8 P.length]) Q (fun P hP=>?_) (fun pre x post P e hx' cJ hw h0 hm hP hi=>?_) s.eS ⟨au _,by simp[lP]⟩
 ·have hP:=hP.2;rw[bF,<-hl,bF] at hP;have hP:abd s t c=P:=hP.symm;simp only[hP,JZ,JY,bM,aG,aP] at hx ⊢;simp only[QD,bl,EW,seval];exact hx _
 ·have hlx:=(aj.1 hx').1;obtain⟨y,hy⟩:∃y,s.since[pre.length]?=some y:=⟨_,ai aJ⟩;have qg:=fun M=>Bj t.ae t.next t.ak x.ar (by have:=ht.sz.ae; omega) M
  have hc:lP t s.dW c [x] [y]=if (!(find t.ae x.ar).isSome || !decide (x=(find t.ae x.ar).getD Node.zero))&&xJ s.dW y c then [⟨y,c,x⟩] else []:=by
   rw[lP,lP,dg]
   ·rcases CQ ht.lL.mr x.ar with ⟨_,h2,_,h4⟩|⟨_,h2,h4⟩
    ·have e1:decide (Yt t.ae x.ar<0)=false:=by rw[h2]; simp
     rw[e1,h4]; rfl
    ·rw[h2,h4]; simp
   ·rintro _ _ _ _ ⟨⟩
  have hi:=hi (P++lP t s.dW c [x] [y]) ⟨by
   have:=(Bw t s.dW c [x] [y]).1;simp only[aA,aw,az] at this ⊢; omega,by
   rw[cB,cB,hx',hy];simp only[kG];rw[Ck _ _ _ _ gm,<-cd,<-hP.2]⟩
  rw[hc] at hi;generalize (find t.ae x.ar).getD Node.zero=n at qg hi;generalize (find t.ae x.ar).isSome=b at qg hi;have qs:=fun M=>k88 x n (by have:=(hs.XX hm).1; omega) M
  have qw:=fun M=>k86 s.dW y c aJ M
  generalize decide (x=n)=d at qs hi;generalize xJ s.dW y c=w at qw hi;have r1:ct (P.length+1) 96=True:=qM;simp only[JZ,JY,bM,aG,aP,aL] at hi qs ⊢;cases b<;>cases d<;>cases w<;>simp only[cu,dG,er,fE,gb,dR,cN,cI,af,aI,aD,dg,aW,aH,aQ,aA,aw,az,aK,lY,mN,aL] at hi<;>simp only[QD,cJ,hx',hy,hw,h0,qg,qs,qw,r1,bL,aL,mV,EW,seval]<;>exact hi
def aaK(hs:Rt s.now)(hl:s.since.length=s.now.ae.length){P:List pv}{S:List Int}{i:Nat}{n:Node}(hn:t.ae[i]?=some n){k:List K}
  (hx:∀z,∃r,Q r/\kr (aq bZ) [.dK 4 8] 0 k ⟨.exit 4,JY c++(6,.slice (.own 3) (P.map lY))::(11,.slice (.own 4) (S.map mV))::(12,aF i)::(13,aF (rO s c n))::z,JZ s t++[.tick 8 P.length,.tick 1 S.length]⟩=some r) :
  ∃r,Q r/\eX (aq bZ) [.dK 4 8] 0 k (.loop [2,3,4,5,6,11,12,13,14] aha) (JY c++[(6,.slice (.own 3) (P.map lY)),(11,.slice (.own 4) (S.map mV)),(12,aF i),(13,aF c),(14,aF 0)]) (JZ s t++[.tick 8 P.length,.tick 1 S.length])=some r:=by
 have h200:=hs.sz.ae;have b1:((i:Int)<0)=False:=dx;refine je (xs:=s.now.ae) aJ (fun m (x:Int)=>(x=c/\∀(j:Nat),j<m->s.now.ae[j]?≠some n)\/∃j:Nat,j<m/\s.now.ae[j]?=some n/\s.since[j]?=some x) (fun(x:Int) j=>JY c++[(6,.slice (.own 3) (P.map lY)),(11,.slice (.own 4) (S.map mV)),(12,aF i),(13,aF x),(14,aF j)]) (fun _=>JZ s t++[.tick 8 P.length,.tick 1 S.length]) Q (fun x hI=>?_) (fun pre m post x e hx' cJ hw h0 hm hI hi=>?_) c (.inl ⟨rfl,fun j hj=>aJ⟩)
 ·have he:x=rO s c n:=by
   rcases Xm hs.lL.mr hl c n with ⟨j,j1,j2⟩|⟨j1,j2⟩<;>rcases hI with ⟨h1,h2⟩|⟨i,h1,h2,h3⟩
   ·exact absurd j1 (h2 j (aj.1 j1).1)
   ·have:=SN hs.lL.mr j1 h2 rfl;subst this;rw[j2] at h3; injection h3 with h3; exact h3.symm
   ·rw[h1,j2]
   ·exact absurd ((ik hs.lL.mr).2 ⟨aE h2,rfl⟩) j1
  subst he;simp only[JZ,JY,bM,aG,aP] at hx ⊢;simp only[QD,bl,EW,seval];exact hx _
 ·have hlx:=(aj.1 hx').1;obtain⟨y,hy⟩:∃y,s.since[pre.length]?=some y:=⟨_,ai aJ⟩;have qs:=fun M=>k88 m n (by have:=(hs.XX hm).1; omega) M
  have i1:m≠n->_:=fun hne=>hi x (by
   rcases hI with ⟨h1,h2⟩|⟨j,h1,h2⟩
   ·refine .inl ⟨h1,fun j hj=>?_⟩
    by_cases e:j=pre.length
    ·rw[e,hx']; exact fun hh=>hne (by injection hh)
    ·exact h2 j aJ
   ·exact .inr ⟨j,aJ,h2⟩)
  have i2:m=n->_:=fun he=>hi y (.inr ⟨pre.length,aJ,by rw[hx',he],hy⟩)
  simp only[JZ,JY,bM,aG,aP,aL] at i1 i2 qs ⊢
  by_cases hd:m=n
  ·rw[il hd] at qs;simp only[QD,cJ,hx',hy,hn,b1,hw,h0,qs,bL,aL,mV,EW,seval];exact i2 hd
  ·rw[gr hd] at qs;simp only[QD,cJ,hx',hy,hn,b1,hw,h0,qs,bL,aL,mV,EW,seval];exact i1 hd
def aaL(hs:Rt s.now)(ht:Rt t)(hl:s.since.length=s.now.ae.length){P:List pv}{k:List K}
  (hx:∀z,∃r,Q r/\kr (aq bZ) [.dK 4 8] 0 k ⟨.exit 2,JY c++(6,.slice (.own 3) (P.map lY))::(11,.slice (.own 4) ((t.ae.map (rO s c)).map mV))::z,JZ s t++[.tick 8 P.length,.tick 1 (t.ae.map (rO s c)).length]⟩=some r) :
  ∃r,Q r/\eX (aq bZ) [.dK 4 8] 0 k (.loop [2,3,4,5,6,11,12] ahb) (JY c++[(6,.slice (.own 3) (P.map lY)),(11,.slice (.own 4) []),(12,aF 0)]) (JZ s t++[.tick 8 P.length,.tick 1 0])=some r:=by
 have h200:=ht.sz.ae;refine je (xs:=t.ae) aJ (fun m (S:List Int)=>S=(t.ae.take m).map (rO s c)) (fun S i=>JY c++[(6,.slice (.own 3) (P.map lY)),(11,.slice (.own 4) (S.map mV)),(12,aF i)]) (fun S=>JZ s t++[.tick 8 P.length,.tick 1 S.length]) Q (fun S hS=>?_) (fun pre n post S e hx' cJ hw h0 hm hS hi=>?_) [] rfl
 ·rw[bF] at hS;simp only[<-hS,JZ,JY,bM,aG,aP] at hx ⊢;simp only[QD,bl,EW,seval];exact hx _
 ·have hlx:=(aj.1 hx').1;have hSl:S.length=pre.length:=by rw[hS]; simp; omega
  have lb:=fun {k} h2=>aaK (s:=s) (t:=t) (Q:=Q) (c:=c) hs hl (P:=P) (S:=S) hx' (k:=k) h2
  have r1:ct (S.length+1) 8=True:=qM;have i1:=hi (S++[rO s c n]) (by rw[cB,hx',hS]; simp)
  simp only[JZ,JY,bM,aG,aP,aW,aH,aQ,aA,aw,az,aK,mV] at lb i1 ⊢;simp only[QD,cJ,EW,seval];refine lb (fun z=>?_)
  simp only[QD,hw,r1,uF,mV,EW,seval];exact i1
end
def c49(s:iT)(t:Tree)(hs:Rt s.now)(ht:Rt t)(hl:s.since.length=s.now.ae.length)(hk:s.dW.length<=16)(hp:s.eS.length<=90000):aq bZ 49 [.agg (bM s),br t] []=some (.agg (bM (qA s t)),[]):=by
 have key:∃r:ag×aC,r=(.agg (bM (qA s t)),[])/\eX (aq bZ) Pe.results 0 [] Pe.body (eH 0 [.agg (bM s),br t]) []=some r:=by
  have h200:=hs.sz.ae;have qs:=fun M=>k87 s.now t aJ (fun n hn=>by have:=(hs.XX hn).1; omega) M
  unfold qA;cases hd:decide (s.now=t)<;>rw[hd] at qs
  ·have la:=fun {k Q} hx=>aaJ (s:=s) (t:=t) (Q:=Q) (c:=IntKind.i64.wrap (s.tick+1)) hs ht hl hk hp (k:=k) hx
   have r1:ct s.eS.length 96=True:=qM;simp only[JZ,JY,bM,aG,aP] at la;simp only[Pe,QD,bM,br,aM,qs,r1,EW,seval];refine la (fun z=>?_)
   have lc:=fun {k Q} hx=>aaL (s:=s) (t:=t) (Q:=Q) (c:=IntKind.i64.wrap (s.tick+1)) hs ht hl (P:=abd s t (IntKind.i64.wrap (s.tick+1))) (k:=k) hx
   simp only[JZ,JY,bM,aG,aP] at lc;simp only[QD,EW,seval];refine lc (fun z=>?_)
   simp only[QD,af,aD,EW,seval];exact⟨_,rfl,rfl⟩
  ·simp only[Pe,QD,bM,br,aM,qs,aI,EW,seval];exact⟨_,rfl,rfl⟩
 obtain⟨_,rfl,h3⟩:=key;exact aB h3
def c79(s:iT)(ar:Int)(hs:s.now.ae.length<=100000)(hk:s.dW.length<=16):∃i e,aq bZ 79 [.agg (bM s),aF ar] []=some (.tuple [.agg (bM (takeN s ar).1),aF i,aF e],[]):=by
 have qg:=fun M=>Bj s.now.ae s.now.next s.now.ak ar hs M
 unfold takeN bm;generalize (find s.now.ae ar).getD Node.zero=n at qg;cases h1:(find s.now.ae ar).isSome<;>rw[h1] at qg
 ·refine⟨0,70,aB ?_⟩;simp only[Lw,E79,bM,bL,aL,qg,dG,aI,EW,seval]
 cases h2:n.kind != 2
 case true =>
  refine⟨0,73,aB ?_⟩;simp only[Lw,E79,bM,bL,aL,qg,h2,cu,af,aI,aD,EW,seval]
 simp only[p9];cases h3:decide (16<=(s.dW.length:Int))
 case true =>
  refine⟨0,76,aB ?_⟩;simp only[Lw,E79,bM,bL,aL,qg,h2,h3,cu,dM,af,aI,aD,EW,seval]
 cases h4:decide (1099511627776<=s.next)
 case true =>
  refine⟨0,76,aB ?_⟩;simp only[Lw,E79,bM,bL,aL,qg,h2,h3,h4,cu,er,af,aI,aD,EW,seval]
 have h16:s.dW.length<16:=by simp at h3; omega
 have r1:ct s.dW.length 24=True:=qM;have r2:ct (s.dW.length+1) 24=True:=qM;refine⟨s.next,0,aB ?_⟩
 simp only[Lw,E79,bM,bL,aL,qg,h2,h3,h4,r1,r2,aW,kS,cu,fF,af,aD,EW,seval];rw[show kh (s.dW++[⟨s.next,ar,s.tick⟩]) = gG (s.dW.map kS++[.agg [aF s.next,aF ar,aF s.tick]]) by simp[kS,iH]]
end
def tM(ae:List Node)(i:Int):Prop:=∃n,find ae i=some n/\n.kind=1
def Zr(ae:List Node):Prop:=oZ ae/\¬tM ae 0
def KF(a b:List Node):Prop:=Zr b/\∀i,tM a i->tM b i
theorem KF.trans{a b c:List Node}(h:KF a b)(k:KF b c):KF a c:=⟨k.1,fun i hi=>k.2 i (h.2 i hi)⟩
def Rt.zr{t:Tree}(h:Rt t):Zr t.ae:=by
 obtain⟨dJ,g⟩:=h;exact⟨g.lL.mr,fun⟨n,h1,_⟩=>by have:=(g.num _ _ h1).1; omega⟩
def KF.refl{a:List Node}(h:Zr a):KF a a:=⟨h,fun _ hi=>hi⟩
def D0{ae:List Node}(h:oZ ae){n:Node}(hn:tM ae n.ar->n.kind=1){i:Int}(hi:tM ae i):tM (eV ae n) i:=by
 unfold tM;rw[gu h];split
 ·rename_i e; exact⟨n,rfl,hn (e▸hi)⟩
 ·exact hi
def Zr.edit{ae:List Node}(h:Zr ae)(d:Int){n:Node}(h1:n.ar=(bm ae d).ar)(h2:n.kind=(bm ae d).kind):KF ae (eV ae n):=by
 have key:∀i,tM ae i->i=n.ar->n.kind=1:=by
  intro i hi e;cases hd:find ae d with
  |none =>
   have:bm ae d=Node.zero:=by simp[bm,hd]
   rw[h1,this] at e;subst e;exact absurd hi h.2
  |some m =>
   have:bm ae d=m:=by simp[bm,hd]
   rw[this] at h1 h2;have hm:=(cH hd).2;obtain⟨x,g1,g2⟩:=hi;rw[e,h1,hm,hd] at g1;injection g1 with g1
   rw[h2,g1]; exact g2
 refine⟨⟨lM h.1 n,fun⟨x,g1,g2⟩=>?_⟩,fun i hi=>D0 h.1 (fun hf=>key _ hf rfl) hi⟩
 rw[gu h.1] at g1;split at g1
 ·rename_i e;injection g1 with g1
  subst g1;cases hd:find ae d with
  |none =>
   have:bm ae d=Node.zero:=by simp[bm,hd]
   rw[h2,this] at g2;cases g2
  |some m =>
   have:bm ae d=m:=by simp[bm,hd]
   rw[this] at h1 h2;have hm:=(cH hd).2;exact h.2 ⟨m,by rw[e,h1,hm]; exact hd,by rw[<-h2]; exact g2⟩
 ·exact h.2 ⟨x,g1,g2⟩
def Zr.B5{ae:List Node}(h:Zr ae)(d:Int){n:Node}(h1:n.ar=(bm ae d).ar)(h2:n.kind=(bm ae d).kind){i:Int}(hi:tM (eV ae n) i):tM ae i:=by
 obtain⟨x,g1,g2⟩:=hi;rw[gu h.1] at g1;split at g1
 ·rename_i e;injection g1 with g1
  subst g1;cases hd:find ae d with
  |none =>
   have:bm ae d=Node.zero:=by simp[bm,hd]
   rw[h2,this] at g2;cases g2
  |some m =>
   have:bm ae d=m:=by simp[bm,hd]
   rw[this] at h1 h2;exact⟨m,by rw[e,h1,(cH hd).2]; exact hd,by rw[<-h2]; exact g2⟩
 ·exact⟨x,g1,g2⟩
def Zr.ES{ae:List Node}(h:Zr ae)(k:Int){i:Int}(hi:tM (fm ae k) i):tM ae i:=by
 unfold fm at hi;split at hi
 ·obtain⟨x,g1,g2⟩:=hi;rw[mo h.1] at g1;split at g1
  ·cases g1
  ·exact⟨x,g1,g2⟩
 ·exact h.B5 k (by rfl) (by rfl) hi
def Zr.u6{ae:List Node}(h:Zr ae)(k:Int):Zr (fQ ae k)/\∀i,tM ae i->i≠k->tM (fQ ae k) i:=by
 refine⟨⟨rQ h.1 k,fun⟨x,g1,g2⟩=>?_⟩,fun i hi hk=>?_⟩
 ·rw[mo h.1] at g1;split at g1
  ·cases g1
  ·exact h.2 ⟨x,g1,g2⟩
 ·unfold tM;rw[mo h.1,aR hk]; exact hi
def Zr.unnamed{ae:List Node}(h:Zr ae)(k:Int):KF ae (fm ae k):=by
 unfold fm;split
 ·rename_i hk;obtain⟨g1,g2⟩:=h.u6 k;refine⟨g1,fun i hi=>g2 i hi ?_⟩
  rintro rfl;obtain⟨n,h1,h2⟩:=hi;simp[bm,h1,h2] at hk
 ·exact h.edit k rfl rfl
def Jj{t:Tree}(h:Rt t)(k:Int){i:Int}(hi:tM t.ae i)(hk:i≠k):tM (kH t k).1.ae i:=by
 unfold kH
 repeat' split
 all_goals first|exact hi|exact(h.zr.u6 k).2 i hi hk
def Zr.left{ae:List Node}(h:Zr ae)(d:Int)(s:Bytes):KF ae (dD ae d s):=h.edit d rfl rfl
def Zr.nL{t:Tree}(h:Zr t.ae)(d:Int)(s:Bytes)(o:Int):KF t.ae (iu t d s o).ae:=h.edit d rfl rfl
def S3{t:Tree}(h:Rt t)(d:Int)(s:Bytes)(k:Int):KF t.ae (rZ t d s k).1.ae:=by
 have hz:=h.zr;unfold rZ;split
 ·exact KF.refl hz
 split
 ·exact KF.refl hz
 split
 ·exact KF.refl hz
 ·obtain⟨dJ,g⟩:=h;have h0:¬tM t.ae t.next:=fun⟨n,h1,_⟩=>by have:=(g.num _ _ h1).2; omega
  have h1:1<=t.next:=by
   obtain⟨r,g1,_⟩:=g.root;have:=(g.num _ _ g1).2; omega
  have hw:KF t.ae (eV t.ae ⟨t.next,k,1,[],[],if k==2 then d else 0⟩):=by
   refine⟨⟨lM hz.1 _,fun⟨x,g1,g2⟩=>?_⟩,fun i hi=>D0 hz.1 (fun hf=>absurd hf h0) hi⟩
   rw[gu hz.1,aR (show ¬((0:Int)=t.next) by omega)] at g1
   exact hz.2 ⟨x,g1,g2⟩
  exact hw.trans (Zr.nL (t:=⟨_,nz (t.next+1),t.ak⟩) hw.1 d s t.next)
def Zn{t:Tree}(h:Rt t)(i d:Int)(s:Bytes):KF t.ae (CL t i d s).1.ae:=by
 have hz:=h.zr;unfold CL;split
 ·exact KF.refl hz
 split
 ·exact KF.refl hz
 split
 ·exact KF.refl hz
 ·have hw:KF t.ae (eV t.ae { bm t.ae i with eG:=nz ((bm t.ae i).eG+1) }):=hz.edit i rfl rfl
  exact hw.trans (Zr.nL (t:=⟨_,t.next,t.ak⟩) hw.1 d s i)
def Zp{t:Tree}(h:Rt t)(d:Int)(s:Bytes):KF t.ae (BO t d s).1.ae:=by
 have hz:=h.zr;unfold BO;split
 ·exact KF.refl hz
 split
 ·exact KF.refl hz
 ·exact(hz.left d s).trans ((hz.left d s).1.unnamed _)
def Jm{t:Tree}(h:Rt t)(i:Int)(d:Bytes):KF t.ae (rT t i d).1.ae:=by
 have hz:=h.zr;unfold rT;split
 ·exact KF.refl hz
 split
 ·exact KF.refl hz
 split
 ·exact KF.refl hz
 ·exact hz.edit i rfl rfl
def Zo{t:Tree}(h:Rt t)(d:Int)(s:Bytes)(to:Int)(nm:Bytes):KF t.ae (wU t d s to nm).1.ae:=by
 have hz:=h.zr;unfold wU;split
 ·exact KF.refl hz
 split
 ·exact KF.refl hz
 split
 ·exact KF.refl hz
 split
 ·exact KF.refl hz
 split
 ·exact KF.refl hz
 split
 ·exact KF.refl hz
 split
 ·exact KF.refl hz
 ·generalize (fh t.ae d s).1=x;generalize jh (gX t.ae to).1.bc nm=y;unfold ti;have h1:=hz.left d s
  have h2:KF t.ae (if y != 0 then fm (dD (dD t.ae d s) to nm) y else dD t.ae d s):=by
   split
   ·exact h1.trans ((h1.1.left to nm).trans ((h1.1.left to nm).1.unnamed y))
   ·exact h1
  split
  ·rename_i hk
   have hx:∃m,find t.ae x=some m/\bm t.ae x=m:=by
    cases hf:find t.ae x with
    |none=>simp[bm,hf,Node.zero] at hk
    |some m=>exact⟨m,rfl,by simp[bm,hf]⟩
   obtain⟨m,m1,m2⟩:=hx;rw[m2] at hk ⊢;have hmi:=(cH m1).2;have hmk:m.kind=2:=by simpa using hk
   have hb:∀i,tM (if y != 0 then fm (dD (dD t.ae d s) to nm) y else dD t.ae d s) i->tM t.ae i:=by
    intro i hi;split at hi
    ·exact hz.B5 d (by rfl) (by rfl) (h1.1.B5 to (by rfl) (by rfl) ((h1.1.left to nm).1.ES y hi))
    ·exact hz.B5 d (by rfl) (by rfl) hi
   generalize (if y != 0 then fm (dD (dD t.ae d s) to nm) y else dD t.ae d s)=B at h2 hb
   have hw:KF B (eV B { m with up:=to }):=by
    refine⟨⟨lM h2.1.1 _,fun⟨z,g1,g2⟩=>?_⟩,fun i hi=>D0 h2.1.1 (fun hf=>?_) hi⟩
    ·rw[gu h2.1.1] at g1;split at g1
     ·injection g1 with g1
      rw[<-g1] at g2;simp only at g2;omega
     ·exact h2.1.2 ⟨z,g1,g2⟩
    ·simp only at hf;rw[hmi] at hf;obtain⟨z,g1,g2⟩:=hb _ hf;rw[m1] at g1; injection g1 with g1
     rw[<-g1] at g2;omega
   exact(h2.trans hw).trans (Zr.nL (t:=⟨_,t.next,t.ak⟩) hw.1 to nm x)
  ·exact h2.trans (Zr.nL (t:=⟨_,t.next,t.ak⟩) h2.1 to nm x)
def Mk(ae:List Node)(m:List Bool)(v:Int):Prop:=∀(a:Nat)(y:Node),ae[a]?=some y->y.ar=v->m[a]?=some true
def Clo(ae:List Node)(ar:Int)(m:List Bool):Prop:=∀(i:Nat)(x:Node),ae[i]?=some x->(x.ar=ar\/m[i]?=some true)->∀e,e∈x.bc->Mk ae m e.ar
def nT(m:List Bool):Nat:=m.countP id
def ahr{m:List Bool}{a:Nat}(h:m[a]?=some false):nT (m.set a true)=nT m+1:=by
 have ha:=(aj.1 h).1;have hv:=(aj.1 h).2;unfold nT;rw[List.countP_set ha];simp[hv]
def aey{ae:List Node}(h:oZ ae){a b:Nat}{x y:Node}(hx:ae[a]?=some x)(hy:ae[b]?=some y)(e:x.ar=y.ar):a=b:=by
 obtain⟨ha,rfl⟩:=aj.1 hx;obtain⟨hb,rfl⟩:=aj.1 hy;rcases ja a b with h1|h1|h1
 ·have:=cm.1 h _ _ ha hb h1; omega
 ·exact h1
 ·have:=cm.1 h _ _ hb ha h1; omega
def ae8{t:Tree}{dJ:Int->Nat}(h:dY t dJ 0){ar:Int}{m:List Bool}(hc:Clo t.ae ar m){v:Int}(hv:InB t.ae ar v):Mk t.ae m v:=by
 have step:∀ {d:Node},d∈t.ae->(d.ar=ar\/Mk t.ae m d.ar)->∀e,e∈d.bc->Mk t.ae m e.ar:=fun hd ho e he=>by
  obtain⟨a,ha⟩:=bX hd;exact hc a _ ha (ho.imp id fun hk=>hk a _ ha rfl) e he
 have key:∀(c:Nat)(i:Int)(n:Node),find t.ae i=some n->n.kind=2->dJ i=c->iP t.ae i ar=true->i=ar\/Mk t.ae m i:=by
  intro c;induction c with
  |zero =>
   intro i n hi hk hd hb
   by_cases ho:i=ar
   ·exact .inl ho
   ·by_cases h1:i=1
    ·subst h1;rw[dY.qO (fun hh=>ho hh.symm)] at hb; cases hb
    ·have:=(h.qI _ _ hi hk h1).1; omega
  |succ c ih =>
   intro i n hi hk hd hb
   by_cases ho:i=ar
   ·exact .inl ho
   ·right;have h1:i≠1:=fun hh=>by subst hh; have:=h.CF; omega
    rw[h.sA hi hk h1 ho] at hb;obtain⟨a,q,hq,hqk⟩:=h.qI _ _ hi hk h1;obtain⟨p,e',p1,p2,p3,p4⟩:=h.named hi hk h1 (by have:=(h.num _ _ hi).1; omega)
    have hp:=ih n.up p p1 p2 aJ hb;have:=step (cH p1).1 (by rw[(cH p1).2]; exact hp) e' p3
    rwa[p4] at this
 obtain⟨d,e,hd,hk,hb,he,rfl⟩:=hv;exact step hd (key _ _ d ((ik h.lL.mr).2 ⟨hd,rfl⟩) hk rfl hb) e he
def ah6{ae:List Node}:∀ {a b:List Bool},a.length=ae.length->b.length=ae.length->(∀i:Nat,a[i]?=some true->b[i]?=some true)->nT a<=nT b/\HR ae a<=HR ae b:=by
 induction ae with
 |nil =>
  intro a b ha hb _;rw[dH ha,dH hb];exact⟨au _,au _⟩
 |cons n r ih =>
  intro a b ha hb hab;cases a with
  |nil=>cases ha
  |cons x a =>
  cases b with
  |nil=>cases hb
  |cons y b =>
  obtain⟨h1,h2⟩:=ih (a:=a) (b:=b) (by simpa using ha) (by simpa using hb) fun i hi=>by simpa using hab (i+1) (by simpa using hi)
  have h0:x=true->y=true:=fun e=>by simpa using hab 0 (by simp[e])
  simp only[nT,HR] at h1 h2 ⊢;simp only[lU,List.zip_cons_cons,aH,List.sum_cons,id] at h1 h2 ⊢;cases x<;>cases y<;>simp at h0 ⊢ <;> omega
def Rp{t:Tree}(hr:Rt t){ar:Int}{m:List Bool}(hm:m.length=t.ae.length)(hc:Clo t.ae ar m):(lx t.ae ar).1<=nT m/\(lx t.ae ar).2<=HR t.ae m:=by
 rw[HO hr];obtain⟨dJ,h⟩:=hr;obtain⟨q,h1,h2⟩:=xf t.ae ar
 have:=ah6 (ae:=t.ae) (a:=sF t.ae ar) (b:=m) (by rw[h1]; simp) hm fun i hi=>by
  rw[h1,aX] at hi;obtain⟨n,hn,hq⟩:=aV.1 hi;exact ae8 h hc ((h2 n).1 hq) i n hn rfl
 unfold nT at this ⊢;unfold OX;simp only;omega
def Ze{l:List dV}(h:py l)(ar:Int):F5 l ar=true↔∃x,x∈l/\x.ar=ar:=by
 have hl:=ye h ar;unfold F5 pn
 have hc:∀a b:Int,(qQ a b==0)=true↔a=b:=fun a b=>by
  unfold qQ;simp only[bh,eu];split
  ·constructor<;>intro<;>omega
  split
  ·constructor<;>intro<;>omega
  ·constructor<;>intro<;>omega
 have cJ:∀a b:Int,decide (qQ a b<0)=true↔a<b:=fun a b=>by
  unfold qQ;simp only[bh];split
  ·constructor<;>intro<;>omega
  split
  ·constructor<;>intro<;>omega
  ·constructor<;>intro<;>omega
 constructor
 ·intro hq;split at hq
  ·rename_i x hx;exact⟨x,aE hx,(hc _ _).1 hq⟩
  ·cases hq
 ·rintro⟨x,hx,rfl⟩;obtain⟨i,hi⟩:=bX hx;have h1:=hl.lt i x hi;rw[cJ] at h1
  have hge:wP l x.ar<=i:=by
   rcases bC i (wP l x.ar) with h2|h2
   ·have:=h1.2 h2; omega
   ·exact h2
  have hil:=(aj.1 hi).1;have hb:l[wP l x.ar]?=some (l[wP l x.ar]'(by omega)):=ai _
  rw[hb];simp only;rw[hc];rcases bC (wP l x.ar) i with h2|h2
  ·have h3:=hl.lt _ _ hb;rw[cJ] at h3;have h4:=cm.1 h _ _ aJ hil h2;have h5:=(aj.1 hi).2;rw[h5] at h4;have:=h3.1 h4;omega
  ·have:wP l x.ar=i:=aJ;have h5:=(aj.1 hi).2;simp only[this,h5]
def Dz{t:Tree}{dJ:Int->Nat}(h:dY t dJ 0)(l:List dV):∀(f g:Nat)(i:Int)(n:Node),find t.ae i=some n->n.kind=2->dJ i<f->dJ i<g->sG t.ae l f i=sG t.ae l g i
 |0,_,_,_,_,_,hf,_=>aJ
 |_+1,0,_,_,_,_,_,hg=>aJ
 |f+1,g+1,i,n,hi,hk,hf,hg=>by
  rw[sG,sG];split
  ·rfl
  split
  ·rename_i h1;obtain⟨a,p,p1,p2⟩:=h.qI _ _ hi hk (by simpa using h1)
   have hn:bm t.ae i=n:=by simp[bm,hi]
   rw[hn];exact Dz h l f g n.up p p1 p2 aJ aJ
  ·rfl
def Lb{t:Tree}{dJ:Int->Nat}(h:dY t dJ 0)(l:List dV){i:Int}{n:Node}(hi:find t.ae i=some n)(hk:n.kind=2):mg t.ae l i=if F5 l i then i else if i=1 then 0 else mg t.ae l n.up:=by
 have hn:bm t.ae i=n:=by simp[bm,hi]
 unfold mg
 conv=>lhs; rw[sG]
 rw[hn]
 by_cases h1:i=1
 ·simp[h1]
 ·obtain⟨a,p,p1,p2⟩:=h.qI _ _ hi hk h1;have hd:=(h.deep _ _ hi hk).1;have h1':(i != 1)=true:=by simpa using h1
  rw[h1'];simp only[aI,h1,aD];rw[Dz h l 12 13 n.up p p1 p2 aJ aJ]
def IB{t:Tree}{dJ:Int->Nat}(h:dY t dJ 0)(l:List dV):∀(f:Nat)(i:Int)(n:Node),find t.ae i=some n->n.kind=2->0<=sG t.ae l f i
 |0,_,_,_,_=>dU 0
 |f+1,i,n,hi,hk=>by
  rw[sG];split
  ·have:=(h.num _ _ hi).1; omega
  split
  ·rename_i h1;obtain⟨_,p,p1,p2⟩:=h.qI _ _ hi hk (by simpa using h1)
   have hn:bm t.ae i=n:=by simp[bm,hi]
   rw[hn];exact IB h l f n.up p p1 p2
  ·exact dU 0
def OD(t:Tree)(l:List dV):Prop:=∀d1 e1 d2 e2 x,d1∈t.ae->e1∈d1.bc->d2∈t.ae->e2∈d2.bc->e1.ar=e2.ar->find t.ae e1.ar=some x->x.kind=1->mg t.ae l d1.ar=mg t.ae l d2.ar
def xg{t u:Tree}{dJ:Int->Nat}(h:dY t dJ 0)(hk:∀i n,find t.ae i=some n->n.kind=2->(bm u.ae i).up=n.up)(l:List dV):∀(f:Nat)(i:Int)(n:Node),find t.ae i=some n->n.kind=2->sG u.ae l f i=sG t.ae l f i
 |0,_,_,_,_=>rfl
 |f+1,i,n,hi,hk2=>by
  have h1:bm t.ae i=n:=by simp[bm,hi]
  rw[sG,sG,h1,hk _ _ hi hk2];split
  ·rfl
  split
  ·rename_i hne;obtain⟨_,p,p1,p2⟩:=h.qI _ _ hi hk2 (by simpa using hne)
   exact xg h hk l f n.up p p1 p2
  ·rfl
def dY.RD{t:Tree}{dJ:Int->Nat}(h:dY t dJ 0){d:Node}{e:gP}(hd:d∈t.ae)(he:e∈d.bc):find t.ae d.ar=some d/\d.kind=2:=by
 have hf:=(ik h.lL.mr).2 ⟨hd,rfl⟩;refine⟨hf,?_⟩;rcases h.kind _ _ hf with h1|h1
 ·rw[(h.file _ _ hf h1).1] at he; cases he
 ·exact h1
def XV(ae:List Node)(i:Int):Prop:=∃n,find ae i=some n/\n.kind=2
def RF(a b:List Node):Prop:=∀i,tM b i->tM a i\/find a i=none
def XV.no{a:List Node}{i:Int}(h:XV a i)(hf:tM a i\/find a i=none):False:=by
 obtain⟨n,h1,h2⟩:=h;rcases hf with ⟨m,g1,g2⟩|h3
 ·rw[h1] at g1; cases g1; omega
 ·rw[h1] at h3; cases h3
def Rt.XV{t:Tree}(h:Rt t){i:Int}{n:Node}(hn:find t.ae i=some n)(hf:¬tM t.ae i):XV t.ae i:=by
 obtain⟨dJ,g⟩:=h;rcases g.kind _ _ hn with hk|hk
 ·exact absurd ⟨n,hn,hk⟩ hf
 ·exact⟨n,hn,hk⟩
def Zr.Ce{ae:List Node}(h:Zr ae)(d:Int)(s:Bytes){i:Int}(hi:tM (dD ae d s) i):tM ae i:=h.B5 d (by rfl) (by rfl) hi
def Zr.zM{t:Tree}(h:Zr t.ae)(d:Int)(s:Bytes)(o:Int){i:Int}(hi:tM (iu t d s o).ae i):tM t.ae i:=h.B5 d (by rfl) (by rfl) hi
def ahV{t:Tree}(h:Rt t)(d:Int)(s:Bytes)(k:Int):RF t.ae (rZ t d s k).1.ae:=by
 have hz:=h.zr;intro i hi;unfold rZ at hi;split at hi
 ·exact .inl hi
 split at hi
 ·exact .inl hi
 split at hi
 ·exact .inl hi
 ·obtain⟨dJ,g⟩:=h
  have h0:find t.ae t.next=none:=by
   cases hf:find t.ae t.next with
   |none=>rfl
   |some n=>have:=(g.num _ _ hf).2; omega
  have h1:1<=t.next:=by
   obtain⟨r,g1,_⟩:=g.root;have:=(g.num _ _ g1).2; omega
  have hw:Zr (eV t.ae ⟨t.next,k,1,[],[],if k==2 then d else 0⟩):=by
   refine⟨lM hz.1 _,fun⟨x,g1,g2⟩=>?_⟩
   rw[gu hz.1,aR (show ¬((0:Int)=t.next) by omega)] at g1
   exact hz.2 ⟨x,g1,g2⟩
  obtain⟨x,g1,g2⟩:=Zr.zM (t:=⟨_,nz (t.next+1),t.ak⟩) hw d s t.next hi
  have g1:find (eV t.ae ⟨t.next,k,1,[],[],if k==2 then d else 0⟩) i=some x:=g1
  rw[gu hz.1] at g1
  by_cases e:i=t.next
  ·right; rw[e]; exact h0
  ·rw[aR e] at g1; exact .inl ⟨x,g1,g2⟩
def an0{t:Tree}(h:Rt t)(j d:Int)(s:Bytes):RF t.ae (CL t j d s).1.ae:=by
 have hz:=h.zr;intro i hi;unfold CL at hi;split at hi
 ·exact .inl hi
 split at hi
 ·exact .inl hi
 split at hi
 ·exact .inl hi
 ·have hw:KF t.ae (eV t.ae { bm t.ae j with eG:=nz ((bm t.ae j).eG+1) }):=hz.edit j rfl rfl
  exact .inl (hz.B5 j (by rfl) (by rfl) (Zr.zM (t:=⟨_,t.next,t.ak⟩) hw.1 d s j hi))
def an3{t:Tree}(h:Rt t)(d:Int)(s:Bytes):RF t.ae (BO t d s).1.ae:=by
 have hz:=h.zr;intro i hi;unfold BO at hi;split at hi
 ·exact .inl hi
 split at hi
 ·exact .inl hi
 ·exact .inl (hz.Ce d s ((hz.left d s).1.ES _ hi))
def Xa{t:Tree}(h:Rt t)(j:Int)(d:Bytes):RF t.ae (rT t j d).1.ae:=by
 have hz:=h.zr;intro i hi;unfold rT at hi;split at hi
 ·exact .inl hi
 split at hi
 ·exact .inl hi
 split at hi
 ·exact .inl hi
 ·exact .inl (hz.B5 j (by rfl) (by rfl) hi)
def an1{t:Tree}(h:Rt t)(d:Int)(s:Bytes)(to:Int)(nm:Bytes):RF t.ae (wU t d s to nm).1.ae:=by
 have hz:=h.zr;intro i hi;left;unfold wU at hi;split at hi
 ·exact hi
 split at hi
 ·exact hi
 split at hi
 ·exact hi
 split at hi
 ·exact hi
 split at hi
 ·exact hi
 split at hi
 ·exact hi
 split at hi
 ·exact hi
 ·generalize (fh t.ae d s).1=x at hi;generalize jh (gX t.ae to).1.bc nm=y at hi;unfold ti at hi;have h1:=hz.left d s
  have hb:∀i,tM (if y != 0 then fm (dD (dD t.ae d s) to nm) y else dD t.ae d s) i->tM t.ae i:=by
   intro i hi;split at hi
   ·exact hz.Ce d s (h1.1.Ce to nm ((h1.1.left to nm).1.ES y hi))
   ·exact hz.Ce d s hi
  have h2:Zr (if y != 0 then fm (dD (dD t.ae d s) to nm) y else dD t.ae d s):=by
   split
   ·exact((h1.1.left to nm).1.unnamed y).1
   ·exact h1.1
  refine hb i ?_;generalize (if y != 0 then fm (dD (dD t.ae d s) to nm) y else dD t.ae d s)=B at h2 hi
  split at hi
  ·rename_i hk;have hk2:(bm t.ae x).kind=2:=by simpa using hk
   have hw:∀j,tM (eV B { bm t.ae x with up:=to }) j->tM B j:=by
    rintro j ⟨z,g1,g2⟩;rw[gu h2.1] at g1;split at g1
    ·injection g1 with g1
     rw[<-g1] at g2;simp only at g2;omega
    ·exact⟨z,g1,g2⟩
   exact hw _ (Zr.zM (t:=⟨_,t.next,t.ak⟩) ⟨lM h2.1 _,fun hf=>h2.2 (hw _ hf)⟩ to nm x hi)
  ·exact Zr.zM (t:=⟨_,t.next,t.ak⟩) h2 to nm x hi
def A5{t:Tree}(h:Rt t)(k i:Int):find (kH t k).1.ae i=if i=k/\∃n,find t.ae k=some n/\gV n=true then none else find t.ae i:=by
 have hz:=h.zr;obtain⟨dJ,g⟩:=h;unfold kH;cases hf:find t.ae k with
 |none=>simp
 |some n =>
  have hn:bm t.ae k=n:=by simp[bm,hf]
  have hl:=g.eG _ _ hf;simp only[bW,cu,af,aD,hn];rcases g.kind _ _ hf with hk|hk
  ·have h1:(n.kind==2)=false:=by simp[hk]
   simp only[h1,af,aD];split
   ·rename_i h2;have h2':0<n.eG:=by simpa using h2
    have:gV n=false:=by simp[gV,hk]; omega
    simp[this]
   ·rename_i h2;have h2':¬0<n.eG:=by simpa using h2
    have h3:0<=n.eG:=by rw[hl]; split<;>omega
    have:gV n=true:=by simp[gV,hk]; omega
    rw[mo hz.1];simp[this]
  ·have h1:(n.kind==2)=true:=by simp[hk]
   have:gV n=false:=by simp[gV,hk]
   simp[h1,this]
def aaU{t:Tree}(hr:Rt t)(k:Int)(l:List dV)(ho:OD t l):OD (kH t k).1 l:=by
 have hf:=A5 hr k;have hu:=(hr.free k).lL.mr;obtain⟨dJ,h⟩:=hr
 have back:∀ {d:Node},d∈(kH t k).1.ae->d∈t.ae:=fun hd=>by
  have h1:=(ik hu).2 ⟨hd,rfl⟩;rw[hf] at h1;split at h1
  ·cases h1
  ·exact(cH h1).1
 have rn:∀i n,find t.ae i=some n->n.kind=2->(bm (kH t k).1.ae i).up=n.up:=fun i n h1 h2=>by
  unfold bm;rw[hf,aR,h1]
  ·rfl
  rintro⟨rfl,m,g1,g2⟩;rw[h1] at g1; cases g1;simp[gV,h2] at g2
 intro d1 e1 d2 e2 x h1 h2 h3 h4 h5 h6 h7;obtain⟨a1,a2⟩:=h.RD (back h1) h2;obtain⟨b1,b2⟩:=h.RD (back h3) h4
 have hx:find t.ae e1.ar=some x:=by
  rw[hf] at h6;split at h6
  ·cases h6
  ·exact h6
 unfold mg;rw[xg h rn l 13 _ _ a1 a2,xg h rn l 13 _ _ b1 b2];exact ho d1 e1 d2 e2 x (back h1) h2 (back h3) h4 h5 hx h7
def HJ:Bytes->Bytes->List Bytes->Option (List Bytes)
 | [],cur,out=>if !fW cur||(out.length:Int)==12 then none else some (out++[cur])
 |b::r,cur,out=>if (b.toNat:Int) != 47 then HJ r (cur++[b]) out else if !fW cur||(out.length:Int)==12 then none else HJ r [] (out++[cur])
def pX(s:Bytes):List Bytes×Int:=if s==[47] then ([],0) else match s with
 | []=>([],60)
 |b::r=>if (b.toNat:Int) != 47 then ([],60) else match HJ r [] [] with
  |none=>([],60)
  |some l=>(l,0)
section
attribute [local irreducible] eX fJ lu gK eb kr aq aU cq bI
def ahn{s:Bytes}(hs:s.length<=100000){k:List K}{R:Option (List Bytes)->Option (ag×aC)}
  (hx:∀(l:List Bytes) z,kr (aq bZ) [.tmp 2,.tmp 3] 0 k ⟨.exit 0,(0,.str s)::(4,.slice (.own 0) (l.map .str))::z,[.tick 1 l.length]⟩=R (some l))
  (hr:∀n,kr (aq bZ) [.tmp 2,.tmp 3] 0 k ⟨.ret,[(2,.slice .c0 []),(3,aF 60)],[.tick 1 n]⟩=R none) :
  ∀(rest:Bytes)(n m:Nat)(cur:Bytes)(out:List Bytes),s.drop m=rest->m+rest.length=s.length->n<=m->(s.take m).drop n=cur->out.length<=12 ->
   eX (aq bZ) [.tmp 2,.tmp 3] 0 k (.loop [0,4,5,6] ahh) [(0,.str s),(4,.slice (.own 0) (out.map .str)),(5,aF n),(6,aF m)] [.tick 1 out.length]=R (HJ rest cur out):=by
 intro rest;induction rest with
 |nil =>
  intro n m cur out h1 h2 h3 h4 h5;simp only[az,dp] at h2;rw[bG];have e1:((m:Int)<=(s.length:Int))=True:=su;have e2:((m:Int)<(s.length:Int))=False:=XZ;have e3:((n:Int)<=(m:Int))=True:=su;have w1:IntKind.i64.wrap ((m:Int)+1)=(m:Int)+1:=gA aJ aJ;have e4:((m:Int)+1<=(s.length:Int))=False:=XZ;have hc:cur.length<=100000:=by rw[<-h4]; simp; omega
  have q:=fun M=>S0 cur hc M
  have r1:ct (out.length+1) 16=True:=qM;have i1:=hx (out++[cur]);simp only[aW,aH,aQ,aA,aw,az,aK] at i1;rw[HJ]
  cases h6:fW cur<;>rw[h6] at q<;>cases h7:(out.length:Int)==12 <;>
   simp only[QE,e1,e2,e3,h4,q,h7,dM,cV,er,fE,aI,af,aD,EW,seval]<;>first|exact hr _|skip
  simp only[QE,r1,w1,EW,seval];rw[bG];simp only[QE,e4,EW,seval];exact i1 _
 |cons b r ih =>
  intro n m cur out h1 h2 h3 h4 h5;simp only[aw] at h2;rw[bG];have e1:((m:Int)<=(s.length:Int))=True:=su;have e2:((m:Int)<(s.length:Int))=True:=su;have e3:((n:Int)<=(m:Int))=True:=su;have w1:IntKind.i64.wrap ((m:Int)+1)=((m+1:Nat):Int):=by rw[gA aJ aJ]; rfl
  have hc:cur.length<=100000:=by rw[<-h4]; simp; omega
  have hb:s[m]?=some b:=by
   have:(s.drop m)[0]?=some b:=by rw[h1]; rfl
   simpa using this
  have hd:s.drop (m+1)=r:=by rw[<-List.drop_drop,h1]; rfl
  have hm:=(aj.1 hb).1
  have ht:(s.take (m+1)).drop n=cur++[b]:=by
   rw[cB,hb,kG,List.drop_append_of_le_length gm,h4]
  have q:=fun M=>S0 cur hc M
  have r1:ct (out.length+1) 16=True:=qM;have i1:=ih n (m+1) (cur++[b]) out hd aJ aJ ht h5;have i2:=fun h=>ih (m+1) (m+1) [] (out++[cur]) hd aJ aJ dx h
  simp only[aW,aH,aQ,aA,aw,az,aK] at i2;rw[HJ];cases h8:(b.toNat:Int) != 47
  ·cases h6:fW cur<;>rw[h6] at q<;>cases h7:(out.length:Int)==12 <;>
    simp only[QE,e1,e2,e3,h4,hb,h8,q,h7,dM,cV,er,fE,aI,af,aD,EW,seval]<;>first|exact hr _|skip
   have h9:out.length+1<=12:=by simp at h7; omega
   simp only[QE,r1,w1,EW,seval];exact i2 h9
  ·simp only[QE,e1,e2,hb,h8,w1,aI,EW,seval];exact i1
def c85(s:Bytes)(hs:s.length<=100000):aq bZ 85 [.str s] []=some (.tuple [dj (pX s).1,aF (pX s).2],[]):=by
 refine aB ?_;unfold pX;cases h0:s==[47]
 ·cases s with
  |nil=>simp only[Ph,QE,h0,af,aD,EW,seval]; rfl
  |cons b r =>
   have h1:((b::r)==[])=false:=rfl;cases h8:(b.toNat:Int) != 47
   ·have hl:=fun {k R} hx hr=>ahn hs (k:=k) (R:=R) hx hr r 1 1 [] [] rfl gm aJ dx dx
    simp only[aQ,az] at hl;simp only[Ph,QE,h0,h1,h8,af,aD,EW,seval];refine hl (R:=fun o=>some (.tuple [dj (match o with|none=>(([]:List Bytes),(60:Int))|some l=>(l,0)).1,aF (match o with|none=>(([]:List Bytes),(60:Int))|some l=>(l,0)).2],[])) (fun l z=>?_) (fun n=>?_)
    ·simp only[QE,EW,seval]
    ·simp only[QE,EW,seval]; rfl
   ·simp only[Ph,QE,h0,h1,h8,af,aD,aI,EW,seval]; rfl
 ·simp only[Ph,QE,h0,aI,EW,seval]; rfl
def k85 s hs:=cP (c85 s hs)
def ze(l:List Bytes)(s:Bytes):Bytes:=l.foldl (fun s x=>s++[47]++x) s
def Nn(l:List Bytes):Bytes:=if (l.length:Int)==0 then [47] else ze l []
def D1:∀(l:List Bytes)(s:Bytes),(∀x,x∈l->x.length<=32)->(ze l s).length<=s.length+33*l.length
 | [],s,_=>by simp[ze]
 |x::l,s,h=>by
  have h1:=D1 l (s++[47]++x) fun y hy=>h y (bt _ hy)
  have h2:=h x bD;simp only[ze,eM,aA,aw,az] at h1 ⊢;omega
def aqK(l:List Bytes)(hl:l.length<=100)(h:∀x,x∈l->x.length<=32):aq bZ 170 [dj l] []=some (.str (Nn l),[]):=by
 refine aB ?_;unfold Nn;cases h0:(l.length:Int)==0<;>simp only[acL,X7,h0,af,aD,aI,EW,seval]
 have key:∀ {k:List K} {R:Bytes->Option (ag×aC)} (hx:∀s z,kr (aq bZ) [.tmp 2] 0 k ⟨.exit 0,(0,dj l)::(3,.str s)::z,[]⟩=R s) (rest pre:List Bytes) (s:Bytes),l=pre++rest->s.length<=33*pre.length->eX (aq bZ) [.tmp 2] 0 k (.loop [0,3,4] ZV) [(0,dj l),(3,.str s),(4,aF pre.length)] []=R (ze rest s):=by
  intro k R hx rest;induction rest with
  |nil =>
   intro pre s e _;rw[bG];simp only[X7,jL e,ze,ng,EW,seval];exact hx _ _
  |cons x r ih =>
   intro pre s e hs;rw[bG];have hxl:=h x (by rw[e]; simp)
   have hp:pre.length+1<=100:=by rw[e] at hl; simp at hl; omega
   have hw:=zy pre x;have i1:=ih (pre++[x]) (s++[47]++x) (by rw[e]; simp) gm
   have m1:(IntKind.i64.max<((s.length+1:Nat):Int))=False:=max_lt _ aJ;have m2:(IntKind.i64.max<((s.length+1+x.length:Nat):Int))=False:=max_lt _ aJ;simp only[aA,aw,az,aK] at i1;simp only[ze,eM] at i1 ⊢;simp only[X7,iQ e,gU e,hw,m1,m2,EW,seval];exact i1
 exact key (R:=fun s=>some (.str s,[])) (fun s z=>by simp only[X7,EW,seval]) l [] [] rfl dx
def asM l hl h:=cP (aqK l hl h)
def abu:∀(rest cur:Bytes)(out l:List Bytes),HJ rest cur out=some l->(∀x,x∈out->fW x=true)->out.length<=12->(∀x,x∈l->fW x=true)/\l.length<=12:=by
 have key:∀(cur:Bytes)(out:List Bytes),¬(!fW cur||(out.length:Int)==12)=true->(∀x,x∈out->fW x=true)->out.length<=12->(∀x,x∈out++[cur]->fW x=true)/\(out++[cur]).length<=12:=by
  intro cur out h1 h2 h3;simp only[df,iq,eu,pc,Bool.not_eq_false] at h1;refine⟨fun x hx=>?_,gm⟩
  rcases bq.1 hx with hx|hx
  ·exact h2 x hx
  ·rw[bT.1 hx]; exact h1.1
 intro rest;induction rest with
 |nil =>
  intro cur out l h h1 h2;rw[HJ] at h;split at h
  ·cases h
  ·rename_i hc;cases h;exact key cur out hc h1 h2
 |cons b r ih =>
  intro cur out l h h1 h2;rw[HJ] at h;split at h
  ·exact ih _ _ _ h h1 h2
  split at h
  ·cases h
  ·rename_i hc;obtain⟨k1,k2⟩:=key cur out hc h1 h2;exact ih _ _ _ h k1 k2
def yl(s:Bytes):(∀x,x∈(pX s).1->fW x=true)/\(pX s).1.length<=12:=by
 unfold pX;split
 ·simp
 split
 ·simp
 split
 ·simp
 split
 ·simp
 ·rename_i h;exact abu _ _ _ _ h dx dx
def Cc(s:Bytes):Bytes×Bytes×Int:=if (pX s).2 != 0||(((pX s).1.length:Int)==0) then ([],[],60) else ((pX s).1.getLast?.getD [],Nn (pX s).1.dropLast,0)
def ap2(s:Bytes)(hs:s.length<=100000):aq bZ 116 [.str s] []=some (.tuple [.str (Cc s).1,.str (Cc s).2.1,aF (Cc s).2.2],[]):=by
 refine aB ?_;have q:=fun M=>k85 s hs M
 obtain⟨o1,o2⟩:=yl s;unfold Cc;generalize pX s=X at q o1 o2;obtain⟨l,e⟩:=X;simp only at q o1 o2 ⊢;cases h1:e != 0
 ·cases h2:(l.length:Int)==0
  ·obtain⟨A,x,rfl⟩:∃A x,l=A++[x]:=by
    refine⟨l.dropLast,l.getLast (by rintro rfl; simp at h2),(List.dropLast_concat_getLast _).symm⟩
   have qj:=fun M=>asM A (by simp at o2; omega) (fun y hy=>qS (o1 y (by simp[hy]))) M
   simp only[aA,aw,az,aK] at h2 o2;have w1:IntKind.i64.wrap (((A.length+1:Nat):Int)-1)=(A.length:Int):=by rw[gA aJ aJ]; omega
   have a1:(A++[x])[A.length]?=some x:=dx;have a2:((A.length:Int)<((A.length+1:Nat):Int))=True:=su;have a3:((A.length:Int)<=((A.length+1:Nat):Int))=True:=su;have a4:((A.length:Int)<0)=False:=dx;have a5:(A++[x]).take A.length=A:=dx;simp only[MW,ad9,q,h1,h2,w1,a2,a3,a4,a1,<-eP,a5,qj,fF,fE,af,aD,List.getLast?_append,List.getLast?_singleton,List.dropLast_concat,bz,Option.or_some,Option.some_or,EW,seval]
  ·simp only[MW,ad9,q,h1,h2,er,cV,aI,EW,seval]
 ·simp only[MW,ad9,q,h1,dM,aI,EW,seval]
def AB(ae:List Node):List Bytes->Int->Int×Int
 | [],a=>(a,0)
 |x::r,a=>if (fh ae a x).2 != 0 then (0,(fh ae a x).2) else AB ae r (fh ae a x).1
def Cz(ae:List Node)(s:Bytes):Int×Int:=if (pX s).2 != 0 then (0,(pX s).2) else AB ae (pX s).1 1
def c66(t:Tree)(s:Bytes)(ht:Small t)(hs:s.length<=100000):aq bZ 66 [br t,.str s] []=some (.tuple [aF (Cz t.ae s).1,aF (Cz t.ae s).2],[]):=by
 refine aB ?_;have q:=fun M=>k85 s hs M
 obtain⟨o1,o2⟩:=yl s;unfold Cz;generalize pX s=X at q o1 o2;obtain⟨l,e⟩:=X;simp only at q o1 o2 ⊢;cases h1:e != 0<;>simp only[alV,E66,br,aM,q,h1,af,aD,aI,EW,seval]
 refine A4 (xs:=l) aJ (AB t.ae) (fun a i=>[(2,cA 0),(6,dj l),(8,aF a),(9,aF i)]) (fun _=>[cC [ba t.ae,aF t.next,aF t.ak]]) (fun p=>some (.tuple [aF p.1,aF p.2],([]:aC))) (fun a=>?_) (fun pre x post a h hx cJ hw h0 hm hi=>?_) 1
 ·simp only[E66,bl,AB,EW,seval]
 ·have ql:=fun M=>k72 t.ae t.next t.ak a x ht (by have:=qS (o1 x hm); omega) M
  rw[AB];have i1:=hi (fh t.ae a x).1;generalize fh t.ae a x=u at ql i1;cases h2:u.2 != 0<;>simp only[E66,cJ,hx,hw,ql,h2,af,aD,aI,EW,seval]
  exact i1
def k66(ae:List Node)(next ak:Int)(s:Bytes)(ht:Small ⟨ae,next,ak⟩)(hs:s.length<=100000)(M:aC):aU (aq bZ) 66 [.agg [ba ae,aF next,aF ak],.str s] M=some (.tuple [aF (Cz ae s).1,aF (Cz ae s).2],M):=cO (c66 ⟨ae,next,ak⟩ s ht hs) M
end
def rM(q:dV):List dV->Bool->List dV
 | [],d=>if d then [] else [q]
 |x::r,d=>(if !d&&decide (q.ar<=x.ar) then [q] else [])++((if x.ar != q.ar then [x] else [])++rM q r (d||decide (q.ar<=x.ar)))
def zt(q:dV):∀l,rM q l true=l.filter fun x=>x.ar != q.ar
 | []=>rfl
 |x::r=>by
  rw[rM,dM,zt q r,fq];cases x.ar != q.ar<;>rfl
theorem Mi(q x:dV)(r:List dV):rM q (x::r) false=if q.ar<=x.ar then q::(x::r).filter fun x=>x.ar != q.ar else x::rM q r false:=by
 rw[rM]
 by_cases h:q.ar<=x.ar
 ·rw[aZ h,il h,cV,zt,fq];cases x.ar != q.ar<;>rfl
 grind
theorem GB(q:dV):∀l,py l->py (rM q l false)/\(∀y,y∈rM q l false->y=q\/y∈l)/\(rM q l false).length<=l.length+1/\((∃x,x∈l/\x.ar=q.ar)->(rM q l false).length<=l.length)
 | [],_=>⟨List.pairwise_singleton _ _,fun y hy => .inl (by grind [rM]),au _,fun⟨x,h,_⟩=>jK⟩
 |x::r,h=>by
  have hc:=du.1 h;obtain⟨i1,i2,i3,i4⟩:=GB q r hc.2;rw[Mi]
  grind [List.pairwise_cons]
section
attribute [local irreducible] eX fJ lu gK eb kr aq aU cq bI
def aqi(t:Tree)(ar:Int)(ht:t.ae.length<=100000):aq bZ 133 [br t,aF ar] []=some (.bool ((find t.ae ar).isSome&&(bm t.ae ar).kind==2),[]):=by
 refine aB ?_;have q:=fun M=>Bj t.ae t.next t.ak ar ht M
 have hz:(find t.ae ar).getD Node.zero=bm t.ae ar:=rfl;rw[hz] at q;generalize bm t.ae ar=n at q
 cases h1:(find t.ae ar).isSome<;>rw[h1] at q<;>cases h2:n.kind==2 <;>
  simp only[acv,aoM,br,aM,q,h2,bL,aL,dR,EW,seval]
def amt(ae:List Node)(next ak ar:Int)(h:ae.length<=100000)(M:aC):aU (aq bZ) 133 [.agg [ba ae,aF next,aF ak],aF ar] M=some (.bool ((find ae ar).isSome&&(bm ae ar).kind==2),M) :=
 cO (aqi ⟨ae,next,ak⟩ _ h) M
def Plc(ae:List Node)(ar n:Int):Prop:=(n = -1/\∀y,y∈ae->y.ar≠ar)\/∃(i:Nat) (y:Node),ae[i]?=some y/\y.ar=ar/\n=i
def arB(t:Tree)(ar:Int)(ht:t.ae.length<=100000):∃n:Int,aq bZ 237 [br t,aF ar] []=some (aF n,[])/\Plc t.ae ar n:=by
 have key:∃r:ag×aC,(∃n:Int,r=(aF n,[])/\Plc t.ae ar n)/\eX (aq bZ) M9.results 0 [] M9.body (eH 0 [br t,aF ar]) []=some r:=by
  simp only[M9,aes,br,aM,EW,seval];refine je (xs:=t.ae) aJ (fun m (_:Unit)=>∀y,y∈t.ae.take m->y.ar≠ar) (fun _ i=>[(1,aF ar),(2,cA 0),(5,aF i)]) (fun _=>[cC [ba t.ae,aF t.next,aF t.ak]]) _ (fun _ hq=>?_) (fun pre x post _ e hx cJ hw h0 hm hq hi=>?_) () (fun y hy=>by simp at hy)
  ·simp only[aes,bl,EW,seval];exact⟨_,⟨-1,rfl,.inl ⟨rfl,by rwa[bF] at hq⟩⟩,rfl⟩
  ·have htk:t.ae.take (pre.length+1)=t.ae.take pre.length++[x]:=by rw[cB,hx]; rfl
   have i1:=fun h=>hi () (fun y hy=>by
    rw[htk] at hy;exact(bq.1 hy).elim (hq y) fun hy=>by rw[bT.1 hy]; exact h)
   cases h1:x.ar==ar<;>simp only[aes,cJ,hx,hw,h1,bL,aL,EW,seval]
   ·exact i1 (by simpa using h1)
   ·exact⟨_,⟨_,rfl,.inr ⟨_,x,hx,by simpa using h1,rfl⟩⟩,rfl⟩
 obtain⟨_,⟨n,rfl,h1⟩,h3⟩:=key;exact⟨n,aB h3,h1⟩
theorem akS(l:List dV)(ar:Int)(hn:l.length<=100000):∃n:Int,aq bZ 135 [cR l,aF ar] []=some (aF n,[])/\(0<=n↔∃x,x∈l/\x.ar=ar):=by
 have key:∃r:ag×aC,(∃n:Int,r=(aF n,[])/\(0<=n↔∃x,x∈l/\x.ar=ar))/\eX (aq bZ) MY.results 0 [] MY.body (eH 0 [cR l,aF ar]) []=some r:=by
  simp only[MY,aec,EW,seval];refine je (xs:=l) aJ (fun m (_:Unit)=>∀y,y∈l.take m->y.ar≠ar) (fun _ i=>[(0,cR l),(1,aF ar),(5,aF i)]) (fun _=>[]) _ (fun _ hq=>?_) (fun pre x post _ e hx cJ hw h0 hm hq hi=>?_) () (fun y hy=>by simp at hy)
  ·simp only[aec,bl,EW,seval];rw[bF] at hq
   grind
  ·have htk:l.take (pre.length+1)=l.take pre.length++[x]:=by rw[cB,hx]; rfl
   have i1:=fun h=>hi () (fun y hy=>by
    rw[htk] at hy;exact(bq.1 hy).elim (hq y) fun hy=>by rw[bT.1 hy]; exact h)
   cases h1:x.ar==ar<;>simp only[aec,cJ,hx,hw,h1,gF,iX,EW,seval]
   ·exact i1 (by simpa using h1)
   grind
 obtain⟨_,⟨n,rfl,h1⟩,h3⟩:=key;exact⟨n,aB h3,h1⟩
abbrev BL(n:Nat):={ m:List Bool // m.length=n }
def XR(ae:List Node)(m0:List Bool)(P:List gP->Prop)(s:Bool×List Bool):Prop:=(s.1=false->s.2=m0/\∀L,P L->∀e,e∈L->Mk ae m0 e.ar)/\(s.1=true->nT m0<nT s.2)
abbrev Fl(t:Tree)(m:List Bool):aC:=[.cells [ba t.ae,.int .i64 t.next,.int .i64 t.ak],.arr 1 0 (m.map ag.bool)]
section
variable {t:Tree} {ar by':Int} {Q:ag×aC->Prop}
def VT(ht:t.ae.length<=100000)(hasc:oZ t.ae){m0:List Bool}{P:List gP->Prop}{i:Nat}{x:Node}(hxi:t.ae[i]?=some x)(hxe:x.bc.length<=100000){k:List K}
  (hx:∀(s:Bool×BL t.ae.length) z,XR t.ae m0 (fun L=>P L\/L=x.bc) (s.1,s.2.1)->∃r,Q r/\kr (aq bZ) [.tmp 4] 0 k ⟨.exit 4,(1,aF ar)::(2,cA 0)::(5,.cD 1 0 1 0 t.ae.length)::(6,aF by')::(7,.bool s.1)::(8,aF i)::z,Fl t s.2.1⟩=some r) (s:Bool×BL t.ae.length) (hs0:XR t.ae m0 P (s.1,s.2.1)) :
  ∃r,Q r/\eX (aq bZ) [.tmp 4] 0 k (.loop [1,2,5,6,7,8,9] ZZ) [(1,aF ar),(2,cA 0),(5,.cD 1 0 1 0 t.ae.length),(6,aF by'),(7,.bool s.1),(8,aF i),(9,aF 0)] (Fl t s.2.1)=some r:=by
 have b1:((i:Int)<0)=False:=dx;refine je (xs:=x.bc) aJ (fun j (s:Bool×BL t.ae.length)=>XR t.ae m0 (fun L=>P L\/L=x.bc.take j) (s.1,s.2.1)) (fun(s:Bool×BL t.ae.length) j=>[(1,aF ar),(2,cA 0),(5,.cD 1 0 1 0 t.ae.length),(6,aF by'),(7,.bool s.1),(8,aF i),(9,aF j)]) (fun s=>Fl t s.2.1) Q (fun s hs=>?_) (fun pre e post s h hx' cJ hw h0 hm hs hi=>?_) s ⟨fun h=>⟨(hs0.1 h).1,fun L hL=>hL.elim ((hs0.1 h).2 L) fun hL e he=>by rw[hL] at he; simp at he⟩,hs0.2⟩
 ·simp only[CB,bl,hxi,bL,aL,EW,seval];rw[bF] at hs;exact hx s _ hs
 ·obtain⟨n,q,hn⟩:=arB t e.ar ht;have qp:=cP q;simp only[br,aM] at qp;have hm2:=s.2.2;have htk:x.bc.take (pre.length+1)=x.bc.take pre.length++[e]:=by rw[cB,hx']; rfl
  have same:(s.1=false->Mk t.ae m0 e.ar)->XR t.ae m0 (fun L=>P L\/L=x.bc.take (pre.length+1)) (s.1,s.2.1):=fun hk=>⟨fun h=>⟨(hs.1 h).1,fun L hL e' he=>by
   rcases hL with hL|hL
   ·exact(hs.1 h).2 L (.inl hL) e' he
   ·rw[hL,htk] at he;rcases bq.1 he with he|he
    ·exact(hs.1 h).2 _ (.inr rfl) e' he
    ·rw[bT.1 he]; exact hk h⟩,hs.2⟩
  rcases hn with ⟨rfl,hno⟩|⟨a,y,hay,hye,rfl⟩
  ·have i1:=hi s (same fun _ a y h1 h2=>absurd h2 (hno y (aE h1)))
   simp only[CB,cJ,hx',hw,hxi,qp,bL,aL,iJ,gk,EW,seval];exact i1
  ·have ha:=(aj.1 hay).1;have a0:((a:Int)<0)=False:=dx;have a1:((a:Int)<(t.ae.length:Int))=True:=jK;have a2:(a<t.ae.length)=True:=su;have a3:(0<=(a:Int))=True:=dx;have a4:(a<s.2.1.length)=True:=su;obtain⟨b,hb⟩:∃b,s.2.1[a]?=some b:=⟨_,ai aJ⟩;cases b
   ·have i1:=hi (true,⟨s.2.1.set a true,by simp[hm2]⟩) ⟨fun h=>(by cases h),fun _=>by
     simp only[ahr hb];cases h1:s.1 with
     |false=>have:=(hs.1 h1).1; simp only at this; rw[this]; omega
     |true=>have:=hs.2 h1; simp only at this; omega⟩
    simp only[CB,cJ,hx',hw,hxi,qp,a1,a3,hb,GC,bP,bL,aL,iJ,gk,EW,seval];omega
   ·have i1:=hi s (same fun h1 a' y' g1 g2=>by
     have:=aey hasc g1 hay (by rw[g2,hye])
     have he:=(hs.1 h1).1;simp only at he;rw[this,<-he]; exact hb)
    simp only[CB,cJ,hx',hw,hxi,qp,a1,a3,hb,bP,bL,aL,iJ,gk,EW,seval];exact i1
theorem VU(ht:t.ae.length<=100000)(he:∀n,n∈t.ae->n.bc.length<=100000)(hasc:oZ t.ae){m0:List Bool}{k:List K}
  (hx:∀(s:Bool×BL t.ae.length) z,XR t.ae m0 (fun L=>∃(i:Nat) (x:Node),t.ae[i]?=some x/\(x.ar=ar\/m0[i]?=some true)/\L=x.bc) (s.1,s.2.1)->∃r,Q r/\kr (aq bZ) [.tmp 4] 0 k ⟨.exit 2,(1,aF ar)::(2,cA 0)::(5,.cD 1 0 1 0 t.ae.length)::(6,aF by')::(7,.bool s.1)::z,Fl t s.2.1⟩=some r) (s:Bool×BL t.ae.length) (hs0:XR t.ae m0 (fun _=>False) (s.1,s.2.1)) :
  ∃r,Q r/\eX (aq bZ) [.tmp 4] 0 k (.loop [1,2,5,6,7,8] Z0) [(1,aF ar),(2,cA 0),(5,.cD 1 0 1 0 t.ae.length),(6,aF by'),(7,.bool s.1),(8,aF 0)] (Fl t s.2.1)=some r:=by
 refine je (xs:=t.ae) aJ (fun j (s:Bool×BL t.ae.length)=>XR t.ae m0 (fun L=>∃(i:Nat) (x:Node),i<j/\t.ae[i]?=some x/\(x.ar=ar\/m0[i]?=some true)/\L=x.bc) (s.1,s.2.1)) (fun(s:Bool×BL t.ae.length) j=>[(1,aF ar),(2,cA 0),(5,.cD 1 0 1 0 t.ae.length),(6,aF by'),(7,.bool s.1),(8,aF j)]) (fun s=>Fl t s.2.1) Q (fun s hs=>?_) (fun pre x post s h hx' cJ hw h0 hm hs hi=>?_) s ⟨fun h=>⟨(hs0.1 h).1,fun L ⟨i,x,hi,_⟩=>aJ⟩,hs0.2⟩
 ·simp only[CB,bl,EW,seval];exact hx s _ ⟨fun h=>⟨(hs.1 h).1,fun L ⟨i,x,h1,h2,h3⟩=>(hs.1 h).2 L ⟨i,x,(aj.1 h1).1,h1,h2,h3⟩⟩,hs.2⟩
 ·have hl:=(aj.1 hx').1;have hm2:=s.2.2;have a4:(pre.length<s.2.1.length)=True:=su;have a2:(pre.length<t.ae.length)=True:=su;obtain⟨b,hb⟩:∃b,s.2.1[pre.length]?=some b:=⟨_,ai aJ⟩;have la:=fun {k} hx2=>VT (t:=t) (ar:=ar) (by':=by') (Q:=Q) ht hasc hx' (he x hm) (k:=k) hx2 s hs
  have fin:∀(s':Bool×BL t.ae.length),XR t.ae m0 (fun L=>(∃(i:Nat) (x:Node),i<pre.length/\t.ae[i]?=some x/\(x.ar=ar\/m0[i]?=some true)/\L=x.bc)\/L=x.bc) (s'.1,s'.2.1)->XR t.ae m0 (fun L=>∃(i:Nat) (x:Node),i<pre.length+1/\t.ae[i]?=some x/\(x.ar=ar\/m0[i]?=some true)/\L=x.bc) (s'.1,s'.2.1):=fun s' h'=>⟨fun h=>⟨(h'.1 h).1,fun L ⟨i,x',h1,h2,h3,h4⟩=>(h'.1 h).2 L (by
   grind)⟩,h'.2⟩
  have skip:b=false->x.ar≠ar->XR t.ae m0 (fun L=>∃(i:Nat) (x:Node),i<pre.length+1/\t.ae[i]?=some x/\(x.ar=ar\/m0[i]?=some true)/\L=x.bc) (s.1,s.2.1):=fun hbf hne=>⟨fun h=>⟨(hs.1 h).1,fun L ⟨i,x',h1,h2,h3,h4⟩=>(hs.1 h).2 L (by
   by_cases hip:i=pre.length
   ·exfalso;have e0:=(hs.1 h).1
    grind
   ·exact⟨i,x',aJ,h2,h3,h4⟩)⟩,hs.2⟩
  cases b<;>cases h1:x.ar != ar <;>
   simp only[CB,cJ,hx',hw,hb,h1,bP,bL,aL,EW,seval]
  all_goals first
   |exact hi s (skip rfl (by simpa using h1))
   |(refine la (fun s' z hs'=>?_)
     have i1:=hi s' (fin s' hs');simp only[CB,hw,EW,seval];exact i1)
theorem VV(ht:t.ae.length<=100000)(he:∀n,n∈t.ae->n.bc.length<=100000)(hasc:oZ t.ae){k:List K}
  (hx:∀(m:BL t.ae.length) z,Clo t.ae ar m.1->∃r,Q r/\kr (aq bZ) [.tmp 4] 0 k ⟨.exit 0,(1,aF ar)::(2,cA 0)::(5,.cD 1 0 1 0 t.ae.length)::z,Fl t m.1⟩=some r)
  (hr:∀(m:BL t.ae.length),Clo t.ae ar m.1->∃r,Q r/\kr (aq bZ) [.tmp 4] 0 k ⟨.ret,[(4,.cD 1 0 1 0 t.ae.length)],Fl t m.1⟩=some r) (m:BL t.ae.length) :
  ∃r,Q r/\eX (aq bZ) [.tmp 4] 0 k (.loop [1,2,5,6] Z1) [(1,aF ar),(2,cA 0),(5,.cD 1 0 1 0 t.ae.length),(6,aF 0)] (Fl t m.1)=some r:=by
 refine je (xs:=t.ae) aJ (fun j (m:BL t.ae.length)=>j<=nT m.1) (fun(_:BL t.ae.length) j=>[(1,aF ar),(2,cA 0),(5,.cD 1 0 1 0 t.ae.length),(6,aF j)]) (fun m=>Fl t m.1) Q (fun m hm=>?_) (fun pre x post m h hx' cJ hw h0 hm hj hi=>?_) m (cS _)
 ·simp only[CB,bl,EW,seval];refine hx m _ fun i x h1 _ e _ a y h3 _=>?_
  have h4:nT m.1=m.1.length:=Nat.le_antisymm (nA) (by rw[m.2]; exact hm)
  have ha:=(aj.1 h3).1;have h5:=List.countP_eq_length.1 h4 (m.1[a]'(by rw[m.2]; exact ha)) (js _)
  grind
 ·have lb:=fun {k} hx2=>VU (t:=t) (ar:=ar) (by':=pre.length) (Q:=Q) ht he hasc (m0:=m.1) (k:=k) hx2 (false,m) ⟨fun _=>⟨rfl,fun _ h=>h.elim⟩,fun h=>by cases h⟩
  simp only[CB,cJ,EW,seval];refine lb (fun s z hs=>?_)
  obtain⟨b,m'⟩:=s;cases b<;>simp only[CB,hw,EW,seval]
  ·obtain⟨e0,hc⟩:=hs.1 rfl;simp only at e0;exact hr m' (by rw[e0]; exact fun i x h1 h2 e he=>hc x.bc ⟨i,x,h1,h2,rfl⟩ e he)
  ·have:=hs.2 rfl;simp only at this;exact hi m' aJ
end
def aqQ(t:Tree)(ar:Int)(ht:t.ae.length<=100000)(he:∀n,n∈t.ae->n.bc.length<=100000)(hasc:oZ t.ae):∃m:List Bool,aq bZ 176 [br t,aF ar] []=some (gG (m.map ag.bool),[])/\m.length=t.ae.length/\Clo t.ae ar m:=by
 have key:∃r:ag×aC,(∃m:List Bool,r=(gG (m.map ag.bool),[])/\m.length=t.ae.length/\Clo t.ae ar m)/\eX (aq bZ) I1.results 0 [] I1.body (eH 0 [br t,aF ar]) []=some r:=by
  have r1:ct t.ae.length 8=True:=qM
  have hrep:List.replicate t.ae.length (ag.agg [ag.bool false]).norm=(List.replicate t.ae.length false).map ag.bool:=by
   rw[gY]; rfl
  have lc:=fun {k Q} hx hr=>VV (t:=t) (ar:=ar) (Q:=Q) ht he hasc (k:=k) hx hr ⟨List.replicate t.ae.length false,dx⟩
  simp only[I1,CB,br,aM,r1,hrep,EW,seval];refine lc (fun m z hc=>?_) (fun m hc=>?_) <;>
  ·have hm:=m.2;have htk:(m.1.map ag.bool).take t.ae.length=m.1.map ag.bool:=bB jK;simp only[CB,htk,EW,seval];exact⟨_,⟨m.1,rfl,hm,hc⟩,rfl⟩
 obtain⟨_,⟨m,rfl,h1⟩,h3⟩:=key;exact⟨m,aB h3,h1⟩
def Kb{A:List Node}{B:List Bool}(h:A.length=B.length)(n:Node)(b:Bool):HR (A++[n]) (B++[b])=HR A B+if b then n.data.length else 0:=by
 unfold HR;rw[List.zip_append h];simp
def Xz:∀(A:List Node)(B:List Bool),(∀n,n∈A->n.data.length<=4096)->HR A B<=4096*A.length
 | [],_,_=>by simp[HR]
 |n::A,[],_=>by simp[HR]
 |n::A,b::B,h=>by
  have h1:=Xz A B fun x hx=>h x (bt _ hx)
  have h2:=h n bD;simp only[HR,List.zip_cons_cons,aH,List.sum_cons,aw] at h1 ⊢;split<;>omega
def akR(t:Tree)(ar:Int)(hr:Rt t):∃a b:Int,aq bZ 134 [br t,aF ar] []=some (.tuple [aF a,aF b],[])/\(lx t.ae ar).1<=a/\(lx t.ae ar).2<=b:=by
 have h200:=hr.sz.ae
 have key:∃r:ag×aC,(∃a b:Int,r=(.tuple [aF a,aF b],[])/\(lx t.ae ar).1<=a/\(lx t.ae ar).2<=b)/\eX (aq bZ) MX.results 0 [] MX.body (eH 0 [br t,aF ar]) []=some r:=by
  obtain⟨m,q,hm,hc⟩:=aqQ t ar aJ (fun n hn=>by have:=(hr.XX hn).1; omega) hr.lL.mr
  have qu:=cP q;have qd:=fun M=>amt t.ae t.next t.ak ar aJ M
  have hu:=Rp hr hm hc;cases hb:((find t.ae ar).isSome&&(bm t.ae ar).kind==2)<;>rw[hb] at qd<;>simp only[br,aM] at qu<;>simp only[MX,aeb,br,aM,qd,qu,EW,seval]
  ·have h0:lx t.ae ar=(0,0):=by unfold lx; rw[hb]; rfl
   exact⟨_,⟨_,_,rfl,by rw[h0]; exact dU 0,by rw[h0]; exact dU 0⟩,rfl⟩
  refine je (xs:=m) aJ (fun j (s:Int×Int)=>s.1=nT (m.take j)/\s.2=HR (t.ae.take j) (m.take j)) (fun s i=>[(2,cA 0),(7,gG (m.map ag.bool)),(8,aF s.1),(9,aF s.2),(10,aF i)]) (fun _=>[cC [ba t.ae,aF t.next,aF t.ak]]) _ (fun s hs=>?_) (fun pre x post s e hx cJ hw h0 _ hs hi=>?_) (0,0) (by simp[nT,HR])
  ·rw[bF,hm,bF] at hs;simp only[aeb,bl,EW,seval];exact⟨_,⟨_,_,rfl,by rw[hs.1]; exact hu.1,by rw[hs.2]; exact hu.2⟩,rfl⟩
  ·have hl:=(aj.1 hx).1;obtain⟨n,hn⟩:∃n,t.ae[pre.length]?=some n:=⟨_,ai aJ⟩;have t1:m.take (pre.length+1)=m.take pre.length++[x]:=by rw[cB,hx]; rfl
   have t2:t.ae.take (pre.length+1)=t.ae.take pre.length++[n]:=by rw[cB,hn]; rfl
   have t3:(t.ae.take pre.length).length=(m.take pre.length).length:=gm;have hnd:=(hr.XX (aE hn)).2;have b1:nT (m.take pre.length)<=200:=aY nA gm;have b2:=Xz (t.ae.take pre.length) (m.take pre.length) fun y hy=>(hr.XX (dS hy)).2
   have b3:(t.ae.take pre.length).length<=200:=gm;cases x<;>simp only[aeb,cJ,hx,hw,h0,hn,bL,aL,EW,seval]
   ·exact hi s (by rw[t1,t2,Kb t3,hs.1,hs.2]; simp[nT])
   ·have w1:IntKind.i64.wrap (s.1+1)=s.1+1:=gA aJ aJ;have w2:IntKind.i64.wrap (s.2+(n.data.length:Int))=s.2+(n.data.length:Int):=gA aJ aJ;simp only[w1,w2];exact hi (s.1+1,s.2+(n.data.length:Int)) (by rw[t1,t2,Kb t3,hs.1,hs.2]; simp[nT])
 obtain⟨_,⟨a,b,rfl,h1⟩,h3⟩:=key;exact⟨a,b,aB h3,h1⟩
def arA{t:Tree}{dJ:Int->Nat}(h:dY t dJ 0){l:List dV}(hq:py l)(hl:l.length<=100000){ar:Int}{n:Node}(hi0:find t.ae ar=some n)(hk0:n.kind=2):aq bZ 236 [br t,cR l,aF ar] []=some (aF (mg t.ae l ar),[]):=by
 have ht:=h.ae;have hdl:=h.Dy hi0 hk0
 have key:∃r:ag×aC,r=(aF (mg t.ae l ar),[])/\eX (aq bZ) M8.results 0 [] M8.body (eH 0 [br t,cR l,aF ar]) []=some r:=by
  simp only[M8,aer,br,aM,EW,seval];refine je (xs:=List.replicate (t.ae.length+1) ()) gm (fun j (a:Int)=>∃y,find t.ae a=some y/\y.kind=2/\dJ a+j=dJ ar/\mg t.ae l a=mg t.ae l ar) (fun a i=>[(1,cR l),(3,cA 0),(7,aF a),(8,aF i)]) (fun _=>[cC [ba t.ae,aF t.next,aF t.ak]]) _ (fun a ha=>?_) (fun pre x post a e hx cJ hw h0 _ ha hi=>?_) ar ⟨n,hi0,hk0,aJ,rfl⟩
  ·obtain⟨_,_,_,h1,_⟩:=ha;simp at h1; omega
  ·obtain⟨y,y1,y2,y3,y4⟩:=ha
   have e1:((pre.length:Int)<=(t.ae.length:Int))=True:=by
    have:=of_eq_true cJ;rw[kU] at this;simp only[fH,jb]; omega
   obtain⟨n,q,hn⟩:=akS l a hl;have qf:=cP q;have qg:=fun M=>Bj t.ae t.next t.ak a aJ M
   have hup:=Lb h l y1 y2;have hqi:=(Ze hq a).trans hn.symm;rw[y1] at qg;simp only[bz,bL,aL] at qg;cases h1:decide (0<=n)
   ·have h1':F5 l a=false:=by
     cases hc:F5 l a with
     |false=>rfl
     |true=>exact absurd (hqi.1 hc) (by simpa using h1)
    rw[h1'] at hup;cases h2:a==1<;>simp only[aer,e1,hw,qf,qg,h1,h2,EW,seval]
    ·have h2':a≠1:=by simpa using h2
     obtain⟨d1,p,p1,p2⟩:=h.qI _ _ y1 y2 h2';refine hi _ ⟨p,p1,p2,aJ,?_⟩;rw[<-y4,hup]; simp[h2']
    ·refine⟨_,?_,rfl⟩;rw[<-y4,hup]; simp[show a=1 by simpa using h2]
   ·have h1':F5 l a=true:=hqi.2 (by simpa using h1)
    rw[h1'] at hup;simp only[aer,e1,hw,qf,qg,h1,EW,seval];refine⟨_,?_,rfl⟩;rw[<-y4,hup]; rfl
 obtain⟨_,rfl,h3⟩:=key;exact aB h3
def ahm{l:List dV}(hl:l.length<=16){q:dV}{t:Tree}{k:List K}{R:List dV->Option (ag×aC)}
  (hx:∀(out:List dV) (d:Bool) z,out.length<=40->kr (aq bZ) [.tmp 10,.tmp 11] 0 k ⟨.exit 0,(1,cR l)::(2,aF q.ar)::(3,aF q.ae)::(4,aF q.bytes)::(17,.slice (.own 2) (out.map gF))::(18,.bool d)::z,[cC (aM t),cC (aL (bm t.ae q.ar)),.tick 3 out.length]⟩=R (out++rM q [] d)) :
  ∀(s:List dV×Bool),s.1.length<=0->eX (aq bZ) [.tmp 10,.tmp 11] 0 k (.loop [1,2,3,4,17,18,19] ahf) [(1,cR l),(2,aF q.ar),(3,aF q.ae),(4,aF q.bytes),(17,.slice (.own 2) (s.1.map gF)),(18,.bool s.2),(19,aF 0)] [cC (aM t),cC (aL (bm t.ae q.ar)),.tick 3 s.1.length]=R (s.1++rM q l s.2):=by
 refine nr (xs:=l) aJ (fun m (s:List dV×Bool)=>s.1.length<=2*m) (fun post s=>s.1++rM q post s.2) (fun s i=>[(1,cR l),(2,aF q.ar),(3,aF q.ae),(4,aF q.bytes),(17,.slice (.own 2) (s.1.map gF)),(18,.bool s.2),(19,aF i)]) (fun s=>[cC (aM t),cC (aL (bm t.ae q.ar)),.tick 3 s.1.length]) R (fun s hI=>?_) (fun pre x post s e hx' cJ hw h0 hm hI hi=>?_)
 ·simp only[aM,aL] at hx ⊢;simp only[QZ,bl,EW,seval];exact hx s.1 s.2 _ aJ
 ·have hp:=(aj.1 hx').1;obtain⟨out,d⟩:=s;simp only at hI;have r1:ct (out.length+1) 24=True:=qM;have r2:ct (out.length+1+1) 24=True:=qM;rw[rM];simp only[aM,aL] at hi ⊢;have i1:=hi (out++[q]++[x],true) gm;have i2:=hi (out++[q],true) gm;have i3:=hi (out++[x],d) gm;have i4:=hi (out,d) (by simp only; omega)
  simp only[aW,aH,aQ,aA,aw,az,aK,cd,aG,aP,gF,iX] at i1 i2 i3 i4
  cases d<;>cases h1:decide (q.ar<=x.ar)<;>cases h2:x.ar != q.ar <;>
   simp only[QZ,cJ,hx',hw,h0,h1,h2,r1,r2,gF,iX,cN,cI,dM,cV,er,fE,af,aI,aD,cd,EW,seval]<;>first|exact i4|exact i3|exact i2|exact i1
def c78(t:Tree)(l:List dV)(ar ae bytes:Int)(hr:Rt t)(hq:py l)(hn:l.length<=16) :
  ∃m e,aq bZ 78 [br t,cR l,aF ar,aF ae,aF bytes] []=some (.tuple [cR m,aF e],[])/\py m/\m.length<=16/\∀y,y∈m->y∈l\/∃n,find t.ae y.ar=some n/\n.kind=2:=by
 have ht:t.ae.length<=100000:=by have:=hr.sz.ae; omega
 obtain⟨a,b,qa,_⟩:=akR t ar hr;obtain⟨n,qn,hf⟩:=akS l ar aJ;have qu:=cP qa;have qf:=cP qn;have qg:=fun M=>Bj t.ae t.next t.ak ar ht M
 have qd:=fun M=>amt t.ae t.next t.ak ar ht M
 have hz:(find t.ae ar).getD Node.zero=bm t.ae ar:=rfl;rw[hz] at qg;simp only[br,aM] at qu;have hl:=fun {k R} hx=>ahm (l:=l) hn (q:=⟨ar,ae,bytes⟩) (t:=t) (k:=k) (R:=R) hx ([],decide (ae<0)) (au 0)
 simp only[aM,aL,aQ,az] at hl
 have hneg:decide (ae<0) = !decide (0<=ae):=by
  rw[cz]; simp
 have sh:(0<=ae->n<0->l.length<16)->py (rM ⟨ar,ae,bytes⟩ l (decide (ae<0)))/\(rM ⟨ar,ae,bytes⟩ l (decide (ae<0))).length<=16/\∀y,y∈rM ⟨ar,ae,bytes⟩ l (decide (ae<0))->y∈l\/y.ar=ar:=by
  intro hh;rcases Int.lt_or_le ae 0 with h|h
  ·rw[il h,zt];exact⟨hq.filter _,aY (bU _ _) hn,fun y hy => .inl (eo.1 hy).1⟩
  ·rw[gr (Int.not_lt.2 h)];obtain⟨g1,g2,g3,g4⟩:=GB ⟨ar,ae,bytes⟩ l hq;refine⟨g1,?_,fun y hy=>(g2 y hy).elim (fun e => .inr (by rw[e])) .inl⟩
   rcases Int.lt_or_le n 0 with h'|h'
   ·have:=hh h h'; omega
   ·exact aY (g4 (hf.1 h')) hn
 cases h1:(find t.ae ar).isSome<;>rw[h1] at qg qd
 ·refine⟨l,70,aB ?_,hq,hn,fun _ => .inl⟩
  simp only[Fa,QZ,br,aM,bL,aL,qg,EW,seval]
 cases h2:(bm t.ae ar).kind==2<;>rw[h2] at qd<;>simp only[jO,dR] at qd
 ·refine⟨l,73,aB ?_,hq,hn,fun _ => .inl⟩
  simp only[Fa,QZ,br,aM,bL,aL,qg,qd,EW,seval]
 cases h3:decide (0<=ae)
 case' true =>
  cases h4:decide (ae<a)
  case true =>
   refine⟨l,90,aB ?_,hq,hn,fun _ => .inl⟩
   simp only[Fa,QZ,br,aM,bL,aL,qg,qd,qu,qf,h3,hneg,h4,EW,seval]
  cases h5:decide (bytes<b)
  case true =>
   refine⟨l,90,aB ?_,hq,hn,fun _ => .inl⟩
   simp only[Fa,QZ,br,aM,bL,aL,qg,qd,qu,qf,h3,hneg,h4,h5,EW,seval]
  cases h6:decide (n<0)
  case' true =>
   cases h7:decide (16<=(l.length:Int))
   case true =>
    refine⟨l,76,aB ?_,hq,hn,fun _ => .inl⟩
    simp only[Fa,QZ,br,aM,bL,aL,qg,qd,qu,qf,h3,hneg,h4,h5,h6,h7,EW,seval]
 all_goals
  obtain⟨s1,s2,s3⟩:=sh (by intro g1 g2; simp only[bh,dC] at *; omega)
  refine⟨_,0,aB ?_,s1,s2,fun y hy=>(s3 y hy).elim .inl fun e => .inr ⟨bm t.ae ar,by rw[e]; cases hf':find t.ae ar<;>simp_all [bm],by simpa using h2⟩⟩
  rw[hneg,h3] at hl
  first
   |simp only[Fa,QZ,br,aM,bL,aL,qg,qd,qu,qf,h3,hneg,h4,h5,h6,h7,EW,seval]
   |simp only[Fa,QZ,br,aM,bL,aL,qg,qd,qu,qf,h3,hneg,h4,h5,h6,EW,seval]
   |simp only[Fa,QZ,br,aM,bL,aL,qg,qd,qu,qf,h3,hneg,EW,seval]
  refine(hl (R:=fun m=>some (.tuple [cR m,aF 0],([]:aC))) (fun out d z ho=>?_)).trans (by first|rfl|(rw[hneg,h3]; rfl))
  have r1:ct (out.length+1) 24=True:=qM;cases d<;>simp only[QZ,r1,rM,gF,iX,aW,af,aI,aD,EW,seval]
  all_goals simp[gF,iX]
end
def pV(c h:Int):List fA->Nat->Int
 | [],_ => -1
 |x::r,i=>if x.bE==c&&x.handle==h then i else pV c h r (i+1)
def zo(l:List fA)(c h:Int):Int:=pV c h l 0
def sw(c h:Int):∀(l:List fA)(i:Nat),(pV c h l i = -1/\∀x,x∈l->(x.bE==c&&x.handle==h)=false) \/
  ∃(m:Nat) (x:fA),pV c h l i=((i+m:Nat):Int)/\l[m]?=some x/\(x.bE==c&&x.handle==h)=true
 | [],i => .inl ⟨rfl,dx⟩
 |x::r,i=>by
  rw[pV];cases hx:x.bE==c&&x.handle==h
  ·rcases sw c h r (i+1) with ⟨h1,h2⟩|⟨m,y,h1,h2,h3⟩
   ·exact .inl ⟨by simpa using h1,fun y hy=>by rcases bJ.1 hy with rfl|hy; exact hx; exact h2 y hy⟩
   ·exact .inr ⟨m+1,y,by simp only[af,aD,h1]; congr 1; omega,by simpa using h2,h3⟩
  ·exact .inr ⟨0,x,dx,rfl,hx⟩
def Jb(l:List fA)(ar:Int):Int:=((l.countP fun x=>x.ar==ar:Nat):Int)
def wJ(c h:Int)(x:fA):Bool:=decide (x.bE<c)||(x.bE==c&&decide (x.handle<h))
def sM(t:Tree)(l:List fA)(c h ar:Int):List fA×Int :=
 if decide (c<0)||(decide (16<=c)||(decide (h<0)||decide (99<h))) then (l,1)
 else if !(find t.ae ar).isSome||gV (bm t.ae ar) then (l,70)
 else if (bm t.ae ar).kind==2 then (l,72)
 else if decide (0<=zo l c h) then (l,71)
 else if decide (64<=(l.length:Int)) then (l,76)
 else (l.take (mq (wJ c h) l)++⟨c,h,ar⟩::l.drop (mq (wJ c h) l),0)
def PG(c h:Int):(fun x=>decide (im x c h<0))=wJ c h:=by
 funext x;rw[cz];simp only[wJ,bh,sf,df,bw,eu]
def WH{t:Tree}{l:List fA}(hl:uG l)(hn:l.length<=64)(c g ar:Int):uG (sM t l c g ar).1/\(sM t l c g ar).1.length<=64:=by
 have h0:=JH (t:=t) hl hn c g ar;unfold sM;split
 ·exact⟨hl,hn⟩
 rename_i h1;split
 ·exact⟨hl,hn⟩
 rename_i h2;split
 ·exact⟨hl,hn⟩
 rename_i h3;split
 ·exact⟨hl,hn⟩
 rename_i h4;split
 ·exact⟨hl,hn⟩
 rename_i h5
 have k1:¬(!zZ c g)=true:=by
  simp only[df,bh,pc,zZ,iq,Bool.and_eq_false_iff,dC,Classical.not_not] at h1 ⊢;omega
 have k2:¬pn (fun x=>im x c g==0) l (mq (fun x=>decide (im x c g<0)) l)=true:=by
  intro hk;unfold pn at hk;split at hk
  ·rename_i z hz
   have hz':(z.bE==c&&z.handle==g)=true:=by
    have:=(DW z c g).1 (by simpa using hk)
    simp[this.1,this.2]
   rcases sw c g l 0 with ⟨_,h6⟩|⟨m,_,h6,_⟩
   ·have:=h6 z (aE hz);rw[hz'] at this; cases this
   ·apply h4;unfold zo;rw[h6];simp
  ·cases hk
 unfold vL at h0;rw[aR k1,aR h2,aR h3,aR k2,aR h5,PG] at h0;exact h0
def P1{t:Tree}(ht:∀i n,find t.ae i=some n->n.kind=1\/n.kind=2)(l:List fA)(c g ar:Int){y:fA}(hy:y∈(sM t l c g ar).1):y∈l\/(∃n,find t.ae y.ar=some n/\n.kind=1)/\zZ y.bE y.handle=true:=by
 unfold sM at hy;split at hy
 ·exact .inl hy
 rename_i h1;split at hy
 ·exact .inl hy
 rename_i h2;split at hy
 ·exact .inl hy
 rename_i h3;split at hy
 ·exact .inl hy
 split at hy
 ·exact .inl hy
 rcases bq.1 hy with hy|hy
 ·exact .inl (dS hy)
 rcases bJ.1 hy with rfl|hy
 ·right;simp only[df,pc,iq,Bool.not_eq_false] at h2;obtain⟨n,hn⟩:=fz.1 h2.1;refine⟨⟨n,hn,?_⟩,?_⟩
  case refine_2 =>
   simp only[df,bh,pc] at h1;simp only[zZ,bw,bh];omega
  have hnn:bm t.ae ar=n:=by simp[bm,hn]
  rw[hnn] at h3;rcases ht _ _ hn with h|h
  ·exact h
  ·simp[h] at h3
 ·exact .inl (dA hy)
def P2(t:Tree)(l:List fA)(c g ar:Int){y:fA}(hy:y∈l):y∈(sM t l c g ar).1:=by
 unfold sM;split
 ·exact hy
 split
 ·exact hy
 split
 ·exact hy
 split
 ·exact hy
 split
 ·exact hy
 simp only;generalize (mq _ l)=k;rw[<-cv k l] at hy;rcases bq.1 hy with hy|hy
 ·exact eK _ hy
 ·exact iI _ (bt _ hy)
section
attribute [local irreducible] eX fJ lu gK eb kr aq aU cq bI
def aqh(l:List fA)(c h:Int)(hn:l.length<=100000):aq bZ 132 [fI l,aF c,aF h] []=some (aF (zo l c h),[]):=by
 refine aB ?_;have e0:zo l c h=pV c h l (l.length-l.length):=by rw[Nat.sub_self]; rfl
 rw[e0];simp only[acu,aea,EW,seval];refine A4 (xs:=l) aJ (fun post (_:Unit)=>pV c h post (l.length-post.length)) (fun _ i=>[(0,fI l),(1,aF c),(2,aF h),(7,aF i)]) (fun _=>[]) (fun n=>some (aF n,([]:aC))) (fun _=>?_) (fun pre x post _ e hx cJ hw h0 hm hi=>?_) ()
 ·simp only[aea,bl,pV,EW,seval]
 ·have i1:=hi ();have e1:l.length-(x::post).length=pre.length:=by rw[e]; simp
  have e2:l.length-post.length=pre.length+1:=by rw[e]; simp; omega
  rw[e2] at i1;rw[e1,pV];cases h1:x.bE==c<;>cases h2:x.handle==h<;>simp only[aea,cJ,hx,hw,h0,h1,h2,ij,jd,dR,cN,cI,af,aD,aI,EW,seval]<;>exact i1
def afH l c h hn:=cP (aqh l c h hn)
def aqj(l:List fA)(ar:Int)(hn:l.length<=100000):aq bZ 136 [fI l,aF ar] []=some (aF (Jb l ar),[]):=by
 refine aB ?_;simp only[acw,X3,EW,seval];refine(nr (xs:=l) aJ (fun m n=>n<=m) (fun post (n:Nat)=>((n+post.countP fun x=>x.ar==ar:Nat):Int)) (fun n i=>[(0,fI l),(1,aF ar),(5,aF n),(6,aF i)]) (fun _=>[]) (fun n=>some (aF n,([]:aC))) (fun n _=>?_) (fun pre x post n e hx cJ hw h0 hm hI hi=>?_) 0 aJ).trans (by simp[Jb])
 ·simp only[X3,bl,List.countP_nil,EW,seval]
 ·have i1:=hi n aJ;have i2:=hi (n+1) aJ;have hl:=(aj.1 hx).1;have w1:IntKind.i64.wrap ((n:Int)+1)=((n+1:Nat):Int):=by rw[gA aJ aJ]; rfl
  cases h1:x.ar==ar
  ·simp only[lU,h1,af,aD,dp] at i1 ⊢;simp only[X3,cJ,hx,hw,h0,h1,ij,jd,EW,seval];exact i1
  ·have e2:n+(List.countP (fun x=>x.ar==ar) (x::post))=n+1+List.countP (fun x=>x.ar==ar) post:=by simp only[lU,h1,aI]; omega
   simp only[e2];simp only[X3,cJ,hx,hw,w1,h0,h1,ij,jd,EW,seval];exact i2
def asx l ar hn:=cP (aqj l ar hn)
def aqg(t:Tree)(ar:Int)(ht:t.ae.length<=100000):aq bZ 131 [br t,aF ar] []=some (.bool ((find t.ae ar).isSome&&gV (bm t.ae ar)),[]):=by
 refine aB ?_;have q:=fun M=>Bj t.ae t.next t.ak ar ht M
 have hz:(find t.ae ar).getD Node.zero=bm t.ae ar:=rfl;rw[hz] at q;unfold gV;generalize bm t.ae ar=n at q
 cases h1:(find t.ae ar).isSome<;>rw[h1] at q<;>cases h2:n.kind==1<;>cases h3:n.eG==0 <;>
  simp only[acs,aoL,br,aM,q,h2,h3,bL,aL,dR,cN,cI,EW,seval]
def ams(ae:List Node)(next ak ar:Int)(h:ae.length<=100000)(M:aC):aU (aq bZ) 131 [.agg [ba ae,aF next,aF ak],aF ar] M=some (.bool ((find ae ar).isSome&&gV (bm ae ar)),M) :=
 cO (aqg ⟨ae,next,ak⟩ ar h) M
def afE(ae:List Node)(next ak ar:Int)(s:Bytes)(ht:Small ⟨ae,next,ak⟩)(M:aC):aU (aq bZ) 122 [.agg [ba ae,aF next,aF ak],aF ar,.str s] M =
  some (.agg [ba (dD ae ar s),aF next,aF ak],M):=cO (ap7 ⟨ae,next,ak⟩ ar s ht) M
def aag{T:List ag}{n:Node}{e:gP}(hn:n.bc.length<=100000){k:List K}{R:List gP->Bool->Option (ag×aC)}
  (hx:∀out done v q,out.length<=300000->kr (aq bZ) [.dK 8 3] 0 k ⟨.exit 0,[(2,.str e.name),(4,cA 0),(8,cA 1),(9,cA 2),(11,cA 3),(12,.slice (.own 4) (out.map iJ)),(13,.bool done),(14,v),(30,q)],[.cells T,.cells zT,cC (aL n),cC (gk e),.tick 3 out.length]⟩=R out done)
  (hT:∀B M,T.map (ag.jG B M)=T) :
  ∀(l pre out:List gP)(done:Bool),n.bc=pre++l->out.length+2*l.length<=300000->eX (aq bZ) [.dK 8 3] 0 k (.loop [2,4,8,9,11,12,13,14] Zz) [(2,.str e.name),(4,cA 0),(8,cA 1),(9,cA 2),(11,cA 3),(12,.slice (.own 4) (out.map iJ)),(13,.bool done),(14,aF pre.length)] [.cells T,.cells zT,cC (aL n),cC (gk e),.tick 3 out.length]=R (vF e l out done).1 (vF e l out done).2:=by
 intro l;induction l with
 |nil =>
  intro pre out done h ho;rw[bG];simp only[GR,aL,jc,jL h,EN,seval];exact hx _ _ _ _ (by simp at ho; omega)
 |cons m r ih =>
  intro pre out done h ho;rw[bG];have dQ:pre.length+1<=100000:=by rw[h] at hn; simp at hn; omega
  have hw:=zy pre m;have hi:=fun out done ho=>ih (pre++[m]) out done (by rw[h]; simp) ho
  simp only[aw] at ho;have r1:ct (out.length+1) 32=True:=qM;have r2:ct (out.length+1+1) 32=True:=qM;have hg:(!(strLt m.name e.name||m.name==e.name))=gtB m.name e.name:=rfl
  rw[vF];simp only[GR,hg,aL,jc,iQ h,gU h,gk,hT,zT,EN,seval]
  repeat' ((first|apply bA|apply bV|apply dP)<;>intro hb<;>simp only[hb,EN,GR,gU h,hw,r1,r2,gk,hT,zT,hg,seval])
  all_goals try simp only[GR,gU h,hw,r1,r2,gk,hT,zT,hg,EN,seval]
  all_goals first
   |(refine ir ?_ ((hi (out++[e]++[m]) true gm).trans ?_)
     ·simp only[aW,aH,aQ,aA,aw,az]; rfl
     ·clear hi ih hx hw h hT hg; simp_all; done)
   |(refine ir ?_ ((hi (out++[m]) done gm).trans ?_)
     ·simp only[aW,aH,aQ,aA,aw,az]; rfl
     ·clear hi ih hx hw h hT hg; simp_all; done)
def ap4(t:Tree)(ar:Int)(s:Bytes)(of:Int)(ht:Small t):aq bZ 118 [br t,aF ar,.str s,aF of] []=some (br (iu t ar s of),[]):=by
 refine aB ?_;have hd:=FH ht ar;unfold iu;simp only[R6,GR,br,aM,Bj,ht.ae,bL,EN,seval];generalize (find t.ae ar).getD Node.zero=n at hd ⊢;simp only[GR,aL,EN,seval];refine(aag (e:=⟨s,of,t.ak⟩) (R:=fun out done=>some (br ⟨eV t.ae { n with bc:=out++(if done then [] else [⟨s,of,t.ak⟩]) },t.next,nz (t.ak+1)⟩,[])) hd (fun out done v e ho=>?_) (fun B M=>by simp only[GR,EN,seval]) n.bc [] [] false rfl gm).trans (by simp[br,aM,zd])
 have r1:ct (out.length+1) 32=True:=qM;cases done
 ·simp only[GR,zT,aL,gk,r1,aaQ,Hk,ht.ae,EN,seval];simp[br,aM]
 ·simp only[GR,zT,aL,gk,r1,Hk,ht.ae,EN,seval];simp[br,aM]
def Zg(ae:List Node)(next ak ar:Int)(s:Bytes)(of:Int)(ht:Small ⟨ae,next,ak⟩)(M:aC):aU (aq bZ) 118 [.agg [ba ae,aF next,aF ak],aF ar,.str s,aF of] M =
  some (br (iu ⟨ae,next,ak⟩ ar s of),M):=cO (ap4 ⟨ae,next,ak⟩ ar s of ht) M
def aam{t:Tree}(ht:t.ae.length<=100000){k:List K}{R:Nat->Option (ag×aC)}
  (hx:∀(d:Nat) v q,kr (aq bZ) [.tmp 4] 0 k ⟨.exit 0,[(1,v),(2,cA 0),(5,aF d),(13,q)],[cC (aM t)]⟩=R d) :
  ∀(m:Nat)(ar:Int)(d:Nat),d+m=201->eX (aq bZ) [.tmp 4] 0 k (.loop [1,2,5] ZI) [(1,aF ar),(2,cA 0),(5,aF d)] [cC (aM t)]=R (wg t.ae m ar d):=by
 intro m;induction m with
 |zero =>
  intro ar d hd;rw[bG];have hd':((d:Int)<=200)=False:=gm;simp only[Kr,EN,seval]
  repeat' ((first|apply bA|apply bV|apply dP)<;>intro hb<;>simp only[hb,EN,Kr,hd',seval])
  all_goals exact hx _ _ _
 |succ m ih =>
  intro ar d hd;rw[bG];have hd':((d:Int)<=200)=True:=gm;have hw:IntKind.i64.wrap ((d:Int)+1)=((d+1:Nat):Int):=by rw[gA aJ aJ]; rfl
  have hi:=fun ar=>ih ar (d+1) aJ
  rw[wg];simp only[Kr,EN,seval];refine bV (fun hb=>?_) (fun hb=>?_)
  ·simp only[Kr,hb,hd',hw,aM,Bj,ht,bL,aL,EN,seval];have h1:¬ar=1:=by simpa using hb
   rw[aR h1];exact hi _
  ·simp only[Kr,hb,hd',hw,aM,Bj,ht,bL,aL,EN,seval];have h1:ar=1:=by simpa using hb
   rw[aZ h1];exact hx _ _ _
def aqd(t:Tree)(ar:Int)(ht:t.ae.length<=100000):aq bZ 128 [br t,aF ar] []=some (aF (pR t.ae ar),[]):=by
 refine aB ?_;simp only[acp,Kr,br,EN,seval];exact aam (R:=fun(d:Nat)=>some (aF d,[])) ht (fun d v q=>by simp only[Kr,EN,seval]) 201 ar 0 rfl
def Pw(ae:List Node)(next ak ar:Int)(h:ae.length<=100000)(M:aC):aU (aq bZ) 128 [.agg [ba ae,aF next,aF ak],aF ar] M=some (aF (pR ae ar),M) :=
 cO (aqd ⟨ae,next,ak⟩ ar h) M
def aqL(t:Tree)(n:Node)(ht:Small t):aq bZ 171 [br t,bL n] []=some (.bool (DK t n),[]):=by
 refine aB ?_;simp only[acM,aiC,br,aM,bL,aL,Pw,ht.ae,EN,seval];unfold DK
 repeat' ((first|apply bA|apply bV|apply dP)<;>intro hb<;>simp only[hb,EN,aiC,Pw,ht.ae,seval])
 all_goals simp_all
def asN(ae:List Node)(next ak a b c:Int)(d:Bytes)(e:List gP)(u:Int)(h:Small ⟨ae,next,ak⟩)(M:aC):aU (aq bZ) 171 [.agg [ba ae,aF next,aF ak],.agg [aF a,aF b,aF c,cX d,jc e,aF u]] M =
  some (.bool (DK ⟨ae,next,ak⟩ ⟨a,b,c,d,e,u⟩),M):=cO (aqL ⟨ae,next,ak⟩ ⟨a,b,c,d,e,u⟩ h) M
def ap3(t:Tree)(ar:Int)(s:Bytes)(ht:Small t)(hs:s.length<=100000):aq bZ 117 [br t,aF ar,.str s] []=some (aF (o5 t ar s),[]):=by
 refine aB ?_;have hd:=tI ht ar;have ht':Small ⟨t.ae,t.next,t.ak⟩:=ht
 simp only[ach,GQ,br,aM,Zh,ht.ae,bL,aL,EN,seval];unfold o5;refine bA (fun hb=>?_) (fun hb=>?_)
 ·simp only[GQ,EN,seval];simp_all
 ·simp only[GQ,S0,hs,EN,seval];refine bA (fun hb'=>?_) (fun hb'=>?_)
  ·simp only[GQ,EN,seval];simp_all
  ·simp only[GQ,afF,hd,EN,seval];rcases tC s (gX t.ae ar).1.bc 0 with ⟨h1,h2⟩|⟨m,n,h1,h2,h3⟩
   ·rw[h2];simp only[GQ,asN,ht',EN,seval];refine bA (fun hb''=>?_) (fun hb''=>?_)
    ·simp only[GQ,EN,seval];simp_all
    ·simp only[GQ,EN,seval];simp_all
   ·rw[h3];simp only[GQ,EN,seval];simp_all
def afC(ae:List Node)(next ak ar:Int)(s:Bytes)(ht:Small ⟨ae,next,ak⟩)(hs:s.length<=100000)(M:aC):aU (aq bZ) 117 [.agg [ba ae,aF next,aF ak],aF ar,.str s] M =
  some (aF (o5 ⟨ae,next,ak⟩ ar s),M):=cO (ap3 ⟨ae,next,ak⟩ ar s ht hs) M
def amp(ae:List Node)(next ak a b c u:Int)(h:ae.length<=100000)(M:aC):aU (aq bZ) 119 [.agg [ba ae,aF next,aF ak],.agg [aF a,aF b,aF c,gG [],gG [],aF u]] M =
  some (.agg [ba (eV ae ⟨a,b,c,[],[],u⟩),aF next,aF ak],M):=Hk ae next ak a b c [] [] u h M
def Qj{t:Tree}(hz:Sz 1000 t)(k u next ak a c:Int):Small ⟨eV t.ae ⟨a,k,c,[],[],u⟩,next,ak⟩:=(hz.with dx dx next ak).small aJ
set_option maxHeartbeats 1000000 in
def c70(t:Tree)(ar:Int)(s:Bytes)(kind:Int)(hz:Sz 1000 t)(hs:s.length<=100000):aq bZ 70 [br t,aF ar,.str s,aF kind] []=some (.tuple [br (rZ t ar s kind).1,aF (rZ t ar s kind).2.1,aF (rZ t ar s kind).2.2],[]):=by
 obtain⟨ae,next,ak⟩:=t
 refine aB ?_;have ht:Small ⟨ae,next,ak⟩:=hz.small aJ
 have hn:ae.length<=100000:=ht.ae;have hw:=fun k u next' cookie' a c=>Qj hz k u next' cookie' a c
 simp only[alX,E70,br,aM,afC,ht,hs,EN,seval]
 repeat' ((first|apply bA|apply bV|apply dP)<;>intro hb<;>simp only[hb,EN,E70,afC,ht,hs,hn,amp,Zg,hw,br,aM,seval])
 all_goals (clear hw; simp_all only[rZ,br,aM,qB,↓reduceIte,reduceCtorEq,av]; done)
def aal{t:Tree}{of:Int}(ht:t.ae.length<=100000){k:List K}{R:Bool->Option (ag×aC)}
  (hx:∀e,kr (aq bZ) [.tmp 6] 0 k ⟨.exit 0,e,[cC (aM t)]⟩=R false) (hr:∀b,kr (aq bZ) [.tmp 6] 0 k ⟨.ret,[(6,.bool b)],[cC (aM t)]⟩=R b) :
  ∀(m:Nat)(ar:Int)(d:Nat),d+m=t.ae.length+1->eX (aq bZ) [.tmp 6] 0 k (.loop [1,2,3,7] ZH) [(1,aF ar),(2,aF of),(3,cA 0),(7,aF d)] [cC (aM t)]=R (nn t.ae of m ar):=by
 intro m;induction m with
 |zero =>
  intro ar d hd;rw[bG];have hd':((d:Int)<=(t.ae.length:Int))=False:=gm;simp only[GS,aM,ba,hd',EN,seval];exact hx _
 |succ m ih =>
  intro ar d hd;rw[bG];have hd':((d:Int)<=(t.ae.length:Int))=True:=gm;have hw:IntKind.i64.wrap ((d:Int)+1)=((d+1:Nat):Int):=by rw[gA aJ aJ]; rfl
  have hi:=fun ar=>ih ar (d+1) aJ
  rw[nn];simp only[GS,aM,ba,hd',EN,seval];refine bA (fun hb=>?_) (fun hb=>?_)
  ·have h1:ar=of:=by simpa using hb
   simp only[GS,EN,seval];rw[aZ h1];exact hr _
  ·have h1:¬ar=of:=by simpa using hb
   simp only[GS,EN,seval];rw[aR h1];refine bA (fun hb=>?_) (fun hb=>?_)
   ·have h1:ar=1:=by simpa using hb
    simp only[GS,EN,seval];rw[aZ h1];exact hr _
   ·have h1:¬ar=1:=by simpa using hb
    simp only[GS,hw,Bj,ht,bL,aL,EN,seval];rw[aR h1];exact hi _
def aqb(t:Tree)(ar of:Int)(ht:t.ae.length<=100000):aq bZ 126 [br t,aF ar,aF of] []=some (.bool (iP t.ae ar of),[]):=by
 refine aB ?_;simp only[acn,GS,br,EN,seval];exact aal (R:=fun b=>some (.bool b,[])) ht (fun e=>by simp only[GS,EN,seval]) (fun b=>by simp only[GS,EN,seval]) (t.ae.length+1) ar 0 aJ
def afG(ae:List Node)(next ak ar of:Int)(h:ae.length<=100000)(M:aC):aU (aq bZ) 126 [.agg [ba ae,aF next,aF ak],aF ar,aF of] M=some (.bool (iP ae ar of),M) :=
 cO (aqb ⟨ae,next,ak⟩ ar of h) M
def k70(ae:List Node)(next ak ar:Int)(s:Bytes)(kind:Int)(hz:Sz 1000 ⟨ae,next,ak⟩)(hs:s.length<=100000)(M:aC):aU (aq bZ) 70 [.agg [ba ae,aF next,aF ak],aF ar,.str s,aF kind] M =
  some (.tuple [br (rZ ⟨ae,next,ak⟩ ar s kind).1,aF (rZ ⟨ae,next,ak⟩ ar s kind).2.1,aF (rZ ⟨ae,next,ak⟩ ar s kind).2.2],M):=cO (c70 ⟨ae,next,ak⟩ ar s kind hz hs) M
def c68(t:Tree)(ar to:Int)(s:Bytes)(hz:Sz 1000 t)(hs:s.length<=100000):aq bZ 68 [br t,aF ar,aF to,.str s] []=some (.tuple [br (CL t ar to s).1,aF (CL t ar to s).2],[]):=by
 obtain⟨ae,next,ak⟩:=t
 refine aB ?_;have ht:Small ⟨ae,next,ak⟩:=hz.small aJ
 have hn:ae.length<=100000:=ht.ae;have hf:=hz.find ar;have hw':∀l,Small ⟨eV ae { bm ae ar with eG:=l },next,ak⟩:=fun l=>(hz.with (n:={ bm ae ar with eG:=l }) (iZ hf.1) hf.2 next ak).small aJ
 simp only[alW,E68,br,aM,Bj,hn,bL,aL,EN,seval]
 repeat' ((first|apply bA|apply bV|apply dP)<;>intro hb<;>simp only[hb,EN,E68,afC,ht,hs,hn,Hk,Zg,hw',br,aM,seval])
 all_goals (clear hw' hf; simp_all only[CL,br,aM,qB,↓reduceIte,reduceCtorEq,av]; done)
def k68(ae:List Node)(next ak ar to:Int)(s:Bytes)(hz:Sz 1000 ⟨ae,next,ak⟩)(hs:s.length<=100000)(M:aC):aU (aq bZ) 68 [.agg [ba ae,aF next,aF ak],aF ar,aF to,.str s] M =
  some (.tuple [br (CL ⟨ae,next,ak⟩ ar to s).1,aF (CL ⟨ae,next,ak⟩ ar to s).2],M):=cO (c68 ⟨ae,next,ak⟩ ar to s hz hs) M
def ap6(t:Tree)(ar:Int)(ht:Small t):aq bZ 121 [br t,aF ar] []=some (br ⟨fm t.ae ar,t.next,t.ak⟩,[]):=by
 obtain⟨ae,next,ak⟩:=t
 refine aB ?_;have hn:ae.length<=100000:=ht.ae;simp only[aci,aiw,br,aM,Bj,hn,bL,aL,EN,seval]
 repeat' ((first|apply bA|apply bV|apply dP)<;>intro hb<;>simp only[hb,EN,aiw,hn,Hk,amz,br,aM,seval])
 all_goals (simp_all only[fm,br,aM,qB,↓reduceIte,reduceCtorEq,av]; done)
def afD(ae:List Node)(next ak ar:Int)(ht:Small ⟨ae,next,ak⟩)(M:aC):aU (aq bZ) 121 [.agg [ba ae,aF next,aF ak],aF ar] M =
  some (.agg [ba (fm ae ar),aF next,aF ak],M):=cO (ap6 ⟨ae,next,ak⟩ ar ht) M
def c71(t:Tree)(ar:Int)(s:Bytes)(hz:Sz 1000 t)(hs:s.length<=100000):aq bZ 71 [br t,aF ar,.str s] []=some (.tuple [br (BO t ar s).1,aF (BO t ar s).2.1,aF (BO t ar s).2.2],[]):=by
 obtain⟨ae,next,ak⟩:=t
 refine aB ?_;have ht:Small ⟨ae,next,ak⟩:=hz.small aJ
 have hn:ae.length<=100000:=ht.ae;have hl:Small ⟨dD ae ar s,next,ak⟩:=(hz.left ar s next ak).small aJ
 simp only[alY,E71,br,aM,k72,ht,hs,bL,aL,EN,seval]
 repeat' ((first|apply bA|apply bV|apply dP)<;>intro hb<;>simp only[hb,EN,E71,hn,ht,hs,Bj,afE,afD,hl,bL,aL,br,aM,seval])
 all_goals (simp_all only[BO,br,aM,qB,↓reduceIte,reduceCtorEq,av]; done)
def k71(ae:List Node)(next ak ar:Int)(s:Bytes)(hz:Sz 1000 ⟨ae,next,ak⟩)(hs:s.length<=100000)(M:aC):aU (aq bZ) 71 [.agg [ba ae,aF next,aF ak],aF ar,.str s] M =
  some (.tuple [br (BO ⟨ae,next,ak⟩ ar s).1,aF (BO ⟨ae,next,ak⟩ ar s).2.1,aF (BO ⟨ae,next,ak⟩ ar s).2.2],M):=cO (c71 ⟨ae,next,ak⟩ ar s hz hs) M
def aqc(t:Tree)(x:Node)(y:Int)(ht:Small t):aq bZ 127 [br t,bL x,aF y] []=some (aF (va t.ae x.kind y),[]):=by
 obtain⟨ae,next,ak⟩:=t
 refine aB ?_;have hn:ae.length<=100000:=ht.ae;simp only[aco,aix,br,aM,Bj,hn,bL,aL,EN,seval]
 repeat' ((first|apply bA|apply bV|apply dP)<;>intro hb<;>simp only[hb,EN,aix,seval])
 all_goals (simp_all only[va,qB,↓reduceIte,reduceCtorEq,av]; done)
def amq(ae:List Node)(next ak a b c:Int)(d:Bytes)(e:List gP)(u y:Int)(ht:Small ⟨ae,next,ak⟩)(M:aC):aU (aq bZ) 127 [.agg [ba ae,aF next,aF ak],.agg [aF a,aF b,aF c,cX d,jc e,aF u],aF y] M =
  some (aF (va ae b y),M):=cO (aqc ⟨ae,next,ak⟩ ⟨a,b,c,d,e,u⟩ y ht) M
def c83(t:Tree)(ar:Int)(data:Bytes)(ht:Small t)(hd:data.length<=100000):aq bZ 83 [br t,aF ar,cX data] []=some (.tuple [br (rT t ar data).1,aF (rT t ar data).2],[]):=by
 obtain⟨ae,next,ak⟩:=t
 refine aB ?_;have hn:ae.length<=100000:=ht.ae;have r1:ct data.length 1=True:=qM;simp only[aft,E83,br,aM,Bj,hn,bL,aL,EN,seval]
 repeat' ((first|apply bA|apply bV|apply dP)<;>intro hb<;>simp only[hb,EN,E83,hn,r1,Hk,br,aM,seval])
 all_goals (simp_all only[rT,br,aM,qB,↓reduceIte,reduceCtorEq,av]; done)
def k83(ae:List Node)(next ak ar:Int)(data:Bytes)(ht:Small ⟨ae,next,ak⟩)(hd:data.length<=100000)(M:aC):aU (aq bZ) 83 [.agg [ba ae,aF next,aF ak],aF ar,cX data] M =
  some (.tuple [br (rT ⟨ae,next,ak⟩ ar data).1,aF (rT ⟨ae,next,ak⟩ ar data).2],M):=cO (c83 ⟨ae,next,ak⟩ ar data ht hd) M
def aqk(t:Tree)(ar:Int)(ht:Small t):aq bZ 137 [br t,aF ar] []=some (.tuple [br (kH t ar).1,aF (kH t ar).2],[]):=by
 obtain⟨ae,next,ak⟩:=t
 refine aB ?_;have hn:ae.length<=100000:=ht.ae;simp only[acx,aiy,br,aM,Bj,hn,bL,aL,EN,seval]
 repeat' ((first|apply bA|apply bV|apply dP)<;>intro hb<;>simp only[hb,EN,aiy,hn,amz,br,aM,seval])
 all_goals (simp_all only[kH,br,aM,qB,↓reduceIte,reduceCtorEq,av]; done)
def amu(ae:List Node)(next ak ar:Int)(ht:Small ⟨ae,next,ak⟩)(M:aC):aU (aq bZ) 137 [.agg [ba ae,aF next,aF ak],aF ar] M =
  some (.tuple [br (kH ⟨ae,next,ak⟩ ar).1,aF (kH ⟨ae,next,ak⟩ ar).2],M):=cO (aqk ⟨ae,next,ak⟩ ar ht) M
def c41:aq bZ 41 [] []=some (br wQ,[]):=by
 refine aB ?_;simp only[alP,E41,EN,seval];rfl
def k41:=cP c41
def aan{ae:List Node}{next ak ar at' d:Int}(ht:ae.length<=100000){k:List K}{R:Int->Option (ag×aC)}
  (hx:∀dI v q,kr (aq bZ) [.tmp 6] 0 k ⟨.exit 0,[(1,aF ar),(2,aF at'),(3,cA 0),(7,aF dI),(8,aF d),(9,v),(19,q)],[cC (aM ⟨ae,next,ak⟩)]⟩=R dI) :
  ∀(l pre:List Node)(dI:Int),ae=pre++l->eX (aq bZ) [.tmp 6] 0 k (.loop [1,2,3,7,8,9] ZJ) [(1,aF ar),(2,aF at'),(3,cA 0),(7,aF dI),(8,aF d),(9,aF pre.length)] [cC (aM ⟨ae,next,ak⟩)]=R (wj ae ar at' d l dI):=by
 intro l;induction l with
 |nil =>
  intro pre dI h;rw[bG];simp only[QO,aM,jL h,EN,seval];exact hx _ _ _
 |cons n r ih =>
  intro pre dI h;rw[bG];have dQ:pre.length+1<=100000:=by rw[h] at ht; simp at ht; omega
  have hw:=zy pre n;have hi:=fun dI=>ih (pre++[n]) dI (by rw[h]; simp)
  rw[wj];simp only[aM] at hi;generalize hst:sI ae ar at' d n dI=m1;simp only[QO,aM,iQ h,gU h,aL,EN,seval]
  repeat' ((first|apply bA|apply bV|apply dP)<;>intro hb<;>simp only[hb,EN,QO,hw,afG,Pw,ht,aL,seval])
  all_goals refine ir ?_ (hi m1)
  all_goals congr 1
  all_goals (subst hst; clear hi ih hx hw h ht; simp_all only[sI,nz,gt_iff_lt,aA,aw,az,aK,qB,↓reduceIte,reduceCtorEq,av]; done)
def aqe(t:Tree)(ar at':Int)(ht:t.ae.length<=100000):aq bZ 129 [br t,aF ar,aF at'] []=some (aF (Ca t.ae ar at'),[]):=by
 obtain⟨ae,next,ak⟩:=t
 have ht:ae.length<=100000:=ht;refine aB ?_;simp only[acq,QO,br,aM,Pw,ht,EN,seval];exact aan (R:=fun z=>some (aF z,[])) ht (fun dI v q=>by simp only[QO,EN,seval]) ae [] 0 rfl
def amr(ae:List Node)(next ak ar at':Int)(h:ae.length<=100000)(M:aC):aU (aq bZ) 129 [.agg [ba ae,aF next,aF ak],aF ar,aF at'] M=some (aF (Ca ae ar at'),M) :=
 cO (aqe ⟨ae,next,ak⟩ ar at' h) M
set_option maxHeartbeats 2000000 in
def c73(t:Tree)(km:Int)(s:Bytes)(to:Int)(nm:Bytes)(hz:Sz 1000 t)(hs:s.length<=100000)(ha:nm.length<=100000):aq bZ 73 [br t,aF km,.str s,aF to,.str nm] [] =
  some (.tuple [br (wU t km s to nm).1,aF (wU t km s to nm).2.1,aF (wU t km s to nm).2.2],[]):=by
 obtain⟨ae,next,ak⟩:=t
 have ht:Small ⟨ae,next,ak⟩:=hz.small aJ
 have hn:ae.length<=100000:=ht.ae;have hd:(gX ae to).1.bc.length<=100000:=tI ht to;have z1:Sz 1001 ⟨dD ae km s,next,ak⟩:=hz.left km s next ak
 have z2:Sz 1002 ⟨dD (dD ae km s) to nm,next,ak⟩:=z1.left to nm next ak
 have z3:∀y,Sz 1003 ⟨fm (dD (dD ae km s) to nm) y,next,ak⟩:=fun y=>z2.unnamed y next ak
 have hx:=hz.find (fh ae km s).1;have z4:∀y,Sz 1004 ⟨eV (fm (dD (dD ae km s) to nm) y) { bm ae (fh ae km s).1 with up:=to },next,ak⟩:=fun y=>(z3 y).with (n:={ bm ae (fh ae km s).1 with up:=to }) (aY hx.1 aJ) hx.2 next ak
 have z5:Sz 1002 ⟨eV (dD ae km s) { bm ae (fh ae km s).1 with up:=to },next,ak⟩:=z1.with (n:={ bm ae (fh ae km s).1 with up:=to }) (aY hx.1 aJ) hx.2 next ak
 have s1:=z1.small aJ;have s2:=z2.small aJ;have s3:=fun y=>(z3 y).small aJ
 have s4:=fun y=>(z4 y).small aJ
 have s5:=z5.small aJ;have n1:(dD ae km s).length<=100000:=s1.ae;have n3:∀y,(fm (dD (dD ae km s) to nm) y).length<=100000:=fun y=>(s3 y).ae
 clear z1 z2 z3 z4 z5 hx;refine aB ?_;simp only[al0,QY,br,aM,k72,ht,hs,EN,seval];refine bA (fun hb0=>?_) (fun hb0=>?_)
 ·simp only[QY,hb0,EN,seval];clear s1 s2 s3 s4 s5 n1 n3;simp_all only[wU,br,aM,qB,↓reduceIte,reduceCtorEq,av]
 simp only[QY,hb0,Zh,hn,bL,aL,EN,seval];refine bA (fun hb1=>?_) (fun hb1=>?_)
 ·simp only[QY,hb1,EN,seval];clear s1 s2 s3 s4 s5 n1 n3;simp_all only[wU,br,aM,qB,↓reduceIte,reduceCtorEq,av]
 simp only[QY,hb1,S0,ha,EN,seval];refine bA (fun hb2=>?_) (fun hb2=>?_)
 ·simp only[QY,hb2,EN,seval];clear s1 s2 s3 s4 s5 n1 n3;simp_all only[wU,br,aM,qB,↓reduceIte,reduceCtorEq,av]
 simp only[QY,hb2,afF,hd,EN,seval];rcases tC nm (gX ae to).1.bc 0 with ⟨h1,h2⟩|⟨m,n,h1,h2,h3⟩
 ·have hu:jh (gX ae to).1.bc nm=0:=by simp[jh,h1]
  rw[h2];simp only[QY,EN,seval]
  repeat' ((first|apply bA|apply bV|apply dP)<;>intro hb<;>simp only[hb,EN,QY,Bj,hn,ht,bL,aL,afG,amq,Pw,amr,afE,afD,Hk,Zg,s1,s2,s3,s4,s5,n1,n3,br,aM,seval])
  all_goals (clear s1 s2 s3 s4 s5 n1 n3 h2; simp_all only[wU,ti,manyN,hu,br,aM,qB,↓reduceIte,reduceCtorEq,av]; done)
 ·have hu:jh (gX ae to).1.bc nm=n.ar:=by simp[jh,h2]
  rw[h3];simp only[QY,h1,gk,EN,seval]
  repeat' ((first|apply bA|apply bV|apply dP)<;>intro hb<;>simp only[hb,EN,QY,Bj,hn,ht,bL,aL,afG,amq,Pw,amr,afE,afD,Hk,Zg,s1,s2,s3,s4,s5,n1,n3,br,aM,seval])
  all_goals (clear s1 s2 s3 s4 s5 n1 n3 h3; simp_all only[wU,ti,manyN,hu,br,aM,qB,↓reduceIte,reduceCtorEq,av]; done)
def k73(ae:List Node)(next ak km:Int)(s:Bytes)(to:Int)(nm:Bytes)(hz:Sz 1000 ⟨ae,next,ak⟩)(hs:s.length<=100000)(ha:nm.length<=100000)(M:aC):aU (aq bZ) 73 [.agg [ba ae,aF next,aF ak],aF km,.str s,aF to,.str nm] M =
  some (.tuple [br (wU ⟨ae,next,ak⟩ km s to nm).1,aF (wU ⟨ae,next,ak⟩ km s to nm).2.1,aF (wU ⟨ae,next,ak⟩ km s to nm).2.2],M):=cO (c73 ⟨ae,next,ak⟩ km s to nm hz hs ha) M
def V1{α:Type}(lt:α->Bool)(x:α)(l:List α):mq lt (x::l)=if lt x then mq lt l+1 else 0:=by
 unfold mq;rw[iz];split<;>simp
def ahl{l:List fA}(hn:l.length<=100000){c h ar:Int}{t:Tree}{n:Node}{i:Nat}{k:List K}{R:Option (ag×aC)}
  (hx:∀z,kr (aq bZ) [.tmp 10,.tmp 11] 0 k ⟨.exit 0,(1,fI l)::(2,aF c)::(3,aF h)::(4,aF ar)::(14,aF i)::z,[cC (aM t),cC (aL n)]⟩=R) :
  ∀(rest pre:List fA),l=pre++rest->pre.length+mq (wJ c h) rest=i->eX (aq bZ) [.tmp 10,.tmp 11] 0 k (.loop [1,2,3,4,14] ahe) [(1,fI l),(2,aF c),(3,aF h),(4,aF ar),(14,aF pre.length)] [cC (aM t),cC (aL n)]=R:=by
 simp only[aM,aL] at hx ⊢;intro rest;induction rest with
 |nil =>
  intro pre e hi;obtain rfl:pre.length=i:=by simpa[mq] using hi
  rw[bG];simp only[Yh,jL e,EW,seval];exact hx _
 |cons x r ih =>
  intro pre e hi;rw[bG];have dQ:pre.length+1<=100000:=by rw[e] at hn; simp at hn; omega
  have hw:=zy pre x;have i1:=ih (pre++[x]) (by rw[e]; simp)
  have h0:((pre.length:Int)<0)=False:=dx;simp only[aA,aw,az,aK] at i1;rw[V1] at hi;cases hl:wJ c h x<;>rw[hl] at hi
  ·obtain rfl:pre.length=i:=by simpa using hi
   unfold wJ at hl;cases h1:decide (x.bE<c)<;>cases h2:x.bE==c<;>cases h3:decide (x.handle<h)<;>rw[h1,h2,h3] at hl<;>first|(cases hl; done)|skip
   all_goals
    simp only[Yh,iQ e,gU e,hw,h0,h1,h2,h3,ij,jd,er,dM,fE,cV,dR,cN,cI,aI,af,aD,EW,seval];exact hx _
  ·have i1:=i1 (by simp at hi; omega)
   unfold wJ at hl;cases h1:decide (x.bE<c)<;>cases h2:x.bE==c<;>cases h3:decide (x.handle<h)<;>rw[h1,h2,h3] at hl<;>first|(cases hl; done)|skip
   all_goals
    simp only[Yh,iQ e,gU e,hw,h0,h1,h2,h3,ij,jd,er,dM,fE,cV,dR,cN,cI,aI,af,aD,EW,seval];exact i1
def c77(t:Tree)(l:List fA)(c h ar:Int)(ht:t.ae.length<=100000)(hn:l.length<=100000):aq bZ 77 [br t,fI l,aF c,aF h,aF ar] []=some (.tuple [fI (sM t l c h ar).1,aF (sM t l c h ar).2],[]):=by
 refine aB ?_;have qg:=fun M=>Bj t.ae t.next t.ak ar ht M
 have qo:=fun M=>ams t.ae t.next t.ak ar ht M
 have qp:=fun M=>afH l c h hn M
 have hz:(find t.ae ar).getD Node.zero=bm t.ae ar:=rfl;rw[hz] at qg
 obtain⟨A,B,hl,hA⟩:∃A B,l=A++B/\mq (wJ c h) l=A.length:=⟨l.take (mq (wJ c h) l),l.drop (mq (wJ c h) l),dx,by
  rw[cr];have:mq (wJ c h) l<=l.length:=by unfold mq; exact(List.takeWhile_prefix _).length_le
  omega⟩
 have hlo:=fun {k R} hx=>ahl (t:=t) (n:=bm t.ae ar) (c:=c) (h:=h) (ar:=ar) (i:=A.length) hn (k:=k) (R:=R) hx l [] rfl (by simpa using hA)
 unfold sM;rw[hA];have a1:l.take A.length=A:=by rw[hl]; simp
 have a2:l.drop A.length=B:=by rw[hl]; simp
 have a3:((A.length:Int)<=(l.length:Int))=True:=by rw[hl]; simp; omega
 have hal:A.length+B.length<=100000:=by rw[hl] at hn; simpa using hn
 have r1:ct A.length 24=True:=qM;have r2:ct (A.length+1) 24=True:=qM;have r3:ct (A.length+1+B.length) 24=True:=qM;generalize bm t.ae ar=n at qg qo hlo;generalize (find t.ae ar).isSome=is at qg qo;generalize zo l c h=p at qp
 cases h1:decide (c<0)<;>cases h2:decide (16<=c)<;>cases h3:decide (h<0)<;>cases h4:decide (99<h) <;>
  simp only[afr,Yh,br,aM,qg,h1,h2,h3,h4,bL,aL,er,dM,fE,cV,fF,aI,af,aD,EW,seval]
 cases is<;>cases h5:gV n<;>rw[h5] at qo<;>simp only[jO,gb,dR,cN,cI] at qo <;>
  simp only[Yh,qo,er,dM,fE,cV,fF,aI,af,aD,EW,seval]
 cases h6:n.kind==2<;>simp only[Yh,h6,aI,af,aD,EW,seval]
 cases h7:decide (0<=p)<;>simp only[Yh,qp,h7,aI,af,aD,EW,seval]
 cases h8:decide (64<=(l.length:Int))<;>simp only[Yh,h8,aI,af,aD,EW,seval]
 simp only[az,aK,aM,aL] at hlo;refine hlo (fun z=>?_)
 rw[a1,a2];have a1':(l.map ij).take A.length=A.map ij:=by rw[<-eP,a1]
 have a2':(l.map ij).drop A.length=B.map ij:=by rw[<-jS,a2]
 have a5:(l.map ij).take l.length=l.map ij:=by rw[<-eP,bF]
 simp only[Yh,a1',a2',a3,a5,r1,r2,r3,dU,EW,seval];simp[ij,jd]
def k77(ae:List Node)(next ak:Int)(l:List fA)(c h ar:Int)(ht:ae.length<=100000)(hn:l.length<=100000)(M:aC):aU (aq bZ) 77 [.agg [ba ae,aF next,aF ak],fI l,aF c,aF h,aF ar] M=some (.tuple [fI (sM ⟨ae,next,ak⟩ l c h ar).1,aF (sM ⟨ae,next,ak⟩ l c h ar).2],M):=cO (c77 ⟨ae,next,ak⟩ l c h ar ht hn) M
structure AI(t:Tree)(l:List fA)(u:Tree)(m:List fA):Prop where
 rt:Rt u
 mr:uG m
 len:m.length<=64
 mem:∀y,y∈m->y∈l/\(tM t.ae y.ar->tM u.ae y.ar)
 orp:(∀n,n∈t.ae->gV n=true->pS l n.ar=true)->∀n,n∈u.ae->gV n=true->pS m n.ar=true
 dir:∀i,XV t.ae i->XV u.ae i
 one:∀Q,OD t Q->OD u Q
 use:∀q,nu u q=nu t q
def AI.refl{t:Tree}{l:List fA}(ht:Rt t)(hl:uG l)(hn:l.length<=64):AI t l t l:=⟨ht,hl,hn,fun _ hy=>⟨hy,id⟩,id,fun _=>id,fun _=>id,fun _=>rfl⟩
theorem AI.trans{t u v:Tree}{l m k:List fA}(h:AI t l u m)(g:AI u m v k):AI t l v k:=⟨g.rt,g.mr,g.len,fun y hy=>⟨(h.mem y (g.mem y hy).1).1,fun hf=>(g.mem y hy).2 ((h.mem y (g.mem y hy).1).2 hf)⟩,fun ho=>g.orp (h.orp ho),fun i hi=>g.dir i (h.dir i hi),fun Q hQ=>g.one Q (h.one Q hQ),fun q=>(g.use q).trans (h.use q)⟩
def CW{l:List fA}{y:fA}(h:y∈l){i:Int}(e:y.ar=i):pS l i=true:=iL.2 ⟨y,h,by simp[e]⟩
def of_held{l:List fA}{i:Int}(h:pS l i=true):∃y,y∈l/\y.ar=i:=by
 obtain⟨y,h1,h2⟩:=iL.1 h;exact⟨y,h1,by simpa using h2⟩
def abt{t u:Tree}{l A B:List fA}{x:fA}(ht:Rt t)(hl:uG l)(hn:l.length<=64)(he:l=A++x::B)(hu:u=t/\(((find t.ae x.ar).isSome&&gV (bm t.ae x.ar))=true->pS (A++B) x.ar=true)\/u=(kH t x.ar).1/\pS (A++B) x.ar=false):AI t l u (A++B):=by
 subst he;have hsub:(A++B).Sublist (A++x::B):=List.Sublist.append (List.Sublist.refl _) (List.sublist_cons_self _ _);have dQ:(A++B).length<=64:=aY hsub.length_le hn
 have hor:∀y,y∈A++x::B->y=x\/y∈A++B:=fun y hy=>by
  rcases bq.1 hy with h|h
  ·exact .inr (eK _ h)
  ·rcases bJ.1 h with h|h
   ·exact .inl h
   ·exact .inr (iI _ h)
 rcases hu with ⟨rfl,hb⟩|⟨rfl,hb⟩
 ·exact⟨ht,hl.sublist hsub,dQ,fun y hy=>⟨hsub.mem hy,id⟩,fun h n hm ho=>by
   obtain⟨y,h1,h2⟩:=of_held (h n hm ho);rcases hor y h1 with rfl|h3
   ·rw[<-h2];refine hb ?_;have:=(ik ht.lL.mr).2 ⟨hm,h2.symm⟩;simp[bm,this,ho]
   ·exact CW h3 h2,fun _=>id,fun _=>id,fun _=>rfl⟩
 ·have hf:=ht.free x.ar;have hff:=A5 ht x.ar;refine⟨hf,hl.sublist hsub,dQ,fun y hy=>⟨hsub.mem hy,fun hi=>Jj ht x.ar hi fun e=>by rw[CW hy e] at hb; cases hb⟩,fun h n hm ho=>?_,fun i hi=>?_,aaU ht x.ar,fun q=>by simp only[nu,Qs ht]⟩
  ·have h1:=(ik hf.lL.mr).2 ⟨hm,rfl⟩;rw[hff] at h1;split at h1
   ·cases h1
   rename_i hc;obtain⟨y,g1,g2⟩:=of_held (h n (cH h1).1 ho);rcases hor y g1 with rfl|h3
   ·exact absurd ⟨g2.symm,n,by rw[g2]; exact h1,ho⟩ hc
   ·exact CW h3 g2
  ·obtain⟨n,h1,h2⟩:=hi;refine⟨n,?_,h2⟩;rw[hff,aR,h1];rintro⟨rfl,m,g1,g2⟩;rw[h1] at g1; cases g1;simp[gV,h2] at g2
def c80(t:Tree)(l:List fA)(c h:Int)(ht:Rt t)(hl:uG l)(hn:l.length<=64):∃u m e,aq bZ 80 [br t,fI l,aF c,aF h] []=some (.tuple [br u,fI m,aF e],[])/\AI t l u m:=by
 have qp:=fun M=>afH l c h aJ M
 have hnl:=ht.sz.ae;rcases sw c h l 0 with ⟨hp,_⟩|⟨m,x,hp,hx,_⟩<;>rw[show pV c h l 0=zo l c h from rfl] at hp
 ·rw[hp] at qp;refine⟨t,l,80,aB ?_,AI.refl ht hl hn⟩;simp only[Pf,E80,br,aM,qp,EW,seval]
 ·rw[hp,aK] at qp;have hm:=(aj.1 hx).1;have h1:((m:Int)<0)=False:=dx;have h2:((m:Int)<(l.length:Int))=True:=su;have w1:IntKind.i64.wrap ((m:Int)+1)=((m+1:Nat):Int):=by rw[gA aJ aJ]; rfl
  have h3:((m:Int)<=(l.length:Int))=True:=su;have h4:(((m+1:Nat):Int)<=(l.length:Int))=True:=su;obtain⟨A,B,e1,e2⟩:∃A B,l.take m=A/\l.drop (m+1)=B:=⟨_,_,rfl,rfl⟩
  have he:l=A++x::B:=by
   have hxe:x=l[m]:=(aj.1 hx).2.symm;rw[<-e1,<-e2,hxe,List.getElem_cons_drop hm,cv]
  have sh:=fun u hu=>abt (u:=u) ht hl hn he hu
  have hab:A.length+B.length<=64:=by rw[he] at hn; simp at hn; omega
  have qo:=fun M=>ams t.ae t.next t.ak x.ar aJ M
  have qh:=fun M=>asx (A++B) x.ar gm M
  have qf:=fun M=>amu t.ae t.next t.ak x.ar ht.small M
  have hD:pS (A++B) x.ar = !(Jb (A++B) x.ar==0):=by
   rw[cz];unfold pS Jb;rw[iL,<-List.countP_pos_iff (p:=fun z:fA=>z.ar==x.ar)]
   simp only[iq,ke];omega
  rw[hD] at sh;have a1:(l.map ij).take m=A.map ij:=by rw[<-eP,e1]
  have a2:(l.map ij).drop (m+1)=B.map ij:=by rw[<-jS,e2]
  have a5:(l.map ij).take l.length=l.map ij:=by rw[<-eP,bF]
  have r1:ct A.length 24=True:=qM;have r2:ct (A.length+B.length) 24=True:=qM;generalize ((find t.ae x.ar).isSome&&gV (bm t.ae x.ar))=b at qo sh;generalize kH t x.ar=v at qf sh;have eAB:fI (A++B) = gG (A.map ij++B.map ij):=congrArg (ag.slice .sh) aW;rw[eAB] at qh;cases b
  ·refine⟨t,A++B,0,aB ?_,sh t (.inl ⟨rfl,fun h=>by cases h⟩)⟩
   rw[eAB];simp only[Pf,E80,br,aM,qp,qo,h1,h2,h3,h4,w1,hx,a1,a2,a5,r1,r2,ij,jd,aW,dU,EW,seval]
  ·cases h5:Jb (A++B) x.ar==0<;>rw[h5] at sh
   ·refine⟨t,A++B,0,aB ?_,sh t (.inl ⟨rfl,fun _=>rfl⟩)⟩
    rw[eAB];simp only[Pf,E80,br,aM,qp,qo,qh,h1,h2,h3,h4,h5,w1,hx,a1,a2,a5,r1,r2,ij,jd,aW,dU,EW,seval]
   ·refine⟨v.1,A++B,0,aB ?_,sh v.1 (.inr ⟨rfl,rfl⟩)⟩;rw[eAB];simp only[Pf,E80,br,aM,qp,qo,qh,qf,h1,h2,h3,h4,h5,w1,hx,a1,a2,a5,r1,r2,ij,jd,aW,dU,EW,seval]
def c48(t:Tree)(l:List fA)(c:Int)(ht:Rt t)(hl:uG l)(hn:l.length<=64):∃u m,aq bZ 48 [br t,fI l,aF c] []=some (.tuple [br u,fI m],[])/\AI t l u m:=by
 have key:∃r:ag×aC,(∃u m,r=(.tuple [br u,fI m],[])/\AI t l u m)/\eX (aq bZ) Y4.results 0 [] Y4.body (eH 0 [br t,fI l,aF c]) []=some r:=by
  simp only[Y4,E48,br,aM,EW,seval];refine je (xs:=List.replicate 100 ()) dx (fun _ (s:Tree×List fA)=>AI t l s.1 s.2) (fun s i=>[(1,fI s.2),(2,aF c),(3,cA 0),(6,cA 1),(8,aF i)]) (fun s=>[cC [ba s.1.ae,aF s.1.next,aF s.1.ak],cC [.slice .c0 [],aF 0,aF 0]]) _ (fun s hs=>?_) (fun pre x post s e hx cJ hw h0 _ hs hi=>?_) (t,l) (AI.refl ht hl hn)
  ·have e1:(((100:Nat):Int)<=99)=False:=dx;simp only[E48,e1,kU,EW,seval];exact⟨_,⟨s.1,s.2,rfl,hs⟩,rfl⟩
  ·have e1:((pre.length:Int)<=99)=True:=by
    have:=of_eq_true cJ;rw[kU] at this;simp only[fH,jb]; omega
   obtain⟨u,m,e,q,hq⟩:=c80 s.1 s.2 c pre.length hs.rt hs.mr hs.len;have qc:=cP q;simp only[br,aM] at qc;have i1:=hi (u,m) (hs.trans hq);simp only[E48,e1,hw,qc,EW,seval];exact i1
 obtain⟨_,⟨u,m,rfl,h1⟩,h3⟩:=key;exact⟨u,m,aB h3,h1⟩
def c81(l:List fA)(c h:Int)(hn:l.length<=64):∃i e,aq bZ 81 [fI l,aF c,aF h] []=some (.tuple [aF i,aF e],[]):=by
 have qp:=fun M=>afH l c h aJ M
 rcases sw c h l 0 with ⟨hp,_⟩|⟨m,x,hp,hx,_⟩<;>rw[show pV c h l 0=zo l c h from rfl] at hp
 ·rw[hp] at qp;refine⟨0,80,aB ?_⟩;simp only[afs,E81,qp,EW,seval]
 ·rw[hp,aK] at qp;have hm:=(aj.1 hx).1;have h1:((m:Int)<0)=False:=dx;have h2:((m:Int)<(l.length:Int))=True:=su;refine⟨x.ar,0,aB ?_⟩;simp only[afs,E81,qp,h1,h2,hx,ij,jd,EW,seval]
def aqM(l:List fA)(ar:Int)(hn:l.length<=100000):aq bZ 172 [fI l,aF ar] []=some (.bool (l.any fun x=>x.ar==ar),[]):=by
 refine aB ?_;simp only[acN,aek,EW,seval];refine A4 (xs:=l) aJ (fun post (_:Unit)=>post.any fun x=>x.ar==ar) (fun _ i=>[(0,fI l),(1,aF ar),(5,aF i)]) (fun _=>[]) (fun z=>some (ag.bool z,([]:aC))) (fun _=>?_) (fun pre x post _ e hx cJ hw h0 hm hi=>?_) ()
 ·simp[aek,bl,o4,EW]
 ·have i1:=hi ();rw[jR];cases h1:x.ar==ar<;>simp only[aek,cJ,hx,hw,h1,ij,jd,dM,cV,EW,seval]<;>exact i1
def asO(l:List fA)(ar:Int)(hn:l.length<=100000)(M:aC):aU (aq bZ) 172 [fI l,aF ar] M=some (.bool (l.any fun x=>x.ar==ar),M):=cO (aqM l _ hn) M
def aqO(t:Tree)(l:List dV)(hr:Rt t)(hl:l.length<=100000):∃b:Bool,aq bZ 174 [br t,cR l] []=some (.bool b,[])/\(b=false->∀y,y∈l->nu t y=false):=by
 have key:∃r:ag×aC,(∃b:Bool,r=(.bool b,[])/\(b=false->∀y,y∈l->nu t y=false))/\eX (aq bZ) M7.results 0 [] M7.body (eH 0 [br t,cR l]) []=some r:=by
  simp only[M7,ael,br,aM,EW,seval];refine je (xs:=l) aJ (fun m (_:Unit)=>∀y,y∈l.take m->nu t y=false) (fun _ i=>[(1,cR l),(2,cA 0),(5,aF i)]) (fun _=>[cC [ba t.ae,aF t.next,aF t.ak]]) _ (fun _ ho=>?_) (fun pre x post _ e hx cJ hw h0 _ ho hi=>?_) () (fun y hy=>jK)
  ·simp only[ael,bl,EW,seval];rw[bF] at ho;simp_all
  ·obtain⟨a,b,q,u1,u2⟩:=akR t x.ar hr;have qu:=cP q;simp only[br,aM] at qu;have htk:l.take (pre.length+1)=l.take pre.length++[x]:=by rw[cB,hx]; rfl
   have i1:=fun h=>hi () (fun y hy=>by
    rw[htk] at hy;exact(bq.1 hy).elim (ho y) fun hy=>by rw[bT.1 hy]; omega)
   cases h1:decide (x.ae<a)<;>cases h2:decide (x.bytes<b)<;>simp only[ael,cJ,hx,hw,qu,h1,h2,gF,iX,EW,seval]<;>first|exact⟨_,⟨_,rfl,fun h=>by cases h⟩,rfl⟩|exact i1 (by simp only[dC] at h1 h2; simp only[nu,Bool.not_eq_false',bw,bh]; omega)
 obtain⟨_,⟨b,rfl,h1⟩,h3⟩:=key;exact⟨b,aB h3,h1⟩
section
variable {t:Tree} {l:List dV} {Q:ag×aC->Prop}
def Fst(t:Tree)(l:List dV)(v:Int)(S:Node->gP->Prop)(a:Int):Prop:=(∀d e,S d e->e.ar=v->mg t.ae l d.ar=a)/\(a<0->∀d e,S d e->e.ar≠v)
abbrev XY(t:Tree):aC:=[.cells [ba t.ae,.int .i64 t.next,.int .i64 t.ak]]
theorem VQ{dJ:Int->Nat}(h:dY t dJ 0)(hq:py l)(hl:l.length<=100000){S:Node->gP->Prop}{i j:Nat}{x d:Node}(hi':t.ae[i]?=some x)(hdm:d∈t.ae)(hd:d.bc.length<=100000){k:List K}
  (hx:∀(a:Int) z,Fst t l x.ar (fun d' e'=>S d' e'\/(d'=d/\e'∈d.bc)) a->∃r,Q r/\kr (aq bZ) [.tmp 4] 0 k ⟨.exit 4,(1,cR l)::(2,cA 0)::(5,aF i)::(6,aF a)::(7,aF j)::(8,cA 1)::z,XY t++[cC (aL d)]⟩=some r)
  (hr:∀M,∃r,Q r/\kr (aq bZ) [.tmp 4] 0 k ⟨.ret,[(4,.bool false)],M⟩=some r) (a:Int) (ha:Fst t l x.ar S a) :
  ∃r,Q r/\eX (aq bZ) [.tmp 4] 0 k (.loop [1,2,5,6,7,8,9] ZW) [(1,cR l),(2,cA 0),(5,aF i),(6,aF a),(7,aF j),(8,cA 1),(9,aF 0)] (XY t++[cC (aL d)])=some r:=by
 have b1:((i:Int)<0)=False:=dx;refine je (xs:=d.bc) aJ (fun m (a:Int)=>Fst t l x.ar (fun d' e'=>S d' e'\/(d'=d/\e'∈d.bc.take m)) a) (fun(a:Int) n=>[(1,cR l),(2,cA 0),(5,aF i),(6,aF a),(7,aF j),(8,cA 1),(9,aF n)]) (fun _=>XY t++[cC (aL d)]) Q (fun a ha=>?_) (fun pre e post a hp hx' cJ hw h0 hm ha hi=>?_) a ⟨fun d' e' h1 h2=>h1.elim (fun h1=>ha.1 d' e' h1 h2) fun h1=>by simp at h1,fun h0 d' e' h1=>h1.elim (ha.2 h0 d' e') fun h1=>by simp at h1⟩
 ·simp only[XY,aL,aG,aP] at hx ⊢;simp only[EZ,bl,EW,seval];rw[bF] at ha;exact hx a _ ha
 ·have hfd:=(ik h.lL.mr).2 ⟨hdm,rfl⟩
  have hkd:d.kind=2:=by
   rcases h.kind _ _ hfd with h1|h1
   ·rw[(h.file _ _ hfd h1).1] at hm; cases hm
   ·exact h1
  have qd:=fun M=>cO (arA h hq hl hfd hkd) M
  have hge:0<=mg t.ae l d.ar:=IB h l 13 d.ar d hfd hkd;have htk:d.bc.take (pre.length+1)=d.bc.take pre.length++[e]:=by rw[cB,hx']; rfl
  generalize hu:mg t.ae l d.ar=u at qd hge;simp only[br,aM] at qd
  have i1:=fun hne:e.ar≠x.ar=>hi a ⟨fun d' e' h1 h2=>ha.1 d' e' (h1.imp id fun h1=>⟨h1.1,by
    have h1:=h1.2;rw[htk] at h1
    grind⟩) h2,fun h0 d' e' h1 h2=>ha.2 h0 d' e' (h1.imp id fun h1=>⟨h1.1,by
    have h1:=h1.2;rw[htk] at h1;rcases bq.1 h1 with h1|h1
    ·exact h1
    grind⟩) h2⟩
  have i2:=fun hau:a<0\/u=a=>hi u ⟨fun d' e' h1 h2=>by
    have ur:∀d' e',(S d' e'\/(d'=d/\e'∈d.bc.take pre.length))->e'.ar=x.ar->mg t.ae l d'.ar=u:=fun d' e' g1 g2=>by
     rcases hau with h0|h0
     ·exact absurd g2 (ha.2 h0 d' e' g1)
     ·rw[h0]; exact ha.1 d' e' g1 g2
    rcases h1 with h1|⟨rfl,h1⟩
    ·exact ur d' e' (.inl h1) h2
    ·exact hu,fun h0=>aJ⟩
  simp only[XY,aL,aG,aP] at i1 i2 ⊢;cases h1:e.ar != x.ar
  ·cases h2:decide (0<=a)<;>cases h3:u != a<;>simp only[EZ,cJ,hx',hw,hi',qd,h1,h2,h3,bL,aL,iJ,gk,EW,seval]<;>first|exact hr _|exact i2 (by simp only[dC] at h2; omega)|exact i2 (.inr (by simpa using h3))
  ·simp only[EZ,cJ,hx',hw,hi',h1,bL,aL,iJ,gk,EW,seval];exact i1 (by simpa using h1)
theorem VR{dJ:Int->Nat}(h:dY t dJ 0)(hq:py l)(he:∀n,n∈t.ae->n.bc.length<=100000)(hl:l.length<=100000){i:Nat}{x:Node}(hi':t.ae[i]?=some x){k:List K}
  (hx:∀z,(∃a,Fst t l x.ar (fun d' e'=>d'∈t.ae/\e'∈d'.bc) a)->∃r,Q r/\kr (aq bZ) [.tmp 4] 0 k ⟨.exit 2,(1,cR l)::(2,cA 0)::(5,aF i)::z,XY t⟩=some r)
  (hr:∀M,∃r,Q r/\kr (aq bZ) [.tmp 4] 0 k ⟨.ret,[(4,.bool false)],M⟩=some r) (a:Int) (ha:Fst t l x.ar (fun _ _=>False) a) :
  ∃r,Q r/\eX (aq bZ) [.tmp 4] 0 k (.loop [1,2,5,6,7] ZX) [(1,cR l),(2,cA 0),(5,aF i),(6,aF a),(7,aF 0)] (XY t)=some r:=by
 have h200:=h.ae;refine je (xs:=t.ae) aJ (fun m (a:Int)=>Fst t l x.ar (fun d' e'=>d'∈t.ae.take m/\e'∈d'.bc) a) (fun(a:Int) n=>[(1,cR l),(2,cA 0),(5,aF i),(6,aF a),(7,aF n)]) (fun _=>XY t) Q (fun a ha=>?_) (fun pre d post a hp hx' cJ hw h0 hm ha hi=>?_) a ⟨fun d' e' h1=>by simp at h1,fun h0 d' e' h1=>by simp at h1⟩
 ·simp only[EZ,bl,EW,seval];rw[bF] at ha;exact hx _ ⟨a,ha⟩
 ·have la:=fun {k} h2 h3=>VQ (t:=t) (l:=l) (Q:=Q) h hq hl (j:=pre.length) hi' hm (he d hm) (k:=k) h2 h3 a ha
  have htk:t.ae.take (pre.length+1)=t.ae.take pre.length++[d]:=by rw[cB,hx']; rfl
  simp only[XY,aL,aG,aP] at la ⊢;simp only[EZ,cJ,hx',bL,aL,EW,seval];refine la (fun a z ha'=>?_) (fun M=>?_)
  ·have sub:∀d' e',(d'∈t.ae.take (pre.length+1)/\e'∈d'.bc)->((d'∈t.ae.take pre.length/\e'∈d'.bc)\/(d'=d/\e'∈d.bc)):=fun d' e' ⟨g1,g2⟩=>by
    rw[htk] at g1
    grind
   have i1:=hi a ⟨fun d' e' g=>ha'.1 d' e' (sub d' e' g),fun h0 d' e' g=>ha'.2 h0 d' e' (sub d' e' g)⟩
   simp only[EZ,hw,EW,seval];exact i1
  ·simp only[EW,seval];exact hr _
end
def aqN(t:Tree)(l:List dV)(hr:Rt t)(hq:py l)(hl:l.length<=100000):∃b:Bool,aq bZ 173 [br t,cR l] []=some (.bool b,[])/\(b=true->OD t l):=by
 have he:∀n,n∈t.ae->n.bc.length<=100000:=fun n hn=>by have:=(hr.XX hn).1; omega
 have h200:=hr.sz.ae;obtain⟨dJ,h⟩:=hr
 have key:∃r:ag×aC,(∃b:Bool,r=(.bool b,[])/\(b=true->OD t l))/\eX (aq bZ) M6.results 0 [] M6.body (eH 0 [br t,cR l]) []=some r:=by
  simp only[M6,EZ,br,aM,EW,seval];refine je (xs:=t.ae) aJ (fun m (_:Unit)=>∀x,x∈t.ae.take m->x.kind=1->∃a,Fst t l x.ar (fun d' e'=>d'∈t.ae/\e'∈d'.bc) a) (fun _ i=>[(1,cR l),(2,cA 0),(5,aF i)]) (fun _=>XY t) _ (fun _ ho=>?_) (fun pre x post _ e hx cJ hw h0 _ ho hi=>?_) () (fun y hy=>by simp at hy)
  ·simp only[EZ,bl,EW,seval];rw[bF] at ho;refine⟨_,⟨_,rfl,fun _ d1 e1 d2 e2 x h1 h2 h3 h4 h5 h6 h7=>?_⟩,rfl⟩
   obtain⟨x1,x2⟩:=cH h6;obtain⟨a,ha⟩:=ho x x1 h7;rw[ha.1 d1 e1 ⟨h1,h2⟩ x2.symm,ha.1 d2 e2 ⟨h3,h4⟩ (h5.symm.trans x2.symm)]
  ·have htk:t.ae.take (pre.length+1)=t.ae.take pre.length++[x]:=by rw[cB,hx]; rfl
   have lb:=fun {k Q} h2 h3=>VR (t:=t) (l:=l) (Q:=Q) h hq he hl hx (k:=k) h2 h3 (-1) ⟨fun _ _ h=>h.elim,fun _ _ _ h=>h.elim⟩
   have i1:=fun hh:x.kind=1->∃a,Fst t l x.ar (fun d' e'=>d'∈t.ae/\e'∈d'.bc) a=>hi () (fun y hy=>by
    rw[htk] at hy;exact(bq.1 hy).elim (ho y) fun hy=>by rw[bT.1 hy]; exact hh)
   cases h1:x.kind != 1<;>simp only[EZ,cJ,hx,hw,h1,bL,aL,EW,seval]
   ·refine lb (fun z hz=>?_) (fun M=>?_)
    ·simp only[EZ,hw,EW,seval];exact i1 fun _=>hz
    ·simp only[EW,seval];simp
   ·exact i1 fun hk=>absurd hk jK
 obtain⟨_,⟨b,rfl,h1⟩,h3⟩:=key;exact⟨b,aB h3,h1⟩
section
variable {f:aa} {t:Tree} {q:List dV} {Q:ag×aC->Prop}
abbrev stM(f:aa)(t:Tree):aC:=[.cells (cf f),.cells [ba t.ae,.int .i64 t.next,.int .i64 t.ak],.cells rU]
abbrev HQ(q:List dV):Env:=[(2,cR q),(3,.ptr 0 0),(4,.ptr 1 0),(6,.ptr 2 0)]
def VH(ht:Rt t)(hh:f.holds.length<=64){k:List K}
  (hx:∀(F:List Int) z,F.length<=1000->(∀i,i∈F->∀y,y∈f.holds->y.ar≠i)->(∀n,n∈t.ae->gV n=true->pS f.holds n.ar=false->n.ar∈F)->∃r,Q r/\kr (aq bZ) [.dK 6 10,.tmp 7] 0 k ⟨.exit 0,HQ q++(8,.slice (.own 3) (F.map mV))::z,stM f t++[.tick 1 F.length]⟩=some r) :
  ∃r,Q r/\eX (aq bZ) [.dK 6 10,.tmp 7] 0 k (.loop [2,3,4,6,8,9] ZB) (HQ q++[(8,.slice (.own 3) []),(9,aF 0)]) (stM f t++[.tick 1 0])=some r:=by
 have h200:=ht.sz.ae;refine je (xs:=t.ae) aJ (fun m (F:List Int)=>F.length<=m/\(∀i,i∈F->∀y,y∈f.holds->y.ar≠i)/\∀n,n∈t.ae.take m->gV n=true->pS f.holds n.ar=false->n.ar∈F) (fun F i=>HQ q++[(8,.slice (.own 3) (F.map mV)),(9,aF i)]) (fun F=>stM f t++[.tick 1 F.length]) Q (fun F hF=>?_) (fun pre x post F e hx' cJ hw h0 hm hF hi=>?_) [] ⟨au _,fun i h=>(by cases h),fun n h=>(by simp at h)⟩
 ·simp only[stM,HQ,cf,rU,aG,aP] at hx ⊢;simp only[EY,bl,EW,seval];exact hx F _ aJ hF.2.1 (by have:=hF.2.2; rwa[bF] at this)
 ·have hp:=(aj.1 hx').1;have htk:t.ae.take (pre.length+1)=t.ae.take pre.length++[x]:=by rw[cB,hx']; rfl
  have i1:=fun hb:(gV x=true->pS f.holds x.ar=false->False)=>hi F ⟨aJ,hF.2.1,fun n h=>by
   rw[htk] at h;rcases bq.1 h with h|h
   ·exact hF.2.2 n h
   ·rw[bT.1 h]; exact fun a b=>(hb a b).elim⟩
  have i2:=fun hb:(f.holds.any fun y=>y.ar==x.ar)=false=>hi (F++[x.ar]) ⟨gm,fun i h y hy=>by
   rcases bq.1 h with h|h
   ·exact hF.2.1 i h y hy
   ·rw[bT.1 h];simpa using List.any_eq_false.1 hb y hy,fun n h o1 o2=>by
   rw[htk] at h;rcases bq.1 h with h|h
   ·exact eK _ (hF.2.2 n h o1 o2)
   ·rw[bT.1 h]; simp⟩
  unfold pS gV at i1;have qh:=fun M=>asO f.holds x.ar aJ M
  generalize (f.holds.any fun y=>y.ar==x.ar)=b at qh i1 i2
  have r1:ct (F.length+1) 8=True:=qM;simp only[stM,HQ,cf,rU,aG,aP,aW,aH,aQ,aA,aw,az,aK,mV] at i1 i2 ⊢;cases h1:x.kind==1<;>cases h2:x.eG==0<;>cases b<;>simp only[EY,cJ,hx',hw,h0,h1,h2,qh,r1,uF,bL,aL,mV,EW,seval]<;>first|exact i1 (by simp[h1,h2])|exact i2 rfl
structure w7(f:aa)(t0:Tree)(F:List Int)(t:Tree):Prop where
 rt:Rt t
 rn:∀y,y∈f.holds->tM t0.ae y.ar->tM t.ae y.ar
 sub:∀i n,find t.ae i=some n->find t0.ae i=some n
 gone:∀i,i∈F->∀n,find t.ae i=some n->gV n=false
def w7.file{f:aa}{t0:Tree}{F:List Int}{t:Tree}(h:w7 f t0 F t){i:Int}(hi:tM t.ae i):tM t0.ae i:=by
 obtain⟨n,h1,h2⟩:=hi;exact⟨n,h.sub _ _ h1,h2⟩
def w7.step{f:aa}{t0:Tree}{F:List Int}{t:Tree}(h:w7 f t0 F t){x:Int}(hx:∀y,y∈f.holds->y.ar≠x):w7 f t0 (F++[x]) (kH t x).1:=by
 have hf:=A5 h.rt x;refine⟨h.rt.free x,fun y hy hi=>Jj h.rt x (h.rn y hy hi) (hx y hy),fun i n hn=>?_,fun i hi n hn=>?_⟩
 ·rw[hf] at hn;split at hn
  ·cases hn
  ·exact h.sub _ _ hn
 ·rw[hf] at hn;split at hn
  ·cases hn
  ·rename_i hc;rcases bq.1 hi with hi|hi
   ·exact h.gone i hi n hn
   ·rw[bT.1 hi] at hc hn;cases ho:gV n with
    |false=>rfl
    |true=>exact absurd ⟨rfl,n,hn,ho⟩ hc
def w7.held{f:aa}{t0:Tree}{F:List Int}{t:Tree}(h:w7 f t0 F t)(ha:∀n,n∈t0.ae->gV n=true->pS f.holds n.ar=false->n.ar∈F)(_:Rt t0):∀n,n∈t.ae->gV n=true->pS f.holds n.ar=true:=by
 intro n hn ho;have h1:=(ik h.rt.lL.mr).2 ⟨hn,rfl⟩;cases hh:pS f.holds n.ar with
 |true=>rfl
 |false =>
  have:=h.gone _ (ha n (cH (h.sub _ _ h1)).1 ho hh) n h1;rw[ho] at this; cases this
def VI{F:List Int}(hF:F.length<=1000)(hno:∀i,i∈F->∀y,y∈f.holds->y.ar≠i){t0:Tree}{k:List K}
  (hx:∀(t:Tree) z,w7 f t0 F t->∃r,Q r/\kr (aq bZ) [.dK 6 10,.tmp 7] 0 k ⟨.exit 2,HQ q++(8,.slice (.own 3) (F.map mV))::z,stM f t++[.tick 1 F.length]⟩=some r) (ht:w7 f t0 [] t) :
  ∃r,Q r/\eX (aq bZ) [.dK 6 10,.tmp 7] 0 k (.loop [2,3,4,6,8,11] ZC) (HQ q++[(8,.slice (.own 3) (F.map mV)),(11,aF 0)]) (stM f t++[.tick 1 F.length])=some r:=by
 refine je (xs:=F) aJ (fun m (t:Tree)=>w7 f t0 (F.take m) t) (fun _ i=>HQ q++[(8,.slice (.own 3) (F.map mV)),(11,aF i)]) (fun t=>stM f t++[.tick 1 F.length]) Q (fun t ht=>?_) (fun pre x post t e hx' cJ hw h0 hm ht hi=>?_) t (by simpa using ht)
 ·simp only[stM,HQ,cf,rU,aG,aP] at hx ⊢;simp only[EY,bl,EW,seval];exact hx t _ (by rwa[bF] at ht)
 ·have i1:=hi _ (show w7 f t0 (F.take (pre.length+1)) (kH t x).1 by rw[cB,hx']; exact ht.step (hno x hm))
  have qf:=fun M=>amu t.ae t.next t.ak x ht.rt.small M
  generalize kH t x=v at qf i1;simp only[br,aM] at qf;simp only[stM,HQ,cf,rU,aG,aP] at i1 ⊢;simp only[EY,cJ,hx',hw,h0,qf,mV,EW,seval];exact i1
def VJ(ht:Rt t)(hq:py q)(hn:q.length<=16){F:List Int}{k:List K}
  (hx:∀(L:List dV) z,py L->L.length<=16->(∀y,y∈L->y∈q/\(find t.ae y.ar).isSome=true)->∃r,Q r/\kr (aq bZ) [.dK 6 10,.tmp 7] 0 k ⟨.exit 4,HQ q++(14,.slice (.own 4) (L.map gF))::z,stM f t++[.tick 1 F.length,.tick 3 L.length]⟩=some r) :
  ∃r,Q r/\eX (aq bZ) [.dK 6 10,.tmp 7] 0 k (.loop [2,3,4,6,14,15] ZD) (HQ q++[(14,.slice (.own 4) []),(15,aF 0)]) (stM f t++[.tick 1 F.length,.tick 3 0])=some r:=by
 have h200:=ht.sz.ae;refine je (xs:=q) aJ (fun m (L:List dV)=>L.Sublist (q.take m)/\∀y,y∈L->(find t.ae y.ar).isSome=true) (fun L i=>HQ q++[(14,.slice (.own 4) (L.map gF)),(15,aF i)]) (fun L=>stM f t++[.tick 1 F.length,.tick 3 L.length]) Q (fun L hL=>?_) (fun pre x post L e hx' cJ hw h0 hm hL hi=>?_) [] ⟨List.nil_sublist _,fun y h=>by cases h⟩
 ·rw[bF] at hL;simp only[stM,HQ,cf,rU,aG,aP] at hx ⊢;simp only[EY,bl,EW,seval];exact hx L _ (hq.sublist hL.1) (aY hL.1.length_le hn) (fun y hy=>⟨hL.1.mem hy,hL.2 y hy⟩)
 ·have ht1:q.take (pre.length+1)=q.take pre.length++[x]:=by rw[cB,hx']; rfl
  have i1:=hi L ⟨by rw[ht1]; exact hL.1.trans (List.sublist_append_left _ _),hL.2⟩
  have i2:=fun hs=>hi (L++[x]) ⟨by rw[ht1]; exact hL.1.append (List.Sublist.refl _),fun y h=>(bq.1 h).elim (hL.2 y) fun h=>by rw[bT.1 h]; exact hs⟩
  have hLl:L.length<=16:=aY hL.1.length_le gm;have qg:=fun M=>Bj t.ae t.next t.ak x.ar aJ M
  generalize (find t.ae x.ar).getD Node.zero=n at qg;generalize (find t.ae x.ar).isSome=b at qg i2;have r1:ct (L.length+1) 24=True:=qM;simp only[stM,HQ,cf,rU,aG,aP,aW,aH,aQ,aA,aw,az,aK,gF,iX] at i1 i2 ⊢;cases b<;>simp only[EY,cJ,hx',hw,h0,qg,r1,bL,aL,gF,iX,EW,seval]<;>first|exact i1|exact i2 rfl
end
structure Ou(f:aa):Prop where
 file:∀y,y∈f.holds->tM f.s.now.ae y.ar
 orp:∀n,n∈f.s.now.ae->gV n=true->pS f.holds n.ar=true
 quo:∀q,q∈f.dX->XV f.s.now.ae q.ar
 one:OD f.s.now f.dX
 over:∀q,q∈f.dX->nu f.s.now q=false
 key:∀y,y∈f.holds->zZ y.bE y.handle=true
def Qf(s:iT)(t:Tree):(qA s t).now=t:=by
 unfold qA;split
 ·rename_i h; exact jV h
 ·rfl
def HA{f:aa}{t:Tree}{H:List fA}{Q:List dV}(hH:∀y,y∈H->y∈f.holds/\(tM f.s.now.ae y.ar->tM t.ae y.ar))(hO:∀n,n∈t.ae->gV n=true->pS H n.ar=true)(hQ:∀q,q∈Q->XV t.ae q.ar)(h1:OD t Q)(h2:∀q,q∈Q->nu t q=false)(h:Ou f):Ou ⟨qA f.s t,H,Q⟩:=by
 refine⟨fun y hy=>?_,fun n hn=>?_,fun q hq=>?_,?_,fun q hq=>?_,fun y hy=>h.key y (hH y hy).1⟩<;>simp only[Qf] at *
 ·exact(hH y hy).2 (h.file y (hH y hy).1)
 ·exact hO n hn
 ·exact hQ q hq
 ·exact h1
 ·exact h2 q hq
def Kp(f g:aa):Prop:=(Ou f->Ou g)/\Stp (fun _=>True) f.s g.s
def D7{f:aa}:Kp f f:=⟨id,.inl rfl⟩
def ap5{K:Nat}(f:aa)(t:Tree)(q:List dV)(hf:FB K f)(hK:K<=89000)(ht:Rt t)(hq:py q)(hn:q.length<=16)(hkp:∀y,y∈f.holds->tM f.s.now.ae y.ar->tM t.ae y.ar)(hqd:Ou f->∀y,y∈q->¬tM t.ae y.ar):∃g e,aq bZ 120 [.agg (cf f),br t,cR q] []=some (.tuple [.agg (cf g),aF e],[])/\FB (K+200) g/\Kp f g:=by
 have key:∃r:ag×aC,(∃g e,r=(.tuple [.agg (cf g),aF e],[])/\FB (K+200) g/\Kp f g)/\eX (aq bZ) IY.results 0 [] IY.body (eH 0 [.agg (cf f),br t,cR q]) []=some r:=by
  have la:=fun {k Q} hx=>VH (f:=f) (t:=t) (q:=q) (Q:=Q) ht hf.ok.dQ (k:=k) hx
  simp only[stM,HQ,cf,rU,aG,aP] at la;simp only[IY,EY,cf,br,aM,EW,seval];refine la (fun F z hF hno hall=>?_)
  have lb:=fun {k Q} hx=>VI (f:=f) (t:=t) (q:=q) (Q:=Q) hF hno (t0:=t) (k:=k) hx ⟨ht,fun _ _ h=>h,fun _ _ h=>h,fun i h=>by cases h⟩
  simp only[stM,HQ,cf,rU,aG,aP] at lb;simp only[EY,EW,seval];refine lb (fun t' z hfr=>?_)
  have ht':=hfr.rt;have hor:=hfr.held hall ht;have lc:=fun {k Q} hx=>VJ (f:=f) (t:=t') (q:=q) (Q:=Q) ht' hq hn (F:=F) (k:=k) hx
  simp only[stM,HQ,cf,rU,aG,aP] at lc;simp only[EY,EW,seval];refine lc (fun L z hL hLn hLq=>?_)
  have h200:=ht'.sz.ae;obtain⟨b1,q1,k1⟩:=aqN t' L ht' hL aJ;obtain⟨b2,q2,k2⟩:=aqO t' L ht' aJ;have q3:=c49 f.s t' hf.ok.rt ht' hf.ok.len hf.ok.dW hf.ok.eS;have g1:=cP q1;have g2:=cP q2;have g3:=cP q3;simp only[br,aM,bM] at g1 g2 g3;have hfin:=hf.put hK ht' hf.ok.holds hf.ok.dQ hL hLn
  have hho:b1=true->b2=false->Ou f->Ou ⟨qA f.s t',f.holds,L⟩:=fun c1 c2 h=>HA (fun y hy=>⟨hy,fun hf=>hfr.rn y hy (hkp y hy hf)⟩) hor (fun y hy=>by
   obtain⟨h1,h2⟩:=hLq y hy;obtain⟨n,h2⟩:=fz.1 h2;exact ht'.XV h2 (fun hf=>hqd h y h1 (hfr.file hf))) (k1 c1) (k2 c2) h
  cases b1<;>cases b2<;>simp only[EY,g1,g2,g3,EW,seval]
  ·exact⟨_,⟨f,91,rfl,hf.mono aJ,D7⟩,rfl⟩
  ·exact⟨_,⟨f,91,rfl,hf.mono aJ,D7⟩,rfl⟩
  ·exact⟨_,⟨_,0,rfl,hfin,hho rfl rfl,.inr (.inl ⟨t',ht',rfl⟩)⟩,rfl⟩
  ·exact⟨_,⟨f,90,rfl,hf.mono aJ,D7⟩,rfl⟩
 obtain⟨_,⟨g,e,rfl,h1⟩,h3⟩:=key;exact⟨g,e,aB h3,h1⟩
end
def Pz(s:Bytes):(Cc s).1.length<=100000/\(Cc s).2.1.length<=100000:=by
 obtain⟨o1,o2⟩:=yl s;unfold Cc;split
 ·exact⟨dx,dx⟩
 ·generalize (pX s).1=l at o1 o2;constructor
  ·simp only;cases h:l.getLast? with
   |none=>simp
   |some x=>have:=qS (o1 x (List.mem_of_getLast? h)); simp only[bz]; omega
  ·simp only[Nn];split
   ·simp
   ·have h1:=D1 l.dropLast [] (fun x hx=>qS (o1 x (List.Sublist.mem hx (List.dropLast_sublist _))))
    simp only[az,List.length_dropLast] at h1;omega
section
attribute [local irreducible] eX fJ lu gK eb kr aq aU cq bI
def c42(e:Int):aq bZ 42 [aF e] []=some (.agg (cE (ia e)),[]):=by
 refine aB ?_;simp only[alQ,E42,EW,seval];rfl
def k42 e:=cP (c42 e)
def c75(n:Node):∃a:Int,aq bZ 75 [bL n] []=some (aF a,[]):=by
 cases h1:n.kind==2
 ·refine⟨n.data.length,aB ?_⟩;simp only[afq,E75,bL,aL,h1,EW,seval]
 ·refine⟨n.bc.length,aB ?_⟩;simp only[afq,E75,bL,aL,h1,EW,seval]
def c67(t:Tree)(s:Bytes)(ht:Small t)(hs:s.length<=100000):∃d nm e,aq bZ 67 [br t,.str s] []=some (.tuple [aF d,.str nm,aF e],[])/\nm.length<=100000:=by
 have ql:=fun M=>cO (ap2 s hs) M
 obtain⟨h1,h2⟩:=Pz s;generalize Cc s=v at ql h1 h2;have qw:=fun M=>k66 t.ae t.next t.ak v.2.1 ht h2 M
 generalize Cz t.ae v.2.1=w at qw;cases h3:v.2.2 != 0
 ·refine⟨w.1,v.1,w.2,aB ?_,h1⟩;simp only[afp,E67,br,aM,ql,qw,h3,EW,seval]
 ·refine⟨0,[],v.2.2,aB ?_,dx⟩;simp only[afp,E67,br,aM,ql,h3,EW,seval]
def FB.ad1{K:Nat}{f:aa}(h:FB K f){u:iT}(e1:u.now=f.s.now)(e2:u.since=f.s.since)(e3:∀p,p∈u.eS->p∈f.s.eS)(e4:u.eS.length<=f.s.eS.length)(e5:u.dW.length<=16):FB (K+200) ⟨u,f.holds,f.dX⟩/\(Ou f->Ou ⟨u,f.holds,f.dX⟩) :=
 ⟨⟨⟨by simp only[e1]; exact h.ok.rt,by simp only[e1,e2]; exact h.ok.len,aY e4 h.ok.eS,fun p hp=>h.ok.Eu p (e3 p hp),e5,h.ok.holds,h.ok.dQ,h.ok.dX,h.ok.sO⟩,by have:=h.past; simp only; omega⟩,fun g=>⟨by simp only[e1]; exact g.file,by simp only[e1]; exact g.orp,by simp only[e1]; exact g.quo,by simp only[e1]; exact g.one,by simp only[e1]; exact g.over,g.key⟩⟩
def yB(K:Nat)(f:aa)(F:Nat)(vs:List ag):Prop:=∃g a,aq bZ F vs []=some (.tuple [.agg (cf g),.agg (cE a)],[])/\FB (K+200) g/\Kp f g
def c69{K:Nat}(f:aa)(t:Tree)(q:List dV)(e:Int)(a:tU)(hf:FB K f)(hK:K<=89000)(ht:Rt t)(hq:py q)(hn:q.length<=16)(hkp:∀y,y∈f.holds->tM f.s.now.ae y.ar->tM t.ae y.ar)(hqd:Ou f->∀y,y∈q->¬tM t.ae y.ar):yB K f 69 [.agg (cf f),br t,cR q,aF e,.agg (cE a)]:=by
 obtain⟨g,e',qs,hg⟩:=ap5 f t q hf hK ht hq hn hkp hqd;have q1:=cP qs;have q2:=k42;simp only[br,aM,cf,cE] at q1 q2;cases h1:e != 0
 ·cases h2:e' != 0
  ·refine⟨g,a,aB ?_,hg⟩;simp only[Y5,E69,br,aM,cf,cE,q1,q2,h1,h2,EW,seval]
  ·refine⟨f,ia e',aB ?_,hf.mono aJ,D7⟩;simp only[Y5,E69,br,aM,cf,cE,q1,q2,h1,h2,EW,seval]
 ·refine⟨f,ia e,aB ?_,hf.mono aJ,D7⟩;simp only[Y5,E69,br,aM,cf,cE,q1,q2,h1,EW,seval]
def c43{K:Nat}(f:aa)(o:jD)(hf:FB K f)(hK:K<=89000)(ho:rY o):yB K f 43 [.agg (cf f),.agg (eT o)]:=by
 have hr:=hf.ok.rt;have hz:Sz 1000 f.s.now:=⟨by have:=hr.sz.ae; omega,fun n hn=>by have:=hr.sz.bc n hn; omega,hr.sz.data⟩
 have hp:o.dL.length<=100000:=by have:=ho.dL; omega
 have hto:o.vi.length<=100000:=by have:=ho.vi; omega
 obtain⟨d,nm,e1,qa,hnm⟩:=c67 f.s.now o.dL hr.small hp;obtain⟨d',nm',e2,qb,hnm'⟩:=c67 f.s.now o.vi hr.small hto;have q1:=cP qa;have q2:=cP qb;have q3:=fun M=>k66 f.s.now.ae f.s.now.next f.s.now.ak o.dL hr.small hp M
 generalize Cz f.s.now.ae o.dL=w at q3;have q4:=k42;simp only[br,aM,cf,cE] at q1 q2 q4;have back:FB (K+200) f:=hf.mono aJ;cases h0:o.kind==3
 ·cases h1:e1 != 0
  ·cases h2:o.kind==2
   ·cases h3:o.kind==4
    ·cases h4:e2 != 0
     ·have q5:=fun M=>k73 f.s.now.ae f.s.now.next f.s.now.ak d nm d' nm' hz hnm hnm' M
      have q6:=fun M=>k72 f.s.now.ae f.s.now.next f.s.now.ak d nm hr.small hnm M
      have hv:=hr.mv d nm d' nm';have hkf:=Zo hr d nm d' nm';have hrf:=an1 hr d nm d' nm';generalize wU f.s.now d nm d' nm'=v at q5 hv hkf hrf;generalize fh f.s.now.ae d nm=u at q6;obtain⟨g,a,qd,hg⟩:=c69 f v.1 f.dX v.2.2 ⟨0,u.1,0,0,0,[],[]⟩ hf hK hv hf.ok.dX hf.ok.sO (fun y _ h=>hkf.2 _ h) (fun h y hy hi=>(h.quo y hy).no (hrf _ hi))
      have q7:=cP qd;simp only[br,aM,cf,cE,dj,cX,aQ] at q5 q6 q7;refine⟨g,a,aB ?_,hg⟩;simp only[He,E43,cf,eT,cE,h0,h1,h2,h3,h4,q1,q2,q5,q6,q7,EW,seval]
     ·refine⟨f,ia e2,aB ?_,back,D7⟩;simp only[He,E43,cf,eT,cE,h0,h1,h2,h3,h4,q1,q2,q4,EW,seval]
    ·have q5:=fun M=>k71 f.s.now.ae f.s.now.next f.s.now.ak d nm hz hnm M
     have hv:=hr.un d nm;have hkf:=Zp hr d nm;have hrf:=an3 hr d nm;generalize BO f.s.now d nm=v at q5 hv hkf hrf;obtain⟨g,a,qd,hg⟩:=c69 f v.1 f.dX v.2.2 ⟨0,v.2.1,0,0,0,[],[]⟩ hf hK hv hf.ok.dX hf.ok.sO (fun y _ h=>hkf.2 _ h) (fun h y hy hi=>(h.quo y hy).no (hrf _ hi))
     have q7:=cP qd;simp only[br,aM,cf,cE,dj,cX,aQ] at q5 q7;refine⟨g,a,aB ?_,hg⟩;simp only[He,E43,cf,eT,cE,h0,h1,h2,h3,q1,q5,q7,EW,seval]
   ·have q5:=fun M=>k70 f.s.now.ae f.s.now.next f.s.now.ak d nm o.n hz hnm M
    have hv:=hr.add d nm o.n;have hkf:=S3 hr d nm o.n;have hrf:=ahV hr d nm o.n;generalize rZ f.s.now d nm o.n=v at q5 hv hkf hrf;obtain⟨g,a,qd,hg⟩:=c69 f v.1 f.dX v.2.2 ⟨0,v.2.1,o.n,0,0,[],[]⟩ hf hK hv hf.ok.dX hf.ok.sO (fun y _ h=>hkf.2 _ h) (fun h y hy hi=>(h.quo y hy).no (hrf _ hi))
    have q7:=cP qd;simp only[br,aM,cf,cE,dj,cX,aQ] at q5 q7;refine⟨g,a,aB ?_,hg⟩;simp only[He,E43,cf,eT,cE,h0,h1,h2,q1,q5,q7,EW,seval]
  ·refine⟨f,ia e1,aB ?_,back,D7⟩;simp only[He,E43,cf,eT,cE,h0,h1,q1,q4,EW,seval]
 ·cases h1:w.2 != 0
  ·cases h2:e2 != 0
   ·have q5:=fun M=>k68 f.s.now.ae f.s.now.next f.s.now.ak w.1 d' nm' hz hnm' M
    have hv:=hr.ln w.1 d' nm';have hkf:=Zn hr w.1 d' nm';have hrf:=an0 hr w.1 d' nm';generalize CL f.s.now w.1 d' nm'=v at q5 hv hkf hrf;obtain⟨g,a,qd,hg⟩:=c69 f v.1 f.dX v.2 ⟨0,w.1,0,0,0,[],[]⟩ hf hK hv hf.ok.dX hf.ok.sO (fun y _ h=>hkf.2 _ h) (fun h y hy hi=>(h.quo y hy).no (hrf _ hi))
    have q7:=cP qd;simp only[br,aM,cf,cE,dj,cX,aQ] at q5 q7;refine⟨g,a,aB ?_,hg⟩;simp only[He,E43,cf,eT,cE,h0,h1,h2,q2,q3,q5,q7,EW,seval]
   ·refine⟨f,ia e2,aB ?_,back,D7⟩;simp only[He,E43,cf,eT,cE,h0,h1,h2,q2,q3,q4,EW,seval]
  ·refine⟨f,ia w.2,aB ?_,back,D7⟩;simp only[He,E43,cf,eT,cE,h0,h1,q3,q4,EW,seval]
section
variable {t:Tree} {n:Node} {many:Int} {Q:ag×aC->Prop}
abbrev liM(t:Tree)(n:Node)(out:List gP):aC:=[.cells [ba t.ae,.int .i64 t.next,.int .i64 t.ak],.cells [.int .i64 n.ar,.int .i64 n.kind,.int .i64 n.eG,cX n.data,jc n.bc,.int .i64 n.up],.tick 3 out.length]
def Nx(hn:n.bc.length<=100000){km:Int}{out:List gP}{k:List K}
  (hx:∀(b:Int) z,(b = -1\/∃i:Nat,i<n.bc.length/\b=i)->∃r,Q r/\kr (aq bZ) [.tmp 8,.tmp 9,.tmp 10] 0 k ⟨.exit 2,(2,aF km)::(3,aF many)::(11,cA 1)::(13,.slice (.own 2) (out.map iJ))::(14,aF b)::z,liM t n out⟩=some r) :
  ∃r,Q r/\eX (aq bZ) [.tmp 8,.tmp 9,.tmp 10] 0 k (.loop [2,3,11,13,14,15] ahc) [(2,aF km),(3,aF many),(11,cA 1),(13,.slice (.own 2) (out.map iJ)),(14,aF (-1)),(15,aF 0)] (liM t n out)=some r:=by
 refine je (xs:=n.bc) aJ (fun _ (b:Int)=>b = -1\/∃i:Nat,i<n.bc.length/\b=i) (fun b i=>[(2,aF km),(3,aF many),(11,cA 1),(13,.slice (.own 2) (out.map iJ)),(14,aF b),(15,aF i)]) (fun _=>liM t n out) Q (fun b hb=>?_) (fun pre e post b h hx' cJ hw h0 hm hb hi=>?_) (-1) (.inl rfl)
 ·simp only[Kx,bl,EW,seval];exact hx b _ hb
 ·have hp:=(aj.1 hx').1;have i1:=hi b hb;have i2:=hi pre.length (.inr ⟨_,hp,rfl⟩);rcases hb with rfl|⟨a,ha,rfl⟩
  ·cases h1:decide (km<=e.ak)<;>simp only[Kx,cJ,hx',hw,h0,h1,iJ,gk,EW,seval]<;>first|exact i1|exact i2
  ·have a0:((a:Int)<0)=False:=dx;have a1:((a:Int)<(n.bc.length:Int))=True:=su;obtain⟨y,hy⟩:∃y,n.bc[a]?=some y:=⟨_,ai ha⟩;cases h1:decide (km<=e.ak)<;>cases h2:decide (e.ak<y.ak)<;>simp only[Kx,cJ,hx',hw,h0,a0,a1,hy,h1,h2,iJ,gk,EW,seval]<;>first|exact i1|exact i2
def aaM(hn:n.bc.length<=100000){m:Nat}(hm:1<=m)(hm':m<=64){k:List K}
  (hr:∀(out:List gP)(x:Int),out.length<=64->∃r,Q r/\kr (aq bZ) [.tmp 8,.tmp 9,.tmp 10] 0 k ⟨.ret,[(8,.slice (.own 2) (out.map iJ)),(9,aF x),(10,aF 0)],liM t n out⟩=some r) :
  ∀(d:Nat)(km:Int)(out:List gP),out.length+d=m->∃r,Q r/\eX (aq bZ) [.tmp 8,.tmp 9,.tmp 10] 0 k (.loop [2,3,11,13] ahd) [(2,aF km),(3,aF m),(11,cA 1),(13,.slice (.own 2) (out.map iJ))] (liM t n out)=some r:=by
 intro d;induction d with
 |zero =>
  intro km out hd;rw[bG];have la:=fun {k} hx=>Nx (t:=t) (n:=n) (many:=m) (Q:=Q) hn (km:=km) (out:=out) (k:=k) hx
  simp only[Kx,EW,seval];refine la (fun b z hb=>?_)
  rcases hb with rfl|⟨a,ha,rfl⟩
  ·simp only[Kx,EW,seval];exact hr out 0 aJ
  ·have a0:((a:Int)<0)=False:=dx;have e1:((out.length:Int)==(m:Int))=true:=gm;have w1:IntKind.i64.wrap ((m:Int)-1)=((m-1:Nat):Int):=by rw[gA aJ aJ]; omega
   have e2:(((m-1:Nat):Int)<(out.length:Int))=True:=su;have e3:(((m-1:Nat):Int)<0)=False:=dx;obtain⟨y,hy⟩:∃y,out[m-1]?=some y:=⟨_,ai aJ⟩;simp only[Kx,a0,e1,w1,e2,e3,hy,iJ,gk,EW,seval];exact hr out _ aJ
 |succ d ih =>
  intro km out hd;rw[bG];have la:=fun {k} hx=>Nx (t:=t) (n:=n) (many:=m) (Q:=Q) hn (km:=km) (out:=out) (k:=k) hx
  simp only[Kx,EW,seval];refine la (fun b z hb=>?_)
  rcases hb with rfl|⟨a,ha,rfl⟩
  ·simp only[Kx,EW,seval];exact hr out 0 aJ
  ·have a0:((a:Int)<0)=False:=dx;have a1:((a:Int)<(n.bc.length:Int))=True:=su;obtain⟨y,hy⟩:∃y,n.bc[a]?=some y:=⟨_,ai ha⟩;have e1:((out.length:Int)==(m:Int))=false:=gm;have r1:ct (out.length+1) 32=True:=qM;have i1:=fun km=>ih km (out++[y]) gm
   simp only[liM,aW,aH,aQ,aA,aw,az,aK,iJ,gk] at i1 ⊢;simp only[Kx,a0,a1,e1,r1,hy,iJ,gk,EW,seval];exact i1 _
end
def c76(t:Tree)(ar km many:Int)(ht:Rt t):∃out x e,aq bZ 76 [br t,aF ar,aF km,aF many] []=some (.tuple [jc out,aF x,aF e],[])/\out.length<=64:=by
 have key:∃r:ag×aC,(∃out x e,r=(.tuple [jc out,aF x,aF e],[])/\out.length<=64)/\eX (aq bZ) Hf.results 0 [] Hf.body (eH 0 [br t,aF ar,aF km,aF many]) []=some r:=by
  have qd:=fun M=>Zh t.ae t.next t.ak ar (by have:=ht.sz.ae; omega) M
  have hd:(gX t.ae ar).1.bc.length<=100000:=by obtain⟨dJ,g⟩:=ht; have:=(x7 g ar).2; omega
  generalize gX t.ae ar=v at qd hd;cases h1:decide (km<0)
  case true =>
   simp only[Hf,Kx,br,aM,h1,EW,seval];exact⟨_,⟨[],0,1,rfl,dx⟩,rfl⟩
  cases h2:decide (many<1)
  case true =>
   simp only[Hf,Kx,br,aM,h1,h2,EW,seval];exact⟨_,⟨[],0,1,rfl,dx⟩,rfl⟩
  cases h3:decide (64<many)
  case true =>
   simp only[Hf,Kx,br,aM,h1,h2,h3,EW,seval];exact⟨_,⟨[],0,1,rfl,dx⟩,rfl⟩
  cases h4:v.2 != 0
  case true =>
   simp only[Hf,Kx,br,aM,bL,aL,qd,h1,h2,h3,h4,EW,seval];exact⟨_,⟨[],0,v.2,rfl,dx⟩,rfl⟩
  simp only[dC] at h2 h3;obtain⟨m,rfl⟩:∃m:Nat,many=m:=⟨many.toNat,aJ⟩;have g2:decide ((m:Int)<1)=false:=gm;have g3:decide (64<(m:Int))=false:=gm;have lb:=fun {k Q} hr=>aaM (t:=t) (n:=v.1) (Q:=Q) hd (m:=m) aJ aJ (k:=k) hr m km [] dx
  simp only[liM,aQ,az] at lb;simp only[Hf,Kx,br,aM,bL,aL,qd,h1,g2,g3,h4,EW,seval];refine lb (fun out x ho=>?_)
  simp only[Kx,EW,seval];exact⟨_,⟨out,x,0,rfl,ho⟩,rfl⟩
 obtain⟨_,⟨out,x,e,rfl,h1⟩,h3⟩:=key;exact⟨out,x,e,aB h3,h1⟩
section
variable {f:aa} {o:jD} {n:Node} {Q:ag×aC->Prop}
abbrev wkM(f:aa)(o:jD)(n:Node):aC:=[.cells (cf f),.cells (eT o),.cells rU,.cells rh,.cells (aM f.s.now),.cells (aL n)]
def ahk{l:List gP}(hl:l.length<=64){nx:Int}{k:List K}
  (hx:∀(S:List Bytes) z,∃r,Q r/\kr (aq bZ) [.dK 4 10,.dK 5 7] 0 k ⟨.exit 1,(2,cA 0)::(4,cA 2)::(5,cA 3)::(11,jc l)::(12,aF nx)::(14,.slice (.own 6) (S.map ag.str))::z,wkM f o n++[.tick 1 S.length]⟩=some r) :
  ∃r,Q r/\eX (aq bZ) [.dK 4 10,.dK 5 7] 0 k (.loop [2,4,5,11,12,14,15] ag3) [(2,cA 0),(4,cA 2),(5,cA 3),(11,jc l),(12,aF nx),(14,.slice (.own 6) []),(15,aF 0)] (wkM f o n++[.tick 1 0])=some r:=by
 refine je (xs:=l) aJ (fun m (S:List Bytes)=>S.length<=m) (fun S i=>[(2,cA 0),(4,cA 2),(5,cA 3),(11,jc l),(12,aF nx),(14,.slice (.own 6) (S.map ag.str)),(15,aF i)]) (fun S=>wkM f o n++[.tick 1 S.length]) Q (fun S hS=>?_) (fun pre e post S h hx' cJ hw h0 hm hS hi=>?_) [] (au _)
 ·simp only[wkM,cf,eT,rU,rh,aM,aL,aG,aP] at hx ⊢;simp only[Oq,bl,EW,seval];exact hx S _
 ·have hp:=(aj.1 hx').1;have i1:=hi (S++[e.name]) gm;have r1:ct (S.length+1) 16=True:=qM;simp only[wkM,cf,eT,rU,rh,aM,aL,aG,aP,aW,aH,aQ,aA,aw,az,aK] at i1 ⊢;simp only[Oq,cJ,hx',hw,h0,r1,iJ,gk,EW,seval];exact i1
end
def c44{K:Nat}(f:aa)(o:jD)(hf:FB K f)(hK:K<=89000)(ho:rY o):yB K f 44 [.agg (cf f),.agg (eT o)]:=by
 have hr:=hf.ok.rt;have h200:=hr.sz.ae;have hp:o.dL.length<=100000:=by have:=ho.dL; omega
 have q3:=fun M=>k66 f.s.now.ae f.s.now.next f.s.now.ak o.dL hr.small hp M
 generalize Cz f.s.now.ae o.dL=w at q3;have qg:=fun M=>Bj f.s.now.ae f.s.now.next f.s.now.ak w.1 aJ M
 generalize (find f.s.now.ae w.1).getD Node.zero=n at qg;have q4:=k42;simp only[cE,ia,dj,cX,aQ,bL,aL] at q4 qg;have back:FB (K+200) f:=hf.mono aJ;cases h0:w.2 != 0
 case true =>
  refine⟨f,ia w.2,aB ?_,back,D7⟩;simp only[zO,Oq,cf,eT,cE,ia,dj,cX,h0,q3,q4,EW,seval]
 cases h1:o.kind==1
 case true =>
  refine⟨f,⟨0,w.1,n.kind,0,0,[],[]⟩,aB ?_,back,D7⟩;simp only[zO,Oq,cf,eT,cE,ia,dj,cX,h0,h1,q3,qg,EW,seval]
 cases h2:o.kind==7
 case true =>
  obtain⟨a,qa⟩:=c75 n;have q5:=cP qa;simp only[bL,aL] at q5;refine⟨f,⟨0,w.1,n.kind,n.eG,a,[],[]⟩,aB ?_,back,D7⟩;simp only[zO,Oq,cf,eT,cE,ia,dj,cX,h0,h1,h2,q3,qg,q5,EW,seval]
 cases h3:o.kind==6
 case true =>
  obtain⟨l,nx,e,qa,hl⟩:=c76 f.s.now w.1 o.n o.m hr;have q5:=cP qa;simp only[br,aM] at q5;cases h4:e != 0
  case true =>
   refine⟨f,ia e,aB ?_,back,D7⟩;simp only[zO,Oq,cf,eT,cE,ia,dj,cX,h0,h1,h2,h3,h4,q3,q4,q5,qg,EW,seval]
  have key:∃r:ag×aC,(∃a,r=(.tuple [.agg (cf f),.agg (cE a)],[]))/\eX (aq bZ) zO.results 0 [] zO.body (eH 0 [.agg (cf f),.agg (eT o)]) []=some r:=by
   have la:=fun {k Q} hx=>ahk (f:=f) (o:=o) (n:=n) (Q:=Q) hl (nx:=nx) (k:=k) hx
   simp only[wkM,cf,eT,rU,rh,aM,aL,aG,aP] at la;simp only[zO,Oq,cf,eT,cE,ia,dj,cX,h0,h1,h2,h3,h4,q3,q5,qg,EW,seval];refine la (fun S z=>?_)
   simp only[Oq,EW,seval];exact⟨_,⟨⟨0,0,0,nx,0,S,[]⟩,rfl⟩,rfl⟩
  obtain⟨_,⟨a,rfl⟩,h5⟩:=key;exact⟨f,a,aB h5,back,D7⟩
 cases h4:o.kind==8
 case true =>
  have q5:=fun M=>k77 f.s.now.ae f.s.now.next f.s.now.ak f.holds o.bE o.handle w.1 aJ (by have:=hf.ok.dQ; omega) M
  obtain⟨g1,g2⟩:=WH (t:=f.s.now) hf.ok.holds hf.ok.dQ o.bE o.handle w.1;have g4:∀y,y∈f.holds->y∈(sM ⟨f.s.now.ae,f.s.now.next,f.s.now.ak⟩ f.holds o.bE o.handle w.1).1:=fun y hy=>P2 f.s.now f.holds o.bE o.handle w.1 hy
  have g3:∀y,y∈(sM ⟨f.s.now.ae,f.s.now.next,f.s.now.ak⟩ f.holds o.bE o.handle w.1).1->y∈f.holds\/tM f.s.now.ae y.ar/\zZ y.bE y.handle=true:=fun y hy=>P1 (t:=f.s.now) (by obtain⟨dJ,g⟩:=hr; exact g.kind) f.holds o.bE o.handle w.1 hy
  change uG (sM ⟨f.s.now.ae,f.s.now.next,f.s.now.ak⟩ f.holds o.bE o.handle w.1).1 at g1
  change(sM ⟨f.s.now.ae,f.s.now.next,f.s.now.ak⟩ f.holds o.bE o.handle w.1).1.length<=64 at g2
  generalize sM ⟨f.s.now.ae,f.s.now.next,f.s.now.ak⟩ f.holds o.bE o.handle w.1=v at q5 g1 g2 g3 g4
  cases h5:v.2 != 0
  ·refine⟨⟨f.s,v.1,f.dX⟩,⟨0,w.1,0,0,0,[],[]⟩,aB ?_,hf.set g1 g2,fun h=>⟨fun y hy=>(g3 y hy).elim (h.file y) And.left,fun n hn ho=>by
    obtain⟨y,h1,h2⟩:=of_held (h.orp n hn ho);exact CW (g4 y h1) h2,h.quo,h.one,h.over,fun y hy=>(g3 y hy).elim (h.key y) And.right⟩,.inl rfl⟩
   simp only[zO,Oq,cf,eT,cE,ia,dj,cX,h0,h1,h2,h3,h4,h5,q3,q5,qg,EW,seval]
  ·refine⟨f,ia v.2,aB ?_,back,D7⟩;simp only[zO,Oq,cf,eT,cE,ia,dj,cX,h0,h1,h2,h3,h4,h5,q3,q4,q5,qg,EW,seval]
 cases h5:o.kind==13
 case true =>
  obtain⟨l,e,qa,hl,hl',hlm⟩:=c78 f.s.now f.dX w.1 o.n o.m hr hf.ok.dX hf.ok.sO;have q5:=cP qa;obtain⟨g,a,qd,hg⟩:=c69 f f.s.now l e ⟨0,w.1,0,0,0,[],[]⟩ hf hK hr hl hl' (fun _ _ h=>h) (fun h y hy hi=>(hlm y hy).elim (fun hq=>(h.quo y hq).no (.inl hi)) fun hd=>XV.no hd (.inl hi))
  have q7:=cP qd;simp only[br,aM,cf,cE,dj,cX,aQ] at q5 q7;refine⟨g,a,aB ?_,hg⟩;simp only[zO,Oq,cf,eT,cE,ia,dj,cX,h0,h1,h2,h3,h4,h5,q3,q5,q7,qg,EW,seval]
 obtain⟨i,e,qa⟩:=c79 f.s w.1 aJ hf.ok.dW;have q5:=cP qa;simp only[bM] at q5;cases h6:e != 0
 ·have hts:(takeN f.s w.1).1.now=f.s.now/\(takeN f.s w.1).1.since=f.s.since/\(takeN f.s w.1).1.eS=f.s.eS/\(takeN f.s w.1).1.dW.length<=16:=by
   have:=hf.ok.dW;unfold takeN;split
   ·exact⟨rfl,rfl,rfl,this⟩
   split
   ·exact⟨rfl,rfl,rfl,this⟩
   split
   ·exact⟨rfl,rfl,rfl,this⟩
   ·rename_i hl;simp only[df,bh,pc] at hl;exact⟨rfl,rfl,rfl,gm⟩
  obtain⟨t1,t2⟩:=hf.ad1 hts.1 hts.2.1 (fun p hp=>by rw[hts.2.2.1] at hp; exact hp) (by rw[hts.2.2.1]; exact au _) hts.2.2.2
  refine⟨⟨(takeN f.s w.1).1,f.holds,f.dX⟩,⟨0,0,0,i,0,[],[]⟩,aB ?_,t1,t2,.inr (.inr (.inl ⟨_,rfl⟩))⟩;simp only[zO,Oq,cf,eT,cE,ia,dj,cX,h0,h1,h2,h3,h4,h5,h6,q3,q5,qg,EW,seval]
 ·refine⟨f,ia e,aB ?_,back,D7⟩;simp only[zO,Oq,cf,eT,cE,ia,dj,cX,h0,h1,h2,h3,h4,h5,h6,q3,q4,q5,qg,EW,seval]
section
variable {data:Bytes} {km:Nat} {Q:ag×aC->Prop}
def aaN(hf:km+data.length<=100000){k:List K}
  (hx:∀(v:Nat) (out:Bytes) z,km+data.length<=out.length->out.length<=100000->∃r,Q r/\kr (aq bZ) [.tmp 6] 0 k ⟨.exit 0,(1,aF km)::(2,cX data)::(7,.cD 0 v 1 0 out.length)::z,[.arr 1 v (out.map pZ)]⟩=some r) :
  ∀(d v:Nat)(out:Bytes),km+data.length-out.length=d->out.length<=100000->∃r,Q r/\eX (aq bZ) [.tmp 6] 0 k (.loop [1,2,7] LK) [(1,aF km),(2,cX data),(7,.cD 0 v 1 0 out.length)] [.arr 1 v (out.map pZ)]=some r:=by
 have w1:IntKind.i64.wrap ((km:Int)+(data.length:Int))=((km+data.length:Nat):Int):=by rw[gA aJ aJ]; rfl
 intro d;induction d with
 |zero =>
  intro v out h1 h2;rw[bG];have e1:((out.length:Int)<((km+data.length:Nat):Int))=False:=XZ;simp only[E82,w1,e1,bP,EW,seval];exact hx v out _ aJ h2
 |succ d ih =>
  intro v out h1 h2;rw[bG];have e1:((out.length:Int)<((km+data.length:Nat):Int))=True:=su;have r1:ct (out.length+1) 1=True:=qM;have u0:pZ 0 = .int .u8 0:=rfl;have i1:=ih (v+1) (out++[0]) gm gm;simp only[aW,aH,aQ,aA,aw,az,aK,u0] at i1;simp only[E82,w1,e1,r1,bP,ra,EW,seval];exact i1
def aaO(hf:km+data.length<=100000){v L:Nat}(hL:km+data.length<=L){k:List K}
  (hx:∀(out:Bytes) z,out.length=L->∃r,Q r/\kr (aq bZ) [.tmp 6] 0 k ⟨.exit 2,(1,aF km)::(2,cX data)::(7,.cD 0 v 1 0 L)::z,[.arr 1 v (out.map pZ)]⟩=some r) {out:Bytes} (ho:out.length=L) :
  ∃r,Q r/\eX (aq bZ) [.tmp 6] 0 k (.loop [1,2,7,8] ahg) [(1,aF km),(2,cX data),(7,.cD 0 v 1 0 L),(8,aF 0)] [.arr 1 v (out.map pZ)]=some r:=by
 refine je (xs:=data) aJ (fun _ (out:Bytes)=>out.length=L) (fun _ i=>[(1,aF km),(2,cX data),(7,.cD 0 v 1 0 L),(8,aF i)]) (fun out=>[.arr 1 v (out.map pZ)]) Q (fun out ho=>?_) (fun pre x post out e hx' cJ hw h0 hm ho hi=>?_) out ho
 ·simp only[E82,bl,EW,seval];exact hx out _ ho
 ·have hp:=(aj.1 hx').1;have w1:IntKind.i64.wrap ((km:Int)+(pre.length:Int))=((km+pre.length:Nat):Int):=by rw[gA aJ aJ]; rfl
  have e1:(((km+pre.length:Nat):Int)<(L:Int))=True:=su;have e2:(((km+pre.length:Nat):Int)<0)=False:=XZ;have sU:∀(ds:List UInt8)(b:Nat)(d x:UInt8),iR (ds.map pZ) b (putCells (.int .u8 d.toNat) 0 [.int .u8 x.toNat])=(ds.set b x).map pZ:=abr;have e3:(km+pre.length<out.length)=True:=su;have e4:(km+pre.length<L)=True:=su;obtain⟨d,hb⟩:∃d,out[km+pre.length]?=some d:=⟨_,ai aJ⟩;have i1:=hi (out.set (km+pre.length) x) (by simp[ho])
  simp only[E82,cJ,hx',hw,h0,w1,e1,e2,e3,e4,hb,ho,sU,pZ,bP,EW,seval];exact i1
end
def c82(file:Bytes)(km:Nat)(data:Bytes)(hf:file.length<=100000)(hr:km+data.length<=100000):∃out:Bytes,aq bZ 82 [cX file,aF km,cX data] []=some (cX out,[])/\out.length<=100000:=by
 have key:∃r:ag×aC,(∃out:Bytes,r=(cX out,[])/\out.length<=100000)/\eX (aq bZ) Pg.results 0 [] Pg.body (eH 0 [cX file,aF km,cX data]) []=some r:=by
  have r1:ct file.length 1=True:=qM;cases h1:(data.length:Int)==0
  ·have la:=fun {k Q} hx=>aaN (data:=data) (km:=km) (Q:=Q) hr (k:=k) hx _ 0 file rfl aJ
   have hk:∀ {k:List K} {a b c d:ag} {M:aC},eX (aq bZ) [.tmp 6] 0 k (.loop [1,2,7] LK) [(1,a),(2,b),(7,c),(14,d)] M=eX (aq bZ) [.tmp 6] 0 k (.loop [1,2,7] LK) [(1,a),(2,b),(7,c)] M:=by
    intros; rw[bG,bG]; rfl
   simp only[Pg,E82,h1,r1,EW,seval];rw[hk];refine la (fun v out z h2 h3=>?_)
   have lb:=fun {k Q} hx=>aaO (data:=data) (km:=km) (Q:=Q) hr (v:=v) h2 (k:=k) hx (out:=out) rfl
   simp only[E82,EW,seval];refine lb (fun out' z h4=>?_)
   have htk:(out'.map pZ).take out.length=out'.map pZ:=bB (by simp[h4])
   simp only[E82,h4,htk,bP,EW,seval];exact⟨_,⟨out',rfl,aJ⟩,rfl⟩
  ·have htk:(file.map pZ).take file.length=file.map pZ:=bB dx;simp only[Pg,E82,h1,r1,htk,bP,EW,seval];exact⟨_,⟨file,rfl,aJ⟩,rfl⟩
 obtain⟨_,⟨out,rfl,h1⟩,h3⟩:=key;exact⟨out,aB h3,h1⟩
def c45{K:Nat}(f:aa)(o:jD)(hf:FB K f)(hK:K<=89000)(ho:rY o):yB K f 45 [.agg (cf f),.agg (eT o)]:=by
 have hr:=hf.ok.rt;have h200:=hr.sz.ae;have hod:=ho.data;have q4:=k42;simp only[cE,ia,dj,cX,aQ] at q4;have back:FB (K+200) f:=hf.mono aJ;cases h0:o.kind==9
 case true =>
  obtain⟨u,l,e,qa,g⟩:=c80 f.s.now f.holds o.bE o.handle hr hf.ok.holds hf.ok.dQ;have qp:=c49 f.s u hr g.rt hf.ok.len hf.ok.dW hf.ok.eS;have q1:=cP qa;have q2:=cP qp;simp only[br,aM,bM] at q1 q2;cases h1:e != 0
  ·refine⟨⟨qA f.s u,l,f.dX⟩,ia 0,aB ?_,hf.put hK g.rt g.mr g.len hf.ok.dX hf.ok.sO,fun h=>HA g.mem (g.orp h.orp) (fun q hq=>g.dir _ (h.quo q hq)) (g.one _ h.one) (fun q hq=>by rw[g.use]; exact h.over q hq) h,.inr (.inl ⟨u,g.rt,rfl⟩)⟩
   simp only[CK,QX,cf,eT,cE,ia,dj,cX,h0,h1,q1,q2,EW,seval]
  ·refine⟨f,ia e,aB ?_,back,D7⟩;simp only[CK,QX,cf,eT,cE,ia,dj,cX,h0,h1,q1,q4,EW,seval]
 obtain⟨x,e,qa⟩:=c81 f.holds o.bE o.handle hf.ok.dQ;have q1:=cP qa;cases h1:e != 0
 case true =>
  refine⟨f,ia e,aB ?_,back,D7⟩;simp only[CK,QX,cf,eT,cE,ia,dj,cX,h0,h1,q1,q4,EW,seval]
 have qg:=fun M=>Bj f.s.now.ae f.s.now.next f.s.now.ak x aJ M
 have hz:(find f.s.now.ae x).getD Node.zero=bm f.s.now.ae x:=rfl;rw[hz] at qg;obtain⟨s1,s2⟩:=xB hf.ok x;generalize bm f.s.now.ae x=n at qg s1 s2;simp only[bL,aL] at qg;have bad:∀e,aq bZ 45 [.agg (cf f),.agg (eT o)] []=some (.tuple [.agg (cf f),.agg (cE (ia e))],[])->yB K f 45 [.agg (cf f),.agg (eT o)]:=fun e h=>⟨f,ia e,h,back,D7⟩
 cases h2:decide (o.n<0)
 case true =>
  refine bad 1 (aB ?_);simp only[CK,QX,cf,eT,cE,ia,dj,cX,h0,h1,h2,q1,q4,qg,EW,seval]
 have hn0:0<=o.n:=by simpa using h2
 obtain⟨m1,m2⟩:=Aa hn0 n.data.length;generalize Bp o.n n.data.length=mn at m1 m2;have t1:((mn:Int)<=(n.data.length:Int))=True:=su;have ta:(n.data.map pZ).take n.data.length=n.data.map pZ:=bB dx;cases h3:o.kind==10
 case true =>
  have h3':(o.kind==11)=false:=by simp at h3 ⊢; omega
  cases h4:decide (o.m<0)
  case true =>
   refine bad 1 (aB ?_);simp only[CK,QX,cf,eT,cE,ia,dj,cX,h0,h1,h2,h3,h3',h4,q1,q4,qg,EW,seval]
  cases h5:decide (4096<o.m)
  case true =>
   refine bad 1 (aB ?_);simp only[CK,QX,cf,eT,cE,ia,dj,cX,h0,h1,h2,h3,h3',h4,h5,q1,q4,qg,EW,seval]
  simp only[dC] at h4 h5;have g4:decide (o.m<0)=false:=gm;have g5:decide (4096<o.m)=false:=gm;have w1:IntKind.i64.wrap ((mn:Int)+o.m)=(mn:Int)+o.m:=gA aJ aJ;obtain⟨p1,p2⟩:=Aa (a:=(mn:Int)+o.m) aJ n.data.length
  have p3:mn<=Bp ((mn:Int)+o.m) n.data.length:=by
   have:=p1; split at this<;>omega
  generalize Bp ((mn:Int)+o.m) n.data.length=mx at p1 p2 p3;have t2:((mx:Int)<=(n.data.length:Int))=True:=su;have t3:((mn:Int)<=(mx:Int))=True:=su;refine⟨f,⟨0,x,0,0,0,[],(n.data.take mx).drop mn⟩,aB ?_,back,D7⟩;simp only[CK,QX,cf,eT,cE,ia,dj,cX,h0,h1,h2,h3,h3',g4,g5,q1,qg,m1,p1,w1,t1,t2,t3,ta,gD,jS,EW,seval]
 cases h6:o.kind==11
 case true =>
  cases h7:decide (4096<o.n)
  case true =>
   refine bad 1 (aB ?_);simp only[CK,QX,cf,eT,cE,ia,dj,cX,h0,h1,h2,h3,h6,h7,q1,q4,qg,EW,seval]
  have h7':¬4096<o.n:=by simpa using h7
  obtain⟨m,hm⟩:∃m:Nat,o.n=m:=⟨o.n.toNat,aJ⟩;rw[hm] at h2 h7;have w1:IntKind.i64.wrap ((m:Int)+(o.data.length:Int))=(m:Int)+(o.data.length:Int):=gA aJ aJ;cases h8:decide (4096<(m:Int)+(o.data.length:Int))
  case true =>
   refine bad 2 (aB ?_);simp only[CK,QX,cf,eT,cE,ia,dj,cX,hm,h0,h1,h2,h3,h6,h7,h8,w1,q1,q4,qg,EW,seval]
  obtain⟨d,ql,hd⟩:=c82 n.data m o.data aJ aJ;have q5:=cP ql;have h8':¬4096<(m:Int)+(o.data.length:Int):=by simpa using h8
  have q6:=fun M=>k83 f.s.now.ae f.s.now.next f.s.now.ak x d hr.small hd M
  have hv:=hr.put x d;have hkf:=Jm hr x d;have hrf:=Xa hr x d;generalize rT f.s.now x d=v at q6 hv hkf hrf;obtain⟨g,a,qd,hg⟩:=c69 f v.1 f.dX v.2 ⟨0,x,0,0,d.length,[],[]⟩ hf hK hv hf.ok.dX hf.ok.sO (fun y _ h=>hkf.2 _ h) (fun h y hy hi=>(h.quo y hy).no (hrf _ hi))
  have q7:=cP qd;simp only[br,aM,cf,cE,dj,cX,aQ] at q5 q6 q7;refine⟨g,a,aB ?_,hg⟩;simp only[CK,QX,cf,eT,cE,ia,dj,cX,hm,h0,h1,h2,h3,h6,h7,h8,w1,q1,q5,q6,q7,qg,EW,seval]
 have tl1:(List.take mn (n.data.map pZ)).length=mn:=gm;have tl2:(List.take mn n.data).length=mn:=gm;have q6:=fun M=>k83 f.s.now.ae f.s.now.next f.s.now.ak x (n.data.take mn) hr.small gm M
 have hv:=hr.put x (n.data.take mn);have hkf:=Jm hr x (n.data.take mn);have hrf:=Xa hr x (n.data.take mn);generalize rT f.s.now x (n.data.take mn)=v at q6 hv hkf hrf;obtain⟨g,a,qd,hg⟩:=c69 f v.1 f.dX v.2 ⟨0,x,0,0,(n.data.take mn).length,[],[]⟩ hf hK hv hf.ok.dX hf.ok.sO (fun y _ h=>hkf.2 _ h) (fun h y hy hi=>(h.quo y hy).no (hrf _ hi))
 have q7:=cP qd;simp only[br,aM,cf,cE,dj,cX,aQ,eP,tl2] at q6 q7;refine⟨g,a,aB ?_,hg⟩;simp only[CK,QX,tl1,cf,eT,cE,ia,dj,cX,h0,h1,h2,h3,h6,q1,q6,q7,qg,m1,t1,gD,EW,seval]
section
variable {s:iT} {Q:ag×aC->Prop} {id:Int}
abbrev QF(s:iT):aC:=[.cells (bM s),.cells [.slice .c0 [],.int .i64 0,.int .i64 0,.int .i64 0,.slice .c0 [],.slice .c0 [],.slice .c0 [],.int .i64 0]]
def aaH(hk:s.dW.length<=16){k:List K}
  (hx:∀z,∃r,Q r/\kr (aq bZ) [.dK 4 8,.tmp 5] 0 k ⟨.exit 0,(1,aF id)::(2,cA 0)::(4,cA 1)::(6,.slice (.own 2) ((s.dW.filter (rJ id)).map kS))::z,QF s++[.tick 3 (s.dW.filter (rJ id)).length]⟩=some r) :
  ∃r,Q r/\eX (aq bZ) [.dK 4 8,.tmp 5] 0 k (.loop [1,2,4,6,7] ag7) [(1,aF id),(2,cA 0),(4,cA 1),(6,.slice (.own 2) []),(7,aF 0)] (QF s++[.tick 3 0])=some r:=by
 refine je (xs:=s.dW) aJ (fun m (ts:List mU)=>ts=(s.dW.take m).filter (rJ id)) (fun ts i=>[(1,aF id),(2,cA 0),(4,cA 1),(6,.slice (.own 2) (ts.map kS)),(7,aF i)]) (fun ts=>QF s++[.tick 3 ts.length]) Q (fun ts hK=>?_) (fun pre x post ts e hx' cJ hw h0 hm hK hi=>?_) [] rfl
 ·rw[bF] at hK;subst hK;simp only[QF,bM,aG,aP] at hx ⊢;simp only[E47,bl,EW,seval];exact hx _
 ·have hp:=(aj.1 hx').1;have hl:ts.length<=16:=by rw[hK]; exact aY (bU _ _) gm
  have i1:=hi (ts++if x.id != id then [x] else []) (by rw[cB,hx',kE,<-hK]; simp only[kG,fq,kL,rJ]<;>rfl)
  have r1:ct (ts.length+1) 24=True:=qM;simp only[QF,bM,aG,aP] at i1 ⊢;cases h1:x.id != id<;>simp only[h1,af,aI,aD,dg,aW,aH,aQ,aA,aw,az,aK,kS,iH] at i1<;>simp only[E47,cJ,hx',hw,h0,h1,r1,kS,iH,EW,seval]<;>exact i1
def aaI(hp:s.eS.length<=90000){ts:List mU}(hk:ts.length<=16){k:List K}
  (hx:∀z,∃r,Q r/\kr (aq bZ) [.dK 4 8,.tmp 5] 0 k ⟨.exit 2,(2,cA 0)::(4,cA 1)::(6,.slice (.own 2) (ts.map kS))::(8,.slice (.own 3) ((s.eS.filter (vO ts)).map lY))::z,QF s++[.tick 3 ts.length,.tick 8 (s.eS.filter (vO ts)).length]⟩=some r) :
  ∃r,Q r/\eX (aq bZ) [.dK 4 8,.tmp 5] 0 k (.loop [2,4,6,8,9] ag8) [(2,cA 0),(4,cA 1),(6,.slice (.own 2) (ts.map kS)),(8,.slice (.own 3) []),(9,aF 0)] (QF s++[.tick 3 ts.length,.tick 8 0])=some r:=by
 refine je (xs:=s.eS) aJ (fun m (P:List pv)=>P=(s.eS.take m).filter (vO ts)) (fun P i=>[(2,cA 0),(4,cA 1),(6,.slice (.own 2) (ts.map kS)),(8,.slice (.own 3) (P.map lY)),(9,aF i)]) (fun P=>QF s++[.tick 3 ts.length,.tick 8 P.length]) Q (fun P hP=>?_) (fun pre x post P e hx' cJ hw h0 hm hP hi=>?_) [] rfl
 ·rw[bF] at hP;subst hP;simp only[QF,bM,aG,aP] at hx ⊢;simp only[E47,bl,EW,seval];exact hx _
 ·have hp':=(aj.1 hx').1;have hl:P.length<=90000:=by rw[hP]; exact aY (bU _ _) gm
  have i1:=hi (P++if xJ ts x.km x.BM then [x] else []) (by rw[cB,hx',kE,<-hP]; simp only[kG,fq,kL,vO]<;>rfl)
  have qw:=fun M=>k86 ts x.km x.BM aJ M
  generalize xJ ts x.km x.BM=w at qw i1;have r1:ct (P.length+1) 96=True:=qM;simp only[QF,bM,aG,aP] at i1 ⊢;cases w<;>simp only[af,aI,aD,dg,aW,aH,aQ,aA,aw,az,aK,lY,mN,aL] at i1<;>simp only[E47,cJ,hx',hw,h0,qw,r1,lY,mN,aL,EW,seval]<;>exact i1
end
def c47(s:iT)(id:Int)(hk:s.dW.length<=16)(hp:s.eS.length<=90000):∃e,aq bZ 47 [.agg (bM s),aF id] []=some (.tuple [.agg (bM (rC s id).1),aF e],[]):=by
 have key:∃r:ag×aC,(∃e,r=(.tuple [.agg (bM (rC s id).1),aF e],[]))/\eX (aq bZ) Sv.results 0 [] Sv.body (eH 0 [.agg (bM s),aF id]) []=some r:=by
  have la:=fun {k Q} hx=>aaH (s:=s) (Q:=Q) (id:=id) hk (k:=k) hx
  simp only[QF,bM,aG,aP] at la;simp only[Sv,E47,bM,EW,seval];refine la (fun z=>?_)
  unfold rC;have hK:(s.dW.filter (rJ id)).length<=16:=aY (bU _ _) hk;generalize s.dW.filter (rJ id)=ts at hK ⊢;cases h1:(ts.length:Int)==(s.dW.length:Int)
  ·have lb:=fun {k Q} hx=>aaI (s:=s) (Q:=Q) hp (ts:=ts) hK (k:=k) hx
   simp only[QF,bM,aG,aP] at lb;simp only[E47,h1,af,aD,EW,seval];refine lb (fun z=>?_)
   simp only[E47,EW,seval];exact⟨_,⟨0,rfl⟩,rfl⟩
  ·simp only[E47,h1,aI,EW,seval];exact⟨_,⟨100,rfl⟩,rfl⟩
 obtain⟨_,⟨e,rfl⟩,h3⟩:=key;exact⟨e,aB h3⟩
def aqR(l:List Node)(n:Node)(hn:l.length<=100000):∃m,aq bZ 177 [ba l,bL n] []=some (ba m,[])/\m.length=l.length+1/\∀x,x∈m->x=n\/x∈l:=by
 have key:∃r:ag×aC,(∃m,r=(ba m,[])/\m.length=l.length+1/\∀x,x∈m->x=n\/x∈l)/\eX (aq bZ) I2.results 0 [] I2.body (eH 0 [ba l,bL n]) []=some r:=by
  simp only[I2,X8,bL,aL,EW,seval]
  have fin:∀(i:Nat),i<=l.length->∃m:List Node,m.length=l.length+1/\(∀x,x∈m->x=n\/x∈l)/\l.take i++n::l.drop i=m:=fun i hi=>⟨_,gm,fun x hx=>by
   rcases bq.1 hx with hx|hx
   ·exact .inr (dS hx)
   ·rcases bJ.1 hx with hx|hx
    ·exact .inl hx
    ·exact .inr (dA hx),rfl⟩
  refine je (xs:=l) aJ (fun _ (_:Unit)=>True) (fun _ i=>[(0,ba l),(3,cA 0),(5,aF i)]) (fun _=>[cC [aF n.ar,aF n.kind,aF n.eG,cX n.data,jc n.bc,aF n.up]]) _ (fun _ _=>?_) (fun pre x post _ e hx cJ hw h0 hm _ hi=>?_) () trivial
  ·obtain⟨m,m1,m2,m3⟩:=fin l.length (au _);have r1:ct l.length 80=True:=qM;have r2:ct (l.length+1) 80=True:=qM;have a1:(l.map bL).take l.length=l.map bL:=by rw[<-eP,bF]
   have a2:(l.map bL).drop l.length=[]:=by rw[<-jS,nJ]; rfl
   simp only[X8,bl,dU,a1,a2,r1,r2,EW,seval];refine⟨_,⟨m,rfl,m1,m2⟩,?_⟩;rw[<-m3]; simp[bL,aL]
  ·have hp:=(aj.1 hx).1;obtain⟨m,m1,m2,m3⟩:=fin pre.length aJ;have i1:=hi () trivial;have r1:ct pre.length 80=True:=qM;have r2:ct (pre.length+1) 80=True:=qM;obtain⟨B,hB⟩:∃B,x::post=B:=⟨_,rfl⟩;have t1:l.take pre.length=pre:=by rw[e]; simp
   have t2:l.drop pre.length=B:=by rw[e,<-hB]; simp
   have t3:pre.length+B.length=l.length:=by rw[e,<-hB]; simp
   have r3:ct (pre.length+1+B.length) 80=True:=qM;have a1:(l.map bL).take pre.length=pre.map bL:=by rw[<-eP,t1]
   have a2:(l.map bL).drop pre.length=B.map bL:=by rw[<-jS,t2]
   have a3:((pre.length:Int)<=(l.length:Int))=True:=su;have a4:(l.map bL).take l.length=l.map bL:=by rw[<-eP,bF]
   cases h1:decide (x.ar<=n.ar)<;>simp only[X8,cJ,hx,hw,h0,h1,bL,aL,EW,seval]
   ·simp only[X8,a1,a2,a3,a4,r1,r2,r3,dU,EW,seval];refine⟨_,⟨m,rfl,m1,m2⟩,?_⟩;rw[<-m3,t1,t2]; simp[bL,aL]
   ·exact i1
 obtain⟨_,⟨m,rfl,h1⟩,h3⟩:=key;exact⟨m,aB h3,h1⟩
end
def XH:List Node->List Bool->Nat
 |n::r,b::m=>(if b then 0 else n.bc.length)+XH r m
 |_,_=>0
def N8:∀(l:List Node)(m:List Bool)(i:Nat)(n:Node),l[i]?=some n->m[i]?=some false->XH l (m.set i true)+n.bc.length=XH l m
 | [],m,i,n,h,_=>by simp at h
 |x::l,[],i,n,_,h=>by simp at h
 |x::l,b::m,0,n,h,h'=>by simp at h h'; subst h; subst h'; simp[XH]; omega
 |x::l,b::m,i+1,n,h,h'=>by
  have:=N8 l m i n (by simpa using h) (by simpa using h')
  simp only[List.set_cons_succ,XH]; omega
def XI:∀(l:List Node)(m:List Bool),(∀n,n∈l->n.bc.length<=64)->XH l m<=64*l.length
 | [],m,_=>by simp[XH]
 |x::l,[],_=>by simp[XH]
 |x::l,b::m,h=>by
  have h1:=XI l m fun n hn=>h n (bt _ hn)
  have h2:=h x bD;simp only[XH,aw]; split<;>omega
section
attribute [local irreducible] eX fJ lu gK eb kr aq aU cq bI
section
variable {l:List Node} {Q:ag×aC->Prop}
abbrev J4(l:List Node)(m:List Bool)(all:List Int):aC:=[.arr 1 0 (m.map ag.bool),.cells [ba l,.int .i64 0,.int .i64 0],.tick 1 all.length]
abbrev Xn(n:Node):cL := .cells [.int .i64 n.ar,.int .i64 n.kind,.int .i64 n.eG,cX n.data,jc n.bc,.int .i64 n.up]
def VK(hl:l.length<=100000){m:List Bool}{all:List Int}{i:Nat}{A B:List Node}{n:Node}(hs:l=A++n::B)(hA:∀x,x∈A->x.ar≠n.ar){k:List K}
  (hx:∀z,∃r,Q r/\kr (aq bZ) [.tmp 4,.tmp 5] 0 k ⟨.exit 2,(0,ba l)::(6,.cD 0 0 1 0 l.length)::(7,cA 1)::(8,.slice (.own 2) (all.map mV))::(9,aF i)::(10,cA 3)::(12,aF A.length)::z,J4 l m all++[Xn n]⟩=some r) :
  ∀(d j:Nat),j+d=A.length->∃r,Q r/\eX (aq bZ) [.tmp 4,.tmp 5] 0 k (.loop [0,6,7,8,9,10,12] ZL) [(0,ba l),(6,.cD 0 0 1 0 l.length),(7,cA 1),(8,.slice (.own 2) (all.map mV)),(9,aF i),(10,cA 3),(12,aF j)] (J4 l m all++[Xn n])=some r:=by
 have hl2:l.length=A.length+(B.length+1):=by rw[hs]; simp
 intro d;induction d with
 |zero =>
  intro j hj;obtain rfl:j=A.length:=aJ;rw[bG];have b0:((A.length:Int)<0)=False:=dx;have hn:l[A.length]?=some n:=by rw[hs]; simp
  have e1:(n.ar != n.ar)=false:=dx;simp only[J4,Xn,aG,aP] at hx ⊢;simp only[AH,b0,hn,e1,bL,aL,EW,seval];exact hx _
 |succ d ih =>
  intro j hj;rw[bG];have b0:((j:Int)<0)=False:=dx;obtain⟨x,hx1⟩:∃x,A[j]?=some x:=⟨_,ai aJ⟩;have hn:l[j]?=some x:=by rw[hs,aN aJ]; exact hx1
  have e1:(x.ar != n.ar)=true:=by simpa using hA x (aE hx1)
  have w1:IntKind.i64.wrap ((j:Int)+1)=((j+1:Nat):Int):=by rw[gA aJ aJ]; rfl
  have i1:=ih (j+1) aJ;simp only[J4,Xn,aG,aP] at i1 ⊢;simp only[AH,b0,hn,e1,w1,bL,aL,EW,seval];exact i1
def VL{m:List Bool}{all:List Int}{i:Nat}{n:Node}(hn:n.bc.length<=64)(ha:all.length<=10000000){k:List K}
  (hx:∀(S:List Int) z,S.length=all.length+n.bc.length->∃r,Q r/\kr (aq bZ) [.tmp 4,.tmp 5] 0 k ⟨.exit 4,(0,ba l)::(6,.cD 0 0 1 0 l.length)::(7,cA 1)::(8,.slice (.own 2) (S.map mV))::(9,aF i)::z,J4 l m S++[Xn n]⟩=some r) :
  ∃r,Q r/\eX (aq bZ) [.tmp 4,.tmp 5] 0 k (.loop [0,6,7,8,9,10,13] ZM) [(0,ba l),(6,.cD 0 0 1 0 l.length),(7,cA 1),(8,.slice (.own 2) (all.map mV)),(9,aF i),(10,cA 3),(13,aF 0)] (J4 l m all++[Xn n])=some r:=by
 refine je (xs:=n.bc) aJ (fun c (S:List Int)=>S.length=all.length+c) (fun S j=>[(0,ba l),(6,.cD 0 0 1 0 l.length),(7,cA 1),(8,.slice (.own 2) (S.map mV)),(9,aF i),(10,cA 3),(13,aF j)]) (fun S=>J4 l m S++[Xn n]) Q (fun S hS=>?_) (fun pre e post S h hx' cJ hw h0 hm hS hi=>?_) all rfl
 ·have:=fun z=>hx S ((10,cA 3)::z) hS
  simp only[J4,Xn,aG,aP] at this ⊢;simp only[AH,bl,EW,seval];exact this _
 ·have hp:=(aj.1 hx').1;have i1:=hi (S++[e.ar]) gm
  have r1:ct (S.length+1) 8=True:=by
   simp only[fH,jb]; unfold ct; omega
  simp only[J4,Xn,aG,aP,aW,aH,aQ,aA,aw,az,aK,mV] at i1 ⊢;simp only[AH,cJ,hx',hw,h0,r1,uF,iJ,gk,EW,seval];exact i1
def VM(hl:l.length<=100000)(he:∀n,n∈l->n.bc.length<=64){k:List K}
  (hx:∀(m:List Bool) z M,m.length=l.length->∃r,Q r/\kr (aq bZ) [.tmp 4,.tmp 5] 0 k ⟨.exit 0,(0,ba l)::(6,.cD 0 0 1 0 l.length)::z,.arr 1 0 (m.map ag.bool)::M⟩=some r)
  (hr:∀(m:List Bool) M,m.length=l.length->∃r,Q r/\kr (aq bZ) [.tmp 4,.tmp 5] 0 k ⟨.ret,[(4,.cD 0 0 1 0 l.length),(5,.bool false)],.arr 1 0 (m.map ag.bool)::M⟩=some r) :
  ∀(d:Nat)(m:List Bool)(all:List Int)(i:Nat),m.length=l.length->i<=all.length->all.length+XH l m<=7000000->all.length+XH l m-i=d->∃r,Q r/\eX (aq bZ) [.tmp 4,.tmp 5] 0 k (.loop [0,6,7,8,9] ZN) [(0,ba l),(6,.cD 0 0 1 0 l.length),(7,cA 1),(8,.slice (.own 2) (all.map mV)),(9,aF i)] (J4 l m all)=some r:=by
 intro d;induction d using Nat.strongRecOn with
 |_ d ih =>
  intro m all i hm hi hb hd;rw[bG];rcases bC i all.length with h1|h1
  ·have e1:((i:Int)<(all.length:Int))=True:=su;have e0:((i:Int)<0)=False:=dx;have w1:IntKind.i64.wrap ((i:Int)+1)=((i+1:Nat):Int):=by rw[gA aJ aJ]; rfl
   obtain⟨x,hx1⟩:∃x,all[i]?=some x:=⟨_,ai h1⟩;have qg:=fun M=>Bj l 0 0 x hl M
   cases hf:find l x with
   |none =>
    rw[hf] at qg;simp only[hZ,cY,bL,aL,Node.zero,aQ] at qg;simp only[J4,aG,aP] at hr ⊢;simp only[AH,e1,e0,hx1,qg,mV,EW,seval];exact hr m _ hm
   |some n =>
    rw[hf] at qg;simp only[bz,bW,bL,aL] at qg;obtain⟨_,A,B,hs,hA⟩:=List.find?_eq_some_iff_append.1 hf;have hnm:n∈l:=by rw[hs]; simp
    have hne:=he n hnm
    have hA':∀y,y∈A->y.ar≠n.ar:=fun y hy hyn=>by
     have h2:=hA y hy;have h3:=(List.find?_eq_some_iff_append.1 hf).1;simp at h2 h3; omega
    have la:=fun {k} hx=>VK (l:=l) (Q:=Q) hl (m:=m) (all:=all) (i:=i) hs hA' (k:=k) hx A.length 0 aJ
    simp only[J4,Xn,aG,aP] at la ⊢;simp only[AH,e1,e0,hx1,qg,mV,EW,seval];refine la (fun z=>?_)
    have hAl:A.length<l.length:=by rw[hs]; simp
    have a0:((A.length:Int)<0)=False:=dx;have a1:((A.length:Int)<(l.length:Int))=True:=su;have a2:(A.length<l.length)=True:=su;have a3:(A.length<m.length)=True:=su;have hln:l[A.length]?=some n:=by rw[hs]; simp
    obtain⟨b,hmb⟩:∃b,m[A.length]?=some b:=⟨_,ai aJ⟩;cases b
    ·have hu:=N8 l m A.length n hln hmb;have lb:=fun {k} hx=>VL (l:=l) (Q:=Q) (m:=m.set A.length true) (all:=all) (i:=i) (n:=n) hne aJ (k:=k) hx
     simp only[J4,Xn,aG,aP] at lb;simp only[AH,a0,a1,a2,a3,hmb,hm,GC,bP,EW,seval];refine lb (fun S z hS=>?_)
     have i1:=ih _ aJ (m.set A.length true) S (i+1) (by simp[hm]) aJ aJ rfl
     simp only[J4] at i1;simp only[AH,w1,EW,seval];exact i1
    ·have i1:=ih _ aJ m all (i+1) hm aJ hb rfl;simp only[J4] at i1;simp only[AH,a0,a1,a2,a3,hmb,hm,w1,bP,EW,seval];exact i1
  ·have e1:((i:Int)<(all.length:Int))=False:=XZ;simp only[J4,aG,aP] at hx ⊢;simp only[AH,e1,EW,seval];exact hx m _ _ hm
end
def aql(l:List Node)(ar:Int)(hl:l.length<=100000)(he:∀n,n∈l->n.bc.length<=64):∃(m:List Bool) (b:Bool),aq bZ 139 [ba l,aF ar] []=some (.tuple [gG (m.map ag.bool),.bool b],[])/\m.length=l.length:=by
 have key:∃r:ag×aC,(∃(m:List Bool) (b:Bool),r=(.tuple [gG (m.map ag.bool),.bool b],[])/\m.length=l.length)/\eX (aq bZ) IZ.results 0 [] IZ.body (eH 0 [ba l,aF ar]) []=some r:=by
  have r1:ct l.length 8=True:=qM
  have hrep:List.replicate l.length (ag.agg [ag.bool false]).norm=(List.replicate l.length false).map ag.bool:=by
   rw[gY]; rfl
  have hu:=XI l (List.replicate l.length false) he;have lc:=fun {k Q} hx hr=>VM (l:=l) (Q:=Q) hl he (k:=k) hx hr _ (List.replicate l.length false) [ar] 0 dx dx gm rfl
  simp only[J4,aH,aQ,aw,az,mV] at lc;simp only[IZ,AH,r1,hrep,EW,seval];refine lc (fun m z M hm=>?_) (fun m M hm=>?_)
  ·have htk:(m.map ag.bool).take l.length=m.map ag.bool:=bB (by simp[hm])
   simp only[AH,hm,htk,bP,EW,seval];exact⟨_,⟨m,true,rfl,hm⟩,rfl⟩
  ·have htk:(m.map ag.bool).take l.length=m.map ag.bool:=bB (by simp[hm])
   simp only[AH,hm,htk,bP,EW,seval];exact⟨_,⟨m,false,rfl,hm⟩,rfl⟩
 obtain⟨_,⟨m,b,rfl,h1⟩,h3⟩:=key;exact⟨m,b,aB h3,h1⟩
section
variable {s:iT} {a:Int} {Q:ag×aC->Prop}
def BS(c:Nat)(x:ag×List Node):Prop:=(x.1 = .slice .c0 []/\x.2=[]\/x.1=ba x.2)/\x.2.length<=c/\∀n,n∈x.2->Fo n
def BS.amn{c:Nat}{x:ag×List Node}(h:BS c x)(hc:c<=100000){n:Node}(hn:Fo n):∃m,(∀M,aU (aq bZ) 177 [x.1.fT,.agg (aL n)] M=some (ba m,M))/\BS (c+1) (ba m,m):=by
 obtain⟨v,l⟩:=x;obtain⟨h1,h2,h3⟩:=h;simp only at h1 h2 h3;obtain⟨m,q,g1,g2⟩:=aqR l n aJ
 have hv:v.fT=ba l:=by
  rcases h1 with ⟨rfl,rfl⟩|rfl<;>rfl
 refine⟨m,fun M=>?_,.inr rfl,by simp only; omega,fun y hy=>?_⟩
 ·simp only[hv];exact cO q M
 ·rcases g2 y hy with rfl|hy
  ·exact hn
  ·exact h3 y hy
def BS.mono{c d:Nat}{x:ag×List Node}(h:BS c x)(hd:c<=d):BS d x:=⟨h.1,aY h.2.1 hd,h.2.2⟩
def c138(s:iT)(a:Int)(hs:Rt s.now)(hl:s.since.length=s.now.ae.length)(hp:s.eS.length<=90000)(he:∀p,p∈s.eS->Fo p.node):∃l,aq bZ 138 [.agg (bM s),aF a] []=some (ba l,[])/\l.length<=90200/\∀n,n∈l->Fo n:=by
 have key:∃r:ag×aC,(∃l,r=(ba l,[])/\l.length<=90200/\∀n,n∈l->Fo n)/\eX (aq bZ) MZ.results 0 [] MZ.body (eH 0 [.agg (bM s),aF a]) []=some r:=by
  have h200:=hs.sz.ae;simp only[MZ,Oe,bM,EW,seval];refine je (xs:=s.now.ae) aJ (fun m (x:ag×List Node)=>BS m x) (fun x i=>[(1,aF a),(2,cA 0),(5,x.1),(6,aF i)]) (fun _=>[cC (bM s)]) _ (fun x hI=>?_) (fun pre n post x e hx cJ hw h0 hm hI hi=>?_) (.slice .c0 [],[]) ⟨.inl ⟨rfl,rfl⟩,au _,fun n h=>by cases h⟩
  ·simp only[bM];simp only[Oe,bl,EW,seval];refine je (xs:=s.eS) aJ (fun m (x:ag×List Node)=>BS (s.now.ae.length+m) x) (fun x i=>[(1,aF a),(2,cA 0),(5,x.1),(7,aF i)]) (fun _=>[cC (bM s)]) _ (fun x hI=>?_) (fun pre p post x e hx cJ hw h0 hm hI hi=>?_) x hI
   ·obtain⟨v,l⟩:=x;obtain⟨h1,h2,h3⟩:=hI;simp only at h2 h3;rcases h1 with ⟨h1,h4⟩|h1<;>simp only at h1
    ·simp only at h4;subst h1; subst h4;simp only[bM];simp only[Oe,bl,EW,seval];exact⟨_,⟨[],rfl,dx,h3⟩,rfl⟩
    ·subst h1;simp only[bM];simp only[Oe,bl,EW,seval];exact⟨_,⟨l,rfl,aJ,h3⟩,rfl⟩
   ·have hpl:=(aj.1 hx).1;obtain⟨m,q,g⟩:=hI.amn aJ (he p hm);have i1:=hi x (hI.mono aJ);have i2:=hi _ g;obtain⟨v,l⟩:=x;rcases hI.1 with ⟨h3,h4⟩|h3<;>simp only at h3<;>first|(simp only at h4; subst h3; subst h4)|subst h3
    all_goals
     first
      |(change ∀M,aU (aq bZ) 177 [gG [],.agg (aL p.node)] M=_ at q)
      |(change ∀M,aU (aq bZ) 177 [ba l,.agg (aL p.node)] M=_ at q)
     simp only[bM,aL] at i1 i2 q ⊢;cases h1:decide (p.km<=a)<;>cases h2:decide (a<p.BM)<;>simp only[Oe,cJ,hx,hw,h0,h1,h2,q,lY,mN,aL,EW,seval]<;>first|exact i1|exact i2
  ·have hpl:=(aj.1 hx).1;have hl1:((pre.length:Int)<(s.since.length:Int))=True:=su;obtain⟨y,hy⟩:∃y,s.since[pre.length]?=some y:=⟨_,ai aJ⟩;obtain⟨m,q,g⟩:=hI.amn aJ (hs.XX hm);have i1:=hi x (hI.mono aJ);have i2:=hi _ g;obtain⟨v,l⟩:=x;rcases hI.1 with ⟨h3,h4⟩|h3<;>simp only at h3<;>first|(simp only at h4; subst h3; subst h4)|subst h3
   all_goals
    first
     |(change ∀M,aU (aq bZ) 177 [gG [],.agg (aL n)] M=_ at q)
     |(change ∀M,aU (aq bZ) 177 [ba l,.agg (aL n)] M=_ at q)
    simp only[bM,aL] at i1 i2 q ⊢;cases h1:decide (y<=a)<;>simp only[Oe,cJ,hx,hw,h0,hl1,hy,h1,q,bL,aL,mV,EW,seval]<;>first|exact i1|exact i2
 obtain⟨_,⟨l,rfl,h1⟩,h3⟩:=key;exact⟨l,aB h3,h1⟩
def c84(s:iT)(id:Int)(hs:Rt s.now)(hl:s.since.length=s.now.ae.length)(hp:s.eS.length<=90000)(he:∀p,p∈s.eS->Fo p.node)(hk:s.dW.length<=16):∃i l e,aq bZ 84 [.agg (bM s),aF id] []=some (.tuple [aF i,ba l,aF e],[])/\l.length<=90200/\∀n,n∈l->Fo n:=by
 have key:∃r:ag×aC,(∃i l e,r=(.tuple [aF i,ba l,aF e],[])/\l.length<=90200/\∀n,n∈l->Fo n)/\eX (aq bZ) Sw.results 0 [] Sw.body (eH 0 [.agg (bM s),aF id]) []=some r:=by
  simp only[Sw,E84,bM,EW,seval];refine je (xs:=s.dW) aJ (fun _ (_:Unit)=>True) (fun _ i=>[(1,aF id),(2,cA 0),(7,aF i)]) (fun _=>[cC (bM s)]) _ (fun _ _=>?_) (fun pre x post _ e hx cJ hw h0 hm _ hi=>?_) () trivial
  ·simp only[bM];simp only[E84,bl,EW,seval];exact⟨_,⟨0,[],100,rfl,dx,fun n h=>by cases h⟩,rfl⟩
  ·have hpl:=(aj.1 hx).1;obtain⟨l,q1,g1,g2⟩:=c138 s x.at' hs hl hp he;obtain⟨m,b,q2,g3⟩:=aql l x.ar aJ (fun n hn=>(g2 n hn).1)
   have k1:=cP q1;have k2:=cP q2;have i1:=hi () trivial;have e1:((pre.length:Int)<(s.dW.length:Int))=True:=su;simp only[bM] at i1 k1 ⊢;cases h1:x.id != id<;>simp only[E84,cJ,hx,hw,h0,h1,k1,k2,kS,iH,EW,seval]
   ·refine je (xs:=l) aJ (fun c (S:List Node)=>S.length<=c/\∀n,n∈S->n∈l) (fun S i=>[(2,cA 0),(7,aF pre.length),(8,ba l),(9,gG (m.map ag.bool)),(11,.slice (.own 1) (S.map bL)),(12,aF i)]) (fun S=>[cC (bM s),.tick 6 S.length]) _ (fun S hS=>?_) (fun pre2 n post2 S e2 hx2 hlt2 hw2 h02 hm2 hS hi2=>?_) [] ⟨au _,fun n h=>by cases h⟩
    ·simp only[bM];simp only[E84,bl,e1,hx,h0,kS,iH,EW,seval];exact⟨_,⟨_,S,0,rfl,aJ,fun n hn=>g2 n (hS.2 n hn)⟩,rfl⟩
    ·have hpl2:=(aj.1 hx2).1;obtain⟨c,hc⟩:∃c,m[pre2.length]?=some c:=⟨_,ai aJ⟩;have j1:=hi2 S ⟨aJ,hS.2⟩
     have j2:=hi2 (S++[n]) ⟨gm,fun y hy=>by
      rcases bq.1 hy with hy|hy
      ·exact hS.2 y hy
      ·rw[bT.1 hy]; exact hm2⟩
     have r1:ct (S.length+1) 80=True:=qM;simp only[bM,aW,aH,aQ,aA,aw,az,aK,bL,aL] at j1 j2 ⊢;cases c<;>simp only[E84,hlt2,hx2,hw2,h02,hc,r1,bL,aL,EW,seval]<;>first|exact j1|exact j2
   ·exact i1
 obtain⟨_,⟨i,l,e,rfl,h1⟩,h3⟩:=key;exact⟨i,l,e,aB h3,h1⟩
end
section
variable {f:aa} {o:jD} {l:List Node} {names:List Bytes} {Q:ag×aC->Prop}
abbrev pkC(n:Node):List ag:=[.int .i64 n.ar,.int .i64 n.kind,.int .i64 n.eG,cX n.data,jc n.bc,.int .i64 n.up]
abbrev JQ(f:aa)(o:jD)(l:List Node)(n:Node):aC:=[.cells (cf f),.cells (eT o),.cells rh,.cells [ba l,.int .i64 0,.int .i64 0],.cells (pkC n)]
def aaE{n:Node}(hn:n.bc.length<=64){i:Nat}{w:Bytes}(hw':names[i]?=some w){k:List K}
  (hx:∀(x:Int) z,∃r,Q r/\kr (aq bZ) [.dK 4 7] 0 k ⟨.exit 2,(4,cA 2)::(8,dj names)::(9,cA 3)::(10,cA 4)::(12,aF i)::(13,aF x)::z,JQ f o l n⟩=some r) :
  ∃r,Q r/\eX (aq bZ) [.dK 4 7] 0 k (.loop [4,8,9,10,12,13,14] ag4) [(4,cA 2),(8,dj names),(9,cA 3),(10,cA 4),(12,aF i),(13,aF 0),(14,aF 0)] (JQ f o l n)=some r:=by
 have b1:((i:Int)<0)=False:=dx;refine je (xs:=n.bc) aJ (fun _ _=>True) (fun(x:Int) j=>[(4,cA 2),(8,dj names),(9,cA 3),(10,cA 4),(12,aF i),(13,aF x),(14,aF j)]) (fun _=>JQ f o l n) Q (fun x _=>?_) (fun pre e post x h hx' cJ hw h0 hm _ hi=>?_) 0 trivial
 ·simp only[JQ,pkC,cf,eT,rh] at hx ⊢;simp only[Kw,bl,EW,seval];exact hx x _
 ·have i1:=hi x trivial;have i2:=hi e.ar trivial;simp only[JQ,pkC,cf,eT,rh] at i1 i2 ⊢;cases h1:e.name==w<;>simp only[Kw,cJ,hx',hw,h0,hw',b1,h1,iJ,gk,EW,seval]<;>first|exact i1|exact i2
def aaF(hl:l.length<=100000)(he:∀n,n∈l->Fo n)(hn:names.length<=12){k:List K}
  (hx:∀(n:Node) z,Fo n->∃r,Q r/\kr (aq bZ) [.dK 4 7] 0 k ⟨.exit 0,(4,cA 2)::(8,dj names)::(9,cA 3)::(10,cA 4)::z,JQ f o l n⟩=some r)
  (hr:∀(a:Int) M,∃r,Q r/\kr (aq bZ) [.dK 4 7] 0 k ⟨.ret,[(4,cA 2)],cC (cf f) :: cC (eT o) :: cC (cE (ia a))::M⟩=some r) {n:Node} (hno:Fo n) :
  ∃r,Q r/\eX (aq bZ) [.dK 4 7] 0 k (.loop [4,8,9,10,12] ag5) [(4,cA 2),(8,dj names),(9,cA 3),(10,cA 4),(12,aF 0)] (JQ f o l n)=some r:=by
 have q4:=k42;simp only[cE,ia] at q4 hr;refine je (xs:=names) aJ (fun _ (n:Node)=>Fo n) (fun _ i=>[(4,cA 2),(8,dj names),(9,cA 3),(10,cA 4),(12,aF i)]) (fun n=>JQ f o l n) Q (fun n hno=>?_) (fun pre w post n h hx' cJ hw h0 hm hno hi=>?_) n hno
 ·simp only[JQ,pkC,cf,eT,rh] at hx ⊢;simp only[Kw,bl,EW,seval];exact hx n _ hno
 ·have la:=fun {k} hx=>aaE (f:=f) (o:=o) (l:=l) (Q:=Q) hno.1 hx' (k:=k) hx
  simp only[JQ,pkC,cf,eT,rh] at la hi hr ⊢;cases h1:n.kind != 2
  ·simp only[Kw,cJ,h1,EW,seval];refine la (fun x z=>?_)
   have qg:=fun M=>Bj l 0 0 x hl M
   cases hf:find l x with
   |none =>
    rw[hf] at qg;simp only[hZ,cY,bL,aL,Node.zero,aQ] at qg;simp only[Kw,qg,q4,EW,seval];exact hr 70 _
   |some m =>
    rw[hf] at qg;simp only[bz,bW,bL,aL] at qg;have i1:=hi m (he m (iG hf));simp only[Kw,qg,hw,EW,seval];exact i1
  ·simp only[Kw,cJ,h1,q4,EW,seval];exact hr 73 _
def aaG{n:Node}(hn:n.bc.length<=64){k:List K}
  (hx:∀(S:List Bytes) z,∃r,Q r/\kr (aq bZ) [.dK 4 7] 0 k ⟨.exit 4,(4,cA 2)::(10,cA 4)::(17,.slice (.own 5) (S.map ag.str))::z,JQ f o l n++[.tick 1 S.length]⟩=some r) :
  ∃r,Q r/\eX (aq bZ) [.dK 4 7] 0 k (.loop [4,10,17,18] ag6) [(4,cA 2),(10,cA 4),(17,.slice (.own 5) []),(18,aF 0)] (JQ f o l n++[.tick 1 0])=some r:=by
 refine je (xs:=n.bc) aJ (fun m (S:List Bytes)=>S.length<=m) (fun S i=>[(4,cA 2),(10,cA 4),(17,.slice (.own 5) (S.map ag.str)),(18,aF i)]) (fun S=>JQ f o l n++[.tick 1 S.length]) Q (fun S hS=>?_) (fun pre e post S h hx' cJ hw h0 hm hS hi=>?_) [] (au _)
 ·simp only[JQ,pkC,cf,eT,rh,aG,aP] at hx ⊢;simp only[Kw,bl,EW,seval];exact hx S _
 ·have hp:=(aj.1 hx').1;have i1:=hi (S++[e.name]) gm;have r1:ct (S.length+1) 16=True:=qM;simp only[JQ,pkC,cf,eT,rh,aG,aP,aW,aH,aQ,aA,aw,az,aK] at i1 ⊢;simp only[Kw,cJ,hx',hw,h0,r1,iJ,gk,EW,seval];exact i1
end
def c46{K:Nat}(f:aa)(o:jD)(hf:FB K f)(hK:K<=89000)(ho:rY o):∃a,aq bZ 46 [.agg (cf f),.agg (eT o)] []=some (.agg (cE a),[]):=by
 have key:∃r:ag×aC,(∃a,r=(.agg (cE a),[]))/\eX (aq bZ) Lv.results 0 [] Lv.body (eH 0 [.agg (cf f),.agg (eT o)]) []=some r:=by
  obtain⟨i,l,e,qa,h1,h2⟩:=c84 f.s o.n hf.ok.rt hf.ok.len hf.ok.eS hf.ok.Eu hf.ok.dW;have q1:=cP qa;have q2:=fun M=>k85 o.dL (by have:=ho.dL; omega) M
  obtain⟨_,o2⟩:=yl o.dL;generalize pX o.dL=v at q2 o2;have q4:=k42;simp only[bM,cE,ia] at q1 q4;cases h3:e != 0
  case true =>
   simp only[Lv,Kw,cf,eT,q1,q4,h3,EW,seval];exact⟨_,⟨ia e,rfl⟩,rfl⟩
  cases h4:v.2 != 0
  case true =>
   simp only[Lv,Kw,cf,eT,q1,q2,q4,h3,h4,EW,seval];exact⟨_,⟨ia v.2,rfl⟩,rfl⟩
  have qg:=fun M=>Bj l 0 0 i aJ M
  have hz:Fo ((find l i).getD Node.zero):=by
   cases hf:find l i with
   |none=>exact⟨by simp[Node.zero],by simp[Node.zero]⟩
   |some m=>exact h2 m (iG hf)
  generalize (find l i).getD Node.zero=n at qg hz;have lb:=fun {k Q} hx hr=>aaF (f:=f) (o:=o) (l:=l) (names:=v.1) (Q:=Q) aJ h2 o2 (k:=k) hx hr hz
  simp only[JQ,pkC,cf,eT,rh,bL,aL] at lb qg;simp only[Lv,Kw,cf,eT,bL,aL,q1,q2,qg,h3,h4,EW,seval];refine lb (fun n z hn=>?_) (fun a M=>?_)
  ·have lc:=fun {k Q} hx=>aaG (f:=f) (o:=o) (l:=l) (Q:=Q) hn.1 (k:=k) hx
   simp only[JQ,pkC,cf,eT,rh,aG,aP] at lc;simp only[Kw,EW,seval];refine lc (fun S z=>?_)
   obtain⟨b,qs⟩:=c75 n;have q5:=cP qs;simp only[bL,aL] at q5;simp only[Kw,q5,EW,seval];exact⟨_,⟨⟨0,n.ar,n.kind,n.eG,b,S,n.data⟩,rfl⟩,rfl⟩
  ·simp only[Kw,cE,EW,seval];exact⟨_,⟨ia a,rfl⟩,rfl⟩
 obtain⟨_,⟨a,rfl⟩,h3⟩:=key;exact⟨a,aB h3⟩
def c28{K:Nat}(f:aa)(o:jD)(hf:FB K f)(hK:K<=89000)(ho:rY o):yB K f 28 [.agg (cf f),.agg (eT o)]:=by
 have q4:=k42;simp only[cE,ia,dj,cX,aQ] at q4;have back:FB (K+200) f:=hf.mono aJ;have bad:aq bZ 28 [.agg (cf f),.agg (eT o)] []=some (.tuple [.agg (cf f),.agg (cE (ia 1))],[])->yB K f 28 [.agg (cf f),.agg (eT o)]:=fun h=>⟨f,ia 1,h,back,D7⟩
 cases c1:decide (o.bE<0)
 case true =>
  refine bad (aB ?_);simp only[uI,E0,cf,eT,cE,ia,dj,cX,c1,q4,EW,seval]
 cases c2:decide (16<=o.bE)
 case true =>
  refine bad (aB ?_);simp only[uI,E0,cf,eT,cE,ia,dj,cX,c1,c2,q4,EW,seval]
 obtain⟨g1,a1,r1,f1⟩:=c43 f o hf hK ho;obtain⟨g2,a2,r2,f2⟩:=c44 f o hf hK ho;obtain⟨g3,a3,r3,f3⟩:=c45 f o hf hK ho;have q1:=cP r1;have q2:=cP r2;have q3:=cP r3;simp only[cf,eT,cE] at q1 q2 q3;have byN:aq bZ 28 [.agg (cf f),.agg (eT o)] []=some (.tuple [.agg (cf g1),.agg (cE a1)],[])->yB K f 28 [.agg (cf f),.agg (eT o)]:=fun h=>⟨g1,a1,h,f1⟩
 have byW:aq bZ 28 [.agg (cf f),.agg (eT o)] []=some (.tuple [.agg (cf g2),.agg (cE a2)],[])->yB K f 28 [.agg (cf f),.agg (eT o)]:=fun h=>⟨g2,a2,h,f2⟩
 have byH:aq bZ 28 [.agg (cf f),.agg (eT o)] []=some (.tuple [.agg (cf g3),.agg (cE a3)],[])->yB K f 28 [.agg (cf f),.agg (eT o)]:=fun h=>⟨g3,a3,h,f3⟩
 cases k2:o.kind==2
 case true =>
  refine byN (aB ?_);simp only[uI,E0,cf,eT,cE,ia,dj,cX,c1,c2,k2,q1,EW,seval]
 cases k3:o.kind==3
 case true =>
  refine byN (aB ?_);simp only[uI,E0,cf,eT,cE,ia,dj,cX,c1,c2,k2,k3,q1,EW,seval]
 cases k4:o.kind==4
 case true =>
  refine byN (aB ?_);simp only[uI,E0,cf,eT,cE,ia,dj,cX,c1,c2,k2,k3,k4,q1,EW,seval]
 cases k5:o.kind==5
 case true =>
  refine byN (aB ?_);simp only[uI,E0,cf,eT,cE,ia,dj,cX,c1,c2,k2,k3,k4,k5,q1,EW,seval]
 cases k1:o.kind==1
 case true =>
  refine byW (aB ?_);simp only[uI,E0,cf,eT,cE,ia,dj,cX,c1,c2,k2,k3,k4,k5,k1,q2,EW,seval]
 cases k6:o.kind==6
 case true =>
  refine byW (aB ?_);simp only[uI,E0,cf,eT,cE,ia,dj,cX,c1,c2,k2,k3,k4,k5,k1,k6,q2,EW,seval]
 cases k7:o.kind==7
 case true =>
  refine byW (aB ?_);simp only[uI,E0,cf,eT,cE,ia,dj,cX,c1,c2,k2,k3,k4,k5,k1,k6,k7,q2,EW,seval]
 cases k8:o.kind==8
 case true =>
  refine byW (aB ?_);simp only[uI,E0,cf,eT,cE,ia,dj,cX,c1,c2,k2,k3,k4,k5,k1,k6,k7,k8,q2,EW,seval]
 cases k13:o.kind==13
 case true =>
  refine byW (aB ?_);simp only[uI,E0,cf,eT,cE,ia,dj,cX,c1,c2,k2,k3,k4,k5,k1,k6,k7,k8,k13,q2,EW,seval]
 cases k14:o.kind==14
 case true =>
  refine byW (aB ?_);simp only[uI,E0,cf,eT,cE,ia,dj,cX,c1,c2,k2,k3,k4,k5,k1,k6,k7,k8,k13,k14,q2,EW,seval]
 cases k9:o.kind==9
 case true =>
  refine byH (aB ?_);simp only[uI,E0,cf,eT,cE,ia,dj,cX,c1,c2,k2,k3,k4,k5,k1,k6,k7,k8,k13,k14,k9,q3,EW,seval]
 cases k10:o.kind==10
 case true =>
  refine byH (aB ?_);simp only[uI,E0,cf,eT,cE,ia,dj,cX,c1,c2,k2,k3,k4,k5,k1,k6,k7,k8,k13,k14,k9,k10,q3,EW,seval]
 cases k11:o.kind==11
 case true =>
  refine byH (aB ?_);simp only[uI,E0,cf,eT,cE,ia,dj,cX,c1,c2,k2,k3,k4,k5,k1,k6,k7,k8,k13,k14,k9,k10,k11,q3,EW,seval]
 cases k12:o.kind==12
 case true =>
  refine byH (aB ?_);simp only[uI,E0,cf,eT,cE,ia,dj,cX,c1,c2,k2,k3,k4,k5,k1,k6,k7,k8,k13,k14,k9,k10,k11,k12,q3,EW,seval]
 cases QJ:o.kind==15
 case true =>
  obtain⟨a,r5⟩:=c46 f o hf hK ho;have q5:=cP r5;simp only[cf,eT,cE] at q5;refine⟨f,a,aB ?_,back,D7⟩;simp only[uI,E0,cf,eT,cE,ia,dj,cX,c1,c2,k2,k3,k4,k5,k1,k6,k7,k8,k13,k14,k9,k10,k11,k12,QJ,q5,EW,seval]
 cases k16:o.kind==16
 case true =>
  obtain⟨e,r5⟩:=c47 f.s o.n hf.ok.dW hf.ok.eS;have q5:=cP r5;simp only[bM] at q5;cases h1:e != 0
  ·obtain⟨t1,t2⟩:=hf.ad1 (u:=(rC f.s o.n).1) (by unfold rC; split<;>rfl) (by unfold rC; split<;>rfl) (fun p hp=>by
    unfold rC at hp;split at hp
    ·exact hp
    ·exact(eo.1 hp).1) (by unfold rC; split<;>first|exact au _|exact bU _ _) (by
    have:=hf.ok.dW;unfold rC; split<;>first|exact this|exact aY (bU _ _) this)
   refine⟨⟨(rC f.s o.n).1,f.holds,f.dX⟩,ia 0,aB ?_,t1,t2,.inr (.inr (.inr ⟨_,trivial,rfl⟩))⟩;simp only[uI,E0,cf,eT,cE,ia,dj,cX,c1,c2,k2,k3,k4,k5,k1,k6,k7,k8,k13,k14,k9,k10,k11,k12,QJ,k16,q5,h1,EW,seval]
  ·refine⟨f,ia e,aB ?_,back,D7⟩;simp only[uI,E0,cf,eT,cE,ia,dj,cX,c1,c2,k2,k3,k4,k5,k1,k6,k7,k8,k13,k14,k9,k10,k11,k12,QJ,k16,q4,q5,h1,EW,seval]
 cases k17:o.kind==17
 case true =>
  obtain⟨u,l,r5,g⟩:=c48 f.s.now f.holds o.bE hf.ok.rt hf.ok.holds hf.ok.dQ;have r6:=c49 f.s u hf.ok.rt g.rt hf.ok.len hf.ok.dW hf.ok.eS;have q5:=cP r5;have q6:=cP r6;simp only[br,aM,bM] at q5 q6;refine⟨⟨qA f.s u,l,f.dX⟩,ia 0,aB ?_,hf.put hK g.rt g.mr g.len hf.ok.dX hf.ok.sO,fun h=>HA g.mem (g.orp h.orp) (fun q hq=>g.dir _ (h.quo q hq)) (g.one _ h.one) (fun q hq=>by rw[g.use]; exact h.over q hq) h,.inr (.inl ⟨u,g.rt,rfl⟩)⟩
  simp only[uI,E0,cf,eT,cE,ia,dj,cX,c1,c2,k2,k3,k4,k5,k1,k6,k7,k8,k13,k14,k9,k10,k11,k12,QJ,k16,k17,q5,q6,EW,seval]
 refine bad (aB ?_);simp only[uI,E0,cf,eT,cE,ia,dj,cX,c1,c2,k2,k3,k4,k5,k1,k6,k7,k8,k13,k14,k9,k10,k11,k12,QJ,k16,k17,q4,EW,seval]
def k28{K:Nat}(f:aa)(o:jD)(hf:FB K f)(hK:K<=89000)(ho:rY o):∃g a,(∀M,aU (aq bZ) 28 [.agg (cf f),.agg (eT o)] M=some (.tuple [.agg (cf g),.agg (cE a)],M))/\FB (K+200) g/\Kp f g:=by
 obtain⟨g,a,h,hg⟩:=c28 f o hf hK ho;exact⟨g,a,fun M=>cO h M,hg⟩
def amm(a b:Int):(a != b) = !decide (a=b):=by rw[cz]; simp
def c57(a b:List Int)(ha:a.length<=100000):aq bZ 57 [uc a,uc b] []=some (.bool (decide (a=b)),[]) :=
 DM (sz:=1) (e:=mV) (ld := .rH) (ne := .bin .neq) fu rfl ha (fun _=>rfl) (fun _=>rfl) (fun _=>rfl) (fun _ _ _ _ h=>by simp only[ei,fX.ev,h,mV,ag.cells,nth,bO]) (fun _ _ _ _ _ _ h h'=>by simp only[ei,fX.ev,h,h',mV,p7,amm,ne_eq,ni,aD,bO])
def k57 a b ha:=cP (c57 a b ha)
def afg(x y:mU):kY [.i,.i,.i] (iH x) (iH y)=some (decide (x=y)):=by
 cases x; cases y;simp only[iH,YR,fZ];rw[cz];simp
def c59(a b:List mU)(ha:a.length<=100000):aq bZ 59 [kh a,kh b] []=some (.bool (decide (a=b)),[]) :=
 DM (sz:=3) (e:=kS) (ld := .mP 3) (ne := .QG [.i,.i,.i] true) fu rfl ha (fun _=>rfl) (fun _=>rfl) (fun _=>rfl) (fun _ _ _ _ h=>by simp only[ei,fX.ev,h]; rfl) (fun _ _ _ _ _ _ h h'=>by simp only[ei,fX.ev,h,h',kS,afg,bO])
def k59 a b ha:=cP (c59 a b ha)
def aff(x y:fA):kY [.i,.i,.i] (jd x) (jd y)=some (decide (x=y)):=by
 cases x; cases y;simp only[jd,YR,fZ];rw[cz];simp
def c60(a b:List fA)(ha:a.length<=100000):aq bZ 60 [fI a,fI b] []=some (.bool (decide (a=b)),[]) :=
 DM (sz:=3) (e:=ij) (ld := .mP 3) (ne := .QG [.i,.i,.i] true) fu rfl ha (fun _=>rfl) (fun _=>rfl) (fun _=>rfl) (fun _ _ _ _ h=>by simp only[ei,fX.ev,h]; rfl) (fun _ _ _ _ _ _ h h'=>by simp only[ei,fX.ev,h,h',ij,aff,bO])
def k60 a b ha:=cP (c60 a b ha)
def YT(x y:dV):kY [.i,.i,.i] (iX x) (iX y)=some (decide (x=y)):=by
 cases x; cases y;simp only[iX,YR,fZ];rw[cz];simp
def c61(a b:List dV)(ha:a.length<=100000):aq bZ 61 [cR a,cR b] []=some (.bool (decide (a=b)),[]) :=
 DM (sz:=3) (e:=gF) (ld := .mP 3) (ne := .QG [.i,.i,.i] true) fu rfl ha (fun _=>rfl) (fun _=>rfl) (fun _=>rfl) (fun _ _ _ _ h=>by simp only[ei,fX.ev,h]; rfl) (fun _ _ _ _ _ _ h h'=>by simp only[ei,fX.ev,h,h',gF,YT,bO])
def k61 a b ha:=cP (c61 a b ha)
def anM(x y:pv):decide (x=y)=(x.km==y.km&&(x.BM==y.BM&&decide (x.node=y.node))):=by
 cases x; cases y;simp only[pv.mk.injEq];rw[cz];simp
def atn(a b:Node)(ha:Fo a)(M:aC):aU (aq bZ) 56 [.agg [gG [.agg (aL a)],aF 0,aF 0],.agg [gG [.agg (aL b)],aF 0,aF 0]] M=some (.bool (decide (a=b)),M):=by
 have h:=c56 ⟨[a],0,0⟩ ⟨[b],0,0⟩ ⟨dx,fun n hn=>by rw[bT.1 hn]; have:=ha.1; omega,fun n hn=>by rw[bT.1 hn]; have:=ha.2; omega⟩
 have hd:decide ((⟨[a],0,0⟩:Tree)=⟨[b],0,0⟩)=decide (a=b):=by rw[cz]; simp
 rw[hd] at h;exact cO h M
def c55(x y:pv)(hx:Fo x.node):aq bZ 55 [.agg (mN x),.agg (mN y)] []=some (.bool (decide (x=y)),[]):=by
 rw[anM];refine aB ?_;have q:=fun M=>atn x.node y.node hx M
 simp only[aL] at q;simp only[alT,E55,lY,mN,aL,EW,seval]
 repeat' ((first|apply bA|apply bV|apply dP)<;>intro hb<;>simp only[hb,EW,E55,q,seval])
 all_goals simp_all only[qB,↓reduceIte,reduceCtorEq,av]
def k55 x y hx:=cP (c55 x y hx)
def c58(a b:List pv)(ha:a.length<=100000)(he:∀n,n∈a->Fo n.node):aq bZ 58 [sd a,sd b,.func 55 []] []=some (.bool (decide (a=b)),[]) :=
 adN (sz:=8) (e:=mN) (z:=[aF 0,aF 0,aF 0,aF 0,aF 0,.slice .c0 [],.slice .c0 [],aF 0]) fu rfl ha (fun _=>rfl) rfl (fun _=>rfl) (fun _=>rfl) fun x y M h=>k55 x y (he x h) M
def k58 a b ha he:=cP (c58 a b ha he)
def fsB(x y:aa):decide (x=y)=(decide (x.s.now=y.s.now)&&(x.s.tick==y.s.tick&&(x.s.next==y.s.next&&(decide (x.s.since=y.s.since)&&(decide (x.s.eS=y.s.eS)&&(decide (x.s.dW=y.s.dW)&&(decide (x.holds=y.holds)&&decide (x.dX=y.dX)))))))):=by
 obtain⟨⟨a,b,c,d,e,f⟩,g,h⟩:=x;obtain⟨⟨a',b',c',d',e',f'⟩,g',h'⟩:=y;simp only[aa.mk.injEq,iT.mk.injEq];rw[cz];simp only[bh,bw,eu];constructor
 ·rintro⟨⟨h1,h2,h3,h4,h5,h6⟩,h7,h8⟩; exact⟨h1,h2,h6,h3,h4,h5,h7,h8⟩
 ·rintro⟨h1,h2,h6,h3,h4,h5,h7,h8⟩; exact⟨⟨h1,h2,h3,h4,h5,h6⟩,h7,h8⟩
def c34(x y:aa)(hx:vm x):aq bZ 34 [.agg (cf x),.agg (cf y)] []=some (.bool (decide (x=y)),[]):=by
 rw[fsB];refine aB ?_;have hn:=hx.rt.sz.ae;have q1:=fun M=>k56 x.s.now y.s.now hx.rt.small M
 have q2:=fun M=>k57 x.s.since y.s.since (by have:=hx.len; omega) M
 have q3:=fun M=>k58 x.s.eS y.s.eS (by have:=hx.eS; omega) (fun n hn=>hx.Eu n hn) M
 have q4:=fun M=>k59 x.s.dW y.s.dW (by have:=hx.dW; omega) M
 have q5:=fun M=>k60 x.holds y.holds (by have:=hx.dQ; omega) M
 have q6:=fun M=>k61 x.dX y.dX (by have:=hx.sO; omega) M
 simp only[alI,E34,cf,q1,q2,q3,q4,q5,q6,EW,seval]
 repeat' ((first|apply bA|apply bV|apply dP)<;>intro hb<;>simp only[hb,EW,E34,q2,q3,q4,q5,q6,seval])
 all_goals simp_all only[qB,↓reduceIte,reduceCtorEq,av]
def c40(t:Tree)(ht:t.ae.length<=100000):aq bZ 40 [br t] []=some (.agg (bM ⟨t,0,List.replicate t.ae.length 0,[],[],1⟩),[]):=by
 refine aB ?_;have r1:ct t.ae.length 8=True:=qM;have hrep:List.replicate t.ae.length (ag.agg [aF 0]).norm=(List.replicate t.ae.length (0:Int)).map mV:=by rw[gY]; rfl
 simp only[alO,E40,br,aM,r1,hrep,EW,seval];rfl
def c27:aq bZ 27 [] []=some (.agg (cf f0),[]):=by
 have q1:=k41;have q2:∀M,aU (aq bZ) 40 [.agg (aM wQ)] M=some (.agg (bM f0.s),M):=fun M=>cO (c40 wQ ml) M
 simp only[br,aM,bM] at q1 q2;refine aB ?_;simp only[alC,E27,q1,q2,EW,seval];rfl
inductive Chn:Nat->aa->Prop
 |new:Chn 0 f0
 |step {K:Nat} {f g:aa}:Chn K f->FB K f->Stp (fun _=>True) f.s g.s->Chn (K+200) g
def c13(xs:List jD)(hn:xs.length<=50)(ho:∀o,o∈xs->rY o):∃f,aq bZ 13 [IE xs] []=some (.agg (cf f),[])/\FB 10000 f/\Ou f/\∃K,K<=10000/\Chn K f:=by
 have key:∃r:ag×aC,(∃f,r=(.agg (cf f),[])/\FB 10000 f/\Ou f/\∃K,K<=10000/\Chn K f)/\eX (aq bZ) Y3.results 0 [] Y3.body (eH 0 [IE xs]) []=some r:=by
  have q1:=cP c27;simp only[cf] at q1;simp only[Y3,E13,q1,EVO,EW,seval]
  refine je (xs:=xs) aJ (fun m (f:aa)=>FB (200*m) f/\Ou f/\Chn (200*m) f) (fun _ i=>[(0,IE xs),(2,cA 0),(3,cA 1),(4,aF i)]) (fun f=>[.cells rU,cC (cf f)]) _ (fun f hf=>?_) (fun pre o post f e hx cJ hw h0 hm hf hi=>?_) f0 ⟨fb0,⟨fun y hy=>(by cases hy),fun n hn ho=>(by revert n; decide),fun y hy=>(by cases hy),fun d1 e1 d2 e2 x h1 h2=>(by
   have key:∀d,d∈f0.s.now.ae->d.bc=[]:=ml;rw[key d1 h1] at h2; cases h2),fun y hy=>(by cases hy),fun y hy=>(by cases hy)⟩,.new⟩
  ·simp only[cf,rU];simp only[E13,bl,EVO,EW,seval];exact⟨_,⟨f,rfl,hf.1.mono aJ,hf.2.1,_,aJ,hf.2.2⟩,rfl⟩
  ·have hp:=(aj.1 hx).1;obtain⟨g,a,q2,hg,hh⟩:=k28 f o hf.1 aJ (ho o hm);have i1:=hi g ⟨by rw[Nat.mul_add]; exact hg,hh.1 hf.2.1,by rw[Nat.mul_add]; exact .step hf.2.2 hf.1 hh.2⟩
   simp only[cf,eT,cE,rU] at q2 i1 ⊢;simp only[E13,cJ,hx,hw,h0,q2,eT,EVO,EW,seval];exact i1
 obtain⟨_,⟨f,rfl,h1⟩,h3⟩:=key;exact⟨f,aB h3,h1⟩
end
end Go.Proofs.YteoamaffclmdbaaGreatDoor
namespace Hs
section
open Go
variable {S O A:Type} (step:S->O->S×A)
structure Call(O A:Type) where
 b:Nat
 e:Option Nat
 op:O
 j4:A
def Yj(cs:List (Call O A))(done:List Nat)(i:Nat):Prop :=
 i∉done/\∀k c d,cs[k]?=some c->cs[i]?=some d->(∃e,c.e=some e/\e<d.b)->k∈done
inductive oE(cs:List (Call O A)):S->List Nat->List Nat->Prop
 |nil {s done}:(∀k c,cs[k]?=some c->c.e≠none->k∈done)->oE cs s done []
 |cons {s done i c ord}:cs[i]?=some c->Yj cs done i->(c.e≠none->(step s c.op).2=c.j4)->oE cs (step s c.op).1 (done++[i]) ord->oE cs s done (i::ord)
def Fits(cs:List (Call O A))(s:S):Prop:=∃ord,oE step cs s [] ord
theorem oE.more{cs:List (Call O A)}{c:Call O A}(hc:c.e=none):∀ {s done ord},oE step cs s done ord->oE step (cs++[c]) s done ord:=by
 have ur:∀(k:Nat)(x:Call O A),(cs++[c])[k]?=some x->x.e≠none->cs[k]?=some x:=by
  grind
 intro s done ord h;induction h with
 |nil h1=>exact .nil fun k x hx he=>h1 k x (ur k x hx he) he
 | @cons s done i d ord h1 h2 h3 _ ih =>
  have hi  := (aj.1 h1).1;have h1':(cs++[c])[i]?=some d:=by rw[aN hi]; omega
  refine .cons h1' ⟨h2.1,fun k x y hx hy he=>?_⟩ h3 ih
  obtain⟨e,e1,e2⟩:=he;rw[h1'] at hy; cases hy;exact h2.2 k x d (ur k x hx (by rw[e1]; simp)) h1 ⟨e,e1,e2⟩
theorem oE.wider{cs ds:List (Call O A)}(hl:cs.length=ds.length)(hs:∀(k:Nat)(c d:Call O A),cs[k]?=some c->ds[k]?=some d->d.op=c.op/\(c.e≠none->d.j4=c.j4)/\(d.e=none↔c.e=none))
  (hw:∀(i k:Nat)(ci di:Call O A)(ck dk:Call O A),cs[i]?=some ci->ds[i]?=some di->cs[k]?=some ck->ds[k]?=some dk->(∃e,dk.e=some e/\e<di.b)->∃e,ck.e=some e/\e<ci.b) :
  ∀ {s done ord},oE step cs s done ord->oE step ds s done ord:=by
 have bk:∀(k:Nat)(d:Call O A),ds[k]?=some d->∃c,cs[k]?=some c:=fun k d h=>by
  have:=(aj.1 h).1;exact⟨_,ai aJ⟩
 intro s done ord h;induction h with
 |nil h1 =>
  refine .nil fun k d hd he=>?_
  grind
 | @cons s done i c ord h1 h2 h3 _ ih =>
  obtain⟨d,hd⟩:∃d,ds[i]?=some d:=⟨_,ai (by have:=(aj.1 h1).1; omega)⟩
  obtain⟨s1,s2,s3⟩:=hs i c d h1 hd;rw[<-s1] at ih h3;refine .cons hd ⟨h2.1,fun k x y hx hy he=>?_⟩ (fun he=>by have hc:=fun h=>he (s3.2 h); rw[s2 hc]; exact h3 hc) ih
  rw[hd] at hy; cases hy;obtain⟨ck,hck⟩:=bk k x hx;exact h2.2 k _ c hck h1 (hw i k c d ck x h1 hd hck hx he)
end
section
open Go
variable {S O A:Type} (step:S->O->S×A)
inductive vn(cs:List (Call O A)):S->List Nat->List Nat->S->Prop
 |nil {s done}:vn cs s done [] s
 |cons {s s' done i c ord}:cs[i]?=some c->Yj cs done i->(step s c.op).2=c.j4->vn cs (step s c.op).1 (done++[i]) ord s'->vn cs s done (i::ord) s'
variable {step}
def vn.snoc{cs:List (Call O A)}:∀ {s done ord s'},vn step cs s done ord s'->∀ {i:Nat} {c:Call O A},cs[i]?=some c->Yj cs (done++ord) i->(step s' c.op).2=c.j4->vn step cs s done (ord++[i]) (step s' c.op).1:=by
 intro s done ord s' h;induction h with
 |nil=>intro i c h1 h2 h3; rw[dg] at h2; exact .cons h1 h2 h3 .nil
 |cons a1 a2 a3 _ ih =>
  intro i c h1 h2 h3;exact .cons a1 a2 a3 (ih h1 (by rwa[cd]) h3)
def vn.to{cs ds:List (Call O A)}:∀ {s done ord s'},vn step cs s done ord s' ->
  (∀i,i∈ord->∀c,cs[i]?=some c->∃d,ds[i]?=some d/\d.op=c.op/\d.j4=c.j4/\∀(k:Nat)(dk:Call O A),ds[k]?=some dk->(∃e,dk.e=some e/\e<d.b)->∃ck,cs[k]?=some ck/\∃e,ck.e=some e/\e<c.b) ->
  vn step ds s done ord s':=by
 intro s done ord s' h;induction h with
 |nil=>exact fun _ => .nil
 | @cons s s' done i c ord a1 a2 a3 _ ih =>
  intro hx;obtain⟨d,d1,d2,d3,d4⟩:=hx i bD c a1;have ih:=ih fun j hj=>hx j (bt _ hj)
  rw[<-d2] at ih a3;refine .cons d1 ⟨a2.1,fun k x y hkx hky he=>?_⟩ (by rw[d3]; omega) ih
  rw[d1] at hky; cases hky;obtain⟨ck,c1,c2⟩:=d4 k x hkx he;exact a2.2 k _ c c1 a1 c2
def vn.runs{cs:List (Call O A)}:∀ {s done ord s'},vn step cs s done ord s'->(∀k c,cs[k]?=some c->c.e≠none->k∈done++ord)->oE step cs s done ord:=by
 intro s done ord s' h;induction h with
 |nil=>exact fun hx => .nil fun k c hk he=>jK
 |cons a1 a2 a3 _ ih=>exact fun hx => .cons a1 a2 (fun _=>a3) (ih fun k c hk he=>jK)
structure yR(step:S->O->S×A)(s0:S)(cs:List (Call O A))(ord:List Nat)(s:S)(n:Nat):Prop where
 chain:vn step cs s0 [] ord s
 mr:cs.Pairwise fun a b=>a.b<b.b
 bn:∀c,c∈cs->c.b<n
 en:∀c,c∈cs->∀e,c.e=some e->e<n
 dn:∀(k:Nat)(c:Call O A),cs[k]?=some c->c.e≠none->k∈ord
 lt:∀k,k∈ord->k<cs.length
def yR.new(s0:S):yR step s0 [] [] s0 0:=⟨.nil,.nil,dx,dx,dx,dx⟩
def yR.fits{s0 s:S}{cs:List (Call O A)}{ord:List Nat}{n:Nat}(h:yR step s0 cs ord s n):Fits step cs s0:=⟨ord,h.chain.runs fun k c hk he=>by simpa using h.dn k c hk he⟩
theorem yR.begin{s0 s:S}{cs:List (Call O A)}{ord:List Nat}{n:Nat}(h:yR step s0 cs ord s n)(o:O)(a:A):yR step s0 (cs++[⟨n,none,o,a⟩]) ord s (n+1):=by
 have ur:∀(k:Nat)(x:Call O A),(cs++[⟨n,none,o,a⟩])[k]?=some x->cs[k]?=some x\/x.e=none:=fun k x hx=>by
  grind
 refine⟨h.chain.to fun i hi c hc=>⟨c,?_,rfl,rfl,fun k dk hk he=>?_⟩,?_,?_,?_,?_,?_⟩
 ·rw[aN (h.lt i hi)]; omega
 ·grind
 ·refine ft.2 ⟨h.mr,List.pairwise_singleton _ _,fun x hx y hy=>?_⟩
  rw[bT.1 hy]; exact h.bn x hx
 ·intro c hc;rcases bq.1 hc with hc|hc
  ·have:=h.bn c hc; omega
  grind
 ·intro c hc e he;rcases bq.1 hc with hc|hc
  ·have:=h.en c hc e he; omega
  grind
 ·intro k c hk he;rcases ur k c hk with h1|h1
  ·exact h.dn k c h1 he
  grind
 ·intro k hk; have:=h.lt k hk; grind
theorem yR.afd{s0 s:S}{cs:List (Call O A)}{ord:List Nat}{n:Nat}(h:yR step s0 cs ord s n){i:Nat}{c:Call O A}(hi:cs[i]?=some c)(hno:i∉ord)(he:c.e=none) :
  yR step s0 (cs.set i { c with j4:=(step s c.op).2 }) (ord++[i]) (step s c.op).1 n:=by
 have hil:i<cs.length:=(aj.1 hi).1
 have hat:∀(k:Nat)(x:Call O A),(cs.set i { c with j4:=(step s c.op).2 })[k]?=some x->∃y,cs[k]?=some y/\x.b=y.b/\x.e=y.e:=fun k x hx=>by
  rw[gQ] at hx
  grind
 have hmem:∀x,x∈cs.set i { c with j4:=(step s c.op).2 }->∃y,y∈cs/\x.b=y.b/\x.e=y.e:=fun x hx=>by
  grind
 have hd:(cs.set i { c with j4:=(step s c.op).2 })[i]?=some { c with j4:=(step s c.op).2 }:=by rw[eE hil]
 have h1:vn step (cs.set i { c with j4:=(step s c.op).2 }) s0 [] ord s:=h.chain.to fun j hj x hx=>by
  have hji:i≠j:=fun e=>hno (e▸hj)
  refine⟨x,by rw[fa hji]; exact hx,rfl,rfl,fun k dk hk he=>?_⟩
  grind
 have h2:=h1.snoc hd ⟨jK,fun k x y hx _ he=>?_⟩ rfl
 ·refine⟨h2,?_,?_,?_,?_,?_⟩
  ·have ha:=h.mr;rw[cm] at ha ⊢
   grind
  ·intro x hx;obtain⟨y,y1,y2,_⟩:=hmem x hx;rw[y2]; exact h.bn y y1
  ·intro x hx e hxe;obtain⟨y,y1,_,y2⟩:=hmem x hx;exact h.en y y1 e (by rw[<-y2]; exact hxe)
  ·intro k x hx hxe;obtain⟨y,y1,_,y2⟩:=hat k x hx;exact eK _ (h.dn k y y1 (by rw[<-y2]; exact hxe))
  ·intro k hk;rw[dh];rcases bq.1 hk with hk|hk
   ·exact h.lt k hk
   grind
 ·obtain⟨e,e1,_⟩:=he;obtain⟨z,z1,_,z2⟩:=hat k x hx;simpa using h.dn k z z1 (by rw[<-z2,e1]; simp)
theorem yR.ends{s0 s:S}{cs:List (Call O A)}{ord:List Nat}{n:Nat}(h:yR step s0 cs ord s n){i:Nat}{c:Call O A}(hi:cs[i]?=some c)(hd:i∈ord) :
  yR step s0 (cs.set i { c with e:=some n }) ord s (n+1):=by
 have hil:i<cs.length:=(aj.1 hi).1
 have hat:∀(k:Nat)(x:Call O A),(cs.set i { c with e:=some n })[k]?=some x->∃y,cs[k]?=some y/\x.b=y.b/\x.op=y.op/\x.j4=y.j4/\(x.e=y.e\/(k=i/\x.e=some n)):=fun k x hx=>by
  rw[gQ] at hx
  grind
 have hmem:∀x,x∈cs.set i { c with e:=some n }->∃y,y∈cs/\x.b=y.b/\(x.e=y.e\/x.e=some n):=fun x hx=>by
  grind
 refine⟨h.chain.to fun j hj x hx=>?_,?_,?_,?_,?_,?_⟩
 ·obtain⟨d,hd1⟩:∃d,(cs.set i { c with e:=some n })[j]?=some d:=⟨_,ai (by rw[dh]; exact h.lt j hj)⟩
  obtain⟨y,y1,y2,y3,y4,_⟩:=hat j d hd1;rw[hx] at y1; cases y1;refine⟨d,hd1,y3,y4,fun k dk hk he=>?_⟩
  obtain⟨z,z1,_,_,_,z5⟩:=hat k dk hk;obtain⟨e,e1,e2⟩:=he;rcases z5 with z5|⟨_,z5⟩
  ·grind
  ·rw[z5] at e1; injection e1 with e1
   have:=h.bn x (aE hx);omega
 ·have ha:=h.mr;rw[cm] at ha ⊢
  grind
 ·intro x hx;obtain⟨y,y1,y2,_⟩:=hmem x hx;have:=h.bn y y1;omega
 ·intro x hx e hxe;obtain⟨y,y1,_,y3⟩:=hmem x hx;rcases y3 with y3|y3
  ·have:=h.en y y1 e (by rw[<-y3]; exact hxe); omega
  grind
 ·intro k x hx hxe;obtain⟨y,y1,_,_,_,y3⟩:=hat k x hx;rcases y3 with y3|⟨rfl,_⟩
  ·exact h.dn k y y1 (by rw[<-y3]; exact hxe)
  ·exact hd
 ·intro k hk; rw[dh]; exact h.lt k hk
end
end Hs
namespace Hs
open Go
variable {S O A:Type} {step:S->O->S×A}
def Yj.congr{cs:List (Call O A)}{d1 d2:List Nat}(h:∀k,k∈d1↔k∈d2){i:Nat}(g:Yj cs d1 i):Yj cs d2 i:=⟨fun hi=>g.1 ((h i).2 hi),fun k c d hc hd he=>(h k).1 (g.2 k c d hc hd he)⟩
def oE.congr{cs:List (Call O A)}:∀ {s d1 ord},oE step cs s d1 ord->∀ {d2:List Nat},(∀k,k∈d1↔k∈d2)->oE step cs s d2 ord:=by
 intro s d1 ord g;induction g with
 |nil h1=>intro d2 h; exact .nil fun k c hk he=>(h k).1 (h1 k c hk he)
 |cons h1 h2 h3 _ ih=>intro d2 h; exact .cons h1 (h2.congr h) h3 (ih fun k=>jK)
section
variable [DecidableEq S] [DecidableEq A]
def lN(cs:List (Call O A))(k i:Nat):Bool:=match cs[k]?,cs[i]? with
 |some c,some d=>match c.e with
  |some e=>decide (e<d.b)
  |none=>false
 |_,_=>false
def Ed(cs:List (Call O A))(done:List Nat)(i:Nat):Bool := !done.contains i&&(List.range cs.length).all fun k => !lN cs k i||done.contains k
def KE(step:S->O->S×A)(s:S)(c:Call O A):Bool:=c.e.isNone||decide ((step s c.op).2=c.j4)
def BQ(cs:List (Call O A))(done:List Nat):Bool:=(List.range cs.length).all fun k=>match cs[k]? with
 |some c=>c.e.isNone||done.contains k
 |none=>true
theorem JA{cs:List (Call O A)}{done:List Nat}{i:Nat}(hi:i<cs.length):Ed cs done i=true↔Yj cs done i:=by
 unfold Ed Yj;simp only[bw,iq,bN,gj,df];constructor
 ·grind [List.contains_iff_mem,List.getElem?_eq_some_iff,lN]
 ·rintro⟨h1,h2⟩;refine⟨jK,fun k hk=>?_⟩
  cases ha:lN cs k i
  ·exact .inl rfl
  grind [List.contains_iff_mem,List.getElem?_eq_getElem,lN]
theorem EU{cs:List (Call O A)}{done:List Nat}:BQ cs done=true↔∀(k:Nat)(c:Call O A),cs[k]?=some c->c.e≠none->k∈done:=by
 unfold BQ;simp;constructor
 ·intro h k c hk he;have:=h k (aj.1 hk).1;simp_all
 grind
abbrev uH(S:Type):=List (Nat×S)
def I9(step:S->O->S×A)(cs:List (Call O A))(T:S->List Nat->uH S->Option (List Nat)×uH S)(s:S)(done:List Nat):List Nat->uH S->Option (List Nat)×uH S
 | [],lost=>(none,lost)
 |i::r,lost=>match cs[i]? with
  |none=>I9 step cs T s done r lost
  |some c=>if Ed cs done i&&KE step s c then
    match T (step s c.op).1 (done++[i]) lost with
    |(some o,l)=>(some (i::o),l)
    |(none,l)=>I9 step cs T s done r l
   else I9 step cs T s done r lost
def wS(step:S->O->S×A)(key:List Nat->Nat)(cs:List (Call O A)):Nat->S->List Nat->uH S->Option (List Nat)×uH S
 |0,_,_,lost=>(none,lost)
 |f+1,s,done,lost =>
  if BQ cs done then (some [],lost)
  else if lost.any (fun p=>p.1==key done&&decide (p.2=s))=true then (none,lost)
  else match I9 step cs (wS step key cs f) s done (List.range cs.length) lost with
   |(some o,l)=>(some o,l)
   |(none,l)=>(none,l++[(key done,s)])
def C9(step:S->O->S×A)(key:List Nat->Nat)(cs:List (Call O A))(lost:uH S):Prop:=∀p,p∈lost->∀done,key done=p.1->¬ ∃ord,oE step cs p.2 done ord
def aiT(step:S->O->S×A)(key:List Nat->Nat)(cs:List (Call O A))(s:S)(done:List Nat)(r:Option (List Nat)×uH S):Prop :=
 C9 step key cs r.2/\match r.1 with
  |some ord=>oE step cs s done ord
  |none=>¬ ∃ord,oE step cs s done ord
structure Good(cs:List (Call O A))(done:List Nat):Prop where
 nodup:done.Nodup
 lt:∀k,k∈done->k<cs.length
theorem Good.len{cs:List (Call O A)}{done:List Nat}(h:Good cs done):done.length<=cs.length:=by
 have key:∀(n:Nat)(l:List _),l.Nodup->(∀k,k∈l->k<n)->l.length<=n:=by
  intro n;induction n with
  |zero =>
   intro l _ hl;cases l with
   |nil=>simp
   |cons a r=>exact absurd (hl a bD) (jJ _)
  |succ n ih =>
   intro l hd hl
   have:=ih _ (hd.erase n) fun k hk=>by
    grind
   rw[List.length_erase] at this;split at this<;>omega
 exact key _ _ h.nodup h.lt
def H9{s:S}{c:Call O A}:KE step s c=true↔(c.e≠none->(step s c.op).2=c.j4):=by
 unfold KE;cases hc:c.e<;>simp
theorem CV{key:List Nat->Nat}{cs:List (Call O A)}{T:S->List Nat->uH S->Option (List Nat)×uH S}{s:S}{done:List Nat}
  (hT:∀i c lost,cs[i]?=some c->i∉done->C9 step key cs lost->aiT step key cs (step s c.op).1 (done++[i]) (T (step s c.op).1 (done++[i]) lost)) :
  ∀(is:List Nat)(lost:uH S),C9 step key cs lost->C9 step key cs (I9 step cs T s done is lost).2/\match (I9 step cs T s done is lost).1 with
   |some ord=>∃i r,ord=i::r/\i∈is/\oE step cs s done ord
   |none=>∀i c r,i∈is->cs[i]?=some c->Yj cs done i->(c.e≠none->(step s c.op).2=c.j4)->¬oE step cs (step s c.op).1 (done++[i]) r
 | [],lost,h=>⟨h,by simp[I9]⟩
 |i::is,lost,h=>by
  rw[I9];cases hc:cs[i]? with
  |none =>
   obtain⟨g1,g2⟩:=CV hT is lost h
   grind
  |some c =>
   have hil:i<cs.length:=(aj.1 hc).1;simp only
   by_cases hm:(Ed cs done i&&KE step s c)=true
   ·rw[aZ hm];simp only[bw] at hm;have hm1:=(JA hil).1 hm.1;have hm2:=H9.1 hm.2;obtain⟨t1,t2⟩:=hT i c lost hc hm1.1 h;generalize T (step s c.op).1 (done++[i]) lost=t at t1 t2;obtain⟨o,l⟩:=t;cases o with
    |some o=>exact⟨t1,i,o,rfl,bD,.cons hc hm1 hm2 t2⟩
    |none =>
     simp only at t1 t2 ⊢;obtain⟨g1,g2⟩:=CV hT is l t1;refine⟨g1,?_⟩;split
     ·grind
     grind
   ·rw[aR hm];obtain⟨g1,g2⟩:=CV hT is lost h;refine⟨g1,?_⟩;split
    ·grind
    ·rename_i ho;rw[ho] at g2;intro j d r hj hdj;rcases bJ.1 hj with rfl|hj
     ·rw[hc] at hdj; cases hdj;exact fun h1 h2 _=>hm (by rw[(JA hil).2 h1,H9.2 h2]; rfl)
     ·exact g2 j d r hj hdj
theorem Kf{key:List Nat->Nat}(hkey:∀a b,key a=key b->∀k,k∈a↔k∈b){cs:List (Call O A)}:∀(f:Nat)(s:S)(done:List Nat)(lost:uH S),Good cs done->cs.length<done.length+f->C9 step key cs lost->aiT step key cs s done (wS step key cs f s done lost)
 |0,s,done,lost,hg,hf,_=>by have:=hg.len; omega
 |f+1,s,done,lost,hg,hf,hl=>by
  rw[wS];split
  ·rename_i hw;exact⟨hl,.nil (EU.1 hw)⟩
  rename_i hw;split
  ·rename_i ha;obtain⟨p,p1,p2⟩:=iL.1 ha;simp only[bw,eu,bh] at p2;refine⟨hl,?_⟩;have:=hl p p1 done p2.1.symm;rw[p2.2] at this;omega
  have hgo:=CV (step:=step) (key:=key) (cs:=cs) (T:=wS step key cs f) (s:=s) (done:=done) (fun i c lost' hc hi hl'=>by
   refine Kf hkey f _ _ lost' ⟨?_,fun k hk=>?_⟩ gm hl'
   ·refine lg.2 ⟨hg.nodup,dx,fun a ha b hb=>?_⟩
    rw[bT.1 hb]
    grind
   ·rcases bq.1 hk with hk|hk
    ·exact hg.lt k hk
    grind) (List.range cs.length) lost hl
  obtain⟨g1,g2⟩:=hgo;generalize I9 step cs (wS step key cs f) s done (List.range cs.length) lost=r at g1 g2;obtain⟨o,l⟩:=r;cases o with
  |some o =>
   obtain⟨i,r,e1,e2,e3⟩:=g2;exact⟨g1,e3⟩
  |none =>
   simp only at g1 g2 ⊢
   have hno:¬ ∃ord,oE step cs s done ord:=by
    rintro⟨ord,ho⟩;cases ho<;>grind [EU]
   refine⟨fun p hp d hd=>?_,hno⟩
   rcases bq.1 hp with hp|hp
   ·exact g1 p hp d hd
   ·rw[bT.1 hp] at hd ⊢;rintro⟨ord,ho⟩;exact hno ⟨ord,ho.congr (hkey _ _ hd)⟩
end
end Hs
namespace Hs
open Go
variable {S O A:Type} {step:S->O->S×A}
theorem oE.new{cs:List (Call O A)}:∀ {s done ord},oE step cs s done ord->∀i,i∈ord->i∉done:=by
 intro s done ord h;induction h with
 |nil=>simp
 |cons h1 h2 _ _ ih =>
  intro j hj;rcases bJ.1 hj with rfl|hj
  ·exact h2.1
  grind
def oE.nodup{cs:List (Call O A)}:∀ {s done ord},oE step cs s done ord->ord.Nodup:=by
 intro s done ord h;induction h with
 |nil=>simp
 |cons _ _ _ h4 ih=>exact oM.2 ⟨fun hi=>h4.new _ hi dx,ih⟩
theorem oE.lt{cs:List (Call O A)}:∀ {s done ord},oE step cs s done ord->∀i,i∈ord->i<cs.length:=by
 intro s done ord h;induction h<;>grind
theorem oE.back{cs:List (Call O A)}:∀ {s done ord},oE step cs s done ord->∀pre i post,ord=pre++i::post->∀k,k∈pre->∀ci ck,cs[i]?=some ci->cs[k]?=some ck->¬ ∃e,ci.e=some e/\e<ck.b:=by
 intro s done ord h;induction h with
 |nil=>simp
 | @cons s done j c ord h1 h2 h3 h4 ih =>
  intro pre i post e k hk ci ck hi hck he;cases pre with
  |nil=>cases hk
  |cons p pre =>
   simp only[aG] at e;obtain⟨rfl,rfl⟩:=e;rcases bJ.1 hk with rfl|hk
   ·have:=h2.2 i ci ck hi hck he;exact h4.new i dx (eK _ this)
   grind
theorem oE.all{cs:List (Call O A)}:∀ {s done ord},oE step cs s done ord->∀(k:Nat)(c:Call O A),cs[k]?=some c->c.e≠none->k∈done\/k∈ord:=by
 intro s done ord h;induction h<;>grind
end Hs
namespace Hs
open Go
variable {S O A:Type} {step:S->O->S×A}
structure Ev(O A:Type) where
 begin:Bool
 cl:Nat
 op:O
 j4:A
structure Cl(O A:Type) where
 n:Nat
 cs:List (Call O A)
 last:Nat->Nat
def hU(t:Cl O A)(x:Ev O A):Cl O A :=
 if x.begin then ⟨t.n+1,t.cs++[⟨t.n,none,x.op,x.j4⟩],fun c=>if c=x.cl then t.cs.length else t.last c⟩
 else ⟨t.n+1,t.cs.modify (t.last x.cl) fun c=>{ c with e:=some t.n,j4:=x.j4 },t.last⟩
def fP(l:List (Ev O A)):Cl O A:=l.foldl hU ⟨0,[],fun _=>0⟩
def kO(l:List (Ev O A))(x:Ev O A):fP (l++[x])=hU (fP l) x:=by simp[fP]
structure Rn(S O A:Type) where
 out:List (Ev O A)
 s:S
 st:Nat->Nat
 op:Nat->O
 j4:Nat->A
structure Of(cs ds:List (Call O A)):Prop where
 len:ds.length=cs.length
 at':∀(k:Nat)(c d:Call O A),cs[k]?=some c->ds[k]?=some d->d.b=c.b/\d.e=c.e/\d.op=c.op/\(c.e≠none->d.j4=c.j4)
structure tW(step:S->O->S×A)(s0:S)(r:Rn S O A):Prop where
 ex:∃ds ord,yR step s0 ds ord r.s (fP r.out).n/\Of (fP r.out).cs ds /\
  (∀c,r.st c=1->∃d,ds[(fP r.out).last c]?=some d/\d.e=none/\(fP r.out).last c∉ord/\d.op=r.op c) /\
  (∀c,r.st c=2->∃d,ds[(fP r.out).last c]?=some d/\d.e=none/\(fP r.out).last c∈ord/\d.j4=r.j4 c)
 dis:∀c c',c≠c'->(r.st c=1\/r.st c=2)->(r.st c'=1\/r.st c'=2)->(fP r.out).last c≠(fP r.out).last c'
def tW.new(s0:S)(op:Nat->O)(j4:Nat->A):tW step s0 ⟨[],s0,fun _=>0,op,j4⟩ :=
 ⟨⟨[],[],yR.new _,⟨rfl,dx⟩,dx,dx⟩,dx⟩
theorem tW.fits{s0:S}{r:Rn S O A}(h:tW step s0 r):Fits step (fP r.out).cs s0:=by
 obtain⟨ds,ord,h1,h2,_⟩:=h.ex;obtain⟨o,ho⟩:=h1.fits;refine⟨o,oE.wider _ h2.len (fun k d c hd hc=>?_) (fun i k ci di ck dk hci hdi hck hdk he=>?_) ho⟩
 ·obtain⟨_,g2,g3,g4⟩:=h2.at' k c d hc hd
  grind
 ·obtain⟨g1,_⟩:=h2.at' i _ ci hdi hci;obtain⟨_,k2,_⟩:=h2.at' k _ ck hdk hck;rw[g1,k2]; omega
theorem tW.begin{s0:S}{r:Rn S O A}(h:tW step s0 r){c:Nat}(_hc:r.st c=0)(o:O)(a:A):tW step s0 ⟨r.out++[⟨true,c,o,a⟩],r.s,fun x=>if x=c then 1 else r.st x,fun x=>if x=c then o else r.op x,r.j4⟩:=by
 obtain⟨ds,ord,h1,h2,h3,h4⟩:=h.ex;have dQ:=h2.len;refine⟨⟨ds++[⟨(fP r.out).n,none,o,a⟩],ord,?_,⟨?_,fun k x y hx hy=>?_⟩,fun x hx=>?_,fun x hx=>?_⟩,fun x y hxy hx hy=>?_⟩
 ·simp only[kO,hU,aI]; exact h1.begin o a
 ·simp_all [kO,hU]
 ·simp only[kO,hU,aI] at hx;rcases bC k (fP r.out).cs.length with hk|hk
  ·rw[aN hk] at hx;rw[aN aJ] at hy;exact h2.at' k x y hx hy
  grind
 ·simp only[kO,hU,aI] at hx ⊢
  by_cases hxc:x=c
  ·rw[aZ hxc,aZ hxc];refine⟨⟨(fP r.out).n,none,o,a⟩,by rw[<-dQ]; simp,rfl,fun hm=>?_,rfl⟩
   have:=h1.lt _ hm; omega
  grind
 ·simp only[kO,hU,aI] at hx ⊢
  grind
 ·simp only[kO,hU,aI] at hx hy ⊢
  have lt:∀z,z≠c->((if z=c then 1 else r.st z)=1\/(if z=c then 1 else r.st z)=2)->(fP r.out).last z<(fP r.out).cs.length:=fun z hz hzz=>by
   rw[aR hz] at hzz
   grind
  by_cases hxc:x=c
  ·have hyc:y≠c:=fun e=>hxy (hxc.trans e.symm)
   rw[aZ hxc,aR hyc];have:=lt y hyc hy; omega
  ·by_cases hyc:y=c
   ·rw[aR hxc,aZ hyc];have:=lt x hxc hx; omega
   ·rw[aR hxc] at hx;rw[aR hyc] at hy;rw[aR hxc,aR hyc];exact h.dis x y hxy hx hy
theorem tW.afd{s0:S}{r:Rn S O A}(h:tW step s0 r){c:Nat}(hc:r.st c=1):tW step s0 ⟨r.out,(step r.s (r.op c)).1,fun x=>if x=c then 2 else r.st x,r.op,fun x=>if x=c then (step r.s (r.op c)).2 else r.j4 x⟩:=by
 obtain⟨ds,ord,h1,h2,h3,h4⟩:=h.ex;obtain⟨d,d1,d2,d3,d4⟩:=h3 c hc;have g:=h1.afd d1 d3 d2;rw[d4] at g;have hil:=(aj.1 d1).1;have hne  := fun x hx hs=>h.dis c x (eY hx) (.inl hc) hs
 refine⟨⟨_,_,g,⟨by rw[dh]; exact h2.len,fun k x y hx hy=>?_⟩,fun x hx=>?_,fun x hx=>?_⟩,fun x y hxy hx hy=>h.dis x y hxy ?_ ?_⟩
 ·rw[gQ] at hy;split at hy
  ·rename_i hk;subst hk;cases hy;obtain⟨e1,e2,e3,e4⟩:=h2.at' _ x d hx d1
   grind
  ·exact h2.at' k x y hx hy
 ·grind
 ·grind
 ·grind
 grind
theorem tW.ends{s0:S}{r:Rn S O A}(h:tW step s0 r){c:Nat}(hc:r.st c=2)(o:O):tW step s0 ⟨r.out++[⟨false,c,o,r.j4 c⟩],r.s,fun x=>if x=c then 0 else r.st x,r.op,r.j4⟩:=by
 obtain⟨ds,ord,h1,h2,h3,h4⟩:=h.ex;obtain⟨d,d1,d2,d3,d4⟩:=h4 c hc;have g:=h1.ends d1 d3;have hil:=(aj.1 d1).1;have hne  := fun x hx hs=>h.dis c x (eY hx) (.inr hc) hs
 refine⟨⟨ds.set ((fP r.out).last c) { d with e:=some (fP r.out).n },ord,?_,⟨?_,fun k x y hx hy=>?_⟩,fun x hx=>?_,fun x hx=>?_⟩,fun x y hxy hx hy=>?_⟩
 ·simp_all [kO,hU,af]
 ·simp only[kO,hU,af,aD]; rw[dh,List.length_modify]; exact h2.len
 ·simp only[kO,hU,af,aD] at hx;rw[gw] at hx;rw[gQ] at hy;obtain⟨z,hz,rfl⟩:=aV.1 hx;split at hy
  ·rename_i hk;subst hk;cases hy;obtain⟨e1,e2,e3,e4⟩:=h2.at' _ z d hz d1;rw[aZ rfl]
   grind
  ·rename_i hk;rw[aR hk];exact h2.at' k z y hz hy
 ·simp only[kO,hU,af,aD] at hx ⊢
  grind
 ·simp only[kO,hU,af,aD] at hx ⊢
  grind
 ·simp only[kO,hU,af,aD] at hx hy ⊢
  by_cases hxc:x=c
  ·rw[aZ hxc] at hx; omega
  by_cases hyc:y=c
  ·rw[aZ hyc] at hy; omega
  rw[aR hxc] at hx;rw[aR hyc] at hy;exact h.dis x y hxy hx hy
end Hs
namespace Go.Proofs.YteoamaffclmdbaaGreatDoor
open Go Go.Abs
structure mi where
 kind:Int
 bE:Int
 op:jD
 j4:tU
 deriving DecidableEq,Inhabited
structure wT where
 bE:UInt8
 op:jD
def mW(e:mi):List ag:=[.int .i64 e.kind,.int .i64 e.bE,.int .i64 e.op.kind,.int .i64 e.op.bE,.str e.op.dL,.str e.op.vi,.int .i64 e.op.n,.int .i64 e.op.m,.int .i64 e.op.handle,cX e.op.data,.int .i64 e.j4.err,.int .i64 e.j4.ar,.int .i64 e.j4.kind,.int .i64 e.j4.n,.int .i64 e.j4.m,dj e.j4.names,cX e.j4.data]
def wh(e:mi):ag := .agg (mW e)
abbrev qJ(l:List mi):ag := .slice .sh (l.map wh)
def uQ(t:wT):List ag:=[pZ t.bE,.int .i64 t.op.kind,.int .i64 t.op.bE,.str t.op.dL,.str t.op.vi,.int .i64 t.op.n,.int .i64 t.op.m,.int .i64 t.op.handle,cX t.op.data]
def RM(t:wT):ag := .agg (uQ t)
abbrev B4(l:List wT):ag := .slice .sh (l.map RM)
def KU(n:mi):(wh n).cells=mW n:=rfl
def PE(n:mi):(mW n).length=17:=rfl
def XM(l:List mi):wid (l.map wh) 17=True:=pr wh _ (fun _=>rfl) l
def aul(n:mi):List.take 17 (mW n)=mW n:=rfl
def auj(n:mi):List.map ag.shut (mW n)=mW n:=rfl
def KV(n:wT):(RM n).cells=uQ n:=rfl
def PF(n:wT):(uQ n).length=9:=rfl
def XO(l:List wT):wid (l.map RM) 9=True:=pr RM _ (fun _=>rfl) l
def aum(n:wT):List.take 9 (uQ n)=uQ n:=rfl
def auk(n:wT):List.map ag.shut (uQ n)=uQ n:=rfl
def yz:=bR @KU (bR @PE (bR @XM (bR @aul (bR @auj (bR @KV (bR @PF (bR @XO (bR @aum (bR @auk (bR @FA (bR @Jt (bR @N9 (bR @tkO (@shO))))))))))))))
def abV(x y:tU):decide (x=y)=(x.err==y.err&&(x.ar==y.ar&&(x.kind==y.kind&&(x.n==y.n&&(x.m==y.m&&(decide (x.names=y.names)&&decide (x.data=y.data))))))):=by
 cases x; cases y;rw[cz];simp only[tU.mk.injEq,bh,bw,eu]
section
attribute [local irreducible] eX fJ lu gK eb kr aq aU cq bI
def c62(a b:List Bytes)(ha:a.length<=100000):aq bZ 62 [dj a,dj b] []=some (.bool (decide (a=b)),[]) :=
 DM (sz:=1) (e:=ag.str) (ld := .rH) (ne := .bin .neq) fu rfl ha (fun _=>rfl) (fun _=>rfl) (fun _=>rfl) (fun _ _ _ _ h=>by simp only[ei,fX.ev,h,ag.cells,nth,bO]) (fun _ _ _ _ x y h h'=>by
  have:(x != y) = !decide (x=y):=by rw[cz]; simp
  simp only[ei,fX.ev,h,h',p7,this,bO])
def c63(a b:Bytes)(ha:a.length<=100000):aq bZ 63 [cX a,cX b] []=some (.bool (decide (a=b)),[]) :=
 DM (sz:=1) (e:=pZ) (ld := .rH) (ne := .bin .neq) fu rfl ha (fun _=>rfl) (fun _=>rfl) (fun _=>rfl) (fun _ _ _ _ h=>by simp only[ei,fX.ev,h,pZ,ag.cells,nth,bO]) (fun _ _ _ _ x y h h'=>by
  have:((x.toNat:Int) != (y.toNat:Int)) = !decide (x=y):=by rw[cz]; simp only[pb,ne_eq,iq,dC,<-kM]; omega
  simp only[ei,fX.ev,h,h',pZ,p7,this,ne_eq,ni,aD,bO])
def c35(x y:tU)(hn:x.names.length<=100000)(hd:x.data.length<=100000):aq bZ 35 [Lg x,Lg y] []=some (.bool (decide (x=y)),[]):=by
 have q1:=fun M=>cO (c62 x.names y.names hn) M
 have q2:=fun M=>cO (c63 x.data y.data hd) M
 rw[abV];refine aB ?_;simp only[alJ,E35,Lg,cE,EW,seval]
 repeat' ((first|apply bA|apply bV|apply dP)<;>intro hb<;>simp only[hb,EW,E35,q1,q2,seval])
 all_goals simp_all only[qB,↓reduceIte,reduceCtorEq,av]
def k35(x y:tU)(hn:x.names.length<=100000)(hd:x.data.length<=100000)(M:aC):aU (aq bZ) 35 [.agg (cE x),.agg (cE y)] M=some (.bool (decide (x=y)),M):=cO (c35 x y hn hd) M
def ud(c:Int):List mi->Nat->Int
 | [],_ => -1
 |x::r,i=>if x.bE==c then (i:Int) else ud c r (i+1)
def zU(l:List jD)(m:List wT):Bool:=DS l||(decide (24<(m.length:Int))||m.any fun t=>xu t.op)
def c10(l:List jD)(m:List wT):aq bZ 10 [IE l,B4 m] []=some (.bool (zU l m),[]):=by
 have q1:=fun M=>k25 l M
 unfold zU;refine aB ?_
 cases h1:DS l<;>cases h2:decide (24<(m.length:Int))<;>rw[h1] at q1 <;>
  simp only[alj,E10,q1,h1,h2,dM,cV,yz,EW,seval]
 have hn:m.length<=24:=by simp at h2; omega
 refine A4 (xs:=m) aJ (fun l (_:Unit)=>l.any fun t=>xu t.op) (fun _ i=>[(1,B4 m),(5,aF i)]) (fun _=>[]) (fun b=>some (ag.bool b,([]:aC))) (fun _=>?_) (fun pre x post _ h hx cJ hw h0 hm hi=>?_) ()
 ·simp only[E10,bl,o4,yz,EW,seval]
 ·have q:=fun M=>k26 x.op M
  have i1:=hi ();simp only[eT] at q;cases hl:xu x.op<;>rw[hl] at q<;>simp only[E10,cJ,hx,hw,h0,uQ,eT,q,hl,jR,dM,cV,yz,EW,seval]
  exact i1
def c37{l:List mi}(hn:l.length<=1000){at':Nat}{x:mi}(hx:l[at']?=some x):aq bZ 37 [qJ l,aF at'] []=some (aF (ud x.bE (l.drop (at'+1)) (at'+1)),[]):=by
 have cJ:=(aj.1 hx).1;refine aB ?_;have w1:IntKind.i64.wrap ((at':Int)+1)=((at'+1+Int.toNat 0:Nat):Int):=by rw[gA aJ aJ]; rfl
 simp only[alK,E37,w1,yz,EW,seval];refine nr (xs:=l.drop (at'+1)) gm (fun m s=>s=at'+1+m) (fun r (s:Nat)=>ud x.bE r s) (fun _ i=>[(0,qJ l),(1,aF at'),(5,aF ((at'+1+i.toNat:Nat):Int))]) (fun _=>[]) (fun b=>some (aF b,([]:aC))) (fun s hs=>?_) (fun pre y post s h hy _ hw _ hm hs hi=>?_) (at'+1) rfl
 ·have e1:(((at'+1+(l.length-(at'+1)):Nat):Int)<(l.length:Int))=False:=XZ;simp only[E37,fS,dN,e1,ud,yz,EW,seval]
 ·have dQ:=congrArg List.length h;simp only[fS,aA,aw] at dQ;rw[cF] at hy;have e1:(((at'+1+pre.length:Nat):Int)<(l.length:Int))=True:=su;have e2:IntKind.i64.wrap (((at'+1+pre.length:Nat):Int)+1)=((at'+1+(pre.length+1):Nat):Int):=by rw[gA aJ aJ]; omega
  have hi1:=hi (s+1) aJ;have e5:((pre.length:Int)+1).toNat=pre.length+1:=aJ;rw[e5] at hi1;rw[ud];subst hs;cases hc:y.bE==x.bE
  ·simp only[E37,dN,e1,e2,hy,hx,mW,hc,af,aD,yz,EW,seval];exact hi1
  ·simp only[E37,dN,e1,e2,hy,hx,mW,hc,aI,yz,EW,seval]
def k37{l:List mi}(hn:l.length<=1000){at':Nat}{x:mi}(hx:l[at']?=some x):=cP (c37 hn hx)
end
def wy(e:mi):Hs.Ev jD tU:=⟨e.kind==1,e.bE.toNat,e.op,e.j4⟩
abbrev Cls:=Hs.Cl jD tU
abbrev vl:=Hs.Call jD tU
def rD(c:vl):Int:=match c.e with
 |some n=>(n:Int)
 |none => -1
def qC(c:vl):List ag:=[.int .i64 c.b,.int .i64 (rD c)]
def qy(c:vl):ag := .agg (qC c)
def jX(n:vl):(qy n).cells=qC n:=rfl
def kQ(n:vl):(qC n).length=2:=rfl
def Qv(l:List vl):wid (l.map qy) 2=True:=pr qy _ (fun _=>rfl) l
def BN(n:vl):List.take 2 (qC n)=qC n:=rfl
def Xi(n:vl):List.map ag.shut (qC n)=qC n:=rfl
def bK(l:List mi):Cls:=Hs.fP (l.map wy)
def lk(l:List mi)(x:mi):bK (l++[x])=Hs.hU (bK l) (wy x):=by
 unfold bK; rw[aW]; exact Hs.kO _ _
structure aiQ(l:List mi):Prop where
 len:l.length<=1000
 hd:∀x,l[0]?=some x->x.kind=1
 cl:∀x,x∈l->0<=x.bE
def SC:∀(l:List (Hs.Ev jD tU)) (t:Cls),(l.foldl Hs.hU t).n=t.n+l.length
 | [],t=>rfl
 |x::r,t=>by
  rw[eM,SC r,aw];unfold Hs.hU;split<;>simp<;>omega
def sD(l:List mi):(bK l).n=l.length:=by
 unfold bK Hs.fP; rw[SC]; simp
def FJ:∀(l:List (Hs.Ev jD tU)) (t:Cls),(∀c,t.last c<t.cs.length)->∀c,(l.foldl Hs.hU t).last c<(l.foldl Hs.hU t).cs.length
 | [],t,h=>h
 |x::r,t,h=>by
  rw[eM];refine FJ r _ fun c=>?_
  have:=h c;unfold Hs.hU;split
  ·simp only[aA,aw,az];split<;>omega
  ·simpa using this
def Zu{l:List mi}(h:∀x,l[0]?=some x->x.kind=1)(h0:l≠[])(c:Nat):(bK l).last c<(bK l).cs.length:=by
 cases l with
 |nil=>exact absurd rfl h0
 |cons x r =>
  have hk:=h x rfl;unfold bK Hs.fP;rw[aH,eM];refine FJ _ _ (fun c=>?_) c
  unfold Hs.hU wy;simp[hk]
def Im{l:List mi}{i:Nat}{x:mi}(h:l[i]?=some x):bK (l.take (i+1))=Hs.hU (bK (l.take i)) (wy x):=by
 rw[cB,h,kG,lk]
def am8(o:Option Int):po (aF 0) false (o.map (ag.int .i64)) = aF (o.getD 0):=by cases o<;>rfl
def I5:∀(l:List (Hs.Ev jD tU)) (t:Cls),(l.foldl Hs.hU t).cs.length<=t.cs.length+l.length
 | [],t=>dx
 |x::r,t=>by
  rw[eM,aw];refine aY (I5 r _) ?_;unfold Hs.hU;split<;>simp<;>omega
def KQ(l:List mi):(bK l).cs.length<=l.length:=by
 have:=I5 (l.map wy) ⟨0,[],fun _=>0⟩
 simpa[bK,Hs.fP] using this
def akO(B:Nat)(M:aC)(m:AM Int):List.map (ag.jW B M) (ph (ag.int .i64) m)=ph (ag.int .i64) m:=by
 unfold ph; rw[gJ]; rfl
def afe{cs:List vl}{k n:Nat}{o:tU}(h:k<cs.length):List.set (cs.map qy) k (.agg [aF (cs[k]).b,aF (n:Int)])=(cs.modify k fun c=>{ c with e:=some n,j4:=o }).map qy:=by
 refine cp fun i=>?_
 rw[aX,gw,gQ]
 by_cases hi:k=i
 ·subst hi;simp[h,qy,qC,rD]
 ·simp[hi]
section
attribute [local irreducible] eX fJ lu gK eb kr aq aU cq bI
def c30{l:List mi}(h:aiQ l):aq bZ 30 [qJ l] []=some (gG ((bK l).cs.map qy),[]):=by
 refine aB ?_;have hn:=h.len;simp only[afn,E30,EW,seval]
 refine nr (xs:=l) aJ (fun i (s:List vl×AM Int×Nat)=>s.1=(bK (l.take i)).cs/\∀c,0<=c->(eZ s.2.1 c).getD 0=((bK (l.take i)).last c.toNat:Int)) (fun _ _=>()) (fun s i=>[(3,.cD 0 s.2.2 2 0 s.1.length),(4,.iC 1),(8,qJ l),(9,aF l.length),(10,aF i)])
  (fun s=>[.arr 2 s.2.2 (s.1.map qy),.map (B2 s.2.1) (ph (ag.int .i64) s.2.1)]) (fun _=>some (gG ((bK l).cs.map qy),[])) (fun s hs=>?_) (fun pre x post s e hx cJ hw h0 hm hs hi=>?_) ([],[],0) ⟨rfl,fun c _=>rfl⟩
 ·have hs1:=hs.1;rw[bF] at hs1;simp only[E30,bl,hs1,ra,EW,seval]
  done
 ·obtain⟨cs,m,v⟩:=s;obtain⟨hs1,hs2⟩:=hs;simp only at hs1 hs2;have dQ:cs.length<=pre.length:=by rw[hs1]; exact aY (KQ _) (by rw[cr]; exact Nat.min_le_left _ _)
  have hpl:pre.length<l.length:=(aj.1 hx).1;have hne:cs.length-0=cs.length:=rfl;have r1:ct (cs.length+1) 16=True:=qM;have hck:=h.cl x hm;have hnx:=Im hx;have wl:=Qv cs;cases hk:x.kind==1
  ·have hj:=hs2 x.bE hck
   have h0l:l.take pre.length≠[]:=by
    intro e
    have hp:pre.length=0:=by
     rcases List.take_eq_nil_iff.1 e with h1|h1
     ·exact h1
     ·rw[h1] at hpl; simp at hpl
    have:=h.hd x (by rw[<-hp]; exact hx)
    rw[this] at hk; cases hk
   have hlast:(bK (l.take pre.length)).last x.bE.toNat<cs.length:=by
    rw[hs1]
    exact Zu (fun y hy=>h.hd y (by
     rw[fy] at hy;split at hy
     ·exact hy
     ·cases hy)) h0l _
   have i1:=hi (cs.modify ((bK (l.take pre.length)).last x.bE.toNat) fun c=>{ c with e:=some pre.length,j4:=x.j4 },m,v) (by
    rw[hnx];unfold Hs.hU wy;simp only[hk,af,aD];rw[sD,hs1,cr,iA aJ];exact⟨rfl,hs2⟩)
   simp only[<-afe (n:=pre.length) (o:=x.j4) hlast,List.length_modify] at i1;generalize (bK (l.take pre.length)).last x.bE.toNat=q at hj hlast i1;have hq:((q:Int)<(cs.length:Int))=True:=su;have hg:(cs.map qy)[q]?=some (qy cs[q]):=by rw[aX,ai hlast]; rfl
   simp only[E30,cJ,hx,hw,hne,akO,hq,hg,mW,hk,mapOf.eq_1,o9,am8,hj,qy,qC,yz,EW,seval];rw[fe];exact i1
  ·have i1:=hi (cs++[⟨pre.length,none,x.op,x.j4⟩],kR m x.bE cs.length,v+1) (by
    rw[hnx];unfold Hs.hU wy;simp only[hk,aI];rw[sD,hs1,cr,iA aJ];refine⟨rfl,fun c hc=>?_⟩
    rw[jy];split
    ·rename_i e; subst e; simp
    ·rename_i e;rw[aR aJ];exact hs2 c hc)
   simp only[aW,aH,aQ,aA,aw,az,aK,qy,qC,rD] at i1;simp only[E30,cJ,hx,hw,hne,akO,mW,hk,r1,wl,sK,ra,yz,EW,seval];exact i1
end
end Go.Proofs.YteoamaffclmdbaaGreatDoor
namespace Go.Abs
open Go
def bitsOf(p:Nat->Bool):Nat->Nat
 |0=>0
 |n+1=>bitsOf p n ||| (if p n then 2 ^ n else 0)
def vr(p:Nat->Bool):∀n k,(bitsOf p n).testBit k=(decide (k<n)&&p k)
 |0,k=>by simp[bitsOf]
 |n+1,k=>by
  rw[bitsOf,nh,vr p n k]
  by_cases hk:k=n
  ·subst hk;cases hp:p k<;>simp[Nat.testBit_two_pow_self]
  ·have h1:(if p n then 2 ^ n else 0).testBit k=false:=by
    split
    ·rw[oN]; simp; omega
    ·simp
   rw[h1,fE];have:(decide (k<n+1))=decide (k<n):=by simp only[decide_eq_decide]; omega
   rw[this]
def YE(p:Nat->Bool)(n:Nat):bitsOf p n<2 ^ n:=by
 refine Nat.lt_pow_two_of_testBit _ fun i hi=>?_
 rw[vr];simp; omega
def xZ(p:Nat->Bool){n:Nat}(h:n<=64):bitsOf p n<2 ^ 64:=bu (YE p n) (Nat.pow_le_pow_right aJ h)
def ji:List Nat->Nat
 | []=>0
 |k::r=>2 ^ k ||| ji r
def nV:∀(l:List Nat)(k:Nat),(ji l).testBit k=l.contains k
 | [],k=>by simp[ji]
 |x::r,k=>by
  rw[ji,nh,nV r k,oN,List.contains_cons];congr 1;rw[cz,bh,eu];exact⟨Eq.symm,Eq.symm⟩
def aaR{l:List Nat}(h:∀k,k∈l->k<64):ji l<2 ^ 64:=by
 refine Nat.lt_pow_two_of_testBit _ fun i hi=>?_
 rw[nV,<-Bool.not_eq_true];intro hc;have:=h i (jz.1 hc);omega
def PL(l:List Nat)(i:Nat):ji l ||| 2 ^ i=ji (l++[i]):=by
 refine nR fun k=>?_
 rw[nh,nV,nV,oN];rw[cz,jz,df,jz,bh,bq,bT];exact⟨fun h=>h.imp id Eq.symm,fun h=>h.imp id Eq.symm⟩
def V5{a b:List Nat}(h:ji a=ji b)(k:Nat):k∈a↔k∈b:=by
 rw[<-jz,<-jz,<-nV,<-nV,h]
def Ob{n:Nat}(h:n<2 ^ 64):IntKind.u64.wrap (n:Int)=n:=by
 have:(n:Int) % (2 ^ IntKind.u64.bits:Int)=n:=Int.emod_eq_of_lt aJ (by simp only[IntKind.bits]; omega)
 simp[IntKind.wrap,this,IntKind.signed]
def tN{n:Nat}(h:n<2 ^ 64):(BitVec.ofInt IntKind.u64.bits (n:Int)).toNat=n:=by
 rw[BitVec.ofInt_natCast,BitVec.toNat_ofNat];exact nK h
def SI{m n:Nat}(hm:m<2 ^ 64)(hn:n<2 ^ 64):DX .u64 (m:Int) (n:Int)=((m &&& n:Nat):Int):=by
 unfold DX;rw[BitVec.toNat_and,tN hm,tN hn];exact Ob (Nat.and_lt_two_pow _ hn)
def SV{m n:Nat}(hm:m<2 ^ 64)(hn:n<2 ^ 64):ior .u64 (m:Int) (n:Int)=((m ||| n:Nat):Int):=by
 unfold ior;rw[BitVec.toNat_or,tN hm,tN hn];exact Ob (Nat.or_lt_two_pow hm hn)
def KO(m n:Nat):Nat:=m &&& (2 ^ 64-1-n)
def afA{m n:Nat}(hm:m<2 ^ 64)(hn:n<2 ^ 64):Hh .u64 (m:Int) (n:Int)=(KO m n:Int):=by
 unfold Hh KO;rw[BitVec.toNat_and,tN hm,BitVec.toNat_not,tN hn];refine(Ob (Nat.lt_of_le_of_lt Nat.and_le_left hm)).trans ?_;rfl
def Rg{m x:Nat}(hm:m<2 ^ 64)(hx:x<2 ^ 64):(KO m x=0)↔∀k,m.testBit k=true->x.testBit k=true:=by
 have ht:∀k,(KO m x).testBit k=(m.testBit k&&(decide (k<64) && !x.testBit k)):=by
  intro k;unfold KO;rw[Nat.testBit_and,show 2 ^ 64-1-x=2 ^ 64-(x+1) by omega,Nat.testBit_two_pow_sub_succ hx]
 have cJ:∀k,m.testBit k=true->k<64:=fun k hk=>by
  refine Nat.lt_of_not_le fun h=>?_
  have:=Nat.testBit_lt_two_pow (bu hm (Nat.pow_le_pow_right aJ h));rw[this] at hk; cases hk
 constructor
 ·intro h k hk;have:=ht k;rw[h,Nat.zero_testBit] at this;simpa[hk,cJ k hk] using this
 ·intro h;refine nR fun k=>?_
  rw[ht,Nat.zero_testBit];cases hk:m.testBit k
  ·rfl
  ·simp[h k hk]
def Xk{k:Nat}(hk:k<64):IntKind.u64.wrap ((1:Int)*2 ^ (min (k:Int).toNat IntKind.u64.bits))=((2 ^ k:Nat):Int):=by
 have e:min (k:Int).toNat IntKind.u64.bits=k:=by simp only[dN,IntKind.bits]; omega
 rw[e];have:=Ob (n:=2 ^ k) (lB aJ hk);rw[<-this]; congr 1; simp
def Xl{m k:Nat}(hk:k<64):(m:Int).fdiv (2 ^ (min (k:Int).toNat IntKind.u64.bits))=((m >>> k:Nat):Int):=by
 have e:min (k:Int).toNat IntKind.u64.bits=k:=by simp only[dN,IntKind.bits]; omega
 rw[e,Nat.shiftRight_eq_div_pow];rw[Int.fdiv_eq_ediv_of_nonneg _ (Int.pow_nonneg ml)];simp
def akL{m k:Nat}(hm:m<2 ^ 64):(DX .u64 ((m >>> k:Nat):Int) 1==1)=m.testBit k:=by
 have h1:m >>> k<2 ^ 64:=by rw[Nat.shiftRight_eq_div_pow]; exact Nat.lt_of_le_of_lt (Nat.div_le_self _ _) hm
 have:=SI (n:=1) h1 ml;have e:((1:Nat):Int)=1:=rfl;rw[e] at this;rw[this,Nat.testBit,Nat.and_comm];have h2:1 &&& (m >>> k)<=1:=Nat.and_le_left;generalize 1 &&& (m >>> k)=z at h2
 match z,h2 with
 |0,_=>rfl
 |1,_=>rfl
def Yo{m x:Nat}:(x &&& m=m)↔∀k,m.testBit k=true->x.testBit k=true:=by
 constructor
 ·intro h k hk;have:(x &&& m).testBit k=true:=by rw[h]; exact hk
  rw[Nat.testBit_and] at this;simp only[bw] at this;exact this.1
 ·intro h;refine nR fun k=>?_
  rw[Nat.testBit_and];cases hk:m.testBit k
  ·simp
  ·simp[h k hk]
end Go.Abs
namespace Go.Proofs.YteoamaffclmdbaaGreatDoor
open Go Go.Abs
inductive SB
 |cl (c:vl)
 |fs (f:aa)
 |an (a:tU)
 |tk (k:Nat)
def B3:SB->cL
 | .cl c => .cells (qC c)
 | .fs f => .cells (cf f)
 | .an a => .cells (cE a)
 | .tk k => .tick 10 k
section
variable {α:Type}
def eKu(l:AM α):List ag:=l.map fun p => .int .u64 p.1
def xx(enc:α->ag):∀(l:AM α)(k:Int),xw .i (.int .u64 k) (eKu l) (ph enc l)=some ((eZ l k).map enc)
 | [],k=>rfl
 |(k',v)::l,k=>by
  show bI (kv .i (.int .u64 k) (.int .u64 k')) (fun b=>Bt b (some (some (enc v))) (xw .i (.int .u64 k) (eKu l) (ph enc l)))=_
  rw[xx enc l k];simp only[kv,↓reduceIte,bO,eZ]
  by_cases h:k=k'
  ·rw[aZ h,show(k==k')=true by simpa using h,vJ]; rfl
  ·rw[aR h,show(k==k')=false by simpa using h,qq]
def Eb(enc:α->ag):∀(l:AM α)(k:Int)(v:α),xy .i (.int .u64 k) (enc v) (eKu l) (ph enc l)=some (eKu (kR l k v),ph enc (kR l k v))
 | [],k,v=>by
  show bI (kv .i (.int .u64 k) (.int .u64 k)) (fun _=>some ([ag.int .u64 k],[enc v]))=_
  simp only[kv,↓reduceIte,bO];rfl
 |(k',v')::l,k,v=>by
  show bI (kv .i (.int .u64 k) (.int .u64 k')) (fun b=>Bt b (some (ag.int .u64 k::eKu l,enc v::ph enc l)) (bI (xy .i (.int .u64 k) (enc v) (eKu l) (ph enc l)) fun x=>some (ag.int .u64 k'::x.1,enc v'::x.2)))=_
  rw[Eb enc l k v];simp only[kv,↓reduceIte,bO,kR]
  by_cases h:k=k'
  ·rw[aZ h,show(k==k')=true by simpa using h,vJ]; rfl
  ·rw[aR h,show(k==k')=false by simpa using h,qq]; rfl
end
abbrev SM:=AM (Nat×List aa)
def Lh(p:Nat×List aa):ag := .slice (.own p.1) (p.2.map O5)
structure Da(b:Nat)(m:SM)(r:List SB):Prop where
 at':∀g id l,eZ m g=some (id,l)->∃i,id=b+i/\r[i]?=some (SB.tk l.length)
 ne:∀g g' id l l',eZ m g=some (id,l)->eZ m g'=some (id,l')->g=g'
 low:∀p,p∈m->p.2.1<b+r.length
def Da.nil(b:Nat)(r:List SB):Da b [] r:=⟨fun _ _ _ h=>(by cases h),fun _ _ _ _ _ h=>(by cases h),fun _ h=>(by cases h)⟩
structure Kept(r r':List SB):Prop where
 len:r.length<=r'.length
 at':∀(i:Nat)(x:SB),r[i]?=some x->(∀n,x≠SB.tk n)->r'[i]?=some x
def Kept.rfl{r:List SB}:Kept r r:=⟨au _,fun _ _ h _=>h⟩
theorem Kept.trans{a b c:List SB}(h:Kept a b)(g:Kept b c):Kept a c:=⟨aY h.len g.len,fun i x hx hn=>g.at' i x (h.at' i x hx hn) hn⟩
def Kept.app(r x:List SB):Kept r (r++x):=⟨dx,fun i y hy _=>by rw[aN (aj.1 hy).1]; exact hy⟩
def Da.app{b:Nat}{m:SM}{r:List SB}(h:Da b m r)(x:List SB):Da b m (r++x):=by
 refine⟨fun g id l hm=>?_,h.ne,fun p hp=>?_⟩
 ·obtain⟨i,h1,h2⟩:=h.at' g id l hm;refine⟨i,h1,?_⟩;rw[aN (aj.1 h2).1]; exact h2
 ·have:=h.low p hp;rw[aA]; omega
def Eg{α:Type}:∀ {m:AM α} {k:Int} {v:α} {p:Int×α},p∈kR m k v->p=(k,v)\/p∈m
 | [],k,v,p,h=>by simp[kR] at h; exact .inl h
 |(k',v')::m,k,v,p,h=>by
  simp only[kR] at h;split at h
  ·rcases bJ.1 h with rfl|h
   ·exact .inl rfl
   ·exact .inr (bt _ h)
  ·rcases bJ.1 h with rfl|h
   ·exact .inr bD
   ·exact(Eg h).imp id (bt _)
def Da.new{b:Nat}{m:SM}{r:List SB}(h:Da b m r){g0:Int}(_hg:eZ m g0=none)(f:aa):Da b (kR m g0 (b+r.length,[f])) (r++[.tk 1]):=by
 have hfar:∀g id l,eZ m g=some (id,l)->id≠b+r.length:=fun g id l hm e=>by
  obtain⟨i,h1,h2⟩:=h.at' g id l hm;have:=(aj.1 h2).1;omega
 refine⟨fun g id l hm=>?_,fun g g' id l l' hm hm'=>?_,fun p hp=>?_⟩
 ·simp only[jy] at hm;split at hm
  ·injection hm with hm; injection hm with h1 h2; subst h1; subst h2
   exact⟨r.length,_root_.rfl,dx⟩
  ·exact(h.app _).at' g id l hm
 ·simp only[jy] at hm hm';split at hm<;>split at hm'
  ·rename_i a b; rw[a,b]
  ·injection hm with hm; injection hm with h1 h2; subst h1
   exact absurd _root_.rfl (hfar _ _ _ hm')
  ·injection hm' with hm'; injection hm' with h1 h2; subst h1
   exact absurd _root_.rfl (hfar _ _ _ hm)
  ·exact h.ne _ _ _ _ _ hm hm'
 ·rcases Eg hp with rfl|hp
  ·simp
  ·exact(h.app _).low p hp
def Da.more{b:Nat}{m:SM}{r:List SB}(h:Da b m r){g0:Int}{id0:Nat}{l0:List aa}(hg:eZ m g0=some (id0,l0))(f:aa):Da b (kR m g0 (id0,l0++[f])) (r.set (id0-b) (.tk (l0.length+1))):=by
 obtain⟨i0,e0,a0⟩:=h.at' _ _ _ hg;have hi0:=(aj.1 a0).1;have hsub:id0-b=i0:=aJ;rw[hsub];refine⟨fun g id l hm=>?_,fun g g' id l l' hm hm'=>?_,fun p hp=>?_⟩
 ·simp only[jy] at hm;split at hm
  ·injection hm with hm; injection hm with h1 h2; subst h1; subst h2
   refine⟨i0,e0,?_⟩;rw[eE hi0]; simp
  ·rename_i hne;obtain⟨i,h1,h2⟩:=h.at' g id l hm;refine⟨i,h1,?_⟩;have:i≠i0:=fun e=>hne (h.ne _ _ id l l0 hm (by rw[hg,e0,h1,e]))
   rw[fa aJ]; exact h2
 ·simp only[jy] at hm hm';split at hm<;>split at hm'
  ·rename_i a b; rw[a,b]
  ·rename_i a b;injection hm with hm; injection hm with h1 h2; subst h1
   rw[a]; exact h.ne _ _ _ _ _ hg hm'
  ·rename_i a b;injection hm' with hm'; injection hm' with h1 h2; subst h1
   rw[b]; exact h.ne _ _ _ _ _ hm hg
  ·exact h.ne _ _ _ _ _ hm hm'
 ·rcases Eg hp with rfl|hp
  ·simp; omega
  ·simpa using h.low p hp
def Kept.set{r:List SB}{i k:Nat}(h:r[i]?=some (SB.tk k))(k':Nat):Kept r (r.set i (.tk k')):=by
 refine⟨dx,fun j x hx hn=>?_⟩
 have:i≠j:=by
  intro e;subst e;rw[h] at hx; injection hx with hx
  exact hn k hx.symm
 rw[fa this]; exact hx
def LR(m:SM)(lost:Hs.uH aa):Prop:=∀k:Nat,((eZ m (k:Int)).map Prod.snd).getD []=(lost.filter fun p=>p.1==k).map Prod.snd
def Mv(k:Nat)(f:aa):∀lost:Hs.uH aa,lost.any (fun p=>p.1==k&&decide (p.2=f))=((lost.filter fun p=>p.1==k).map Prod.snd).any fun g=>decide (f=g)
 | []=>rfl
 |p::r=>by
  rw[jR,fq,Mv k f r];cases hk:p.1==k
  ·simp only[cI,cV,af,aD]
  ·simp only[cN,aI,aH,jR];rw[decide_eq_decide.2 (show p.2=f↔f=p.2 from⟨Eq.symm,Eq.symm⟩)]
def LR.any{m:SM}{lost:Hs.uH aa}(h:LR m lost)(k:Nat)(f:aa):lost.any (fun p=>p.1==k&&decide (p.2=f))=(((eZ m (k:Int)).map Prod.snd).getD []).any fun g=>decide (f=g):=by
 rw[h k]; exact Mv k f lost
def LR.add{m:SM}{lost:Hs.uH aa}(h:LR m lost)(k:Nat)(f:aa)(id:Nat):LR (kR m (k:Int) (id,((eZ m (k:Int)).map Prod.snd).getD []++[f])) (lost++[(k,f)]):=by
 intro j;rw[kE,aW,<-h j,jy]
 by_cases hj:j=k
 ·subst hj; simp
 ·have h1:¬(j:Int)=(k:Int):=aJ;have h2:(k==j)=false:=gm;rw[aR h1]; simp[h2]
def RH(B:Nat)(M:aC)(r:List SB):(r.map B3).map (cL.back B M)=r.map B3:=by
 rw[gJ];refine c8 fun x _=>?_
 cases x<;>rfl
def apM{m:SM}{B:Nat}(h:∀p,p∈m->p.2.1<B)(M:aC):List.map (ag.jW B M) (ph Lh m)=ph Lh m:=by
 unfold ph;rw[gJ];refine c8 fun p hp=>?_
 show ag.jW B M (Lh p.2)=Lh p.2
 simp only[Lh,ag.jW,ag.jG,ag.jA,h p hp,aI]
def CP:tU:=⟨0,0,0,0,0,[],[]⟩
def Ki:jD:=⟨0,0,[],[],0,0,0,[]⟩
abbrev AP(c:Int)(o:jD):mi:=⟨1,c,{ o with bE:=c },CP⟩
abbrev CM(c:Int)(a:tU):mi:=⟨2,c,Ki,a⟩
def Ar:List mi->List Bool->Bool
 | [],_=>true
 |x::r,s =>
  if decide (x.bE<0)||decide (16<=x.bE) then false
  else if (!(x.kind==1)&&x.kind != 2)||((x.kind==1)==(s[x.bE.toNat]?).getD false)||((x.kind==1)&&x.op.bE != x.bE) then false
  else Ar r (s.set x.bE.toNat (x.kind==1))
def HF(l:List mi):Bool:=if 64<l.length then false else Ar l (List.replicate 16 false)
def bqt:(false==true)=false:=rfl
def bqu:(true==false)=false:=rfl
def bqv:(true==true)=true:=rfl
def bqw:(false==false)=true:=rfl
def apK(B:Nat)(M:aC)(s:List Bool):List.map (ag.jG B M) (s.map ag.bool)=s.map ag.bool:=by rw[gJ]; rfl
def WT(s:List Bool)(i:Nat)(b:Bool)(h:i<s.length):List.take i (s.map ag.bool)++ag.bool b::List.drop (i+1) (s.map ag.bool)=(s.set i b).map ag.bool:=by
 rw[gh,ju,aZ (by simpa using h)]
def Wh(s:List Bool)(i:Nat)(b:Bool)(h:s[i]?=some b):nth (s.map ag.bool) i=some (.bool b):=by rw[fc,aX,h]; rfl
section
attribute [local irreducible] eX fJ lu gK eb kr aq aU cq bI
def c22(c:Int)(o:jD):aq bZ 22 [aF c,.agg (eT o)] []=some (wh (AP c o),[]):=by
 refine aB ?_;simp only[alu,E22,eT,wh,mW,EW,seval];rfl
def c23(c:Int)(a:tU):aq bZ 23 [aF c,.agg (cE a)] []=some (wh (CM c a),[]):=by
 refine aB ?_;simp only[alv,E23,cE,wh,mW,EW,seval];rfl
def c11(l:List mi)(hl:l.length<=100000):aq bZ 11 [qJ l] []=some (.bool (HF l),[]):=by
 refine aB ?_;unfold HF
 by_cases h6:64<l.length
 ·have h7:((64:Int)<(l.length:Int))=True:=su;simp only[afk,E11,h6,h7,aI,yz,EW,seval]
  done
 ·have h7:((64:Int)<(l.length:Int))=False:=XZ;simp only[afk,E11,h6,h7,aD,af,yz,EW,seval];refine nr (xs:=l) aJ (fun _ s=>s.length=16) (fun r (s:List Bool)=>Ar r s) (fun _ i=>[(3,cA 0),(10,qJ l),(11,aF l.length),(12,aF i)]) (fun s=>[cC (s.map ag.bool)]) (fun b=>some (ag.bool b,([]:aC))) (fun s hs=>?_) (fun pre x post s h hx cJ hw h0 hm hs hi=>?_) (List.replicate 16 false) rfl
  ·simp only[E11,bl,Ar,yz,EW,seval]
   done
  ·rw[Ar];cases c1:decide (x.bE<0)
   ·cases c2:decide (16<=x.bE)
    ·have d1:0<=x.bE:=by simpa using c1
     have d2:x.bE<16:=by simpa using c2
     obtain⟨b,hb⟩:∃b,s[x.bE.toNat]?=some b:=⟨_,ai aJ⟩;have hn:=Wh s _ b hb;have p1:(0<=x.bE)=True:=eq_true d1;have p2:(x.bE<16)=True:=eq_true d2;have p4:x.bE.toNat<s.length:=aJ;have p3:(x.bE.toNat+1<=s.length)=True:=eq_true p4;have i1:=hi (s.set x.bE.toNat (x.kind==1)) (by simpa using hs)
     cases k1:x.kind==1<;>cases k2:x.kind==2<;>cases b<;>cases k3:x.op.bE==x.bE<;>rw[k1] at i1<;>simp only[E11,cJ,hx,hw,mW,c1,c2,k1,k2,k3,hb,hn,p1,p2,bqt,bqu,bqv,bqw,p3,apK,aI,WT _ _ _ p4,pO,bne,bz,yz,EW,seval]
     all_goals first|rfl|exact i1|skip
    ·simp only[E11,cJ,hx,hw,mW,c1,c2,er,aI,yz,EW,seval]
   ·simp only[E11,cJ,hx,hw,mW,c1,dM,aI,yz,EW,seval]
    done
end
end Go.Proofs.YteoamaffclmdbaaGreatDoor
namespace Go.Abs
open Go
def YJ{C:eR}{f p:Nat}{vs:List ag}{q q' r:ag}{M:aC}{cs:List ag}(hq:q.ids=[p])(hqf:q.flat=true)(hqr:q.pq (iB [p])=q')(hM:nth M p=some (.cells cs))(h:C f (vs++[q']) [.cells cs]=some (r,[.cells cs]))(h1:vs.all ag.flat=true)(h2:vs.flatMap ag.ids=[])(h3:r.wH=true)
  (h4:vs.map (ag.pq (iB [p]))=vs) (h5:r.Aq (wD [p])=r) (h6:cs.all ag.vB=true) (h7:cs.flatMap ag.nH=[]) (h8:cs.map (ag.sk (iB [p]))=cs) (h10:cs.map (ag.sk (wD [p]))=cs) :
  aU C f (vs++[q]) M=some (r,M):=by
 have hids:(vs++[q]).flatMap ag.ids=[p]:=by simp[hq,h2]
 have hi:qz M [p]=[]:=by simp_all [qz,cL.ids]
 have e0:kx M [p]=[p]:=by simp[kx,hi,kb]
 have e1:reach M [p]=[p]:=by
  have ea:kb [] [p]=[p]:=rfl;simp only[reach,ea,e0]
 have hfl:(vs++[q]).all ag.flat=true:=by rw[oI,h1]; simp[hqf]
 have hmp:(vs++[q]).map (ag.pq (iB [p]))=vs++[q']:=by rw[aW,h4]; simp[hqr]
 have hpk:jZ M (iB [p]) [p]=some [.cells cs]:=by simp[jZ,hM,cL.pq,h8,bO,show(cL.cells cs).flat=true from h6]
 refine lj (ids:=[p]) hfl (by rw[hids]; exact e1) hpk e0 hmp h rfl h3 (by simp only[kK,List.all_nil,gb]; exact h6) h5 ?_
 have hren:(cL.cells cs).pq (wD [p]) = .cells cs:=by rw[cL.pq,h10]
 simp[mb,hren,uX hM]
end Go.Abs
namespace Go.Proofs.YteoamaffclmdbaaGreatDoor
open Go Go.Abs
def ahI(f:aa):jZ [cC (cf f)] (iB [0]) [0]=some [cC (cf f)]:=rfl
section
attribute [local irreducible] eX fJ lu gK eb kr aq aU cq bI
def c33(f g:aa)(hf:vm f):aq bZ 33 [.agg (cf g),cA 0] [cC (cf f)]=some (.bool (decide (f=g)),[cC (cf f)]):=by
 refine aB ?_;have q:=fun M=>cO (c34 f g hf) M
 simp only[cf] at q;simp only[alH,E33,cf,q,EW,seval]
def c54(xs:List aa)(f:aa)(hf:vm f)(hn:xs.length<=900000):aq bZ 54 [gG (xs.map O5),.func 33 [cA 0]] [cC (cf f)]=some (aF (qD (fun g:aa=>decide (f=g)) xs 0),[cC (cf f)]) :=
 DN (sz:=10) (e:=cf) fu rfl hn (fun _=>rfl) (fun _=>rfl) rfl rfl fun x _ => .inl ⟨_,_,rfl,uM (p:=0) (vs:=[.agg (cf x)]) rfl (c33 f x hf) rfl rfl rfl rfl rfl rfl rfl rfl rfl⟩
def c32(xs:List aa)(f:aa)(hf:vm f)(hn:xs.length<=900000):aq bZ 32 [gG (xs.map O5),.func 33 [cA 0]] [cC (cf f)]=some (.bool (xs.any fun g=>decide (f=g)),[cC (cf f)]):=by
 refine aB ?_;have hk:aU (aq bZ) 54 [gG (xs.map O5),.func 33 [cA 0]] _=some (aF _,[cC (cf f)]):=lj (ids:=[0]) rfl rfl (ahI f) rfl rfl (c54 xs f hf hn) rfl rfl rfl rfl rfl;simp only[alG,E32,hk,xj,EW,seval];rfl
def k32(xs:List aa)(f:aa)(hf:vm f)(hn:xs.length<=900000){M:aC}{p:Nat}(hM:nth M p=some (cC (cf f))):aU (aq bZ) 32 [gG (xs.map O5),.func 33 [cA p]] M=some (.bool (xs.any fun g=>decide (f=g)),M) :=
 YJ (p:=p) (vs:=[gG (xs.map O5)]) (q' := .func 33 [cA 0]) rfl rfl (by simp[ag.pq,ag.sk,ag.uw,iB]) hM (c32 xs f hf hn) rfl rfl rfl rfl rfl rfl rfl rfl rfl
end
end Go.Proofs.YteoamaffclmdbaaGreatDoor
namespace Go.Abs
open Go
variable [kC]
noncomputable def JN(C:eR)(fn:eJ)(args:List ag)(M:aC):Option (ag×aC) :=
 if args.length=fn.nparams then bI (eO C fn.body (eH 0 args) M) fun o=>bI (finish fn.results o.mem.length o) fun x=>if M.length<=o.mem.length/\o.mem.length<=x.2.length then some x else none else none
def LH{P:Program}{C:eR}(hmix:P.follows .mixedOrders=true)(hC:nM P C){f:Nat}{fn:eJ}{A:CA}{func:Func}(hf:P.funcs[f]?=some func)(hc:pg P A func=some fn){args:List ag}{M:aC}{x:ag×aC}
  (h:JN C fn args M=some x):dr P f args M x:=by
 unfold JN at h;split at h
 ·rename_i hl;obtain⟨o,ho,h⟩:=bo h;obtain⟨y,hy,h⟩:=bo h;split at h
  ·rename_i dQ;cases h;exact(A7 hmix hC hf hc dQ.1 (.inr dQ.2) hl (by rw[ho]; exact hy)).2
  ·cases h
 ·cases h
def Zm{C:eR}{fn:eJ}{args:List ag}{M M':aC}{v:ag}(hl:args.length=fn.nparams)(h:∀B,eX C fn.results B [] fn.body (eH 0 args) M=some (v.lF B M',iV B M'))(hM:M.length<=M'.length) :
  JN C fn args M=some (v.lF M'.length M',iV M'.length M'):=by
 unfold JN;rw[aZ hl];cases ha:eO C fn.body (eH 0 args) M with
 |none=>have:=h 0; unfold eX at this; rw[ha] at this; cases this
 |some o =>
  have h':∀B,finish fn.results B o=some (v.lF B M',iV B M'):=fun B=>by
   have:=h B;unfold eX at this;rw[ha] at this;exact this
  have dQ:o.mem.length=M'.length:=by
   have e:=h' (o.mem.length+M'.length);have e2:(finish fn.results (o.mem.length+M'.length) o)=some (v.lF (o.mem.length+M'.length) M',iV (o.mem.length+M'.length) M'):=e;unfold finish at e2
   have hb:∀M2:aC,M2.length<=o.mem.length+M'.length->(iV (o.mem.length+M'.length) M2).length=M2.length:=fun M2 h2=>by
    unfold iV; rw[cU,cr]; omega
   split at e2
   ·cases e2
   ·injection e2 with e2
    have:=congrArg (fun x:ag×aC=>x.2.length) e2
    simp only at this;rw[hb _ aJ,hb _ aJ] at this; exact this
   ·obtain⟨l,_,e2⟩:=bo e2;injection e2 with e2
    have:=congrArg (fun x:ag×aC=>x.2.length) e2
    simp only at this;rw[hb _ aJ,hb _ aJ] at this; exact this
  rw[bO,dQ,h',bO,aZ ⟨hM,by unfold iV; rw[cU,cr]; omega⟩]
end Go.Abs
namespace Go.Proofs.YteoamaffclmdbaaGreatDoor
open Go Go.Abs
noncomputable def gT:Nat->List ag->aC->Option (ag×aC)
 |0=>fun _ _=>none
 |n+1=>JN (aq (mc Fk 31 (gT n))) afo
noncomputable def rp(n:Nat):zA:=mc Fk 31 (gT n)
def SD:∀n,vp Tryz.prog (rp n)/\∀ {args:List ag} {M:aC} {x:ag×aC},gT n args M=some x->dr Tryz.prog 31 args M x
 |0=>⟨p6 N3 fu (fun h=>by cases h),fun h=>by cases h⟩
 |n+1=>by
  have ih:=(SD n).1
  have key:∀ {args:List ag} {M:aC} {x:ag×aC},gT (n+1) args M=some x->dr Tryz.prog 31 args M x:=fun h =>
   LH fu (qU fu ih) (f:=31) func31 atQ h
  exact⟨p6 N3 fu key,key⟩
def Xq(n:Nat):nM Tryz.prog (aq (rp n)):=qU fu (SD n).1
def lT'{n f:Nat}{a:List ag}{M:aC}{x:ag×aC}(h:aq Fk f a M=some x):aq (rp n) f a M=some x:=rb rfl rfl h
def lT{n f:Nat}{vs:List ag}{M:aC}{x:ag×aC}(h:aU (aq Fk) f vs M=some x):aU (aq (rp n)) f vs M=some x:=by
 obtain⟨a,B,y,h1,h2⟩:=pQ h;exact h2 _ (lT' h1)
def Kd{n:Nat}{a:List ag}{M:aC}{x:ag×aC}(h:gT n a M=some x):aq (rp n) 31 a M=some x:=fg (g:=gT n) rfl h
end Go.Proofs.YteoamaffclmdbaaGreatDoor
namespace Go.Abs
open Go
def D8{C:eR}{fn:List sS}{bS:Nat}{bp:Env}{M:aC}:∀(k:List K),kr C fn bS k ⟨.ret,bp,M⟩=finish fn bS ⟨.ret,bp,M⟩
 | []=>rfl
 | .seq _::k=>D8 k
 | .block _::k=>D8 k
 | .loop _ _ _::k=>D8 k
 | .nG _ _::k=>D8 k
end Go.Abs
namespace Go.Proofs.YteoamaffclmdbaaGreatDoor
open Go Go.Abs
abbrev xO(n:Nat):ag := .int .u64 n
abbrev lq(n:Nat):ag := .int .i64 n
structure TS where
 m:SM
 r:List SB
 ov:Nat
 ox:List Nat
 k:Nat
def yC:List ag:=[.ptr 3 0,.ptr 7 0,.ptr 2 0,.ptr 5 0,.ptr 1 0,.ptr 9 0,.ptr 10 0]
structure Bs where
 f0:aa
 l:List mi
 cs:List vl
 E:Nat
 rv:Nat
 rd:List Nat
def lZ(b:Bs)(s:TS):aC :=
 .cells (cf b.f0) :: .cells [qJ b.l] :: .cells [.slice .sh (b.cs.map qy)] :: .cells [xO b.E] :: .arr 1 b.rv (b.rd.map xO) :: .cells [.cD 4 b.rv 1 0 b.rd.length] :: .map (eKu s.m) (ph Lh s.m) :: .cells [.iC 6] :: .arr 1 s.ov (s.ox.map lq) :: .cells [.cD 8 s.ov 1 0 s.k] ::
  .cells [.func 31 yC]::s.r.map B3
def z7(b:Bs)(s:TS):(lZ b s).length=s.r.length+11:=by simp[lZ]
def KN(b:Bs){s:TS}(h:Da 11 s.m s.r){n:Nat}(hl:n=s.r.length+11)(M:aC):List.map (cL.back n M) (lZ b s)=lZ b s:=by
 have e1:∀i,i<11->(i<n)=True:=fun i hi=>by simp only[fH,jb]; omega
 have e2:List.map (ag.jW n M) (ph Lh s.m)=ph Lh s.m:=apM (fun p hp=>by have:=h.low p hp; omega) M
 unfold lZ;simp only[aH,RH,cL.back,e2,cf,aQ,ag.jG,ag.jA,yC,e1 0 aJ,e1 1 aJ,e1 2 aJ,e1 3 aJ,e1 5 aJ,e1 7 aJ,e1 9 aJ,e1 10 aJ,e1 4 aJ,e1 6 aJ,e1 8 aJ,aI,ba,uc,sd,kh,fI,cR]
def Fw(b:Bs){s:TS}(h:Da 11 s.m s.r):iV (lZ b s).length (lZ b s)=lZ b s:=by
 unfold iV;rw[bF];exact KN b h (z7 b s) _
def CJ(B:Nat)(b:Bool)(M:aC):Option (ag×aC):=some ((ag.bool b).lF B M,iV B M)
section
attribute [local irreducible] eX fJ lu gK eb kr aq aU cq bI
def ahU{C:eR}{B:Nat}{k:List K}{bp:Env}{M:aC}{b:Bool}:eX C [.tmp 11] B k (.seq (.region [ob 11 (.mv (.tg (.bool b)))] false [11]) .ret) bp M=kr C [.tmp 11] B k ⟨.ret,[(11,.bool b)],M⟩:=by
 simp only[EW,seval]
end
def NV{C:eR}{B:Nat}{k:List K}{c:cG}{bp:Env}{M:aC}{b:Bool}(hc:c = .seq (.region [ob 11 (.mv (.tg (.bool b)))] false [11]) .ret):eX C [.tmp 11] B k c bp M=CJ B b M:=by
 subst hc;rw[ahU,D8];rfl
noncomputable def Xx(n B:Nat)(k:List K)(bp:Env)(M:aC):Option (ag×aC):=eX (aq (rp n)) [.tmp 11] B k (sub Kl 58) bp M
def NA:List Nat:=[1,3,5,6,7,8,9,26,27,28]
def A3(b:Bs)(mask P j:Nat):Env:=[(1,xO mask),(3,.ptr 7 0),(5,.ptr 5 0),(6,.ptr 1 0),(7,.ptr 9 0),(8,.ptr 10 0),(9,.ptr P 0),(26,.slice .sh (b.cs.map qy)),(27,.int .i64 b.cs.length),(28,lq j)]
noncomputable def qX(n B:Nat)(b:Bs)(mask P j:Nat)(M:aC):Option (ag×aC):=eX (aq (rp n)) [.tmp 11] B [.block 0,.seq (sub Kl 59)] (.nG NA (sub Kl 23)) (A3 b mask P j) M
section
attribute [local irreducible] eX fJ lu gK eb kr aq aU cq bI
def BB{n B:Nat}{b:Bs}{mask P j:Nat}{s:TS}(hj:j<1000)(h:Da 11 s.m s.r)(hP:P<11+s.r.length){bp:Env}(he:jq bp NA=A3 b mask P j) :
  Xx n B [.nG NA (sub Kl 23),.block 0,.seq (sub Kl 59)] bp (lZ b s)=qX n B b mask P (j+1) (lZ b s):=by
 have hb:=Fw b h;have hl:=z7 b s;simp only[jq,NA,A3,aH,aQ,mD,jl,true_and,pP] at he;obtain⟨g1,g3,g5,g6,g7,g8,g9,g26,g27,g28⟩:=he;unfold Xx qX A3 NA;generalize lZ b s=M at hb hl;have e1:∀i,i<11->(i<M.length)=True:=fun i hi=>by simp only[fH,jb]; omega
 have e2:(P<M.length)=True:=su;have e3:IntKind.i64.wrap ((j:Int)+1)=((j+1:Nat):Int):=by rw[gA aJ aJ]; rfl
 have e9:=e1 9 aJ;have e10:=e1 10 aJ;have e7:=e1 7 aJ;have e5:=e1 5 aJ;have e01:=e1 1 aJ;simp only[Oo,↓hb,g1,g3,g5,g6,g7,g8,g9,g26,g27,g28,e3,e2,e9,e10,e7,e5,e01,EW,seval]
end
end Go.Proofs.YteoamaffclmdbaaGreatDoor
namespace Go.Proofs.YteoamaffclmdbaaGreatDoor
open Go Go.Abs
def kI(f:aa):(cf f).length=10:=rfl
def wR(f:aa):List.take 10 (cf f)=cf f:=rfl
def CG(f:aa):List.drop 10 (cf f)=[]:=rfl
def vQ(f:aa):List.map ag.shut (cf f)=cf f:=rfl
def Lc(c:vl):List.drop 2 (qC c)=[]:=rfl
def zl(c:vl):nth (qC c) 0=some (aF c.b):=rfl
def vg(c:vl):nth (qC c) 1=some (aF (rD c)):=rfl
def zW(f:aa):List.flatMap ag.nH (cf f)=[]:=rfl
def Qa{α:Type}(l a b:List α):(l++a <+: l++b)=(a <+: b):=propext (List.prefix_append_right_inj l)
def Bh(c:vl):(qC c).all ag.jg=true:=rfl
def xl(f:aa):(cf f).all ag.jg=true:=rfl
def Ac(r:List SB)(a:cL)(X:aC):nth (r.map B3++a::X) r.length=some a:=by rw[fc]; simp
def EE(r:List SB)(a c:cL)(X:aC):iR (r.map B3++a::X) r.length c=r.map B3++c::X:=by rw[fe]; simp
def Ej(r:List SB)(a a':cL)(X:aC):nth (r.map B3++a::a'::X) (r.length+1)=some a':=by rw[fc]; simp
def EF(r:List SB)(a a' c:cL)(X:aC):iR (r.map B3++a::a'::X) (r.length+1) c=r.map B3++a::c::X:=by rw[fe]; simp
def Ek(r:List SB)(a a' a'':cL)(X:aC):nth (r.map B3++a::a'::a''::X) (r.length+2)=some a'':=by rw[fc]; simp
def EG(r:List SB)(a a' a'' c:cL)(X:aC):iR (r.map B3++a::a'::a''::X) (r.length+2) c=r.map B3++a::a'::c::X:=by rw[fe]; simp
section
attribute [local irreducible] eX fJ lu gK eb kr aq aU cq bI
def anZ{C:eR}{B:Nat}{k:List K}{bp:Env}{M:aC}:eX C [.tmp 11] B k (sub Kl 6) bp M=CJ B true M:=NV fu
def W8{C:eR}{B:Nat}{k:List K}{bp:Env}{M:aC}:eX C [.tmp 11] B k (sub Kl 14) bp M=CJ B false M:=NV fu
def HE{C:eR}{B:Nat}{k:List K}{bp:Env}{M:aC}:eX C [.tmp 11] B k (sub Kl 53) bp M=CJ B true M:=NV fu
def W9{C:eR}{B:Nat}{k:List K}{bp:Env}{M:aC}:eX C [.tmp 11] B k (sub Kl 61) bp M=CJ B false M:=NV fu
def wx{n B:Nat}{k:List K}{bp:Env}{M:aC}:eX (aq (rp n)) [.tmp 11] B k (sub Kl 58) bp M=Xx n B k bp M:=rfl
variable {n B:Nat} {b:Bs} {mask P j:Nat} {s:TS} {c:vl} {f:aa}
def step_skip(hn:b.cs.length<=60)(hj:b.cs[j]?=some c)(hL:Da 11 s.m s.r)(hP:P<11+s.r.length){q:Nat}{x1 x2:Bool}(hlr:b.rd.length=b.cs.length)(hq:b.rd[j]?=some q)(hx1:(DX .u64 ((mask >>> j:Nat):Int) 1==1)=x1)(hx2:(Hh .u64 (q:Int) (mask:Int) != 0)=x2)(h:(x1||x2)=true) :
  qX n B b mask P j (lZ b s)=qX n B b mask P (j+1) (lZ b { s with r:=s.r++[.cl c] }):=by
 have hjl:j<b.cs.length:=(aj.1 hj).1;have cJ:((j:Int)<(b.cs.length:Int))=True:=su;have hlt2:((j:Int)<((b.rd.length-0:Nat):Int))=True:=su;have hsh:=Xl (m:=mask) (k:=j) aJ;simp only[dN] at hsh;have fin:=fun bp (he:jq bp NA=A3 b mask P j)=>BB (n:=n) (B:=B) (b:=b) (mask:=mask) (P:=P) (j:=j) (s:={ s with r:=s.r++[.cl c] }) aJ (hL.app _) gm he
 unfold qX;rw[vz];simp only[A3,NA,lZ,aW,aH,aQ,B3] at fin ⊢;cases x1
 ·cases x2
  ·cases h
  ·simp only[Oo,↓wx,cJ,hlt2,hj,hq,hsh,hx1,hx2,Ac,EE,jX,kQ,BN,Lc,Bh,aI,EW,seval];exact fin _ rfl
 ·simp only[Oo,↓wx,cJ,hlt2,hj,hq,hsh,hx1,Ac,EE,jX,kQ,BN,Lc,Bh,aI,EW,seval];exact fin _ rfl
def Xu(hn:b.cs.length<=60)(hj:b.cs[j]?=some c)(hL:Da 11 s.m s.r)(hP:∃p,P=11+p/\s.r[p]?=some (.fs f)){q:Nat}(hlr:b.rd.length=b.cs.length)(hq:b.rd[j]?=some q)(hx1:(DX .u64 ((mask >>> j:Nat):Int) 1==1)=false)(hx2:(Hh .u64 (q:Int) (mask:Int) != 0)=false)
  (hf:vm f) {x:mi} (hx:b.l[c.b]?=some x) (ho:rY x.op) {e:Nat} (he:c.e=some e) {y:mi} (hy:b.l[e]?=some y) (ha:decide ((oU f x.op).2=y.j4)=false) :
  qX n B b mask P j (lZ b s)=qX n B b mask P (j+1) (lZ b { s with r:=s.r++[.cl c,.fs (oU f x.op).1,.an (oU f x.op).2] }):=by
 have hjl:j<b.cs.length:=(aj.1 hj).1;have cJ:((j:Int)<(b.cs.length:Int))=True:=su;have hlt2:((j:Int)<((b.rd.length-0:Nat):Int))=True:=su;have hsh:=Xl (m:=mask) (k:=j) aJ;simp only[dN] at hsh;obtain⟨p,hP1,hP2⟩:=hP;have hpl:=(aj.1 hP2).1
 have hnP:∀(a0 a1 a2 a3 a4 a5 a6 a7 a8 a9 a10:cL)(X:aC),nth (a0::a1::a2::a3::a4::a5::a6::a7::a8::a9::a10::(s.r.map B3++X)) P=some (cC (cf f)):=fun a0 a1 a2 a3 a4 a5 a6 a7 a8 a9 a10 X=>by
  rw[fc,hP1,show 11+p=p+11 by omega]
  simp only[cZ];rw[aN (by simpa using hpl),aX,hP2]; rfl
 have qd:=fun M=>lT (n:=n) (k29 f x.op hf ho M)
 have hae:=CS hf x.op;have qa:=fun M=>lT (n:=n) (lE (k35 (oU f x.op).2 y.j4 (by have:=hae.names; omega) (by have:=hae.data; omega) M))
 simp only[ha,eT,cE] at qd qa;have fin:=fun bp (he:jq bp NA=A3 b mask P j)=>BB (n:=n) (B:=B) (b:=b) (mask:=mask) (P:=P) (j:=j) (s:={ s with r:=s.r++[.cl c,.fs (oU f x.op).1,.an (oU f x.op).2] }) aJ (hL.app _) gm he
 unfold qX;rw[vz];simp only[A3,NA,lZ,aW,aH,aQ,B3] at fin ⊢;have hce:rD c=(e:Int):=by unfold rD; rw[he]
 simp only[Oo,↓wx,cJ,hlt2,hj,hq,hsh,hx1,hx2,hnP,Ac,EE,Ej,EF,Ek,EG,jX,kQ,BN,Xi,Lc,kI,wR,CG,vQ,zW,Qa,cd,aG,aP,zl,vg,Bh,xl,qd,qa,aI,hx,hy,hce,mW,cE,yz,EW,seval];exact fin _ rfl
def Qm(hn:b.cs.length<=60)(hj:b.cs[j]?=some c)(hP:∃p,P=11+p/\s.r[p]?=some (.fs f)){q:Nat}(hlr:b.rd.length=b.cs.length)(hq:b.rd[j]?=some q)(hx1:(DX .u64 ((mask >>> j:Nat):Int) 1==1)=false)(hx2:(Hh .u64 (q:Int) (mask:Int) != 0)=false)(hm:mask<2 ^ 64)
  (hk:s.k<=s.ox.length) (hk2:s.k<=1000)
  (hf:vm f) {x:mi} (hx:b.l[c.b]?=some x) (ho:rY x.op) (he:c.e=none\/∃e y,c.e=some e/\b.l[e]?=some y/\decide ((oU f x.op).2=y.j4)=true) {s2:TS} {k2:Nat} {t:Bool} (hs2:s2.k=k2+1) (hk3:t=false->k2<=1000) (hL:Da 11 s2.m s2.r) (hP3:P<11+s2.r.length)
  (hin:gT n (.agg (cf (oU f x.op).1)::xO (mask ||| 2 ^ j)::yC) (lZ b ⟨s.m,s.r++[.cl c,.fs (oU f x.op).1,.an (oU f x.op).2],s.ov+1,s.ox.take s.k++[c.b],s.k+1⟩)=some (.bool t,lZ b s2)) :
  qX n B b mask P j (lZ b s)=if t then CJ B true (lZ b s2) else qX n B b mask P (j+1) (lZ b { s2 with k:=k2 }):=by
 have hjl:j<b.cs.length:=(aj.1 hj).1;have cJ:((j:Int)<(b.cs.length:Int))=True:=su;have hlt2:((j:Int)<((b.rd.length-0:Nat):Int))=True:=su;have hsh:=Xl (m:=mask) (k:=j) aJ;simp only[dN] at hsh;have hsl:=Xk (k:=j) aJ;simp only[dN] at hsl;have hor:=SV hm (n:=2 ^ j) (lB aJ aJ);obtain⟨p,hP1,hP2⟩:=hP;have hpl:=(aj.1 hP2).1
 have hnP:∀(a0 a1 a2 a3 a4 a5 a6 a7 a8 a9 a10:cL)(X:aC),nth (a0::a1::a2::a3::a4::a5::a6::a7::a8::a9::a10::(s.r.map B3++X)) P=some (cC (cf f)):=fun a0 a1 a2 a3 a4 a5 a6 a7 a8 a9 a10 X=>by
  rw[fc,hP1,show 11+p=p+11 by omega]
  simp only[cZ];rw[aN (by simpa using hpl),aX,hP2]; rfl
 have qd:=fun M=>lT (n:=n) (k29 f x.op hf ho M)
 have hae:=CS hf x.op;simp only[eT,cE] at qd;have fin:=fun bp (he:jq bp NA=A3 b mask P j)=>BB (n:=n) (B:=B) (b:=b) (mask:=mask) (P:=P) (j:=j) (s:={ s2 with k:=k2 }) aJ hL hP3 he
 have hin':=Kd hin;obtain⟨m2,r2,ov2,ox2,k2'⟩:=s2;simp only at hs2;subst hs2;unfold qX;rw[vz];simp only[A3,NA,lZ,aW,aH,aQ,eP,B3,cE] at fin hin' ⊢;have rm:ct (s.k+1) 8=True:=qM;have hne:k2+1-0=k2+1:=rfl;have hwk:t=false->IntKind.i64.wrap (((k2+1:Nat):Int)-1)=(k2:Int):=fun ht=>by have:=hk3 ht; rw[gA aJ aJ]; omega
 have hck:((k2:Int)<((k2+1:Nat):Int))=True:=su;have hkl:(s.k<=s.ox.length)=True:=eq_true hk;have wdT:wid (List.take s.k (List.map lq s.ox)) 1=True:=by rw[<-eP]; exact pr lq _ (fun _=>rfl) _
 rcases he with he|⟨e,y,he,hy,ha⟩
 ·have hce:rD c = -1:=by unfold rD; rw[he]
  cases t
  ·have hwk:=hwk rfl;simp only[Oo,↓wx,↓HE,cJ,hlt2,hj,hq,hsh,hsl,hor,rm,wdT,hne,hwk,hck,hkl,hin',hx1,hx2,hnP,Ac,EE,Ej,EF,Ek,EG,jX,kQ,BN,Xi,Lc,kI,wR,CG,vQ,zW,Qa,cd,aG,aP,zl,vg,Bh,xl,qd,aI,hx,hce,mW,cE,yz,EW,seval];exact fin _ rfl
  ·simp only[Oo,↓wx,↓HE,cJ,hlt2,hj,hq,hsh,hsl,hor,rm,wdT,hne,hck,hkl,hin',hx1,hx2,hnP,Ac,EE,Ej,EF,Ek,EG,jX,kQ,BN,Xi,Lc,kI,wR,CG,vQ,zW,Qa,cd,aG,aP,zl,vg,Bh,xl,qd,aI,hx,hce,mW,cE,yz,EW,seval]
   done
 ·have hce:rD c=(e:Int):=by unfold rD; rw[he]
  have qa:=fun M=>lT (n:=n) (lE (k35 (oU f x.op).2 y.j4 (by have:=hae.names; omega) (by have:=hae.data; omega) M))
  simp only[ha,cE] at qa;cases t
  ·have hwk:=hwk rfl;simp only[Oo,↓wx,↓HE,cJ,hlt2,hj,hq,hsh,hsl,hor,rm,wdT,hne,hwk,hck,hkl,hin',hx1,hx2,hnP,Ac,EE,Ej,EF,Ek,EG,jX,kQ,BN,Xi,Lc,kI,wR,CG,vQ,zW,Qa,cd,aG,aP,zl,vg,Bh,xl,qd,qa,hy,aI,hx,hce,mW,cE,yz,EW,seval];exact fin _ rfl
  ·simp only[Oo,↓wx,↓HE,cJ,hlt2,hj,hq,hsh,hsl,hor,rm,wdT,hne,hck,hkl,hin',hx1,hx2,hnP,Ac,EE,Ej,EF,Ek,EG,jX,kQ,BN,Xi,Lc,kI,wR,CG,vQ,zW,Qa,cd,aG,aP,zl,vg,Bh,xl,qd,qa,hy,aI,hx,hce,mW,cE,yz,EW,seval]
   done
end
section
attribute [local irreducible] eX fJ lu gK eb kr aq aU cq bI
variable {n B:Nat} {b:Bs} {mask P:Nat} {s:TS} {f:aa}
def rowsOf(o:Option (Nat×List aa)):ag:=match o with
 |none => .slice .c0 []
 |some p => .slice (.own p.1) (p.2.map O5)
def NZ(o:Option (Nat×List aa)):(rowsOf o).fT = gG (((o.map Prod.snd).getD []).map O5):=by cases o<;>rfl
def anN(f:aa):(cf f).all ag.plainCell=true:=rfl
def ad4(l:List aa):wid (l.map O5) 10=True:=pr O5 _ (fun _=>rfl) l
def JO(o:Option (Nat×List aa)):(rowsOf o).jo=false:=by cases o<;>rfl
def VD(o:Option (Nat×List aa)):po (.slice .c0 []) false (o.map Lh)=rowsOf o:=by cases o<;>rfl
def IJ(hw:(DX .u64 (mask:Int) (b.E:Int)==(b.E:Int))=true):eX (aq (rp n)) [.tmp 11] B [] (sub Kl 0) (eH 0 (.agg (cf f)::xO mask::yC)) (lZ b s)=CJ B true (lZ b { s with r:=s.r++[.fs f] }):=by
 simp only[yC,lZ,aW,aH,aQ,B3];simp only[Oo,↓anZ,hw,vQ,EW,seval]
def DC(hw:(DX .u64 (mask:Int) (b.E:Int)==(b.E:Int))=false)(hf:vm f){x:Bool}(hx:((((eZ s.m (mask:Int)).map Prod.snd).getD []).any fun g=>decide (f=g))=x)(hn:(((eZ s.m (mask:Int)).map Prod.snd).getD []).length<=900000) :
  eX (aq (rp n)) [.tmp 11] B [] (sub Kl 0) (eH 0 (.agg (cf f)::xO mask::yC)) (lZ b s)=if x then CJ B false (lZ b { s with r:=s.r++[.fs f] }) else qX n B b mask (s.r.length+11) 0 (lZ b { s with r:=s.r++[.fs f] }):=by
 have qc:=fun {M p} hM=>lT (n:=n) (lE (k32 (((eZ s.m (mask:Int)).map Prod.snd).getD []) f hf hn (M:=M) (p:=p) hM))
 rw[hx] at qc;unfold qX;simp only[yC,A3,NA,lZ,aW,aH,aQ,B3] at qc ⊢;cases x
 ·simp only[Oo,↓W8,hw,vQ,mapOf.eq_1,xx,VD,NZ,JO,qc,Ac,EW,seval];rfl
 ·simp only[Oo,↓W8,hw,vQ,mapOf.eq_1,xx,VD,NZ,JO,qc,Ac,EW,seval]
def PB(hP:∃p,P=11+p/\s.r[p]?=some (.fs f))(hg:eZ s.m (mask:Int)=none):qX n B b mask P b.cs.length (lZ b s)=CJ B false (lZ b { s with m:=kR s.m (mask:Int) (s.r.length+11,[f]),r:=s.r++[.tk 1] }):=by
 obtain⟨p,hP1,hP2⟩:=hP;have hpl:=(aj.1 hP2).1
 have hnP:∀(a0 a1 a2 a3 a4 a5 a6 a7 a8 a9 a10:cL),nth (a0::a1::a2::a3::a4::a5::a6::a7::a8::a9::a10::s.r.map B3) P=some (cC (cf f)):=fun a0 a1 a2 a3 a4 a5 a6 a7 a8 a9 a10=>by
  rw[fc,hP1,show 11+p=p+11 by omega]
  simp only[cZ];rw[aX,hP2]; rfl
 have hput:=Eb Lh s.m (mask:Int) (s.r.length+11,[f]);simp only[Lh,aH,aQ,O5] at hput;have rm:ct (0+1) 176=True:=qM;unfold qX;rw[vz];simp only[A3,NA,lZ,aW,aH,aQ,B3];simp only[Oo,↓W9,bl,hnP,mapOf.eq_1,xx,VD,hg,rowsOf,hput,rm,vQ,wR,kI,xl,anN,aI,ad4,EW,seval]
 done
def LL(hP:∃p,P=11+p/\s.r[p]?=some (.fs f)){id:Nat}{l0:List aa}(hL:Da 11 s.m s.r)(hl0:l0.length<=900000)(hg:eZ s.m (mask:Int)=some (id,l0)):qX n B b mask P b.cs.length (lZ b s)=CJ B false (lZ b { s with m:=kR s.m (mask:Int) (id,l0++[f]),r:=s.r.set (id-11) (.tk (l0.length+1)) }):=by
 obtain⟨p,hP1,hP2⟩:=hP;have hpl:=(aj.1 hP2).1
 have hnP:∀(a0 a1 a2 a3 a4 a5 a6 a7 a8 a9 a10:cL),nth (a0::a1::a2::a3::a4::a5::a6::a7::a8::a9::a10::s.r.map B3) P=some (cC (cf f)):=fun a0 a1 a2 a3 a4 a5 a6 a7 a8 a9 a10=>by
  rw[fc,hP1,show 11+p=p+11 by omega]
  simp only[cZ];rw[aX,hP2]; rfl
 obtain⟨i,hi1,hi2⟩:=hL.at' _ _ _ hg
 have hnI:∀(a0 a1 a2 a3 a4 a5 a6 a7 a8 a9 a10:cL),nth (a0::a1::a2::a3::a4::a5::a6::a7::a8::a9::a10::s.r.map B3) id=some (.tick 10 l0.length):=fun a0 a1 a2 a3 a4 a5 a6 a7 a8 a9 a10=>by
  rw[fc,hi1,show 11+i=i+11 by omega]
  simp only[cZ];rw[aX,hi2]; rfl
 have hsI:∀(a0 a1 a2 a3 a4 a5 a6 a7 a8 a9 a10:cL)(k:Nat),iR (a0::a1::a2::a3::a4::a5::a6::a7::a8::a9::a10::s.r.map B3) id (.tick 10 k)=a0::a1::a2::a3::a4::a5::a6::a7::a8::a9::a10::(s.r.set (id-11) (.tk k)).map B3:=fun a0 a1 a2 a3 a4 a5 a6 a7 a8 a9 a10 k=>by
  rw[fe,hi1,show 11+i=i+11 by omega,show i+11-11=i by omega,gh]; rfl
 have hput:=Eb Lh s.m (mask:Int) (id,l0++[f]);simp only[Lh,aW,aH,aQ,O5] at hput;have e1:po (.slice .c0 []) false (some (Lh (id,l0))) = .slice (.own id) (l0.map O5):=rfl;have rm:ct (l0.length+1) 176=True:=qM;unfold qX;rw[vz];simp only[A3,NA,lZ,aW,aH,aQ,B3];simp only[Oo,↓W9,bl,hnP,hnI,hsI,mapOf.eq_1,xx,hg,dZ,e1,hput,rm,vQ,wR,kI,xl,anN,aI,ad4,EW,seval]
 done
end
def Tb(W:Nat):Nat->Nat
 |0=>0
 |r+1=>1+min r W*Tb W r
def sW(cs:List vl)(i:Nat):Nat:=match cs[i]? with
 |some c=>c.b
 |none=>0
structure Lk(b:Bs):Prop where
 len:b.cs.length<=60
 E:b.E=bitsOf (fun k=>match b.cs[k]? with|some c=>c.e.isSome|none=>false) b.cs.length
 rdl:b.rd.length=b.cs.length
 rd:∀j,j<b.cs.length->b.rd[j]?=some (bitsOf (fun k=>Hs.lN b.cs k j) b.cs.length)
 ev:∀c,c∈b.cs->∃x,b.l[c.b]?=some x/\x.op=c.op/\rY c.op
 nd:∀c,c∈b.cs->∀e,c.e=some e->∃y,b.l[e]?=some y/\y.j4=c.j4
structure Mu(b:Bs)(s s':TS)(lost:Hs.uH aa)(t:Nat)(x:Option (List Nat)×Hs.uH aa):Prop where
 lt:Da 11 s'.m s'.r
 lr:LR s'.m x.2
 len:x.2.length<=lost.length+t
 kept:Kept s.r s'.r
 k:s'.k<=s'.ox.length
 out:s'.ox.take s'.k=s.ox.take s.k++(x.1.getD []).map (sW b.cs)
def Mu.kk{b:Bs}{s s':TS}{lost:Hs.uH aa}{t:Nat}{x:Option (List Nat)×Hs.uH aa}(h:Mu b s s' lost t x)(hk:s.k<=s.ox.length):s'.k=s.k+(x.1.getD []).length:=by
 have:=congrArg List.length h.out;rw[aA,cr,cr,cU,iA h.k] at this;omega
def abR(W:Nat)(b:Bs)(n r:Nat):Prop:=∀(f:aa)(K:Nat)(done:List Nat)(lost:Hs.uH aa)(s:TS),b.cs.length+1=done.length+r->FB K f->K+200*r<=89000->Hs.Good b.cs done->Da 11 s.m s.r->LR s.m lost->lost.length+Tb W r<=900000->s.k<=s.ox.length->s.k+r<=900 ->
 ∃s',gT n (.agg (cf f)::xO (ji done)::yC) (lZ b s)=some (.bool (Hs.wS oU ji b.cs n f done lost).1.isSome,lZ b s')/\Mu b s s' lost (Tb W r) (Hs.wS oU ji b.cs n f done lost)
def tK{b:Bs}(h:Lk b){done:List Nat}(hg:Hs.Good b.cs done):ji done<2 ^ 64:=aaR fun k hk=>by have:=hg.lt k hk; have:=h.len; omega
def afy{b:Bs}(h:Lk b){done:List Nat}(hg:Hs.Good b.cs done)(j:Nat):(DX .u64 ((ji done >>> j:Nat):Int) 1==1)=done.contains j:=by
 rw[akL (tK h hg),nV]
theorem afz{b:Bs}(h:Lk b){done:List Nat}(hg:Hs.Good b.cs done)(j:Nat):(Hh .u64 ((bitsOf (fun k=>Hs.lN b.cs k j) b.cs.length:Nat):Int) (ji done:Int) != 0) = !((List.range b.cs.length).all fun k => !Hs.lN b.cs k j||done.contains k):=by
 have hn:=h.len;have hl:=xZ (fun k=>Hs.lN b.cs k j) (n:=b.cs.length) aJ
 rw[afA hl (tK h hg)];have hz:=Rg hl (tK h hg);rw[bne,Bool.not_inj_iff,cz,eu,bN];have e:((KO (bitsOf (fun k=>Hs.lN b.cs k j) b.cs.length) (ji done):Nat):Int)=0↔KO (bitsOf (fun k=>Hs.lN b.cs k j) b.cs.length) (ji done)=0:=dx
 rw[e,hz];constructor
 ·intro h1 k hk;cases ha:Hs.lN b.cs k j
  ·rfl
  simp_all [vr,nV,er]
 ·intro h1 k hk;rw[vr] at hk;simp only[bw,bh] at hk;have:=h1 k (gj.2 hk.1);rw[hk.2] at this;rw[nV]
  grind
theorem ami{b:Bs}(h:Lk b){done:List Nat}(hg:Hs.Good b.cs done):(DX .u64 (ji done:Int) (b.E:Int)==(b.E:Int))=Hs.BQ b.cs done:=by
 have hn:=h.len;have hl:=xZ (fun k=>match b.cs[k]? with|some c=>c.e.isSome|none=>false) (n:=b.cs.length) aJ
 rw[<-h.E] at hl;have ht:∀k,b.E.testBit k=(decide (k<b.cs.length)&&(match b.cs[k]? with|some c=>c.e.isSome|none=>false)):=fun k=>by rw[h.E,vr]
 rw[SI (tK h hg) hl,cz,eu];have e:((ji done &&& b.E:Nat):Int)=(b.E:Int)↔ji done &&& b.E=b.E:=aJ;rw[e,Yo];unfold Hs.BQ;rw[bN];constructor
 ·intro h1 k hk;rw[gj] at hk;have h2:=h1 k;rw[ht,nV] at h2;have hc:=ai hk;generalize b.cs[k]=c at hc;rw[hc] at h2 ⊢;obtain⟨cb,ce,co,ca⟩:=c;cases ce<;>grind
 ·intro h1 k hk;rw[ht] at hk;simp only[bw,bh] at hk;obtain⟨hk1,hk2⟩:=hk;have h2:=h1 k (gj.2 hk1);have hc:=ai hk1;generalize b.cs[k]=c at hc;rw[nV];obtain⟨cb,ce,co,ca⟩:=c;cases ce<;>grind
def E4(cs:List vl)(done is:List Nat):Nat:=(is.filter fun i=>Hs.Ed cs done i).length
theorem OZ(cs:List vl)(done is:List Nat)(i:Nat):E4 cs done (i::is)=(if Hs.Ed cs done i then 1 else 0)+E4 cs done is:=by
 grind [E4]
theorem aaS{cs:List vl}{done:List Nat}{i:Nat}(h:Hs.Ed cs done i=true):done.contains i=false:=by
 grind [Hs.Ed]
theorem Iw{cs:List vl}{done:List Nat}(hg:Hs.Good cs done):E4 cs done (List.range cs.length)+done.length<=cs.length:=by
 have:Hs.Good cs (((List.range cs.length).filter fun i=>Hs.Ed cs done i)++done):=by
  refine⟨lg.2 ⟨List.nodup_range.filter _,hg.nodup,fun a ha b' hb e=>?_⟩,fun k hk=>?_⟩
  ·have:=aaS (eo.1 ha).2
   grind
  ·rcases bq.1 hk with hk|hk
   ·grind
   ·exact hg.lt k hk
 have:=this.len;rw[aA] at this;exact this
theorem aaP{W:Nat}{b:Bs}(h:Lk b){n r:Nat}(IH:abR W b n r){f:aa}{K P:Nat}{done:List Nat}(hr:b.cs.length+1=done.length+(r+1))(hf:FB K f)(hK:K+200*(r+1)<=89000)(hg:Hs.Good b.cs done) :
  ∀(m j:Nat)(lost:Hs.uH aa)(s:TS),j+m=b.cs.length->Da 11 s.m s.r->LR s.m lost->lost.length+E4 b.cs done (List.range' j m)*Tb W r+1<=900000->(∃p,P=11+p/\s.r[p]?=some (.fs f))->s.k<=s.ox.length->s.k+(r+1)<=900 ->
  ∃s',Mu b s s' lost (E4 b.cs done (List.range' j m)*Tb W r) (Hs.I9 oU b.cs (Hs.wS oU ji b.cs n) f done (List.range' j m) lost) /\
   ∀B,qX n B b (ji done) P j (lZ b s)=if (Hs.I9 oU b.cs (Hs.wS oU ji b.cs n) f done (List.range' j m) lost).1.isSome=true then CJ B true (lZ b s') else qX n B b (ji done) P b.cs.length (lZ b s'):=by
 intro m;induction m with
 |zero =>
  intro j lost s hj hL hR _ _ hk _;refine⟨s,⟨hL,hR,by simp[Hs.I9],.rfl,hk,by simp[Hs.I9]⟩,fun B=>?_⟩
  rw[<-hj];simp[Hs.I9]
 |succ m ih =>
  intro j lost s hj hL hR hc hP hk hk9;have hjl:j<b.cs.length:=aJ;have hcj:=ai hjl;generalize b.cs[j]=c at hcj;have hcm:c∈b.cs:=aE hcj;have dQ:=h.len;obtain⟨p,hp1,hp2⟩:=hP;have hpl:=(aj.1 hp2).1;have hx1:=afy h hg j;have hx2:=afz h hg j;have hmk:=tK h hg;rw[List.range'_succ] at hc ⊢;rw[OZ] at hc ⊢;have hmay:Hs.Ed b.cs done j=(!done.contains j&&(List.range b.cs.length).all fun k => !Hs.lN b.cs k j||done.contains k):=rfl
  generalize hX:Hs.I9 oU b.cs (Hs.wS oU ji b.cs n) f done (j::List.range' (j+1) m) lost=X;rw[Hs.I9,hcj] at hX;simp only at hX;cases hm:Hs.Ed b.cs done j
  ·-- it may not come
   rw[hm] at hc;simp only[af,aD,aK] at hc ⊢;obtain⟨s',ha,hh⟩:=ih (j+1) lost { s with r:=s.r++[.cl c] } aJ (hL.app _) hR hc ⟨p,hp1,by rw[aN hpl]; exact hp2⟩ hk hk9
   rw[hm,cI,aR dx] at hX;subst hX;refine⟨s',⟨ha.lt,ha.lr,ha.len,(Kept.app _ _).trans ha.kept,ha.k,ha.out⟩,fun B=>?_⟩
   rw[step_skip dQ hcj hL aJ h.rdl (h.rd j hjl) hx1 hx2 (by
    rw[hm] at hmay;have:=hmay.symm;cases hd:done.contains j
    ·rw[hd] at this;simpa using this
    ·rfl)]
   exact hh B
  ·rw[hm] at hmay hX hc
   have hnd:done.contains j=false:=by
    cases hd:done.contains j
    ·rfl
    ·rw[hd] at hmay; cases hmay
   have hall:((List.range b.cs.length).all fun k => !Hs.lN b.cs k j||done.contains k)=true:=by
    rw[hnd] at hmay; simpa using hmay.symm
   rw[hnd] at hx1;rw[hall] at hx2;obtain⟨x,hx,hxo,hoo⟩:=h.ev c hcm;simp only[aI] at hc ⊢;rw[bQ,fM] at hc ⊢;cases ha:Hs.KE oU f c
   ·-- it answers otherwise
    have hansF:=ha;simp only[Hs.KE,jP] at ha;obtain⟨ha1,ha2⟩:=ha
    obtain⟨e,he⟩:∃e,c.e=some e:=by
     cases he:c.e with
     |none=>rw[he] at ha1; cases ha1
     |some e=>exact⟨e,rfl⟩
    obtain⟨y,hy,hya⟩:=h.nd c hcm e he;obtain⟨s',hA,hh⟩:=ih (j+1) lost { s with r:=s.r++[.cl c,.fs (oU f x.op).1,.an (oU f x.op).2] } aJ (hL.app _) hR aJ ⟨p,hp1,by rw[aN hpl]; exact hp2⟩ hk hk9
    rw[hansF,dR,aR dx] at hX;subst hX;refine⟨s',⟨hA.lt,hA.lr,by have:=hA.len; omega,(Kept.app _ _).trans hA.kept,hA.k,hA.out⟩,fun B=>?_⟩
    rw[Xu dQ hcj hL ⟨p,hp1,hp2⟩ h.rdl (h.rd j hjl) hx1 hx2 hf.ok hx (by rw[hxo]; exact hoo) he hy (by rw[hxo,hya]; exact ha2)]
    exact hh B
   ·-- it may be the next one
    rw[ha,jO,aZ rfl] at hX;have hfb:=La hf aJ c.op
    have hg':Hs.Good b.cs (done++[j]):=by
     refine⟨lg.2 ⟨hg.nodup,dx,fun a ha' b' hb e=>?_⟩,fun k hk=>?_⟩
     ·grind
     ·rcases bq.1 hk with hk|hk
      ·exact hg.lt k hk
      ·simp at hk; omega
    obtain⟨s2,hin,hA⟩:=IH (oU f c.op).1 (K+200) (done++[j]) lost ⟨s.m,s.r++[.cl c,.fs (oU f c.op).1,.an (oU f c.op).2],s.ov+1,s.ox.take s.k++[c.b],s.k+1⟩ (by rw[aA]; simp; omega) hfb aJ hg' (hL.app _) hR aJ (by rw[aA,cr,iA hk]; simp) (by simp only; omega)
    have hk0:(⟨s.m,s.r++[.cl c,.fs (oU f c.op).1,.an (oU f c.op).2],s.ov+1,s.ox.take s.k++[c.b],s.k+1⟩:TS).k<=(s.ox.take s.k++[c.b]).length:=by rw[aA,cr,iA hk]; simp
    have hkk:=hA.kk hk0;have hout:=hA.out;rw[<-PL] at hin;have hkept:=(Kept.app s.r [.cl c,.fs (oU f c.op).1,.an (oU f c.op).2]).trans hA.kept;have hP2:s2.r[p]?=some (.fs f):=hkept.at' p _ hp2 (fun _ h=>by cases h)
    have hst:∀B,_:=fun B=>Qm (n:=n) (B:=B) (P:=P) dQ hcj ⟨p,hp1,hp2⟩ h.rdl (h.rd j hjl) hx1 hx2 hmk hk aJ hf.ok hx (by rw[hxo]; exact hoo) (by
     rw[hxo];simp only[Hs.KE,df] at ha;cases he:c.e with
     |none=>exact .inl rfl
     |some e =>
      obtain⟨y,hy,hya⟩:=h.nd c hcm e he
      grind) (s2:=s2) (k2:=s2.k-1) (t:=(Hs.wS oU ji b.cs n (oU f c.op).1 (done++[j]) lost).1.isSome) (by simp only at hkk; omega) (fun ht=>by
      have e:(Hs.wS oU ji b.cs n (oU f c.op).1 (done++[j]) lost).1=none:=by
       simp_all
      rw[e] at hkk;simp at hkk; omega) hA.lt (by have:=hkept.len; omega) (by rw[hxo]; exact hin)
    generalize Hs.wS oU ji b.cs n (oU f c.op).1 (done++[j]) lost=T at hA hkk hout hst hX;obtain⟨o,l⟩:=T;cases o with
    |some o =>
     simp only at hX;subst hX;simp only[bW,aI] at hst ⊢;refine⟨s2,⟨hA.lt,hA.lr,by have:=hA.len; simp only at this ⊢; omega,hkept,hA.k,?_⟩,hst⟩
     rw[hout];simp only[bz,aH];rw[bB (by rw[aA,cr,iA hk]; simp),cd]
     simp only[sW,hcj,aG,aP]
    |none =>
     simp only at hX;subst hX;simp only[cY,af,aD,hZ,aQ,dg,az,dp] at hst hout hkk ⊢;have hk1:s2.k-1=s.k:=aJ;rw[hk1] at hst
     have htk:s2.ox.take s.k=s.ox.take s.k:=by
      have:=congrArg (List.take s.k) hout;rw[List.take_take,iA aJ] at this;rw[this,bB (l:=s.ox.take s.k++[c.b]) (by rw[aA,cr,iA hk]; simp),fO (by rw[cr,iA hk]; exact au _),List.take_take,Nat.min_self]
     have hA2:=hA.len;simp only at hA2;obtain⟨s',hA3,hh⟩:=ih (j+1) l { s2 with k:=s.k } aJ hA.lt hA.lr aJ ⟨p,hp1,hP2⟩ (by have:=hA.k; simp only; omega) hk9
     refine⟨s',⟨hA3.lt,hA3.lr,by have:=hA3.len; omega,hkept.trans hA3.kept,hA3.k,?_⟩,fun B=>(hst B).trans (hh B)⟩
     rw[hA3.out];simp only[htk]
def D3{b:Bs}{n:Nat}{a:List ag}{s s':TS}{t:Bool}(hl:a.length=9)(h:∀B,eX (aq (rp n)) [.tmp 11] B [] (sub Kl 0) (eH 0 a) (lZ b s)=CJ B t (lZ b s'))(hL:Da 11 s'.m s'.r)(hk:s.r.length<=s'.r.length):gT (n+1) a (lZ b s)=some (.bool t,lZ b s'):=by
 have:=Zm (C:=aq (rp n)) (fn:=afo) (args:=a) (M:=lZ b s) (M':=lZ b s') (v := .bool t) (by rw[hl]; rfl) h (by rw[z7,z7]; omega)
 rw[Fw b hL] at this;exact this
def XC{W:Nat}{b:Bs}(h:Lk b)(hW:∀done,Hs.Good b.cs done->E4 b.cs done (List.range b.cs.length)<=W):∀n r:Nat,r<=n->abR W b n r
 |n,0,_=>fun f K done lost s hr _ _ hg=>by have:=hg.len; omega
 |0,r+1,hn=>aJ
 |n+1,r+1,hn=>fun f K done lost s hr hf hK hg hL hR hc hk hk9=>by
  have hmk:=tK h hg;have hw:=ami h hg;rw[Hs.wS];rw[Tb] at hc ⊢;cases hwb:Hs.BQ b.cs done
  rotate_left
  ·rw[aZ rfl];refine⟨{ s with r:=s.r++[.fs f] },D3 rfl (fun B=>IJ (by rw[hw,hwb])) (hL.app _) dx,⟨hL.app _,hR,dx,Kept.app _ _,hk,dx⟩⟩
  rw[aR dx];have hany:=hR.any (ji done) f
  have hrows:(((eZ s.m (ji done:Int)).map Prod.snd).getD []).length<=lost.length:=by
   rw[hR (ji done),cU]; exact bU _ _
  cases hla:lost.any (fun p=>p.1==ji done&&decide (p.2=f))
  rotate_left
  ·rw[aZ rfl];rw[hla] at hany;refine⟨{ s with r:=s.r++[.fs f] },D3 rfl (fun B=>?_) (hL.app _) dx,⟨hL.app _,hR,dx,Kept.app _ _,hk,dx⟩⟩
   rw[DC (x:=true) (by rw[hw,hwb]) hf.ok hany.symm aJ]
   rfl
  rw[aR dx];rw[hla] at hany;have hcn:=Iw hg;have hcw:=hW done hg;rw[lA] at hcn hcw ⊢;have hcb:E4 b.cs done (List.range' 0 b.cs.length)*Tb W r<=min r W*Tb W r:=bd _ aJ;obtain⟨s1,hA,hh⟩:=aaP h (XC h hW n r aJ) (P:=11+s.r.length) hr hf hK hg b.cs.length 0 lost { s with r:=s.r++[.fs f] } aJ (hL.app _) hR aJ ⟨s.r.length,rfl,dx⟩ hk hk9
  generalize Hs.I9 oU b.cs (Hs.wS oU ji b.cs n) f done (List.range' 0 b.cs.length) lost=X at hA hh;obtain⟨o,l⟩:=X
  have hen:∀B,eX (aq (rp n)) [.tmp 11] B [] (sub Kl 0) (eH 0 (.agg (cf f)::xO (ji done)::yC)) (lZ b s)=qX n B b (ji done) (11+s.r.length) 0 (lZ b { s with r:=s.r++[.fs f] }):=fun B=>by
   rw[DC (x:=false) (by rw[hw,hwb]) hf.ok hany.symm aJ,Nat.add_comm]
   rfl
  have hk1:=(Kept.app s.r [.fs f]).trans hA.kept;cases o with
  |some o =>
   simp only[bW,aI] at hh ⊢;refine⟨s1,D3 rfl (fun B=>(hen B).trans (hh B)) hA.lt hk1.len,⟨hA.lt,hA.lr,by have:=hA.len; simp only at this ⊢; omega,hk1,hA.k,hA.out⟩⟩
  |none =>
   simp only[cY,af,aD] at hh ⊢;have hP1:s1.r[s.r.length]?=some (.fs f):=hA.kept.at' s.r.length _ dx (fun _ h=>by cases h)
   have hlr:=hA.lr;have dQ:=hA.len;simp only at hlr dQ
   have hrows1:(((eZ s1.m (ji done:Int)).map Prod.snd).getD []).length<=l.length:=by
    rw[hlr (ji done),cU]; exact bU _ _
   have hadd:=fun id=>hlr.add (ji done) f id
   cases hgm:eZ s1.m (ji done:Int) with
   |none =>
    have hadd:=hadd (s1.r.length+11);rw[hgm] at hadd;have cJ:=hA.lt.new hgm f;rw[Nat.add_comm 11] at cJ;refine⟨{ s1 with m:=kR s1.m (ji done:Int) (s1.r.length+11,[f]),r:=s1.r++[.tk 1] },D3 rfl (fun B=>(hen B).trans ((hh B).trans (PB ⟨_,rfl,hP1⟩ hgm))) cJ (by have:=hk1.len; simp only[aA]; omega),⟨cJ,hadd,by simp only[aA,aw,az]; omega,hk1.trans (Kept.app _ _),hA.k,hA.out⟩⟩
   |some v =>
    obtain⟨id,l0⟩:=v;have hadd:=hadd id;rw[hgm] at hadd hrows1;have cJ:=hA.lt.more hgm f;obtain⟨i,hi1,hi2⟩:=hA.lt.at' _ _ _ hgm
    have hks:Kept s1.r (s1.r.set (id-11) (.tk (l0.length+1))):=by
     rw[show id-11=i by omega]
     exact Kept.set hi2 _
    refine⟨{ s1 with m:=kR s1.m (ji done:Int) (id,l0++[f]),r:=s1.r.set (id-11) (.tk (l0.length+1)) },D3 rfl (fun B=>(hen B).trans ((hh B).trans (LL ⟨_,rfl,hP1⟩ hA.lt (by simp only[dZ,bz] at hrows1; omega) hgm))) cJ (by have:=(hk1.trans hks).len; exact this),⟨cJ,hadd,by simp only[aA,aw,az]; omega,hk1.trans hks,hA.k,hA.out⟩⟩
end Go.Proofs.YteoamaffclmdbaaGreatDoor
