import Derived.Test.YteoamaffclmdbaaGreatDoorHlaE
set_option linter.all false
open Go.Proofs.Tryz
namespace Go.Proofs.YteoamaffclmdbaaGreatDoor
open Go Go.Abs
def Th{l:List Node}(h:o6 l){i j:Nat}{n m:Node}(hi:l[i]?=some n)(hj:l[j]?=some m)(e:n.ar=m.ar):i=j:=by
 obtain⟨i1,i2⟩:=aj.1 hi;obtain⟨j1,j2⟩:=aj.1 hj;have hp:=cn.1 h;rcases ik i j with cQ|rfl|cQ
 ·have:=hp i j i1 j1 cQ; rw[i2,j2] at this; omega
 ·rfl
 ·have:=hp j i j1 i1 cQ; rw[i2,j2] at this; omega
def XP{s:iQ}(hs:o6 s.now.ae)(hl:s.since.length=s.now.ae.length)(T:Int)(n:Node):(∃(j:Nat),s.now.ae[j]?=some n/\s.since[j]?=some (rL s T n))\/(find s.now.ae n.ar≠some n/\rL s T n=T):=by
 unfold rL;rcases CW hs n.ar with ⟨_,h2,h3,h4⟩|⟨_,h2,h3⟩
 ·by_cases e:n=bl s.now.ae n.ar
  ·left;have hj:=(aj.1 h3).1;refine⟨_,by rw[h3,<-e],?_⟩
   rw[aZ (by rw[h2]; simp[<-e])]
   rw[lg,ai aH]; rfl
  ·right;rw[aQ (by simp[e]),h4]
   exact⟨fun hh=>e (by injection hh with hh; exact hh.symm),rfl⟩
 ·right;rw[h3,aQ (by rw[h2]; simp)]
  simp
def Ct{t:Tree}{tk:List mR}{c:Int}:∀(l:List Node)(y:List Int)(n:Node)(x:Int),l.length=y.length->lR t tk c (l++[n]) (y++[x])=lR t tk c l y++lR t tk c [n] [x]
 | [],[],n,x,_=>by simp[lR]
 |a::l,b::y,n,x,h=>by simp only[aG,lR,Ct l y n x (by simpa using h),cm]
def Stp(P:Int->Prop)(s u:iQ):Prop:=u=s\/(∃t,Rt t/\u=qz s t)\/(∃i,u=(takeN s i).1)\/∃d,P d/\u=(ru s d).1
def abH(s:iQ)(t:Tree)(c:Int):List py:=s.eR++lR t s.dW c s.now.ae s.since
section
attribute [local irreducible] eS fI lx gK dZ kr aq aR cu bJ
def c86(l:List mR)(a b:Int)(hn:l.length<=100000):aq bX 86 [kB l,aD a,aD b] []=some (.bool (xJ l a b),[]):=by
 refine aB ?_;simp only[amB,E86,EW,seval];refine A8 (xs:=l) aH (fun post (_:Unit)=>post.any (zq a b)) (fun _ i=>[(0,kB l),(1,aD a),(2,aD b),(7,aD i)]) (fun _=>[]) (fun z=>some (ag.bool z,([]:aC))) (fun _=>?_) (fun pre x post _ e hx cQ hw h0 hm hi=>?_) ()
 ·simp only[E86,bq,o7,EW,seval]
 ·have i1:=hi ();rw[jV,zq]
  cases h1:decide (a<=x.at')<;>cases h2:decide (x.at'<b) <;>
   simp only[E86,cQ,hx,hw,h0,h1,h2,kU,iC,dR,cW,cK,dL,c8,EW,seval]<;>exact i1
def k86 l a b hn:=cP (c86 l a b hn)
abbrev Kh(s:iQ)(t:Tree):aC:=[.cells (bM s),.cells [ba t.ae,.int .i64 t.next,.int .i64 t.ak],.cells [.slice .c0 [],.int .i64 0,.int .i64 0,.int .i64 0,.slice .c0 [],.slice .c0 [],.slice .c0 [],.int .i64 0]]
abbrev Kg(c:Int):Env:=[(2,.ptr 0 0),(3,.ptr 1 0),(4,.ptr 2 0),(5,.int .i64 c)]
section
variable {s:iQ} {t:Tree} {Q:ag×aC->Prop} {c:Int}
def abc(hs:Rt s.now)(ht:Rt t)(hl:s.since.length=s.now.ae.length)(hk:s.dW.length<=16)(hp:s.eR.length<=90000){k:List K}
  (hx:∀z,∃r,Q r/\kr (aq bX) [.dQ 4 8] 0 k ⟨.exit 0,Kg c++(6,.slice (.own 3) ((abH s t c).map ma))::z,Kh s t++[.tick 8 (abH s t c).length]⟩=some r) :
  ∃r,Q r/\eS (aq bX) [.dQ 4 8] 0 k (.loop [2,3,4,5,6,7] ahz) (Kg c++[(6,.slice (.own 3) (s.eR.map ma)),(7,aD 0)]) (Kh s t++[.tick 8 s.eR.length])=some r:=by
 have h200:=hs.sz.ae;refine jc (xs:=s.now.ae) aH (fun m (P:List py)=>P.length<=s.eR.length+m/\P=s.eR++lR t s.dW c (s.now.ae.take m) (s.since.take m)) (fun P i=>Kg c++[(6,.slice (.own 3) (P.map ma)),(7,aD i)]) (fun P=>Kh s t++[.tick 8 P.length]) Q (fun P hP=>?_) (fun pre x post P e hx' cQ hw h0 hm hP hi=>?_) s.eR ⟨av _,by simp[lR]⟩
 ·have hP:=hP.2;rw[bE,<-hl,bE] at hP;have hP:abH s t c=P:=hP.symm;simp only[hP,Kh,Kg,bM,aG,aP] at hx ⊢;simp only[Q3,bq,EW,seval];exact hx _
 ·have hlx:=(aj.1 hx').1;obtain⟨y,hy⟩:∃y,s.since[pre.length]?=some y:=⟨_,ai aH⟩;have qg:=fun M=>Bp t.ae t.next t.ak x.ar (by have:=ht.sz.ae; omega) M
  have hc:lR t s.dW c [x] [y]=if (!(find t.ae x.ar).isSome || !decide (x=(find t.ae x.ar).getD Node.zero))&&xJ s.dW y c then [⟨y,c,x⟩] else []:=by
   rw[lR,lR,dz]
   ·rcases CW ht.lL.ml x.ar with ⟨_,h2,_,h4⟩|⟨_,h2,h4⟩
    ·have e1:decide (YV t.ae x.ar<0)=false:=by rw[h2]; simp
     rw[e1,h4]; rfl
    ·rw[h2,h4]; simp
   ·rintro _ _ _ _ ⟨⟩
  have hi:=hi (P++lR t s.dW c [x] [y]) ⟨by
   have:=(BC t s.dW c [x] [y]).1;simp only[aA,au,az] at this ⊢; omega,by
   rw[cD,cD,hx',hy];simp only[kJ];rw[Ct _ _ _ _ gr,<-cm,<-hP.2]⟩
  rw[hc] at hi;generalize (find t.ae x.ar).getD Node.zero=n at qg hi;generalize (find t.ae x.ar).isSome=b at qg hi;have qs:=fun M=>k88 x n (by have:=(hs.Yn hm).1; omega) M
  have qw:=fun M=>k86 s.dW y c aH M
  generalize decide (x=n)=d at qs hi;generalize xJ s.dW y c=w at qw hi;have r1:cB (P.length+1) 96=True:=qV;simp only[Kh,Kg,bM,aG,aP,aL] at hi qs ⊢;cases b<;>cases d<;>cases w<;>simp only[cv,dH,eu,fF,gd,dR,cW,cK,af,aF,aE,dz,aW,aK,aV,aA,au,az,aI,ma,mJ,aL] at hi<;>simp only[Q3,cQ,hx',hy,hw,h0,qg,qs,qw,r1,bL,aL,mS,EW,seval]<;>exact hi
def abd(hs:Rt s.now)(hl:s.since.length=s.now.ae.length){P:List py}{S:List Int}{i:Nat}{n:Node}(hn:t.ae[i]?=some n){k:List K}
  (hx:∀z,∃r,Q r/\kr (aq bX) [.dQ 4 8] 0 k ⟨.exit 4,Kg c++(6,.slice (.own 3) (P.map ma))::(11,.slice (.own 4) (S.map mS))::(12,aD i)::(13,aD (rL s c n))::z,Kh s t++[.tick 8 P.length,.tick 1 S.length]⟩=some r) :
  ∃r,Q r/\eS (aq bX) [.dQ 4 8] 0 k (.loop [2,3,4,5,6,11,12,13,14] ahA) (Kg c++[(6,.slice (.own 3) (P.map ma)),(11,.slice (.own 4) (S.map mS)),(12,aD i),(13,aD c),(14,aD 0)]) (Kh s t++[.tick 8 P.length,.tick 1 S.length])=some r:=by
 have h200:=hs.sz.ae;have b1:((i:Int)<0)=False:=dw;refine jc (xs:=s.now.ae) aH (fun m (x:Int)=>(x=c/\∀(j:Nat),j<m->s.now.ae[j]?≠some n)\/∃j:Nat,j<m/\s.now.ae[j]?=some n/\s.since[j]?=some x) (fun(x:Int) j=>Kg c++[(6,.slice (.own 3) (P.map ma)),(11,.slice (.own 4) (S.map mS)),(12,aD i),(13,aD x),(14,aD j)]) (fun _=>Kh s t++[.tick 8 P.length,.tick 1 S.length]) Q (fun x hI=>?_) (fun pre m post x e hx' cQ hw h0 hm hI hi=>?_) c (.inl ⟨rfl,fun j hj=>aH⟩)
 ·have he:x=rL s c n:=by
   rcases XP hs.lL.ml hl c n with ⟨j,j1,j2⟩|⟨j1,j2⟩<;>rcases hI with ⟨h1,h2⟩|⟨i,h1,h2,h3⟩
   ·exact absurd j1 (h2 j (aj.1 j1).1)
   ·have:=Th hs.lL.ml j1 h2 rfl;subst this;rw[j2] at h3; injection h3 with h3; exact h3.symm
   ·rw[h1,j2]
   ·exact absurd ((ic hs.lL.ml).2 ⟨aJ h2,rfl⟩) j1
  subst he;simp only[Kh,Kg,bM,aG,aP] at hx ⊢;simp only[Q3,bq,EW,seval];exact hx _
 ·have hlx:=(aj.1 hx').1;obtain⟨y,hy⟩:∃y,s.since[pre.length]?=some y:=⟨_,ai aH⟩;have qs:=fun M=>k88 m n (by have:=(hs.Yn hm).1; omega) M
  have i1:m≠n->_:=fun hne=>hi x (by
   rcases hI with ⟨h1,h2⟩|⟨j,h1,h2⟩
   ·refine .inl ⟨h1,fun j hj=>?_⟩
    by_cases e:j=pre.length
    ·rw[e,hx']; exact fun hh=>hne (by injection hh)
    ·exact h2 j aH
   ·exact .inr ⟨j,aH,h2⟩)
  have i2:m=n->_:=fun he=>hi y (.inr ⟨pre.length,aH,by rw[hx',he],hy⟩)
  simp only[Kh,Kg,bM,aG,aP,aL] at i1 i2 qs ⊢
  by_cases hd:m=n
  ·rw[iR hd] at qs;simp only[Q3,cQ,hx',hy,hn,b1,hw,h0,qs,bL,aL,mS,EW,seval];exact i2 hd
  ·rw[gn hd] at qs;simp only[Q3,cQ,hx',hy,hn,b1,hw,h0,qs,bL,aL,mS,EW,seval];exact i1 hd
def abe(hs:Rt s.now)(ht:Rt t)(hl:s.since.length=s.now.ae.length){P:List py}{k:List K}
  (hx:∀z,∃r,Q r/\kr (aq bX) [.dQ 4 8] 0 k ⟨.exit 2,Kg c++(6,.slice (.own 3) (P.map ma))::(11,.slice (.own 4) ((t.ae.map (rL s c)).map mS))::z,Kh s t++[.tick 8 P.length,.tick 1 (t.ae.map (rL s c)).length]⟩=some r) :
  ∃r,Q r/\eS (aq bX) [.dQ 4 8] 0 k (.loop [2,3,4,5,6,11,12] ahB) (Kg c++[(6,.slice (.own 3) (P.map ma)),(11,.slice (.own 4) []),(12,aD 0)]) (Kh s t++[.tick 8 P.length,.tick 1 0])=some r:=by
 have h200:=ht.sz.ae;refine jc (xs:=t.ae) aH (fun m (S:List Int)=>S=(t.ae.take m).map (rL s c)) (fun S i=>Kg c++[(6,.slice (.own 3) (P.map ma)),(11,.slice (.own 4) (S.map mS)),(12,aD i)]) (fun S=>Kh s t++[.tick 8 P.length,.tick 1 S.length]) Q (fun S hS=>?_) (fun pre n post S e hx' cQ hw h0 hm hS hi=>?_) [] rfl
 ·rw[bE] at hS;simp only[<-hS,Kh,Kg,bM,aG,aP] at hx ⊢;simp only[Q3,bq,EW,seval];exact hx _
 ·have hlx:=(aj.1 hx').1;have hSl:S.length=pre.length:=by rw[hS]; simp; omega
  have lb:=fun {k} h2=>abd (s:=s) (t:=t) (Q:=Q) (c:=c) hs hl (P:=P) (S:=S) hx' (k:=k) h2
  have r1:cB (S.length+1) 8=True:=qV;have i1:=hi (S++[rL s c n]) (by rw[cD,hx',hS]; simp)
  simp only[Kh,Kg,bM,aG,aP,aW,aK,aV,aA,au,az,aI,mS] at lb i1 ⊢;simp only[Q3,cQ,EW,seval];refine lb (fun z=>?_)
  simp only[Q3,hw,r1,uG,mS,EW,seval];exact i1
end
def c49(s:iQ)(t:Tree)(hs:Rt s.now)(ht:Rt t)(hl:s.since.length=s.now.ae.length)(hk:s.dW.length<=16)(hp:s.eR.length<=90000):aq bX 49 [.agg (bM s),br t] []=some (.agg (bM (qz s t)),[]):=by
 have key:∃r:ag×aC,r=(.agg (bM (qz s t)),[])/\eS (aq bX) PC.results 0 [] PC.body (ef 0 [.agg (bM s),br t]) []=some r:=by
  have h200:=hs.sz.ae;have qs:=fun M=>k87 s.now t aH (fun n hn=>by have:=(hs.Yn hn).1; omega) M
  unfold qz;cases hd:decide (s.now=t)<;>rw[hd] at qs
  ·have la:=fun {k Q} hx=>abc (s:=s) (t:=t) (Q:=Q) (c:=IntKind.i64.wrap (s.tick+1)) hs ht hl hk hp (k:=k) hx
   have r1:cB s.eR.length 96=True:=qV;simp only[Kh,Kg,bM,aG,aP] at la;simp only[PC,Q3,bM,br,aM,qs,r1,EW,seval];refine la (fun z=>?_)
   have lc:=fun {k Q} hx=>abe (s:=s) (t:=t) (Q:=Q) (c:=IntKind.i64.wrap (s.tick+1)) hs ht hl (P:=abH s t (IntKind.i64.wrap (s.tick+1))) (k:=k) hx
   simp only[Kh,Kg,bM,aG,aP] at lc;simp only[Q3,EW,seval];refine lc (fun z=>?_)
   simp only[Q3,af,aE,EW,seval];exact⟨_,rfl,rfl⟩
  ·simp only[PC,Q3,bM,br,aM,qs,aF,EW,seval];exact⟨_,rfl,rfl⟩
 obtain⟨_,rfl,h3⟩:=key;exact aB h3
def c79(s:iQ)(ar:Int)(hs:s.now.ae.length<=100000)(hk:s.dW.length<=16):∃i e,aq bX 79 [.agg (bM s),aD ar] []=some (.tuple [.agg (bM (takeN s ar).1),aD i,aD e],[]):=by
 have qg:=fun M=>Bp s.now.ae s.now.next s.now.ak ar hs M
 unfold takeN bl;generalize (find s.now.ae ar).getD Node.zero=n at qg;cases h1:(find s.now.ae ar).isSome<;>rw[h1] at qg
 ·refine⟨0,70,aB ?_⟩;simp only[LO,E79,bM,bL,aL,qg,dH,aF,EW,seval]
 cases h2:n.kind != 2
 case true =>
  refine⟨0,73,aB ?_⟩;simp only[LO,E79,bM,bL,aL,qg,h2,cv,af,aF,aE,EW,seval]
 simp only[p8];cases h3:decide (16<=(s.dW.length:Int))
 case true =>
  refine⟨0,76,aB ?_⟩;simp only[LO,E79,bM,bL,aL,qg,h2,h3,cv,dL,af,aF,aE,EW,seval]
 cases h4:decide (1099511627776<=s.next)
 case true =>
  refine⟨0,76,aB ?_⟩;simp only[LO,E79,bM,bL,aL,qg,h2,h3,h4,cv,eu,af,aF,aE,EW,seval]
 have h16:s.dW.length<16:=by simp at h3; omega
 have r1:cB s.dW.length 24=True:=qV;have r2:cB (s.dW.length+1) 24=True:=qV;refine⟨s.next,0,aB ?_⟩
 simp only[LO,E79,bM,bL,aL,qg,h2,h3,h4,r1,r2,aW,kU,cv,fG,af,aE,EW,seval];rw[show kB (s.dW++[⟨s.next,ar,s.tick⟩]) = gv (s.dW.map kU++[.agg [aD s.next,aD ar,aD s.tick]]) by simp[kU,iC]]
end
def tT(ae:List Node)(i:Int):Prop:=∃n,find ae i=some n/\n.kind=1
def Zr(ae:List Node):Prop:=o6 ae/\¬tT ae 0
def KF(a b:List Node):Prop:=Zr b/\∀i,tT a i->tT b i
theorem KF.trans{a b c:List Node}(h:KF a b)(k:KF b c):KF a c:=⟨k.1,fun i hi=>k.2 i (h.2 i hi)⟩
def Rt.zr{t:Tree}(h:Rt t):Zr t.ae:=by
 obtain⟨dJ,g⟩:=h;exact⟨g.lL.ml,fun⟨n,h1,_⟩=>by have:=(g.num _ _ h1).1; omega⟩
def KF.refl{a:List Node}(h:Zr a):KF a a:=⟨h,fun _ hi=>hi⟩
def D5{ae:List Node}(h:o6 ae){n:Node}(hn:tT ae n.ar->n.kind=1){i:Int}(hi:tT ae i):tT (eT ae n) i:=by
 unfold tT;rw[gq h];split
 ·rename_i e; exact⟨n,rfl,hn (e▸hi)⟩
 ·exact hi
def Zr.edit{ae:List Node}(h:Zr ae)(d:Int){n:Node}(h1:n.ar=(bl ae d).ar)(h2:n.kind=(bl ae d).kind):KF ae (eT ae n):=by
 have key:∀i,tT ae i->i=n.ar->n.kind=1:=by
  intro i hi e;cases hd:find ae d with
  |none =>
   have:bl ae d=Node.zero:=by simp[bl,hd]
   rw[h1,this] at e;subst e;exact absurd hi h.2
  |some m =>
   have:bl ae d=m:=by simp[bl,hd]
   rw[this] at h1 h2;have hm:=(cJ hd).2;obtain⟨x,g1,g2⟩:=hi;rw[e,h1,hm,hd] at g1;injection g1 with g1
   rw[h2,g1]; exact g2
 refine⟨⟨lM h.1 n,fun⟨x,g1,g2⟩=>?_⟩,fun i hi=>D5 h.1 (fun hf=>key _ hf rfl) hi⟩
 rw[gq h.1] at g1;split at g1
 ·rename_i e;injection g1 with g1
  subst g1;cases hd:find ae d with
  |none =>
   have:bl ae d=Node.zero:=by simp[bl,hd]
   rw[h2,this] at g2;cases g2
  |some m =>
   have:bl ae d=m:=by simp[bl,hd]
   rw[this] at h1 h2;have hm:=(cJ hd).2;exact h.2 ⟨m,by rw[e,h1,hm]; exact hd,by rw[<-h2]; exact g2⟩
 ·exact h.2 ⟨x,g1,g2⟩
def Zr.Cc{ae:List Node}(h:Zr ae)(d:Int){n:Node}(h1:n.ar=(bl ae d).ar)(h2:n.kind=(bl ae d).kind){i:Int}(hi:tT (eT ae n) i):tT ae i:=by
 obtain⟨x,g1,g2⟩:=hi;rw[gq h.1] at g1;split at g1
 ·rename_i e;injection g1 with g1
  subst g1;cases hd:find ae d with
  |none =>
   have:bl ae d=Node.zero:=by simp[bl,hd]
   rw[h2,this] at g2;cases g2
  |some m =>
   have:bl ae d=m:=by simp[bl,hd]
   rw[this] at h1 h2;exact⟨m,by rw[e,h1,(cJ hd).2]; exact hd,by rw[<-h2]; exact g2⟩
 ·exact⟨x,g1,g2⟩
def Zr.E3{ae:List Node}(h:Zr ae)(k:Int){i:Int}(hi:tT (fm ae k) i):tT ae i:=by
 unfold fm at hi;split at hi
 ·obtain⟨x,g1,g2⟩:=hi;rw[mi h.1] at g1;split at g1
  ·cases g1
  ·exact⟨x,g1,g2⟩
 ·exact h.Cc k (by rfl) (by rfl) hi
def Zr.ve{ae:List Node}(h:Zr ae)(k:Int):Zr (fS ae k)/\∀i,tT ae i->i≠k->tT (fS ae k) i:=by
 refine⟨⟨rO h.1 k,fun⟨x,g1,g2⟩=>?_⟩,fun i hi hk=>?_⟩
 ·rw[mi h.1] at g1;split at g1
  ·cases g1
  ·exact h.2 ⟨x,g1,g2⟩
 ·unfold tT;rw[mi h.1,aQ hk]; exact hi
def Zr.unnamed{ae:List Node}(h:Zr ae)(k:Int):KF ae (fm ae k):=by
 unfold fm;split
 ·rename_i hk;obtain⟨g1,g2⟩:=h.ve k;refine⟨g1,fun i hi=>g2 i hi ?_⟩
  rintro rfl;obtain⟨n,h1,h2⟩:=hi;simp[bl,h1,h2] at hk
 ·exact h.edit k rfl rfl
def JB{t:Tree}(h:Rt t)(k:Int){i:Int}(hi:tT t.ae i)(hk:i≠k):tT (kL t k).1.ae i:=by
 unfold kL
 repeat' split
 all_goals first|exact hi|exact(h.zr.ve k).2 i hi hk
def Zr.left{ae:List Node}(h:Zr ae)(d:Int)(s:Bytes):KF ae (dE ae d s):=h.edit d rfl rfl
def Zr.nL{t:Tree}(h:Zr t.ae)(d:Int)(s:Bytes)(o:Int):KF t.ae (il t d s o).ae:=h.edit d rfl rfl
def Ty{t:Tree}(h:Rt t)(d:Int)(s:Bytes)(k:Int):KF t.ae (rX t d s k).1.ae:=by
 have hz:=h.zr;unfold rX;split
 ·exact KF.refl hz
 split
 ·exact KF.refl hz
 split
 ·exact KF.refl hz
 ·obtain⟨dJ,g⟩:=h;have h0:¬tT t.ae t.next:=fun⟨n,h1,_⟩=>by have:=(g.num _ _ h1).2; omega
  have h1:1<=t.next:=by
   obtain⟨r,g1,_⟩:=g.root;have:=(g.num _ _ g1).2; omega
  have hw:KF t.ae (eT t.ae ⟨t.next,k,1,[],[],if k==2 then d else 0⟩):=by
   refine⟨⟨lM hz.1 _,fun⟨x,g1,g2⟩=>?_⟩,fun i hi=>D5 hz.1 (fun hf=>absurd hf h0) hi⟩
   rw[gq hz.1,aQ (show ¬((0:Int)=t.next) by omega)] at g1
   exact hz.2 ⟨x,g1,g2⟩
  exact hw.trans (Zr.nL (t:=⟨_,nw (t.next+1),t.ak⟩) hw.1 d s t.next)
def ZT{t:Tree}(h:Rt t)(i d:Int)(s:Bytes):KF t.ae (CS t i d s).1.ae:=by
 have hz:=h.zr;unfold CS;split
 ·exact KF.refl hz
 split
 ·exact KF.refl hz
 split
 ·exact KF.refl hz
 ·have hw:KF t.ae (eT t.ae { bl t.ae i with eG:=nw ((bl t.ae i).eG+1) }):=hz.edit i rfl rfl
  exact hw.trans (Zr.nL (t:=⟨_,t.next,t.ak⟩) hw.1 d s i)
def ZV{t:Tree}(h:Rt t)(d:Int)(s:Bytes):KF t.ae (BT t d s).1.ae:=by
 have hz:=h.zr;unfold BT;split
 ·exact KF.refl hz
 split
 ·exact KF.refl hz
 ·exact(hz.left d s).trans ((hz.left d s).1.unnamed _)
def JE{t:Tree}(h:Rt t)(i:Int)(d:Bytes):KF t.ae (rT t i d).1.ae:=by
 have hz:=h.zr;unfold rT;split
 ·exact KF.refl hz
 split
 ·exact KF.refl hz
 split
 ·exact KF.refl hz
 ·exact hz.edit i rfl rfl
def ZU{t:Tree}(h:Rt t)(d:Int)(s:Bytes)(to:Int)(nm:Bytes):KF t.ae (wT t d s to nm).1.ae:=by
 have hz:=h.zr;unfold wT;split
 ·exact KF.refl hz
 split
 ·exact KF.refl hz
 split
 ·exact KF.refl hz
 split
 ·exact KF.refl hz
 split
 ·exact KF.refl hz
 split
 ·exact KF.refl hz
 split
 ·exact KF.refl hz
 ·generalize (fg t.ae d s).1=x;generalize jf (gW t.ae to).1.bc nm=y;unfold tn;have h1:=hz.left d s
  have h2:KF t.ae (if y != 0 then fm (dE (dE t.ae d s) to nm) y else dE t.ae d s):=by
   split
   ·exact h1.trans ((h1.1.left to nm).trans ((h1.1.left to nm).1.unnamed y))
   ·exact h1
  split
  ·rename_i hk
   have hx:∃m,find t.ae x=some m/\bl t.ae x=m:=by
    cases hf:find t.ae x with
    |none=>simp[bl,hf,Node.zero] at hk
    |some m=>exact⟨m,rfl,by simp[bl,hf]⟩
   obtain⟨m,m1,m2⟩:=hx;rw[m2] at hk ⊢;have hmi:=(cJ m1).2;have hmk:m.kind=2:=by simpa using hk
   have hb:∀i,tT (if y != 0 then fm (dE (dE t.ae d s) to nm) y else dE t.ae d s) i->tT t.ae i:=by
    intro i hi;split at hi
    ·exact hz.Cc d (by rfl) (by rfl) (h1.1.Cc to (by rfl) (by rfl) ((h1.1.left to nm).1.E3 y hi))
    ·exact hz.Cc d (by rfl) (by rfl) hi
   generalize (if y != 0 then fm (dE (dE t.ae d s) to nm) y else dE t.ae d s)=B at h2 hb
   have hw:KF B (eT B { m with up:=to }):=by
    refine⟨⟨lM h2.1.1 _,fun⟨z,g1,g2⟩=>?_⟩,fun i hi=>D5 h2.1.1 (fun hf=>?_) hi⟩
    ·rw[gq h2.1.1] at g1;split at g1
     ·injection g1 with g1
      rw[<-g1] at g2;simp only at g2;omega
     ·exact h2.1.2 ⟨z,g1,g2⟩
    ·simp only at hf;rw[hmi] at hf;obtain⟨z,g1,g2⟩:=hb _ hf;rw[m1] at g1; injection g1 with g1
     rw[<-g1] at g2;omega
   exact(h2.trans hw).trans (Zr.nL (t:=⟨_,t.next,t.ak⟩) hw.1 to nm x)
  ·exact h2.trans (Zr.nL (t:=⟨_,t.next,t.ak⟩) h2.1 to nm x)
def Mk(ae:List Node)(m:List Bool)(v:Int):Prop:=∀(a:Nat)(y:Node),ae[a]?=some y->y.ar=v->m[a]?=some true
def Clo(ae:List Node)(ar:Int)(m:List Bool):Prop:=∀(i:Nat)(x:Node),ae[i]?=some x->(x.ar=ar\/m[i]?=some true)->∀e,e∈x.bc->Mk ae m e.ar
def nT(m:List Bool):Nat:=m.countP id
def ahR{m:List Bool}{a:Nat}(h:m[a]?=some false):nT (m.set a true)=nT m+1:=by
 have ha:=(aj.1 h).1;have hv:=(aj.1 h).2;unfold nT;rw[List.countP_set ha];simp[hv]
def ae1{ae:List Node}(h:o6 ae){a b:Nat}{x y:Node}(hx:ae[a]?=some x)(hy:ae[b]?=some y)(e:x.ar=y.ar):a=b:=by
 obtain⟨ha,rfl⟩:=aj.1 hx;obtain⟨hb,rfl⟩:=aj.1 hy;rcases ik a b with h1|h1|h1
 ·have:=cn.1 h _ _ ha hb h1; omega
 ·exact h1
 ·have:=cn.1 h _ _ hb ha h1; omega
def afC{t:Tree}{dJ:Int->Nat}(h:dY t dJ 0){ar:Int}{m:List Bool}(hc:Clo t.ae ar m){v:Int}(hv:InB t.ae ar v):Mk t.ae m v:=by
 have step:∀ {d:Node},d∈t.ae->(d.ar=ar\/Mk t.ae m d.ar)->∀e,e∈d.bc->Mk t.ae m e.ar:=fun hd ho e he=>by
  obtain⟨a,ha⟩:=bV hd;exact hc a _ ha (ho.imp id fun hk=>hk a _ ha rfl) e he
 have key:∀(c:Nat)(i:Int)(n:Node),find t.ae i=some n->n.kind=2->dJ i=c->iM t.ae i ar=true->i=ar\/Mk t.ae m i:=by
  intro c;induction c with
  |zero =>
   intro i n hi hk hd hb
   by_cases ho:i=ar
   ·exact .inl ho
   ·by_cases h1:i=1
    ·subst h1;rw[dY.qP (fun hh=>ho hh.symm)] at hb; cases hb
    ·have:=(h.qK _ _ hi hk h1).1; omega
  |succ c ih =>
   intro i n hi hk hd hb
   by_cases ho:i=ar
   ·exact .inl ho
   ·right;have h1:i≠1:=fun hh=>by subst hh; have:=h.CN; omega
    rw[h.sy hi hk h1 ho] at hb;obtain⟨a,q,hq,hqk⟩:=h.qK _ _ hi hk h1;obtain⟨p,e',p1,p2,p3,p4⟩:=h.named hi hk h1 (by have:=(h.num _ _ hi).1; omega)
    have hp:=ih n.up p p1 p2 aH hb;have:=step (cJ p1).1 (by rw[(cJ p1).2]; exact hp) e' p3
    rwa[p4] at this
 obtain⟨d,e,hd,hk,hb,he,rfl⟩:=hv;exact step hd (key _ _ d ((ic h.lL.ml).2 ⟨hd,rfl⟩) hk rfl hb) e he
def aix{ae:List Node}:∀ {a b:List Bool},a.length=ae.length->b.length=ae.length->(∀i:Nat,a[i]?=some true->b[i]?=some true)->nT a<=nT b/\H3 ae a<=H3 ae b:=by
 induction ae with
 |nil =>
  intro a b ha hb _;rw[dI ha,dI hb];exact⟨av _,av _⟩
 |cons n r ih =>
  intro a b ha hb hab;cases a with
  |nil=>cases ha
  |cons x a =>
  cases b with
  |nil=>cases hb
  |cons y b =>
  obtain⟨h1,h2⟩:=ih (a:=a) (b:=b) (by simpa using ha) (by simpa using hb) fun i hi=>by simpa using hab (i+1) (by simpa using hi)
  have h0:x=true->y=true:=fun e=>by simpa using hab 0 (by simp[e])
  simp only[nT,H3] at h1 h2 ⊢;simp only[lX,List.zip_cons_cons,aK,List.sum_cons,id] at h1 h2 ⊢;cases x<;>cases y<;>simp at h0 ⊢ <;> omega
def R1{t:Tree}(hr:Rt t){ar:Int}{m:List Bool}(hm:m.length=t.ae.length)(hc:Clo t.ae ar m):(lq t.ae ar).1<=nT m/\(lq t.ae ar).2<=H3 t.ae m:=by
 rw[HZ hr];obtain⟨dJ,h⟩:=hr;obtain⟨q,h1,h2⟩:=xg t.ae ar
 have:=aix (ae:=t.ae) (a:=sD t.ae ar) (b:=m) (by rw[h1]; simp) hm fun i hi=>by
  rw[h1,aX] at hi;obtain⟨n,hn,hq⟩:=aU.1 hi;exact afC h hc ((h2 n).1 hq) i n hn rfl
 unfold nT at this ⊢;unfold Pj;simp only;omega
def ZK{l:List dV}(h:pA l)(ar:Int):Gc l ar=true↔∃x,x∈l/\x.ar=ar:=by
 have hl:=yf h ar;unfold Gc pr
 have hc:∀a b:Int,(qR a b==0)=true↔a=b:=fun a b=>by
  unfold qR;simp only[bh,eH];split
  ·constructor<;>intro<;>omega
  split
  ·constructor<;>intro<;>omega
  ·constructor<;>intro<;>omega
 have cQ:∀a b:Int,decide (qR a b<0)=true↔a<b:=fun a b=>by
  unfold qR;simp only[bh];split
  ·constructor<;>intro<;>omega
  split
  ·constructor<;>intro<;>omega
  ·constructor<;>intro<;>omega
 constructor
 ·intro hq;split at hq
  ·rename_i x hx;exact⟨x,aJ hx,(hc _ _).1 hq⟩
  ·cases hq
 ·rintro⟨x,hx,rfl⟩;obtain⟨i,hi⟩:=bV hx;have h1:=hl.lt i x hi;rw[cQ] at h1
  have hge:wQ l x.ar<=i:=by
   rcases bA i (wQ l x.ar) with h2|h2
   ·have:=h1.2 h2; omega
   ·exact h2
  have hil:=(aj.1 hi).1;have hb:l[wQ l x.ar]?=some (l[wQ l x.ar]'(by omega)):=ai _
  rw[hb];simp only;rw[hc];rcases bA (wQ l x.ar) i with h2|h2
  ·have h3:=hl.lt _ _ hb;rw[cQ] at h3;have h4:=cn.1 h _ _ aH hil h2;have h5:=(aj.1 hi).2;rw[h5] at h4;have:=h3.1 h4;omega
  ·have:wQ l x.ar=i:=aH;have h5:=(aj.1 hi).2;simp only[this,h5]
def DF{t:Tree}{dJ:Int->Nat}(h:dY t dJ 0)(l:List dV):∀(f g:Nat)(i:Int)(n:Node),find t.ae i=some n->n.kind=2->dJ i<f->dJ i<g->sE t.ae l f i=sE t.ae l g i
 |0,_,_,_,_,_,hf,_=>aH
 |_+1,0,_,_,_,_,_,hg=>aH
 |f+1,g+1,i,n,hi,hk,hf,hg=>by
  rw[sE,sE];split
  ·rfl
  split
  ·rename_i h1;obtain⟨a,p,p1,p2⟩:=h.qK _ _ hi hk (by simpa using h1)
   have hn:bl t.ae i=n:=by simp[bl,hi]
   rw[hn];exact DF h l f g n.up p p1 p2 aH aH
  ·rfl
def Lv{t:Tree}{dJ:Int->Nat}(h:dY t dJ 0)(l:List dV){i:Int}{n:Node}(hi:find t.ae i=some n)(hk:n.kind=2):mg t.ae l i=if Gc l i then i else if i=1 then 0 else mg t.ae l n.up:=by
 have hn:bl t.ae i=n:=by simp[bl,hi]
 unfold mg
 conv=>lhs; rw[sE]
 rw[hn]
 by_cases h1:i=1
 ·simp[h1]
 ·obtain⟨a,p,p1,p2⟩:=h.qK _ _ hi hk h1;have hd:=(h.deep _ _ hi hk).1;have h1':(i != 1)=true:=by simpa using h1
  rw[h1'];simp only[aF,h1,aE];rw[DF h l 12 13 n.up p p1 p2 aH aH]
def IX{t:Tree}{dJ:Int->Nat}(h:dY t dJ 0)(l:List dV):∀(f:Nat)(i:Int)(n:Node),find t.ae i=some n->n.kind=2->0<=sE t.ae l f i
 |0,_,_,_,_=>dS 0
 |f+1,i,n,hi,hk=>by
  rw[sE];split
  ·have:=(h.num _ _ hi).1; omega
  split
  ·rename_i h1;obtain⟨_,p,p1,p2⟩:=h.qK _ _ hi hk (by simpa using h1)
   have hn:bl t.ae i=n:=by simp[bl,hi]
   rw[hn];exact IX h l f n.up p p1 p2
  ·exact dS 0
def OD(t:Tree)(l:List dV):Prop:=∀d1 e1 d2 e2 x,d1∈t.ae->e1∈d1.bc->d2∈t.ae->e2∈d2.bc->e1.ar=e2.ar->find t.ae e1.ar=some x->x.kind=1->mg t.ae l d1.ar=mg t.ae l d2.ar
def xh{t u:Tree}{dJ:Int->Nat}(h:dY t dJ 0)(hk:∀i n,find t.ae i=some n->n.kind=2->(bl u.ae i).up=n.up)(l:List dV):∀(f:Nat)(i:Int)(n:Node),find t.ae i=some n->n.kind=2->sE u.ae l f i=sE t.ae l f i
 |0,_,_,_,_=>rfl
 |f+1,i,n,hi,hk2=>by
  have h1:bl t.ae i=n:=by simp[bl,hi]
  rw[sE,sE,h1,hk _ _ hi hk2];split
  ·rfl
  split
  ·rename_i hne;obtain⟨_,p,p1,p2⟩:=h.qK _ _ hi hk2 (by simpa using hne)
   exact xh h hk l f n.up p p1 p2
  ·rfl
def dY.Sc{t:Tree}{dJ:Int->Nat}(h:dY t dJ 0){d:Node}{e:gN}(hd:d∈t.ae)(he:e∈d.bc):find t.ae d.ar=some d/\d.kind=2:=by
 have hf:=(ic h.lL.ml).2 ⟨hd,rfl⟩;refine⟨hf,?_⟩;rcases h.kind _ _ hf with h1|h1
 ·rw[(h.file _ _ hf h1).1] at he; cases he
 ·exact h1
def Yl(ae:List Node)(i:Int):Prop:=∃n,find ae i=some n/\n.kind=2
def RF(a b:List Node):Prop:=∀i,tT b i->tT a i\/find a i=none
def Yl.no{a:List Node}{i:Int}(h:Yl a i)(hf:tT a i\/find a i=none):False:=by
 obtain⟨n,h1,h2⟩:=h;rcases hf with ⟨m,g1,g2⟩|h3
 ·rw[h1] at g1; cases g1; omega
 ·rw[h1] at h3; cases h3
def Rt.Yl{t:Tree}(h:Rt t){i:Int}{n:Node}(hn:find t.ae i=some n)(hf:¬tT t.ae i):Yl t.ae i:=by
 obtain⟨dJ,g⟩:=h;rcases g.kind _ _ hn with hk|hk
 ·exact absurd ⟨n,hn,hk⟩ hf
 ·exact⟨n,hn,hk⟩
def Zr.Cn{ae:List Node}(h:Zr ae)(d:Int)(s:Bytes){i:Int}(hi:tT (dE ae d s) i):tT ae i:=h.Cc d (by rfl) (by rfl) hi
def Zr.zQ{t:Tree}(h:Zr t.ae)(d:Int)(s:Bytes)(o:Int){i:Int}(hi:tT (il t d s o).ae i):tT t.ae i:=h.Cc d (by rfl) (by rfl) hi
def ain{t:Tree}(h:Rt t)(d:Int)(s:Bytes)(k:Int):RF t.ae (rX t d s k).1.ae:=by
 have hz:=h.zr;intro i hi;unfold rX at hi;split at hi
 ·exact .inl hi
 split at hi
 ·exact .inl hi
 split at hi
 ·exact .inl hi
 ·obtain⟨dJ,g⟩:=h
  have h0:find t.ae t.next=none:=by
   cases hf:find t.ae t.next with
   |none=>rfl
   |some n=>have:=(g.num _ _ hf).2; omega
  have h1:1<=t.next:=by
   obtain⟨r,g1,_⟩:=g.root;have:=(g.num _ _ g1).2; omega
  have hw:Zr (eT t.ae ⟨t.next,k,1,[],[],if k==2 then d else 0⟩):=by
   refine⟨lM hz.1 _,fun⟨x,g1,g2⟩=>?_⟩
   rw[gq hz.1,aQ (show ¬((0:Int)=t.next) by omega)] at g1
   exact hz.2 ⟨x,g1,g2⟩
  obtain⟨x,g1,g2⟩:=Zr.zQ (t:=⟨_,nw (t.next+1),t.ak⟩) hw d s t.next hi
  have g1:find (eT t.ae ⟨t.next,k,1,[],[],if k==2 then d else 0⟩) i=some x:=g1
  rw[gq hz.1] at g1
  by_cases e:i=t.next
  ·right; rw[e]; exact h0
  ·rw[aQ e] at g1; exact .inl ⟨x,g1,g2⟩
def aoB{t:Tree}(h:Rt t)(j d:Int)(s:Bytes):RF t.ae (CS t j d s).1.ae:=by
 have hz:=h.zr;intro i hi;unfold CS at hi;split at hi
 ·exact .inl hi
 split at hi
 ·exact .inl hi
 split at hi
 ·exact .inl hi
 ·have hw:KF t.ae (eT t.ae { bl t.ae j with eG:=nw ((bl t.ae j).eG+1) }):=hz.edit j rfl rfl
  exact .inl (hz.Cc j (by rfl) (by rfl) (Zr.zQ (t:=⟨_,t.next,t.ak⟩) hw.1 d s j hi))
def aoD{t:Tree}(h:Rt t)(d:Int)(s:Bytes):RF t.ae (BT t d s).1.ae:=by
 have hz:=h.zr;intro i hi;unfold BT at hi;split at hi
 ·exact .inl hi
 split at hi
 ·exact .inl hi
 ·exact .inl (hz.Cn d s ((hz.left d s).1.E3 _ hi))
def XB{t:Tree}(h:Rt t)(j:Int)(d:Bytes):RF t.ae (rT t j d).1.ae:=by
 have hz:=h.zr;intro i hi;unfold rT at hi;split at hi
 ·exact .inl hi
 split at hi
 ·exact .inl hi
 split at hi
 ·exact .inl hi
 ·exact .inl (hz.Cc j (by rfl) (by rfl) hi)
def aoC{t:Tree}(h:Rt t)(d:Int)(s:Bytes)(to:Int)(nm:Bytes):RF t.ae (wT t d s to nm).1.ae:=by
 have hz:=h.zr;intro i hi;left;unfold wT at hi;split at hi
 ·exact hi
 split at hi
 ·exact hi
 split at hi
 ·exact hi
 split at hi
 ·exact hi
 split at hi
 ·exact hi
 split at hi
 ·exact hi
 split at hi
 ·exact hi
 ·generalize (fg t.ae d s).1=x at hi;generalize jf (gW t.ae to).1.bc nm=y at hi;unfold tn at hi;have h1:=hz.left d s
  have hb:∀i,tT (if y != 0 then fm (dE (dE t.ae d s) to nm) y else dE t.ae d s) i->tT t.ae i:=by
   intro i hi;split at hi
   ·exact hz.Cn d s (h1.1.Cn to nm ((h1.1.left to nm).1.E3 y hi))
   ·exact hz.Cn d s hi
  have h2:Zr (if y != 0 then fm (dE (dE t.ae d s) to nm) y else dE t.ae d s):=by
   split
   ·exact((h1.1.left to nm).1.unnamed y).1
   ·exact h1.1
  refine hb i ?_;generalize (if y != 0 then fm (dE (dE t.ae d s) to nm) y else dE t.ae d s)=B at h2 hi
  split at hi
  ·rename_i hk;have hk2:(bl t.ae x).kind=2:=by simpa using hk
   have hw:∀j,tT (eT B { bl t.ae x with up:=to }) j->tT B j:=by
    rintro j ⟨z,g1,g2⟩;rw[gq h2.1] at g1;split at g1
    ·injection g1 with g1
     rw[<-g1] at g2;simp only at g2;omega
    ·exact⟨z,g1,g2⟩
   exact hw _ (Zr.zQ (t:=⟨_,t.next,t.ak⟩) ⟨lM h2.1 _,fun hf=>h2.2 (hw _ hf)⟩ to nm x hi)
  ·exact Zr.zQ (t:=⟨_,t.next,t.ak⟩) h2 to nm x hi
def A9{t:Tree}(h:Rt t)(k i:Int):find (kL t k).1.ae i=if i=k/\∃n,find t.ae k=some n/\gS n=true then none else find t.ae i:=by
 have hz:=h.zr;obtain⟨dJ,g⟩:=h;unfold kL;cases hf:find t.ae k with
 |none=>simp
 |some n =>
  have hn:bl t.ae k=n:=by simp[bl,hf]
  have hl:=g.eG _ _ hf;simp only[bQ,cv,af,aE,hn];rcases g.kind _ _ hf with hk|hk
  ·have h1:(n.kind==2)=false:=by simp[hk]
   simp only[h1,af,aE];split
   ·rename_i h2;have h2':0<n.eG:=by simpa using h2
    have:gS n=false:=by simp[gS,hk]; omega
    simp[this]
   ·rename_i h2;have h2':¬0<n.eG:=by simpa using h2
    have h3:0<=n.eG:=by rw[hl]; split<;>omega
    have:gS n=true:=by simp[gS,hk]; omega
    rw[mi hz.1];simp[this]
  ·have h1:(n.kind==2)=true:=by simp[hk]
   have:gS n=false:=by simp[gS,hk]
   simp[h1,this]
def abo{t:Tree}(hr:Rt t)(k:Int)(l:List dV)(ho:OD t l):OD (kL t k).1 l:=by
 have hf:=A9 hr k;have hu:=(hr.free k).lL.ml;obtain⟨dJ,h⟩:=hr
 have back:∀ {d:Node},d∈(kL t k).1.ae->d∈t.ae:=fun hd=>by
  have h1:=(ic hu).2 ⟨hd,rfl⟩;rw[hf] at h1;split at h1
  ·cases h1
  ·exact(cJ h1).1
 have rn:∀i n,find t.ae i=some n->n.kind=2->(bl (kL t k).1.ae i).up=n.up:=fun i n h1 h2=>by
  unfold bl;rw[hf,aQ,h1]
  ·rfl
  rintro⟨rfl,m,g1,g2⟩;rw[h1] at g1; cases g1;simp[gS,h2] at g2
 intro d1 e1 d2 e2 x h1 h2 h3 h4 h5 h6 h7;obtain⟨a1,a2⟩:=h.Sc (back h1) h2;obtain⟨b1,b2⟩:=h.Sc (back h3) h4
 have hx:find t.ae e1.ar=some x:=by
  rw[hf] at h6;split at h6
  ·cases h6
  ·exact h6
 unfold mg;rw[xh h rn l 13 _ _ a1 a2,xh h rn l 13 _ _ b1 b2];exact ho d1 e1 d2 e2 x (back h1) h2 (back h3) h4 h5 hx h7
def HT:Bytes->Bytes->List Bytes->Option (List Bytes)
 | [],cur,out=>if !fX cur||(out.length:Int)==12 then none else some (out++[cur])
 |b::r,cur,out=>if (b.toNat:Int) != 47 then HT r (cur++[b]) out else if !fX cur||(out.length:Int)==12 then none else HT r [] (out++[cur])
def pY(s:Bytes):List Bytes×Int:=if s==[47] then ([],0) else match s with
 | []=>([],60)
 |b::r=>if (b.toNat:Int) != 47 then ([],60) else match HT r [] [] with
  |none=>([],60)
  |some l=>(l,0)
section
attribute [local irreducible] eS fI lx gK dZ kr aq aR cu bJ
def ahN{s:Bytes}(hs:s.length<=100000){k:List K}{R:Option (List Bytes)->Option (ag×aC)}
  (hx:∀(l:List Bytes) z,kr (aq bX) [.tmp 2,.tmp 3] 0 k ⟨.exit 0,(0,.str s)::(4,.slice (.own 0) (l.map .str))::z,[.tick 1 l.length]⟩=R (some l))
  (hr:∀n,kr (aq bX) [.tmp 2,.tmp 3] 0 k ⟨.ret,[(2,.slice .c0 []),(3,aD 60)],[.tick 1 n]⟩=R none) :
  ∀(rest:Bytes)(n m:Nat)(cur:Bytes)(out:List Bytes),s.drop m=rest->m+rest.length=s.length->n<=m->(s.take m).drop n=cur->out.length<=12 ->
   eS (aq bX) [.tmp 2,.tmp 3] 0 k (.loop [0,4,5,6] ahH) [(0,.str s),(4,.slice (.own 0) (out.map .str)),(5,aD n),(6,aD m)] [.tick 1 out.length]=R (HT rest cur out):=by
 intro rest;induction rest with
 |nil =>
  intro n m cur out h1 h2 h3 h4 h5;simp only[az,dj] at h2;rw[bI];have e1:((m:Int)<=(s.length:Int))=True:=sL;have e2:((m:Int)<(s.length:Int))=False:=Yp;have e3:((n:Int)<=(m:Int))=True:=sL;have w1:IntKind.i64.wrap ((m:Int)+1)=(m:Int)+1:=gx aH aH;have e4:((m:Int)+1<=(s.length:Int))=False:=Yp;have hc:cur.length<=100000:=by rw[<-h4]; simp; omega
  have q:=fun M=>Tu cur hc M
  have r1:cB (out.length+1) 16=True:=qV;have i1:=hx (out++[cur]);simp only[aW,aK,aV,aA,au,az,aI] at i1;rw[HT]
  cases h6:fX cur<;>rw[h6] at q<;>cases h7:(out.length:Int)==12 <;>
   simp only[Q4,e1,e2,e3,h4,q,h7,dL,c8,eu,fF,aF,af,aE,EW,seval]<;>first|exact hr _|skip
  simp only[Q4,r1,w1,EW,seval];rw[bI];simp only[Q4,e4,EW,seval];exact i1 _
 |cons b r ih =>
  intro n m cur out h1 h2 h3 h4 h5;simp only[au] at h2;rw[bI];have e1:((m:Int)<=(s.length:Int))=True:=sL;have e2:((m:Int)<(s.length:Int))=True:=sL;have e3:((n:Int)<=(m:Int))=True:=sL;have w1:IntKind.i64.wrap ((m:Int)+1)=((m+1:Nat):Int):=by rw[gx aH aH]; rfl
  have hc:cur.length<=100000:=by rw[<-h4]; simp; omega
  have hb:s[m]?=some b:=by
   have:(s.drop m)[0]?=some b:=by rw[h1]; rfl
   simpa using this
  have hd:s.drop (m+1)=r:=by rw[<-List.drop_drop,h1]; rfl
  have hm:=(aj.1 hb).1
  have ht:(s.take (m+1)).drop n=cur++[b]:=by
   rw[cD,hb,kJ,List.drop_append_of_le_length gr,h4]
  have q:=fun M=>Tu cur hc M
  have r1:cB (out.length+1) 16=True:=qV;have i1:=ih n (m+1) (cur++[b]) out hd aH aH ht h5;have i2:=fun h=>ih (m+1) (m+1) [] (out++[cur]) hd aH aH dw h
  simp only[aW,aK,aV,aA,au,az,aI] at i2;rw[HT];cases h8:(b.toNat:Int) != 47
  ·cases h6:fX cur<;>rw[h6] at q<;>cases h7:(out.length:Int)==12 <;>
    simp only[Q4,e1,e2,e3,h4,hb,h8,q,h7,dL,c8,eu,fF,aF,af,aE,EW,seval]<;>first|exact hr _|skip
   have h9:out.length+1<=12:=by simp at h7; omega
   simp only[Q4,r1,w1,EW,seval];exact i2 h9
  ·simp only[Q4,e1,e2,hb,h8,w1,aF,EW,seval];exact i1
def c85(s:Bytes)(hs:s.length<=100000):aq bX 85 [.str s] []=some (.tuple [dr (pY s).1,aD (pY s).2],[]):=by
 refine aB ?_;unfold pY;cases h0:s==[47]
 ·cases s with
  |nil=>simp only[PF,Q4,h0,af,aE,EW,seval]; rfl
  |cons b r =>
   have h1:((b::r)==[])=false:=rfl;cases h8:(b.toNat:Int) != 47
   ·have hl:=fun {k R} hx hr=>ahN hs (k:=k) (R:=R) hx hr r 1 1 [] [] rfl gr aH dw dw
    simp only[aV,az] at hl;simp only[PF,Q4,h0,h1,h8,af,aE,EW,seval];refine hl (R:=fun o=>some (.tuple [dr (match o with|none=>(([]:List Bytes),(60:Int))|some l=>(l,0)).1,aD (match o with|none=>(([]:List Bytes),(60:Int))|some l=>(l,0)).2],[])) (fun l z=>?_) (fun n=>?_)
    ·simp only[Q4,EW,seval]
    ·simp only[Q4,EW,seval]; rfl
   ·simp only[PF,Q4,h0,h1,h8,af,aE,aF,EW,seval]; rfl
 ·simp only[PF,Q4,h0,aF,EW,seval]; rfl
def k85 s hs:=cP (c85 s hs)
def zh(l:List Bytes)(s:Bytes):Bytes:=l.foldl (fun s x=>s++[47]++x) s
def NF(l:List Bytes):Bytes:=if (l.length:Int)==0 then [47] else zh l []
def D6:∀(l:List Bytes)(s:Bytes),(∀x,x∈l->x.length<=32)->(zh l s).length<=s.length+33*l.length
 | [],s,_=>by simp[zh]
 |x::l,s,h=>by
  have h1:=D6 l (s++[47]++x) fun y hy=>h y (bu _ hy)
  have h2:=h x bD;simp only[zh,eK,aA,au,az] at h1 ⊢;omega
def arj(l:List Bytes)(hl:l.length<=100)(h:∀x,x∈l->x.length<=32):aq bX 170 [dr l] []=some (.str (NF l),[]):=by
 refine aB ?_;unfold NF;cases h0:(l.length:Int)==0<;>simp only[adf,Yy,h0,af,aE,aF,EW,seval]
 have key:∀ {k:List K} {R:Bytes->Option (ag×aC)} (hx:∀s z,kr (aq bX) [.tmp 2] 0 k ⟨.exit 0,(0,dr l)::(3,.str s)::z,[]⟩=R s) (rest pre:List Bytes) (s:Bytes),l=pre++rest->s.length<=33*pre.length->eS (aq bX) [.tmp 2] 0 k (.loop [0,3,4] aao) [(0,dr l),(3,.str s),(4,aD pre.length)] []=R (zh rest s):=by
  intro k R hx rest;induction rest with
  |nil =>
   intro pre s e _;rw[bI];simp only[Yy,jP e,zh,na,EW,seval];exact hx _ _
  |cons x r ih =>
   intro pre s e hs;rw[bI];have hxl:=h x (by rw[e]; simp)
   have hp:pre.length+1<=100:=by rw[e] at hl; simp at hl; omega
   have hw:=zB pre x;have i1:=ih (pre++[x]) (s++[47]++x) (by rw[e]; simp) gr
   have m1:(IntKind.i64.max<((s.length+1:Nat):Int))=False:=max_lt _ aH;have m2:(IntKind.i64.max<((s.length+1+x.length:Nat):Int))=False:=max_lt _ aH;simp only[aA,au,az,aI] at i1;simp only[zh,eK] at i1 ⊢;simp only[Yy,iP e,gQ e,hw,m1,m2,EW,seval];exact i1
 exact key (R:=fun s=>some (.str s,[])) (fun s z=>by simp only[Yy,EW,seval]) l [] [] rfl dw
def atm l hl h:=cP (arj l hl h)
def abX:∀(rest cur:Bytes)(out l:List Bytes),HT rest cur out=some l->(∀x,x∈out->fX x=true)->out.length<=12->(∀x,x∈l->fX x=true)/\l.length<=12:=by
 have key:∀(cur:Bytes)(out:List Bytes),¬(!fX cur||(out.length:Int)==12)=true->(∀x,x∈out->fX x=true)->out.length<=12->(∀x,x∈out++[cur]->fX x=true)/\(out++[cur]).length<=12:=by
  intro cur out h1 h2 h3;simp only[dh,ij,eH,pg,Bool.not_eq_false] at h1;refine⟨fun x hx=>?_,gr⟩
  rcases bo.1 hx with hx|hx
  ·exact h2 x hx
  ·rw[bT.1 hx]; exact h1.1
 intro rest;induction rest with
 |nil =>
  intro cur out l h h1 h2;rw[HT] at h;split at h
  ·cases h
  ·rename_i hc;cases h;exact key cur out hc h1 h2
 |cons b r ih =>
  intro cur out l h h1 h2;rw[HT] at h;split at h
  ·exact ih _ _ _ h h1 h2
  split at h
  ·cases h
  ·rename_i hc;obtain⟨k1,k2⟩:=key cur out hc h1 h2;exact ih _ _ _ h k1 k2
def yo(s:Bytes):(∀x,x∈(pY s).1->fX x=true)/\(pY s).1.length<=12:=by
 unfold pY;split
 ·simp
 split
 ·simp
 split
 ·simp
 split
 ·simp
 ·rename_i h;exact abX _ _ _ _ h dw dw
def Ck(s:Bytes):Bytes×Bytes×Int:=if (pY s).2 != 0||(((pY s).1.length:Int)==0) then ([],[],60) else ((pY s).1.getLast?.getD [],NF (pY s).1.dropLast,0)
def aqz(s:Bytes)(hs:s.length<=100000):aq bX 116 [.str s] []=some (.tuple [.str (Ck s).1,.str (Ck s).2.1,aD (Ck s).2.2],[]):=by
 refine aB ?_;have q:=fun M=>k85 s hs M
 obtain⟨o1,o2⟩:=yo s;unfold Ck;generalize pY s=X at q o1 o2;obtain⟨l,e⟩:=X;simp only at q o1 o2 ⊢;cases h1:e != 0
 ·cases h2:(l.length:Int)==0
  ·obtain⟨A,x,rfl⟩:∃A x,l=A++[x]:=by
    refine⟨l.dropLast,l.getLast (by rintro rfl; simp at h2),(List.dropLast_concat_getLast _).symm⟩
   have qj:=fun M=>atm A (by simp at o2; omega) (fun y hy=>qT (o1 y (by simp[hy]))) M
   simp only[aA,au,az,aI] at h2 o2;have w1:IntKind.i64.wrap (((A.length+1:Nat):Int)-1)=(A.length:Int):=by rw[gx aH aH]; omega
   have a1:(A++[x])[A.length]?=some x:=dw;have a2:((A.length:Int)<((A.length+1:Nat):Int))=True:=sL;have a3:((A.length:Int)<=((A.length+1:Nat):Int))=True:=sL;have a4:((A.length:Int)<0)=False:=dw;have a5:(A++[x]).take A.length=A:=dw;simp only[Ng,aeA,q,h1,h2,w1,a2,a3,a4,a1,<-ec,a5,qj,fG,fF,af,aE,List.getLast?_append,List.getLast?_singleton,List.dropLast_concat,bC,Option.or_some,Option.some_or,EW,seval]
  ·simp only[Ng,aeA,q,h1,h2,eu,c8,aF,EW,seval]
 ·simp only[Ng,aeA,q,h1,dL,aF,EW,seval]
def AG(ae:List Node):List Bytes->Int->Int×Int
 | [],a=>(a,0)
 |x::r,a=>if (fg ae a x).2 != 0 then (0,(fg ae a x).2) else AG ae r (fg ae a x).1
def CH(ae:List Node)(s:Bytes):Int×Int:=if (pY s).2 != 0 then (0,(pY s).2) else AG ae (pY s).1 1
def c66(t:Tree)(s:Bytes)(ht:Small t)(hs:s.length<=100000):aq bX 66 [br t,.str s] []=some (.tuple [aD (CH t.ae s).1,aD (CH t.ae s).2],[]):=by
 refine aB ?_;have q:=fun M=>k85 s hs M
 obtain⟨o1,o2⟩:=yo s;unfold CH;generalize pY s=X at q o1 o2;obtain⟨l,e⟩:=X;simp only at q o1 o2 ⊢;cases h1:e != 0<;>simp only[amu,E66,br,aM,q,h1,af,aE,aF,EW,seval]
 refine A8 (xs:=l) aH (AG t.ae) (fun a i=>[(2,cC 0),(6,dr l),(8,aD a),(9,aD i)]) (fun _=>[cF [ba t.ae,aD t.next,aD t.ak]]) (fun p=>some (.tuple [aD p.1,aD p.2],([]:aC))) (fun a=>?_) (fun pre x post a h hx cQ hw h0 hm hi=>?_) 1
 ·simp only[E66,bq,AG,EW,seval]
 ·have ql:=fun M=>k72 t.ae t.next t.ak a x ht (by have:=qT (o1 x hm); omega) M
  rw[AG];have i1:=hi (fg t.ae a x).1;generalize fg t.ae a x=u at ql i1;cases h2:u.2 != 0<;>simp only[E66,cQ,hx,hw,ql,h2,af,aE,aF,EW,seval]
  exact i1
def k66(ae:List Node)(next ak:Int)(s:Bytes)(ht:Small ⟨ae,next,ak⟩)(hs:s.length<=100000)(M:aC):aR (aq bX) 66 [.agg [ba ae,aD next,aD ak],.str s] M=some (.tuple [aD (CH ae s).1,aD (CH ae s).2],M):=cO (c66 ⟨ae,next,ak⟩ s ht hs) M
end
def rJ(q:dV):List dV->Bool->List dV
 | [],d=>if d then [] else [q]
 |x::r,d=>(if !d&&decide (q.ar<=x.ar) then [q] else [])++((if x.ar != q.ar then [x] else [])++rJ q r (d||decide (q.ar<=x.ar)))
def zu(q:dV):∀l,rJ q l true=l.filter fun x=>x.ar != q.ar
 | []=>rfl
 |x::r=>by
  rw[rJ,dL,zu q r,fq];cases x.ar != q.ar<;>rfl
theorem Mx(q x:dV)(r:List dV):rJ q (x::r) false=if q.ar<=x.ar then q::(x::r).filter fun x=>x.ar != q.ar else x::rJ q r false:=by
 rw[rJ]
 by_cases h:q.ar<=x.ar
 ·rw[aZ h,iR h,c8,zu,fq];cases x.ar != q.ar<;>rfl
 grind
theorem GH(q:dV):∀l,pA l->pA (rJ q l false)/\(∀y,y∈rJ q l false->y=q\/y∈l)/\(rJ q l false).length<=l.length+1/\((∃x,x∈l/\x.ar=q.ar)->(rJ q l false).length<=l.length)
 | [],_=>⟨List.pairwise_singleton _ _,fun y hy => .inl (by grind [rJ]),av _,fun⟨x,h,_⟩=>jO⟩
 |x::r,h=>by
  have hc:=du.1 h;obtain⟨i1,i2,i3,i4⟩:=GH q r hc.2;rw[Mx]
  grind [List.pairwise_cons]
section
attribute [local irreducible] eS fI lx gK dZ kr aq aR cu bJ
def aqP(t:Tree)(ar:Int)(ht:t.ae.length<=100000):aq bX 133 [br t,aD ar] []=some (.bool ((find t.ae ar).isSome&&(bl t.ae ar).kind==2),[]):=by
 refine aB ?_;have q:=fun M=>Bp t.ae t.next t.ak ar ht M
 have hz:(find t.ae ar).getD Node.zero=bl t.ae ar:=rfl;rw[hz] at q;generalize bl t.ae ar=n at q
 cases h1:(find t.ae ar).isSome<;>rw[h1] at q<;>cases h2:n.kind==2 <;>
  simp only[acX,apj,br,aM,q,h2,bL,aL,dR,EW,seval]
def am2(ae:List Node)(next ak ar:Int)(h:ae.length<=100000)(M:aC):aR (aq bX) 133 [.agg [ba ae,aD next,aD ak],aD ar] M=some (.bool ((find ae ar).isSome&&(bl ae ar).kind==2),M) :=
 cO (aqP ⟨ae,next,ak⟩ _ h) M
def Plc(ae:List Node)(ar n:Int):Prop:=(n = -1/\∀y,y∈ae->y.ar≠ar)\/∃(i:Nat) (y:Node),ae[i]?=some y/\y.ar=ar/\n=i
def ar8(t:Tree)(ar:Int)(ht:t.ae.length<=100000):∃n:Int,aq bX 237 [br t,aD ar] []=some (aD n,[])/\Plc t.ae ar n:=by
 have key:∃r:ag×aC,(∃n:Int,r=(aD n,[])/\Plc t.ae ar n)/\eS (aq bX) Ns.results 0 [] Ns.body (ef 0 [br t,aD ar]) []=some r:=by
  simp only[Ns,aeS,br,aM,EW,seval];refine jc (xs:=t.ae) aH (fun m (_:Unit)=>∀y,y∈t.ae.take m->y.ar≠ar) (fun _ i=>[(1,aD ar),(2,cC 0),(5,aD i)]) (fun _=>[cF [ba t.ae,aD t.next,aD t.ak]]) _ (fun _ hq=>?_) (fun pre x post _ e hx cQ hw h0 hm hq hi=>?_) () (fun y hy=>by simp at hy)
  ·simp only[aeS,bq,EW,seval];exact⟨_,⟨-1,rfl,.inl ⟨rfl,by rwa[bE] at hq⟩⟩,rfl⟩
  ·have htk:t.ae.take (pre.length+1)=t.ae.take pre.length++[x]:=by rw[cD,hx]; rfl
   have i1:=fun h=>hi () (fun y hy=>by
    rw[htk] at hy;exact(bo.1 hy).elim (hq y) fun hy=>by rw[bT.1 hy]; exact h)
   cases h1:x.ar==ar<;>simp only[aeS,cQ,hx,hw,h1,bL,aL,EW,seval]
   ·exact i1 (by simpa using h1)
   ·exact⟨_,⟨_,rfl,.inr ⟨_,x,hx,by simpa using h1,rfl⟩⟩,rfl⟩
 obtain⟨_,⟨n,rfl,h1⟩,h3⟩:=key;exact⟨n,aB h3,h1⟩
theorem alo(l:List dV)(ar:Int)(hn:l.length<=100000):∃n:Int,aq bX 135 [cY l,aD ar] []=some (aD n,[])/\(0<=n↔∃x,x∈l/\x.ar=ar):=by
 have key:∃r:ag×aC,(∃n:Int,r=(aD n,[])/\(0<=n↔∃x,x∈l/\x.ar=ar))/\eS (aq bX) Ni.results 0 [] Ni.body (ef 0 [cY l,aD ar]) []=some r:=by
  simp only[Ni,aeD,EW,seval];refine jc (xs:=l) aH (fun m (_:Unit)=>∀y,y∈l.take m->y.ar≠ar) (fun _ i=>[(0,cY l),(1,aD ar),(5,aD i)]) (fun _=>[]) _ (fun _ hq=>?_) (fun pre x post _ e hx cQ hw h0 hm hq hi=>?_) () (fun y hy=>by simp at hy)
  ·simp only[aeD,bq,EW,seval];rw[bE] at hq
   grind
  ·have htk:l.take (pre.length+1)=l.take pre.length++[x]:=by rw[cD,hx]; rfl
   have i1:=fun h=>hi () (fun y hy=>by
    rw[htk] at hy;exact(bo.1 hy).elim (hq y) fun hy=>by rw[bT.1 hy]; exact h)
   cases h1:x.ar==ar<;>simp only[aeD,cQ,hx,hw,h1,gF,iW,EW,seval]
   ·exact i1 (by simpa using h1)
   grind
 obtain⟨_,⟨n,rfl,h1⟩,h3⟩:=key;exact⟨n,aB h3,h1⟩
abbrev BL(n:Nat):={ m:List Bool // m.length=n }
def Yj(ae:List Node)(m0:List Bool)(P:List gN->Prop)(s:Bool×List Bool):Prop:=(s.1=false->s.2=m0/\∀L,P L->∀e,e∈L->Mk ae m0 e.ar)/\(s.1=true->nT m0<nT s.2)
abbrev Ft(t:Tree)(m:List Bool):aC:=[.cells [ba t.ae,.int .i64 t.next,.int .i64 t.ak],.arr 1 0 (m.map ag.bool)]
section
variable {t:Tree} {ar by':Int} {Q:ag×aC->Prop}
def Wn(ht:t.ae.length<=100000)(hasc:o6 t.ae){m0:List Bool}{P:List gN->Prop}{i:Nat}{x:Node}(hxi:t.ae[i]?=some x)(hxe:x.bc.length<=100000){k:List K}
  (hx:∀(s:Bool×BL t.ae.length) z,Yj t.ae m0 (fun L=>P L\/L=x.bc) (s.1,s.2.1)->∃r,Q r/\kr (aq bX) [.tmp 4] 0 k ⟨.exit 4,(1,aD ar)::(2,cC 0)::(5,.cE 1 0 1 0 t.ae.length)::(6,aD by')::(7,.bool s.1)::(8,aD i)::z,Ft t s.2.1⟩=some r) (s:Bool×BL t.ae.length) (hs0:Yj t.ae m0 P (s.1,s.2.1)) :
  ∃r,Q r/\eS (aq bX) [.tmp 4] 0 k (.loop [1,2,5,6,7,8,9] aas) [(1,aD ar),(2,cC 0),(5,.cE 1 0 1 0 t.ae.length),(6,aD by'),(7,.bool s.1),(8,aD i),(9,aD 0)] (Ft t s.2.1)=some r:=by
 have b1:((i:Int)<0)=False:=dw;refine jc (xs:=x.bc) aH (fun j (s:Bool×BL t.ae.length)=>Yj t.ae m0 (fun L=>P L\/L=x.bc.take j) (s.1,s.2.1)) (fun(s:Bool×BL t.ae.length) j=>[(1,aD ar),(2,cC 0),(5,.cE 1 0 1 0 t.ae.length),(6,aD by'),(7,.bool s.1),(8,aD i),(9,aD j)]) (fun s=>Ft t s.2.1) Q (fun s hs=>?_) (fun pre e post s h hx' cQ hw h0 hm hs hi=>?_) s ⟨fun h=>⟨(hs0.1 h).1,fun L hL=>hL.elim ((hs0.1 h).2 L) fun hL e he=>by rw[hL] at he; simp at he⟩,hs0.2⟩
 ·simp only[CI,bq,hxi,bL,aL,EW,seval];rw[bE] at hs;exact hx s _ hs
 ·obtain⟨n,q,hn⟩:=ar8 t e.ar ht;have qp:=cP q;simp only[br,aM] at qp;have hm2:=s.2.2;have htk:x.bc.take (pre.length+1)=x.bc.take pre.length++[e]:=by rw[cD,hx']; rfl
  have same:(s.1=false->Mk t.ae m0 e.ar)->Yj t.ae m0 (fun L=>P L\/L=x.bc.take (pre.length+1)) (s.1,s.2.1):=fun hk=>⟨fun h=>⟨(hs.1 h).1,fun L hL e' he=>by
   rcases hL with hL|hL
   ·exact(hs.1 h).2 L (.inl hL) e' he
   ·rw[hL,htk] at he;rcases bo.1 he with he|he
    ·exact(hs.1 h).2 _ (.inr rfl) e' he
    ·rw[bT.1 he]; exact hk h⟩,hs.2⟩
  rcases hn with ⟨rfl,hno⟩|⟨a,y,hay,hye,rfl⟩
  ·have i1:=hi s (same fun _ a y h1 h2=>absurd h2 (hno y (aJ h1)))
   simp only[CI,cQ,hx',hw,hxi,qp,bL,aL,iG,gj,EW,seval];exact i1
  ·have ha:=(aj.1 hay).1;have a0:((a:Int)<0)=False:=dw;have a1:((a:Int)<(t.ae.length:Int))=True:=jO;have a2:(a<t.ae.length)=True:=sL;have a3:(0<=(a:Int))=True:=dw;have a4:(a<s.2.1.length)=True:=sL;obtain⟨b,hb⟩:∃b,s.2.1[a]?=some b:=⟨_,ai aH⟩;cases b
   ·have i1:=hi (true,⟨s.2.1.set a true,by simp[hm2]⟩) ⟨fun h=>(by cases h),fun _=>by
     simp only[ahR hb];cases h1:s.1 with
     |false=>have:=(hs.1 h1).1; simp only at this; rw[this]; omega
     |true=>have:=hs.2 h1; simp only at this; omega⟩
    simp only[CI,cQ,hx',hw,hxi,qp,a1,a3,hb,GI,bO,bL,aL,iG,gj,EW,seval];omega
   ·have i1:=hi s (same fun h1 a' y' g1 g2=>by
     have:=ae1 hasc g1 hay (by rw[g2,hye])
     have he:=(hs.1 h1).1;simp only at he;rw[this,<-he]; exact hb)
    simp only[CI,cQ,hx',hw,hxi,qp,a1,a3,hb,bO,bL,aL,iG,gj,EW,seval];exact i1
theorem Wo(ht:t.ae.length<=100000)(he:∀n,n∈t.ae->n.bc.length<=100000)(hasc:o6 t.ae){m0:List Bool}{k:List K}
  (hx:∀(s:Bool×BL t.ae.length) z,Yj t.ae m0 (fun L=>∃(i:Nat) (x:Node),t.ae[i]?=some x/\(x.ar=ar\/m0[i]?=some true)/\L=x.bc) (s.1,s.2.1)->∃r,Q r/\kr (aq bX) [.tmp 4] 0 k ⟨.exit 2,(1,aD ar)::(2,cC 0)::(5,.cE 1 0 1 0 t.ae.length)::(6,aD by')::(7,.bool s.1)::z,Ft t s.2.1⟩=some r) (s:Bool×BL t.ae.length) (hs0:Yj t.ae m0 (fun _=>False) (s.1,s.2.1)) :
  ∃r,Q r/\eS (aq bX) [.tmp 4] 0 k (.loop [1,2,5,6,7,8] aat) [(1,aD ar),(2,cC 0),(5,.cE 1 0 1 0 t.ae.length),(6,aD by'),(7,.bool s.1),(8,aD 0)] (Ft t s.2.1)=some r:=by
 refine jc (xs:=t.ae) aH (fun j (s:Bool×BL t.ae.length)=>Yj t.ae m0 (fun L=>∃(i:Nat) (x:Node),i<j/\t.ae[i]?=some x/\(x.ar=ar\/m0[i]?=some true)/\L=x.bc) (s.1,s.2.1)) (fun(s:Bool×BL t.ae.length) j=>[(1,aD ar),(2,cC 0),(5,.cE 1 0 1 0 t.ae.length),(6,aD by'),(7,.bool s.1),(8,aD j)]) (fun s=>Ft t s.2.1) Q (fun s hs=>?_) (fun pre x post s h hx' cQ hw h0 hm hs hi=>?_) s ⟨fun h=>⟨(hs0.1 h).1,fun L ⟨i,x,hi,_⟩=>aH⟩,hs0.2⟩
 ·simp only[CI,bq,EW,seval];exact hx s _ ⟨fun h=>⟨(hs.1 h).1,fun L ⟨i,x,h1,h2,h3⟩=>(hs.1 h).2 L ⟨i,x,(aj.1 h1).1,h1,h2,h3⟩⟩,hs.2⟩
 ·have hl:=(aj.1 hx').1;have hm2:=s.2.2;have a4:(pre.length<s.2.1.length)=True:=sL;have a2:(pre.length<t.ae.length)=True:=sL;obtain⟨b,hb⟩:∃b,s.2.1[pre.length]?=some b:=⟨_,ai aH⟩;have la:=fun {k} hx2=>Wn (t:=t) (ar:=ar) (by':=by') (Q:=Q) ht hasc hx' (he x hm) (k:=k) hx2 s hs
  have fin:∀(s':Bool×BL t.ae.length),Yj t.ae m0 (fun L=>(∃(i:Nat) (x:Node),i<pre.length/\t.ae[i]?=some x/\(x.ar=ar\/m0[i]?=some true)/\L=x.bc)\/L=x.bc) (s'.1,s'.2.1)->Yj t.ae m0 (fun L=>∃(i:Nat) (x:Node),i<pre.length+1/\t.ae[i]?=some x/\(x.ar=ar\/m0[i]?=some true)/\L=x.bc) (s'.1,s'.2.1):=fun s' h'=>⟨fun h=>⟨(h'.1 h).1,fun L ⟨i,x',h1,h2,h3,h4⟩=>(h'.1 h).2 L (by
   grind)⟩,h'.2⟩
  have skip:b=false->x.ar≠ar->Yj t.ae m0 (fun L=>∃(i:Nat) (x:Node),i<pre.length+1/\t.ae[i]?=some x/\(x.ar=ar\/m0[i]?=some true)/\L=x.bc) (s.1,s.2.1):=fun hbf hne=>⟨fun h=>⟨(hs.1 h).1,fun L ⟨i,x',h1,h2,h3,h4⟩=>(hs.1 h).2 L (by
   by_cases hip:i=pre.length
   ·exfalso;have e0:=(hs.1 h).1
    grind
   ·exact⟨i,x',aH,h2,h3,h4⟩)⟩,hs.2⟩
  cases b<;>cases h1:x.ar != ar <;>
   simp only[CI,cQ,hx',hw,hb,h1,bO,bL,aL,EW,seval]
  all_goals first
   |exact hi s (skip rfl (by simpa using h1))
   |(refine la (fun s' z hs'=>?_)
     have i1:=hi s' (fin s' hs');simp only[CI,hw,EW,seval];exact i1)
theorem Wp(ht:t.ae.length<=100000)(he:∀n,n∈t.ae->n.bc.length<=100000)(hasc:o6 t.ae){k:List K}
  (hx:∀(m:BL t.ae.length) z,Clo t.ae ar m.1->∃r,Q r/\kr (aq bX) [.tmp 4] 0 k ⟨.exit 0,(1,aD ar)::(2,cC 0)::(5,.cE 1 0 1 0 t.ae.length)::z,Ft t m.1⟩=some r)
  (hr:∀(m:BL t.ae.length),Clo t.ae ar m.1->∃r,Q r/\kr (aq bX) [.tmp 4] 0 k ⟨.ret,[(4,.cE 1 0 1 0 t.ae.length)],Ft t m.1⟩=some r) (m:BL t.ae.length) :
  ∃r,Q r/\eS (aq bX) [.tmp 4] 0 k (.loop [1,2,5,6] aau) [(1,aD ar),(2,cC 0),(5,.cE 1 0 1 0 t.ae.length),(6,aD 0)] (Ft t m.1)=some r:=by
 refine jc (xs:=t.ae) aH (fun j (m:BL t.ae.length)=>j<=nT m.1) (fun(_:BL t.ae.length) j=>[(1,aD ar),(2,cC 0),(5,.cE 1 0 1 0 t.ae.length),(6,aD j)]) (fun m=>Ft t m.1) Q (fun m hm=>?_) (fun pre x post m h hx' cQ hw h0 hm hj hi=>?_) m (cI _)
 ·simp only[CI,bq,EW,seval];refine hx m _ fun i x h1 _ e _ a y h3 _=>?_
  have h4:nT m.1=m.1.length:=Nat.le_antisymm (nz) (by rw[m.2]; exact hm)
  have ha:=(aj.1 h3).1;have h5:=List.countP_eq_length.1 h4 (m.1[a]'(by rw[m.2]; exact ha)) (jt _)
  grind
 ·have lb:=fun {k} hx2=>Wo (t:=t) (ar:=ar) (by':=pre.length) (Q:=Q) ht he hasc (m0:=m.1) (k:=k) hx2 (false,m) ⟨fun _=>⟨rfl,fun _ h=>h.elim⟩,fun h=>by cases h⟩
  simp only[CI,cQ,EW,seval];refine lb (fun s z hs=>?_)
  obtain⟨b,m'⟩:=s;cases b<;>simp only[CI,hw,EW,seval]
  ·obtain⟨e0,hc⟩:=hs.1 rfl;simp only at e0;exact hr m' (by rw[e0]; exact fun i x h1 h2 e he=>hc x.bc ⟨i,x,h1,h2,rfl⟩ e he)
  ·have:=hs.2 rfl;simp only at this;exact hi m' aH
end
def arq(t:Tree)(ar:Int)(ht:t.ae.length<=100000)(he:∀n,n∈t.ae->n.bc.length<=100000)(hasc:o6 t.ae):∃m:List Bool,aq bX 176 [br t,aD ar] []=some (gv (m.map ag.bool),[])/\m.length=t.ae.length/\Clo t.ae ar m:=by
 have key:∃r:ag×aC,(∃m:List Bool,r=(gv (m.map ag.bool),[])/\m.length=t.ae.length/\Clo t.ae ar m)/\eS (aq bX) Jh.results 0 [] Jh.body (ef 0 [br t,aD ar]) []=some r:=by
  have r1:cB t.ae.length 8=True:=qV
  have hrep:List.replicate t.ae.length (ag.agg [ag.bool false]).norm=(List.replicate t.ae.length false).map ag.bool:=by
   rw[gX]; rfl
  have lc:=fun {k Q} hx hr=>Wp (t:=t) (ar:=ar) (Q:=Q) ht he hasc (k:=k) hx hr ⟨List.replicate t.ae.length false,dw⟩
  simp only[Jh,CI,br,aM,r1,hrep,EW,seval];refine lc (fun m z hc=>?_) (fun m hc=>?_) <;>
  ·have hm:=m.2;have htk:(m.1.map ag.bool).take t.ae.length=m.1.map ag.bool:=bt jO;simp only[CI,htk,EW,seval];exact⟨_,⟨m.1,rfl,hm,hc⟩,rfl⟩
 obtain⟨_,⟨m,rfl,h1⟩,h3⟩:=key;exact⟨m,aB h3,h1⟩
def Kt{A:List Node}{B:List Bool}(h:A.length=B.length)(n:Node)(b:Bool):H3 (A++[n]) (B++[b])=H3 A B+if b then n.data.length else 0:=by
 unfold H3;rw[List.zip_append h];simp
def X1:∀(A:List Node)(B:List Bool),(∀n,n∈A->n.data.length<=4096)->H3 A B<=4096*A.length
 | [],_,_=>by simp[H3]
 |n::A,[],_=>by simp[H3]
 |n::A,b::B,h=>by
  have h1:=X1 A B fun x hx=>h x (bu _ hx)
  have h2:=h n bD;simp only[H3,List.zip_cons_cons,aK,List.sum_cons,au] at h1 ⊢;split<;>omega
def aln(t:Tree)(ar:Int)(hr:Rt t):∃a b:Int,aq bX 134 [br t,aD ar] []=some (.tuple [aD a,aD b],[])/\(lq t.ae ar).1<=a/\(lq t.ae ar).2<=b:=by
 have h200:=hr.sz.ae
 have key:∃r:ag×aC,(∃a b:Int,r=(.tuple [aD a,aD b],[])/\(lq t.ae ar).1<=a/\(lq t.ae ar).2<=b)/\eS (aq bX) Nh.results 0 [] Nh.body (ef 0 [br t,aD ar]) []=some r:=by
  obtain⟨m,q,hm,hc⟩:=arq t ar aH (fun n hn=>by have:=(hr.Yn hn).1; omega) hr.lL.ml
  have qu:=cP q;have qd:=fun M=>am2 t.ae t.next t.ak ar aH M
  have hu:=R1 hr hm hc;cases hb:((find t.ae ar).isSome&&(bl t.ae ar).kind==2)<;>rw[hb] at qd<;>simp only[br,aM] at qu<;>simp only[Nh,aeC,br,aM,qd,qu,EW,seval]
  ·have h0:lq t.ae ar=(0,0):=by unfold lq; rw[hb]; rfl
   exact⟨_,⟨_,_,rfl,by rw[h0]; exact dS 0,by rw[h0]; exact dS 0⟩,rfl⟩
  refine jc (xs:=m) aH (fun j (s:Int×Int)=>s.1=nT (m.take j)/\s.2=H3 (t.ae.take j) (m.take j)) (fun s i=>[(2,cC 0),(7,gv (m.map ag.bool)),(8,aD s.1),(9,aD s.2),(10,aD i)]) (fun _=>[cF [ba t.ae,aD t.next,aD t.ak]]) _ (fun s hs=>?_) (fun pre x post s e hx cQ hw h0 _ hs hi=>?_) (0,0) (by simp[nT,H3])
  ·rw[bE,hm,bE] at hs;simp only[aeC,bq,EW,seval];exact⟨_,⟨_,_,rfl,by rw[hs.1]; exact hu.1,by rw[hs.2]; exact hu.2⟩,rfl⟩
  ·have hl:=(aj.1 hx).1;obtain⟨n,hn⟩:∃n,t.ae[pre.length]?=some n:=⟨_,ai aH⟩;have t1:m.take (pre.length+1)=m.take pre.length++[x]:=by rw[cD,hx]; rfl
   have t2:t.ae.take (pre.length+1)=t.ae.take pre.length++[n]:=by rw[cD,hn]; rfl
   have t3:(t.ae.take pre.length).length=(m.take pre.length).length:=gr;have hnd:=(hr.Yn (aJ hn)).2;have b1:nT (m.take pre.length)<=200:=aY nz gr;have b2:=X1 (t.ae.take pre.length) (m.take pre.length) fun y hy=>(hr.Yn (dB hy)).2
   have b3:(t.ae.take pre.length).length<=200:=gr;cases x<;>simp only[aeC,cQ,hx,hw,h0,hn,bL,aL,EW,seval]
   ·exact hi s (by rw[t1,t2,Kt t3,hs.1,hs.2]; simp[nT])
   ·have w1:IntKind.i64.wrap (s.1+1)=s.1+1:=gx aH aH;have w2:IntKind.i64.wrap (s.2+(n.data.length:Int))=s.2+(n.data.length:Int):=gx aH aH;simp only[w1,w2];exact hi (s.1+1,s.2+(n.data.length:Int)) (by rw[t1,t2,Kt t3,hs.1,hs.2]; simp[nT])
 obtain⟨_,⟨a,b,rfl,h1⟩,h3⟩:=key;exact⟨a,b,aB h3,h1⟩
def ar7{t:Tree}{dJ:Int->Nat}(h:dY t dJ 0){l:List dV}(hq:pA l)(hl:l.length<=100000){ar:Int}{n:Node}(hi0:find t.ae ar=some n)(hk0:n.kind=2):aq bX 236 [br t,cY l,aD ar] []=some (aD (mg t.ae l ar),[]):=by
 have ht:=h.ae;have hdl:=h.DE hi0 hk0
 have key:∃r:ag×aC,r=(aD (mg t.ae l ar),[])/\eS (aq bX) Nr.results 0 [] Nr.body (ef 0 [br t,cY l,aD ar]) []=some r:=by
  simp only[Nr,aeR,br,aM,EW,seval];refine jc (xs:=List.replicate (t.ae.length+1) ()) gr (fun j (a:Int)=>∃y,find t.ae a=some y/\y.kind=2/\dJ a+j=dJ ar/\mg t.ae l a=mg t.ae l ar) (fun a i=>[(1,cY l),(3,cC 0),(7,aD a),(8,aD i)]) (fun _=>[cF [ba t.ae,aD t.next,aD t.ak]]) _ (fun a ha=>?_) (fun pre x post a e hx cQ hw h0 _ ha hi=>?_) ar ⟨n,hi0,hk0,aH,rfl⟩
  ·obtain⟨_,_,_,h1,_⟩:=ha;simp at h1; omega
  ·obtain⟨y,y1,y2,y3,y4⟩:=ha
   have e1:((pre.length:Int)<=(t.ae.length:Int))=True:=by
    have:=of_eq_true cQ;rw[kW] at this;simp only[fT,jx]; omega
   obtain⟨n,q,hn⟩:=alo l a hl;have qf:=cP q;have qg:=fun M=>Bp t.ae t.next t.ak a aH M
   have hup:=Lv h l y1 y2;have hqi:=(ZK hq a).trans hn.symm;rw[y1] at qg;simp only[bC,bL,aL] at qg;cases h1:decide (0<=n)
   ·have h1':Gc l a=false:=by
     cases hc:Gc l a with
     |false=>rfl
     |true=>exact absurd (hqi.1 hc) (by simpa using h1)
    rw[h1'] at hup;cases h2:a==1<;>simp only[aeR,e1,hw,qf,qg,h1,h2,EW,seval]
    ·have h2':a≠1:=by simpa using h2
     obtain⟨d1,p,p1,p2⟩:=h.qK _ _ y1 y2 h2';refine hi _ ⟨p,p1,p2,aH,?_⟩;rw[<-y4,hup]; simp[h2']
    ·refine⟨_,?_,rfl⟩;rw[<-y4,hup]; simp[show a=1 by simpa using h2]
   ·have h1':Gc l a=true:=hqi.2 (by simpa using h1)
    rw[h1'] at hup;simp only[aeR,e1,hw,qf,qg,h1,EW,seval];refine⟨_,?_,rfl⟩;rw[<-y4,hup]; rfl
 obtain⟨_,rfl,h3⟩:=key;exact aB h3
def ahM{l:List dV}(hl:l.length<=16){q:dV}{t:Tree}{k:List K}{R:List dV->Option (ag×aC)}
  (hx:∀(out:List dV) (d:Bool) z,out.length<=40->kr (aq bX) [.tmp 10,.tmp 11] 0 k ⟨.exit 0,(1,cY l)::(2,aD q.ar)::(3,aD q.ae)::(4,aD q.bytes)::(17,.slice (.own 2) (out.map gF))::(18,.bool d)::z,[cF (aM t),cF (aL (bl t.ae q.ar)),.tick 3 out.length]⟩=R (out++rJ q [] d)) :
  ∀(s:List dV×Bool),s.1.length<=0->eS (aq bX) [.tmp 10,.tmp 11] 0 k (.loop [1,2,3,4,17,18,19] ahF) [(1,cY l),(2,aD q.ar),(3,aD q.ae),(4,aD q.bytes),(17,.slice (.own 2) (s.1.map gF)),(18,.bool s.2),(19,aD 0)] [cF (aM t),cF (aL (bl t.ae q.ar)),.tick 3 s.1.length]=R (s.1++rJ q l s.2):=by
 refine pq (xs:=l) aH (fun m (s:List dV×Bool)=>s.1.length<=2*m) (fun post s=>s.1++rJ q post s.2) (fun s i=>[(1,cY l),(2,aD q.ar),(3,aD q.ae),(4,aD q.bytes),(17,.slice (.own 2) (s.1.map gF)),(18,.bool s.2),(19,aD i)]) (fun s=>[cF (aM t),cF (aL (bl t.ae q.ar)),.tick 3 s.1.length]) R (fun s hI=>?_) (fun pre x post s e hx' cQ hw h0 hm hI hi=>?_)
 ·simp only[aM,aL] at hx ⊢;simp only[Ro,bq,EW,seval];exact hx s.1 s.2 _ aH
 ·have hp:=(aj.1 hx').1;obtain⟨out,d⟩:=s;simp only at hI;have r1:cB (out.length+1) 24=True:=qV;have r2:cB (out.length+1+1) 24=True:=qV;rw[rJ];simp only[aM,aL] at hi ⊢;have i1:=hi (out++[q]++[x],true) gr;have i2:=hi (out++[q],true) gr;have i3:=hi (out++[x],d) gr;have i4:=hi (out,d) (by simp only; omega)
  simp only[aW,aK,aV,aA,au,az,aI,cm,aG,aP,gF,iW] at i1 i2 i3 i4
  cases d<;>cases h1:decide (q.ar<=x.ar)<;>cases h2:x.ar != q.ar <;>
   simp only[Ro,cQ,hx',hw,h0,h1,h2,r1,r2,gF,iW,cW,cK,dL,c8,eu,fF,af,aF,aE,cm,EW,seval]<;>first|exact i4|exact i3|exact i2|exact i1
def c78(t:Tree)(l:List dV)(ar ae bytes:Int)(hr:Rt t)(hq:pA l)(hn:l.length<=16) :
  ∃m e,aq bX 78 [br t,cY l,aD ar,aD ae,aD bytes] []=some (.tuple [cY m,aD e],[])/\pA m/\m.length<=16/\∀y,y∈m->y∈l\/∃n,find t.ae y.ar=some n/\n.kind=2:=by
 have ht:t.ae.length<=100000:=by have:=hr.sz.ae; omega
 obtain⟨a,b,qa,_⟩:=aln t ar hr;obtain⟨n,qn,hf⟩:=alo l ar aH;have qu:=cP qa;have qf:=cP qn;have qg:=fun M=>Bp t.ae t.next t.ak ar ht M
 have qd:=fun M=>am2 t.ae t.next t.ak ar ht M
 have hz:(find t.ae ar).getD Node.zero=bl t.ae ar:=rfl;rw[hz] at qg;simp only[br,aM] at qu;have hl:=fun {k R} hx=>ahM (l:=l) hn (q:=⟨ar,ae,bytes⟩) (t:=t) (k:=k) (R:=R) hx ([],decide (ae<0)) (av 0)
 simp only[aM,aL,aV,az] at hl
 have hneg:decide (ae<0) = !decide (0<=ae):=by
  rw[cr]; simp
 have sh:(0<=ae->n<0->l.length<16)->pA (rJ ⟨ar,ae,bytes⟩ l (decide (ae<0)))/\(rJ ⟨ar,ae,bytes⟩ l (decide (ae<0))).length<=16/\∀y,y∈rJ ⟨ar,ae,bytes⟩ l (decide (ae<0))->y∈l\/y.ar=ar:=by
  intro hh;rcases Int.lt_or_le ae 0 with h|h
  ·rw[iR h,zu];exact⟨hq.filter _,aY (bU _ _) hn,fun y hy => .inl (dP.1 hy).1⟩
  ·rw[gn (Int.not_lt.2 h)];obtain⟨g1,g2,g3,g4⟩:=GH ⟨ar,ae,bytes⟩ l hq;refine⟨g1,?_,fun y hy=>(g2 y hy).elim (fun e => .inr (by rw[e])) .inl⟩
   rcases Int.lt_or_le n 0 with h'|h'
   ·have:=hh h h'; omega
   ·exact aY (g4 (hf.1 h')) hn
 cases h1:(find t.ae ar).isSome<;>rw[h1] at qg qd
 ·refine⟨l,70,aB ?_,hq,hn,fun _ => .inl⟩
  simp only[Fi,Ro,br,aM,bL,aL,qg,EW,seval]
 cases h2:(bl t.ae ar).kind==2<;>rw[h2] at qd<;>simp only[jS,dR] at qd
 ·refine⟨l,73,aB ?_,hq,hn,fun _ => .inl⟩
  simp only[Fi,Ro,br,aM,bL,aL,qg,qd,EW,seval]
 cases h3:decide (0<=ae)
 case' true =>
  cases h4:decide (ae<a)
  case true =>
   refine⟨l,90,aB ?_,hq,hn,fun _ => .inl⟩
   simp only[Fi,Ro,br,aM,bL,aL,qg,qd,qu,qf,h3,hneg,h4,EW,seval]
  cases h5:decide (bytes<b)
  case true =>
   refine⟨l,90,aB ?_,hq,hn,fun _ => .inl⟩
   simp only[Fi,Ro,br,aM,bL,aL,qg,qd,qu,qf,h3,hneg,h4,h5,EW,seval]
  cases h6:decide (n<0)
  case' true =>
   cases h7:decide (16<=(l.length:Int))
   case true =>
    refine⟨l,76,aB ?_,hq,hn,fun _ => .inl⟩
    simp only[Fi,Ro,br,aM,bL,aL,qg,qd,qu,qf,h3,hneg,h4,h5,h6,h7,EW,seval]
 all_goals
  obtain⟨s1,s2,s3⟩:=sh (by intro g1 g2; simp only[bh,dD] at *; omega)
  refine⟨_,0,aB ?_,s1,s2,fun y hy=>(s3 y hy).elim .inl fun e => .inr ⟨bl t.ae ar,by rw[e]; cases hf':find t.ae ar<;>simp_all [bl],by simpa using h2⟩⟩
  rw[hneg,h3] at hl
  first
   |simp only[Fi,Ro,br,aM,bL,aL,qg,qd,qu,qf,h3,hneg,h4,h5,h6,h7,EW,seval]
   |simp only[Fi,Ro,br,aM,bL,aL,qg,qd,qu,qf,h3,hneg,h4,h5,h6,EW,seval]
   |simp only[Fi,Ro,br,aM,bL,aL,qg,qd,qu,qf,h3,hneg,EW,seval]
  refine(hl (R:=fun m=>some (.tuple [cY m,aD 0],([]:aC))) (fun out d z ho=>?_)).trans (by first|rfl|(rw[hneg,h3]; rfl))
  have r1:cB (out.length+1) 24=True:=qV;cases d<;>simp only[Ro,r1,rJ,gF,iW,aW,af,aF,aE,EW,seval]
  all_goals simp[gF,iW]
end
def pW(c h:Int):List fD->Nat->Int
 | [],_ => -1
 |x::r,i=>if x.bF==c&&x.handle==h then i else pW c h r (i+1)
def zp(l:List fD)(c h:Int):Int:=pW c h l 0
def sw(c h:Int):∀(l:List fD)(i:Nat),(pW c h l i = -1/\∀x,x∈l->(x.bF==c&&x.handle==h)=false) \/
  ∃(m:Nat) (x:fD),pW c h l i=((i+m:Nat):Int)/\l[m]?=some x/\(x.bF==c&&x.handle==h)=true
 | [],i => .inl ⟨rfl,dw⟩
 |x::r,i=>by
  rw[pW];cases hx:x.bF==c&&x.handle==h
  ·rcases sw c h r (i+1) with ⟨h1,h2⟩|⟨m,y,h1,h2,h3⟩
   ·exact .inl ⟨by simpa using h1,fun y hy=>by rcases bH.1 hy with rfl|hy; exact hx; exact h2 y hy⟩
   ·exact .inr ⟨m+1,y,by simp only[af,aE,h1]; congr 1; omega,by simpa using h2,h3⟩
  ·exact .inr ⟨0,x,dw,rfl,hx⟩
def Js(l:List fD)(ar:Int):Int:=((l.countP fun x=>x.ar==ar:Nat):Int)
def wJ(c h:Int)(x:fD):Bool:=decide (x.bF<c)||(x.bF==c&&decide (x.handle<h))
def sK(t:Tree)(l:List fD)(c h ar:Int):List fD×Int :=
 if decide (c<0)||(decide (16<=c)||(decide (h<0)||decide (99<h))) then (l,1)
 else if !(find t.ae ar).isSome||gS (bl t.ae ar) then (l,70)
 else if (bl t.ae ar).kind==2 then (l,72)
 else if decide (0<=zp l c h) then (l,71)
 else if decide (64<=(l.length:Int)) then (l,76)
 else (l.take (mj (wJ c h) l)++⟨c,h,ar⟩::l.drop (mj (wJ c h) l),0)
def P4(c h:Int):(fun x=>decide (ig x c h<0))=wJ c h:=by
 funext x;rw[cr];simp only[wJ,bh,sd,dh,bz,eH]
def Xc{t:Tree}{l:List fD}(hl:uH l)(hn:l.length<=64)(c g ar:Int):uH (sK t l c g ar).1/\(sK t l c g ar).1.length<=64:=by
 have h0:=JY (t:=t) hl hn c g ar;unfold sK;split
 ·exact⟨hl,hn⟩
 rename_i h1;split
 ·exact⟨hl,hn⟩
 rename_i h2;split
 ·exact⟨hl,hn⟩
 rename_i h3;split
 ·exact⟨hl,hn⟩
 rename_i h4;split
 ·exact⟨hl,hn⟩
 rename_i h5
 have k1:¬(!z8 c g)=true:=by
  simp only[dh,bh,pg,z8,ij,Bool.and_eq_false_iff,dD,Classical.not_not] at h1 ⊢;omega
 have k2:¬pr (fun x=>ig x c g==0) l (mj (fun x=>decide (ig x c g<0)) l)=true:=by
  intro hk;unfold pr at hk;split at hk
  ·rename_i z hz
   have hz':(z.bF==c&&z.handle==g)=true:=by
    have:=(D1 z c g).1 (by simpa using hk)
    simp[this.1,this.2]
   rcases sw c g l 0 with ⟨_,h6⟩|⟨m,_,h6,_⟩
   ·have:=h6 z (aJ hz);rw[hz'] at this; cases this
   ·apply h4;unfold zp;rw[h6];simp
  ·cases hk
 unfold vQ at h0;rw[aQ k1,aQ h2,aQ h3,aQ k2,aQ h5,P4] at h0;exact h0
def Qp{t:Tree}(ht:∀i n,find t.ae i=some n->n.kind=1\/n.kind=2)(l:List fD)(c g ar:Int){y:fD}(hy:y∈(sK t l c g ar).1):y∈l\/(∃n,find t.ae y.ar=some n/\n.kind=1)/\z8 y.bF y.handle=true:=by
 unfold sK at hy;split at hy
 ·exact .inl hy
 rename_i h1;split at hy
 ·exact .inl hy
 rename_i h2;split at hy
 ·exact .inl hy
 rename_i h3;split at hy
 ·exact .inl hy
 split at hy
 ·exact .inl hy
 rcases bo.1 hy with hy|hy
 ·exact .inl (dB hy)
 rcases bH.1 hy with rfl|hy
 ·right;simp only[dh,pg,ij,Bool.not_eq_false] at h2;obtain⟨n,hn⟩:=fA.1 h2.1;refine⟨⟨n,hn,?_⟩,?_⟩
  case refine_2 =>
   simp only[dh,bh,pg] at h1;simp only[z8,bz,bh];omega
  have hnn:bl t.ae ar=n:=by simp[bl,hn]
  rw[hnn] at h3;rcases ht _ _ hn with h|h
  ·exact h
  ·simp[h] at h3
 ·exact .inl (dA hy)
def Qq(t:Tree)(l:List fD)(c g ar:Int){y:fD}(hy:y∈l):y∈(sK t l c g ar).1:=by
 unfold sK;split
 ·exact hy
 split
 ·exact hy
 split
 ·exact hy
 split
 ·exact hy
 split
 ·exact hy
 simp only;generalize (mj _ l)=k;rw[<-cH k l] at hy;rcases bo.1 hy with hy|hy
 ·exact fu _ hy
 ·exact iE _ (bu _ hy)
section
attribute [local irreducible] eS fI lx gK dZ kr aq aR cu bJ
def aqO(l:List fD)(c h:Int)(hn:l.length<=100000):aq bX 132 [fN l,aD c,aD h] []=some (aD (zp l c h),[]):=by
 refine aB ?_;have e0:zp l c h=pW c h l (l.length-l.length):=by rw[Nat.sub_self]; rfl
 rw[e0];simp only[acW,aeB,EW,seval];refine A8 (xs:=l) aH (fun post (_:Unit)=>pW c h post (l.length-post.length)) (fun _ i=>[(0,fN l),(1,aD c),(2,aD h),(7,aD i)]) (fun _=>[]) (fun n=>some (aD n,([]:aC))) (fun _=>?_) (fun pre x post _ e hx cQ hw h0 hm hi=>?_) ()
 ·simp only[aeB,bq,pW,EW,seval]
 ·have i1:=hi ();have e1:l.length-(x::post).length=pre.length:=by rw[e]; simp
  have e2:l.length-post.length=pre.length+1:=by rw[e]; simp; omega
  rw[e2] at i1;rw[e1,pW];cases h1:x.bF==c<;>cases h2:x.handle==h<;>simp only[aeB,cQ,hx,hw,h0,h1,h2,ib,jb,dR,cW,cK,af,aE,aF,EW,seval]<;>exact i1
def af9 l c h hn:=cP (aqO l c h hn)
def aqQ(l:List fD)(ar:Int)(hn:l.length<=100000):aq bX 136 [fN l,aD ar] []=some (aD (Js l ar),[]):=by
 refine aB ?_;simp only[acY,Yu,EW,seval];refine(pq (xs:=l) aH (fun m n=>n<=m) (fun post (n:Nat)=>((n+post.countP fun x=>x.ar==ar:Nat):Int)) (fun n i=>[(0,fN l),(1,aD ar),(5,aD n),(6,aD i)]) (fun _=>[]) (fun n=>some (aD n,([]:aC))) (fun n _=>?_) (fun pre x post n e hx cQ hw h0 hm hI hi=>?_) 0 aH).trans (by simp[Js])
 ·simp only[Yu,bq,List.countP_nil,EW,seval]
 ·have i1:=hi n aH;have i2:=hi (n+1) aH;have hl:=(aj.1 hx).1;have w1:IntKind.i64.wrap ((n:Int)+1)=((n+1:Nat):Int):=by rw[gx aH aH]; rfl
  cases h1:x.ar==ar
  ·simp only[lX,h1,af,aE,dj] at i1 ⊢;simp only[Yu,cQ,hx,hw,h0,h1,ib,jb,EW,seval];exact i1
  ·have e2:n+(List.countP (fun x=>x.ar==ar) (x::post))=n+1+List.countP (fun x=>x.ar==ar) post:=by simp only[lX,h1,aF]; omega
   simp only[e2];simp only[Yu,cQ,hx,hw,w1,h0,h1,ib,jb,EW,seval];exact i2
def as7 l ar hn:=cP (aqQ l ar hn)
def aqN(t:Tree)(ar:Int)(ht:t.ae.length<=100000):aq bX 131 [br t,aD ar] []=some (.bool ((find t.ae ar).isSome&&gS (bl t.ae ar)),[]):=by
 refine aB ?_;have q:=fun M=>Bp t.ae t.next t.ak ar ht M
 have hz:(find t.ae ar).getD Node.zero=bl t.ae ar:=rfl;rw[hz] at q;unfold gS;generalize bl t.ae ar=n at q
 cases h1:(find t.ae ar).isSome<;>rw[h1] at q<;>cases h2:n.kind==1<;>cases h3:n.eG==0 <;>
  simp only[acV,api,br,aM,q,h2,h3,bL,aL,dR,cW,cK,EW,seval]
def am1(ae:List Node)(next ak ar:Int)(h:ae.length<=100000)(M:aC):aR (aq bX) 131 [.agg [ba ae,aD next,aD ak],aD ar] M=some (.bool ((find ae ar).isSome&&gS (bl ae ar)),M) :=
 cO (aqN ⟨ae,next,ak⟩ ar h) M
def af6(ae:List Node)(next ak ar:Int)(s:Bytes)(ht:Small ⟨ae,next,ak⟩)(M:aC):aR (aq bX) 122 [.agg [ba ae,aD next,aD ak],aD ar,.str s] M =
  some (.agg [ba (dE ae ar s),aD next,aD ak],M):=cO (aqE ⟨ae,next,ak⟩ ar s ht) M
def aaJ{T:List ag}{n:Node}{e:gN}(hn:n.bc.length<=100000){k:List K}{R:List gN->Bool->Option (ag×aC)}
  (hx:∀out done v q,out.length<=300000->kr (aq bX) [.dQ 8 3] 0 k ⟨.exit 0,[(2,.str e.name),(4,cC 0),(8,cC 1),(9,cC 2),(11,cC 3),(12,.slice (.own 4) (out.map iG)),(13,.bool done),(14,v),(30,q)],[.cells T,.cells zT,cF (aL n),cF (gj e),.tick 3 out.length]⟩=R out done)
  (hT:∀B M,T.map (ag.jH B M)=T) :
  ∀(l pre out:List gN)(done:Bool),n.bc=pre++l->out.length+2*l.length<=300000->eS (aq bX) [.dQ 8 3] 0 k (.loop [2,4,8,9,11,12,13,14] Z3) [(2,.str e.name),(4,cC 0),(8,cC 1),(9,cC 2),(11,cC 3),(12,.slice (.own 4) (out.map iG)),(13,.bool done),(14,aD pre.length)] [.cells T,.cells zT,cF (aL n),cF (gj e),.tick 3 out.length]=R (vK e l out done).1 (vK e l out done).2:=by
 intro l;induction l with
 |nil =>
  intro pre out done h ho;rw[bI];simp only[GX,aL,ja,jP h,EN,seval];exact hx _ _ _ _ (by simp at ho; omega)
 |cons m r ih =>
  intro pre out done h ho;rw[bI];have dN:pre.length+1<=100000:=by rw[h] at hn; simp at hn; omega
  have hw:=zB pre m;have hi:=fun out done ho=>ih (pre++[m]) out done (by rw[h]; simp) ho
  simp only[au] at ho;have r1:cB (out.length+1) 32=True:=qV;have r2:cB (out.length+1+1) 32=True:=qV;have hg:(!(strLt m.name e.name||m.name==e.name))=gtB m.name e.name:=rfl
  rw[vK];simp only[GX,hg,aL,ja,iP h,gQ h,gj,hT,zT,EN,seval]
  repeat' ((first|apply bB|apply bW|apply dM)<;>intro hb<;>simp only[hb,EN,GX,gQ h,hw,r1,r2,gj,hT,zT,hg,seval])
  all_goals try simp only[GX,gQ h,hw,r1,r2,gj,hT,zT,hg,EN,seval]
  all_goals first
   |(refine iI ?_ ((hi (out++[e]++[m]) true gr).trans ?_)
     ·simp only[aW,aK,aV,aA,au,az]; rfl
     ·clear hi ih hx hw h hT hg; simp_all; done)
   |(refine iI ?_ ((hi (out++[m]) done gr).trans ?_)
     ·simp only[aW,aK,aV,aA,au,az]; rfl
     ·clear hi ih hx hw h hT hg; simp_all; done)
def aqB(t:Tree)(ar:Int)(s:Bytes)(of:Int)(ht:Small t):aq bX 118 [br t,aD ar,.str s,aD of] []=some (br (il t ar s of),[]):=by
 refine aB ?_;have hd:=FP ht ar;unfold il;simp only[SA,GX,br,aM,Bp,ht.ae,bL,EN,seval];generalize (find t.ae ar).getD Node.zero=n at hd ⊢;simp only[GX,aL,EN,seval];refine(aaJ (e:=⟨s,of,t.ak⟩) (R:=fun out done=>some (br ⟨eT t.ae { n with bc:=out++(if done then [] else [⟨s,of,t.ak⟩]) },t.next,nw (t.ak+1)⟩,[])) hd (fun out done v e ho=>?_) (fun B M=>by simp only[GX,EN,seval]) n.bc [] [] false rfl gr).trans (by simp[br,aM,zg])
 have r1:cB (out.length+1) 32=True:=qV;cases done
 ·simp only[GX,zT,aL,gj,r1,abj,Hr,ht.ae,EN,seval];simp[br,aM]
 ·simp only[GX,zT,aL,gj,r1,Hr,ht.ae,EN,seval];simp[br,aM]
def ZM(ae:List Node)(next ak ar:Int)(s:Bytes)(of:Int)(ht:Small ⟨ae,next,ak⟩)(M:aC):aR (aq bX) 118 [.agg [ba ae,aD next,aD ak],aD ar,.str s,aD of] M =
  some (br (il ⟨ae,next,ak⟩ ar s of),M):=cO (aqB ⟨ae,next,ak⟩ ar s of ht) M
def aaP{t:Tree}(ht:t.ae.length<=100000){k:List K}{R:Nat->Option (ag×aC)}
  (hx:∀(d:Nat) v q,kr (aq bX) [.tmp 4] 0 k ⟨.exit 0,[(1,v),(2,cC 0),(5,aD d),(13,q)],[cF (aM t)]⟩=R d) :
  ∀(m:Nat)(ar:Int)(d:Nat),d+m=201->eS (aq bX) [.tmp 4] 0 k (.loop [1,2,5] aac) [(1,aD ar),(2,cC 0),(5,aD d)] [cF (aM t)]=R (wj t.ae m ar d):=by
 intro m;induction m with
 |zero =>
  intro ar d hd;rw[bI];have hd':((d:Int)<=200)=False:=gr;simp only[KI,EN,seval]
  repeat' ((first|apply bB|apply bW|apply dM)<;>intro hb<;>simp only[hb,EN,KI,hd',seval])
  all_goals exact hx _ _ _
 |succ m ih =>
  intro ar d hd;rw[bI];have hd':((d:Int)<=200)=True:=gr;have hw:IntKind.i64.wrap ((d:Int)+1)=((d+1:Nat):Int):=by rw[gx aH aH]; rfl
  have hi:=fun ar=>ih ar (d+1) aH
  rw[wj];simp only[KI,EN,seval];refine bW (fun hb=>?_) (fun hb=>?_)
  ·simp only[KI,hb,hd',hw,aM,Bp,ht,bL,aL,EN,seval];have h1:¬ar=1:=by simpa using hb
   rw[aQ h1];exact hi _
  ·simp only[KI,hb,hd',hw,aM,Bp,ht,bL,aL,EN,seval];have h1:ar=1:=by simpa using hb
   rw[aZ h1];exact hx _ _ _
def aqK(t:Tree)(ar:Int)(ht:t.ae.length<=100000):aq bX 128 [br t,aD ar] []=some (aD (pR t.ae ar),[]):=by
 refine aB ?_;simp only[acS,KI,br,EN,seval];exact aaP (R:=fun(d:Nat)=>some (aD d,[])) ht (fun d v q=>by simp only[KI,EN,seval]) 201 ar 0 rfl
def PV(ae:List Node)(next ak ar:Int)(h:ae.length<=100000)(M:aC):aR (aq bX) 128 [.agg [ba ae,aD next,aD ak],aD ar] M=some (aD (pR ae ar),M) :=
 cO (aqK ⟨ae,next,ak⟩ ar h) M
def ark(t:Tree)(n:Node)(ht:Small t):aq bX 171 [br t,bL n] []=some (.bool (DQ t n),[]):=by
 refine aB ?_;simp only[adg,ai6,br,aM,bL,aL,PV,ht.ae,EN,seval];unfold DQ
 repeat' ((first|apply bB|apply bW|apply dM)<;>intro hb<;>simp only[hb,EN,ai6,PV,ht.ae,seval])
 all_goals simp_all
def atn(ae:List Node)(next ak a b c:Int)(d:Bytes)(e:List gN)(u:Int)(h:Small ⟨ae,next,ak⟩)(M:aC):aR (aq bX) 171 [.agg [ba ae,aD next,aD ak],.agg [aD a,aD b,aD c,df d,ja e,aD u]] M =
  some (.bool (DQ ⟨ae,next,ak⟩ ⟨a,b,c,d,e,u⟩),M):=cO (ark ⟨ae,next,ak⟩ ⟨a,b,c,d,e,u⟩ h) M
def aqA(t:Tree)(ar:Int)(s:Bytes)(ht:Small t)(hs:s.length<=100000):aq bX 117 [br t,aD ar,.str s] []=some (aD (o8 t ar s),[]):=by
 refine aB ?_;have hd:=tM ht ar;have ht':Small ⟨t.ae,t.next,t.ak⟩:=ht
 simp only[acL,GW,br,aM,ZN,ht.ae,bL,aL,EN,seval];unfold o8;refine bB (fun hb=>?_) (fun hb=>?_)
 ·simp only[GW,EN,seval];simp_all
 ·simp only[GW,Tu,hs,EN,seval];refine bB (fun hb'=>?_) (fun hb'=>?_)
  ·simp only[GW,EN,seval];simp_all
  ·simp only[GW,af7,hd,EN,seval];rcases tE s (gW t.ae ar).1.bc 0 with ⟨h1,h2⟩|⟨m,n,h1,h2,h3⟩
   ·rw[h2];simp only[GW,atn,ht',EN,seval];refine bB (fun hb''=>?_) (fun hb''=>?_)
    ·simp only[GW,EN,seval];simp_all
    ·simp only[GW,EN,seval];simp_all
   ·rw[h3];simp only[GW,EN,seval];simp_all
def af4(ae:List Node)(next ak ar:Int)(s:Bytes)(ht:Small ⟨ae,next,ak⟩)(hs:s.length<=100000)(M:aC):aR (aq bX) 117 [.agg [ba ae,aD next,aD ak],aD ar,.str s] M =
  some (aD (o8 ⟨ae,next,ak⟩ ar s),M):=cO (aqA ⟨ae,next,ak⟩ ar s ht hs) M
def amY(ae:List Node)(next ak a b c u:Int)(h:ae.length<=100000)(M:aC):aR (aq bX) 119 [.agg [ba ae,aD next,aD ak],.agg [aD a,aD b,aD c,gv [],gv [],aD u]] M =
  some (.agg [ba (eT ae ⟨a,b,c,[],[],u⟩),aD next,aD ak],M):=Hr ae next ak a b c [] [] u h M
def QI{t:Tree}(hz:Sz 1000 t)(k u next ak a c:Int):Small ⟨eT t.ae ⟨a,k,c,[],[],u⟩,next,ak⟩:=(hz.with dw dw next ak).small aH
set_option maxHeartbeats 1000000 in
def c70(t:Tree)(ar:Int)(s:Bytes)(kind:Int)(hz:Sz 1000 t)(hs:s.length<=100000):aq bX 70 [br t,aD ar,.str s,aD kind] []=some (.tuple [br (rX t ar s kind).1,aD (rX t ar s kind).2.1,aD (rX t ar s kind).2.2],[]):=by
 obtain⟨ae,next,ak⟩:=t
 refine aB ?_;have ht:Small ⟨ae,next,ak⟩:=hz.small aH
 have hn:ae.length<=100000:=ht.ae;have hw:=fun k u next' cookie' a c=>QI hz k u next' cookie' a c
 simp only[amw,E70,br,aM,af4,ht,hs,EN,seval]
 repeat' ((first|apply bB|apply bW|apply dM)<;>intro hb<;>simp only[hb,EN,E70,af4,ht,hs,hn,amY,ZM,hw,br,aM,seval])
 all_goals (clear hw; simp_all only[rX,br,aM,qC,↓reduceIte,reduceCtorEq,aw]; done)
def aaO{t:Tree}{of:Int}(ht:t.ae.length<=100000){k:List K}{R:Bool->Option (ag×aC)}
  (hx:∀e,kr (aq bX) [.tmp 6] 0 k ⟨.exit 0,e,[cF (aM t)]⟩=R false) (hr:∀b,kr (aq bX) [.tmp 6] 0 k ⟨.ret,[(6,.bool b)],[cF (aM t)]⟩=R b) :
  ∀(m:Nat)(ar:Int)(d:Nat),d+m=t.ae.length+1->eS (aq bX) [.tmp 6] 0 k (.loop [1,2,3,7] aab) [(1,aD ar),(2,aD of),(3,cC 0),(7,aD d)] [cF (aM t)]=R (ni t.ae of m ar):=by
 intro m;induction m with
 |zero =>
  intro ar d hd;rw[bI];have hd':((d:Int)<=(t.ae.length:Int))=False:=gr;simp only[GY,aM,ba,hd',EN,seval];exact hx _
 |succ m ih =>
  intro ar d hd;rw[bI];have hd':((d:Int)<=(t.ae.length:Int))=True:=gr;have hw:IntKind.i64.wrap ((d:Int)+1)=((d+1:Nat):Int):=by rw[gx aH aH]; rfl
  have hi:=fun ar=>ih ar (d+1) aH
  rw[ni];simp only[GY,aM,ba,hd',EN,seval];refine bB (fun hb=>?_) (fun hb=>?_)
  ·have h1:ar=of:=by simpa using hb
   simp only[GY,EN,seval];rw[aZ h1];exact hr _
  ·have h1:¬ar=of:=by simpa using hb
   simp only[GY,EN,seval];rw[aQ h1];refine bB (fun hb=>?_) (fun hb=>?_)
   ·have h1:ar=1:=by simpa using hb
    simp only[GY,EN,seval];rw[aZ h1];exact hr _
   ·have h1:¬ar=1:=by simpa using hb
    simp only[GY,hw,Bp,ht,bL,aL,EN,seval];rw[aQ h1];exact hi _
def aqI(t:Tree)(ar of:Int)(ht:t.ae.length<=100000):aq bX 126 [br t,aD ar,aD of] []=some (.bool (iM t.ae ar of),[]):=by
 refine aB ?_;simp only[acQ,GY,br,EN,seval];exact aaO (R:=fun b=>some (.bool b,[])) ht (fun e=>by simp only[GY,EN,seval]) (fun b=>by simp only[GY,EN,seval]) (t.ae.length+1) ar 0 aH
def af8(ae:List Node)(next ak ar of:Int)(h:ae.length<=100000)(M:aC):aR (aq bX) 126 [.agg [ba ae,aD next,aD ak],aD ar,aD of] M=some (.bool (iM ae ar of),M) :=
 cO (aqI ⟨ae,next,ak⟩ ar of h) M
def k70(ae:List Node)(next ak ar:Int)(s:Bytes)(kind:Int)(hz:Sz 1000 ⟨ae,next,ak⟩)(hs:s.length<=100000)(M:aC):aR (aq bX) 70 [.agg [ba ae,aD next,aD ak],aD ar,.str s,aD kind] M =
  some (.tuple [br (rX ⟨ae,next,ak⟩ ar s kind).1,aD (rX ⟨ae,next,ak⟩ ar s kind).2.1,aD (rX ⟨ae,next,ak⟩ ar s kind).2.2],M):=cO (c70 ⟨ae,next,ak⟩ ar s kind hz hs) M
def c68(t:Tree)(ar to:Int)(s:Bytes)(hz:Sz 1000 t)(hs:s.length<=100000):aq bX 68 [br t,aD ar,aD to,.str s] []=some (.tuple [br (CS t ar to s).1,aD (CS t ar to s).2],[]):=by
 obtain⟨ae,next,ak⟩:=t
 refine aB ?_;have ht:Small ⟨ae,next,ak⟩:=hz.small aH
 have hn:ae.length<=100000:=ht.ae;have hf:=hz.find ar;have hw':∀l,Small ⟨eT ae { bl ae ar with eG:=l },next,ak⟩:=fun l=>(hz.with (n:={ bl ae ar with eG:=l }) (iZ hf.1) hf.2 next ak).small aH
 simp only[amv,E68,br,aM,Bp,hn,bL,aL,EN,seval]
 repeat' ((first|apply bB|apply bW|apply dM)<;>intro hb<;>simp only[hb,EN,E68,af4,ht,hs,hn,Hr,ZM,hw',br,aM,seval])
 all_goals (clear hw' hf; simp_all only[CS,br,aM,qC,↓reduceIte,reduceCtorEq,aw]; done)
def k68(ae:List Node)(next ak ar to:Int)(s:Bytes)(hz:Sz 1000 ⟨ae,next,ak⟩)(hs:s.length<=100000)(M:aC):aR (aq bX) 68 [.agg [ba ae,aD next,aD ak],aD ar,aD to,.str s] M =
  some (.tuple [br (CS ⟨ae,next,ak⟩ ar to s).1,aD (CS ⟨ae,next,ak⟩ ar to s).2],M):=cO (c68 ⟨ae,next,ak⟩ ar to s hz hs) M
def aqD(t:Tree)(ar:Int)(ht:Small t):aq bX 121 [br t,aD ar] []=some (br ⟨fm t.ae ar,t.next,t.ak⟩,[]):=by
 obtain⟨ae,next,ak⟩:=t
 refine aB ?_;have hn:ae.length<=100000:=ht.ae;simp only[acM,ai0,br,aM,Bp,hn,bL,aL,EN,seval]
 repeat' ((first|apply bB|apply bW|apply dM)<;>intro hb<;>simp only[hb,EN,ai0,hn,Hr,am8,br,aM,seval])
 all_goals (simp_all only[fm,br,aM,qC,↓reduceIte,reduceCtorEq,aw]; done)
def af5(ae:List Node)(next ak ar:Int)(ht:Small ⟨ae,next,ak⟩)(M:aC):aR (aq bX) 121 [.agg [ba ae,aD next,aD ak],aD ar] M =
  some (.agg [ba (fm ae ar),aD next,aD ak],M):=cO (aqD ⟨ae,next,ak⟩ ar ht) M
def c71(t:Tree)(ar:Int)(s:Bytes)(hz:Sz 1000 t)(hs:s.length<=100000):aq bX 71 [br t,aD ar,.str s] []=some (.tuple [br (BT t ar s).1,aD (BT t ar s).2.1,aD (BT t ar s).2.2],[]):=by
 obtain⟨ae,next,ak⟩:=t
 refine aB ?_;have ht:Small ⟨ae,next,ak⟩:=hz.small aH
 have hn:ae.length<=100000:=ht.ae;have hl:Small ⟨dE ae ar s,next,ak⟩:=(hz.left ar s next ak).small aH
 simp only[amx,E71,br,aM,k72,ht,hs,bL,aL,EN,seval]
 repeat' ((first|apply bB|apply bW|apply dM)<;>intro hb<;>simp only[hb,EN,E71,hn,ht,hs,Bp,af6,af5,hl,bL,aL,br,aM,seval])
 all_goals (simp_all only[BT,br,aM,qC,↓reduceIte,reduceCtorEq,aw]; done)
def k71(ae:List Node)(next ak ar:Int)(s:Bytes)(hz:Sz 1000 ⟨ae,next,ak⟩)(hs:s.length<=100000)(M:aC):aR (aq bX) 71 [.agg [ba ae,aD next,aD ak],aD ar,.str s] M =
  some (.tuple [br (BT ⟨ae,next,ak⟩ ar s).1,aD (BT ⟨ae,next,ak⟩ ar s).2.1,aD (BT ⟨ae,next,ak⟩ ar s).2.2],M):=cO (c71 ⟨ae,next,ak⟩ ar s hz hs) M
def aqJ(t:Tree)(x:Node)(y:Int)(ht:Small t):aq bX 127 [br t,bL x,aD y] []=some (aD (vh t.ae x.kind y),[]):=by
 obtain⟨ae,next,ak⟩:=t
 refine aB ?_;have hn:ae.length<=100000:=ht.ae;simp only[acR,ai1,br,aM,Bp,hn,bL,aL,EN,seval]
 repeat' ((first|apply bB|apply bW|apply dM)<;>intro hb<;>simp only[hb,EN,ai1,seval])
 all_goals (simp_all only[vh,qC,↓reduceIte,reduceCtorEq,aw]; done)
def amZ(ae:List Node)(next ak a b c:Int)(d:Bytes)(e:List gN)(u y:Int)(ht:Small ⟨ae,next,ak⟩)(M:aC):aR (aq bX) 127 [.agg [ba ae,aD next,aD ak],.agg [aD a,aD b,aD c,df d,ja e,aD u],aD y] M =
  some (aD (vh ae b y),M):=cO (aqJ ⟨ae,next,ak⟩ ⟨a,b,c,d,e,u⟩ y ht) M
def c83(t:Tree)(ar:Int)(data:Bytes)(ht:Small t)(hd:data.length<=100000):aq bX 83 [br t,aD ar,df data] []=some (.tuple [br (rT t ar data).1,aD (rT t ar data).2],[]):=by
 obtain⟨ae,next,ak⟩:=t
 refine aB ?_;have hn:ae.length<=100000:=ht.ae;have r1:cB data.length 1=True:=qV;simp only[afW,E83,br,aM,Bp,hn,bL,aL,EN,seval]
 repeat' ((first|apply bB|apply bW|apply dM)<;>intro hb<;>simp only[hb,EN,E83,hn,r1,Hr,br,aM,seval])
 all_goals (simp_all only[rT,br,aM,qC,↓reduceIte,reduceCtorEq,aw]; done)
def k83(ae:List Node)(next ak ar:Int)(data:Bytes)(ht:Small ⟨ae,next,ak⟩)(hd:data.length<=100000)(M:aC):aR (aq bX) 83 [.agg [ba ae,aD next,aD ak],aD ar,df data] M =
  some (.tuple [br (rT ⟨ae,next,ak⟩ ar data).1,aD (rT ⟨ae,next,ak⟩ ar data).2],M):=cO (c83 ⟨ae,next,ak⟩ ar data ht hd) M
def aqR(t:Tree)(ar:Int)(ht:Small t):aq bX 137 [br t,aD ar] []=some (.tuple [br (kL t ar).1,aD (kL t ar).2],[]):=by
 obtain⟨ae,next,ak⟩:=t
 refine aB ?_;have hn:ae.length<=100000:=ht.ae;simp only[acZ,ai2,br,aM,Bp,hn,bL,aL,EN,seval]
 repeat' ((first|apply bB|apply bW|apply dM)<;>intro hb<;>simp only[hb,EN,ai2,hn,am8,br,aM,seval])
 all_goals (simp_all only[kL,br,aM,qC,↓reduceIte,reduceCtorEq,aw]; done)
def am3(ae:List Node)(next ak ar:Int)(ht:Small ⟨ae,next,ak⟩)(M:aC):aR (aq bX) 137 [.agg [ba ae,aD next,aD ak],aD ar] M =
  some (.tuple [br (kL ⟨ae,next,ak⟩ ar).1,aD (kL ⟨ae,next,ak⟩ ar).2],M):=cO (aqR ⟨ae,next,ak⟩ ar ht) M
def c41:aq bX 41 [] []=some (br wR,[]):=by
 refine aB ?_;simp only[amo,E41,EN,seval];rfl
def k41:=cP c41
def aaQ{ae:List Node}{next ak ar at' d:Int}(ht:ae.length<=100000){k:List K}{R:Int->Option (ag×aC)}
  (hx:∀fR v q,kr (aq bX) [.tmp 6] 0 k ⟨.exit 0,[(1,aD ar),(2,aD at'),(3,cC 0),(7,aD fR),(8,aD d),(9,v),(19,q)],[cF (aM ⟨ae,next,ak⟩)]⟩=R fR) :
  ∀(l pre:List Node)(fR:Int),ae=pre++l->eS (aq bX) [.tmp 6] 0 k (.loop [1,2,3,7,8,9] aad) [(1,aD ar),(2,aD at'),(3,cC 0),(7,aD fR),(8,aD d),(9,aD pre.length)] [cF (aM ⟨ae,next,ak⟩)]=R (wo ae ar at' d l fR):=by
 intro l;induction l with
 |nil =>
  intro pre fR h;rw[bI];simp only[Rc,aM,jP h,EN,seval];exact hx _ _ _
 |cons n r ih =>
  intro pre fR h;rw[bI];have dN:pre.length+1<=100000:=by rw[h] at ht; simp at ht; omega
  have hw:=zB pre n;have hi:=fun fR=>ih (pre++[n]) fR (by rw[h]; simp)
  rw[wo];simp only[aM] at hi;generalize hst:sG ae ar at' d n fR=m1;simp only[Rc,aM,iP h,gQ h,aL,EN,seval]
  repeat' ((first|apply bB|apply bW|apply dM)<;>intro hb<;>simp only[hb,EN,Rc,hw,af8,PV,ht,aL,seval])
  all_goals refine iI ?_ (hi m1)
  all_goals congr 1
  all_goals (subst hst; clear hi ih hx hw h ht; simp_all only[sG,nw,gt_iff_lt,aA,au,az,aI,qC,↓reduceIte,reduceCtorEq,aw]; done)
def aqL(t:Tree)(ar at':Int)(ht:t.ae.length<=100000):aq bX 129 [br t,aD ar,aD at'] []=some (aD (Ci t.ae ar at'),[]):=by
 obtain⟨ae,next,ak⟩:=t
 have ht:ae.length<=100000:=ht;refine aB ?_;simp only[acT,Rc,br,aM,PV,ht,EN,seval];exact aaQ (R:=fun z=>some (aD z,[])) ht (fun fR v q=>by simp only[Rc,EN,seval]) ae [] 0 rfl
def am0(ae:List Node)(next ak ar at':Int)(h:ae.length<=100000)(M:aC):aR (aq bX) 129 [.agg [ba ae,aD next,aD ak],aD ar,aD at'] M=some (aD (Ci ae ar at'),M) :=
 cO (aqL ⟨ae,next,ak⟩ ar at' h) M
set_option maxHeartbeats 2000000 in
def c73(t:Tree)(ku:Int)(s:Bytes)(to:Int)(nm:Bytes)(hz:Sz 1000 t)(hs:s.length<=100000)(ha:nm.length<=100000):aq bX 73 [br t,aD ku,.str s,aD to,.str nm] [] =
  some (.tuple [br (wT t ku s to nm).1,aD (wT t ku s to nm).2.1,aD (wT t ku s to nm).2.2],[]):=by
 obtain⟨ae,next,ak⟩:=t
 have ht:Small ⟨ae,next,ak⟩:=hz.small aH
 have hn:ae.length<=100000:=ht.ae;have hd:(gW ae to).1.bc.length<=100000:=tM ht to;have z1:Sz 1001 ⟨dE ae ku s,next,ak⟩:=hz.left ku s next ak
 have z2:Sz 1002 ⟨dE (dE ae ku s) to nm,next,ak⟩:=z1.left to nm next ak
 have z3:∀y,Sz 1003 ⟨fm (dE (dE ae ku s) to nm) y,next,ak⟩:=fun y=>z2.unnamed y next ak
 have hx:=hz.find (fg ae ku s).1;have z4:∀y,Sz 1004 ⟨eT (fm (dE (dE ae ku s) to nm) y) { bl ae (fg ae ku s).1 with up:=to },next,ak⟩:=fun y=>(z3 y).with (n:={ bl ae (fg ae ku s).1 with up:=to }) (aY hx.1 aH) hx.2 next ak
 have z5:Sz 1002 ⟨eT (dE ae ku s) { bl ae (fg ae ku s).1 with up:=to },next,ak⟩:=z1.with (n:={ bl ae (fg ae ku s).1 with up:=to }) (aY hx.1 aH) hx.2 next ak
 have s1:=z1.small aH;have s2:=z2.small aH;have s3:=fun y=>(z3 y).small aH
 have s4:=fun y=>(z4 y).small aH
 have s5:=z5.small aH;have n1:(dE ae ku s).length<=100000:=s1.ae;have n3:∀y,(fm (dE (dE ae ku s) to nm) y).length<=100000:=fun y=>(s3 y).ae
 clear z1 z2 z3 z4 z5 hx;refine aB ?_;simp only[amz,Rm,br,aM,k72,ht,hs,EN,seval];refine bB (fun hb0=>?_) (fun hb0=>?_)
 ·simp only[Rm,hb0,EN,seval];clear s1 s2 s3 s4 s5 n1 n3;simp_all only[wT,br,aM,qC,↓reduceIte,reduceCtorEq,aw]
 simp only[Rm,hb0,ZN,hn,bL,aL,EN,seval];refine bB (fun hb1=>?_) (fun hb1=>?_)
 ·simp only[Rm,hb1,EN,seval];clear s1 s2 s3 s4 s5 n1 n3;simp_all only[wT,br,aM,qC,↓reduceIte,reduceCtorEq,aw]
 simp only[Rm,hb1,Tu,ha,EN,seval];refine bB (fun hb2=>?_) (fun hb2=>?_)
 ·simp only[Rm,hb2,EN,seval];clear s1 s2 s3 s4 s5 n1 n3;simp_all only[wT,br,aM,qC,↓reduceIte,reduceCtorEq,aw]
 simp only[Rm,hb2,af7,hd,EN,seval];rcases tE nm (gW ae to).1.bc 0 with ⟨h1,h2⟩|⟨m,n,h1,h2,h3⟩
 ·have hu:jf (gW ae to).1.bc nm=0:=by simp[jf,h1]
  rw[h2];simp only[Rm,EN,seval]
  repeat' ((first|apply bB|apply bW|apply dM)<;>intro hb<;>simp only[hb,EN,Rm,Bp,hn,ht,bL,aL,af8,amZ,PV,am0,af6,af5,Hr,ZM,s1,s2,s3,s4,s5,n1,n3,br,aM,seval])
  all_goals (clear s1 s2 s3 s4 s5 n1 n3 h2; simp_all only[wT,tn,manyN,hu,br,aM,qC,↓reduceIte,reduceCtorEq,aw]; done)
 ·have hu:jf (gW ae to).1.bc nm=n.ar:=by simp[jf,h2]
  rw[h3];simp only[Rm,h1,gj,EN,seval]
  repeat' ((first|apply bB|apply bW|apply dM)<;>intro hb<;>simp only[hb,EN,Rm,Bp,hn,ht,bL,aL,af8,amZ,PV,am0,af6,af5,Hr,ZM,s1,s2,s3,s4,s5,n1,n3,br,aM,seval])
  all_goals (clear s1 s2 s3 s4 s5 n1 n3 h3; simp_all only[wT,tn,manyN,hu,br,aM,qC,↓reduceIte,reduceCtorEq,aw]; done)
def k73(ae:List Node)(next ak ku:Int)(s:Bytes)(to:Int)(nm:Bytes)(hz:Sz 1000 ⟨ae,next,ak⟩)(hs:s.length<=100000)(ha:nm.length<=100000)(M:aC):aR (aq bX) 73 [.agg [ba ae,aD next,aD ak],aD ku,.str s,aD to,.str nm] M =
  some (.tuple [br (wT ⟨ae,next,ak⟩ ku s to nm).1,aD (wT ⟨ae,next,ak⟩ ku s to nm).2.1,aD (wT ⟨ae,next,ak⟩ ku s to nm).2.2],M):=cO (c73 ⟨ae,next,ak⟩ ku s to nm hz hs ha) M
def Wv{α:Type}(lt:α->Bool)(x:α)(l:List α):mj lt (x::l)=if lt x then mj lt l+1 else 0:=by
 unfold mj;rw[iu];split<;>simp
def ahL{l:List fD}(hn:l.length<=100000){c h ar:Int}{t:Tree}{n:Node}{i:Nat}{k:List K}{R:Option (ag×aC)}
  (hx:∀z,kr (aq bX) [.tmp 10,.tmp 11] 0 k ⟨.exit 0,(1,fN l)::(2,aD c)::(3,aD h)::(4,aD ar)::(14,aD i)::z,[cF (aM t),cF (aL n)]⟩=R) :
  ∀(rest pre:List fD),l=pre++rest->pre.length+mj (wJ c h) rest=i->eS (aq bX) [.tmp 10,.tmp 11] 0 k (.loop [1,2,3,4,14] ahE) [(1,fN l),(2,aD c),(3,aD h),(4,aD ar),(14,aD pre.length)] [cF (aM t),cF (aL n)]=R:=by
 simp only[aM,aL] at hx ⊢;intro rest;induction rest with
 |nil =>
  intro pre e hi;obtain rfl:pre.length=i:=by simpa[mj] using hi
  rw[bI];simp only[YI,jP e,EW,seval];exact hx _
 |cons x r ih =>
  intro pre e hi;rw[bI];have dN:pre.length+1<=100000:=by rw[e] at hn; simp at hn; omega
  have hw:=zB pre x;have i1:=ih (pre++[x]) (by rw[e]; simp)
  have h0:((pre.length:Int)<0)=False:=dw;simp only[aA,au,az,aI] at i1;rw[Wv] at hi;cases hl:wJ c h x<;>rw[hl] at hi
  ·obtain rfl:pre.length=i:=by simpa using hi
   unfold wJ at hl;cases h1:decide (x.bF<c)<;>cases h2:x.bF==c<;>cases h3:decide (x.handle<h)<;>rw[h1,h2,h3] at hl<;>first|(cases hl; done)|skip
   all_goals
    simp only[YI,iP e,gQ e,hw,h0,h1,h2,h3,ib,jb,eu,dL,fF,c8,dR,cW,cK,aF,af,aE,EW,seval];exact hx _
  ·have i1:=i1 (by simp at hi; omega)
   unfold wJ at hl;cases h1:decide (x.bF<c)<;>cases h2:x.bF==c<;>cases h3:decide (x.handle<h)<;>rw[h1,h2,h3] at hl<;>first|(cases hl; done)|skip
   all_goals
    simp only[YI,iP e,gQ e,hw,h0,h1,h2,h3,ib,jb,eu,dL,fF,c8,dR,cW,cK,aF,af,aE,EW,seval];exact i1
def c77(t:Tree)(l:List fD)(c h ar:Int)(ht:t.ae.length<=100000)(hn:l.length<=100000):aq bX 77 [br t,fN l,aD c,aD h,aD ar] []=some (.tuple [fN (sK t l c h ar).1,aD (sK t l c h ar).2],[]):=by
 refine aB ?_;have qg:=fun M=>Bp t.ae t.next t.ak ar ht M
 have qo:=fun M=>am1 t.ae t.next t.ak ar ht M
 have qp:=fun M=>af9 l c h hn M
 have hz:(find t.ae ar).getD Node.zero=bl t.ae ar:=rfl;rw[hz] at qg
 obtain⟨A,B,hl,hA⟩:∃A B,l=A++B/\mj (wJ c h) l=A.length:=⟨l.take (mj (wJ c h) l),l.drop (mj (wJ c h) l),dw,by
  rw[cf];have:mj (wJ c h) l<=l.length:=by unfold mj; exact(List.takeWhile_prefix _).length_le
  omega⟩
 have hlo:=fun {k R} hx=>ahL (t:=t) (n:=bl t.ae ar) (c:=c) (h:=h) (ar:=ar) (i:=A.length) hn (k:=k) (R:=R) hx l [] rfl (by simpa using hA)
 unfold sK;rw[hA];have a1:l.take A.length=A:=by rw[hl]; simp
 have a2:l.drop A.length=B:=by rw[hl]; simp
 have a3:((A.length:Int)<=(l.length:Int))=True:=by rw[hl]; simp; omega
 have hal:A.length+B.length<=100000:=by rw[hl] at hn; simpa using hn
 have r1:cB A.length 24=True:=qV;have r2:cB (A.length+1) 24=True:=qV;have r3:cB (A.length+1+B.length) 24=True:=qV;generalize bl t.ae ar=n at qg qo hlo;generalize (find t.ae ar).isSome=is at qg qo;generalize zp l c h=p at qp
 cases h1:decide (c<0)<;>cases h2:decide (16<=c)<;>cases h3:decide (h<0)<;>cases h4:decide (99<h) <;>
  simp only[afU,YI,br,aM,qg,h1,h2,h3,h4,bL,aL,eu,dL,fF,c8,fG,aF,af,aE,EW,seval]
 cases is<;>cases h5:gS n<;>rw[h5] at qo<;>simp only[jS,gd,dR,cW,cK] at qo <;>
  simp only[YI,qo,eu,dL,fF,c8,fG,aF,af,aE,EW,seval]
 cases h6:n.kind==2<;>simp only[YI,h6,aF,af,aE,EW,seval]
 cases h7:decide (0<=p)<;>simp only[YI,qp,h7,aF,af,aE,EW,seval]
 cases h8:decide (64<=(l.length:Int))<;>simp only[YI,h8,aF,af,aE,EW,seval]
 simp only[az,aI,aM,aL] at hlo;refine hlo (fun z=>?_)
 rw[a1,a2];have a1':(l.map ib).take A.length=A.map ib:=by rw[<-ec,a1]
 have a2':(l.map ib).drop A.length=B.map ib:=by rw[<-jW,a2]
 have a5:(l.map ib).take l.length=l.map ib:=by rw[<-ec,bE]
 simp only[YI,a1',a2',a3,a5,r1,r2,r3,dS,EW,seval];simp[ib,jb]
def k77(ae:List Node)(next ak:Int)(l:List fD)(c h ar:Int)(ht:ae.length<=100000)(hn:l.length<=100000)(M:aC):aR (aq bX) 77 [.agg [ba ae,aD next,aD ak],fN l,aD c,aD h,aD ar] M=some (.tuple [fN (sK ⟨ae,next,ak⟩ l c h ar).1,aD (sK ⟨ae,next,ak⟩ l c h ar).2],M):=cO (c77 ⟨ae,next,ak⟩ l c h ar ht hn) M
structure AO(t:Tree)(l:List fD)(u:Tree)(m:List fD):Prop where
 rt:Rt u
 ml:uH m
 len:m.length<=64
 mem:∀y,y∈m->y∈l/\(tT t.ae y.ar->tT u.ae y.ar)
 orp:(∀n,n∈t.ae->gS n=true->pT l n.ar=true)->∀n,n∈u.ae->gS n=true->pT m n.ar=true
 dir:∀i,Yl t.ae i->Yl u.ae i
 one:∀Q,OD t Q->OD u Q
 use:∀q,nr u q=nr t q
def AO.refl{t:Tree}{l:List fD}(ht:Rt t)(hl:uH l)(hn:l.length<=64):AO t l t l:=⟨ht,hl,hn,fun _ hy=>⟨hy,id⟩,id,fun _=>id,fun _=>id,fun _=>rfl⟩
theorem AO.trans{t u v:Tree}{l m k:List fD}(h:AO t l u m)(g:AO u m v k):AO t l v k:=⟨g.rt,g.ml,g.len,fun y hy=>⟨(h.mem y (g.mem y hy).1).1,fun hf=>(g.mem y hy).2 ((h.mem y (g.mem y hy).1).2 hf)⟩,fun ho=>g.orp (h.orp ho),fun i hi=>g.dir i (h.dir i hi),fun Q hQ=>g.one Q (h.one Q hQ),fun q=>(g.use q).trans (h.use q)⟩
def C1{l:List fD}{y:fD}(h:y∈l){i:Int}(e:y.ar=i):pT l i=true:=km.2 ⟨y,h,by simp[e]⟩
def of_held{l:List fD}{i:Int}(h:pT l i=true):∃y,y∈l/\y.ar=i:=by
 obtain⟨y,h1,h2⟩:=km.1 h;exact⟨y,h1,by simpa using h2⟩
def abW{t u:Tree}{l A B:List fD}{x:fD}(ht:Rt t)(hl:uH l)(hn:l.length<=64)(he:l=A++x::B)(hu:u=t/\(((find t.ae x.ar).isSome&&gS (bl t.ae x.ar))=true->pT (A++B) x.ar=true)\/u=(kL t x.ar).1/\pT (A++B) x.ar=false):AO t l u (A++B):=by
 subst he;have hsub:(A++B).Sublist (A++x::B):=List.Sublist.append (List.Sublist.refl _) (List.sublist_cons_self _ _);have dN:(A++B).length<=64:=aY hsub.length_le hn
 have hor:∀y,y∈A++x::B->y=x\/y∈A++B:=fun y hy=>by
  rcases bo.1 hy with h|h
  ·exact .inr (fu _ h)
  ·rcases bH.1 h with h|h
   ·exact .inl h
   ·exact .inr (iE _ h)
 rcases hu with ⟨rfl,hb⟩|⟨rfl,hb⟩
 ·exact⟨ht,hl.sublist hsub,dN,fun y hy=>⟨hsub.mem hy,id⟩,fun h n hm ho=>by
   obtain⟨y,h1,h2⟩:=of_held (h n hm ho);rcases hor y h1 with rfl|h3
   ·rw[<-h2];refine hb ?_;have:=(ic ht.lL.ml).2 ⟨hm,h2.symm⟩;simp[bl,this,ho]
   ·exact C1 h3 h2,fun _=>id,fun _=>id,fun _=>rfl⟩
 ·have hf:=ht.free x.ar;have hff:=A9 ht x.ar;refine⟨hf,hl.sublist hsub,dN,fun y hy=>⟨hsub.mem hy,fun hi=>JB ht x.ar hi fun e=>by rw[C1 hy e] at hb; cases hb⟩,fun h n hm ho=>?_,fun i hi=>?_,abo ht x.ar,fun q=>by simp only[nr,QS ht]⟩
  ·have h1:=(ic hf.lL.ml).2 ⟨hm,rfl⟩;rw[hff] at h1;split at h1
   ·cases h1
   rename_i hc;obtain⟨y,g1,g2⟩:=of_held (h n (cJ h1).1 ho);rcases hor y g1 with rfl|h3
   ·exact absurd ⟨g2.symm,n,by rw[g2]; exact h1,ho⟩ hc
   ·exact C1 h3 g2
  ·obtain⟨n,h1,h2⟩:=hi;refine⟨n,?_,h2⟩;rw[hff,aQ,h1];rintro⟨rfl,m,g1,g2⟩;rw[h1] at g1; cases g1;simp[gS,h2] at g2
def c80(t:Tree)(l:List fD)(c h:Int)(ht:Rt t)(hl:uH l)(hn:l.length<=64):∃u m e,aq bX 80 [br t,fN l,aD c,aD h] []=some (.tuple [br u,fN m,aD e],[])/\AO t l u m:=by
 have qp:=fun M=>af9 l c h aH M
 have hnl:=ht.sz.ae;rcases sw c h l 0 with ⟨hp,_⟩|⟨m,x,hp,hx,_⟩<;>rw[show pW c h l 0=zp l c h from rfl] at hp
 ·rw[hp] at qp;refine⟨t,l,80,aB ?_,AO.refl ht hl hn⟩;simp only[PD,E80,br,aM,qp,EW,seval]
 ·rw[hp,aI] at qp;have hm:=(aj.1 hx).1;have h1:((m:Int)<0)=False:=dw;have h2:((m:Int)<(l.length:Int))=True:=sL;have w1:IntKind.i64.wrap ((m:Int)+1)=((m+1:Nat):Int):=by rw[gx aH aH]; rfl
  have h3:((m:Int)<=(l.length:Int))=True:=sL;have h4:(((m+1:Nat):Int)<=(l.length:Int))=True:=sL;obtain⟨A,B,e1,e2⟩:∃A B,l.take m=A/\l.drop (m+1)=B:=⟨_,_,rfl,rfl⟩
  have he:l=A++x::B:=by
   have hxe:x=l[m]:=(aj.1 hx).2.symm;rw[<-e1,<-e2,hxe,List.getElem_cons_drop hm,cH]
  have sh:=fun u hu=>abW (u:=u) ht hl hn he hu
  have hab:A.length+B.length<=64:=by rw[he] at hn; simp at hn; omega
  have qo:=fun M=>am1 t.ae t.next t.ak x.ar aH M
  have qh:=fun M=>as7 (A++B) x.ar gr M
  have qf:=fun M=>am3 t.ae t.next t.ak x.ar ht.small M
  have hD:pT (A++B) x.ar = !(Js (A++B) x.ar==0):=by
   rw[cr];unfold pT Js;rw[km,<-List.countP_pos_iff (p:=fun z:fD=>z.ar==x.ar)]
   simp only[ij,jm];omega
  rw[hD] at sh;have a1:(l.map ib).take m=A.map ib:=by rw[<-ec,e1]
  have a2:(l.map ib).drop (m+1)=B.map ib:=by rw[<-jW,e2]
  have a5:(l.map ib).take l.length=l.map ib:=by rw[<-ec,bE]
  have r1:cB A.length 24=True:=qV;have r2:cB (A.length+B.length) 24=True:=qV;generalize ((find t.ae x.ar).isSome&&gS (bl t.ae x.ar))=b at qo sh;generalize kL t x.ar=v at qf sh;have eAB:fN (A++B) = gv (A.map ib++B.map ib):=congrArg (ag.slice .sh) aW;rw[eAB] at qh;cases b
  ·refine⟨t,A++B,0,aB ?_,sh t (.inl ⟨rfl,fun h=>by cases h⟩)⟩
   rw[eAB];simp only[PD,E80,br,aM,qp,qo,h1,h2,h3,h4,w1,hx,a1,a2,a5,r1,r2,ib,jb,aW,dS,EW,seval]
  ·cases h5:Js (A++B) x.ar==0<;>rw[h5] at sh
   ·refine⟨t,A++B,0,aB ?_,sh t (.inl ⟨rfl,fun _=>rfl⟩)⟩
    rw[eAB];simp only[PD,E80,br,aM,qp,qo,qh,h1,h2,h3,h4,h5,w1,hx,a1,a2,a5,r1,r2,ib,jb,aW,dS,EW,seval]
   ·refine⟨v.1,A++B,0,aB ?_,sh v.1 (.inr ⟨rfl,rfl⟩)⟩;rw[eAB];simp only[PD,E80,br,aM,qp,qo,qh,qf,h1,h2,h3,h4,h5,w1,hx,a1,a2,a5,r1,r2,ib,jb,aW,dS,EW,seval]
def c48(t:Tree)(l:List fD)(c:Int)(ht:Rt t)(hl:uH l)(hn:l.length<=64):∃u m,aq bX 48 [br t,fN l,aD c] []=some (.tuple [br u,fN m],[])/\AO t l u m:=by
 have key:∃r:ag×aC,(∃u m,r=(.tuple [br u,fN m],[])/\AO t l u m)/\eS (aq bX) ZA.results 0 [] ZA.body (ef 0 [br t,fN l,aD c]) []=some r:=by
  simp only[ZA,E48,br,aM,EW,seval];refine jc (xs:=List.replicate 100 ()) dw (fun _ (s:Tree×List fD)=>AO t l s.1 s.2) (fun s i=>[(1,fN s.2),(2,aD c),(3,cC 0),(6,cC 1),(8,aD i)]) (fun s=>[cF [ba s.1.ae,aD s.1.next,aD s.1.ak],cF [.slice .c0 [],aD 0,aD 0]]) _ (fun s hs=>?_) (fun pre x post s e hx cQ hw h0 _ hs hi=>?_) (t,l) (AO.refl ht hl hn)
  ·have e1:(((100:Nat):Int)<=99)=False:=dw;simp only[E48,e1,kW,EW,seval];exact⟨_,⟨s.1,s.2,rfl,hs⟩,rfl⟩
  ·have e1:((pre.length:Int)<=99)=True:=by
    have:=of_eq_true cQ;rw[kW] at this;simp only[fT,jx]; omega
   obtain⟨u,m,e,q,hq⟩:=c80 s.1 s.2 c pre.length hs.rt hs.ml hs.len;have qc:=cP q;simp only[br,aM] at qc;have i1:=hi (u,m) (hs.trans hq);simp only[E48,e1,hw,qc,EW,seval];exact i1
 obtain⟨_,⟨u,m,rfl,h1⟩,h3⟩:=key;exact⟨u,m,aB h3,h1⟩
def c81(l:List fD)(c h:Int)(hn:l.length<=64):∃i e,aq bX 81 [fN l,aD c,aD h] []=some (.tuple [aD i,aD e],[]):=by
 have qp:=fun M=>af9 l c h aH M
 rcases sw c h l 0 with ⟨hp,_⟩|⟨m,x,hp,hx,_⟩<;>rw[show pW c h l 0=zp l c h from rfl] at hp
 ·rw[hp] at qp;refine⟨0,80,aB ?_⟩;simp only[afV,E81,qp,EW,seval]
 ·rw[hp,aI] at qp;have hm:=(aj.1 hx).1;have h1:((m:Int)<0)=False:=dw;have h2:((m:Int)<(l.length:Int))=True:=sL;refine⟨x.ar,0,aB ?_⟩;simp only[afV,E81,qp,h1,h2,hx,ib,jb,EW,seval]
def arl(l:List fD)(ar:Int)(hn:l.length<=100000):aq bX 172 [fN l,aD ar] []=some (.bool (l.any fun x=>x.ar==ar),[]):=by
 refine aB ?_;simp only[adh,aeK,EW,seval];refine A8 (xs:=l) aH (fun post (_:Unit)=>post.any fun x=>x.ar==ar) (fun _ i=>[(0,fN l),(1,aD ar),(5,aD i)]) (fun _=>[]) (fun z=>some (ag.bool z,([]:aC))) (fun _=>?_) (fun pre x post _ e hx cQ hw h0 hm hi=>?_) ()
 ·simp[aeK,bq,o7,EW]
 ·have i1:=hi ();rw[jV];cases h1:x.ar==ar<;>simp only[aeK,cQ,hx,hw,h1,ib,jb,dL,c8,EW,seval]<;>exact i1
def ato(l:List fD)(ar:Int)(hn:l.length<=100000)(M:aC):aR (aq bX) 172 [fN l,aD ar] M=some (.bool (l.any fun x=>x.ar==ar),M):=cO (arl l _ hn) M
def aro(t:Tree)(l:List dV)(hr:Rt t)(hl:l.length<=100000):∃b:Bool,aq bX 174 [br t,cY l] []=some (.bool b,[])/\(b=false->∀y,y∈l->nr t y=false):=by
 have key:∃r:ag×aC,(∃b:Bool,r=(.bool b,[])/\(b=false->∀y,y∈l->nr t y=false))/\eS (aq bX) Nq.results 0 [] Nq.body (ef 0 [br t,cY l]) []=some r:=by
  simp only[Nq,aeL,br,aM,EW,seval];refine jc (xs:=l) aH (fun m (_:Unit)=>∀y,y∈l.take m->nr t y=false) (fun _ i=>[(1,cY l),(2,cC 0),(5,aD i)]) (fun _=>[cF [ba t.ae,aD t.next,aD t.ak]]) _ (fun _ ho=>?_) (fun pre x post _ e hx cQ hw h0 _ ho hi=>?_) () (fun y hy=>jO)
  ·simp only[aeL,bq,EW,seval];rw[bE] at ho;simp_all
  ·obtain⟨a,b,q,u1,u2⟩:=aln t x.ar hr;have qu:=cP q;simp only[br,aM] at qu;have htk:l.take (pre.length+1)=l.take pre.length++[x]:=by rw[cD,hx]; rfl
   have i1:=fun h=>hi () (fun y hy=>by
    rw[htk] at hy;exact(bo.1 hy).elim (ho y) fun hy=>by rw[bT.1 hy]; omega)
   cases h1:decide (x.ae<a)<;>cases h2:decide (x.bytes<b)<;>simp only[aeL,cQ,hx,hw,qu,h1,h2,gF,iW,EW,seval]<;>first|exact⟨_,⟨_,rfl,fun h=>by cases h⟩,rfl⟩|exact i1 (by simp only[dD] at h1 h2; simp only[nr,Bool.not_eq_false',bz,bh]; omega)
 obtain⟨_,⟨b,rfl,h1⟩,h3⟩:=key;exact⟨b,aB h3,h1⟩
section
variable {t:Tree} {l:List dV} {Q:ag×aC->Prop}
def Fst(t:Tree)(l:List dV)(v:Int)(S:Node->gN->Prop)(a:Int):Prop:=(∀d e,S d e->e.ar=v->mg t.ae l d.ar=a)/\(a<0->∀d e,S d e->e.ar≠v)
abbrev Yo(t:Tree):aC:=[.cells [ba t.ae,.int .i64 t.next,.int .i64 t.ak]]
theorem Wl{dJ:Int->Nat}(h:dY t dJ 0)(hq:pA l)(hl:l.length<=100000){S:Node->gN->Prop}{i j:Nat}{x d:Node}(hi':t.ae[i]?=some x)(hdm:d∈t.ae)(hd:d.bc.length<=100000){k:List K}
  (hx:∀(a:Int) z,Fst t l x.ar (fun d' e'=>S d' e'\/(d'=d/\e'∈d.bc)) a->∃r,Q r/\kr (aq bX) [.tmp 4] 0 k ⟨.exit 4,(1,cY l)::(2,cC 0)::(5,aD i)::(6,aD a)::(7,aD j)::(8,cC 1)::z,Yo t++[cF (aL d)]⟩=some r)
  (hr:∀M,∃r,Q r/\kr (aq bX) [.tmp 4] 0 k ⟨.ret,[(4,.bool false)],M⟩=some r) (a:Int) (ha:Fst t l x.ar S a) :
  ∃r,Q r/\eS (aq bX) [.tmp 4] 0 k (.loop [1,2,5,6,7,8,9] aap) [(1,cY l),(2,cC 0),(5,aD i),(6,aD a),(7,aD j),(8,cC 1),(9,aD 0)] (Yo t++[cF (aL d)])=some r:=by
 have b1:((i:Int)<0)=False:=dw;refine jc (xs:=d.bc) aH (fun m (a:Int)=>Fst t l x.ar (fun d' e'=>S d' e'\/(d'=d/\e'∈d.bc.take m)) a) (fun(a:Int) n=>[(1,cY l),(2,cC 0),(5,aD i),(6,aD a),(7,aD j),(8,cC 1),(9,aD n)]) (fun _=>Yo t++[cF (aL d)]) Q (fun a ha=>?_) (fun pre e post a hp hx' cQ hw h0 hm ha hi=>?_) a ⟨fun d' e' h1 h2=>h1.elim (fun h1=>ha.1 d' e' h1 h2) fun h1=>by simp at h1,fun h0 d' e' h1=>h1.elim (ha.2 h0 d' e') fun h1=>by simp at h1⟩
 ·simp only[Yo,aL,aG,aP] at hx ⊢;simp only[Fa,bq,EW,seval];rw[bE] at ha;exact hx a _ ha
 ·have hfd:=(ic h.lL.ml).2 ⟨hdm,rfl⟩
  have hkd:d.kind=2:=by
   rcases h.kind _ _ hfd with h1|h1
   ·rw[(h.file _ _ hfd h1).1] at hm; cases hm
   ·exact h1
  have qd:=fun M=>cO (ar7 h hq hl hfd hkd) M
  have hge:0<=mg t.ae l d.ar:=IX h l 13 d.ar d hfd hkd;have htk:d.bc.take (pre.length+1)=d.bc.take pre.length++[e]:=by rw[cD,hx']; rfl
  generalize hu:mg t.ae l d.ar=u at qd hge;simp only[br,aM] at qd
  have i1:=fun hne:e.ar≠x.ar=>hi a ⟨fun d' e' h1 h2=>ha.1 d' e' (h1.imp id fun h1=>⟨h1.1,by
    have h1:=h1.2;rw[htk] at h1
    grind⟩) h2,fun h0 d' e' h1 h2=>ha.2 h0 d' e' (h1.imp id fun h1=>⟨h1.1,by
    have h1:=h1.2;rw[htk] at h1;rcases bo.1 h1 with h1|h1
    ·exact h1
    grind⟩) h2⟩
  have i2:=fun hau:a<0\/u=a=>hi u ⟨fun d' e' h1 h2=>by
    have tV:∀d' e',(S d' e'\/(d'=d/\e'∈d.bc.take pre.length))->e'.ar=x.ar->mg t.ae l d'.ar=u:=fun d' e' g1 g2=>by
     rcases hau with h0|h0
     ·exact absurd g2 (ha.2 h0 d' e' g1)
     ·rw[h0]; exact ha.1 d' e' g1 g2
    rcases h1 with h1|⟨rfl,h1⟩
    ·exact tV d' e' (.inl h1) h2
    ·exact hu,fun h0=>aH⟩
  simp only[Yo,aL,aG,aP] at i1 i2 ⊢;cases h1:e.ar != x.ar
  ·cases h2:decide (0<=a)<;>cases h3:u != a<;>simp only[Fa,cQ,hx',hw,hi',qd,h1,h2,h3,bL,aL,iG,gj,EW,seval]<;>first|exact hr _|exact i2 (by simp only[dD] at h2; omega)|exact i2 (.inr (by simpa using h3))
  ·simp only[Fa,cQ,hx',hw,hi',h1,bL,aL,iG,gj,EW,seval];exact i1 (by simpa using h1)
theorem Wm{dJ:Int->Nat}(h:dY t dJ 0)(hq:pA l)(he:∀n,n∈t.ae->n.bc.length<=100000)(hl:l.length<=100000){i:Nat}{x:Node}(hi':t.ae[i]?=some x){k:List K}
  (hx:∀z,(∃a,Fst t l x.ar (fun d' e'=>d'∈t.ae/\e'∈d'.bc) a)->∃r,Q r/\kr (aq bX) [.tmp 4] 0 k ⟨.exit 2,(1,cY l)::(2,cC 0)::(5,aD i)::z,Yo t⟩=some r)
  (hr:∀M,∃r,Q r/\kr (aq bX) [.tmp 4] 0 k ⟨.ret,[(4,.bool false)],M⟩=some r) (a:Int) (ha:Fst t l x.ar (fun _ _=>False) a) :
  ∃r,Q r/\eS (aq bX) [.tmp 4] 0 k (.loop [1,2,5,6,7] aaq) [(1,cY l),(2,cC 0),(5,aD i),(6,aD a),(7,aD 0)] (Yo t)=some r:=by
 have h200:=h.ae;refine jc (xs:=t.ae) aH (fun m (a:Int)=>Fst t l x.ar (fun d' e'=>d'∈t.ae.take m/\e'∈d'.bc) a) (fun(a:Int) n=>[(1,cY l),(2,cC 0),(5,aD i),(6,aD a),(7,aD n)]) (fun _=>Yo t) Q (fun a ha=>?_) (fun pre d post a hp hx' cQ hw h0 hm ha hi=>?_) a ⟨fun d' e' h1=>by simp at h1,fun h0 d' e' h1=>by simp at h1⟩
 ·simp only[Fa,bq,EW,seval];rw[bE] at ha;exact hx _ ⟨a,ha⟩
 ·have la:=fun {k} h2 h3=>Wl (t:=t) (l:=l) (Q:=Q) h hq hl (j:=pre.length) hi' hm (he d hm) (k:=k) h2 h3 a ha
  have htk:t.ae.take (pre.length+1)=t.ae.take pre.length++[d]:=by rw[cD,hx']; rfl
  simp only[Yo,aL,aG,aP] at la ⊢;simp only[Fa,cQ,hx',bL,aL,EW,seval];refine la (fun a z ha'=>?_) (fun M=>?_)
  ·have sub:∀d' e',(d'∈t.ae.take (pre.length+1)/\e'∈d'.bc)->((d'∈t.ae.take pre.length/\e'∈d'.bc)\/(d'=d/\e'∈d.bc)):=fun d' e' ⟨g1,g2⟩=>by
    rw[htk] at g1
    grind
   have i1:=hi a ⟨fun d' e' g=>ha'.1 d' e' (sub d' e' g),fun h0 d' e' g=>ha'.2 h0 d' e' (sub d' e' g)⟩
   simp only[Fa,hw,EW,seval];exact i1
  ·simp only[EW,seval];exact hr _
end
def arn(t:Tree)(l:List dV)(hr:Rt t)(hq:pA l)(hl:l.length<=100000):∃b:Bool,aq bX 173 [br t,cY l] []=some (.bool b,[])/\(b=true->OD t l):=by
 have he:∀n,n∈t.ae->n.bc.length<=100000:=fun n hn=>by have:=(hr.Yn hn).1; omega
 have h200:=hr.sz.ae;obtain⟨dJ,h⟩:=hr
 have key:∃r:ag×aC,(∃b:Bool,r=(.bool b,[])/\(b=true->OD t l))/\eS (aq bX) Np.results 0 [] Np.body (ef 0 [br t,cY l]) []=some r:=by
  simp only[Np,Fa,br,aM,EW,seval];refine jc (xs:=t.ae) aH (fun m (_:Unit)=>∀x,x∈t.ae.take m->x.kind=1->∃a,Fst t l x.ar (fun d' e'=>d'∈t.ae/\e'∈d'.bc) a) (fun _ i=>[(1,cY l),(2,cC 0),(5,aD i)]) (fun _=>Yo t) _ (fun _ ho=>?_) (fun pre x post _ e hx cQ hw h0 _ ho hi=>?_) () (fun y hy=>by simp at hy)
  ·simp only[Fa,bq,EW,seval];rw[bE] at ho;refine⟨_,⟨_,rfl,fun _ d1 e1 d2 e2 x h1 h2 h3 h4 h5 h6 h7=>?_⟩,rfl⟩
   obtain⟨x1,x2⟩:=cJ h6;obtain⟨a,ha⟩:=ho x x1 h7;rw[ha.1 d1 e1 ⟨h1,h2⟩ x2.symm,ha.1 d2 e2 ⟨h3,h4⟩ (h5.symm.trans x2.symm)]
  ·have htk:t.ae.take (pre.length+1)=t.ae.take pre.length++[x]:=by rw[cD,hx]; rfl
   have lb:=fun {k Q} h2 h3=>Wm (t:=t) (l:=l) (Q:=Q) h hq he hl hx (k:=k) h2 h3 (-1) ⟨fun _ _ h=>h.elim,fun _ _ _ h=>h.elim⟩
   have i1:=fun hh:x.kind=1->∃a,Fst t l x.ar (fun d' e'=>d'∈t.ae/\e'∈d'.bc) a=>hi () (fun y hy=>by
    rw[htk] at hy;exact(bo.1 hy).elim (ho y) fun hy=>by rw[bT.1 hy]; exact hh)
   cases h1:x.kind != 1<;>simp only[Fa,cQ,hx,hw,h1,bL,aL,EW,seval]
   ·refine lb (fun z hz=>?_) (fun M=>?_)
    ·simp only[Fa,hw,EW,seval];exact i1 fun _=>hz
    ·simp only[EW,seval];simp
   ·exact i1 fun hk=>absurd hk jO
 obtain⟨_,⟨b,rfl,h1⟩,h3⟩:=key;exact⟨b,aB h3,h1⟩
section
variable {f:aa} {t:Tree} {q:List dV} {Q:ag×aC->Prop}
abbrev stM(f:aa)(t:Tree):aC:=[.cells (cg f),.cells [ba t.ae,.int .i64 t.next,.int .i64 t.ak],.cells sQ]
abbrev H2(q:List dV):Env:=[(2,cY q),(3,.ptr 0 0),(4,.ptr 1 0),(6,.ptr 2 0)]
def Wa(ht:Rt t)(hh:f.holds.length<=64){k:List K}
  (hx:∀(F:List Int) z,F.length<=1000->(∀i,i∈F->∀y,y∈f.holds->y.ar≠i)->(∀n,n∈t.ae->gS n=true->pT f.holds n.ar=false->n.ar∈F)->∃r,Q r/\kr (aq bX) [.dQ 6 10,.tmp 7] 0 k ⟨.exit 0,H2 q++(8,.slice (.own 3) (F.map mS))::z,stM f t++[.tick 1 F.length]⟩=some r) :
  ∃r,Q r/\eS (aq bX) [.dQ 6 10,.tmp 7] 0 k (.loop [2,3,4,6,8,9] Z5) (H2 q++[(8,.slice (.own 3) []),(9,aD 0)]) (stM f t++[.tick 1 0])=some r:=by
 have h200:=ht.sz.ae;refine jc (xs:=t.ae) aH (fun m (F:List Int)=>F.length<=m/\(∀i,i∈F->∀y,y∈f.holds->y.ar≠i)/\∀n,n∈t.ae.take m->gS n=true->pT f.holds n.ar=false->n.ar∈F) (fun F i=>H2 q++[(8,.slice (.own 3) (F.map mS)),(9,aD i)]) (fun F=>stM f t++[.tick 1 F.length]) Q (fun F hF=>?_) (fun pre x post F e hx' cQ hw h0 hm hF hi=>?_) [] ⟨av _,fun i h=>(by cases h),fun n h=>(by simp at h)⟩
 ·simp only[stM,H2,cg,sQ,aG,aP] at hx ⊢;simp only[E8,bq,EW,seval];exact hx F _ aH hF.2.1 (by have:=hF.2.2; rwa[bE] at this)
 ·have hp:=(aj.1 hx').1;have htk:t.ae.take (pre.length+1)=t.ae.take pre.length++[x]:=by rw[cD,hx']; rfl
  have i1:=fun hb:(gS x=true->pT f.holds x.ar=false->False)=>hi F ⟨aH,hF.2.1,fun n h=>by
   rw[htk] at h;rcases bo.1 h with h|h
   ·exact hF.2.2 n h
   ·rw[bT.1 h]; exact fun a b=>(hb a b).elim⟩
  have i2:=fun hb:(f.holds.any fun y=>y.ar==x.ar)=false=>hi (F++[x.ar]) ⟨gr,fun i h y hy=>by
   rcases bo.1 h with h|h
   ·exact hF.2.1 i h y hy
   ·rw[bT.1 h];simpa using List.any_eq_false.1 hb y hy,fun n h o1 o2=>by
   rw[htk] at h;rcases bo.1 h with h|h
   ·exact fu _ (hF.2.2 n h o1 o2)
   ·rw[bT.1 h]; simp⟩
  unfold pT gS at i1;have qh:=fun M=>ato f.holds x.ar aH M
  generalize (f.holds.any fun y=>y.ar==x.ar)=b at qh i1 i2
  have r1:cB (F.length+1) 8=True:=qV;simp only[stM,H2,cg,sQ,aG,aP,aW,aK,aV,aA,au,az,aI,mS] at i1 i2 ⊢;cases h1:x.kind==1<;>cases h2:x.eG==0<;>cases b<;>simp only[E8,cQ,hx',hw,h0,h1,h2,qh,r1,uG,bL,aL,mS,EW,seval]<;>first|exact i1 (by simp[h1,h2])|exact i2 rfl
structure w7(f:aa)(t0:Tree)(F:List Int)(t:Tree):Prop where
 rt:Rt t
 rn:∀y,y∈f.holds->tT t0.ae y.ar->tT t.ae y.ar
 sub:∀i n,find t.ae i=some n->find t0.ae i=some n
 gone:∀i,i∈F->∀n,find t.ae i=some n->gS n=false
def w7.file{f:aa}{t0:Tree}{F:List Int}{t:Tree}(h:w7 f t0 F t){i:Int}(hi:tT t.ae i):tT t0.ae i:=by
 obtain⟨n,h1,h2⟩:=hi;exact⟨n,h.sub _ _ h1,h2⟩
def w7.step{f:aa}{t0:Tree}{F:List Int}{t:Tree}(h:w7 f t0 F t){x:Int}(hx:∀y,y∈f.holds->y.ar≠x):w7 f t0 (F++[x]) (kL t x).1:=by
 have hf:=A9 h.rt x;refine⟨h.rt.free x,fun y hy hi=>JB h.rt x (h.rn y hy hi) (hx y hy),fun i n hn=>?_,fun i hi n hn=>?_⟩
 ·rw[hf] at hn;split at hn
  ·cases hn
  ·exact h.sub _ _ hn
 ·rw[hf] at hn;split at hn
  ·cases hn
  ·rename_i hc;rcases bo.1 hi with hi|hi
   ·exact h.gone i hi n hn
   ·rw[bT.1 hi] at hc hn;cases ho:gS n with
    |false=>rfl
    |true=>exact absurd ⟨rfl,n,hn,ho⟩ hc
def w7.held{f:aa}{t0:Tree}{F:List Int}{t:Tree}(h:w7 f t0 F t)(ha:∀n,n∈t0.ae->gS n=true->pT f.holds n.ar=false->n.ar∈F)(_:Rt t0):∀n,n∈t.ae->gS n=true->pT f.holds n.ar=true:=by
 intro n hn ho;have h1:=(ic h.rt.lL.ml).2 ⟨hn,rfl⟩;cases hh:pT f.holds n.ar with
 |true=>rfl
 |false =>
  have:=h.gone _ (ha n (cJ (h.sub _ _ h1)).1 ho hh) n h1;rw[ho] at this; cases this
def Wb{F:List Int}(hF:F.length<=1000)(hno:∀i,i∈F->∀y,y∈f.holds->y.ar≠i){t0:Tree}{k:List K}
  (hx:∀(t:Tree) z,w7 f t0 F t->∃r,Q r/\kr (aq bX) [.dQ 6 10,.tmp 7] 0 k ⟨.exit 2,H2 q++(8,.slice (.own 3) (F.map mS))::z,stM f t++[.tick 1 F.length]⟩=some r) (ht:w7 f t0 [] t) :
  ∃r,Q r/\eS (aq bX) [.dQ 6 10,.tmp 7] 0 k (.loop [2,3,4,6,8,11] Z6) (H2 q++[(8,.slice (.own 3) (F.map mS)),(11,aD 0)]) (stM f t++[.tick 1 F.length])=some r:=by
 refine jc (xs:=F) aH (fun m (t:Tree)=>w7 f t0 (F.take m) t) (fun _ i=>H2 q++[(8,.slice (.own 3) (F.map mS)),(11,aD i)]) (fun t=>stM f t++[.tick 1 F.length]) Q (fun t ht=>?_) (fun pre x post t e hx' cQ hw h0 hm ht hi=>?_) t (by simpa using ht)
 ·simp only[stM,H2,cg,sQ,aG,aP] at hx ⊢;simp only[E8,bq,EW,seval];exact hx t _ (by rwa[bE] at ht)
 ·have i1:=hi _ (show w7 f t0 (F.take (pre.length+1)) (kL t x).1 by rw[cD,hx']; exact ht.step (hno x hm))
  have qf:=fun M=>am3 t.ae t.next t.ak x ht.rt.small M
  generalize kL t x=v at qf i1;simp only[br,aM] at qf;simp only[stM,H2,cg,sQ,aG,aP] at i1 ⊢;simp only[E8,cQ,hx',hw,h0,qf,mS,EW,seval];exact i1
def Wc(ht:Rt t)(hq:pA q)(hn:q.length<=16){F:List Int}{k:List K}
  (hx:∀(L:List dV) z,pA L->L.length<=16->(∀y,y∈L->y∈q/\(find t.ae y.ar).isSome=true)->∃r,Q r/\kr (aq bX) [.dQ 6 10,.tmp 7] 0 k ⟨.exit 4,H2 q++(14,.slice (.own 4) (L.map gF))::z,stM f t++[.tick 1 F.length,.tick 3 L.length]⟩=some r) :
  ∃r,Q r/\eS (aq bX) [.dQ 6 10,.tmp 7] 0 k (.loop [2,3,4,6,14,15] Z7) (H2 q++[(14,.slice (.own 4) []),(15,aD 0)]) (stM f t++[.tick 1 F.length,.tick 3 0])=some r:=by
 have h200:=ht.sz.ae;refine jc (xs:=q) aH (fun m (L:List dV)=>L.Sublist (q.take m)/\∀y,y∈L->(find t.ae y.ar).isSome=true) (fun L i=>H2 q++[(14,.slice (.own 4) (L.map gF)),(15,aD i)]) (fun L=>stM f t++[.tick 1 F.length,.tick 3 L.length]) Q (fun L hL=>?_) (fun pre x post L e hx' cQ hw h0 hm hL hi=>?_) [] ⟨List.nil_sublist _,fun y h=>by cases h⟩
 ·rw[bE] at hL;simp only[stM,H2,cg,sQ,aG,aP] at hx ⊢;simp only[E8,bq,EW,seval];exact hx L _ (hq.sublist hL.1) (aY hL.1.length_le hn) (fun y hy=>⟨hL.1.mem hy,hL.2 y hy⟩)
 ·have ht1:q.take (pre.length+1)=q.take pre.length++[x]:=by rw[cD,hx']; rfl
  have i1:=hi L ⟨by rw[ht1]; exact hL.1.trans (List.sublist_append_left _ _),hL.2⟩
  have i2:=fun hs=>hi (L++[x]) ⟨by rw[ht1]; exact hL.1.append (List.Sublist.refl _),fun y h=>(bo.1 h).elim (hL.2 y) fun h=>by rw[bT.1 h]; exact hs⟩
  have hLl:L.length<=16:=aY hL.1.length_le gr;have qg:=fun M=>Bp t.ae t.next t.ak x.ar aH M
  generalize (find t.ae x.ar).getD Node.zero=n at qg;generalize (find t.ae x.ar).isSome=b at qg i2;have r1:cB (L.length+1) 24=True:=qV;simp only[stM,H2,cg,sQ,aG,aP,aW,aK,aV,aA,au,az,aI,gF,iW] at i1 i2 ⊢;cases b<;>simp only[E8,cQ,hx',hw,h0,qg,r1,bL,aL,gF,iW,EW,seval]<;>first|exact i1|exact i2 rfl
end
structure OS(f:aa):Prop where
 file:∀y,y∈f.holds->tT f.s.now.ae y.ar
 orp:∀n,n∈f.s.now.ae->gS n=true->pT f.holds n.ar=true
 quo:∀q,q∈f.dX->Yl f.s.now.ae q.ar
 one:OD f.s.now f.dX
 over:∀q,q∈f.dX->nr f.s.now q=false
 key:∀y,y∈f.holds->z8 y.bF y.handle=true
def QE(s:iQ)(t:Tree):(qz s t).now=t:=by
 unfold qz;split
 ·rename_i h; exact jZ h
 ·rfl
def HJ{f:aa}{t:Tree}{H:List fD}{Q:List dV}(hH:∀y,y∈H->y∈f.holds/\(tT f.s.now.ae y.ar->tT t.ae y.ar))(hO:∀n,n∈t.ae->gS n=true->pT H n.ar=true)(hQ:∀q,q∈Q->Yl t.ae q.ar)(h1:OD t Q)(h2:∀q,q∈Q->nr t q=false)(h:OS f):OS ⟨qz f.s t,H,Q⟩:=by
 refine⟨fun y hy=>?_,fun n hn=>?_,fun q hq=>?_,?_,fun q hq=>?_,fun y hy=>h.key y (hH y hy).1⟩<;>simp only[QE] at *
 ·exact(hH y hy).2 (h.file y (hH y hy).1)
 ·exact hO n hn
 ·exact hQ q hq
 ·exact h1
 ·exact h2 q hq
def Kp(f g:aa):Prop:=(OS f->OS g)/\Stp (fun _=>True) f.s g.s
def Ed{f:aa}:Kp f f:=⟨id,.inl rfl⟩
def aqC{K:Nat}(f:aa)(t:Tree)(q:List dV)(hf:FB K f)(hK:K<=89000)(ht:Rt t)(hq:pA q)(hn:q.length<=16)(hkp:∀y,y∈f.holds->tT f.s.now.ae y.ar->tT t.ae y.ar)(hqd:OS f->∀y,y∈q->¬tT t.ae y.ar):∃g e,aq bX 120 [.agg (cg f),br t,cY q] []=some (.tuple [.agg (cg g),aD e],[])/\FB (K+200) g/\Kp f g:=by
 have key:∃r:ag×aC,(∃g e,r=(.tuple [.agg (cg g),aD e],[])/\FB (K+200) g/\Kp f g)/\eS (aq bX) Je.results 0 [] Je.body (ef 0 [.agg (cg f),br t,cY q]) []=some r:=by
  have la:=fun {k Q} hx=>Wa (f:=f) (t:=t) (q:=q) (Q:=Q) ht hf.ok.dN (k:=k) hx
  simp only[stM,H2,cg,sQ,aG,aP] at la;simp only[Je,E8,cg,br,aM,EW,seval];refine la (fun F z hF hno hall=>?_)
  have lb:=fun {k Q} hx=>Wb (f:=f) (t:=t) (q:=q) (Q:=Q) hF hno (t0:=t) (k:=k) hx ⟨ht,fun _ _ h=>h,fun _ _ h=>h,fun i h=>by cases h⟩
  simp only[stM,H2,cg,sQ,aG,aP] at lb;simp only[E8,EW,seval];refine lb (fun t' z hfr=>?_)
  have ht':=hfr.rt;have hor:=hfr.held hall ht;have lc:=fun {k Q} hx=>Wc (f:=f) (t:=t') (q:=q) (Q:=Q) ht' hq hn (F:=F) (k:=k) hx
  simp only[stM,H2,cg,sQ,aG,aP] at lc;simp only[E8,EW,seval];refine lc (fun L z hL hLn hLq=>?_)
  have h200:=ht'.sz.ae;obtain⟨b1,q1,k1⟩:=arn t' L ht' hL aH;obtain⟨b2,q2,k2⟩:=aro t' L ht' aH;have q3:=c49 f.s t' hf.ok.rt ht' hf.ok.len hf.ok.dW hf.ok.eR;have g1:=cP q1;have g2:=cP q2;have g3:=cP q3;simp only[br,aM,bM] at g1 g2 g3;have hfin:=hf.put hK ht' hf.ok.holds hf.ok.dN hL hLn
  have hho:b1=true->b2=false->OS f->OS ⟨qz f.s t',f.holds,L⟩:=fun c1 c2 h=>HJ (fun y hy=>⟨hy,fun hf=>hfr.rn y hy (hkp y hy hf)⟩) hor (fun y hy=>by
   obtain⟨h1,h2⟩:=hLq y hy;obtain⟨n,h2⟩:=fA.1 h2;exact ht'.Yl h2 (fun hf=>hqd h y h1 (hfr.file hf))) (k1 c1) (k2 c2) h
  cases b1<;>cases b2<;>simp only[E8,g1,g2,g3,EW,seval]
  ·exact⟨_,⟨f,91,rfl,hf.mono aH,Ed⟩,rfl⟩
  ·exact⟨_,⟨f,91,rfl,hf.mono aH,Ed⟩,rfl⟩
  ·exact⟨_,⟨_,0,rfl,hfin,hho rfl rfl,.inr (.inl ⟨t',ht',rfl⟩)⟩,rfl⟩
  ·exact⟨_,⟨f,90,rfl,hf.mono aH,Ed⟩,rfl⟩
 obtain⟨_,⟨g,e,rfl,h1⟩,h3⟩:=key;exact⟨g,e,aB h3,h1⟩
end
def PY(s:Bytes):(Ck s).1.length<=100000/\(Ck s).2.1.length<=100000:=by
 obtain⟨o1,o2⟩:=yo s;unfold Ck;split
 ·exact⟨dw,dw⟩
 ·generalize (pY s).1=l at o1 o2;constructor
  ·simp only;cases h:l.getLast? with
   |none=>simp
   |some x=>have:=qT (o1 x (List.mem_of_getLast? h)); simp only[bC]; omega
  ·simp only[NF];split
   ·simp
   ·have h1:=D6 l.dropLast [] (fun x hx=>qT (o1 x (List.Sublist.mem hx (List.dropLast_sublist _))))
    simp only[az,List.length_dropLast] at h1;omega
section
attribute [local irreducible] eS fI lx gK dZ kr aq aR cu bJ
def c42(e:Int):aq bX 42 [aD e] []=some (.agg (cN (hV e)),[]):=by
 refine aB ?_;simp only[amp,E42,EW,seval];rfl
def k42 e:=cP (c42 e)
def c75(n:Node):∃a:Int,aq bX 75 [bL n] []=some (aD a,[]):=by
 cases h1:n.kind==2
 ·refine⟨n.data.length,aB ?_⟩;simp only[afT,E75,bL,aL,h1,EW,seval]
 ·refine⟨n.bc.length,aB ?_⟩;simp only[afT,E75,bL,aL,h1,EW,seval]
def c67(t:Tree)(s:Bytes)(ht:Small t)(hs:s.length<=100000):∃d nm e,aq bX 67 [br t,.str s] []=some (.tuple [aD d,.str nm,aD e],[])/\nm.length<=100000:=by
 have ql:=fun M=>cO (aqz s hs) M
 obtain⟨h1,h2⟩:=PY s;generalize Ck s=v at ql h1 h2;have qw:=fun M=>k66 t.ae t.next t.ak v.2.1 ht h2 M
 generalize CH t.ae v.2.1=w at qw;cases h3:v.2.2 != 0
 ·refine⟨w.1,v.1,w.2,aB ?_,h1⟩;simp only[afS,E67,br,aM,ql,qw,h3,EW,seval]
 ·refine⟨0,[],v.2.2,aB ?_,dw⟩;simp only[afS,E67,br,aM,ql,h3,EW,seval]
def FB.aes{K:Nat}{f:aa}(h:FB K f){u:iQ}(e1:u.now=f.s.now)(e2:u.since=f.s.since)(e3:∀p,p∈u.eR->p∈f.s.eR)(e4:u.eR.length<=f.s.eR.length)(e5:u.dW.length<=16):FB (K+200) ⟨u,f.holds,f.dX⟩/\(OS f->OS ⟨u,f.holds,f.dX⟩) :=
 ⟨⟨⟨by simp only[e1]; exact h.ok.rt,by simp only[e1,e2]; exact h.ok.len,aY e4 h.ok.eR,fun p hp=>h.ok.ED p (e3 p hp),e5,h.ok.holds,h.ok.dN,h.ok.dX,h.ok.sN⟩,by have:=h.past; simp only; omega⟩,fun g=>⟨by simp only[e1]; exact g.file,by simp only[e1]; exact g.orp,by simp only[e1]; exact g.quo,by simp only[e1]; exact g.one,by simp only[e1]; exact g.over,g.key⟩⟩
def yD(K:Nat)(f:aa)(F:Nat)(vs:List ag):Prop:=∃g a,aq bX F vs []=some (.tuple [.agg (cg g),.agg (cN a)],[])/\FB (K+200) g/\Kp f g
def c69{K:Nat}(f:aa)(t:Tree)(q:List dV)(e:Int)(a:sR)(hf:FB K f)(hK:K<=89000)(ht:Rt t)(hq:pA q)(hn:q.length<=16)(hkp:∀y,y∈f.holds->tT f.s.now.ae y.ar->tT t.ae y.ar)(hqd:OS f->∀y,y∈q->¬tT t.ae y.ar):yD K f 69 [.agg (cg f),br t,cY q,aD e,.agg (cN a)]:=by
 obtain⟨g,e',qs,hg⟩:=aqC f t q hf hK ht hq hn hkp hqd;have q1:=cP qs;have q2:=k42;simp only[br,aM,cg,cN] at q1 q2;cases h1:e != 0
 ·cases h2:e' != 0
  ·refine⟨g,a,aB ?_,hg⟩;simp only[ZB,E69,br,aM,cg,cN,q1,q2,h1,h2,EW,seval]
  ·refine⟨f,hV e',aB ?_,hf.mono aH,Ed⟩;simp only[ZB,E69,br,aM,cg,cN,q1,q2,h1,h2,EW,seval]
 ·refine⟨f,hV e,aB ?_,hf.mono aH,Ed⟩;simp only[ZB,E69,br,aM,cg,cN,q1,q2,h1,EW,seval]
def c43{K:Nat}(f:aa)(o:jz)(hf:FB K f)(hK:K<=89000)(ho:sm o):yD K f 43 [.agg (cg f),.agg (eW o)]:=by
 have hr:=hf.ok.rt;have hz:Sz 1000 f.s.now:=⟨by have:=hr.sz.ae; omega,fun n hn=>by have:=hr.sz.bc n hn; omega,hr.sz.data⟩
 have hp:o.dK.length<=100000:=by have:=ho.dK; omega
 have hto:o.u9.length<=100000:=by have:=ho.u9; omega
 obtain⟨d,nm,e1,qa,hnm⟩:=c67 f.s.now o.dK hr.small hp;obtain⟨d',nm',e2,qb,hnm'⟩:=c67 f.s.now o.u9 hr.small hto;have q1:=cP qa;have q2:=cP qb;have q3:=fun M=>k66 f.s.now.ae f.s.now.next f.s.now.ak o.dK hr.small hp M
 generalize CH f.s.now.ae o.dK=w at q3;have q4:=k42;simp only[br,aM,cg,cN] at q1 q2 q4;have back:FB (K+200) f:=hf.mono aH;cases h0:o.kind==3
 ·cases h1:e1 != 0
  ·cases h2:o.kind==2
   ·cases h3:o.kind==4
    ·cases h4:e2 != 0
     ·have q5:=fun M=>k73 f.s.now.ae f.s.now.next f.s.now.ak d nm d' nm' hz hnm hnm' M
      have q6:=fun M=>k72 f.s.now.ae f.s.now.next f.s.now.ak d nm hr.small hnm M
      have hv:=hr.mv d nm d' nm';have hkf:=ZU hr d nm d' nm';have hrf:=aoC hr d nm d' nm';generalize wT f.s.now d nm d' nm'=v at q5 hv hkf hrf;generalize fg f.s.now.ae d nm=u at q6;obtain⟨g,a,qd,hg⟩:=c69 f v.1 f.dX v.2.2 ⟨0,u.1,0,0,0,[],[]⟩ hf hK hv hf.ok.dX hf.ok.sN (fun y _ h=>hkf.2 _ h) (fun h y hy hi=>(h.quo y hy).no (hrf _ hi))
      have q7:=cP qd;simp only[br,aM,cg,cN,dr,df,aV] at q5 q6 q7;refine⟨g,a,aB ?_,hg⟩;simp only[Hl,E43,cg,eW,cN,h0,h1,h2,h3,h4,q1,q2,q5,q6,q7,EW,seval]
     ·refine⟨f,hV e2,aB ?_,back,Ed⟩;simp only[Hl,E43,cg,eW,cN,h0,h1,h2,h3,h4,q1,q2,q4,EW,seval]
    ·have q5:=fun M=>k71 f.s.now.ae f.s.now.next f.s.now.ak d nm hz hnm M
     have hv:=hr.un d nm;have hkf:=ZV hr d nm;have hrf:=aoD hr d nm;generalize BT f.s.now d nm=v at q5 hv hkf hrf;obtain⟨g,a,qd,hg⟩:=c69 f v.1 f.dX v.2.2 ⟨0,v.2.1,0,0,0,[],[]⟩ hf hK hv hf.ok.dX hf.ok.sN (fun y _ h=>hkf.2 _ h) (fun h y hy hi=>(h.quo y hy).no (hrf _ hi))
     have q7:=cP qd;simp only[br,aM,cg,cN,dr,df,aV] at q5 q7;refine⟨g,a,aB ?_,hg⟩;simp only[Hl,E43,cg,eW,cN,h0,h1,h2,h3,q1,q5,q7,EW,seval]
   ·have q5:=fun M=>k70 f.s.now.ae f.s.now.next f.s.now.ak d nm o.n hz hnm M
    have hv:=hr.add d nm o.n;have hkf:=Ty hr d nm o.n;have hrf:=ain hr d nm o.n;generalize rX f.s.now d nm o.n=v at q5 hv hkf hrf;obtain⟨g,a,qd,hg⟩:=c69 f v.1 f.dX v.2.2 ⟨0,v.2.1,o.n,0,0,[],[]⟩ hf hK hv hf.ok.dX hf.ok.sN (fun y _ h=>hkf.2 _ h) (fun h y hy hi=>(h.quo y hy).no (hrf _ hi))
    have q7:=cP qd;simp only[br,aM,cg,cN,dr,df,aV] at q5 q7;refine⟨g,a,aB ?_,hg⟩;simp only[Hl,E43,cg,eW,cN,h0,h1,h2,q1,q5,q7,EW,seval]
  ·refine⟨f,hV e1,aB ?_,back,Ed⟩;simp only[Hl,E43,cg,eW,cN,h0,h1,q1,q4,EW,seval]
 ·cases h1:w.2 != 0
  ·cases h2:e2 != 0
   ·have q5:=fun M=>k68 f.s.now.ae f.s.now.next f.s.now.ak w.1 d' nm' hz hnm' M
    have hv:=hr.ln w.1 d' nm';have hkf:=ZT hr w.1 d' nm';have hrf:=aoB hr w.1 d' nm';generalize CS f.s.now w.1 d' nm'=v at q5 hv hkf hrf;obtain⟨g,a,qd,hg⟩:=c69 f v.1 f.dX v.2 ⟨0,w.1,0,0,0,[],[]⟩ hf hK hv hf.ok.dX hf.ok.sN (fun y _ h=>hkf.2 _ h) (fun h y hy hi=>(h.quo y hy).no (hrf _ hi))
    have q7:=cP qd;simp only[br,aM,cg,cN,dr,df,aV] at q5 q7;refine⟨g,a,aB ?_,hg⟩;simp only[Hl,E43,cg,eW,cN,h0,h1,h2,q2,q3,q5,q7,EW,seval]
   ·refine⟨f,hV e2,aB ?_,back,Ed⟩;simp only[Hl,E43,cg,eW,cN,h0,h1,h2,q2,q3,q4,EW,seval]
  ·refine⟨f,hV w.2,aB ?_,back,Ed⟩;simp only[Hl,E43,cg,eW,cN,h0,h1,q3,q4,EW,seval]
section
variable {t:Tree} {n:Node} {many:Int} {Q:ag×aC->Prop}
abbrev liM(t:Tree)(n:Node)(out:List gN):aC:=[.cells [ba t.ae,.int .i64 t.next,.int .i64 t.ak],.cells [.int .i64 n.ar,.int .i64 n.kind,.int .i64 n.eG,df n.data,ja n.bc,.int .i64 n.up],.tick 3 out.length]
def NQ(hn:n.bc.length<=100000){ku:Int}{out:List gN}{k:List K}
  (hx:∀(b:Int) z,(b = -1\/∃i:Nat,i<n.bc.length/\b=i)->∃r,Q r/\kr (aq bX) [.tmp 8,.tmp 9,.tmp 10] 0 k ⟨.exit 2,(2,aD ku)::(3,aD many)::(11,cC 1)::(13,.slice (.own 2) (out.map iG))::(14,aD b)::z,liM t n out⟩=some r) :
  ∃r,Q r/\eS (aq bX) [.tmp 8,.tmp 9,.tmp 10] 0 k (.loop [2,3,11,13,14,15] ahC) [(2,aD ku),(3,aD many),(11,cC 1),(13,.slice (.own 2) (out.map iG)),(14,aD (-1)),(15,aD 0)] (liM t n out)=some r:=by
 refine jc (xs:=n.bc) aH (fun _ (b:Int)=>b = -1\/∃i:Nat,i<n.bc.length/\b=i) (fun b i=>[(2,aD ku),(3,aD many),(11,cC 1),(13,.slice (.own 2) (out.map iG)),(14,aD b),(15,aD i)]) (fun _=>liM t n out) Q (fun b hb=>?_) (fun pre e post b h hx' cQ hw h0 hm hb hi=>?_) (-1) (.inl rfl)
 ·simp only[KO,bq,EW,seval];exact hx b _ hb
 ·have hp:=(aj.1 hx').1;have i1:=hi b hb;have i2:=hi pre.length (.inr ⟨_,hp,rfl⟩);rcases hb with rfl|⟨a,ha,rfl⟩
  ·cases h1:decide (ku<=e.ak)<;>simp only[KO,cQ,hx',hw,h0,h1,iG,gj,EW,seval]<;>first|exact i1|exact i2
  ·have a0:((a:Int)<0)=False:=dw;have a1:((a:Int)<(n.bc.length:Int))=True:=sL;obtain⟨y,hy⟩:∃y,n.bc[a]?=some y:=⟨_,ai ha⟩;cases h1:decide (ku<=e.ak)<;>cases h2:decide (e.ak<y.ak)<;>simp only[KO,cQ,hx',hw,h0,a0,a1,hy,h1,h2,iG,gj,EW,seval]<;>first|exact i1|exact i2
def abf(hn:n.bc.length<=100000){m:Nat}(hm:1<=m)(hm':m<=64){k:List K}
  (hr:∀(out:List gN)(x:Int),out.length<=64->∃r,Q r/\kr (aq bX) [.tmp 8,.tmp 9,.tmp 10] 0 k ⟨.ret,[(8,.slice (.own 2) (out.map iG)),(9,aD x),(10,aD 0)],liM t n out⟩=some r) :
  ∀(d:Nat)(ku:Int)(out:List gN),out.length+d=m->∃r,Q r/\eS (aq bX) [.tmp 8,.tmp 9,.tmp 10] 0 k (.loop [2,3,11,13] ahD) [(2,aD ku),(3,aD m),(11,cC 1),(13,.slice (.own 2) (out.map iG))] (liM t n out)=some r:=by
 intro d;induction d with
 |zero =>
  intro ku out hd;rw[bI];have la:=fun {k} hx=>NQ (t:=t) (n:=n) (many:=m) (Q:=Q) hn (ku:=ku) (out:=out) (k:=k) hx
  simp only[KO,EW,seval];refine la (fun b z hb=>?_)
  rcases hb with rfl|⟨a,ha,rfl⟩
  ·simp only[KO,EW,seval];exact hr out 0 aH
  ·have a0:((a:Int)<0)=False:=dw;have e1:((out.length:Int)==(m:Int))=true:=gr;have w1:IntKind.i64.wrap ((m:Int)-1)=((m-1:Nat):Int):=by rw[gx aH aH]; omega
   have e2:(((m-1:Nat):Int)<(out.length:Int))=True:=sL;have e3:(((m-1:Nat):Int)<0)=False:=dw;obtain⟨y,hy⟩:∃y,out[m-1]?=some y:=⟨_,ai aH⟩;simp only[KO,a0,e1,w1,e2,e3,hy,iG,gj,EW,seval];exact hr out _ aH
 |succ d ih =>
  intro ku out hd;rw[bI];have la:=fun {k} hx=>NQ (t:=t) (n:=n) (many:=m) (Q:=Q) hn (ku:=ku) (out:=out) (k:=k) hx
  simp only[KO,EW,seval];refine la (fun b z hb=>?_)
  rcases hb with rfl|⟨a,ha,rfl⟩
  ·simp only[KO,EW,seval];exact hr out 0 aH
  ·have a0:((a:Int)<0)=False:=dw;have a1:((a:Int)<(n.bc.length:Int))=True:=sL;obtain⟨y,hy⟩:∃y,n.bc[a]?=some y:=⟨_,ai ha⟩;have e1:((out.length:Int)==(m:Int))=false:=gr;have r1:cB (out.length+1) 32=True:=qV;have i1:=fun ku=>ih ku (out++[y]) gr
   simp only[liM,aW,aK,aV,aA,au,az,aI,iG,gj] at i1 ⊢;simp only[KO,a0,a1,e1,r1,hy,iG,gj,EW,seval];exact i1 _
end
def c76(t:Tree)(ar ku many:Int)(ht:Rt t):∃out x e,aq bX 76 [br t,aD ar,aD ku,aD many] []=some (.tuple [ja out,aD x,aD e],[])/\out.length<=64:=by
 have key:∃r:ag×aC,(∃out x e,r=(.tuple [ja out,aD x,aD e],[])/\out.length<=64)/\eS (aq bX) Hm.results 0 [] Hm.body (ef 0 [br t,aD ar,aD ku,aD many]) []=some r:=by
  have qd:=fun M=>ZN t.ae t.next t.ak ar (by have:=ht.sz.ae; omega) M
  have hd:(gW t.ae ar).1.bc.length<=100000:=by obtain⟨dJ,g⟩:=ht; have:=(x8 g ar).2; omega
  generalize gW t.ae ar=v at qd hd;cases h1:decide (ku<0)
  case true =>
   simp only[Hm,KO,br,aM,h1,EW,seval];exact⟨_,⟨[],0,1,rfl,dw⟩,rfl⟩
  cases h2:decide (many<1)
  case true =>
   simp only[Hm,KO,br,aM,h1,h2,EW,seval];exact⟨_,⟨[],0,1,rfl,dw⟩,rfl⟩
  cases h3:decide (64<many)
  case true =>
   simp only[Hm,KO,br,aM,h1,h2,h3,EW,seval];exact⟨_,⟨[],0,1,rfl,dw⟩,rfl⟩
  cases h4:v.2 != 0
  case true =>
   simp only[Hm,KO,br,aM,bL,aL,qd,h1,h2,h3,h4,EW,seval];exact⟨_,⟨[],0,v.2,rfl,dw⟩,rfl⟩
  simp only[dD] at h2 h3;obtain⟨m,rfl⟩:∃m:Nat,many=m:=⟨many.toNat,aH⟩;have g2:decide ((m:Int)<1)=false:=gr;have g3:decide (64<(m:Int))=false:=gr;have lb:=fun {k Q} hr=>abf (t:=t) (n:=v.1) (Q:=Q) hd (m:=m) aH aH (k:=k) hr m ku [] dw
  simp only[liM,aV,az] at lb;simp only[Hm,KO,br,aM,bL,aL,qd,h1,g2,g3,h4,EW,seval];refine lb (fun out x ho=>?_)
  simp only[KO,EW,seval];exact⟨_,⟨out,x,0,rfl,ho⟩,rfl⟩
 obtain⟨_,⟨out,x,e,rfl,h1⟩,h3⟩:=key;exact⟨out,x,e,aB h3,h1⟩
section
variable {f:aa} {o:jz} {n:Node} {Q:ag×aC->Prop}
abbrev wkM(f:aa)(o:jz)(n:Node):aC:=[.cells (cg f),.cells (eW o),.cells sQ,.cells rh,.cells (aM f.s.now),.cells (aL n)]
def ahK{l:List gN}(hl:l.length<=64){nx:Int}{k:List K}
  (hx:∀(S:List Bytes) z,∃r,Q r/\kr (aq bX) [.dQ 4 10,.dQ 5 7] 0 k ⟨.exit 1,(2,cC 0)::(4,cC 2)::(5,cC 3)::(11,ja l)::(12,aD nx)::(14,.slice (.own 6) (S.map ag.str))::z,wkM f o n++[.tick 1 S.length]⟩=some r) :
  ∃r,Q r/\eS (aq bX) [.dQ 4 10,.dQ 5 7] 0 k (.loop [2,4,5,11,12,14,15] aht) [(2,cC 0),(4,cC 2),(5,cC 3),(11,ja l),(12,aD nx),(14,.slice (.own 6) []),(15,aD 0)] (wkM f o n++[.tick 1 0])=some r:=by
 refine jc (xs:=l) aH (fun m (S:List Bytes)=>S.length<=m) (fun S i=>[(2,cC 0),(4,cC 2),(5,cC 3),(11,ja l),(12,aD nx),(14,.slice (.own 6) (S.map ag.str)),(15,aD i)]) (fun S=>wkM f o n++[.tick 1 S.length]) Q (fun S hS=>?_) (fun pre e post S h hx' cQ hw h0 hm hS hi=>?_) [] (av _)
 ·simp only[wkM,cg,eW,sQ,rh,aM,aL,aG,aP] at hx ⊢;simp only[OO,bq,EW,seval];exact hx S _
 ·have hp:=(aj.1 hx').1;have i1:=hi (S++[e.name]) gr;have r1:cB (S.length+1) 16=True:=qV;simp only[wkM,cg,eW,sQ,rh,aM,aL,aG,aP,aW,aK,aV,aA,au,az,aI] at i1 ⊢;simp only[OO,cQ,hx',hw,h0,r1,iG,gj,EW,seval];exact i1
end
def c44{K:Nat}(f:aa)(o:jz)(hf:FB K f)(hK:K<=89000)(ho:sm o):yD K f 44 [.agg (cg f),.agg (eW o)]:=by
 have hr:=hf.ok.rt;have h200:=hr.sz.ae;have hp:o.dK.length<=100000:=by have:=ho.dK; omega
 have q3:=fun M=>k66 f.s.now.ae f.s.now.next f.s.now.ak o.dK hr.small hp M
 generalize CH f.s.now.ae o.dK=w at q3;have qg:=fun M=>Bp f.s.now.ae f.s.now.next f.s.now.ak w.1 aH M
 generalize (find f.s.now.ae w.1).getD Node.zero=n at qg;have q4:=k42;simp only[cN,hV,dr,df,aV,bL,aL] at q4 qg;have back:FB (K+200) f:=hf.mono aH;cases h0:w.2 != 0
 case true =>
  refine⟨f,hV w.2,aB ?_,back,Ed⟩;simp only[zU,OO,cg,eW,cN,hV,dr,df,h0,q3,q4,EW,seval]
 cases h1:o.kind==1
 case true =>
  refine⟨f,⟨0,w.1,n.kind,0,0,[],[]⟩,aB ?_,back,Ed⟩;simp only[zU,OO,cg,eW,cN,hV,dr,df,h0,h1,q3,qg,EW,seval]
 cases h2:o.kind==7
 case true =>
  obtain⟨a,qa⟩:=c75 n;have q5:=cP qa;simp only[bL,aL] at q5;refine⟨f,⟨0,w.1,n.kind,n.eG,a,[],[]⟩,aB ?_,back,Ed⟩;simp only[zU,OO,cg,eW,cN,hV,dr,df,h0,h1,h2,q3,qg,q5,EW,seval]
 cases h3:o.kind==6
 case true =>
  obtain⟨l,nx,e,qa,hl⟩:=c76 f.s.now w.1 o.n o.m hr;have q5:=cP qa;simp only[br,aM] at q5;cases h4:e != 0
  case true =>
   refine⟨f,hV e,aB ?_,back,Ed⟩;simp only[zU,OO,cg,eW,cN,hV,dr,df,h0,h1,h2,h3,h4,q3,q4,q5,qg,EW,seval]
  have key:∃r:ag×aC,(∃a,r=(.tuple [.agg (cg f),.agg (cN a)],[]))/\eS (aq bX) zU.results 0 [] zU.body (ef 0 [.agg (cg f),.agg (eW o)]) []=some r:=by
   have la:=fun {k Q} hx=>ahK (f:=f) (o:=o) (n:=n) (Q:=Q) hl (nx:=nx) (k:=k) hx
   simp only[wkM,cg,eW,sQ,rh,aM,aL,aG,aP] at la;simp only[zU,OO,cg,eW,cN,hV,dr,df,h0,h1,h2,h3,h4,q3,q5,qg,EW,seval];refine la (fun S z=>?_)
   simp only[OO,EW,seval];exact⟨_,⟨⟨0,0,0,nx,0,S,[]⟩,rfl⟩,rfl⟩
  obtain⟨_,⟨a,rfl⟩,h5⟩:=key;exact⟨f,a,aB h5,back,Ed⟩
 cases h4:o.kind==8
 case true =>
  have q5:=fun M=>k77 f.s.now.ae f.s.now.next f.s.now.ak f.holds o.bF o.handle w.1 aH (by have:=hf.ok.dN; omega) M
  obtain⟨g1,g2⟩:=Xc (t:=f.s.now) hf.ok.holds hf.ok.dN o.bF o.handle w.1;have g4:∀y,y∈f.holds->y∈(sK ⟨f.s.now.ae,f.s.now.next,f.s.now.ak⟩ f.holds o.bF o.handle w.1).1:=fun y hy=>Qq f.s.now f.holds o.bF o.handle w.1 hy
  have g3:∀y,y∈(sK ⟨f.s.now.ae,f.s.now.next,f.s.now.ak⟩ f.holds o.bF o.handle w.1).1->y∈f.holds\/tT f.s.now.ae y.ar/\z8 y.bF y.handle=true:=fun y hy=>Qp (t:=f.s.now) (by obtain⟨dJ,g⟩:=hr; exact g.kind) f.holds o.bF o.handle w.1 hy
  change uH (sK ⟨f.s.now.ae,f.s.now.next,f.s.now.ak⟩ f.holds o.bF o.handle w.1).1 at g1
  change(sK ⟨f.s.now.ae,f.s.now.next,f.s.now.ak⟩ f.holds o.bF o.handle w.1).1.length<=64 at g2
  generalize sK ⟨f.s.now.ae,f.s.now.next,f.s.now.ak⟩ f.holds o.bF o.handle w.1=v at q5 g1 g2 g3 g4
  cases h5:v.2 != 0
  ·refine⟨⟨f.s,v.1,f.dX⟩,⟨0,w.1,0,0,0,[],[]⟩,aB ?_,hf.set g1 g2,fun h=>⟨fun y hy=>(g3 y hy).elim (h.file y) And.left,fun n hn ho=>by
    obtain⟨y,h1,h2⟩:=of_held (h.orp n hn ho);exact C1 (g4 y h1) h2,h.quo,h.one,h.over,fun y hy=>(g3 y hy).elim (h.key y) And.right⟩,.inl rfl⟩
   simp only[zU,OO,cg,eW,cN,hV,dr,df,h0,h1,h2,h3,h4,h5,q3,q5,qg,EW,seval]
  ·refine⟨f,hV v.2,aB ?_,back,Ed⟩;simp only[zU,OO,cg,eW,cN,hV,dr,df,h0,h1,h2,h3,h4,h5,q3,q4,q5,qg,EW,seval]
 cases h5:o.kind==13
 case true =>
  obtain⟨l,e,qa,hl,hl',hlm⟩:=c78 f.s.now f.dX w.1 o.n o.m hr hf.ok.dX hf.ok.sN;have q5:=cP qa;obtain⟨g,a,qd,hg⟩:=c69 f f.s.now l e ⟨0,w.1,0,0,0,[],[]⟩ hf hK hr hl hl' (fun _ _ h=>h) (fun h y hy hi=>(hlm y hy).elim (fun hq=>(h.quo y hq).no (.inl hi)) fun hd=>Yl.no hd (.inl hi))
  have q7:=cP qd;simp only[br,aM,cg,cN,dr,df,aV] at q5 q7;refine⟨g,a,aB ?_,hg⟩;simp only[zU,OO,cg,eW,cN,hV,dr,df,h0,h1,h2,h3,h4,h5,q3,q5,q7,qg,EW,seval]
 obtain⟨i,e,qa⟩:=c79 f.s w.1 aH hf.ok.dW;have q5:=cP qa;simp only[bM] at q5;cases h6:e != 0
 ·have hts:(takeN f.s w.1).1.now=f.s.now/\(takeN f.s w.1).1.since=f.s.since/\(takeN f.s w.1).1.eR=f.s.eR/\(takeN f.s w.1).1.dW.length<=16:=by
   have:=hf.ok.dW;unfold takeN;split
   ·exact⟨rfl,rfl,rfl,this⟩
   split
   ·exact⟨rfl,rfl,rfl,this⟩
   split
   ·exact⟨rfl,rfl,rfl,this⟩
   ·rename_i hl;simp only[dh,bh,pg] at hl;exact⟨rfl,rfl,rfl,gr⟩
  obtain⟨t1,t2⟩:=hf.aes hts.1 hts.2.1 (fun p hp=>by rw[hts.2.2.1] at hp; exact hp) (by rw[hts.2.2.1]; exact av _) hts.2.2.2
  refine⟨⟨(takeN f.s w.1).1,f.holds,f.dX⟩,⟨0,0,0,i,0,[],[]⟩,aB ?_,t1,t2,.inr (.inr (.inl ⟨_,rfl⟩))⟩;simp only[zU,OO,cg,eW,cN,hV,dr,df,h0,h1,h2,h3,h4,h5,h6,q3,q5,qg,EW,seval]
 ·refine⟨f,hV e,aB ?_,back,Ed⟩;simp only[zU,OO,cg,eW,cN,hV,dr,df,h0,h1,h2,h3,h4,h5,h6,q3,q4,q5,qg,EW,seval]
section
variable {data:Bytes} {ku:Nat} {Q:ag×aC->Prop}
def abg(hf:ku+data.length<=100000){k:List K}
  (hx:∀(v:Nat) (out:Bytes) z,ku+data.length<=out.length->out.length<=100000->∃r,Q r/\kr (aq bX) [.tmp 6] 0 k ⟨.exit 0,(1,aD ku)::(2,df data)::(7,.cE 0 v 1 0 out.length)::z,[.arr 1 v (out.map qB)]⟩=some r) :
  ∀(d v:Nat)(out:Bytes),ku+data.length-out.length=d->out.length<=100000->∃r,Q r/\eS (aq bX) [.tmp 6] 0 k (.loop [1,2,7] L2) [(1,aD ku),(2,df data),(7,.cE 0 v 1 0 out.length)] [.arr 1 v (out.map qB)]=some r:=by
 have w1:IntKind.i64.wrap ((ku:Int)+(data.length:Int))=((ku+data.length:Nat):Int):=by rw[gx aH aH]; rfl
 intro d;induction d with
 |zero =>
  intro v out h1 h2;rw[bI];have e1:((out.length:Int)<((ku+data.length:Nat):Int))=False:=Yp;simp only[E82,w1,e1,bO,EW,seval];exact hx v out _ aH h2
 |succ d ih =>
  intro v out h1 h2;rw[bI];have e1:((out.length:Int)<((ku+data.length:Nat):Int))=True:=sL;have r1:cB (out.length+1) 1=True:=qV;have u0:qB 0 = .int .u8 0:=rfl;have i1:=ih (v+1) (out++[0]) gr gr;simp only[aW,aK,aV,aA,au,az,aI,u0] at i1;simp only[E82,w1,e1,r1,bO,sj,EW,seval];exact i1
def abh(hf:ku+data.length<=100000){v L:Nat}(hL:ku+data.length<=L){k:List K}
  (hx:∀(out:Bytes) z,out.length=L->∃r,Q r/\kr (aq bX) [.tmp 6] 0 k ⟨.exit 2,(1,aD ku)::(2,df data)::(7,.cE 0 v 1 0 L)::z,[.arr 1 v (out.map qB)]⟩=some r) {out:Bytes} (ho:out.length=L) :
  ∃r,Q r/\eS (aq bX) [.tmp 6] 0 k (.loop [1,2,7,8] ahG) [(1,aD ku),(2,df data),(7,.cE 0 v 1 0 L),(8,aD 0)] [.arr 1 v (out.map qB)]=some r:=by
 refine jc (xs:=data) aH (fun _ (out:Bytes)=>out.length=L) (fun _ i=>[(1,aD ku),(2,df data),(7,.cE 0 v 1 0 L),(8,aD i)]) (fun out=>[.arr 1 v (out.map qB)]) Q (fun out ho=>?_) (fun pre x post out e hx' cQ hw h0 hm ho hi=>?_) out ho
 ·simp only[E82,bq,EW,seval];exact hx out _ ho
 ·have hp:=(aj.1 hx').1;have w1:IntKind.i64.wrap ((ku:Int)+(pre.length:Int))=((ku+pre.length:Nat):Int):=by rw[gx aH aH]; rfl
  have e1:(((ku+pre.length:Nat):Int)<(L:Int))=True:=sL;have e2:(((ku+pre.length:Nat):Int)<0)=False:=Yp;have sU:∀(ds:List UInt8)(b:Nat)(d x:UInt8),jo (ds.map qB) b (putCells (.int .u8 d.toNat) 0 [.int .u8 x.toNat])=(ds.set b x).map qB:=abV;have e3:(ku+pre.length<out.length)=True:=sL;have e4:(ku+pre.length<L)=True:=sL;obtain⟨d,hb⟩:∃d,out[ku+pre.length]?=some d:=⟨_,ai aH⟩;have i1:=hi (out.set (ku+pre.length) x) (by simp[ho])
  simp only[E82,cQ,hx',hw,h0,w1,e1,e2,e3,e4,hb,ho,sU,qB,bO,EW,seval];exact i1
end
def c82(file:Bytes)(ku:Nat)(data:Bytes)(hf:file.length<=100000)(hr:ku+data.length<=100000):∃out:Bytes,aq bX 82 [df file,aD ku,df data] []=some (df out,[])/\out.length<=100000:=by
 have key:∃r:ag×aC,(∃out:Bytes,r=(df out,[])/\out.length<=100000)/\eS (aq bX) PE.results 0 [] PE.body (ef 0 [df file,aD ku,df data]) []=some r:=by
  have r1:cB file.length 1=True:=qV;cases h1:(data.length:Int)==0
  ·have la:=fun {k Q} hx=>abg (data:=data) (ku:=ku) (Q:=Q) hr (k:=k) hx _ 0 file rfl aH
   have hk:∀ {k:List K} {a b c d:ag} {M:aC},eS (aq bX) [.tmp 6] 0 k (.loop [1,2,7] L2) [(1,a),(2,b),(7,c),(14,d)] M=eS (aq bX) [.tmp 6] 0 k (.loop [1,2,7] L2) [(1,a),(2,b),(7,c)] M:=by
    intros; rw[bI,bI]; rfl
   simp only[PE,E82,h1,r1,EW,seval];rw[hk];refine la (fun v out z h2 h3=>?_)
   have lb:=fun {k Q} hx=>abh (data:=data) (ku:=ku) (Q:=Q) hr (v:=v) h2 (k:=k) hx (out:=out) rfl
   simp only[E82,EW,seval];refine lb (fun out' z h4=>?_)
   have htk:(out'.map qB).take out.length=out'.map qB:=bt (by simp[h4])
   simp only[E82,h4,htk,bO,EW,seval];exact⟨_,⟨out',rfl,aH⟩,rfl⟩
  ·have htk:(file.map qB).take file.length=file.map qB:=bt dw;simp only[PE,E82,h1,r1,htk,bO,EW,seval];exact⟨_,⟨file,rfl,aH⟩,rfl⟩
 obtain⟨_,⟨out,rfl,h1⟩,h3⟩:=key;exact⟨out,aB h3,h1⟩
def c45{K:Nat}(f:aa)(o:jz)(hf:FB K f)(hK:K<=89000)(ho:sm o):yD K f 45 [.agg (cg f),.agg (eW o)]:=by
 have hr:=hf.ok.rt;have h200:=hr.sz.ae;have hod:=ho.data;have q4:=k42;simp only[cN,hV,dr,df,aV] at q4;have back:FB (K+200) f:=hf.mono aH;cases h0:o.kind==9
 case true =>
  obtain⟨u,l,e,qa,g⟩:=c80 f.s.now f.holds o.bF o.handle hr hf.ok.holds hf.ok.dN;have qp:=c49 f.s u hr g.rt hf.ok.len hf.ok.dW hf.ok.eR;have q1:=cP qa;have q2:=cP qp;simp only[br,aM,bM] at q1 q2;cases h1:e != 0
  ·refine⟨⟨qz f.s u,l,f.dX⟩,hV 0,aB ?_,hf.put hK g.rt g.ml g.len hf.ok.dX hf.ok.sN,fun h=>HJ g.mem (g.orp h.orp) (fun q hq=>g.dir _ (h.quo q hq)) (g.one _ h.one) (fun q hq=>by rw[g.use]; exact h.over q hq) h,.inr (.inl ⟨u,g.rt,rfl⟩)⟩
   simp only[CR,Rl,cg,eW,cN,hV,dr,df,h0,h1,q1,q2,EW,seval]
  ·refine⟨f,hV e,aB ?_,back,Ed⟩;simp only[CR,Rl,cg,eW,cN,hV,dr,df,h0,h1,q1,q4,EW,seval]
 obtain⟨x,e,qa⟩:=c81 f.holds o.bF o.handle hf.ok.dN;have q1:=cP qa;cases h1:e != 0
 case true =>
  refine⟨f,hV e,aB ?_,back,Ed⟩;simp only[CR,Rl,cg,eW,cN,hV,dr,df,h0,h1,q1,q4,EW,seval]
 have qg:=fun M=>Bp f.s.now.ae f.s.now.next f.s.now.ak x aH M
 have hz:(find f.s.now.ae x).getD Node.zero=bl f.s.now.ae x:=rfl;rw[hz] at qg;obtain⟨s1,s2⟩:=xC hf.ok x;generalize bl f.s.now.ae x=n at qg s1 s2;simp only[bL,aL] at qg;have bad:∀e,aq bX 45 [.agg (cg f),.agg (eW o)] []=some (.tuple [.agg (cg f),.agg (cN (hV e))],[])->yD K f 45 [.agg (cg f),.agg (eW o)]:=fun e h=>⟨f,hV e,h,back,Ed⟩
 cases h2:decide (o.n<0)
 case true =>
  refine bad 1 (aB ?_);simp only[CR,Rl,cg,eW,cN,hV,dr,df,h0,h1,h2,q1,q4,qg,EW,seval]
 have hn0:0<=o.n:=by simpa using h2
 obtain⟨m1,m2⟩:=Ae hn0 n.data.length;generalize Bv o.n n.data.length=mn at m1 m2;have t1:((mn:Int)<=(n.data.length:Int))=True:=sL;have ta:(n.data.map qB).take n.data.length=n.data.map qB:=bt dw;cases h3:o.kind==10
 case true =>
  have h3':(o.kind==11)=false:=by simp at h3 ⊢; omega
  cases h4:decide (o.m<0)
  case true =>
   refine bad 1 (aB ?_);simp only[CR,Rl,cg,eW,cN,hV,dr,df,h0,h1,h2,h3,h3',h4,q1,q4,qg,EW,seval]
  cases h5:decide (4096<o.m)
  case true =>
   refine bad 1 (aB ?_);simp only[CR,Rl,cg,eW,cN,hV,dr,df,h0,h1,h2,h3,h3',h4,h5,q1,q4,qg,EW,seval]
  simp only[dD] at h4 h5;have g4:decide (o.m<0)=false:=gr;have g5:decide (4096<o.m)=false:=gr;have w1:IntKind.i64.wrap ((mn:Int)+o.m)=(mn:Int)+o.m:=gx aH aH;obtain⟨p1,p2⟩:=Ae (a:=(mn:Int)+o.m) aH n.data.length
  have p3:mn<=Bv ((mn:Int)+o.m) n.data.length:=by
   have:=p1; split at this<;>omega
  generalize Bv ((mn:Int)+o.m) n.data.length=mx at p1 p2 p3;have t2:((mx:Int)<=(n.data.length:Int))=True:=sL;have t3:((mn:Int)<=(mx:Int))=True:=sL;refine⟨f,⟨0,x,0,0,0,[],(n.data.take mx).drop mn⟩,aB ?_,back,Ed⟩;simp only[CR,Rl,cg,eW,cN,hV,dr,df,h0,h1,h2,h3,h3',g4,g5,q1,qg,m1,p1,w1,t1,t2,t3,ta,gA,jW,EW,seval]
 cases h6:o.kind==11
 case true =>
  cases h7:decide (4096<o.n)
  case true =>
   refine bad 1 (aB ?_);simp only[CR,Rl,cg,eW,cN,hV,dr,df,h0,h1,h2,h3,h6,h7,q1,q4,qg,EW,seval]
  have h7':¬4096<o.n:=by simpa using h7
  obtain⟨m,hm⟩:∃m:Nat,o.n=m:=⟨o.n.toNat,aH⟩;rw[hm] at h2 h7;have w1:IntKind.i64.wrap ((m:Int)+(o.data.length:Int))=(m:Int)+(o.data.length:Int):=gx aH aH;cases h8:decide (4096<(m:Int)+(o.data.length:Int))
  case true =>
   refine bad 2 (aB ?_);simp only[CR,Rl,cg,eW,cN,hV,dr,df,hm,h0,h1,h2,h3,h6,h7,h8,w1,q1,q4,qg,EW,seval]
  obtain⟨d,ql,hd⟩:=c82 n.data m o.data aH aH;have q5:=cP ql;have h8':¬4096<(m:Int)+(o.data.length:Int):=by simpa using h8
  have q6:=fun M=>k83 f.s.now.ae f.s.now.next f.s.now.ak x d hr.small hd M
  have hv:=hr.put x d;have hkf:=JE hr x d;have hrf:=XB hr x d;generalize rT f.s.now x d=v at q6 hv hkf hrf;obtain⟨g,a,qd,hg⟩:=c69 f v.1 f.dX v.2 ⟨0,x,0,0,d.length,[],[]⟩ hf hK hv hf.ok.dX hf.ok.sN (fun y _ h=>hkf.2 _ h) (fun h y hy hi=>(h.quo y hy).no (hrf _ hi))
  have q7:=cP qd;simp only[br,aM,cg,cN,dr,df,aV] at q5 q6 q7;refine⟨g,a,aB ?_,hg⟩;simp only[CR,Rl,cg,eW,cN,hV,dr,df,hm,h0,h1,h2,h3,h6,h7,h8,w1,q1,q5,q6,q7,qg,EW,seval]
 have tl1:(List.take mn (n.data.map qB)).length=mn:=gr;have tl2:(List.take mn n.data).length=mn:=gr;have q6:=fun M=>k83 f.s.now.ae f.s.now.next f.s.now.ak x (n.data.take mn) hr.small gr M
 have hv:=hr.put x (n.data.take mn);have hkf:=JE hr x (n.data.take mn);have hrf:=XB hr x (n.data.take mn);generalize rT f.s.now x (n.data.take mn)=v at q6 hv hkf hrf;obtain⟨g,a,qd,hg⟩:=c69 f v.1 f.dX v.2 ⟨0,x,0,0,(n.data.take mn).length,[],[]⟩ hf hK hv hf.ok.dX hf.ok.sN (fun y _ h=>hkf.2 _ h) (fun h y hy hi=>(h.quo y hy).no (hrf _ hi))
 have q7:=cP qd;simp only[br,aM,cg,cN,dr,df,aV,ec,tl2] at q6 q7;refine⟨g,a,aB ?_,hg⟩;simp only[CR,Rl,tl1,cg,eW,cN,hV,dr,df,h0,h1,h2,h3,h6,q1,q6,q7,qg,m1,t1,gA,EW,seval]
section
variable {s:iQ} {Q:ag×aC->Prop} {id:Int}
abbrev Q5(s:iQ):aC:=[.cells (bM s),.cells [.slice .c0 [],.int .i64 0,.int .i64 0,.int .i64 0,.slice .c0 [],.slice .c0 [],.slice .c0 [],.int .i64 0]]
def aba(hk:s.dW.length<=16){k:List K}
  (hx:∀z,∃r,Q r/\kr (aq bX) [.dQ 4 8,.tmp 5] 0 k ⟨.exit 0,(1,aD id)::(2,cC 0)::(4,cC 1)::(6,.slice (.own 2) ((s.dW.filter (rG id)).map kU))::z,Q5 s++[.tick 3 (s.dW.filter (rG id)).length]⟩=some r) :
  ∃r,Q r/\eS (aq bX) [.dQ 4 8,.tmp 5] 0 k (.loop [1,2,4,6,7] ahx) [(1,aD id),(2,cC 0),(4,cC 1),(6,.slice (.own 2) []),(7,aD 0)] (Q5 s++[.tick 3 0])=some r:=by
 refine jc (xs:=s.dW) aH (fun m (ts:List mR)=>ts=(s.dW.take m).filter (rG id)) (fun ts i=>[(1,aD id),(2,cC 0),(4,cC 1),(6,.slice (.own 2) (ts.map kU)),(7,aD i)]) (fun ts=>Q5 s++[.tick 3 ts.length]) Q (fun ts hK=>?_) (fun pre x post ts e hx' cQ hw h0 hm hK hi=>?_) [] rfl
 ·rw[bE] at hK;subst hK;simp only[Q5,bM,aG,aP] at hx ⊢;simp only[E47,bq,EW,seval];exact hx _
 ·have hp:=(aj.1 hx').1;have hl:ts.length<=16:=by rw[hK]; exact aY (bU _ _) gr
  have i1:=hi (ts++if x.id != id then [x] else []) (by rw[cD,hx',kI,<-hK]; simp only[kJ,fq,kO,rG]<;>rfl)
  have r1:cB (ts.length+1) 24=True:=qV;simp only[Q5,bM,aG,aP] at i1 ⊢;cases h1:x.id != id<;>simp only[h1,af,aF,aE,dz,aW,aK,aV,aA,au,az,aI,kU,iC] at i1<;>simp only[E47,cQ,hx',hw,h0,h1,r1,kU,iC,EW,seval]<;>exact i1
def abb(hp:s.eR.length<=90000){ts:List mR}(hk:ts.length<=16){k:List K}
  (hx:∀z,∃r,Q r/\kr (aq bX) [.dQ 4 8,.tmp 5] 0 k ⟨.exit 2,(2,cC 0)::(4,cC 1)::(6,.slice (.own 2) (ts.map kU))::(8,.slice (.own 3) ((s.eR.filter (vT ts)).map ma))::z,Q5 s++[.tick 3 ts.length,.tick 8 (s.eR.filter (vT ts)).length]⟩=some r) :
  ∃r,Q r/\eS (aq bX) [.dQ 4 8,.tmp 5] 0 k (.loop [2,4,6,8,9] ahy) [(2,cC 0),(4,cC 1),(6,.slice (.own 2) (ts.map kU)),(8,.slice (.own 3) []),(9,aD 0)] (Q5 s++[.tick 3 ts.length,.tick 8 0])=some r:=by
 refine jc (xs:=s.eR) aH (fun m (P:List py)=>P=(s.eR.take m).filter (vT ts)) (fun P i=>[(2,cC 0),(4,cC 1),(6,.slice (.own 2) (ts.map kU)),(8,.slice (.own 3) (P.map ma)),(9,aD i)]) (fun P=>Q5 s++[.tick 3 ts.length,.tick 8 P.length]) Q (fun P hP=>?_) (fun pre x post P e hx' cQ hw h0 hm hP hi=>?_) [] rfl
 ·rw[bE] at hP;subst hP;simp only[Q5,bM,aG,aP] at hx ⊢;simp only[E47,bq,EW,seval];exact hx _
 ·have hp':=(aj.1 hx').1;have hl:P.length<=90000:=by rw[hP]; exact aY (bU _ _) gr
  have i1:=hi (P++if xJ ts x.ku x.BR then [x] else []) (by rw[cD,hx',kI,<-hP]; simp only[kJ,fq,kO,vT]<;>rfl)
  have qw:=fun M=>k86 ts x.ku x.BR aH M
  generalize xJ ts x.ku x.BR=w at qw i1;have r1:cB (P.length+1) 96=True:=qV;simp only[Q5,bM,aG,aP] at i1 ⊢;cases w<;>simp only[af,aF,aE,dz,aW,aK,aV,aA,au,az,aI,ma,mJ,aL] at i1<;>simp only[E47,cQ,hx',hw,h0,qw,r1,ma,mJ,aL,EW,seval]<;>exact i1
end
def c47(s:iQ)(id:Int)(hk:s.dW.length<=16)(hp:s.eR.length<=90000):∃e,aq bX 47 [.agg (bM s),aD id] []=some (.tuple [.agg (bM (ru s id).1),aD e],[]):=by
 have key:∃r:ag×aC,(∃e,r=(.tuple [.agg (bM (ru s id).1),aD e],[]))/\eS (aq bX) S1.results 0 [] S1.body (ef 0 [.agg (bM s),aD id]) []=some r:=by
  have la:=fun {k Q} hx=>aba (s:=s) (Q:=Q) (id:=id) hk (k:=k) hx
  simp only[Q5,bM,aG,aP] at la;simp only[S1,E47,bM,EW,seval];refine la (fun z=>?_)
  unfold ru;have hK:(s.dW.filter (rG id)).length<=16:=aY (bU _ _) hk;generalize s.dW.filter (rG id)=ts at hK ⊢;cases h1:(ts.length:Int)==(s.dW.length:Int)
  ·have lb:=fun {k Q} hx=>abb (s:=s) (Q:=Q) hp (ts:=ts) hK (k:=k) hx
   simp only[Q5,bM,aG,aP] at lb;simp only[E47,h1,af,aE,EW,seval];refine lb (fun z=>?_)
   simp only[E47,EW,seval];exact⟨_,⟨0,rfl⟩,rfl⟩
  ·simp only[E47,h1,aF,EW,seval];exact⟨_,⟨100,rfl⟩,rfl⟩
 obtain⟨_,⟨e,rfl⟩,h3⟩:=key;exact⟨e,aB h3⟩
def art(l:List Node)(n:Node)(hn:l.length<=100000):∃m,aq bX 177 [ba l,bL n] []=some (ba m,[])/\m.length=l.length+1/\∀x,x∈m->x=n\/x∈l:=by
 have key:∃r:ag×aC,(∃m,r=(ba m,[])/\m.length=l.length+1/\∀x,x∈m->x=n\/x∈l)/\eS (aq bX) Ji.results 0 [] Ji.body (ef 0 [ba l,bL n]) []=some r:=by
  simp only[Ji,Yz,bL,aL,EW,seval]
  have fin:∀(i:Nat),i<=l.length->∃m:List Node,m.length=l.length+1/\(∀x,x∈m->x=n\/x∈l)/\l.take i++n::l.drop i=m:=fun i hi=>⟨_,gr,fun x hx=>by
   rcases bo.1 hx with hx|hx
   ·exact .inr (dB hx)
   ·rcases bH.1 hx with hx|hx
    ·exact .inl hx
    ·exact .inr (dA hx),rfl⟩
  refine jc (xs:=l) aH (fun _ (_:Unit)=>True) (fun _ i=>[(0,ba l),(3,cC 0),(5,aD i)]) (fun _=>[cF [aD n.ar,aD n.kind,aD n.eG,df n.data,ja n.bc,aD n.up]]) _ (fun _ _=>?_) (fun pre x post _ e hx cQ hw h0 hm _ hi=>?_) () trivial
  ·obtain⟨m,m1,m2,m3⟩:=fin l.length (av _);have r1:cB l.length 80=True:=qV;have r2:cB (l.length+1) 80=True:=qV;have a1:(l.map bL).take l.length=l.map bL:=by rw[<-ec,bE]
   have a2:(l.map bL).drop l.length=[]:=by rw[<-jW,nI]; rfl
   simp only[Yz,bq,dS,a1,a2,r1,r2,EW,seval];refine⟨_,⟨m,rfl,m1,m2⟩,?_⟩;rw[<-m3]; simp[bL,aL]
  ·have hp:=(aj.1 hx).1;obtain⟨m,m1,m2,m3⟩:=fin pre.length aH;have i1:=hi () trivial;have r1:cB pre.length 80=True:=qV;have r2:cB (pre.length+1) 80=True:=qV;obtain⟨B,hB⟩:∃B,x::post=B:=⟨_,rfl⟩;have t1:l.take pre.length=pre:=by rw[e]; simp
   have t2:l.drop pre.length=B:=by rw[e,<-hB]; simp
   have t3:pre.length+B.length=l.length:=by rw[e,<-hB]; simp
   have r3:cB (pre.length+1+B.length) 80=True:=qV;have a1:(l.map bL).take pre.length=pre.map bL:=by rw[<-ec,t1]
   have a2:(l.map bL).drop pre.length=B.map bL:=by rw[<-jW,t2]
   have a3:((pre.length:Int)<=(l.length:Int))=True:=sL;have a4:(l.map bL).take l.length=l.map bL:=by rw[<-ec,bE]
   cases h1:decide (x.ar<=n.ar)<;>simp only[Yz,cQ,hx,hw,h0,h1,bL,aL,EW,seval]
   ·simp only[Yz,a1,a2,a3,a4,r1,r2,r3,dS,EW,seval];refine⟨_,⟨m,rfl,m1,m2⟩,?_⟩;rw[<-m3,t1,t2]; simp[bL,aL]
   ·exact i1
 obtain⟨_,⟨m,rfl,h1⟩,h3⟩:=key;exact⟨m,aB h3,h1⟩
end
def X9:List Node->List Bool->Nat
 |n::r,b::m=>(if b then 0 else n.bc.length)+X9 r m
 |_,_=>0
def Ow:∀(l:List Node)(m:List Bool)(i:Nat)(n:Node),l[i]?=some n->m[i]?=some false->X9 l (m.set i true)+n.bc.length=X9 l m
 | [],m,i,n,h,_=>by simp at h
 |x::l,[],i,n,_,h=>by simp at h
 |x::l,b::m,0,n,h,h'=>by simp at h h'; subst h; subst h'; simp[X9]; omega
 |x::l,b::m,i+1,n,h,h'=>by
  have:=Ow l m i n (by simpa using h) (by simpa using h')
  simp only[List.set_cons_succ,X9]; omega
def Ya:∀(l:List Node)(m:List Bool),(∀n,n∈l->n.bc.length<=64)->X9 l m<=64*l.length
 | [],m,_=>by simp[X9]
 |x::l,[],_=>by simp[X9]
 |x::l,b::m,h=>by
  have h1:=Ya l m fun n hn=>h n (bu _ hn)
  have h2:=h x bD;simp only[X9,au]; split<;>omega
section
attribute [local irreducible] eS fI lx gK dZ kr aq aR cu bJ
section
variable {l:List Node} {Q:ag×aC->Prop}
abbrev Kl(l:List Node)(m:List Bool)(all:List Int):aC:=[.arr 1 0 (m.map ag.bool),.cells [ba l,.int .i64 0,.int .i64 0],.tick 1 all.length]
abbrev XQ(n:Node):cV := .cells [.int .i64 n.ar,.int .i64 n.kind,.int .i64 n.eG,df n.data,ja n.bc,.int .i64 n.up]
def We(hl:l.length<=100000){m:List Bool}{all:List Int}{i:Nat}{A B:List Node}{n:Node}(hs:l=A++n::B)(hA:∀x,x∈A->x.ar≠n.ar){k:List K}
  (hx:∀z,∃r,Q r/\kr (aq bX) [.tmp 4,.tmp 5] 0 k ⟨.exit 2,(0,ba l)::(6,.cE 0 0 1 0 l.length)::(7,cC 1)::(8,.slice (.own 2) (all.map mS))::(9,aD i)::(10,cC 3)::(12,aD A.length)::z,Kl l m all++[XQ n]⟩=some r) :
  ∀(d j:Nat),j+d=A.length->∃r,Q r/\eS (aq bX) [.tmp 4,.tmp 5] 0 k (.loop [0,6,7,8,9,10,12] aaf) [(0,ba l),(6,.cE 0 0 1 0 l.length),(7,cC 1),(8,.slice (.own 2) (all.map mS)),(9,aD i),(10,cC 3),(12,aD j)] (Kl l m all++[XQ n])=some r:=by
 have hl2:l.length=A.length+(B.length+1):=by rw[hs]; simp
 intro d;induction d with
 |zero =>
  intro j hj;obtain rfl:j=A.length:=aH;rw[bI];have b0:((A.length:Int)<0)=False:=dw;have hn:l[A.length]?=some n:=by rw[hs]; simp
  have e1:(n.ar != n.ar)=false:=dw;simp only[Kl,XQ,aG,aP] at hx ⊢;simp only[AL,b0,hn,e1,bL,aL,EW,seval];exact hx _
 |succ d ih =>
  intro j hj;rw[bI];have b0:((j:Int)<0)=False:=dw;obtain⟨x,hx1⟩:∃x,A[j]?=some x:=⟨_,ai aH⟩;have hn:l[j]?=some x:=by rw[hs,aO aH]; exact hx1
  have e1:(x.ar != n.ar)=true:=by simpa using hA x (aJ hx1)
  have w1:IntKind.i64.wrap ((j:Int)+1)=((j+1:Nat):Int):=by rw[gx aH aH]; rfl
  have i1:=ih (j+1) aH;simp only[Kl,XQ,aG,aP] at i1 ⊢;simp only[AL,b0,hn,e1,w1,bL,aL,EW,seval];exact i1
def Wf{m:List Bool}{all:List Int}{i:Nat}{n:Node}(hn:n.bc.length<=64)(ha:all.length<=10000000){k:List K}
  (hx:∀(S:List Int) z,S.length=all.length+n.bc.length->∃r,Q r/\kr (aq bX) [.tmp 4,.tmp 5] 0 k ⟨.exit 4,(0,ba l)::(6,.cE 0 0 1 0 l.length)::(7,cC 1)::(8,.slice (.own 2) (S.map mS))::(9,aD i)::z,Kl l m S++[XQ n]⟩=some r) :
  ∃r,Q r/\eS (aq bX) [.tmp 4,.tmp 5] 0 k (.loop [0,6,7,8,9,10,13] aag) [(0,ba l),(6,.cE 0 0 1 0 l.length),(7,cC 1),(8,.slice (.own 2) (all.map mS)),(9,aD i),(10,cC 3),(13,aD 0)] (Kl l m all++[XQ n])=some r:=by
 refine jc (xs:=n.bc) aH (fun c (S:List Int)=>S.length=all.length+c) (fun S j=>[(0,ba l),(6,.cE 0 0 1 0 l.length),(7,cC 1),(8,.slice (.own 2) (S.map mS)),(9,aD i),(10,cC 3),(13,aD j)]) (fun S=>Kl l m S++[XQ n]) Q (fun S hS=>?_) (fun pre e post S h hx' cQ hw h0 hm hS hi=>?_) all rfl
 ·have:=fun z=>hx S ((10,cC 3)::z) hS
  simp only[Kl,XQ,aG,aP] at this ⊢;simp only[AL,bq,EW,seval];exact this _
 ·have hp:=(aj.1 hx').1;have i1:=hi (S++[e.ar]) gr
  have r1:cB (S.length+1) 8=True:=by
   simp only[fT,jx]; unfold cB; omega
  simp only[Kl,XQ,aG,aP,aW,aK,aV,aA,au,az,aI,mS] at i1 ⊢;simp only[AL,cQ,hx',hw,h0,r1,uG,iG,gj,EW,seval];exact i1
def Wg(hl:l.length<=100000)(he:∀n,n∈l->n.bc.length<=64){k:List K}
  (hx:∀(m:List Bool) z M,m.length=l.length->∃r,Q r/\kr (aq bX) [.tmp 4,.tmp 5] 0 k ⟨.exit 0,(0,ba l)::(6,.cE 0 0 1 0 l.length)::z,.arr 1 0 (m.map ag.bool)::M⟩=some r)
  (hr:∀(m:List Bool) M,m.length=l.length->∃r,Q r/\kr (aq bX) [.tmp 4,.tmp 5] 0 k ⟨.ret,[(4,.cE 0 0 1 0 l.length),(5,.bool false)],.arr 1 0 (m.map ag.bool)::M⟩=some r) :
  ∀(d:Nat)(m:List Bool)(all:List Int)(i:Nat),m.length=l.length->i<=all.length->all.length+X9 l m<=7000000->all.length+X9 l m-i=d->∃r,Q r/\eS (aq bX) [.tmp 4,.tmp 5] 0 k (.loop [0,6,7,8,9] aah) [(0,ba l),(6,.cE 0 0 1 0 l.length),(7,cC 1),(8,.slice (.own 2) (all.map mS)),(9,aD i)] (Kl l m all)=some r:=by
 intro d;induction d using Nat.strongRecOn with
 |_ d ih =>
  intro m all i hm hi hb hd;rw[bI];rcases bA i all.length with h1|h1
  ·have e1:((i:Int)<(all.length:Int))=True:=sL;have e0:((i:Int)<0)=False:=dw;have w1:IntKind.i64.wrap ((i:Int)+1)=((i+1:Nat):Int):=by rw[gx aH aH]; rfl
   obtain⟨x,hx1⟩:∃x,all[i]?=some x:=⟨_,ai h1⟩;have qg:=fun M=>Bp l 0 0 x hl M
   cases hf:find l x with
   |none =>
    rw[hf] at qg;simp only[iK,cU,bL,aL,Node.zero,aV] at qg;simp only[Kl,aG,aP] at hr ⊢;simp only[AL,e1,e0,hx1,qg,mS,EW,seval];exact hr m _ hm
   |some n =>
    rw[hf] at qg;simp only[bC,bQ,bL,aL] at qg;obtain⟨_,A,B,hs,hA⟩:=List.find?_eq_some_iff_append.1 hf;have hnm:n∈l:=by rw[hs]; simp
    have hne:=he n hnm
    have hA':∀y,y∈A->y.ar≠n.ar:=fun y hy hyn=>by
     have h2:=hA y hy;have h3:=(List.find?_eq_some_iff_append.1 hf).1;simp at h2 h3; omega
    have la:=fun {k} hx=>We (l:=l) (Q:=Q) hl (m:=m) (all:=all) (i:=i) hs hA' (k:=k) hx A.length 0 aH
    simp only[Kl,XQ,aG,aP] at la ⊢;simp only[AL,e1,e0,hx1,qg,mS,EW,seval];refine la (fun z=>?_)
    have hAl:A.length<l.length:=by rw[hs]; simp
    have a0:((A.length:Int)<0)=False:=dw;have a1:((A.length:Int)<(l.length:Int))=True:=sL;have a2:(A.length<l.length)=True:=sL;have a3:(A.length<m.length)=True:=sL;have hln:l[A.length]?=some n:=by rw[hs]; simp
    obtain⟨b,hmb⟩:∃b,m[A.length]?=some b:=⟨_,ai aH⟩;cases b
    ·have hu:=Ow l m A.length n hln hmb;have lb:=fun {k} hx=>Wf (l:=l) (Q:=Q) (m:=m.set A.length true) (all:=all) (i:=i) (n:=n) hne aH (k:=k) hx
     simp only[Kl,XQ,aG,aP] at lb;simp only[AL,a0,a1,a2,a3,hmb,hm,GI,bO,EW,seval];refine lb (fun S z hS=>?_)
     have i1:=ih _ aH (m.set A.length true) S (i+1) (by simp[hm]) aH aH rfl
     simp only[Kl] at i1;simp only[AL,w1,EW,seval];exact i1
    ·have i1:=ih _ aH m all (i+1) hm aH hb rfl;simp only[Kl] at i1;simp only[AL,a0,a1,a2,a3,hmb,hm,w1,bO,EW,seval];exact i1
  ·have e1:((i:Int)<(all.length:Int))=False:=Yp;simp only[Kl,aG,aP] at hx ⊢;simp only[AL,e1,EW,seval];exact hx m _ _ hm
end
def aqS(l:List Node)(ar:Int)(hl:l.length<=100000)(he:∀n,n∈l->n.bc.length<=64):∃(m:List Bool) (b:Bool),aq bX 139 [ba l,aD ar] []=some (.tuple [gv (m.map ag.bool),.bool b],[])/\m.length=l.length:=by
 have key:∃r:ag×aC,(∃(m:List Bool) (b:Bool),r=(.tuple [gv (m.map ag.bool),.bool b],[])/\m.length=l.length)/\eS (aq bX) Jf.results 0 [] Jf.body (ef 0 [ba l,aD ar]) []=some r:=by
  have r1:cB l.length 8=True:=qV
  have hrep:List.replicate l.length (ag.agg [ag.bool false]).norm=(List.replicate l.length false).map ag.bool:=by
   rw[gX]; rfl
  have hu:=Ya l (List.replicate l.length false) he;have lc:=fun {k Q} hx hr=>Wg (l:=l) (Q:=Q) hl he (k:=k) hx hr _ (List.replicate l.length false) [ar] 0 dw dw gr rfl
  simp only[Kl,aK,aV,au,az,mS] at lc;simp only[Jf,AL,r1,hrep,EW,seval];refine lc (fun m z M hm=>?_) (fun m M hm=>?_)
  ·have htk:(m.map ag.bool).take l.length=m.map ag.bool:=bt (by simp[hm])
   simp only[AL,hm,htk,bO,EW,seval];exact⟨_,⟨m,true,rfl,hm⟩,rfl⟩
  ·have htk:(m.map ag.bool).take l.length=m.map ag.bool:=bt (by simp[hm])
   simp only[AL,hm,htk,bO,EW,seval];exact⟨_,⟨m,false,rfl,hm⟩,rfl⟩
 obtain⟨_,⟨m,b,rfl,h1⟩,h3⟩:=key;exact⟨m,b,aB h3,h1⟩
section
variable {s:iQ} {a:Int} {Q:ag×aC->Prop}
def BZ(c:Nat)(x:ag×List Node):Prop:=(x.1 = .slice .c0 []/\x.2=[]\/x.1=ba x.2)/\x.2.length<=c/\∀n,n∈x.2->Fv n
def BZ.amW{c:Nat}{x:ag×List Node}(h:BZ c x)(hc:c<=100000){n:Node}(hn:Fv n):∃m,(∀M,aR (aq bX) 177 [x.1.fU,.agg (aL n)] M=some (ba m,M))/\BZ (c+1) (ba m,m):=by
 obtain⟨v,l⟩:=x;obtain⟨h1,h2,h3⟩:=h;simp only at h1 h2 h3;obtain⟨m,q,g1,g2⟩:=art l n aH
 have hv:v.fU=ba l:=by
  rcases h1 with ⟨rfl,rfl⟩|rfl<;>rfl
 refine⟨m,fun M=>?_,.inr rfl,by simp only; omega,fun y hy=>?_⟩
 ·simp only[hv];exact cO q M
 ·rcases g2 y hy with rfl|hy
  ·exact hn
  ·exact h3 y hy
def BZ.mono{c d:Nat}{x:ag×List Node}(h:BZ c x)(hd:c<=d):BZ d x:=⟨h.1,aY h.2.1 hd,h.2.2⟩
def c138(s:iQ)(a:Int)(hs:Rt s.now)(hl:s.since.length=s.now.ae.length)(hp:s.eR.length<=90000)(he:∀p,p∈s.eR->Fv p.node):∃l,aq bX 138 [.agg (bM s),aD a] []=some (ba l,[])/\l.length<=90200/\∀n,n∈l->Fv n:=by
 have key:∃r:ag×aC,(∃l,r=(ba l,[])/\l.length<=90200/\∀n,n∈l->Fv n)/\eS (aq bX) Nj.results 0 [] Nj.body (ef 0 [.agg (bM s),aD a]) []=some r:=by
  have h200:=hs.sz.ae;simp only[Nj,OC,bM,EW,seval];refine jc (xs:=s.now.ae) aH (fun m (x:ag×List Node)=>BZ m x) (fun x i=>[(1,aD a),(2,cC 0),(5,x.1),(6,aD i)]) (fun _=>[cF (bM s)]) _ (fun x hI=>?_) (fun pre n post x e hx cQ hw h0 hm hI hi=>?_) (.slice .c0 [],[]) ⟨.inl ⟨rfl,rfl⟩,av _,fun n h=>by cases h⟩
  ·simp only[bM];simp only[OC,bq,EW,seval];refine jc (xs:=s.eR) aH (fun m (x:ag×List Node)=>BZ (s.now.ae.length+m) x) (fun x i=>[(1,aD a),(2,cC 0),(5,x.1),(7,aD i)]) (fun _=>[cF (bM s)]) _ (fun x hI=>?_) (fun pre p post x e hx cQ hw h0 hm hI hi=>?_) x hI
   ·obtain⟨v,l⟩:=x;obtain⟨h1,h2,h3⟩:=hI;simp only at h2 h3;rcases h1 with ⟨h1,h4⟩|h1<;>simp only at h1
    ·simp only at h4;subst h1; subst h4;simp only[bM];simp only[OC,bq,EW,seval];exact⟨_,⟨[],rfl,dw,h3⟩,rfl⟩
    ·subst h1;simp only[bM];simp only[OC,bq,EW,seval];exact⟨_,⟨l,rfl,aH,h3⟩,rfl⟩
   ·have hpl:=(aj.1 hx).1;obtain⟨m,q,g⟩:=hI.amW aH (he p hm);have i1:=hi x (hI.mono aH);have i2:=hi _ g;obtain⟨v,l⟩:=x;rcases hI.1 with ⟨h3,h4⟩|h3<;>simp only at h3<;>first|(simp only at h4; subst h3; subst h4)|subst h3
    all_goals
     first
      |(change ∀M,aR (aq bX) 177 [gv [],.agg (aL p.node)] M=_ at q)
      |(change ∀M,aR (aq bX) 177 [ba l,.agg (aL p.node)] M=_ at q)
     simp only[bM,aL] at i1 i2 q ⊢;cases h1:decide (p.ku<=a)<;>cases h2:decide (a<p.BR)<;>simp only[OC,cQ,hx,hw,h0,h1,h2,q,ma,mJ,aL,EW,seval]<;>first|exact i1|exact i2
  ·have hpl:=(aj.1 hx).1;have hl1:((pre.length:Int)<(s.since.length:Int))=True:=sL;obtain⟨y,hy⟩:∃y,s.since[pre.length]?=some y:=⟨_,ai aH⟩;obtain⟨m,q,g⟩:=hI.amW aH (hs.Yn hm);have i1:=hi x (hI.mono aH);have i2:=hi _ g;obtain⟨v,l⟩:=x;rcases hI.1 with ⟨h3,h4⟩|h3<;>simp only at h3<;>first|(simp only at h4; subst h3; subst h4)|subst h3
   all_goals
    first
     |(change ∀M,aR (aq bX) 177 [gv [],.agg (aL n)] M=_ at q)
     |(change ∀M,aR (aq bX) 177 [ba l,.agg (aL n)] M=_ at q)
    simp only[bM,aL] at i1 i2 q ⊢;cases h1:decide (y<=a)<;>simp only[OC,cQ,hx,hw,h0,hl1,hy,h1,q,bL,aL,mS,EW,seval]<;>first|exact i1|exact i2
 obtain⟨_,⟨l,rfl,h1⟩,h3⟩:=key;exact⟨l,aB h3,h1⟩
def c84(s:iQ)(id:Int)(hs:Rt s.now)(hl:s.since.length=s.now.ae.length)(hp:s.eR.length<=90000)(he:∀p,p∈s.eR->Fv p.node)(hk:s.dW.length<=16):∃i l e,aq bX 84 [.agg (bM s),aD id] []=some (.tuple [aD i,ba l,aD e],[])/\l.length<=90200/\∀n,n∈l->Fv n:=by
 have key:∃r:ag×aC,(∃i l e,r=(.tuple [aD i,ba l,aD e],[])/\l.length<=90200/\∀n,n∈l->Fv n)/\eS (aq bX) S2.results 0 [] S2.body (ef 0 [.agg (bM s),aD id]) []=some r:=by
  simp only[S2,E84,bM,EW,seval];refine jc (xs:=s.dW) aH (fun _ (_:Unit)=>True) (fun _ i=>[(1,aD id),(2,cC 0),(7,aD i)]) (fun _=>[cF (bM s)]) _ (fun _ _=>?_) (fun pre x post _ e hx cQ hw h0 hm _ hi=>?_) () trivial
  ·simp only[bM];simp only[E84,bq,EW,seval];exact⟨_,⟨0,[],100,rfl,dw,fun n h=>by cases h⟩,rfl⟩
  ·have hpl:=(aj.1 hx).1;obtain⟨l,q1,g1,g2⟩:=c138 s x.at' hs hl hp he;obtain⟨m,b,q2,g3⟩:=aqS l x.ar aH (fun n hn=>(g2 n hn).1)
   have k1:=cP q1;have k2:=cP q2;have i1:=hi () trivial;have e1:((pre.length:Int)<(s.dW.length:Int))=True:=sL;simp only[bM] at i1 k1 ⊢;cases h1:x.id != id<;>simp only[E84,cQ,hx,hw,h0,h1,k1,k2,kU,iC,EW,seval]
   ·refine jc (xs:=l) aH (fun c (S:List Node)=>S.length<=c/\∀n,n∈S->n∈l) (fun S i=>[(2,cC 0),(7,aD pre.length),(8,ba l),(9,gv (m.map ag.bool)),(11,.slice (.own 1) (S.map bL)),(12,aD i)]) (fun S=>[cF (bM s),.tick 6 S.length]) _ (fun S hS=>?_) (fun pre2 n post2 S e2 hx2 hlt2 hw2 h02 hm2 hS hi2=>?_) [] ⟨av _,fun n h=>by cases h⟩
    ·simp only[bM];simp only[E84,bq,e1,hx,h0,kU,iC,EW,seval];exact⟨_,⟨_,S,0,rfl,aH,fun n hn=>g2 n (hS.2 n hn)⟩,rfl⟩
    ·have hpl2:=(aj.1 hx2).1;obtain⟨c,hc⟩:∃c,m[pre2.length]?=some c:=⟨_,ai aH⟩;have j1:=hi2 S ⟨aH,hS.2⟩
     have j2:=hi2 (S++[n]) ⟨gr,fun y hy=>by
      rcases bo.1 hy with hy|hy
      ·exact hS.2 y hy
      ·rw[bT.1 hy]; exact hm2⟩
     have r1:cB (S.length+1) 80=True:=qV;simp only[bM,aW,aK,aV,aA,au,az,aI,bL,aL] at j1 j2 ⊢;cases c<;>simp only[E84,hlt2,hx2,hw2,h02,hc,r1,bL,aL,EW,seval]<;>first|exact j1|exact j2
   ·exact i1
 obtain⟨_,⟨i,l,e,rfl,h1⟩,h3⟩:=key;exact⟨i,l,e,aB h3,h1⟩
end
section
variable {f:aa} {o:jz} {l:List Node} {names:List Bytes} {Q:ag×aC->Prop}
abbrev pkC(n:Node):List ag:=[.int .i64 n.ar,.int .i64 n.kind,.int .i64 n.eG,df n.data,ja n.bc,.int .i64 n.up]
abbrev J6(f:aa)(o:jz)(l:List Node)(n:Node):aC:=[.cells (cg f),.cells (eW o),.cells rh,.cells [ba l,.int .i64 0,.int .i64 0],.cells (pkC n)]
def aa7{n:Node}(hn:n.bc.length<=64){i:Nat}{w:Bytes}(hw':names[i]?=some w){k:List K}
  (hx:∀(x:Int) z,∃r,Q r/\kr (aq bX) [.dQ 4 7] 0 k ⟨.exit 2,(4,cC 2)::(8,dr names)::(9,cC 3)::(10,cC 4)::(12,aD i)::(13,aD x)::z,J6 f o l n⟩=some r) :
  ∃r,Q r/\eS (aq bX) [.dQ 4 7] 0 k (.loop [4,8,9,10,12,13,14] ahu) [(4,cC 2),(8,dr names),(9,cC 3),(10,cC 4),(12,aD i),(13,aD 0),(14,aD 0)] (J6 f o l n)=some r:=by
 have b1:((i:Int)<0)=False:=dw;refine jc (xs:=n.bc) aH (fun _ _=>True) (fun(x:Int) j=>[(4,cC 2),(8,dr names),(9,cC 3),(10,cC 4),(12,aD i),(13,aD x),(14,aD j)]) (fun _=>J6 f o l n) Q (fun x _=>?_) (fun pre e post x h hx' cQ hw h0 hm _ hi=>?_) 0 trivial
 ·simp only[J6,pkC,cg,eW,rh] at hx ⊢;simp only[KN,bq,EW,seval];exact hx x _
 ·have i1:=hi x trivial;have i2:=hi e.ar trivial;simp only[J6,pkC,cg,eW,rh] at i1 i2 ⊢;cases h1:e.name==w<;>simp only[KN,cQ,hx',hw,h0,hw',b1,h1,iG,gj,EW,seval]<;>first|exact i1|exact i2
def aa8(hl:l.length<=100000)(he:∀n,n∈l->Fv n)(hn:names.length<=12){k:List K}
  (hx:∀(n:Node) z,Fv n->∃r,Q r/\kr (aq bX) [.dQ 4 7] 0 k ⟨.exit 0,(4,cC 2)::(8,dr names)::(9,cC 3)::(10,cC 4)::z,J6 f o l n⟩=some r)
  (hr:∀(a:Int) M,∃r,Q r/\kr (aq bX) [.dQ 4 7] 0 k ⟨.ret,[(4,cC 2)],cF (cg f) :: cF (eW o) :: cF (cN (hV a))::M⟩=some r) {n:Node} (hno:Fv n) :
  ∃r,Q r/\eS (aq bX) [.dQ 4 7] 0 k (.loop [4,8,9,10,12] ahv) [(4,cC 2),(8,dr names),(9,cC 3),(10,cC 4),(12,aD 0)] (J6 f o l n)=some r:=by
 have q4:=k42;simp only[cN,hV] at q4 hr;refine jc (xs:=names) aH (fun _ (n:Node)=>Fv n) (fun _ i=>[(4,cC 2),(8,dr names),(9,cC 3),(10,cC 4),(12,aD i)]) (fun n=>J6 f o l n) Q (fun n hno=>?_) (fun pre w post n h hx' cQ hw h0 hm hno hi=>?_) n hno
 ·simp only[J6,pkC,cg,eW,rh] at hx ⊢;simp only[KN,bq,EW,seval];exact hx n _ hno
 ·have la:=fun {k} hx=>aa7 (f:=f) (o:=o) (l:=l) (Q:=Q) hno.1 hx' (k:=k) hx
  simp only[J6,pkC,cg,eW,rh] at la hi hr ⊢;cases h1:n.kind != 2
  ·simp only[KN,cQ,h1,EW,seval];refine la (fun x z=>?_)
   have qg:=fun M=>Bp l 0 0 x hl M
   cases hf:find l x with
   |none =>
    rw[hf] at qg;simp only[iK,cU,bL,aL,Node.zero,aV] at qg;simp only[KN,qg,q4,EW,seval];exact hr 70 _
   |some m =>
    rw[hf] at qg;simp only[bC,bQ,bL,aL] at qg;have i1:=hi m (he m (iz hf));simp only[KN,qg,hw,EW,seval];exact i1
  ·simp only[KN,cQ,h1,q4,EW,seval];exact hr 73 _
def aa9{n:Node}(hn:n.bc.length<=64){k:List K}
  (hx:∀(S:List Bytes) z,∃r,Q r/\kr (aq bX) [.dQ 4 7] 0 k ⟨.exit 4,(4,cC 2)::(10,cC 4)::(17,.slice (.own 5) (S.map ag.str))::z,J6 f o l n++[.tick 1 S.length]⟩=some r) :
  ∃r,Q r/\eS (aq bX) [.dQ 4 7] 0 k (.loop [4,10,17,18] ahw) [(4,cC 2),(10,cC 4),(17,.slice (.own 5) []),(18,aD 0)] (J6 f o l n++[.tick 1 0])=some r:=by
 refine jc (xs:=n.bc) aH (fun m (S:List Bytes)=>S.length<=m) (fun S i=>[(4,cC 2),(10,cC 4),(17,.slice (.own 5) (S.map ag.str)),(18,aD i)]) (fun S=>J6 f o l n++[.tick 1 S.length]) Q (fun S hS=>?_) (fun pre e post S h hx' cQ hw h0 hm hS hi=>?_) [] (av _)
 ·simp only[J6,pkC,cg,eW,rh,aG,aP] at hx ⊢;simp only[KN,bq,EW,seval];exact hx S _
 ·have hp:=(aj.1 hx').1;have i1:=hi (S++[e.name]) gr;have r1:cB (S.length+1) 16=True:=qV;simp only[J6,pkC,cg,eW,rh,aG,aP,aW,aK,aV,aA,au,az,aI] at i1 ⊢;simp only[KN,cQ,hx',hw,h0,r1,iG,gj,EW,seval];exact i1
end
def c46{K:Nat}(f:aa)(o:jz)(hf:FB K f)(hK:K<=89000)(ho:sm o):∃a,aq bX 46 [.agg (cg f),.agg (eW o)] []=some (.agg (cN a),[]):=by
 have key:∃r:ag×aC,(∃a,r=(.agg (cN a),[]))/\eS (aq bX) LN.results 0 [] LN.body (ef 0 [.agg (cg f),.agg (eW o)]) []=some r:=by
  obtain⟨i,l,e,qa,h1,h2⟩:=c84 f.s o.n hf.ok.rt hf.ok.len hf.ok.eR hf.ok.ED hf.ok.dW;have q1:=cP qa;have q2:=fun M=>k85 o.dK (by have:=ho.dK; omega) M
  obtain⟨_,o2⟩:=yo o.dK;generalize pY o.dK=v at q2 o2;have q4:=k42;simp only[bM,cN,hV] at q1 q4;cases h3:e != 0
  case true =>
   simp only[LN,KN,cg,eW,q1,q4,h3,EW,seval];exact⟨_,⟨hV e,rfl⟩,rfl⟩
  cases h4:v.2 != 0
  case true =>
   simp only[LN,KN,cg,eW,q1,q2,q4,h3,h4,EW,seval];exact⟨_,⟨hV v.2,rfl⟩,rfl⟩
  have qg:=fun M=>Bp l 0 0 i aH M
  have hz:Fv ((find l i).getD Node.zero):=by
   cases hf:find l i with
   |none=>exact⟨by simp[Node.zero],by simp[Node.zero]⟩
   |some m=>exact h2 m (iz hf)
  generalize (find l i).getD Node.zero=n at qg hz;have lb:=fun {k Q} hx hr=>aa8 (f:=f) (o:=o) (l:=l) (names:=v.1) (Q:=Q) aH h2 o2 (k:=k) hx hr hz
  simp only[J6,pkC,cg,eW,rh,bL,aL] at lb qg;simp only[LN,KN,cg,eW,bL,aL,q1,q2,qg,h3,h4,EW,seval];refine lb (fun n z hn=>?_) (fun a M=>?_)
  ·have lc:=fun {k Q} hx=>aa9 (f:=f) (o:=o) (l:=l) (Q:=Q) hn.1 (k:=k) hx
   simp only[J6,pkC,cg,eW,rh,aG,aP] at lc;simp only[KN,EW,seval];refine lc (fun S z=>?_)
   obtain⟨b,qs⟩:=c75 n;have q5:=cP qs;simp only[bL,aL] at q5;simp only[KN,q5,EW,seval];exact⟨_,⟨⟨0,n.ar,n.kind,n.eG,b,S,n.data⟩,rfl⟩,rfl⟩
  ·simp only[KN,cN,EW,seval];exact⟨_,⟨hV a,rfl⟩,rfl⟩
 obtain⟨_,⟨a,rfl⟩,h3⟩:=key;exact⟨a,aB h3⟩
def c28{K:Nat}(f:aa)(o:jz)(hf:FB K f)(hK:K<=89000)(ho:sm o):yD K f 28 [.agg (cg f),.agg (eW o)]:=by
 have q4:=k42;simp only[cN,hV,dr,df,aV] at q4;have back:FB (K+200) f:=hf.mono aH;have bad:aq bX 28 [.agg (cg f),.agg (eW o)] []=some (.tuple [.agg (cg f),.agg (cN (hV 1))],[])->yD K f 28 [.agg (cg f),.agg (eW o)]:=fun h=>⟨f,hV 1,h,back,Ed⟩
 cases c1:decide (o.bF<0)
 case true =>
  refine bad (aB ?_);simp only[uK,Fb,cg,eW,cN,hV,dr,df,c1,q4,EW,seval]
 cases c2:decide (16<=o.bF)
 case true =>
  refine bad (aB ?_);simp only[uK,Fb,cg,eW,cN,hV,dr,df,c1,c2,q4,EW,seval]
 obtain⟨g1,a1,r1,f1⟩:=c43 f o hf hK ho;obtain⟨g2,a2,r2,f2⟩:=c44 f o hf hK ho;obtain⟨g3,a3,r3,f3⟩:=c45 f o hf hK ho;have q1:=cP r1;have q2:=cP r2;have q3:=cP r3;simp only[cg,eW,cN] at q1 q2 q3;have byN:aq bX 28 [.agg (cg f),.agg (eW o)] []=some (.tuple [.agg (cg g1),.agg (cN a1)],[])->yD K f 28 [.agg (cg f),.agg (eW o)]:=fun h=>⟨g1,a1,h,f1⟩
 have byW:aq bX 28 [.agg (cg f),.agg (eW o)] []=some (.tuple [.agg (cg g2),.agg (cN a2)],[])->yD K f 28 [.agg (cg f),.agg (eW o)]:=fun h=>⟨g2,a2,h,f2⟩
 have byH:aq bX 28 [.agg (cg f),.agg (eW o)] []=some (.tuple [.agg (cg g3),.agg (cN a3)],[])->yD K f 28 [.agg (cg f),.agg (eW o)]:=fun h=>⟨g3,a3,h,f3⟩
 cases k2:o.kind==2
 case true =>
  refine byN (aB ?_);simp only[uK,Fb,cg,eW,cN,hV,dr,df,c1,c2,k2,q1,EW,seval]
 cases k3:o.kind==3
 case true =>
  refine byN (aB ?_);simp only[uK,Fb,cg,eW,cN,hV,dr,df,c1,c2,k2,k3,q1,EW,seval]
 cases k4:o.kind==4
 case true =>
  refine byN (aB ?_);simp only[uK,Fb,cg,eW,cN,hV,dr,df,c1,c2,k2,k3,k4,q1,EW,seval]
 cases k5:o.kind==5
 case true =>
  refine byN (aB ?_);simp only[uK,Fb,cg,eW,cN,hV,dr,df,c1,c2,k2,k3,k4,k5,q1,EW,seval]
 cases k1:o.kind==1
 case true =>
  refine byW (aB ?_);simp only[uK,Fb,cg,eW,cN,hV,dr,df,c1,c2,k2,k3,k4,k5,k1,q2,EW,seval]
 cases k6:o.kind==6
 case true =>
  refine byW (aB ?_);simp only[uK,Fb,cg,eW,cN,hV,dr,df,c1,c2,k2,k3,k4,k5,k1,k6,q2,EW,seval]
 cases k7:o.kind==7
 case true =>
  refine byW (aB ?_);simp only[uK,Fb,cg,eW,cN,hV,dr,df,c1,c2,k2,k3,k4,k5,k1,k6,k7,q2,EW,seval]
 cases k8:o.kind==8
 case true =>
  refine byW (aB ?_);simp only[uK,Fb,cg,eW,cN,hV,dr,df,c1,c2,k2,k3,k4,k5,k1,k6,k7,k8,q2,EW,seval]
 cases k13:o.kind==13
 case true =>
  refine byW (aB ?_);simp only[uK,Fb,cg,eW,cN,hV,dr,df,c1,c2,k2,k3,k4,k5,k1,k6,k7,k8,k13,q2,EW,seval]
 cases k14:o.kind==14
 case true =>
  refine byW (aB ?_);simp only[uK,Fb,cg,eW,cN,hV,dr,df,c1,c2,k2,k3,k4,k5,k1,k6,k7,k8,k13,k14,q2,EW,seval]
 cases k9:o.kind==9
 case true =>
  refine byH (aB ?_);simp only[uK,Fb,cg,eW,cN,hV,dr,df,c1,c2,k2,k3,k4,k5,k1,k6,k7,k8,k13,k14,k9,q3,EW,seval]
 cases k10:o.kind==10
 case true =>
  refine byH (aB ?_);simp only[uK,Fb,cg,eW,cN,hV,dr,df,c1,c2,k2,k3,k4,k5,k1,k6,k7,k8,k13,k14,k9,k10,q3,EW,seval]
 cases k11:o.kind==11
 case true =>
  refine byH (aB ?_);simp only[uK,Fb,cg,eW,cN,hV,dr,df,c1,c2,k2,k3,k4,k5,k1,k6,k7,k8,k13,k14,k9,k10,k11,q3,EW,seval]
 cases k12:o.kind==12
 case true =>
  refine byH (aB ?_);simp only[uK,Fb,cg,eW,cN,hV,dr,df,c1,c2,k2,k3,k4,k5,k1,k6,k7,k8,k13,k14,k9,k10,k11,k12,q3,EW,seval]
 cases Tw:o.kind==15
 case true =>
  obtain⟨a,r5⟩:=c46 f o hf hK ho;have q5:=cP r5;simp only[cg,eW,cN] at q5;refine⟨f,a,aB ?_,back,Ed⟩;simp only[uK,Fb,cg,eW,cN,hV,dr,df,c1,c2,k2,k3,k4,k5,k1,k6,k7,k8,k13,k14,k9,k10,k11,k12,Tw,q5,EW,seval]
 cases k16:o.kind==16
 case true =>
  obtain⟨e,r5⟩:=c47 f.s o.n hf.ok.dW hf.ok.eR;have q5:=cP r5;simp only[bM] at q5;cases h1:e != 0
  ·obtain⟨t1,t2⟩:=hf.aes (u:=(ru f.s o.n).1) (by unfold ru; split<;>rfl) (by unfold ru; split<;>rfl) (fun p hp=>by
    unfold ru at hp;split at hp
    ·exact hp
    ·exact(dP.1 hp).1) (by unfold ru; split<;>first|exact av _|exact bU _ _) (by
    have:=hf.ok.dW;unfold ru; split<;>first|exact this|exact aY (bU _ _) this)
   refine⟨⟨(ru f.s o.n).1,f.holds,f.dX⟩,hV 0,aB ?_,t1,t2,.inr (.inr (.inr ⟨_,trivial,rfl⟩))⟩;simp only[uK,Fb,cg,eW,cN,hV,dr,df,c1,c2,k2,k3,k4,k5,k1,k6,k7,k8,k13,k14,k9,k10,k11,k12,Tw,k16,q5,h1,EW,seval]
  ·refine⟨f,hV e,aB ?_,back,Ed⟩;simp only[uK,Fb,cg,eW,cN,hV,dr,df,c1,c2,k2,k3,k4,k5,k1,k6,k7,k8,k13,k14,k9,k10,k11,k12,Tw,k16,q4,q5,h1,EW,seval]
 cases k17:o.kind==17
 case true =>
  obtain⟨u,l,r5,g⟩:=c48 f.s.now f.holds o.bF hf.ok.rt hf.ok.holds hf.ok.dN;have r6:=c49 f.s u hf.ok.rt g.rt hf.ok.len hf.ok.dW hf.ok.eR;have q5:=cP r5;have q6:=cP r6;simp only[br,aM,bM] at q5 q6;refine⟨⟨qz f.s u,l,f.dX⟩,hV 0,aB ?_,hf.put hK g.rt g.ml g.len hf.ok.dX hf.ok.sN,fun h=>HJ g.mem (g.orp h.orp) (fun q hq=>g.dir _ (h.quo q hq)) (g.one _ h.one) (fun q hq=>by rw[g.use]; exact h.over q hq) h,.inr (.inl ⟨u,g.rt,rfl⟩)⟩
  simp only[uK,Fb,cg,eW,cN,hV,dr,df,c1,c2,k2,k3,k4,k5,k1,k6,k7,k8,k13,k14,k9,k10,k11,k12,Tw,k16,k17,q5,q6,EW,seval]
 refine bad (aB ?_);simp only[uK,Fb,cg,eW,cN,hV,dr,df,c1,c2,k2,k3,k4,k5,k1,k6,k7,k8,k13,k14,k9,k10,k11,k12,Tw,k16,k17,q4,EW,seval]
def k28{K:Nat}(f:aa)(o:jz)(hf:FB K f)(hK:K<=89000)(ho:sm o):∃g a,(∀M,aR (aq bX) 28 [.agg (cg f),.agg (eW o)] M=some (.tuple [.agg (cg g),.agg (cN a)],M))/\FB (K+200) g/\Kp f g:=by
 obtain⟨g,a,h,hg⟩:=c28 f o hf hK ho;exact⟨g,a,fun M=>cO h M,hg⟩
def amV(a b:Int):(a != b) = !decide (a=b):=by rw[cr]; simp
def c57(a b:List Int)(ha:a.length<=100000):aq bX 57 [uU a,uU b] []=some (.bool (decide (a=b)),[]) :=
 DS (sz:=1) (e:=mS) (ld := .rE) (ne := .bin .neq) ft rfl ha (fun _=>rfl) (fun _=>rfl) (fun _=>rfl) (fun _ _ _ _ h=>by simp only[eo,fY.ev,h,mS,ag.cells,nth,bN]) (fun _ _ _ _ _ _ h h'=>by simp only[eo,fY.ev,h,h',mS,p7,amV,ne_eq,nc,aE,bN])
def k57 a b ha:=cP (c57 a b ha)
def afL(x y:mR):kZ [.i,.i,.i] (iC x) (iC y)=some (decide (x=y)):=by
 cases x; cases y;simp only[iC,Zm,ga];rw[cr];simp
def c59(a b:List mR)(ha:a.length<=100000):aq bX 59 [kB a,kB b] []=some (.bool (decide (a=b)),[]) :=
 DS (sz:=3) (e:=kU) (ld := .mM 3) (ne := .Q6 [.i,.i,.i] true) ft rfl ha (fun _=>rfl) (fun _=>rfl) (fun _=>rfl) (fun _ _ _ _ h=>by simp only[eo,fY.ev,h]; rfl) (fun _ _ _ _ _ _ h h'=>by simp only[eo,fY.ev,h,h',kU,afL,bN])
def k59 a b ha:=cP (c59 a b ha)
def afK(x y:fD):kZ [.i,.i,.i] (jb x) (jb y)=some (decide (x=y)):=by
 cases x; cases y;simp only[jb,Zm,ga];rw[cr];simp
def c60(a b:List fD)(ha:a.length<=100000):aq bX 60 [fN a,fN b] []=some (.bool (decide (a=b)),[]) :=
 DS (sz:=3) (e:=ib) (ld := .mM 3) (ne := .Q6 [.i,.i,.i] true) ft rfl ha (fun _=>rfl) (fun _=>rfl) (fun _=>rfl) (fun _ _ _ _ h=>by simp only[eo,fY.ev,h]; rfl) (fun _ _ _ _ _ _ h h'=>by simp only[eo,fY.ev,h,h',ib,afK,bN])
def k60 a b ha:=cP (c60 a b ha)
def Zn(x y:dV):kZ [.i,.i,.i] (iW x) (iW y)=some (decide (x=y)):=by
 cases x; cases y;simp only[iW,Zm,ga];rw[cr];simp
def c61(a b:List dV)(ha:a.length<=100000):aq bX 61 [cY a,cY b] []=some (.bool (decide (a=b)),[]) :=
 DS (sz:=3) (e:=gF) (ld := .mM 3) (ne := .Q6 [.i,.i,.i] true) ft rfl ha (fun _=>rfl) (fun _=>rfl) (fun _=>rfl) (fun _ _ _ _ h=>by simp only[eo,fY.ev,h]; rfl) (fun _ _ _ _ _ _ h h'=>by simp only[eo,fY.ev,h,h',gF,Zn,bN])
def k61 a b ha:=cP (c61 a b ha)
def aon(x y:py):decide (x=y)=(x.ku==y.ku&&(x.BR==y.BR&&decide (x.node=y.node))):=by
 cases x; cases y;simp only[py.mk.injEq];rw[cr];simp
def at4(a b:Node)(ha:Fv a)(M:aC):aR (aq bX) 56 [.agg [gv [.agg (aL a)],aD 0,aD 0],.agg [gv [.agg (aL b)],aD 0,aD 0]] M=some (.bool (decide (a=b)),M):=by
 have h:=c56 ⟨[a],0,0⟩ ⟨[b],0,0⟩ ⟨dw,fun n hn=>by rw[bT.1 hn]; have:=ha.1; omega,fun n hn=>by rw[bT.1 hn]; have:=ha.2; omega⟩
 have hd:decide ((⟨[a],0,0⟩:Tree)=⟨[b],0,0⟩)=decide (a=b):=by rw[cr]; simp
 rw[hd] at h;exact cO h M
def c55(x y:py)(hx:Fv x.node):aq bX 55 [.agg (mJ x),.agg (mJ y)] []=some (.bool (decide (x=y)),[]):=by
 rw[aon];refine aB ?_;have q:=fun M=>at4 x.node y.node hx M
 simp only[aL] at q;simp only[ams,E55,ma,mJ,aL,EW,seval]
 repeat' ((first|apply bB|apply bW|apply dM)<;>intro hb<;>simp only[hb,EW,E55,q,seval])
 all_goals simp_all only[qC,↓reduceIte,reduceCtorEq,aw]
def k55 x y hx:=cP (c55 x y hx)
def c58(a b:List py)(ha:a.length<=100000)(he:∀n,n∈a->Fv n.node):aq bX 58 [sX a,sX b,.func 55 []] []=some (.bool (decide (a=b)),[]) :=
 aee (sz:=8) (e:=mJ) (z:=[aD 0,aD 0,aD 0,aD 0,aD 0,.slice .c0 [],.slice .c0 [],aD 0]) ft rfl ha (fun _=>rfl) rfl (fun _=>rfl) (fun _=>rfl) fun x y M h=>k55 x y (he x h) M
def k58 a b ha he:=cP (c58 a b ha he)
def fsB(x y:aa):decide (x=y)=(decide (x.s.now=y.s.now)&&(x.s.tick==y.s.tick&&(x.s.next==y.s.next&&(decide (x.s.since=y.s.since)&&(decide (x.s.eR=y.s.eR)&&(decide (x.s.dW=y.s.dW)&&(decide (x.holds=y.holds)&&decide (x.dX=y.dX)))))))):=by
 obtain⟨⟨a,b,c,d,e,f⟩,g,h⟩:=x;obtain⟨⟨a',b',c',d',e',f'⟩,g',h'⟩:=y;simp only[aa.mk.injEq,iQ.mk.injEq];rw[cr];simp only[bh,bz,eH];constructor
 ·rintro⟨⟨h1,h2,h3,h4,h5,h6⟩,h7,h8⟩; exact⟨h1,h2,h6,h3,h4,h5,h7,h8⟩
 ·rintro⟨h1,h2,h6,h3,h4,h5,h7,h8⟩; exact⟨⟨h1,h2,h3,h4,h5,h6⟩,h7,h8⟩
def c34(x y:aa)(hx:vr x):aq bX 34 [.agg (cg x),.agg (cg y)] []=some (.bool (decide (x=y)),[]):=by
 rw[fsB];refine aB ?_;have hn:=hx.rt.sz.ae;have q1:=fun M=>k56 x.s.now y.s.now hx.rt.small M
 have q2:=fun M=>k57 x.s.since y.s.since (by have:=hx.len; omega) M
 have q3:=fun M=>k58 x.s.eR y.s.eR (by have:=hx.eR; omega) (fun n hn=>hx.ED n hn) M
 have q4:=fun M=>k59 x.s.dW y.s.dW (by have:=hx.dW; omega) M
 have q5:=fun M=>k60 x.holds y.holds (by have:=hx.dN; omega) M
 have q6:=fun M=>k61 x.dX y.dX (by have:=hx.sN; omega) M
 simp only[amj,E34,cg,q1,q2,q3,q4,q5,q6,EW,seval]
 repeat' ((first|apply bB|apply bW|apply dM)<;>intro hb<;>simp only[hb,EW,E34,q2,q3,q4,q5,q6,seval])
 all_goals simp_all only[qC,↓reduceIte,reduceCtorEq,aw]
def c40(t:Tree)(ht:t.ae.length<=100000):aq bX 40 [br t] []=some (.agg (bM ⟨t,0,List.replicate t.ae.length 0,[],[],1⟩),[]):=by
 refine aB ?_;have r1:cB t.ae.length 8=True:=qV;have hrep:List.replicate t.ae.length (ag.agg [aD 0]).norm=(List.replicate t.ae.length (0:Int)).map mS:=by rw[gX]; rfl
 simp only[amn,E40,br,aM,r1,hrep,EW,seval];rfl
def c27:aq bX 27 [] []=some (.agg (cg f0),[]):=by
 have q1:=k41;have q2:∀M,aR (aq bX) 40 [.agg (aM wR)] M=some (.agg (bM f0.s),M):=fun M=>cO (c40 wR mw) M
 simp only[br,aM,bM] at q1 q2;refine aB ?_;simp only[amd,E27,q1,q2,EW,seval];rfl
inductive Chn:Nat->aa->Prop
 |new:Chn 0 f0
 |step {K:Nat} {f g:aa}:Chn K f->FB K f->Stp (fun _=>True) f.s g.s->Chn (K+200) g
def c13(xs:List jz)(hn:xs.length<=50)(ho:∀o,o∈xs->sm o):∃f,aq bX 13 [I0 xs] []=some (.agg (cg f),[])/\FB 10000 f/\OS f/\∃K,K<=10000/\Chn K f:=by
 have key:∃r:ag×aC,(∃f,r=(.agg (cg f),[])/\FB 10000 f/\OS f/\∃K,K<=10000/\Chn K f)/\eS (aq bX) Zz.results 0 [] Zz.body (ef 0 [I0 xs]) []=some r:=by
  have q1:=cP c27;simp only[cg] at q1;simp only[Zz,E13,q1,EVO,EW,seval]
  refine jc (xs:=xs) aH (fun m (f:aa)=>FB (200*m) f/\OS f/\Chn (200*m) f) (fun _ i=>[(0,I0 xs),(2,cC 0),(3,cC 1),(4,aD i)]) (fun f=>[.cells sQ,cF (cg f)]) _ (fun f hf=>?_) (fun pre o post f e hx cQ hw h0 hm hf hi=>?_) f0 ⟨fb0,⟨fun y hy=>(by cases hy),fun n hn ho=>(by revert n; decide),fun y hy=>(by cases hy),fun d1 e1 d2 e2 x h1 h2=>(by
   have key:∀d,d∈f0.s.now.ae->d.bc=[]:=mw;rw[key d1 h1] at h2; cases h2),fun y hy=>(by cases hy),fun y hy=>(by cases hy)⟩,.new⟩
  ·simp only[cg,sQ];simp only[E13,bq,EVO,EW,seval];exact⟨_,⟨f,rfl,hf.1.mono aH,hf.2.1,_,aH,hf.2.2⟩,rfl⟩
  ·have hp:=(aj.1 hx).1;obtain⟨g,a,q2,hg,hh⟩:=k28 f o hf.1 aH (ho o hm);have i1:=hi g ⟨by rw[Nat.mul_add]; exact hg,hh.1 hf.2.1,by rw[Nat.mul_add]; exact .step hf.2.2 hf.1 hh.2⟩
   simp only[cg,eW,cN,sQ] at q2 i1 ⊢;simp only[E13,cQ,hx,hw,h0,q2,eW,EVO,EW,seval];exact i1
 obtain⟨_,⟨f,rfl,h1⟩,h3⟩:=key;exact⟨f,aB h3,h1⟩
end
end Go.Proofs.YteoamaffclmdbaaGreatDoor
namespace Hs
section
open Go
variable {S O A:Type} (step:S->O->S×A)
structure Call(O A:Type) where
 b:Nat
 e:Option Nat
 op:O
 lQ:A
def Yi(cs:List (Call O A))(done:List Nat)(i:Nat):Prop :=
 i∉done/\∀k c d,cs[k]?=some c->cs[i]?=some d->(∃e,c.e=some e/\e<d.b)->k∈done
inductive pP(cs:List (Call O A)):S->List Nat->List Nat->Prop
 |nil {s done}:(∀k c,cs[k]?=some c->c.e≠none->k∈done)->pP cs s done []
 |cons {s done i c ord}:cs[i]?=some c->Yi cs done i->(c.e≠none->(step s c.op).2=c.lQ)->pP cs (step s c.op).1 (done++[i]) ord->pP cs s done (i::ord)
def Fits(cs:List (Call O A))(s:S):Prop:=∃ord,pP step cs s [] ord
theorem pP.more{cs:List (Call O A)}{c:Call O A}(hc:c.e=none):∀ {s done ord},pP step cs s done ord->pP step (cs++[c]) s done ord:=by
 have tV:∀(k:Nat)(x:Call O A),(cs++[c])[k]?=some x->x.e≠none->cs[k]?=some x:=by
  grind
 intro s done ord h;induction h with
 |nil h1=>exact .nil fun k x hx he=>h1 k x (tV k x hx he) he
 | @cons s done i d ord h1 h2 h3 _ ih =>
  have hi  := (aj.1 h1).1;have h1':(cs++[c])[i]?=some d:=by rw[aO hi]; omega
  refine .cons h1' ⟨h2.1,fun k x y hx hy he=>?_⟩ h3 ih
  obtain⟨e,e1,e2⟩:=he;rw[h1'] at hy; cases hy;exact h2.2 k x d (tV k x hx (by rw[e1]; simp)) h1 ⟨e,e1,e2⟩
theorem pP.wider{cs ds:List (Call O A)}(hl:cs.length=ds.length)(hs:∀(k:Nat)(c d:Call O A),cs[k]?=some c->ds[k]?=some d->d.op=c.op/\(c.e≠none->d.lQ=c.lQ)/\(d.e=none↔c.e=none))
  (hw:∀(i k:Nat)(ci di:Call O A)(ck dk:Call O A),cs[i]?=some ci->ds[i]?=some di->cs[k]?=some ck->ds[k]?=some dk->(∃e,dk.e=some e/\e<di.b)->∃e,ck.e=some e/\e<ci.b) :
  ∀ {s done ord},pP step cs s done ord->pP step ds s done ord:=by
 have bk:∀(k:Nat)(d:Call O A),ds[k]?=some d->∃c,cs[k]?=some c:=fun k d h=>by
  have:=(aj.1 h).1;exact⟨_,ai aH⟩
 intro s done ord h;induction h with
 |nil h1 =>
  refine .nil fun k d hd he=>?_
  grind
 | @cons s done i c ord h1 h2 h3 _ ih =>
  obtain⟨d,hd⟩:∃d,ds[i]?=some d:=⟨_,ai (by have:=(aj.1 h1).1; omega)⟩
  obtain⟨s1,s2,s3⟩:=hs i c d h1 hd;rw[<-s1] at ih h3;refine .cons hd ⟨h2.1,fun k x y hx hy he=>?_⟩ (fun he=>by have hc:=fun h=>he (s3.2 h); rw[s2 hc]; exact h3 hc) ih
  rw[hd] at hy; cases hy;obtain⟨ck,hck⟩:=bk k x hx;exact h2.2 k _ c hck h1 (hw i k c d ck x h1 hd hck hx he)
end
section
open Go
variable {S O A:Type} (step:S->O->S×A)
inductive vu(cs:List (Call O A)):S->List Nat->List Nat->S->Prop
 |nil {s done}:vu cs s done [] s
 |cons {s s' done i c ord}:cs[i]?=some c->Yi cs done i->(step s c.op).2=c.lQ->vu cs (step s c.op).1 (done++[i]) ord s'->vu cs s done (i::ord) s'
variable {step}
def vu.snoc{cs:List (Call O A)}:∀ {s done ord s'},vu step cs s done ord s'->∀ {i:Nat} {c:Call O A},cs[i]?=some c->Yi cs (done++ord) i->(step s' c.op).2=c.lQ->vu step cs s done (ord++[i]) (step s' c.op).1:=by
 intro s done ord s' h;induction h with
 |nil=>intro i c h1 h2 h3; rw[dz] at h2; exact .cons h1 h2 h3 .nil
 |cons a1 a2 a3 _ ih =>
  intro i c h1 h2 h3;exact .cons a1 a2 a3 (ih h1 (by rwa[cm]) h3)
def vu.to{cs ds:List (Call O A)}:∀ {s done ord s'},vu step cs s done ord s' ->
  (∀i,i∈ord->∀c,cs[i]?=some c->∃d,ds[i]?=some d/\d.op=c.op/\d.lQ=c.lQ/\∀(k:Nat)(dk:Call O A),ds[k]?=some dk->(∃e,dk.e=some e/\e<d.b)->∃ck,cs[k]?=some ck/\∃e,ck.e=some e/\e<c.b) ->
  vu step ds s done ord s':=by
 intro s done ord s' h;induction h with
 |nil=>exact fun _ => .nil
 | @cons s s' done i c ord a1 a2 a3 _ ih =>
  intro hx;obtain⟨d,d1,d2,d3,d4⟩:=hx i bD c a1;have ih:=ih fun j hj=>hx j (bu _ hj)
  rw[<-d2] at ih a3;refine .cons d1 ⟨a2.1,fun k x y hkx hky he=>?_⟩ (by rw[d3]; omega) ih
  rw[d1] at hky; cases hky;obtain⟨ck,c1,c2⟩:=d4 k x hkx he;exact a2.2 k _ c c1 a1 c2
def vu.runs{cs:List (Call O A)}:∀ {s done ord s'},vu step cs s done ord s'->(∀k c,cs[k]?=some c->c.e≠none->k∈done++ord)->pP step cs s done ord:=by
 intro s done ord s' h;induction h with
 |nil=>exact fun hx => .nil fun k c hk he=>jO
 |cons a1 a2 a3 _ ih=>exact fun hx => .cons a1 a2 (fun _=>a3) (ih fun k c hk he=>jO)
structure yV(step:S->O->S×A)(s0:S)(cs:List (Call O A))(ord:List Nat)(s:S)(n:Nat):Prop where
 chain:vu step cs s0 [] ord s
 ml:cs.Pairwise fun a b=>a.b<b.b
 bn:∀c,c∈cs->c.b<n
 en:∀c,c∈cs->∀e,c.e=some e->e<n
 dn:∀(k:Nat)(c:Call O A),cs[k]?=some c->c.e≠none->k∈ord
 lt:∀k,k∈ord->k<cs.length
def yV.new(s0:S):yV step s0 [] [] s0 0:=⟨.nil,.nil,dw,dw,dw,dw⟩
def yV.fits{s0 s:S}{cs:List (Call O A)}{ord:List Nat}{n:Nat}(h:yV step s0 cs ord s n):Fits step cs s0:=⟨ord,h.chain.runs fun k c hk he=>by simpa using h.dn k c hk he⟩
theorem yV.begin{s0 s:S}{cs:List (Call O A)}{ord:List Nat}{n:Nat}(h:yV step s0 cs ord s n)(o:O)(a:A):yV step s0 (cs++[⟨n,none,o,a⟩]) ord s (n+1):=by
 have tV:∀(k:Nat)(x:Call O A),(cs++[⟨n,none,o,a⟩])[k]?=some x->cs[k]?=some x\/x.e=none:=fun k x hx=>by
  grind
 refine⟨h.chain.to fun i hi c hc=>⟨c,?_,rfl,rfl,fun k dk hk he=>?_⟩,?_,?_,?_,?_,?_⟩
 ·rw[aO (h.lt i hi)]; omega
 ·grind
 ·refine fx.2 ⟨h.ml,List.pairwise_singleton _ _,fun x hx y hy=>?_⟩
  rw[bT.1 hy]; exact h.bn x hx
 ·intro c hc;rcases bo.1 hc with hc|hc
  ·have:=h.bn c hc; omega
  grind
 ·intro c hc e he;rcases bo.1 hc with hc|hc
  ·have:=h.en c hc e he; omega
  grind
 ·intro k c hk he;rcases tV k c hk with h1|h1
  ·exact h.dn k c h1 he
  grind
 ·intro k hk; have:=h.lt k hk; grind
theorem yV.afH{s0 s:S}{cs:List (Call O A)}{ord:List Nat}{n:Nat}(h:yV step s0 cs ord s n){i:Nat}{c:Call O A}(hi:cs[i]?=some c)(hno:i∉ord)(he:c.e=none) :
  yV step s0 (cs.set i { c with lQ:=(step s c.op).2 }) (ord++[i]) (step s c.op).1 n:=by
 have hil:i<cs.length:=(aj.1 hi).1
 have hat:∀(k:Nat)(x:Call O A),(cs.set i { c with lQ:=(step s c.op).2 })[k]?=some x->∃y,cs[k]?=some y/\x.b=y.b/\x.e=y.e:=fun k x hx=>by
  rw[fK] at hx
  grind
 have hmem:∀x,x∈cs.set i { c with lQ:=(step s c.op).2 }->∃y,y∈cs/\x.b=y.b/\x.e=y.e:=fun x hx=>by
  grind
 have hd:(cs.set i { c with lQ:=(step s c.op).2 })[i]?=some { c with lQ:=(step s c.op).2 }:=by rw[fa hil]
 have h1:vu step (cs.set i { c with lQ:=(step s c.op).2 }) s0 [] ord s:=h.chain.to fun j hj x hx=>by
  have hji:i≠j:=fun e=>hno (e▸hj)
  refine⟨x,by rw[fc hji]; exact hx,rfl,rfl,fun k dk hk he=>?_⟩
  grind
 have h2:=h1.snoc hd ⟨jO,fun k x y hx _ he=>?_⟩ rfl
 ·refine⟨h2,?_,?_,?_,?_,?_⟩
  ·have ha:=h.ml;rw[cn] at ha ⊢
   grind
  ·intro x hx;obtain⟨y,y1,y2,_⟩:=hmem x hx;rw[y2]; exact h.bn y y1
  ·intro x hx e hxe;obtain⟨y,y1,_,y2⟩:=hmem x hx;exact h.en y y1 e (by rw[<-y2]; exact hxe)
  ·intro k x hx hxe;obtain⟨y,y1,_,y2⟩:=hat k x hx;exact fu _ (h.dn k y y1 (by rw[<-y2]; exact hxe))
  ·intro k hk;rw[cA];rcases bo.1 hk with hk|hk
   ·exact h.lt k hk
   grind
 ·obtain⟨e,e1,_⟩:=he;obtain⟨z,z1,_,z2⟩:=hat k x hx;simpa using h.dn k z z1 (by rw[<-z2,e1]; simp)
theorem yV.ends{s0 s:S}{cs:List (Call O A)}{ord:List Nat}{n:Nat}(h:yV step s0 cs ord s n){i:Nat}{c:Call O A}(hi:cs[i]?=some c)(hd:i∈ord) :
  yV step s0 (cs.set i { c with e:=some n }) ord s (n+1):=by
 have hil:i<cs.length:=(aj.1 hi).1
 have hat:∀(k:Nat)(x:Call O A),(cs.set i { c with e:=some n })[k]?=some x->∃y,cs[k]?=some y/\x.b=y.b/\x.op=y.op/\x.lQ=y.lQ/\(x.e=y.e\/(k=i/\x.e=some n)):=fun k x hx=>by
  rw[fK] at hx
  grind
 have hmem:∀x,x∈cs.set i { c with e:=some n }->∃y,y∈cs/\x.b=y.b/\(x.e=y.e\/x.e=some n):=fun x hx=>by
  grind
 refine⟨h.chain.to fun j hj x hx=>?_,?_,?_,?_,?_,?_⟩
 ·obtain⟨d,hd1⟩:∃d,(cs.set i { c with e:=some n })[j]?=some d:=⟨_,ai (by rw[cA]; exact h.lt j hj)⟩
  obtain⟨y,y1,y2,y3,y4,_⟩:=hat j d hd1;rw[hx] at y1; cases y1;refine⟨d,hd1,y3,y4,fun k dk hk he=>?_⟩
  obtain⟨z,z1,_,_,_,z5⟩:=hat k dk hk;obtain⟨e,e1,e2⟩:=he;rcases z5 with z5|⟨_,z5⟩
  ·grind
  ·rw[z5] at e1; injection e1 with e1
   have:=h.bn x (aJ hx);omega
 ·have ha:=h.ml;rw[cn] at ha ⊢
  grind
 ·intro x hx;obtain⟨y,y1,y2,_⟩:=hmem x hx;have:=h.bn y y1;omega
 ·intro x hx e hxe;obtain⟨y,y1,_,y3⟩:=hmem x hx;rcases y3 with y3|y3
  ·have:=h.en y y1 e (by rw[<-y3]; exact hxe); omega
  grind
 ·intro k x hx hxe;obtain⟨y,y1,_,_,_,y3⟩:=hat k x hx;rcases y3 with y3|⟨rfl,_⟩
  ·exact h.dn k y y1 (by rw[<-y3]; exact hxe)
  ·exact hd
 ·intro k hk; rw[cA]; exact h.lt k hk
end
end Hs
namespace Hs
open Go
variable {S O A:Type} {step:S->O->S×A}
def Yi.congr{cs:List (Call O A)}{d1 d2:List Nat}(h:∀k,k∈d1↔k∈d2){i:Nat}(g:Yi cs d1 i):Yi cs d2 i:=⟨fun hi=>g.1 ((h i).2 hi),fun k c d hc hd he=>(h k).1 (g.2 k c d hc hd he)⟩
def pP.congr{cs:List (Call O A)}:∀ {s d1 ord},pP step cs s d1 ord->∀ {d2:List Nat},(∀k,k∈d1↔k∈d2)->pP step cs s d2 ord:=by
 intro s d1 ord g;induction g with
 |nil h1=>intro d2 h; exact .nil fun k c hk he=>(h k).1 (h1 k c hk he)
 |cons h1 h2 h3 _ ih=>intro d2 h; exact .cons h1 (h2.congr h) h3 (ih fun k=>jO)
section
variable [DecidableEq S] [DecidableEq A]
def lN(cs:List (Call O A))(k i:Nat):Bool:=match cs[k]?,cs[i]? with
 |some c,some d=>match c.e with
  |some e=>decide (e<d.b)
  |none=>false
 |_,_=>false
def Ek(cs:List (Call O A))(done:List Nat)(i:Nat):Bool := !done.contains i&&(List.range cs.length).all fun k => !lN cs k i||done.contains k
def KY(step:S->O->S×A)(s:S)(c:Call O A):Bool:=c.e.isNone||decide ((step s c.op).2=c.lQ)
def BV(cs:List (Call O A))(done:List Nat):Bool:=(List.range cs.length).all fun k=>match cs[k]? with
 |some c=>c.e.isNone||done.contains k
 |none=>true
theorem Ad{cs:List (Call O A)}{done:List Nat}{i:Nat}(hi:i<cs.length):Ek cs done i=true↔Yi cs done i:=by
 unfold Ek Yi;simp only[bz,ij,bK,eY,dh];constructor
 ·grind [List.contains_iff_mem,List.getElem?_eq_some_iff,lN]
 ·rintro⟨h1,h2⟩;refine⟨jO,fun k hk=>?_⟩
  cases ha:lN cs k i
  ·exact .inl rfl
  grind [List.contains_iff_mem,List.getElem?_eq_getElem,lN]
theorem E5{cs:List (Call O A)}{done:List Nat}:BV cs done=true↔∀(k:Nat)(c:Call O A),cs[k]?=some c->c.e≠none->k∈done:=by
 unfold BV;simp;constructor
 ·intro h k c hk he;have:=h k (aj.1 hk).1;simp_all
 grind
abbrev uI(S:Type):=List (Nat×S)
def Jq(step:S->O->S×A)(cs:List (Call O A))(T:S->List Nat->uI S->Option (List Nat)×uI S)(s:S)(done:List Nat):List Nat->uI S->Option (List Nat)×uI S
 | [],lost=>(none,lost)
 |i::r,lost=>match cs[i]? with
  |none=>Jq step cs T s done r lost
  |some c=>if Ek cs done i&&KY step s c then
    match T (step s c.op).1 (done++[i]) lost with
    |(some o,l)=>(some (i::o),l)
    |(none,l)=>Jq step cs T s done r l
   else Jq step cs T s done r lost
def wS(step:S->O->S×A)(key:List Nat->Nat)(cs:List (Call O A)):Nat->S->List Nat->uI S->Option (List Nat)×uI S
 |0,_,_,lost=>(none,lost)
 |f+1,s,done,lost =>
  if BV cs done then (some [],lost)
  else if lost.any (fun p=>p.1==key done&&decide (p.2=s))=true then (none,lost)
  else match Jq step cs (wS step key cs f) s done (List.range cs.length) lost with
   |(some o,l)=>(some o,l)
   |(none,l)=>(none,l++[(key done,s)])
def De(step:S->O->S×A)(key:List Nat->Nat)(cs:List (Call O A))(lost:uI S):Prop:=∀p,p∈lost->∀done,key done=p.1->¬ ∃ord,pP step cs p.2 done ord
def ajn(step:S->O->S×A)(key:List Nat->Nat)(cs:List (Call O A))(s:S)(done:List Nat)(r:Option (List Nat)×uI S):Prop :=
 De step key cs r.2/\match r.1 with
  |some ord=>pP step cs s done ord
  |none=>¬ ∃ord,pP step cs s done ord
structure Good(cs:List (Call O A))(done:List Nat):Prop where
 nodup:done.Nodup
 lt:∀k,k∈done->k<cs.length
theorem Good.len{cs:List (Call O A)}{done:List Nat}(h:Good cs done):done.length<=cs.length:=by
 have key:∀(n:Nat)(l:List _),l.Nodup->(∀k,k∈l->k<n)->l.length<=n:=by
  intro n;induction n with
  |zero =>
   intro l _ hl;cases l with
   |nil=>simp
   |cons a r=>exact absurd (hl a bD) (jL _)
  |succ n ih =>
   intro l hd hl
   have:=ih _ (hd.erase n) fun k hk=>by
    grind
   rw[List.length_erase] at this;split at this<;>omega
 exact key _ _ h.nodup h.lt
def It{s:S}{c:Call O A}:KY step s c=true↔(c.e≠none->(step s c.op).2=c.lQ):=by
 unfold KY;cases hc:c.e<;>simp
theorem C0{key:List Nat->Nat}{cs:List (Call O A)}{T:S->List Nat->uI S->Option (List Nat)×uI S}{s:S}{done:List Nat}
  (hT:∀i c lost,cs[i]?=some c->i∉done->De step key cs lost->ajn step key cs (step s c.op).1 (done++[i]) (T (step s c.op).1 (done++[i]) lost)) :
  ∀(is:List Nat)(lost:uI S),De step key cs lost->De step key cs (Jq step cs T s done is lost).2/\match (Jq step cs T s done is lost).1 with
   |some ord=>∃i r,ord=i::r/\i∈is/\pP step cs s done ord
   |none=>∀i c r,i∈is->cs[i]?=some c->Yi cs done i->(c.e≠none->(step s c.op).2=c.lQ)->¬pP step cs (step s c.op).1 (done++[i]) r
 | [],lost,h=>⟨h,by simp[Jq]⟩
 |i::is,lost,h=>by
  rw[Jq];cases hc:cs[i]? with
  |none =>
   obtain⟨g1,g2⟩:=C0 hT is lost h
   grind
  |some c =>
   have hil:i<cs.length:=(aj.1 hc).1;simp only
   by_cases hm:(Ek cs done i&&KY step s c)=true
   ·rw[aZ hm];simp only[bz] at hm;have hm1:=(Ad hil).1 hm.1;have hm2:=It.1 hm.2;obtain⟨t1,t2⟩:=hT i c lost hc hm1.1 h;generalize T (step s c.op).1 (done++[i]) lost=t at t1 t2;obtain⟨o,l⟩:=t;cases o with
    |some o=>exact⟨t1,i,o,rfl,bD,.cons hc hm1 hm2 t2⟩
    |none =>
     simp only at t1 t2 ⊢;obtain⟨g1,g2⟩:=C0 hT is l t1;refine⟨g1,?_⟩;split
     ·grind
     grind
   ·rw[aQ hm];obtain⟨g1,g2⟩:=C0 hT is lost h;refine⟨g1,?_⟩;split
    ·grind
    ·rename_i ho;rw[ho] at g2;intro j d r hj hdj;rcases bH.1 hj with rfl|hj
     ·rw[hc] at hdj; cases hdj;exact fun h1 h2 _=>hm (by rw[(Ad hil).2 h1,It.2 h2]; rfl)
     ·exact g2 j d r hj hdj
theorem Kx{key:List Nat->Nat}(hkey:∀a b,key a=key b->∀k,k∈a↔k∈b){cs:List (Call O A)}:∀(f:Nat)(s:S)(done:List Nat)(lost:uI S),Good cs done->cs.length<done.length+f->De step key cs lost->ajn step key cs s done (wS step key cs f s done lost)
 |0,s,done,lost,hg,hf,_=>by have:=hg.len; omega
 |f+1,s,done,lost,hg,hf,hl=>by
  rw[wS];split
  ·rename_i hw;exact⟨hl,.nil (E5.1 hw)⟩
  rename_i hw;split
  ·rename_i ha;obtain⟨p,p1,p2⟩:=km.1 ha;simp only[bz,eH,bh] at p2;refine⟨hl,?_⟩;have:=hl p p1 done p2.1.symm;rw[p2.2] at this;omega
  have hgo:=C0 (step:=step) (key:=key) (cs:=cs) (T:=wS step key cs f) (s:=s) (done:=done) (fun i c lost' hc hi hl'=>by
   refine Kx hkey f _ _ lost' ⟨?_,fun k hk=>?_⟩ gr hl'
   ·refine lh.2 ⟨hg.nodup,dw,fun a ha b hb=>?_⟩
    rw[bT.1 hb]
    grind
   ·rcases bo.1 hk with hk|hk
    ·exact hg.lt k hk
    grind) (List.range cs.length) lost hl
  obtain⟨g1,g2⟩:=hgo;generalize Jq step cs (wS step key cs f) s done (List.range cs.length) lost=r at g1 g2;obtain⟨o,l⟩:=r;cases o with
  |some o =>
   obtain⟨i,r,e1,e2,e3⟩:=g2;exact⟨g1,e3⟩
  |none =>
   simp only at g1 g2 ⊢
   have hno:¬ ∃ord,pP step cs s done ord:=by
    rintro⟨ord,ho⟩;cases ho<;>grind [E5]
   refine⟨fun p hp d hd=>?_,hno⟩
   rcases bo.1 hp with hp|hp
   ·exact g1 p hp d hd
   ·rw[bT.1 hp] at hd ⊢;rintro⟨ord,ho⟩;exact hno ⟨ord,ho.congr (hkey _ _ hd)⟩
end
end Hs
namespace Hs
open Go
variable {S O A:Type} {step:S->O->S×A}
theorem pP.new{cs:List (Call O A)}:∀ {s done ord},pP step cs s done ord->∀i,i∈ord->i∉done:=by
 intro s done ord h;induction h with
 |nil=>simp
 |cons h1 h2 _ _ ih =>
  intro j hj;rcases bH.1 hj with rfl|hj
  ·exact h2.1
  grind
def pP.nodup{cs:List (Call O A)}:∀ {s done ord},pP step cs s done ord->ord.Nodup:=by
 intro s done ord h;induction h with
 |nil=>simp
 |cons _ _ _ h4 ih=>exact oN.2 ⟨fun hi=>h4.new _ hi dw,ih⟩
theorem pP.lt{cs:List (Call O A)}:∀ {s done ord},pP step cs s done ord->∀i,i∈ord->i<cs.length:=by
 intro s done ord h;induction h<;>grind
theorem pP.back{cs:List (Call O A)}:∀ {s done ord},pP step cs s done ord->∀pre i post,ord=pre++i::post->∀k,k∈pre->∀ci ck,cs[i]?=some ci->cs[k]?=some ck->¬ ∃e,ci.e=some e/\e<ck.b:=by
 intro s done ord h;induction h with
 |nil=>simp
 | @cons s done j c ord h1 h2 h3 h4 ih =>
  intro pre i post e k hk ci ck hi hck he;cases pre with
  |nil=>cases hk
  |cons p pre =>
   simp only[aG] at e;obtain⟨rfl,rfl⟩:=e;rcases bH.1 hk with rfl|hk
   ·have:=h2.2 i ci ck hi hck he;exact h4.new i dw (fu _ this)
   grind
theorem pP.all{cs:List (Call O A)}:∀ {s done ord},pP step cs s done ord->∀(k:Nat)(c:Call O A),cs[k]?=some c->c.e≠none->k∈done\/k∈ord:=by
 intro s done ord h;induction h<;>grind
def Dc(step:S->O->S×A):List (Call O A)->S->Prop
 | [],_=>True
 |c::r,s=>(step s c.op).2=c.lQ/\Dc step r (step s c.op).1
theorem OY{cs:List (Call O A)}(h:∀(i:Nat)(c:Call O A),cs[i]?=some c->c.b=2*i/\c.e=some (2*i+1)):∀(d m:Nat)(s:S)(ord:List Nat),m+d=cs.length->(pP step cs s (List.range m) ord↔ord=List.range' m d/\Dc step (cs.drop m) s):=by
 intro d;induction d with
 |zero =>
  intro m s ord hm;have hd:cs.drop m=[]:=iq aH;rw[hd];constructor
  ·intro hr;cases hr with
   |nil=>exact⟨rfl,trivial⟩
   |cons h1 h2=>exact absurd (eY.2 (by have:=(aj.1 h1).1; omega)) h2.1
  ·rintro⟨rfl,_⟩;exact .nil fun k c hk _=>eY.2 (by have:=(aj.1 hk).1; omega)
 |succ d ih =>
  intro m s ord hm;have hml:m<cs.length:=aH;have hc:=ai hml;have hdrop:cs.drop m=cs[m]::cs.drop (m+1):=cL hml;have hrs:List.range (m+1)=List.range m++[m]:=List.range_succ;have ih':=ih (m+1) (step s cs[m].op).1;rw[hrs] at ih';rw[hdrop,nJ];constructor
  ·intro hr;cases hr with
   |nil h1=>grind
   | @cons _ _ i c r h1 h2 h3 h4 =>
    have hi:i<cs.length:=(aj.1 h1).1
    have hge:m<=i:=by
     rcases bA i m with cQ|hge
     ·exact absurd (eY.2 cQ) h2.1
     simp_all
    have him:i=m:=by
     rcases bA m i with cQ|hle
     ·have:=h2.2 m _ _ hc h1 ⟨2*m+1,(h m _ hc).2,by rw[(h i _ h1).1]; omega⟩
      grind
     omega
    subst him;rw[hc] at h1; cases h1;obtain⟨e1,e2⟩:=(ih' r aH).1 h4;exact⟨by rw[e1],h3 (by rw[(h i _ hc).2]; simp),e2⟩
  ·rintro⟨rfl,a1,a2⟩;refine .cons hc ⟨dw,fun k x y hx hy he=>?_⟩ (fun _=>a1) ((ih' _ aH).2 ⟨rfl,a2⟩)
   grind
def RE{cs:List (Call O A)}:∀(s:S)(k:Nat)(a:A)(c:Call O A),Dc step cs s->cs[k]?=some c->(Dc step (cs.set k { c with lQ:=a }) s↔a=c.lQ):=by
 induction cs with
 |nil=>intro s k a c _ h; simp at h
 |cons x cs ih =>
  intro s k a c hA h;obtain⟨h1,h2⟩:=hA;cases k with
  |zero =>
   simp at h;subst h;simp only[List.set_cons_zero,Dc];exact⟨fun g=>g.1.symm.trans h1,fun g=>⟨h1.trans g.symm,h2⟩⟩
  |succ k =>
   simp only[List.set_cons_succ,Dc];rw[ih _ k a c h2 (by simpa using h)]
   exact⟨And.right,fun g=>⟨h1,g⟩⟩
end Hs
namespace Hs
open Go
variable {S O A:Type} {step:S->O->S×A}
structure Ev(O A:Type) where
 begin:Bool
 cl:Nat
 op:O
 lQ:A
structure Cl(O A:Type) where
 n:Nat
 cs:List (Call O A)
 last:Nat->Nat
def jh(t:Cl O A)(x:Ev O A):Cl O A :=
 if x.begin then ⟨t.n+1,t.cs++[⟨t.n,none,x.op,x.lQ⟩],fun c=>if c=x.cl then t.cs.length else t.last c⟩
 else ⟨t.n+1,t.cs.modify (t.last x.cl) fun c=>{ c with e:=some t.n,lQ:=x.lQ },t.last⟩
def gD(l:List (Ev O A)):Cl O A:=l.foldl jh ⟨0,[],fun _=>0⟩
def jN(l:List (Ev O A))(x:Ev O A):gD (l++[x])=jh (gD l) x:=by simp[gD]
structure Rn(S O A:Type) where
 out:List (Ev O A)
 s:S
 st:Nat->Nat
 op:Nat->O
 lQ:Nat->A
structure Of(cs ds:List (Call O A)):Prop where
 len:ds.length=cs.length
 at':∀(k:Nat)(c d:Call O A),cs[k]?=some c->ds[k]?=some d->d.b=c.b/\d.e=c.e/\d.op=c.op/\(c.e≠none->d.lQ=c.lQ)
structure tZ(step:S->O->S×A)(s0:S)(r:Rn S O A):Prop where
 ex:∃ds ord,yV step s0 ds ord r.s (gD r.out).n/\Of (gD r.out).cs ds /\
  (∀c,r.st c=1->∃d,ds[(gD r.out).last c]?=some d/\d.e=none/\(gD r.out).last c∉ord/\d.op=r.op c) /\
  (∀c,r.st c=2->∃d,ds[(gD r.out).last c]?=some d/\d.e=none/\(gD r.out).last c∈ord/\d.lQ=r.lQ c)
 dis:∀c c',c≠c'->(r.st c=1\/r.st c=2)->(r.st c'=1\/r.st c'=2)->(gD r.out).last c≠(gD r.out).last c'
def tZ.new(s0:S)(op:Nat->O)(lQ:Nat->A):tZ step s0 ⟨[],s0,fun _=>0,op,lQ⟩ :=
 ⟨⟨[],[],yV.new _,⟨rfl,dw⟩,dw,dw⟩,dw⟩
theorem tZ.fits{s0:S}{r:Rn S O A}(h:tZ step s0 r):Fits step (gD r.out).cs s0:=by
 obtain⟨ds,ord,h1,h2,_⟩:=h.ex;obtain⟨o,ho⟩:=h1.fits;refine⟨o,pP.wider _ h2.len (fun k d c hd hc=>?_) (fun i k ci di ck dk hci hdi hck hdk he=>?_) ho⟩
 ·obtain⟨_,g2,g3,g4⟩:=h2.at' k c d hc hd
  grind
 ·obtain⟨g1,_⟩:=h2.at' i _ ci hdi hci;obtain⟨_,k2,_⟩:=h2.at' k _ ck hdk hck;rw[g1,k2]; omega
theorem tZ.begin{s0:S}{r:Rn S O A}(h:tZ step s0 r){c:Nat}(_hc:r.st c=0)(o:O)(a:A):tZ step s0 ⟨r.out++[⟨true,c,o,a⟩],r.s,fun x=>if x=c then 1 else r.st x,fun x=>if x=c then o else r.op x,r.lQ⟩:=by
 obtain⟨ds,ord,h1,h2,h3,h4⟩:=h.ex;have dN:=h2.len;refine⟨⟨ds++[⟨(gD r.out).n,none,o,a⟩],ord,?_,⟨?_,fun k x y hx hy=>?_⟩,fun x hx=>?_,fun x hx=>?_⟩,fun x y hxy hx hy=>?_⟩
 ·simp only[jN,jh,aF]; exact h1.begin o a
 ·simp_all [jN,jh]
 ·simp only[jN,jh,aF] at hx;rcases bA k (gD r.out).cs.length with hk|hk
  ·rw[aO hk] at hx;rw[aO aH] at hy;exact h2.at' k x y hx hy
  grind
 ·simp only[jN,jh,aF] at hx ⊢
  by_cases hxc:x=c
  ·rw[aZ hxc,aZ hxc];refine⟨⟨(gD r.out).n,none,o,a⟩,by rw[<-dN]; simp,rfl,fun hm=>?_,rfl⟩
   have:=h1.lt _ hm; omega
  grind
 ·simp only[jN,jh,aF] at hx ⊢
  grind
 ·simp only[jN,jh,aF] at hx hy ⊢
  have lt:∀z,z≠c->((if z=c then 1 else r.st z)=1\/(if z=c then 1 else r.st z)=2)->(gD r.out).last z<(gD r.out).cs.length:=fun z hz hzz=>by
   rw[aQ hz] at hzz
   grind
  by_cases hxc:x=c
  ·have hyc:y≠c:=fun e=>hxy (hxc.trans e.symm)
   rw[aZ hxc,aQ hyc];have:=lt y hyc hy; omega
  ·by_cases hyc:y=c
   ·rw[aQ hxc,aZ hyc];have:=lt x hxc hx; omega
   ·rw[aQ hxc] at hx;rw[aQ hyc] at hy;rw[aQ hxc,aQ hyc];exact h.dis x y hxy hx hy
theorem tZ.afH{s0:S}{r:Rn S O A}(h:tZ step s0 r){c:Nat}(hc:r.st c=1):tZ step s0 ⟨r.out,(step r.s (r.op c)).1,fun x=>if x=c then 2 else r.st x,r.op,fun x=>if x=c then (step r.s (r.op c)).2 else r.lQ x⟩:=by
 obtain⟨ds,ord,h1,h2,h3,h4⟩:=h.ex;obtain⟨d,d1,d2,d3,d4⟩:=h3 c hc;have g:=h1.afH d1 d3 d2;rw[d4] at g;have hil:=(aj.1 d1).1;have hne  := fun x hx hs=>h.dis c x (eX hx) (.inl hc) hs
 refine⟨⟨_,_,g,⟨by rw[cA]; exact h2.len,fun k x y hx hy=>?_⟩,fun x hx=>?_,fun x hx=>?_⟩,fun x y hxy hx hy=>h.dis x y hxy ?_ ?_⟩
 ·rw[fK] at hy;split at hy
  ·rename_i hk;subst hk;cases hy;obtain⟨e1,e2,e3,e4⟩:=h2.at' _ x d hx d1
   grind
  ·exact h2.at' k x y hx hy
 ·grind
 ·grind
 ·grind
 grind
theorem tZ.ends{s0:S}{r:Rn S O A}(h:tZ step s0 r){c:Nat}(hc:r.st c=2)(o:O):tZ step s0 ⟨r.out++[⟨false,c,o,r.lQ c⟩],r.s,fun x=>if x=c then 0 else r.st x,r.op,r.lQ⟩:=by
 obtain⟨ds,ord,h1,h2,h3,h4⟩:=h.ex;obtain⟨d,d1,d2,d3,d4⟩:=h4 c hc;have g:=h1.ends d1 d3;have hil:=(aj.1 d1).1;have hne  := fun x hx hs=>h.dis c x (eX hx) (.inr hc) hs
 refine⟨⟨ds.set ((gD r.out).last c) { d with e:=some (gD r.out).n },ord,?_,⟨?_,fun k x y hx hy=>?_⟩,fun x hx=>?_,fun x hx=>?_⟩,fun x y hxy hx hy=>?_⟩
 ·simp_all [jN,jh,af]
 ·simp only[jN,jh,af,aE]; rw[cA,List.length_modify]; exact h2.len
 ·simp only[jN,jh,af,aE] at hx;rw[iU] at hx;rw[fK] at hy;obtain⟨z,hz,rfl⟩:=aU.1 hx;split at hy
  ·rename_i hk;subst hk;cases hy;obtain⟨e1,e2,e3,e4⟩:=h2.at' _ z d hz d1;rw[aZ rfl]
   grind
  ·rename_i hk;rw[aQ hk];exact h2.at' k z y hz hy
 ·simp only[jN,jh,af,aE] at hx ⊢
  grind
 ·simp only[jN,jh,af,aE] at hx ⊢
  grind
 ·simp only[jN,jh,af,aE] at hx hy ⊢
  by_cases hxc:x=c
  ·rw[aZ hxc] at hx; omega
  by_cases hyc:y=c
  ·rw[aZ hyc] at hy; omega
  rw[aQ hxc] at hx;rw[aQ hyc] at hy;exact h.dis x y hxy hx hy
end Hs
namespace Go.Proofs.YteoamaffclmdbaaGreatDoor
open Go Go.Abs
structure mT where
 kind:Int
 bF:Int
 op:jz
 lQ:sR
 deriving DecidableEq,Inhabited
structure uJ where
 bF:UInt8
 op:jz
def pS(e:mT):List ag:=[.int .i64 e.kind,.int .i64 e.bF,.int .i64 e.op.kind,.int .i64 e.op.bF,.str e.op.dK,.str e.op.u9,.int .i64 e.op.n,.int .i64 e.op.m,.int .i64 e.op.handle,df e.op.data,.int .i64 e.lQ.err,.int .i64 e.lQ.ar,.int .i64 e.lQ.kind,.int .i64 e.lQ.n,.int .i64 e.lQ.m,dr e.lQ.names,df e.lQ.data]
def rR(e:mT):ag := .agg (pS e)
abbrev uT(l:List mT):ag := .slice .sh (l.map rR)
def xi(t:uJ):List ag:=[qB t.bF,.int .i64 t.op.kind,.int .i64 t.op.bF,.str t.op.dK,.str t.op.u9,.int .i64 t.op.n,.int .i64 t.op.m,.int .i64 t.op.handle,df t.op.data]
def Sh(t:uJ):ag := .agg (xi t)
abbrev Cb(l:List uJ):ag := .slice .sh (l.map Sh)
def Lc(n:mT):(rR n).cells=pS n:=rfl
def P2(n:mT):(pS n).length=17:=rfl
def Kz(l:List mT):wid (l.map rR) 17=True:=pw rR _ (fun _=>rfl) l
def au1(n:mT):List.take 17 (pS n)=pS n:=rfl
def auZ(n:mT):List.map ag.shut (pS n)=pS n:=rfl
def Ld(n:uJ):(Sh n).cells=xi n:=rfl
def P3(n:uJ):(xi n).length=9:=rfl
def Yf(l:List uJ):wid (l.map Sh) 9=True:=pw Sh _ (fun _=>rfl) l
def au2(n:uJ):List.take 9 (xi n)=xi n:=rfl
def au0(n:uJ):List.map ag.shut (xi n)=xi n:=rfl
def G3:=u8w @Lc @P2 @Kz @au1 @auZ @Ld @P3 @Yf (bR @au2 (bR @au0 (bR @FI (bR @JL (bR @Ox (bR @tkO @shO))))))
def acq(x y:sR):decide (x=y)=(x.err==y.err&&(x.ar==y.ar&&(x.kind==y.kind&&(x.n==y.n&&(x.m==y.m&&(decide (x.names=y.names)&&decide (x.data=y.data))))))):=by
 cases x; cases y;rw[cr];simp only[sR.mk.injEq,bh,bz,eH]
section
attribute [local irreducible] eS fI lx gK dZ kr aq aR cu bJ
def c62(a b:List Bytes)(ha:a.length<=100000):aq bX 62 [dr a,dr b] []=some (.bool (decide (a=b)),[]) :=
 DS (sz:=1) (e:=ag.str) (ld := .rE) (ne := .bin .neq) ft rfl ha (fun _=>rfl) (fun _=>rfl) (fun _=>rfl) (fun _ _ _ _ h=>by simp only[eo,fY.ev,h,ag.cells,nth,bN]) (fun _ _ _ _ x y h h'=>by
  have:(x != y) = !decide (x=y):=by rw[cr]; simp
  simp only[eo,fY.ev,h,h',p7,this,bN])
def c63(a b:Bytes)(ha:a.length<=100000):aq bX 63 [df a,df b] []=some (.bool (decide (a=b)),[]) :=
 DS (sz:=1) (e:=qB) (ld := .rE) (ne := .bin .neq) ft rfl ha (fun _=>rfl) (fun _=>rfl) (fun _=>rfl) (fun _ _ _ _ h=>by simp only[eo,fY.ev,h,qB,ag.cells,nth,bN]) (fun _ _ _ _ x y h h'=>by
  have:((x.toNat:Int) != (y.toNat:Int)) = !decide (x=y):=by rw[cr]; simp only[pf,ne_eq,ij,dD,<-kP]; omega
  simp only[eo,fY.ev,h,h',qB,p7,this,ne_eq,nc,aE,bN])
def c35(x y:sR)(hn:x.names.length<=100000)(hd:x.data.length<=100000):aq bX 35 [Zf x,Zf y] []=some (.bool (decide (x=y)),[]):=by
 have q1:=fun M=>cO (c62 x.names y.names hn) M
 have q2:=fun M=>cO (c63 x.data y.data hd) M
 rw[acq];refine aB ?_;simp only[amk,E35,Zf,cN,EW,seval]
 repeat' ((first|apply bB|apply bW|apply dM)<;>intro hb<;>simp only[hb,EW,E35,q1,q2,seval])
 all_goals simp_all only[qC,↓reduceIte,reduceCtorEq,aw]
def k35(x y:sR)(hn:x.names.length<=100000)(hd:x.data.length<=100000)(M:aC):aR (aq bX) 35 [.agg (cN x),.agg (cN y)] M=some (.bool (decide (x=y)),M):=cO (c35 x y hn hd) M
def Cd(c:Int):List mT->Nat->Int
 | [],_ => -1
 |x::r,i=>if x.bF==c then (i:Int) else Cd c r (i+1)
def zY(l:List jz)(m:List uJ):Bool:=DX l||(decide (24<(m.length:Int))||m.any fun t=>xv t.op)
def c10(l:List jz)(m:List uJ):aq bX 10 [I0 l,Cb m] []=some (.bool (zY l m),[]):=by
 have q1:=fun M=>k25 l M
 unfold zY;refine aB ?_
 cases h1:DX l<;>cases h2:decide (24<(m.length:Int))<;>rw[h1] at q1 <;>
  simp only[alT,E10,q1,h1,h2,dL,c8,G3,EW,seval]
 have hn:m.length<=24:=by simp at h2; omega
 refine A8 (xs:=m) aH (fun l (_:Unit)=>l.any fun t=>xv t.op) (fun _ i=>[(1,Cb m),(5,aD i)]) (fun _=>[]) (fun b=>some (ag.bool b,([]:aC))) (fun _=>?_) (fun pre x post _ h hx cQ hw h0 hm hi=>?_) ()
 ·simp only[E10,bq,o7,G3,EW,seval]
 ·have q:=fun M=>k26 x.op M
  have i1:=hi ();simp only[eW] at q;cases hl:xv x.op<;>rw[hl] at q<;>simp only[E10,cQ,hx,hw,h0,xi,eW,q,hl,jV,dL,c8,G3,EW,seval]
  exact i1
end
def xO(e:mT):Hs.Ev jz sR:=⟨e.kind==1,e.bF.toNat,e.op,e.lQ⟩
abbrev Cls:=Hs.Cl jz sR
abbrev wM:=Hs.Call jz sR
def wk(c:wM):Int:=match c.e with
 |some n=>(n:Int)
 |none => -1
def qD(c:wM):List ag:=[.int .i64 c.b,.int .i64 (wk c)]
def qx(c:wM):ag := .agg (qD c)
def j5(n:wM):(qx n).cells=qD n:=rfl
def kR(n:wM):(qD n).length=2:=rfl
def QV(l:List wM):wid (l.map qx) 2=True:=pw qx _ (fun _=>rfl) l
def BS(n:wM):List.take 2 (qD n)=qD n:=rfl
def XL(n:wM):List.map ag.shut (qD n)=qD n:=rfl
def cp(l:List mT):Cls:=Hs.gD (l.map xO)
def nj(l:List mT)(x:mT):cp (l++[x])=Hs.jh (cp l) (xO x):=by
 unfold cp; rw[aW]; exact Hs.jN _ _
structure ajk(l:List mT):Prop where
 len:l.length<=1000
 hd:∀x,l[0]?=some x->x.kind=1
 cl:∀x,x∈l->0<=x.bF
def S5:∀(l:List (Hs.Ev jz sR)) (t:Cls),(l.foldl Hs.jh t).n=t.n+l.length
 | [],t=>rfl
 |x::r,t=>by
  rw[eK,S5 r,au];unfold Hs.jh;split<;>simp<;>omega
def vB(l:List mT):(cp l).n=l.length:=by
 unfold cp Hs.gD; rw[S5]; simp
def FR:∀(l:List (Hs.Ev jz sR)) (t:Cls),(∀c,t.last c<t.cs.length)->∀c,(l.foldl Hs.jh t).last c<(l.foldl Hs.jh t).cs.length
 | [],t,h=>h
 |x::r,t,h=>by
  rw[eK];refine FR r _ fun c=>?_
  have:=h c;unfold Hs.jh;split
  ·simp only[aA,au,az];split<;>omega
  ·simpa using this
def ZY{l:List mT}(h:∀x,l[0]?=some x->x.kind=1)(h0:l≠[])(c:Nat):(cp l).last c<(cp l).cs.length:=by
 cases l with
 |nil=>exact absurd rfl h0
 |cons x r =>
  have hk:=h x rfl;unfold cp Hs.gD;rw[aK,eK];refine FR _ _ (fun c=>?_) c
  unfold Hs.jh xO;simp[hk]
def IG{l:List mT}{i:Nat}{x:mT}(h:l[i]?=some x):cp (l.take (i+1))=Hs.jh (cp (l.take i)) (xO x):=by
 rw[cD,h,kJ,nj]
def anL(o:Option Int):pt (aD 0) false (o.map (ag.int .i64)) = aD (o.getD 0):=by cases o<;>rfl
def Jm:∀(l:List (Hs.Ev jz sR)) (t:Cls),(l.foldl Hs.jh t).cs.length<=t.cs.length+l.length
 | [],t=>dw
 |x::r,t=>by
  rw[eK,au];refine aY (Jm r _) ?_;unfold Hs.jh;split<;>simp<;>omega
def K8(l:List mT):(cp l).cs.length<=l.length:=by
 have:=Jm (l.map xO) ⟨0,[],fun _=>0⟩
 simpa[cp,Hs.gD] using this
def ali(B:Nat)(M:aC)(m:AM Int):List.map (ag.j4 B M) (pk (ag.int .i64) m)=pk (ag.int .i64) m:=by
 unfold pk; rw[gI]; rfl
def afJ{cs:List wM}{k n:Nat}{o:sR}(h:k<cs.length):List.set (cs.map qx) k (.agg [aD (cs[k]).b,aD (n:Int)])=(cs.modify k fun c=>{ c with e:=some n,lQ:=o }).map qx:=by
 refine ct fun i=>?_
 rw[aX,iU,fK]
 by_cases hi:k=i
 ·subst hi;simp[h,qx,qD,wk]
 ·simp[hi]
section
attribute [local irreducible] eS fI lx gK dZ kr aq aR cu bJ
def c30{l:List mT}(h:ajk l):aq bX 30 [uT l] []=some (gv ((cp l).cs.map qx),[]):=by
 refine aB ?_;have hn:=h.len;simp only[afQ,E30,EW,seval]
 refine pq (xs:=l) aH (fun i (s:List wM×AM Int×Nat)=>s.1=(cp (l.take i)).cs/\∀c,0<=c->(eZ s.2.1 c).getD 0=((cp (l.take i)).last c.toNat:Int)) (fun _ _=>()) (fun s i=>[(3,.cE 0 s.2.2 2 0 s.1.length),(4,.iy 1),(8,uT l),(9,aD l.length),(10,aD i)])
  (fun s=>[.arr 2 s.2.2 (s.1.map qx),.map (B9 s.2.1) (pk (ag.int .i64) s.2.1)]) (fun _=>some (gv ((cp l).cs.map qx),[])) (fun s hs=>?_) (fun pre x post s e hx cQ hw h0 hm hs hi=>?_) ([],[],0) ⟨rfl,fun c _=>rfl⟩
 ·have hs1:=hs.1;rw[bE] at hs1;simp only[E30,bq,hs1,sj,EW,seval]
  done
 ·obtain⟨cs,m,v⟩:=s;obtain⟨hs1,hs2⟩:=hs;simp only at hs1 hs2;have dN:cs.length<=pre.length:=by rw[hs1]; exact aY (K8 _) (by rw[cf]; exact Nat.min_le_left _ _)
  have hpl:pre.length<l.length:=(aj.1 hx).1;have hne:cs.length-0=cs.length:=rfl;have r1:cB (cs.length+1) 16=True:=qV;have hck:=h.cl x hm;have hnx:=IG hx;have wl:=QV cs;cases hk:x.kind==1
  ·have hj:=hs2 x.bF hck
   have h0l:l.take pre.length≠[]:=by
    intro e
    have hp:pre.length=0:=by
     rcases List.take_eq_nil_iff.1 e with h1|h1
     ·exact h1
     ·rw[h1] at hpl; simp at hpl
    have:=h.hd x (by rw[<-hp]; exact hx)
    rw[this] at hk; cases hk
   have hlast:(cp (l.take pre.length)).last x.bF.toNat<cs.length:=by
    rw[hs1]
    exact ZY (fun y hy=>h.hd y (by
     rw[fz] at hy;split at hy
     ·exact hy
     ·cases hy)) h0l _
   have i1:=hi (cs.modify ((cp (l.take pre.length)).last x.bF.toNat) fun c=>{ c with e:=some pre.length,lQ:=x.lQ },m,v) (by
    rw[hnx];unfold Hs.jh xO;simp only[hk,af,aE];rw[vB,hs1,cf,gV aH];exact⟨rfl,hs2⟩)
   simp only[<-afJ (n:=pre.length) (o:=x.lQ) hlast,List.length_modify] at i1;generalize (cp (l.take pre.length)).last x.bF.toNat=q at hj hlast i1;have hq:((q:Int)<(cs.length:Int))=True:=sL;have hg:(cs.map qx)[q]?=some (qx cs[q]):=by rw[aX,ai hlast]; rfl
   simp only[E30,cQ,hx,hw,hne,ali,hq,hg,pS,hk,mapOf.eq_1,pd,anL,hj,qx,qD,G3,EW,seval];rw[fH];exact i1
  ·have i1:=hi (cs++[⟨pre.length,none,x.op,x.lQ⟩],kS m x.bF cs.length,v+1) (by
    rw[hnx];unfold Hs.jh xO;simp only[hk,aF];rw[vB,hs1,cf,gV aH];refine⟨rfl,fun c hc=>?_⟩
    rw[jC];split
    ·rename_i e; subst e; simp
    ·rename_i e;rw[aQ aH];exact hs2 c hc)
   simp only[aW,aK,aV,aA,au,az,aI,qx,qD,wk] at i1;simp only[E30,cQ,hx,hw,hne,ali,pS,hk,r1,wl,sI,sj,G3,EW,seval];exact i1
end
end Go.Proofs.YteoamaffclmdbaaGreatDoor
namespace Go.Abs
open Go
def bitsOf(p:Nat->Bool):Nat->Nat
 |0=>0
 |n+1=>bitsOf p n ||| (if p n then 2 ^ n else 0)
def vx(p:Nat->Bool):∀n k,(bitsOf p n).testBit k=(decide (k<n)&&p k)
 |0,k=>by simp[bitsOf]
 |n+1,k=>by
  rw[bitsOf,nb,vx p n k]
  by_cases hk:k=n
  ·subst hk;cases hp:p k<;>simp[Nat.testBit_two_pow_self]
  ·have h1:(if p n then 2 ^ n else 0).testBit k=false:=by
    split
    ·rw[oO]; simp; omega
    ·simp
   rw[h1,fF];have:(decide (k<n+1))=decide (k<n):=by simp only[decide_eq_decide]; omega
   rw[this]
def Y7(p:Nat->Bool)(n:Nat):bitsOf p n<2 ^ n:=by
 refine Nat.lt_pow_two_of_testBit _ fun i hi=>?_
 rw[vx];simp; omega
def x4(p:Nat->Bool){n:Nat}(h:n<=64):bitsOf p n<2 ^ 64:=bw (Y7 p n) (Nat.pow_le_pow_right aH h)
def ji:List Nat->Nat
 | []=>0
 |k::r=>2 ^ k ||| ji r
def nW:∀(l:List Nat)(k:Nat),(ji l).testBit k=l.contains k
 | [],k=>by simp[ji]
 |x::r,k=>by
  rw[ji,nb,nW r k,oO,List.contains_cons];congr 1;rw[cr,bh,eH];exact⟨Eq.symm,Eq.symm⟩
def abk{l:List Nat}(h:∀k,k∈l->k<64):ji l<2 ^ 64:=by
 refine Nat.lt_pow_two_of_testBit _ fun i hi=>?_
 rw[nW,<-Bool.not_eq_true];intro hc;have:=h i (jD.1 hc);omega
def P9(l:List Nat)(i:Nat):ji l ||| 2 ^ i=ji (l++[i]):=by
 refine nS fun k=>?_
 rw[nb,nW,nW,oO];rw[cr,jD,dh,jD,bh,bo,bT];exact⟨fun h=>h.imp id Eq.symm,fun h=>h.imp id Eq.symm⟩
def Wz{a b:List Nat}(h:ji a=ji b)(k:Nat):k∈a↔k∈b:=by
 rw[<-jD,<-jD,<-nW,<-nW,h]
def Oz{n:Nat}(h:n<2 ^ 64):IntKind.u64.wrap (n:Int)=n:=by
 have:(n:Int) % (2 ^ IntKind.u64.bits:Int)=n:=Int.emod_eq_of_lt aH (by simp only[IntKind.bits]; omega)
 simp[IntKind.wrap,this,IntKind.signed]
def tU{n:Nat}(h:n<2 ^ 64):(BitVec.ofInt IntKind.u64.bits (n:Int)).toNat=n:=by
 rw[BitVec.ofInt_natCast,BitVec.toNat_ofNat];exact nK h
def Td{m n:Nat}(hm:m<2 ^ 64)(hn:n<2 ^ 64):D2 .u64 (m:Int) (n:Int)=((m &&& n:Nat):Int):=by
 unfold D2;rw[BitVec.toNat_and,tU hm,tU hn];exact Oz (Nat.and_lt_two_pow _ hn)
def Tq{m n:Nat}(hm:m<2 ^ 64)(hn:n<2 ^ 64):ior .u64 (m:Int) (n:Int)=((m ||| n:Nat):Int):=by
 unfold ior;rw[BitVec.toNat_or,tU hm,tU hn];exact Oz (Nat.or_lt_two_pow hm hn)
def K7(m n:Nat):Nat:=m &&& (2 ^ 64-1-n)
def af2{m n:Nat}(hm:m<2 ^ 64)(hn:n<2 ^ 64):Ho .u64 (m:Int) (n:Int)=(K7 m n:Int):=by
 unfold Ho K7;rw[BitVec.toNat_and,tU hm,BitVec.toNat_not,tU hn];refine(Oz (Nat.lt_of_le_of_lt Nat.and_le_left hm)).trans ?_;rfl
def RQ{m x:Nat}(hm:m<2 ^ 64)(hx:x<2 ^ 64):(K7 m x=0)↔∀k,m.testBit k=true->x.testBit k=true:=by
 have ht:∀k,(K7 m x).testBit k=(m.testBit k&&(decide (k<64) && !x.testBit k)):=by
  intro k;unfold K7;rw[Nat.testBit_and,show 2 ^ 64-1-x=2 ^ 64-(x+1) by omega,Nat.testBit_two_pow_sub_succ hx]
 have cQ:∀k,m.testBit k=true->k<64:=fun k hk=>by
  refine Nat.lt_of_not_le fun h=>?_
  have:=Nat.testBit_lt_two_pow (bw hm (Nat.pow_le_pow_right aH h));rw[this] at hk; cases hk
 constructor
 ·intro h k hk;have:=ht k;rw[h,Nat.zero_testBit] at this;simpa[hk,cQ k hk] using this
 ·intro h;refine nS fun k=>?_
  rw[ht,Nat.zero_testBit];cases hk:m.testBit k
  ·rfl
  ·simp[h k hk]
def XN{k:Nat}(hk:k<64):IntKind.u64.wrap ((1:Int)*2 ^ (min (k:Int).toNat IntKind.u64.bits))=((2 ^ k:Nat):Int):=by
 have e:min (k:Int).toNat IntKind.u64.bits=k:=by simp only[eN,IntKind.bits]; omega
 rw[e];have:=Oz (n:=2 ^ k) (lC aH hk);rw[<-this]; congr 1; simp
def XO{m k:Nat}(hk:k<64):(m:Int).fdiv (2 ^ (min (k:Int).toNat IntKind.u64.bits))=((m >>> k:Nat):Int):=by
 have e:min (k:Int).toNat IntKind.u64.bits=k:=by simp only[eN,IntKind.bits]; omega
 rw[e,Nat.shiftRight_eq_div_pow];rw[Int.fdiv_eq_ediv_of_nonneg _ (Int.pow_nonneg mw)];simp
def alf{m k:Nat}(hm:m<2 ^ 64):(D2 .u64 ((m >>> k:Nat):Int) 1==1)=m.testBit k:=by
 have h1:m >>> k<2 ^ 64:=by rw[Nat.shiftRight_eq_div_pow]; exact Nat.lt_of_le_of_lt (Nat.div_le_self _ _) hm
 have:=Td (n:=1) h1 mw;have e:((1:Nat):Int)=1:=rfl;rw[e] at this;rw[this,Nat.testBit,Nat.and_comm];have h2:1 &&& (m >>> k)<=1:=Nat.and_le_left;generalize 1 &&& (m >>> k)=z at h2
 match z,h2 with
 |0,_=>rfl
 |1,_=>rfl
def YQ{m x:Nat}:(x &&& m=m)↔∀k,m.testBit k=true->x.testBit k=true:=by
 constructor
 ·intro h k hk;have:(x &&& m).testBit k=true:=by rw[h]; exact hk
  rw[Nat.testBit_and] at this;simp only[bz] at this;exact this.1
 ·intro h;refine nS fun k=>?_
  rw[Nat.testBit_and];cases hk:m.testBit k
  ·simp
  ·simp[h k hk]
end Go.Abs
namespace Go.Proofs.YteoamaffclmdbaaGreatDoor
open Go Go.Abs
inductive SB
 |cl (c:wM)
 |fs (f:aa)
 |an (a:sR)
 |tk (k:Nat)
def Ca:SB->cV
 | .cl c => .cells (qD c)
 | .fs f => .cells (cg f)
 | .an a => .cells (cN a)
 | .tk k => .tick 10 k
section
variable {α:Type}
def eKu(l:AM α):List ag:=l.map fun p => .int .u64 p.1
def xy(enc:α->ag):∀(l:AM α)(k:Int),xx .i (.int .u64 k) (eKu l) (pk enc l)=some ((eZ l k).map enc)
 | [],k=>rfl
 |(k',v)::l,k=>by
  show bJ (kC .i (.int .u64 k) (.int .u64 k')) (fun b=>Bz b (some (some (enc v))) (xx .i (.int .u64 k) (eKu l) (pk enc l)))=_
  rw[xy enc l k];simp only[kC,↓reduceIte,bN,eZ]
  by_cases h:k=k'
  ·rw[aZ h,show(k==k')=true by simpa using h,vO]; rfl
  ·rw[aQ h,show(k==k')=false by simpa using h,qm]
def Ei(enc:α->ag):∀(l:AM α)(k:Int)(v:α),xz .i (.int .u64 k) (enc v) (eKu l) (pk enc l)=some (eKu (kS l k v),pk enc (kS l k v))
 | [],k,v=>by
  show bJ (kC .i (.int .u64 k) (.int .u64 k)) (fun _=>some ([ag.int .u64 k],[enc v]))=_
  simp only[kC,↓reduceIte,bN];rfl
 |(k',v')::l,k,v=>by
  show bJ (kC .i (.int .u64 k) (.int .u64 k')) (fun b=>Bz b (some (ag.int .u64 k::eKu l,enc v::pk enc l)) (bJ (xz .i (.int .u64 k) (enc v) (eKu l) (pk enc l)) fun x=>some (ag.int .u64 k'::x.1,enc v'::x.2)))=_
  rw[Ei enc l k v];simp only[kC,↓reduceIte,bN,kS]
  by_cases h:k=k'
  ·rw[aZ h,show(k==k')=true by simpa using h,vO]; rfl
  ·rw[aQ h,show(k==k')=false by simpa using h,qm]; rfl
end
abbrev SM:=AM (Nat×List aa)
def Lz(p:Nat×List aa):ag := .slice (.own p.1) (p.2.map Ps)
structure Df(b:Nat)(m:SM)(r:List SB):Prop where
 at':∀g id l,eZ m g=some (id,l)->∃i,id=b+i/\r[i]?=some (SB.tk l.length)
 ne:∀g g' id l l',eZ m g=some (id,l)->eZ m g'=some (id,l')->g=g'
 low:∀p,p∈m->p.2.1<b+r.length
def Df.nil(b:Nat)(r:List SB):Df b [] r:=⟨fun _ _ _ h=>(by cases h),fun _ _ _ _ _ h=>(by cases h),fun _ h=>(by cases h)⟩
structure Kept(r r':List SB):Prop where
 len:r.length<=r'.length
 at':∀(i:Nat)(x:SB),r[i]?=some x->(∀n,x≠SB.tk n)->r'[i]?=some x
def Kept.rfl{r:List SB}:Kept r r:=⟨av _,fun _ _ h _=>h⟩
theorem Kept.trans{a b c:List SB}(h:Kept a b)(g:Kept b c):Kept a c:=⟨aY h.len g.len,fun i x hx hn=>g.at' i x (h.at' i x hx hn) hn⟩
def Kept.app(r x:List SB):Kept r (r++x):=⟨dw,fun i y hy _=>by rw[aO (aj.1 hy).1]; exact hy⟩
def Df.app{b:Nat}{m:SM}{r:List SB}(h:Df b m r)(x:List SB):Df b m (r++x):=by
 refine⟨fun g id l hm=>?_,h.ne,fun p hp=>?_⟩
 ·obtain⟨i,h1,h2⟩:=h.at' g id l hm;refine⟨i,h1,?_⟩;rw[aO (aj.1 h2).1]; exact h2
 ·have:=h.low p hp;rw[aA]; omega
def En{α:Type}:∀ {m:AM α} {k:Int} {v:α} {p:Int×α},p∈kS m k v->p=(k,v)\/p∈m
 | [],k,v,p,h=>by simp[kS] at h; exact .inl h
 |(k',v')::m,k,v,p,h=>by
  simp only[kS] at h;split at h
  ·rcases bH.1 h with rfl|h
   ·exact .inl rfl
   ·exact .inr (bu _ h)
  ·rcases bH.1 h with rfl|h
   ·exact .inr bD
   ·exact(En h).imp id (bu _)
def Df.new{b:Nat}{m:SM}{r:List SB}(h:Df b m r){g0:Int}(_hg:eZ m g0=none)(f:aa):Df b (kS m g0 (b+r.length,[f])) (r++[.tk 1]):=by
 have hfar:∀g id l,eZ m g=some (id,l)->id≠b+r.length:=fun g id l hm e=>by
  obtain⟨i,h1,h2⟩:=h.at' g id l hm;have:=(aj.1 h2).1;omega
 refine⟨fun g id l hm=>?_,fun g g' id l l' hm hm'=>?_,fun p hp=>?_⟩
 ·simp only[jC] at hm;split at hm
  ·injection hm with hm; injection hm with h1 h2; subst h1; subst h2
   exact⟨r.length,_root_.rfl,dw⟩
  ·exact(h.app _).at' g id l hm
 ·simp only[jC] at hm hm';split at hm<;>split at hm'
  ·rename_i a b; rw[a,b]
  ·injection hm with hm; injection hm with h1 h2; subst h1
   exact absurd _root_.rfl (hfar _ _ _ hm')
  ·injection hm' with hm'; injection hm' with h1 h2; subst h1
   exact absurd _root_.rfl (hfar _ _ _ hm)
  ·exact h.ne _ _ _ _ _ hm hm'
 ·rcases En hp with rfl|hp
  ·simp
  ·exact(h.app _).low p hp
def Df.more{b:Nat}{m:SM}{r:List SB}(h:Df b m r){g0:Int}{id0:Nat}{l0:List aa}(hg:eZ m g0=some (id0,l0))(f:aa):Df b (kS m g0 (id0,l0++[f])) (r.set (id0-b) (.tk (l0.length+1))):=by
 obtain⟨i0,e0,a0⟩:=h.at' _ _ _ hg;have hi0:=(aj.1 a0).1;have hsub:id0-b=i0:=aH;rw[hsub];refine⟨fun g id l hm=>?_,fun g g' id l l' hm hm'=>?_,fun p hp=>?_⟩
 ·simp only[jC] at hm;split at hm
  ·injection hm with hm; injection hm with h1 h2; subst h1; subst h2
   refine⟨i0,e0,?_⟩;rw[fa hi0]; simp
  ·rename_i hne;obtain⟨i,h1,h2⟩:=h.at' g id l hm;refine⟨i,h1,?_⟩;have:i≠i0:=fun e=>hne (h.ne _ _ id l l0 hm (by rw[hg,e0,h1,e]))
   rw[fc aH]; exact h2
 ·simp only[jC] at hm hm';split at hm<;>split at hm'
  ·rename_i a b; rw[a,b]
  ·rename_i a b;injection hm with hm; injection hm with h1 h2; subst h1
   rw[a]; exact h.ne _ _ _ _ _ hg hm'
  ·rename_i a b;injection hm' with hm'; injection hm' with h1 h2; subst h1
   rw[b]; exact h.ne _ _ _ _ _ hm hg
  ·exact h.ne _ _ _ _ _ hm hm'
 ·rcases En hp with rfl|hp
  ·simp; omega
  ·simpa using h.low p hp
def Kept.set{r:List SB}{i k:Nat}(h:r[i]?=some (SB.tk k))(k':Nat):Kept r (r.set i (.tk k')):=by
 refine⟨dw,fun j x hx hn=>?_⟩
 have:i≠j:=by
  intro e;subst e;rw[h] at hx; injection hx with hx
  exact hn k hx.symm
 rw[fc this]; exact hx
def LR(m:SM)(lost:Hs.uI aa):Prop:=∀k:Nat,((eZ m (k:Int)).map Prod.snd).getD []=(lost.filter fun p=>p.1==k).map Prod.snd
def MO(k:Nat)(f:aa):∀lost:Hs.uI aa,lost.any (fun p=>p.1==k&&decide (p.2=f))=((lost.filter fun p=>p.1==k).map Prod.snd).any fun g=>decide (f=g)
 | []=>rfl
 |p::r=>by
  rw[jV,fq,MO k f r];cases hk:p.1==k
  ·simp only[cK,c8,af,aE]
  ·simp only[cW,aF,aK,jV];rw[decide_eq_decide.2 (show p.2=f↔f=p.2 from⟨Eq.symm,Eq.symm⟩)]
def LR.any{m:SM}{lost:Hs.uI aa}(h:LR m lost)(k:Nat)(f:aa):lost.any (fun p=>p.1==k&&decide (p.2=f))=(((eZ m (k:Int)).map Prod.snd).getD []).any fun g=>decide (f=g):=by
 rw[h k]; exact MO k f lost
def LR.add{m:SM}{lost:Hs.uI aa}(h:LR m lost)(k:Nat)(f:aa)(id:Nat):LR (kS m (k:Int) (id,((eZ m (k:Int)).map Prod.snd).getD []++[f])) (lost++[(k,f)]):=by
 intro j;rw[kI,aW,<-h j,jC]
 by_cases hj:j=k
 ·subst hj; simp
 ·have h1:¬(j:Int)=(k:Int):=aH;have h2:(k==j)=false:=gr;rw[aQ h1]; simp[h2]
def Sf(B:Nat)(M:aC)(r:List SB):(r.map Ca).map (cV.back B M)=r.map Ca:=by
 rw[gI];refine cT fun x _=>?_
 cases x<;>rfl
def aqk{m:SM}{B:Nat}(h:∀p,p∈m->p.2.1<B)(M:aC):List.map (ag.j4 B M) (pk Lz m)=pk Lz m:=by
 unfold pk;rw[gI];refine cT fun p hp=>?_
 show ag.j4 B M (Lz p.2)=Lz p.2
 simp only[Lz,ag.j4,ag.jH,ag.jy,h p hp,aF]
def vq:sR:=⟨0,0,0,0,0,[],[]⟩
def AJ:jz:=⟨0,0,[],[],0,0,0,[]⟩
abbrev CM(c:Int)(o:jz):mT:=⟨1,c,{ o with bF:=c },vq⟩
abbrev Ep(c:Int)(a:sR):mT:=⟨2,c,AJ,a⟩
def Ay:List mT->List Bool->Bool
 | [],_=>true
 |x::r,s =>
  if decide (x.bF<0)||decide (16<=x.bF) then false
  else if (!(x.kind==1)&&x.kind != 2)||((x.kind==1)==(s[x.bF.toNat]?).getD false)||((x.kind==1)&&x.op.bF != x.bF) then false
  else Ay r (s.set x.bF.toNat (x.kind==1))
def HO(l:List mT):Bool:=if 64<l.length then false else Ay l (List.replicate 16 false)
def bqt:(false==true)=false:=rfl
def bqu:(true==false)=false:=rfl
def bqv:(true==true)=true:=rfl
def bqw:(false==false)=true:=rfl
def aqj(B:Nat)(M:aC)(s:List Bool):List.map (ag.jH B M) (s.map ag.bool)=s.map ag.bool:=by rw[gI]; rfl
def Xo(s:List Bool)(i:Nat)(b:Bool)(h:i<s.length):List.take i (s.map ag.bool)++ag.bool b::List.drop (i+1) (s.map ag.bool)=(s.set i b).map ag.bool:=by
 rw[jg,ju,aZ (by simpa using h)]
def WJ(s:List Bool)(i:Nat)(b:Bool)(h:s[i]?=some b):nth (s.map ag.bool) i=some (.bool b):=by rw[fe,aX,h]; rfl
section
attribute [local irreducible] eS fI lx gK dZ kr aq aR cu bJ
def c22(c:Int)(o:jz):aq bX 22 [aD c,.agg (eW o)] []=some (rR (CM c o),[]):=by
 refine aB ?_;simp only[al5,E22,eW,rR,pS,EW,seval];rfl
def c23(c:Int)(a:sR):aq bX 23 [aD c,.agg (cN a)] []=some (rR (Ep c a),[]):=by
 refine aB ?_;simp only[al6,E23,cN,rR,pS,EW,seval];rfl
def c11(l:List mT)(hl:l.length<=100000):aq bX 11 [uT l] []=some (.bool (HO l),[]):=by
 refine aB ?_;unfold HO
 by_cases h6:64<l.length
 ·have h7:((64:Int)<(l.length:Int))=True:=sL;simp only[afP,E11,h6,h7,aF,G3,EW,seval]
  done
 ·have h7:((64:Int)<(l.length:Int))=False:=Yp;simp only[afP,E11,h6,h7,aE,af,G3,EW,seval];refine pq (xs:=l) aH (fun _ s=>s.length=16) (fun r (s:List Bool)=>Ay r s) (fun _ i=>[(3,cC 0),(10,uT l),(11,aD l.length),(12,aD i)]) (fun s=>[cF (s.map ag.bool)]) (fun b=>some (ag.bool b,([]:aC))) (fun s hs=>?_) (fun pre x post s h hx cQ hw h0 hm hs hi=>?_) (List.replicate 16 false) rfl
  ·simp only[E11,bq,Ay,G3,EW,seval]
   done
  ·rw[Ay];cases c1:decide (x.bF<0)
   ·cases c2:decide (16<=x.bF)
    ·have d1:0<=x.bF:=by simpa using c1
     have d2:x.bF<16:=by simpa using c2
     obtain⟨b,hb⟩:∃b,s[x.bF.toNat]?=some b:=⟨_,ai aH⟩;have hn:=WJ s _ b hb;have p1:(0<=x.bF)=True:=eq_true d1;have p2:(x.bF<16)=True:=eq_true d2;have p4:x.bF.toNat<s.length:=aH;have p3:(x.bF.toNat+1<=s.length)=True:=eq_true p4;have i1:=hi (s.set x.bF.toNat (x.kind==1)) (by simpa using hs)
     cases k1:x.kind==1<;>cases k2:x.kind==2<;>cases b<;>cases k3:x.op.bF==x.bF<;>rw[k1] at i1<;>simp only[E11,cQ,hx,hw,pS,c1,c2,k1,k2,k3,hb,hn,p1,p2,bqt,bqu,bqv,bqw,p3,aqj,aF,Xo _ _ _ p4,pQ,bne,bC,G3,EW,seval]
     all_goals first|rfl|exact i1|skip
    ·simp only[E11,cQ,hx,hw,pS,c1,c2,eu,aF,G3,EW,seval]
   ·simp only[E11,cQ,hx,hw,pS,c1,dL,aF,G3,EW,seval]
    done
end
end Go.Proofs.YteoamaffclmdbaaGreatDoor
namespace Go.Abs
open Go
def Zc{C:eL}{f p:Nat}{vs:List ag}{q q' r:ag}{M:aC}{cs:List ag}(hq:q.ids=[p])(hqf:q.flat=true)(hqr:q.pv (iw [p])=q')(hM:nth M p=some (.cells cs))(h:C f (vs++[q']) [.cells cs]=some (r,[.cells cs]))(h1:vs.all ag.flat=true)(h2:vs.flatMap ag.ids=[])(h3:r.wH=true)
  (h4:vs.map (ag.pv (iw [p]))=vs) (h5:r.Ax (wC [p])=r) (h6:cs.all ag.vH=true) (h7:cs.flatMap ag.nG=[]) (h8:cs.map (ag.si (iw [p]))=cs) (h10:cs.map (ag.si (wC [p]))=cs) :
  aR C f (vs++[q]) M=some (r,M):=by
 have hids:(vs++[q]).flatMap ag.ids=[p]:=by simp[hq,h2]
 have hi:qy M [p]=[]:=by simp_all [qy,cV.ids]
 have e0:kE M [p]=[p]:=by simp[kE,hi,ke]
 have e1:reach M [p]=[p]:=by
  have ea:ke [] [p]=[p]:=rfl;simp only[reach,ea,e0]
 have hfl:(vs++[q]).all ag.flat=true:=by rw[oI,h1]; simp[hqf]
 have hmp:(vs++[q]).map (ag.pv (iw [p]))=vs++[q']:=by rw[aW,h4]; simp[hqr]
 have hpk:j7 M (iw [p]) [p]=some [.cells cs]:=by simp[j7,hM,cV.pv,h8,bN,show(cV.cells cs).flat=true from h6]
 refine lk (ids:=[p]) hfl (by rw[hids]; exact e1) hpk e0 hmp h rfl h3 (by simp only[kN,List.all_nil,gd]; exact h6) h5 ?_
 have hren:(cV.cells cs).pv (wC [p]) = .cells cs:=by rw[cV.pv,h10]
 simp[mc,hren,u7 hM]
end Go.Abs
namespace Go.Proofs.YteoamaffclmdbaaGreatDoor
open Go Go.Abs
def ah9(f:aa):j7 [cF (cg f)] (iw [0]) [0]=some [cF (cg f)]:=rfl
section
attribute [local irreducible] eS fI lx gK dZ kr aq aR cu bJ
def c33(f g:aa)(hf:vr f):aq bX 33 [.agg (cg g),cC 0] [cF (cg f)]=some (.bool (decide (f=g)),[cF (cg f)]):=by
 refine aB ?_;have q:=fun M=>cO (c34 f g hf) M
 simp only[cg] at q;simp only[ami,E33,cg,q,EW,seval]
def c54(xs:List aa)(f:aa)(hf:vr f)(hn:xs.length<=900000):aq bX 54 [gv (xs.map Ps),.func 33 [cC 0]] [cF (cg f)]=some (aD (qF (fun g:aa=>decide (f=g)) xs 0),[cF (cg f)]) :=
 DT (sz:=10) (e:=cg) ft rfl hn (fun _=>rfl) (fun _=>rfl) rfl rfl fun x _ => .inl ⟨_,_,rfl,uR (p:=0) (vs:=[.agg (cg x)]) rfl (c33 f x hf) rfl rfl rfl rfl rfl rfl rfl rfl rfl⟩
def c32(xs:List aa)(f:aa)(hf:vr f)(hn:xs.length<=900000):aq bX 32 [gv (xs.map Ps),.func 33 [cC 0]] [cF (cg f)]=some (.bool (xs.any fun g=>decide (f=g)),[cF (cg f)]):=by
 refine aB ?_;have hk:aR (aq bX) 54 [gv (xs.map Ps),.func 33 [cC 0]] _=some (aD _,[cF (cg f)]):=lk (ids:=[0]) rfl rfl (ah9 f) rfl rfl (c54 xs f hf hn) rfl rfl rfl rfl rfl;simp only[amh,E32,hk,xl,EW,seval];rfl
def k32(xs:List aa)(f:aa)(hf:vr f)(hn:xs.length<=900000){M:aC}{p:Nat}(hM:nth M p=some (cF (cg f))):aR (aq bX) 32 [gv (xs.map Ps),.func 33 [cC p]] M=some (.bool (xs.any fun g=>decide (f=g)),M) :=
 Zc (p:=p) (vs:=[gv (xs.map Ps)]) (q' := .func 33 [cC 0]) rfl rfl (by simp[ag.pv,ag.si,ag.uw,iw]) hM (c32 xs f hf hn) rfl rfl rfl rfl rfl rfl rfl rfl rfl
end
end Go.Proofs.YteoamaffclmdbaaGreatDoor
namespace Go.Abs
open Go
variable [kx]
noncomputable def Ey(C:eL)(fn:eE)(args:List ag)(M:aC):Option (ag×aC) :=
 if args.length=fn.nparams then bJ (eM C fn.body (ef 0 args) M) fun o=>bJ (finish fn.results o.mem.length o) fun x=>if M.length<=o.mem.length/\o.mem.length<=x.2.length then some x else none else none
def Eb{P:Program}{C:eL}(hmix:P.follows .mixedOrders=true)(hC:ny P C){f:Nat}{fn:eE}{A:BX}{func:Func}(hf:P.funcs[f]?=some func)(hc:oW P A func=some fn){args:List ag}{M:aC}{x:ag×aC}
  (h:Ey C fn args M=some x):dp P f args M x:=by
 unfold Ey at h;split at h
 ·rename_i hl;obtain⟨o,ho,h⟩:=bm h;obtain⟨y,hy,h⟩:=bm h;split at h
  ·rename_i dN;cases h;exact(Bb hmix hC hf hc dN.1 (.inr dN.2) hl (by rw[ho]; exact hy)).2
  ·cases h
 ·cases h
def NG{C:eL}{fn:eE}{args:List ag}{M M':aC}{v:ag}(hl:args.length=fn.nparams)(h:∀B,eS C fn.results B [] fn.body (ef 0 args) M=some (v.kK B M',iB B M'))(hM:M.length<=M'.length) :
  Ey C fn args M=some (v.kK M'.length M',iB M'.length M'):=by
 unfold Ey;rw[aZ hl];cases ha:eM C fn.body (ef 0 args) M with
 |none=>have:=h 0; unfold eS at this; rw[ha] at this; cases this
 |some o =>
  have h':∀B,finish fn.results B o=some (v.kK B M',iB B M'):=fun B=>by
   have:=h B;unfold eS at this;rw[ha] at this;exact this
  have dN:o.mem.length=M'.length:=by
   have e:=h' (o.mem.length+M'.length);have e2:(finish fn.results (o.mem.length+M'.length) o)=some (v.kK (o.mem.length+M'.length) M',iB (o.mem.length+M'.length) M'):=e;unfold finish at e2
   have hb:∀M2:aC,M2.length<=o.mem.length+M'.length->(iB (o.mem.length+M'.length) M2).length=M2.length:=fun M2 h2=>by
    unfold iB; rw[cz,cf]; omega
   split at e2
   ·cases e2
   ·injection e2 with e2
    have:=congrArg (fun x:ag×aC=>x.2.length) e2
    simp only at this;rw[hb _ aH,hb _ aH] at this; exact this
   ·obtain⟨l,_,e2⟩:=bm e2;injection e2 with e2
    have:=congrArg (fun x:ag×aC=>x.2.length) e2
    simp only at this;rw[hb _ aH,hb _ aH] at this; exact this
  rw[bN,dN,h',bN,aZ ⟨hM,by unfold iB; rw[cz,cf]; omega⟩]
end Go.Abs
namespace Go.Proofs.YteoamaffclmdbaaGreatDoor
open Go Go.Abs
noncomputable def gT:Nat->List ag->aC->Option (ag×aC)
 |0=>fun _ _=>none
 |n+1=>Ey (aq (lu Fs 31 (gT n))) afR
noncomputable def rN(n:Nat):zA:=lu Fs 31 (gT n)
def S7:∀n,uQ Tryz.prog (rN n)/\∀ {args:List ag} {M:aC} {x:ag×aC},gT n args M=some x->dp Tryz.prog 31 args M x
 |0=>⟨oE Oo ft (fun h=>by cases h),fun h=>by cases h⟩
 |n+1=>by
  have ih:=(S7 n).1
  have key:∀ {args:List ag} {M:aC} {x:ag×aC},gT (n+1) args M=some x->dp Tryz.prog 31 args M x:=fun h =>
   Eb ft (qW ft ih) (f:=31) func31 auz h
  exact⟨oE Oo ft key,key⟩
def MC(n:Nat):ny Tryz.prog (aq (rN n)):=qW ft (S7 n).1
def lT'{n f:Nat}{a:List ag}{M:aC}{x:ag×aC}(h:aq Fs f a M=some x):aq (rN n) f a M=some x:=p6 rfl rfl h
def lT{n f:Nat}{vs:List ag}{M:aC}{x:ag×aC}(h:aR (aq Fs) f vs M=some x):aR (aq (rN n)) f vs M=some x:=by
 obtain⟨a,B,y,h1,h2⟩:=oV h;exact h2 _ (lT' h1)
def Kv{n:Nat}{a:List ag}{M:aC}{x:ag×aC}(h:gT n a M=some x):aq (rN n) 31 a M=some x:=eP (g:=gT n) rfl h
end Go.Proofs.YteoamaffclmdbaaGreatDoor
namespace Go.Abs
open Go
def Ee{C:eL}{fn:List sV}{bS:Nat}{bp:Env}{M:aC}:∀(k:List K),kr C fn bS k ⟨.ret,bp,M⟩=finish fn bS ⟨.ret,bp,M⟩
 | []=>rfl
 | .seq _::k=>Ee k
 | .block _::k=>Ee k
 | .loop _ _ _::k=>Ee k
 | .nF _ _::k=>Ee k
end Go.Abs
namespace Go.Proofs.YteoamaffclmdbaaGreatDoor
open Go Go.Abs
abbrev xP(n:Nat):ag := .int .u64 n
abbrev qk(n:Nat):ag := .int .i64 n
structure TS where
 m:SM
 r:List SB
 ov:Nat
 ox:List Nat
 k:Nat
def wF:List ag:=[.ptr 3 0,.ptr 7 0,.ptr 2 0,.ptr 5 0,.ptr 1 0,.ptr 9 0,.ptr 10 0]
structure Bs where
 f0:aa
 l:List mT
 cs:List wM
 E:Nat
 rv:Nat
 rd:List Nat
def kD(b:Bs)(s:TS):aC :=
 .cells (cg b.f0) :: .cells [uT b.l] :: .cells [.slice .sh (b.cs.map qx)] :: .cells [xP b.E] :: .arr 1 b.rv (b.rd.map xP) :: .cells [.cE 4 b.rv 1 0 b.rd.length] :: .map (eKu s.m) (pk Lz s.m) :: .cells [.iy 6] :: .arr 1 s.ov (s.ox.map qk) :: .cells [.cE 8 s.ov 1 0 s.k] ::
  .cells [.func 31 wF]::s.r.map Ca
def xt(b:Bs)(s:TS):(kD b s).length=s.r.length+11:=by simp[kD]
def K6(b:Bs){s:TS}(h:Df 11 s.m s.r){n:Nat}(hl:n=s.r.length+11)(M:aC):List.map (cV.back n M) (kD b s)=kD b s:=by
 have e1:∀i,i<11->(i<n)=True:=fun i hi=>by simp only[fT,jx]; omega
 have e2:List.map (ag.j4 n M) (pk Lz s.m)=pk Lz s.m:=aqk (fun p hp=>by have:=h.low p hp; omega) M
 unfold kD;simp only[aK,Sf,cV.back,e2,cg,aV,ag.jH,ag.jy,wF,e1 0 aH,e1 1 aH,e1 2 aH,e1 3 aH,e1 5 aH,e1 7 aH,e1 9 aH,e1 10 aH,e1 4 aH,e1 6 aH,e1 8 aH,aF,ba,uU,sX,kB,fN,cY]
def FE(b:Bs){s:TS}(h:Df 11 s.m s.r):iB (kD b s).length (kD b s)=kD b s:=by
 unfold iB;rw[bE];exact K6 b h (xt b s) _
def CQ(B:Nat)(b:Bool)(M:aC):Option (ag×aC):=some ((ag.bool b).kK B M,iB B M)
section
attribute [local irreducible] eS fI lx gK dZ kr aq aR cu bJ
def aim{C:eL}{B:Nat}{k:List K}{bp:Env}{M:aC}{b:Bool}:eS C [.tmp 11] B k (.seq (.region [ob 11 (.mv (.ti (.bool b)))] false [11]) .ret) bp M=kr C [.tmp 11] B k ⟨.ret,[(11,.bool b)],M⟩:=by
 simp only[EW,seval]
end
def Oe{C:eL}{B:Nat}{k:List K}{c:cG}{bp:Env}{M:aC}{b:Bool}(hc:c = .seq (.region [ob 11 (.mv (.ti (.bool b)))] false [11]) .ret):eS C [.tmp 11] B k c bp M=CQ B b M:=by
 subst hc;rw[aim,Ee];rfl
noncomputable def XZ(n B:Nat)(k:List K)(bp:Env)(M:aC):Option (ag×aC):=eS (aq (rN n)) [.tmp 11] B k (sub KD 58) bp M
def NT:List Nat:=[1,3,5,6,7,8,9,26,27,28]
def A7(b:Bs)(mask P j:Nat):Env:=[(1,xP mask),(3,.ptr 7 0),(5,.ptr 5 0),(6,.ptr 1 0),(7,.ptr 9 0),(8,.ptr 10 0),(9,.ptr P 0),(26,.slice .sh (b.cs.map qx)),(27,.int .i64 b.cs.length),(28,qk j)]
noncomputable def qZ(n B:Nat)(b:Bs)(mask P j:Nat)(M:aC):Option (ag×aC):=eS (aq (rN n)) [.tmp 11] B [.block 0,.seq (sub KD 59)] (.nF NT (sub KD 23)) (A7 b mask P j) M
section
attribute [local irreducible] eS fI lx gK dZ kr aq aR cu bJ
def BG{n B:Nat}{b:Bs}{mask P j:Nat}{s:TS}(hj:j<1000)(h:Df 11 s.m s.r)(hP:P<11+s.r.length){bp:Env}(he:jI bp NT=A7 b mask P j) :
  XZ n B [.nF NT (sub KD 23),.block 0,.seq (sub KD 59)] bp (kD b s)=qZ n B b mask P (j+1) (kD b s):=by
 have hb:=FE b h;have hl:=xt b s;simp only[jI,NT,A7,aK,aV,oJ,jY,true_and,and_true] at he;obtain⟨g1,g3,g5,g6,g7,g8,g9,g26,g27,g28⟩:=he;unfold XZ qZ A7 NT;generalize kD b s=M at hb hl;have e1:∀i,i<11->(i<M.length)=True:=fun i hi=>by simp only[fT,jx]; omega
 have e2:(P<M.length)=True:=sL;have e3:IntKind.i64.wrap ((j:Int)+1)=((j+1:Nat):Int):=by rw[gx aH aH]; rfl
 have e9:=e1 9 aH;have e10:=e1 10 aH;have e7:=e1 7 aH;have e5:=e1 5 aH;have e01:=e1 1 aH;simp only[ON,↓hb,g1,g3,g5,g6,g7,g8,g9,g26,g27,g28,e3,e2,e9,e10,e7,e5,e01,EW,seval]
end
end Go.Proofs.YteoamaffclmdbaaGreatDoor
namespace Go.Proofs.YteoamaffclmdbaaGreatDoor
open Go Go.Abs
def nq(f:aa):(cg f).length=10:=rfl
def AD(f:aa):List.take 10 (cg f)=cg f:=rfl
def IY(f:aa):List.drop 10 (cg f)=[]:=rfl
def yx(f:aa):List.map ag.shut (cg f)=cg f:=rfl
def Lw(c:wM):List.drop 2 (qD c)=[]:=rfl
def zn(c:wM):nth (qD c) 0=some (aD c.b):=rfl
def vl(c:wM):nth (qD c) 1=some (aD (wk c)):=rfl
def Fk(f:aa):List.flatMap ag.nG (cg f)=[]:=rfl
def Qz{α:Type}(l a b:List α):(l++a <+: l++b)=(a <+: b):=propext (List.prefix_append_right_inj l)
def Bm(c:wM):(qD c).all ag.je=true:=rfl
def Bn(f:aa):(cg f).all ag.je=true:=rfl
def Ag(r:List SB)(a:cV)(X:aC):nth (r.map Ca++a::X) r.length=some a:=by rw[fe]; simp
def EO(r:List SB)(a c:cV)(X:aC):jo (r.map Ca++a::X) r.length c=r.map Ca++c::X:=by rw[fH]; simp
def Es(r:List SB)(a a':cV)(X:aC):nth (r.map Ca++a::a'::X) (r.length+1)=some a':=by rw[fe]; simp
def EP(r:List SB)(a a' c:cV)(X:aC):jo (r.map Ca++a::a'::X) (r.length+1) c=r.map Ca++a::c::X:=by rw[fH]; simp
def Et(r:List SB)(a a' a'':cV)(X:aC):nth (r.map Ca++a::a'::a''::X) (r.length+2)=some a'':=by rw[fe]; simp
def ER(r:List SB)(a a' a'' c:cV)(X:aC):jo (r.map Ca++a::a'::a''::X) (r.length+2) c=r.map Ca++a::a'::c::X:=by rw[fH]; simp
section
attribute [local irreducible] eS fI lx gK dZ kr aq aR cu bJ
def aoA{C:eL}{B:Nat}{k:List K}{bp:Env}{M:aC}:eS C [.tmp 11] B k (sub KD 6) bp M=CQ B true M:=Oe ft
def Xz{C:eL}{B:Nat}{k:List K}{bp:Env}{M:aC}:eS C [.tmp 11] B k (sub KD 14) bp M=CQ B false M:=Oe ft
def HN{C:eL}{B:Nat}{k:List K}{bp:Env}{M:aC}:eS C [.tmp 11] B k (sub KD 53) bp M=CQ B true M:=Oe ft
def XA{C:eL}{B:Nat}{k:List K}{bp:Env}{M:aC}:eS C [.tmp 11] B k (sub KD 61) bp M=CQ B false M:=Oe ft
def wy{n B:Nat}{k:List K}{bp:Env}{M:aC}:eS (aq (rN n)) [.tmp 11] B k (sub KD 58) bp M=XZ n B k bp M:=rfl
variable {n B:Nat} {b:Bs} {mask P j:Nat} {s:TS} {c:wM} {f:aa}
def step_skip(hn:b.cs.length<=60)(hj:b.cs[j]?=some c)(hL:Df 11 s.m s.r)(hP:P<11+s.r.length){q:Nat}{x1 x2:Bool}(hlr:b.rd.length=b.cs.length)(hq:b.rd[j]?=some q)(hx1:(D2 .u64 ((mask >>> j:Nat):Int) 1==1)=x1)(hx2:(Ho .u64 (q:Int) (mask:Int) != 0)=x2)(h:(x1||x2)=true) :
  qZ n B b mask P j (kD b s)=qZ n B b mask P (j+1) (kD b { s with r:=s.r++[.cl c] }):=by
 have hjl:j<b.cs.length:=(aj.1 hj).1;have cQ:((j:Int)<(b.cs.length:Int))=True:=sL;have hlt2:((j:Int)<((b.rd.length-0:Nat):Int))=True:=sL;have hsh:=XO (m:=mask) (k:=j) aH;simp only[eN] at hsh;have fin:=fun bp (he:jI bp NT=A7 b mask P j)=>BG (n:=n) (B:=B) (b:=b) (mask:=mask) (P:=P) (j:=j) (s:={ s with r:=s.r++[.cl c] }) aH (hL.app _) gr he
 unfold qZ;rw[vF];simp only[A7,NT,kD,aW,aK,aV,Ca] at fin ⊢;cases x1
 ·cases x2
  ·cases h
  ·simp only[ON,↓wy,cQ,hlt2,hj,hq,hsh,hx1,hx2,Ag,EO,j5,kR,BS,Lw,Bm,aF,EW,seval];exact fin _ rfl
 ·simp only[ON,↓wy,cQ,hlt2,hj,hq,hsh,hx1,Ag,EO,j5,kR,BS,Lw,Bm,aF,EW,seval];exact fin _ rfl
def XX(hn:b.cs.length<=60)(hj:b.cs[j]?=some c)(hL:Df 11 s.m s.r)(hP:∃p,P=11+p/\s.r[p]?=some (.fs f)){q:Nat}(hlr:b.rd.length=b.cs.length)(hq:b.rd[j]?=some q)(hx1:(D2 .u64 ((mask >>> j:Nat):Int) 1==1)=false)(hx2:(Ho .u64 (q:Int) (mask:Int) != 0)=false)
  (hf:vr f) {x:mT} (hx:b.l[c.b]?=some x) (ho:sm x.op) {e:Nat} (he:c.e=some e) {y:mT} (hy:b.l[e]?=some y) (ha:decide ((oa f x.op).2=y.lQ)=false) :
  qZ n B b mask P j (kD b s)=qZ n B b mask P (j+1) (kD b { s with r:=s.r++[.cl c,.fs (oa f x.op).1,.an (oa f x.op).2] }):=by
 have hjl:j<b.cs.length:=(aj.1 hj).1;have cQ:((j:Int)<(b.cs.length:Int))=True:=sL;have hlt2:((j:Int)<((b.rd.length-0:Nat):Int))=True:=sL;have hsh:=XO (m:=mask) (k:=j) aH;simp only[eN] at hsh;obtain⟨p,hP1,hP2⟩:=hP;have hpl:=(aj.1 hP2).1
 have hnP:∀(a0 a1 a2 a3 a4 a5 a6 a7 a8 a9 a10:cV)(X:aC),nth (a0::a1::a2::a3::a4::a5::a6::a7::a8::a9::a10::(s.r.map Ca++X)) P=some (cF (cg f)):=fun a0 a1 a2 a3 a4 a5 a6 a7 a8 a9 a10 X=>by
  rw[fe,hP1,show 11+p=p+11 by omega]
  simp only[da];rw[aO (by simpa using hpl),aX,hP2]; rfl
 have qd:=fun M=>lT (n:=n) (k29 f x.op hf ho M)
 have hae:=CY hf x.op;have qa:=fun M=>lT (n:=n) (lE (k35 (oa f x.op).2 y.lQ (by have:=hae.names; omega) (by have:=hae.data; omega) M))
 simp only[ha,eW,cN] at qd qa;have fin:=fun bp (he:jI bp NT=A7 b mask P j)=>BG (n:=n) (B:=B) (b:=b) (mask:=mask) (P:=P) (j:=j) (s:={ s with r:=s.r++[.cl c,.fs (oa f x.op).1,.an (oa f x.op).2] }) aH (hL.app _) gr he
 unfold qZ;rw[vF];simp only[A7,NT,kD,aW,aK,aV,Ca] at fin ⊢;have hce:wk c=(e:Int):=by unfold wk; rw[he]
 simp only[ON,↓wy,cQ,hlt2,hj,hq,hsh,hx1,hx2,hnP,Ag,EO,Es,EP,Et,ER,j5,kR,BS,XL,Lw,nq,AD,IY,yx,Fk,Qz,cm,aG,aP,zn,vl,Bm,Bn,qd,qa,aF,hx,hy,hce,pS,cN,G3,EW,seval];exact fin _ rfl
def QL(hn:b.cs.length<=60)(hj:b.cs[j]?=some c)(hP:∃p,P=11+p/\s.r[p]?=some (.fs f)){q:Nat}(hlr:b.rd.length=b.cs.length)(hq:b.rd[j]?=some q)(hx1:(D2 .u64 ((mask >>> j:Nat):Int) 1==1)=false)(hx2:(Ho .u64 (q:Int) (mask:Int) != 0)=false)(hm:mask<2 ^ 64)
  (hk:s.k<=s.ox.length) (hk2:s.k<=1000)
  (hf:vr f) {x:mT} (hx:b.l[c.b]?=some x) (ho:sm x.op) (he:c.e=none\/∃e y,c.e=some e/\b.l[e]?=some y/\decide ((oa f x.op).2=y.lQ)=true) {s2:TS} {k2:Nat} {t:Bool} (hs2:s2.k=k2+1) (hk3:t=false->k2<=1000) (hL:Df 11 s2.m s2.r) (hP3:P<11+s2.r.length)
  (hin:gT n (.agg (cg (oa f x.op).1)::xP (mask ||| 2 ^ j)::wF) (kD b ⟨s.m,s.r++[.cl c,.fs (oa f x.op).1,.an (oa f x.op).2],s.ov+1,s.ox.take s.k++[c.b],s.k+1⟩)=some (.bool t,kD b s2)) :
  qZ n B b mask P j (kD b s)=if t then CQ B true (kD b s2) else qZ n B b mask P (j+1) (kD b { s2 with k:=k2 }):=by
 have hjl:j<b.cs.length:=(aj.1 hj).1;have cQ:((j:Int)<(b.cs.length:Int))=True:=sL;have hlt2:((j:Int)<((b.rd.length-0:Nat):Int))=True:=sL;have hsh:=XO (m:=mask) (k:=j) aH;simp only[eN] at hsh;have hsl:=XN (k:=j) aH;simp only[eN] at hsl;have hor:=Tq hm (n:=2 ^ j) (lC aH aH);obtain⟨p,hP1,hP2⟩:=hP;have hpl:=(aj.1 hP2).1
 have hnP:∀(a0 a1 a2 a3 a4 a5 a6 a7 a8 a9 a10:cV)(X:aC),nth (a0::a1::a2::a3::a4::a5::a6::a7::a8::a9::a10::(s.r.map Ca++X)) P=some (cF (cg f)):=fun a0 a1 a2 a3 a4 a5 a6 a7 a8 a9 a10 X=>by
  rw[fe,hP1,show 11+p=p+11 by omega]
  simp only[da];rw[aO (by simpa using hpl),aX,hP2]; rfl
 have qd:=fun M=>lT (n:=n) (k29 f x.op hf ho M)
 have hae:=CY hf x.op;simp only[eW,cN] at qd;have fin:=fun bp (he:jI bp NT=A7 b mask P j)=>BG (n:=n) (B:=B) (b:=b) (mask:=mask) (P:=P) (j:=j) (s:={ s2 with k:=k2 }) aH hL hP3 he
 have hin':=Kv hin;obtain⟨m2,r2,ov2,ox2,k2'⟩:=s2;simp only at hs2;subst hs2;unfold qZ;rw[vF];simp only[A7,NT,kD,aW,aK,aV,ec,Ca,cN] at fin hin' ⊢;have rm:cB (s.k+1) 8=True:=qV;have hne:k2+1-0=k2+1:=rfl;have hwk:t=false->IntKind.i64.wrap (((k2+1:Nat):Int)-1)=(k2:Int):=fun ht=>by have:=hk3 ht; rw[gx aH aH]; omega
 have hck:((k2:Int)<((k2+1:Nat):Int))=True:=sL;have hkl:(s.k<=s.ox.length)=True:=eq_true hk;have wdT:wid (List.take s.k (List.map qk s.ox)) 1=True:=by rw[<-ec]; exact pw qk _ (fun _=>rfl) _
 rcases he with he|⟨e,y,he,hy,ha⟩
 ·have hce:wk c = -1:=by unfold wk; rw[he]
  cases t
  ·have hwk:=hwk rfl;simp only[ON,↓wy,↓HN,cQ,hlt2,hj,hq,hsh,hsl,hor,rm,wdT,hne,hwk,hck,hkl,hin',hx1,hx2,hnP,Ag,EO,Es,EP,Et,ER,j5,kR,BS,XL,Lw,nq,AD,IY,yx,Fk,Qz,cm,aG,aP,zn,vl,Bm,Bn,qd,aF,hx,hce,pS,cN,G3,EW,seval];exact fin _ rfl
  ·simp only[ON,↓wy,↓HN,cQ,hlt2,hj,hq,hsh,hsl,hor,rm,wdT,hne,hck,hkl,hin',hx1,hx2,hnP,Ag,EO,Es,EP,Et,ER,j5,kR,BS,XL,Lw,nq,AD,IY,yx,Fk,Qz,cm,aG,aP,zn,vl,Bm,Bn,qd,aF,hx,hce,pS,cN,G3,EW,seval]
   done
 ·have hce:wk c=(e:Int):=by unfold wk; rw[he]
  have qa:=fun M=>lT (n:=n) (lE (k35 (oa f x.op).2 y.lQ (by have:=hae.names; omega) (by have:=hae.data; omega) M))
  simp only[ha,cN] at qa;cases t
  ·have hwk:=hwk rfl;simp only[ON,↓wy,↓HN,cQ,hlt2,hj,hq,hsh,hsl,hor,rm,wdT,hne,hwk,hck,hkl,hin',hx1,hx2,hnP,Ag,EO,Es,EP,Et,ER,j5,kR,BS,XL,Lw,nq,AD,IY,yx,Fk,Qz,cm,aG,aP,zn,vl,Bm,Bn,qd,qa,hy,aF,hx,hce,pS,cN,G3,EW,seval];exact fin _ rfl
  ·simp only[ON,↓wy,↓HN,cQ,hlt2,hj,hq,hsh,hsl,hor,rm,wdT,hne,hck,hkl,hin',hx1,hx2,hnP,Ag,EO,Es,EP,Et,ER,j5,kR,BS,XL,Lw,nq,AD,IY,yx,Fk,Qz,cm,aG,aP,zn,vl,Bm,Bn,qd,qa,hy,aF,hx,hce,pS,cN,G3,EW,seval]
   done
end
section
attribute [local irreducible] eS fI lx gK dZ kr aq aR cu bJ
variable {n B:Nat} {b:Bs} {mask P:Nat} {s:TS} {f:aa}
def rowsOf(o:Option (Nat×List aa)):ag:=match o with
 |none => .slice .c0 []
 |some p => .slice (.own p.1) (p.2.map Ps)
def Oi(o:Option (Nat×List aa)):(rowsOf o).fU = gv (((o.map Prod.snd).getD []).map Ps):=by cases o<;>rfl
def ah7(f:aa):(cg f).all ag.plainCell=true:=rfl
def aev(l:List aa):wid (l.map Ps) 10=True:=pw Ps _ (fun _=>rfl) l
def J4(o:Option (Nat×List aa)):(rowsOf o).jr=false:=by cases o<;>rfl
def V6(o:Option (Nat×List aa)):pt (.slice .c0 []) false (o.map Lz)=rowsOf o:=by cases o<;>rfl
def I3(hw:(D2 .u64 (mask:Int) (b.E:Int)==(b.E:Int))=true):eS (aq (rN n)) [.tmp 11] B [] (sub KD 0) (ef 0 (.agg (cg f)::xP mask::wF)) (kD b s)=CQ B true (kD b { s with r:=s.r++[.fs f] }):=by
 simp only[wF,kD,aW,aK,aV,Ca];simp only[ON,↓aoA,hw,yx,EW,seval]
def DI(hw:(D2 .u64 (mask:Int) (b.E:Int)==(b.E:Int))=false)(hf:vr f){x:Bool}(hx:((((eZ s.m (mask:Int)).map Prod.snd).getD []).any fun g=>decide (f=g))=x)(hn:(((eZ s.m (mask:Int)).map Prod.snd).getD []).length<=900000) :
  eS (aq (rN n)) [.tmp 11] B [] (sub KD 0) (ef 0 (.agg (cg f)::xP mask::wF)) (kD b s)=if x then CQ B false (kD b { s with r:=s.r++[.fs f] }) else qZ n B b mask (s.r.length+11) 0 (kD b { s with r:=s.r++[.fs f] }):=by
 have qc:=fun {M p} hM=>lT (n:=n) (lE (k32 (((eZ s.m (mask:Int)).map Prod.snd).getD []) f hf hn (M:=M) (p:=p) hM))
 rw[hx] at qc;unfold qZ;simp only[wF,A7,NT,kD,aW,aK,aV,Ca] at qc ⊢;cases x
 ·simp only[ON,↓Xz,hw,yx,mapOf.eq_1,xy,V6,Oi,J4,qc,Ag,EW,seval];rfl
 ·simp only[ON,↓Xz,hw,yx,mapOf.eq_1,xy,V6,Oi,J4,qc,Ag,EW,seval]
def PZ(hP:∃p,P=11+p/\s.r[p]?=some (.fs f))(hg:eZ s.m (mask:Int)=none):qZ n B b mask P b.cs.length (kD b s)=CQ B false (kD b { s with m:=kS s.m (mask:Int) (s.r.length+11,[f]),r:=s.r++[.tk 1] }):=by
 obtain⟨p,hP1,hP2⟩:=hP;have hpl:=(aj.1 hP2).1
 have hnP:∀(a0 a1 a2 a3 a4 a5 a6 a7 a8 a9 a10:cV),nth (a0::a1::a2::a3::a4::a5::a6::a7::a8::a9::a10::s.r.map Ca) P=some (cF (cg f)):=fun a0 a1 a2 a3 a4 a5 a6 a7 a8 a9 a10=>by
  rw[fe,hP1,show 11+p=p+11 by omega]
  simp only[da];rw[aX,hP2]; rfl
 have hput:=Ei Lz s.m (mask:Int) (s.r.length+11,[f]);simp only[Lz,aK,aV,Ps] at hput;have rm:cB (0+1) 176=True:=qV;unfold qZ;rw[vF];simp only[A7,NT,kD,aW,aK,aV,Ca];simp only[ON,↓XA,bq,hnP,mapOf.eq_1,xy,V6,hg,rowsOf,hput,rm,yx,AD,nq,Bn,ah7,aF,aev,EW,seval]
 done
def L3(hP:∃p,P=11+p/\s.r[p]?=some (.fs f)){id:Nat}{l0:List aa}(hL:Df 11 s.m s.r)(hl0:l0.length<=900000)(hg:eZ s.m (mask:Int)=some (id,l0)):qZ n B b mask P b.cs.length (kD b s)=CQ B false (kD b { s with m:=kS s.m (mask:Int) (id,l0++[f]),r:=s.r.set (id-11) (.tk (l0.length+1)) }):=by
 obtain⟨p,hP1,hP2⟩:=hP;have hpl:=(aj.1 hP2).1
 have hnP:∀(a0 a1 a2 a3 a4 a5 a6 a7 a8 a9 a10:cV),nth (a0::a1::a2::a3::a4::a5::a6::a7::a8::a9::a10::s.r.map Ca) P=some (cF (cg f)):=fun a0 a1 a2 a3 a4 a5 a6 a7 a8 a9 a10=>by
  rw[fe,hP1,show 11+p=p+11 by omega]
  simp only[da];rw[aX,hP2]; rfl
 obtain⟨i,hi1,hi2⟩:=hL.at' _ _ _ hg
 have hnI:∀(a0 a1 a2 a3 a4 a5 a6 a7 a8 a9 a10:cV),nth (a0::a1::a2::a3::a4::a5::a6::a7::a8::a9::a10::s.r.map Ca) id=some (.tick 10 l0.length):=fun a0 a1 a2 a3 a4 a5 a6 a7 a8 a9 a10=>by
  rw[fe,hi1,show 11+i=i+11 by omega]
  simp only[da];rw[aX,hi2]; rfl
 have hsI:∀(a0 a1 a2 a3 a4 a5 a6 a7 a8 a9 a10:cV)(k:Nat),jo (a0::a1::a2::a3::a4::a5::a6::a7::a8::a9::a10::s.r.map Ca) id (.tick 10 k)=a0::a1::a2::a3::a4::a5::a6::a7::a8::a9::a10::(s.r.set (id-11) (.tk k)).map Ca:=fun a0 a1 a2 a3 a4 a5 a6 a7 a8 a9 a10 k=>by
  rw[fH,hi1,show 11+i=i+11 by omega,show i+11-11=i by omega,jg]; rfl
 have hput:=Ei Lz s.m (mask:Int) (id,l0++[f]);simp only[Lz,aW,aK,aV,Ps] at hput;have e1:pt (.slice .c0 []) false (some (Lz (id,l0))) = .slice (.own id) (l0.map Ps):=rfl;have rm:cB (l0.length+1) 176=True:=qV;unfold qZ;rw[vF];simp only[A7,NT,kD,aW,aK,aV,Ca];simp only[ON,↓XA,bq,hnP,hnI,hsI,mapOf.eq_1,xy,hg,ep,e1,hput,rm,yx,AD,nq,Bn,ah7,aF,aev,EW,seval]
 done
end
def Tb(W:Nat):Nat->Nat
 |0=>0
 |r+1=>1+min r W*Tb W r
def CL(cs:List wM)(i:Nat):Nat:=match cs[i]? with
 |some c=>c.b
 |none=>0
structure Lk(b:Bs):Prop where
 len:b.cs.length<=60
 E:b.E=bitsOf (fun k=>match b.cs[k]? with|some c=>c.e.isSome|none=>false) b.cs.length
 rdl:b.rd.length=b.cs.length
 rd:∀j,j<b.cs.length->b.rd[j]?=some (bitsOf (fun k=>Hs.lN b.cs k j) b.cs.length)
 ev:∀c,c∈b.cs->∃x,b.l[c.b]?=some x/\x.op=c.op/\sm c.op
 nd:∀c,c∈b.cs->∀e,c.e=some e->∃y,b.l[e]?=some y/\y.lQ=c.lQ
structure ML(b:Bs)(s s':TS)(lost:Hs.uI aa)(t:Nat)(x:Option (List Nat)×Hs.uI aa):Prop where
 lt:Df 11 s'.m s'.r
 lr:LR s'.m x.2
 len:x.2.length<=lost.length+t
 kept:Kept s.r s'.r
 k:s'.k<=s'.ox.length
 out:s'.ox.take s'.k=s.ox.take s.k++(x.1.getD []).map (CL b.cs)
def ML.kk{b:Bs}{s s':TS}{lost:Hs.uI aa}{t:Nat}{x:Option (List Nat)×Hs.uI aa}(h:ML b s s' lost t x)(hk:s.k<=s.ox.length):s'.k=s.k+(x.1.getD []).length:=by
 have:=congrArg List.length h.out;rw[aA,cf,cf,cz,gV h.k] at this;omega
def acn(W:Nat)(b:Bs)(n r:Nat):Prop:=∀(f:aa)(K:Nat)(done:List Nat)(lost:Hs.uI aa)(s:TS),b.cs.length+1=done.length+r->FB K f->K+200*r<=89000->Hs.Good b.cs done->Df 11 s.m s.r->LR s.m lost->lost.length+Tb W r<=900000->s.k<=s.ox.length->s.k+r<=900 ->
 ∃s',gT n (.agg (cg f)::xP (ji done)::wF) (kD b s)=some (.bool (Hs.wS oa ji b.cs n f done lost).1.isSome,kD b s')/\ML b s s' lost (Tb W r) (Hs.wS oa ji b.cs n f done lost)
def tP{b:Bs}(h:Lk b){done:List Nat}(hg:Hs.Good b.cs done):ji done<2 ^ 64:=abk fun k hk=>by have:=hg.lt k hk; have:=h.len; omega
def af0{b:Bs}(h:Lk b){done:List Nat}(hg:Hs.Good b.cs done)(j:Nat):(D2 .u64 ((ji done >>> j:Nat):Int) 1==1)=done.contains j:=by
 rw[alf (tP h hg),nW]
theorem af1{b:Bs}(h:Lk b){done:List Nat}(hg:Hs.Good b.cs done)(j:Nat):(Ho .u64 ((bitsOf (fun k=>Hs.lN b.cs k j) b.cs.length:Nat):Int) (ji done:Int) != 0) = !((List.range b.cs.length).all fun k => !Hs.lN b.cs k j||done.contains k):=by
 have hn:=h.len;have hl:=x4 (fun k=>Hs.lN b.cs k j) (n:=b.cs.length) aH
 rw[af2 hl (tP h hg)];have hz:=RQ hl (tP h hg);rw[bne,Bool.not_inj_iff,cr,eH,bK];have e:((K7 (bitsOf (fun k=>Hs.lN b.cs k j) b.cs.length) (ji done):Nat):Int)=0↔K7 (bitsOf (fun k=>Hs.lN b.cs k j) b.cs.length) (ji done)=0:=dw
 rw[e,hz];constructor
 ·intro h1 k hk;cases ha:Hs.lN b.cs k j
  ·rfl
  simp_all [vx,nW,eu]
 ·intro h1 k hk;rw[vx] at hk;simp only[bz,bh] at hk;have:=h1 k (eY.2 hk.1);rw[hk.2] at this;rw[nW]
  grind
theorem amS{b:Bs}(h:Lk b){done:List Nat}(hg:Hs.Good b.cs done):(D2 .u64 (ji done:Int) (b.E:Int)==(b.E:Int))=Hs.BV b.cs done:=by
 have hn:=h.len;have hl:=x4 (fun k=>match b.cs[k]? with|some c=>c.e.isSome|none=>false) (n:=b.cs.length) aH
 rw[<-h.E] at hl;have ht:∀k,b.E.testBit k=(decide (k<b.cs.length)&&(match b.cs[k]? with|some c=>c.e.isSome|none=>false)):=fun k=>by rw[h.E,vx]
 rw[Td (tP h hg) hl,cr,eH];have e:((ji done &&& b.E:Nat):Int)=(b.E:Int)↔ji done &&& b.E=b.E:=aH;rw[e,YQ];unfold Hs.BV;rw[bK];constructor
 ·intro h1 k hk;rw[eY] at hk;have h2:=h1 k;rw[ht,nW] at h2;have hc:=ai hk;generalize b.cs[k]=c at hc;rw[hc] at h2 ⊢;obtain⟨cb,ce,co,ca⟩:=c;cases ce<;>grind
 ·intro h1 k hk;rw[ht] at hk;simp only[bz,bh] at hk;obtain⟨hk1,hk2⟩:=hk;have h2:=h1 k (eY.2 hk1);have hc:=ai hk1;generalize b.cs[k]=c at hc;rw[nW];obtain⟨cb,ce,co,ca⟩:=c;cases ce<;>grind
def DA(cs:List wM)(done is:List Nat):Nat:=(is.filter fun i=>Hs.Ek cs done i).length
theorem Pm(cs:List wM)(done is:List Nat)(i:Nat):DA cs done (i::is)=(if Hs.Ek cs done i then 1 else 0)+DA cs done is:=by
 grind [DA]
theorem abl{cs:List wM}{done:List Nat}{i:Nat}(h:Hs.Ek cs done i=true):done.contains i=false:=by
 grind [Hs.Ek]
theorem IT{cs:List wM}{done:List Nat}(hg:Hs.Good cs done):DA cs done (List.range cs.length)+done.length<=cs.length:=by
 have:Hs.Good cs (((List.range cs.length).filter fun i=>Hs.Ek cs done i)++done):=by
  refine⟨lh.2 ⟨List.nodup_range.filter _,hg.nodup,fun a ha b' hb e=>?_⟩,fun k hk=>?_⟩
  ·have:=abl (dP.1 ha).2
   grind
  ·rcases bo.1 hk with hk|hk
   ·grind
   ·exact hg.lt k hk
 have:=this.len;rw[aA] at this;exact this
theorem abi{W:Nat}{b:Bs}(h:Lk b){n r:Nat}(IH:acn W b n r){f:aa}{K P:Nat}{done:List Nat}(hr:b.cs.length+1=done.length+(r+1))(hf:FB K f)(hK:K+200*(r+1)<=89000)(hg:Hs.Good b.cs done) :
  ∀(m j:Nat)(lost:Hs.uI aa)(s:TS),j+m=b.cs.length->Df 11 s.m s.r->LR s.m lost->lost.length+DA b.cs done (List.range' j m)*Tb W r+1<=900000->(∃p,P=11+p/\s.r[p]?=some (.fs f))->s.k<=s.ox.length->s.k+(r+1)<=900 ->
  ∃s',ML b s s' lost (DA b.cs done (List.range' j m)*Tb W r) (Hs.Jq oa b.cs (Hs.wS oa ji b.cs n) f done (List.range' j m) lost) /\
   ∀B,qZ n B b (ji done) P j (kD b s)=if (Hs.Jq oa b.cs (Hs.wS oa ji b.cs n) f done (List.range' j m) lost).1.isSome=true then CQ B true (kD b s') else qZ n B b (ji done) P b.cs.length (kD b s'):=by
 intro m;induction m with
 |zero =>
  intro j lost s hj hL hR _ _ hk _;refine⟨s,⟨hL,hR,by simp[Hs.Jq],.rfl,hk,by simp[Hs.Jq]⟩,fun B=>?_⟩
  rw[<-hj];simp[Hs.Jq]
 |succ m ih =>
  intro j lost s hj hL hR hc hP hk hk9;have hjl:j<b.cs.length:=aH;have hcj:=ai hjl;generalize b.cs[j]=c at hcj;have hcm:c∈b.cs:=aJ hcj;have dN:=h.len;obtain⟨p,hp1,hp2⟩:=hP;have hpl:=(aj.1 hp2).1;have hx1:=af0 h hg j;have hx2:=af1 h hg j;have hmk:=tP h hg;rw[nJ] at hc ⊢;rw[Pm] at hc ⊢;have hmay:Hs.Ek b.cs done j=(!done.contains j&&(List.range b.cs.length).all fun k => !Hs.lN b.cs k j||done.contains k):=rfl
  generalize hX:Hs.Jq oa b.cs (Hs.wS oa ji b.cs n) f done (j::List.range' (j+1) m) lost=X;rw[Hs.Jq,hcj] at hX;simp only at hX;cases hm:Hs.Ek b.cs done j
  ·-- it may not come
   rw[hm] at hc;simp only[af,aE,aI] at hc ⊢;obtain⟨s',ha,hh⟩:=ih (j+1) lost { s with r:=s.r++[.cl c] } aH (hL.app _) hR hc ⟨p,hp1,by rw[aO hpl]; exact hp2⟩ hk hk9
   rw[hm,cK,aQ dw] at hX;subst hX;refine⟨s',⟨ha.lt,ha.lr,ha.len,(Kept.app _ _).trans ha.kept,ha.k,ha.out⟩,fun B=>?_⟩
   rw[step_skip dN hcj hL aH h.rdl (h.rd j hjl) hx1 hx2 (by
    rw[hm] at hmay;have:=hmay.symm;cases hd:done.contains j
    ·rw[hd] at this;simpa using this
    ·rfl)]
   exact hh B
  ·rw[hm] at hmay hX hc
   have hnd:done.contains j=false:=by
    cases hd:done.contains j
    ·rfl
    ·rw[hd] at hmay; cases hmay
   have hall:((List.range b.cs.length).all fun k => !Hs.lN b.cs k j||done.contains k)=true:=by
    rw[hnd] at hmay; simpa using hmay.symm
   rw[hnd] at hx1;rw[hall] at hx2;obtain⟨x,hx,hxo,hoo⟩:=h.ev c hcm;simp only[aF] at hc ⊢;rw[bP,fM] at hc ⊢;cases ha:Hs.KY oa f c
   ·-- it answers otherwise
    have hansF:=ha;simp only[Hs.KY,jT] at ha;obtain⟨ha1,ha2⟩:=ha
    obtain⟨e,he⟩:∃e,c.e=some e:=by
     cases he:c.e with
     |none=>rw[he] at ha1; cases ha1
     |some e=>exact⟨e,rfl⟩
    obtain⟨y,hy,hya⟩:=h.nd c hcm e he;obtain⟨s',hA,hh⟩:=ih (j+1) lost { s with r:=s.r++[.cl c,.fs (oa f x.op).1,.an (oa f x.op).2] } aH (hL.app _) hR aH ⟨p,hp1,by rw[aO hpl]; exact hp2⟩ hk hk9
    rw[hansF,dR,aQ dw] at hX;subst hX;refine⟨s',⟨hA.lt,hA.lr,by have:=hA.len; omega,(Kept.app _ _).trans hA.kept,hA.k,hA.out⟩,fun B=>?_⟩
    rw[XX dN hcj hL ⟨p,hp1,hp2⟩ h.rdl (h.rd j hjl) hx1 hx2 hf.ok hx (by rw[hxo]; exact hoo) he hy (by rw[hxo,hya]; exact ha2)]
    exact hh B
   ·-- it may be the next one
    rw[ha,jS,aZ rfl] at hX;have hfb:=Hf hf aH c.op
    have hg':Hs.Good b.cs (done++[j]):=by
     refine⟨lh.2 ⟨hg.nodup,dw,fun a ha' b' hb e=>?_⟩,fun k hk=>?_⟩
     ·grind
     ·rcases bo.1 hk with hk|hk
      ·exact hg.lt k hk
      ·simp at hk; omega
    obtain⟨s2,hin,hA⟩:=IH (oa f c.op).1 (K+200) (done++[j]) lost ⟨s.m,s.r++[.cl c,.fs (oa f c.op).1,.an (oa f c.op).2],s.ov+1,s.ox.take s.k++[c.b],s.k+1⟩ (by rw[aA]; simp; omega) hfb aH hg' (hL.app _) hR aH (by rw[aA,cf,gV hk]; simp) (by simp only; omega)
    have hk0:(⟨s.m,s.r++[.cl c,.fs (oa f c.op).1,.an (oa f c.op).2],s.ov+1,s.ox.take s.k++[c.b],s.k+1⟩:TS).k<=(s.ox.take s.k++[c.b]).length:=by rw[aA,cf,gV hk]; simp
    have hkk:=hA.kk hk0;have hout:=hA.out;rw[<-P9] at hin;have hkept:=(Kept.app s.r [.cl c,.fs (oa f c.op).1,.an (oa f c.op).2]).trans hA.kept;have hP2:s2.r[p]?=some (.fs f):=hkept.at' p _ hp2 (fun _ h=>by cases h)
    have hst:∀B,_:=fun B=>QL (n:=n) (B:=B) (P:=P) dN hcj ⟨p,hp1,hp2⟩ h.rdl (h.rd j hjl) hx1 hx2 hmk hk aH hf.ok hx (by rw[hxo]; exact hoo) (by
     rw[hxo];simp only[Hs.KY,dh] at ha;cases he:c.e with
     |none=>exact .inl rfl
     |some e =>
      obtain⟨y,hy,hya⟩:=h.nd c hcm e he
      grind) (s2:=s2) (k2:=s2.k-1) (t:=(Hs.wS oa ji b.cs n (oa f c.op).1 (done++[j]) lost).1.isSome) (by simp only at hkk; omega) (fun ht=>by
      have e:(Hs.wS oa ji b.cs n (oa f c.op).1 (done++[j]) lost).1=none:=by
       simp_all
      rw[e] at hkk;simp at hkk; omega) hA.lt (by have:=hkept.len; omega) (by rw[hxo]; exact hin)
    generalize Hs.wS oa ji b.cs n (oa f c.op).1 (done++[j]) lost=T at hA hkk hout hst hX;obtain⟨o,l⟩:=T;cases o with
    |some o =>
     simp only at hX;subst hX;simp only[bQ,aF] at hst ⊢;refine⟨s2,⟨hA.lt,hA.lr,by have:=hA.len; simp only at this ⊢; omega,hkept,hA.k,?_⟩,hst⟩
     rw[hout];simp only[bC,aK];rw[bt (by rw[aA,cf,gV hk]; simp),cm]
     simp only[CL,hcj,aG,aP]
    |none =>
     simp only at hX;subst hX;simp only[cU,af,aE,iK,aV,dz,az,dj] at hst hout hkk ⊢;have hk1:s2.k-1=s.k:=aH;rw[hk1] at hst
     have htk:s2.ox.take s.k=s.ox.take s.k:=by
      have:=congrArg (List.take s.k) hout;rw[List.take_take,gV aH] at this;rw[this,bt (l:=s.ox.take s.k++[c.b]) (by rw[aA,cf,gV hk]; simp),fQ (by rw[cf,gV hk]; exact av _),List.take_take,Nat.min_self]
     have hA2:=hA.len;simp only at hA2;obtain⟨s',hA3,hh⟩:=ih (j+1) l { s2 with k:=s.k } aH hA.lt hA.lr aH ⟨p,hp1,hP2⟩ (by have:=hA.k; simp only; omega) hk9
     refine⟨s',⟨hA3.lt,hA3.lr,by have:=hA3.len; omega,hkept.trans hA3.kept,hA3.k,?_⟩,fun B=>(hst B).trans (hh B)⟩
     rw[hA3.out];simp only[htk]
def D8{b:Bs}{n:Nat}{a:List ag}{s s':TS}{t:Bool}(hl:a.length=9)(h:∀B,eS (aq (rN n)) [.tmp 11] B [] (sub KD 0) (ef 0 a) (kD b s)=CQ B t (kD b s'))(hL:Df 11 s'.m s'.r)(hk:s.r.length<=s'.r.length):gT (n+1) a (kD b s)=some (.bool t,kD b s'):=by
 have:=NG (C:=aq (rN n)) (fn:=afR) (args:=a) (M:=kD b s) (M':=kD b s') (v := .bool t) (by rw[hl]; rfl) h (by rw[xt,xt]; omega)
 rw[FE b hL] at this;exact this
def X4{W:Nat}{b:Bs}(h:Lk b)(hW:∀done,Hs.Good b.cs done->DA b.cs done (List.range b.cs.length)<=W):∀n r:Nat,r<=n->acn W b n r
 |n,0,_=>fun f K done lost s hr _ _ hg=>by have:=hg.len; omega
 |0,r+1,hn=>aH
 |n+1,r+1,hn=>fun f K done lost s hr hf hK hg hL hR hc hk hk9=>by
  have hmk:=tP h hg;have hw:=amS h hg;rw[Hs.wS];rw[Tb] at hc ⊢;cases hwb:Hs.BV b.cs done
  rotate_left
  ·rw[aZ rfl];refine⟨{ s with r:=s.r++[.fs f] },D8 rfl (fun B=>I3 (by rw[hw,hwb])) (hL.app _) dw,⟨hL.app _,hR,dw,Kept.app _ _,hk,dw⟩⟩
  rw[aQ dw];have hany:=hR.any (ji done) f
  have hrows:(((eZ s.m (ji done:Int)).map Prod.snd).getD []).length<=lost.length:=by
   rw[hR (ji done),cz]; exact bU _ _
  cases hla:lost.any (fun p=>p.1==ji done&&decide (p.2=f))
  rotate_left
  ·rw[aZ rfl];rw[hla] at hany;refine⟨{ s with r:=s.r++[.fs f] },D8 rfl (fun B=>?_) (hL.app _) dw,⟨hL.app _,hR,dw,Kept.app _ _,hk,dw⟩⟩
   rw[DI (x:=true) (by rw[hw,hwb]) hf.ok hany.symm aH]
   rfl
  rw[aQ dw];rw[hla] at hany;have hcn:=IT hg;have hcw:=hW done hg;rw[lB] at hcn hcw ⊢;have hcb:DA b.cs done (List.range' 0 b.cs.length)*Tb W r<=min r W*Tb W r:=bd _ aH;obtain⟨s1,hA,hh⟩:=abi h (X4 h hW n r aH) (P:=11+s.r.length) hr hf hK hg b.cs.length 0 lost { s with r:=s.r++[.fs f] } aH (hL.app _) hR aH ⟨s.r.length,rfl,dw⟩ hk hk9
  generalize Hs.Jq oa b.cs (Hs.wS oa ji b.cs n) f done (List.range' 0 b.cs.length) lost=X at hA hh;obtain⟨o,l⟩:=X
  have hen:∀B,eS (aq (rN n)) [.tmp 11] B [] (sub KD 0) (ef 0 (.agg (cg f)::xP (ji done)::wF)) (kD b s)=qZ n B b (ji done) (11+s.r.length) 0 (kD b { s with r:=s.r++[.fs f] }):=fun B=>by
   rw[DI (x:=false) (by rw[hw,hwb]) hf.ok hany.symm aH,Nat.add_comm]
   rfl
  have hk1:=(Kept.app s.r [.fs f]).trans hA.kept;cases o with
  |some o =>
   simp only[bQ,aF] at hh ⊢;refine⟨s1,D8 rfl (fun B=>(hen B).trans (hh B)) hA.lt hk1.len,⟨hA.lt,hA.lr,by have:=hA.len; simp only at this ⊢; omega,hk1,hA.k,hA.out⟩⟩
  |none =>
   simp only[cU,af,aE] at hh ⊢;have hP1:s1.r[s.r.length]?=some (.fs f):=hA.kept.at' s.r.length _ dw (fun _ h=>by cases h)
   have hlr:=hA.lr;have dN:=hA.len;simp only at hlr dN
   have hrows1:(((eZ s1.m (ji done:Int)).map Prod.snd).getD []).length<=l.length:=by
    rw[hlr (ji done),cz]; exact bU _ _
   have hadd:=fun id=>hlr.add (ji done) f id
   cases hgm:eZ s1.m (ji done:Int) with
   |none =>
    have hadd:=hadd (s1.r.length+11);rw[hgm] at hadd;have cQ:=hA.lt.new hgm f;rw[Nat.add_comm 11] at cQ;refine⟨{ s1 with m:=kS s1.m (ji done:Int) (s1.r.length+11,[f]),r:=s1.r++[.tk 1] },D8 rfl (fun B=>(hen B).trans ((hh B).trans (PZ ⟨_,rfl,hP1⟩ hgm))) cQ (by have:=hk1.len; simp only[aA]; omega),⟨cQ,hadd,by simp only[aA,au,az]; omega,hk1.trans (Kept.app _ _),hA.k,hA.out⟩⟩
   |some v =>
    obtain⟨id,l0⟩:=v;have hadd:=hadd id;rw[hgm] at hadd hrows1;have cQ:=hA.lt.more hgm f;obtain⟨i,hi1,hi2⟩:=hA.lt.at' _ _ _ hgm
    have hks:Kept s1.r (s1.r.set (id-11) (.tk (l0.length+1))):=by
     rw[show id-11=i by omega]
     exact Kept.set hi2 _
    refine⟨{ s1 with m:=kS s1.m (ji done:Int) (id,l0++[f]),r:=s1.r.set (id-11) (.tk (l0.length+1)) },D8 rfl (fun B=>(hen B).trans ((hh B).trans (L3 ⟨_,rfl,hP1⟩ hA.lt (by simp only[ep,bC] at hrows1; omega) hgm))) cQ (by have:=(hk1.trans hks).len; exact this),⟨cQ,hadd,by simp only[aA,au,az]; omega,hk1.trans hks,hA.k,hA.out⟩⟩
end Go.Proofs.YteoamaffclmdbaaGreatDoor
namespace Go.Abs
open Go
variable {P:Program} [kx] {C:eL}
def ag.isI:ag->Bool
 | .int _ _=>true
 |_=>false
noncomputable def HG(C:eL)(fn:eE)(args:List ag)(M:aC):Option (ag×aC):=match args with
 | [a,.cE id ver _ lo hi]=>match M[id]? with
  |some (.arr _ v xs)=>if v=ver/\a.plain=true then bJ (Ey C fn [a,.slice .sh ((xs.take hi).drop lo)] []) fun y=>match y.1 with
    | .tuple [.cE k v' _ 0 n,.bool b]=>match y.2[k]? with
     |some (.arr _ u ys)=>if u=v'/\ys.all ag.isI=true then some (.tuple [.slice .sh (ys.take n),.bool b],M) else none
     |_=>none
    |_=>none
   else none
  |_=>none
 |_=>if args.length=fn.nparams then bJ (eM C fn.body (ef 0 args) M) (finish fn.results M.length) else none
def j00:J:=⟨fun _=>none,fun _ _=>False⟩
def aox(W:World):Rel j00 [] W where
 inj:=fun _ _ _ h=>by cases h
 lt:=fun _ _ h=>by cases h
 fix:=fun _ _ h=>by cases h
 tick:=fun _ _ _ _ h=>by cases h
 arr:=fun _ _ _ _ h=>by cases h
 uM:=fun _ _ h=>by cases h
 zz:=fun _ _ h=>h.elim
def XI{j:J}{M:aC}{w:World}{b off:Nat}(h:nM j M w b off):nM j00 [] w b off:=⟨h.lt,(fun id h=>by cases h),fun h=>h⟩
def QN(hmix:P.follows .mixedOrders=true)(hC:ny P C){f:Nat}{fn:eE}{A:BX}{func:Func}(hf:P.funcs[f]?=some func)(hc:oW P A func=some fn){args:List ag}{M:aC}{x:ag×aC}
  (h:HG C fn args M=some x):dp P f args M x:=by
 unfold HG at h;split at h
 ·rename_i a id ver sz lo hi;split at h
  ·rename_i sz0 v xs hM;split at h
   ·rename_i hcond;obtain⟨rfl,hpl⟩:=hcond;obtain⟨y,hy,h⟩:=bm h;split at h
    ·rename_i k v' s' n b hy1;split at h
     ·rename_i s2 u ys hy2;split at h
      ·rename_i hq;obtain⟨rfl,hys⟩:=hq;cases h;have hs:=Eb hmix hC hf hc hy;refine fun j w vs hr hG hl hv=>(hs j00 w vs (aox w) (hG.iv fun b off h=>XI h) hl fun i c u hc hu=>?_).mono ?_
       ·match i,hc with
        |0,hc =>
         cases hc;exact((AN.vN (hv 0 _ u rfl hu) hpl).mono fun b off h=>⟨XI h,rfl⟩).rep
        |1,hc =>
         cases hc;have h1:=hv 1 _ u rfl hu;cases h1 with
         |plain h1=>cases h1
         |cE h0 hid hMl hv2 =>
          obtain⟨_,k2⟩:=hv2 _ _ _ hM;obtain⟨rfl,l1,l2,⟨rfl,_,A,rfl⟩|⟨b,cap,vs,t,l3,rfl,l5,l6,l7⟩⟩:=k2 rfl
          ·simp only[nR,List.drop_nil];exact .plain (fP.nil _ _ _)
          obtain⟨b',vs',t',g1,g2,g3,g4,g5⟩:=hr.w9 hM l3;rw[l3] at g1; cases g1;exact .plain (tJ g2 g4 g5 (fun b off h=>XI h) (fun off _=>⟨hr.lt id b hid l3,(fun id h=>by cases h),fun h=>h⟩) l1 l2 l5)
        |i+2,hc=>simp at hc
       ·rintro e w' (⟨u,rfl,j2,g1,g2,g3⟩|⟨u,rfl,hu,_⟩)
        ·have hold:∀b,b<w.heap.size->w'.heap[b]?=w.heap[b]?/\∀i,i<y.2.length->j2 i≠some b:=fun b hb=>g2.tV b hb fun i hi=>by cases hi
         refine .inl ⟨u,rfl,j,hr.grow g2.size g2.os g2.tape g2.output fun b hb=>(hold b hb).1,Ext.grow g2.size g2.os g2.tape g2.output fun b hb=>(hold b hb).1,?_⟩
         rw[hy1] at g3;cases g3 with
         |plain g3=>cases g3
         |tuple hl' h' =>
          refine .tuple hl' fun i c q hc hq=>?_
          match i,hc with
          |0,hc =>
           cases hc;have h1:=h' 0 _ q rfl hq;cases h1 with
           |plain h1=>cases h1
           |cE h0 hid hMl hv2 =>
            obtain⟨_,k2⟩:=hv2 _ _ _ hy2;obtain⟨rfl,l1,l2,⟨rfl,_,A,rfl⟩|⟨b,cap,vs,t,l3,rfl,l5,l6,l7⟩⟩:=k2 rfl
            ·have:n=0:=by simpa using l2
             subst this;simp only[nR];exact .plain (fP.nil _ _ _)
            obtain⟨b',vs',t',e1,e2,e3,e4,e5⟩:=g1.w9 hy2 l3;rw[l3] at e1; cases e1
            have jq:w.heap.size<=b:=by
             rcases bA b w.heap.size with hb|hb
             ·exact absurd l3 ((hold b hb).2 k hid)
             ·exact hb
            have:=tJ (iv:=fun _ _=>False) (saf':=nM j M w') e2 e4 (fun q x k c hx hk=>by
              obtain⟨v,z1,z2⟩:=e5 q x k c hx hk;refine⟨v,z1,?_⟩;have hx1:=bK.1 hys x (aJ hx);cases x<;>first|cases hx1|skip
              match k,hk with
              |0,hk =>
               cases hk;cases z2;exact .int _ _
              |k+1,hk=>simp[ag.cells] at hk) (fun _ _ h=>h.elim) (fun off _=>⟨lt_of_block e2,fun id hid hj=>by have:=hr.lt id b hid hj; omega,fun h=>by have:=hr.zz b off h; omega⟩) l1 l2 l5
            exact .plain this
          |1,hc =>
           cases hc;have h1:=h' 1 _ q rfl hq;cases h1 with
           |plain h1=>cases h1; exact .plain (.bool _)
          |i+2,hc=>simp at hc
        ·rw[hy1] at hu; cases hu
      ·cases h
     ·cases h
    ·cases h
   ·cases h
  ·cases h
 ·split at h
  ·rename_i hl;exact(Jl hmix hC hf hc hl h).2
  ·cases h
def aiA{fn:eE}{M M':aC}{a:ag}{id ver sz sz0 n k v' s' s2:Nat}{xs ys:List ag}{b:Bool}(hM:M[id]?=some (.arr sz0 ver xs))(ha:a.plain=true)(h:Ey C fn [a,gv xs] []=some (.tuple [.cE k v' s' 0 n,.bool b],M'))
  (hk:M'[k]?=some (.arr s2 v' ys)) (hy:ys.all ag.isI=true):HG C fn [a,.cE id ver sz 0 xs.length] M=some (.tuple [gv (ys.take n),.bool b],M):=by
 simp only[HG,hM,ha,jw,aF,bE,ly,h,bN,hk,hy]
def aiB{fn:eE}{M:aC}{a:ag}{tk:Tk}{xs:List ag}{x:ag×aC}(hl:fn.nparams=2)(h:eS C fn.results M.length [] fn.body (ef 0 [a,.slice tk xs]) M=some x):HG C fn [a,.slice tk xs] M=some x:=by
 simp only[HG,hl,au,az,aF];unfold eS at h;obtain⟨o,h1,h2⟩:=bm h;rw[h1]; exact h2
end Go.Abs
