import Derived.Test.YteoamaffclmdbaaGreatDoorHcaE
set_option linter.unusedSimpArgs false
set_option linter.unusedVariables false
set_option linter.unusedSectionVars false
set_option linter.defProp false
open Go.Proofs.Tryz
namespace Go.Proofs.YteoamaffclmdbaaGreatDoor
open Go Go.Abs
def SN{l:List Node}(h:oU l){i j:Nat}{n m:Node}(hi:l[i]?=some n)(hj:l[j]?=some m)(e:n.ar=m.ar):i=j:=by
 obtain⟨i1,i2⟩:=aj.1 hi;obtain⟨j1,j2⟩:=aj.1 hj;have hp:=cd.1 h;rcases iX i j with cG|rfl|cG
 ·have:=hp i j i1 j1 cG; rw[i2,j2] at this; omega
 ·rfl
 ·have:=hp j i j1 i1 cG; rw[i2,j2] at this; omega
def Xm{s:iL}(hs:oU s.now.ae)(hl:s.since.length=s.now.ae.length)(T:Int)(n:Node):(∃(j:Nat),s.now.ae[j]?=some n/\s.since[j]?=some (rK s T n))\/(find s.now.ae n.ar≠some n/\rK s T n=T):=by
 unfold rK;rcases CO hs n.ar with ⟨_,h2,h3,h4⟩|⟨_,h2,h3⟩
 ·by_cases e:n=bl s.now.ae n.ar
  ·left;have hj:=(aj.1 h3).1;refine⟨_,by rw[h3,<-e],?_⟩
   rw[aZ (by rw[h2]; simp[<-e])]
   rw[lg,ai aH]; rfl
  ·right;rw[aR (by simp[e]),h4]
   exact⟨fun hh=>e (by injection hh with hh; exact hh.symm),rfl⟩
 ·right;rw[h3,aR (by rw[h2]; simp)]
  simp
def Cj{t:Tree}{tk:List mT}{c:Int}:∀(l:List Node)(y:List Int)(n:Node)(x:Int),l.length=y.length->lO t tk c (l++[n]) (y++[x])=lO t tk c l y++lO t tk c [n] [x]
 | [],[],n,x,_=>by simp[lO]
 |a::l,b::y,n,x,h=>by simp only[aI,lO,Cj l y n x (by simpa using h),bZ]
def Stp(P:Int->Prop)(s u:iL):Prop:=u=s\/(∃t,Rt t/\u=qt s t)\/(∃i,u=(takeN s i).1)\/∃d,P d/\u=(rq s d).1
def aa7(s:iL)(t:Tree)(c:Int):List po:=s.eR++lO t s.dP c s.now.ae s.since
section
attribute [local irreducible] eX fM lu gK dX kr aq aU cr bJ
def c86(l:List mT)(a b:Int)(hn:l.length<=100000):aq bW 86 [ki l,aF a,aF b] []=some (.bool (xD l a b),[]):=by
 refine aB ?_;simp only[alV,E86,EW,seval];refine AY (xs:=l) aH (fun post (_:Unit)=>post.any (zk a b)) (fun _ i=>[(0,ki l),(1,aF a),(2,aF b),(7,aF i)]) (fun _=>[]) (fun z=>some (ag.bool z,([]:aC))) (fun _=>?_) (fun pre x post _ e hx cG hw h0 hm hi=>?_) ()
 ·simp only[E86,br,oV,EW,seval]
 ·have i1:=hi ();rw[jR,zk]
  cases h1:decide (a<=x.at')<;>cases h2:decide (x.at'<b) <;>
   simp only[E86,cG,hx,hw,h0,h1,h2,kS,iB,dV,dZ,dW,dH,cQ,EW,seval]<;>exact i1
def k86 l a b hn:=cP (c86 l a b hn)
abbrev J0(s:iL)(t:Tree):aC:=[.cells (bL s),.cells [ba t.ae,.int .i64 t.next,.int .i64 t.ak],.cells [.slice .c0 [],.int .i64 0,.int .i64 0,.int .i64 0,.slice .c0 [],.slice .c0 [],.slice .c0 [],.int .i64 0]]
abbrev JZ(c:Int):Env:=[(2,.ptr 0 0),(3,.ptr 1 0),(4,.ptr 2 0),(5,.int .i64 c)]
section
variable {s:iL} {t:Tree} {Q:ag×aC->Prop} {c:Int}
def aaD(hs:Rt s.now)(ht:Rt t)(hl:s.since.length=s.now.ae.length)(hk:s.dP.length<=16)(hp:s.eR.length<=90000){k:List K}
  (hx:∀z,∃r,Q r/\kr (aq bW) [.dE 4 8] 0 k ⟨.exit 0,JZ c++(6,.slice (.own 3) ((aa7 s t c).map lX))::z,J0 s t++[.tick 8 (aa7 s t c).length]⟩=some r) :
  ∃r,Q r/\eX (aq bW) [.dE 4 8] 0 k (.loop [2,3,4,5,6,7] ag0) (JZ c++[(6,.slice (.own 3) (s.eR.map lX)),(7,aF 0)]) (J0 s t++[.tick 8 s.eR.length])=some r:=by
 have h200:=hs.sz.ae;refine jc (xs:=s.now.ae) aH (fun m (P:List po)=>P.length<=s.eR.length+m/\P=s.eR++lO t s.dP c (s.now.ae.take m) (s.since.take m)) (fun P i=>JZ c++[(6,.slice (.own 3) (P.map lX)),(7,aF i)]) (fun P=>J0 s t++[.tick 8 P.length]) Q (fun P hP=>?_) (fun pre x post P e hx' cG hw h0 hm hP hi=>?_) s.eR ⟨au _,by simp[lO]⟩
 ·have hP:=hP.2;rw[bE,<-hl,bE] at hP;have hP:aa7 s t c=P:=hP.symm;simp only[hP,J0,JZ,bL,aI,aP] at hx ⊢;simp only[QD,br,EW,seval];exact hx _
 ·have hlx:=(aj.1 hx').1;obtain⟨y,hy⟩:∃y,s.since[pre.length]?=some y:=⟨_,ai aH⟩;have qg:=fun M=>Bh t.ae t.next t.ak x.ar (by have:=ht.sz.ae; omega) M
  have hc:lO t s.dP c [x] [y]=if (!(find t.ae x.ar).isSome || !decide (x=(find t.ae x.ar).getD Node.zero))&&xD s.dP y c then [⟨y,c,x⟩] else []:=by
   rw[lO,lO,cX]
   ·rcases CO ht.lK.mo x.ar with ⟨_,h2,_,h4⟩|⟨_,h2,h4⟩
    ·have e1:decide (Yn t.ae x.ar<0)=false:=by rw[h2]; simp
     rw[e1,h4]; rfl
    ·rw[h2,h4]; simp
   ·rintro _ _ _ _ ⟨⟩
  have hi:=hi (P++lO t s.dP c [x] [y]) ⟨by
   have:=(Bv t s.dP c [x] [y]).1;simp only[aA,aw,az] at this ⊢; omega,by
   rw[cB,cB,hx',hy];simp only[kI];rw[Cj _ _ _ _ gh,<-bZ,<-hP.2]⟩
  rw[hc] at hi;generalize (find t.ae x.ar).getD Node.zero=n at qg hi;generalize (find t.ae x.ar).isSome=b at qg hi;have qs:=fun M=>k88 x n (by have:=(hs.XV hm).1; omega) M
  have qw:=fun M=>k86 s.dP y c aH M
  generalize decide (x=n)=d at qs hi;generalize xD s.dP y c=w at qw hi;have r1:cp (P.length+1) 96=True:=qH;simp only[J0,JZ,bL,aI,aP,aL] at hi qs ⊢;cases b<;>cases d<;>cases w<;>simp only[dQ,fO,er,fF,gA,dV,dZ,dW,af,aJ,aD,cX,aW,aE,aQ,aA,aw,az,aG,lX,mL,aL] at hi<;>simp only[QD,cG,hx',hy,hw,h0,qg,qs,qw,r1,bK,aL,mU,EW,seval]<;>exact hi
def aaE(hs:Rt s.now)(hl:s.since.length=s.now.ae.length){P:List po}{S:List Int}{i:Nat}{n:Node}(hn:t.ae[i]?=some n){k:List K}
  (hx:∀z,∃r,Q r/\kr (aq bW) [.dE 4 8] 0 k ⟨.exit 4,JZ c++(6,.slice (.own 3) (P.map lX))::(11,.slice (.own 4) (S.map mU))::(12,aF i)::(13,aF (rK s c n))::z,J0 s t++[.tick 8 P.length,.tick 1 S.length]⟩=some r) :
  ∃r,Q r/\eX (aq bW) [.dE 4 8] 0 k (.loop [2,3,4,5,6,11,12,13,14] ag1) (JZ c++[(6,.slice (.own 3) (P.map lX)),(11,.slice (.own 4) (S.map mU)),(12,aF i),(13,aF c),(14,aF 0)]) (J0 s t++[.tick 8 P.length,.tick 1 S.length])=some r:=by
 have h200:=hs.sz.ae;have b1:((i:Int)<0)=False:=dy;refine jc (xs:=s.now.ae) aH (fun m (x:Int)=>(x=c/\∀(j:Nat),j<m->s.now.ae[j]?≠some n)\/∃j:Nat,j<m/\s.now.ae[j]?=some n/\s.since[j]?=some x) (fun(x:Int) j=>JZ c++[(6,.slice (.own 3) (P.map lX)),(11,.slice (.own 4) (S.map mU)),(12,aF i),(13,aF x),(14,aF j)]) (fun _=>J0 s t++[.tick 8 P.length,.tick 1 S.length]) Q (fun x hI=>?_) (fun pre m post x e hx' cG hw h0 hm hI hi=>?_) c (.inl ⟨rfl,fun j hj=>aH⟩)
 ·have he:x=rK s c n:=by
   rcases Xm hs.lK.mo hl c n with ⟨j,j1,j2⟩|⟨j1,j2⟩<;>rcases hI with ⟨h1,h2⟩|⟨i,h1,h2,h3⟩
   ·exact absurd j1 (h2 j (aj.1 j1).1)
   ·have:=SN hs.lK.mo j1 h2 rfl;subst this;rw[j2] at h3; injection h3 with h3; exact h3.symm
   ·rw[h1,j2]
   ·exact absurd ((ic hs.lK.mo).2 ⟨aK h2,rfl⟩) j1
  subst he;simp only[J0,JZ,bL,aI,aP] at hx ⊢;simp only[QD,br,EW,seval];exact hx _
 ·have hlx:=(aj.1 hx').1;obtain⟨y,hy⟩:∃y,s.since[pre.length]?=some y:=⟨_,ai aH⟩;have qs:=fun M=>k88 m n (by have:=(hs.XV hm).1; omega) M
  have i1:m≠n->_:=fun hne=>hi x (by
   rcases hI with ⟨h1,h2⟩|⟨j,h1,h2⟩
   ·refine .inl ⟨h1,fun j hj=>?_⟩
    by_cases e:j=pre.length
    ·rw[e,hx']; exact fun hh=>hne (by injection hh)
    ·exact h2 j aH
   ·exact .inr ⟨j,aH,h2⟩)
  have i2:m=n->_:=fun he=>hi y (.inr ⟨pre.length,aH,by rw[hx',he],hy⟩)
  simp only[J0,JZ,bL,aI,aP,aL] at i1 i2 qs ⊢
  by_cases hd:m=n
  ·rw[kf hd] at qs;simp only[QD,cG,hx',hy,hn,b1,hw,h0,qs,bK,aL,mU,EW,seval];exact i2 hd
  ·rw[iY hd] at qs;simp only[QD,cG,hx',hy,hn,b1,hw,h0,qs,bK,aL,mU,EW,seval];exact i1 hd
def aaF(hs:Rt s.now)(ht:Rt t)(hl:s.since.length=s.now.ae.length){P:List po}{k:List K}
  (hx:∀z,∃r,Q r/\kr (aq bW) [.dE 4 8] 0 k ⟨.exit 2,JZ c++(6,.slice (.own 3) (P.map lX))::(11,.slice (.own 4) ((t.ae.map (rK s c)).map mU))::z,J0 s t++[.tick 8 P.length,.tick 1 (t.ae.map (rK s c)).length]⟩=some r) :
  ∃r,Q r/\eX (aq bW) [.dE 4 8] 0 k (.loop [2,3,4,5,6,11,12] ag2) (JZ c++[(6,.slice (.own 3) (P.map lX)),(11,.slice (.own 4) []),(12,aF 0)]) (J0 s t++[.tick 8 P.length,.tick 1 0])=some r:=by
 have h200:=ht.sz.ae;refine jc (xs:=t.ae) aH (fun m (S:List Int)=>S=(t.ae.take m).map (rK s c)) (fun S i=>JZ c++[(6,.slice (.own 3) (P.map lX)),(11,.slice (.own 4) (S.map mU)),(12,aF i)]) (fun S=>J0 s t++[.tick 8 P.length,.tick 1 S.length]) Q (fun S hS=>?_) (fun pre n post S e hx' cG hw h0 hm hS hi=>?_) [] rfl
 ·rw[bE] at hS;simp only[<-hS,J0,JZ,bL,aI,aP] at hx ⊢;simp only[QD,br,EW,seval];exact hx _
 ·have hlx:=(aj.1 hx').1;have hSl:S.length=pre.length:=by rw[hS]; simp; omega
  have lb:=fun {k} h2=>aaE (s:=s) (t:=t) (Q:=Q) (c:=c) hs hl (P:=P) (S:=S) hx' (k:=k) h2
  have r1:cp (S.length+1) 8=True:=qH;have i1:=hi (S++[rK s c n]) (by rw[cB,hx',hS]; simp)
  simp only[J0,JZ,bL,aI,aP,aW,aE,aQ,aA,aw,az,aG,mU] at lb i1 ⊢;simp only[QD,cG,EW,seval];refine lb (fun z=>?_)
  simp only[QD,hw,r1,uz,mU,EW,seval];exact i1
end
def c49(s:iL)(t:Tree)(hs:Rt s.now)(ht:Rt t)(hl:s.since.length=s.now.ae.length)(hk:s.dP.length<=16)(hp:s.eR.length<=90000):aq bW 49 [.agg (bL s),bq t] []=some (.agg (bL (qt s t)),[]):=by
 have key:∃r:ag×aC,r=(.agg (bL (qt s t)),[])/\eX (aq bW) Pg.results 0 [] Pg.body (eF 0 [.agg (bL s),bq t]) []=some r:=by
  have h200:=hs.sz.ae;have qs:=fun M=>k87 s.now t aH (fun n hn=>by have:=(hs.XV hn).1; omega) M
  unfold qt;cases hd:decide (s.now=t)<;>rw[hd] at qs
  ·have la:=fun {k Q} hx=>aaD (s:=s) (t:=t) (Q:=Q) (c:=IntKind.i64.wrap (s.tick+1)) hs ht hl hk hp (k:=k) hx
   have r1:cp s.eR.length 96=True:=qH;simp only[J0,JZ,bL,aI,aP] at la;simp only[Pg,QD,bL,bq,aM,qs,r1,EW,seval];refine la (fun z=>?_)
   have lc:=fun {k Q} hx=>aaF (s:=s) (t:=t) (Q:=Q) (c:=IntKind.i64.wrap (s.tick+1)) hs ht hl (P:=aa7 s t (IntKind.i64.wrap (s.tick+1))) (k:=k) hx
   simp only[J0,JZ,bL,aI,aP] at lc;simp only[QD,EW,seval];refine lc (fun z=>?_)
   simp only[QD,af,aD,EW,seval];exact⟨_,rfl,rfl⟩
  ·simp only[Pg,QD,bL,bq,aM,qs,aJ,EW,seval];exact⟨_,rfl,rfl⟩
 obtain⟨_,rfl,h3⟩:=key;exact aB h3
def c79(s:iL)(ar:Int)(hs:s.now.ae.length<=100000)(hk:s.dP.length<=16):∃i e,aq bW 79 [.agg (bL s),aF ar] []=some (.tuple [.agg (bL (takeN s ar).1),aF i,aF e],[]):=by
 have qg:=fun M=>Bh s.now.ae s.now.next s.now.ak ar hs M
 unfold takeN bl;generalize (find s.now.ae ar).getD Node.zero=n at qg;cases h1:(find s.now.ae ar).isSome<;>rw[h1] at qg
 ·refine⟨0,70,aB ?_⟩;simp only[Lx,E79,bL,bK,aL,qg,fO,aJ,EW,seval]
 cases h2:n.kind != 2
 case true =>
  refine⟨0,73,aB ?_⟩;simp only[Lx,E79,bL,bK,aL,qg,h2,dQ,af,aJ,aD,EW,seval]
 simp only[pZ];cases h3:decide (16<=(s.dP.length:Int))
 case true =>
  refine⟨0,76,aB ?_⟩;simp only[Lx,E79,bL,bK,aL,qg,h2,h3,dQ,dH,af,aJ,aD,EW,seval]
 cases h4:decide (1099511627776<=s.next)
 case true =>
  refine⟨0,76,aB ?_⟩;simp only[Lx,E79,bL,bK,aL,qg,h2,h3,h4,dQ,er,af,aJ,aD,EW,seval]
 have h16:s.dP.length<16:=by simp at h3; omega
 have r1:cp s.dP.length 24=True:=qH;have r2:cp (s.dP.length+1) 24=True:=qH;refine⟨s.next,0,aB ?_⟩
 simp only[Lx,E79,bL,bK,aL,qg,h2,h3,h4,r1,r2,aW,kS,dQ,fG,af,aD,EW,seval];rw[show ki (s.dP++[⟨s.next,ar,s.tick⟩]) = gS (s.dP.map kS++[.agg [aF s.next,aF ar,aF s.tick]]) by simp[kS,iB]]
end
def tG(ae:List Node)(i:Int):Prop:=∃n,find ae i=some n/\n.kind=1
def Zr(ae:List Node):Prop:=oU ae/\¬tG ae 0
def KF(a b:List Node):Prop:=Zr b/\∀i,tG a i->tG b i
theorem KF.trans{a b c:List Node}(h:KF a b)(k:KF b c):KF a c:=⟨k.1,fun i hi=>k.2 i (h.2 i hi)⟩
def Rt.zr{t:Tree}(h:Rt t):Zr t.ae:=by
 obtain⟨dD,g⟩:=h;exact⟨g.lK.mo,fun⟨n,h1,_⟩=>by have:=(g.num _ _ h1).1; omega⟩
def KF.refl{a:List Node}(h:Zr a):KF a a:=⟨h,fun _ hi=>hi⟩
def DW{ae:List Node}(h:oU ae){n:Node}(hn:tG ae n.ar->n.kind=1){i:Int}(hi:tG ae i):tG (eT ae n) i:=by
 unfold tG;rw[gm h];split
 ·rename_i e; exact⟨n,rfl,hn (e▸hi)⟩
 ·exact hi
def Zr.edit{ae:List Node}(h:Zr ae)(d:Int){n:Node}(h1:n.ar=(bl ae d).ar)(h2:n.kind=(bl ae d).kind):KF ae (eT ae n):=by
 have key:∀i,tG ae i->i=n.ar->n.kind=1:=by
  intro i hi e;cases hd:find ae d with
  |none =>
   have:bl ae d=Node.zero:=by simp[bl,hd]
   rw[h1,this] at e;subst e;exact absurd hi h.2
  |some m =>
   have:bl ae d=m:=by simp[bl,hd]
   rw[this] at h1 h2;have hm:=(cD hd).2;obtain⟨x,g1,g2⟩:=hi;rw[e,h1,hm,hd] at g1;injection g1 with g1
   rw[h2,g1]; exact g2
 refine⟨⟨lL h.1 n,fun⟨x,g1,g2⟩=>?_⟩,fun i hi=>DW h.1 (fun hf=>key _ hf rfl) hi⟩
 rw[gm h.1] at g1;split at g1
 ·rename_i e;injection g1 with g1
  subst g1;cases hd:find ae d with
  |none =>
   have:bl ae d=Node.zero:=by simp[bl,hd]
   rw[h2,this] at g2;cases g2
  |some m =>
   have:bl ae d=m:=by simp[bl,hd]
   rw[this] at h1 h2;have hm:=(cD hd).2;exact h.2 ⟨m,by rw[e,h1,hm]; exact hd,by rw[<-h2]; exact g2⟩
 ·exact h.2 ⟨x,g1,g2⟩
def Zr.B4{ae:List Node}(h:Zr ae)(d:Int){n:Node}(h1:n.ar=(bl ae d).ar)(h2:n.kind=(bl ae d).kind){i:Int}(hi:tG (eT ae n) i):tG ae i:=by
 obtain⟨x,g1,g2⟩:=hi;rw[gm h.1] at g1;split at g1
 ·rename_i e;injection g1 with g1
  subst g1;cases hd:find ae d with
  |none =>
   have:bl ae d=Node.zero:=by simp[bl,hd]
   rw[h2,this] at g2;cases g2
  |some m =>
   have:bl ae d=m:=by simp[bl,hd]
   rw[this] at h1 h2;exact⟨m,by rw[e,h1,(cD hd).2]; exact hd,by rw[<-h2]; exact g2⟩
 ·exact⟨x,g1,g2⟩
def Zr.EP{ae:List Node}(h:Zr ae)(k:Int){i:Int}(hi:tG (fm ae k) i):tG ae i:=by
 unfold fm at hi;split at hi
 ·obtain⟨x,g1,g2⟩:=hi;rw[mj h.1] at g1;split at g1
  ·cases g1
  ·exact⟨x,g1,g2⟩
 ·exact h.B4 k (by rfl) (by rfl) hi
def Zr.uU{ae:List Node}(h:Zr ae)(k:Int):Zr (fP ae k)/\∀i,tG ae i->i≠k->tG (fP ae k) i:=by
 refine⟨⟨rM h.1 k,fun⟨x,g1,g2⟩=>?_⟩,fun i hi hk=>?_⟩
 ·rw[mj h.1] at g1;split at g1
  ·cases g1
  ·exact h.2 ⟨x,g1,g2⟩
 ·unfold tG;rw[mj h.1,aR hk]; exact hi
def Zr.unnamed{ae:List Node}(h:Zr ae)(k:Int):KF ae (fm ae k):=by
 unfold fm;split
 ·rename_i hk;obtain⟨g1,g2⟩:=h.uU k;refine⟨g1,fun i hi=>g2 i hi ?_⟩
  rintro rfl;obtain⟨n,h1,h2⟩:=hi;simp[bl,h1,h2] at hk
 ·exact h.edit k rfl rfl
def Jk{t:Tree}(h:Rt t)(k:Int){i:Int}(hi:tG t.ae i)(hk:i≠k):tG (kJ t k).1.ae i:=by
 unfold kJ
 repeat' split
 all_goals first|exact hi|exact(h.zr.uU k).2 i hi hk
def Zr.left{ae:List Node}(h:Zr ae)(d:Int)(s:Bytes):KF ae (dx ae d s):=h.edit d rfl rfl
def Zr.nH{t:Tree}(h:Zr t.ae)(d:Int)(s:Bytes)(o:Int):KF t.ae (il t d s o).ae:=h.edit d rfl rfl
def S4{t:Tree}(h:Rt t)(d:Int)(s:Bytes)(k:Int):KF t.ae (rU t d s k).1.ae:=by
 have hz:=h.zr;unfold rU;split
 ·exact KF.refl hz
 split
 ·exact KF.refl hz
 split
 ·exact KF.refl hz
 ·obtain⟨dD,g⟩:=h;have h0:¬tG t.ae t.next:=fun⟨n,h1,_⟩=>by have:=(g.num _ _ h1).2; omega
  have h1:1<=t.next:=by
   obtain⟨r,g1,_⟩:=g.root;have:=(g.num _ _ g1).2; omega
  have hw:KF t.ae (eT t.ae ⟨t.next,k,1,[],[],if k==2 then d else 0⟩):=by
   refine⟨⟨lL hz.1 _,fun⟨x,g1,g2⟩=>?_⟩,fun i hi=>DW hz.1 (fun hf=>absurd hf h0) hi⟩
   rw[gm hz.1,aR (show ¬((0:Int)=t.next) by omega)] at g1
   exact hz.2 ⟨x,g1,g2⟩
  exact hw.trans (Zr.nH (t:=⟨_,nw (t.next+1),t.ak⟩) hw.1 d s t.next)
def Zh{t:Tree}(h:Rt t)(i d:Int)(s:Bytes):KF t.ae (CK t i d s).1.ae:=by
 have hz:=h.zr;unfold CK;split
 ·exact KF.refl hz
 split
 ·exact KF.refl hz
 split
 ·exact KF.refl hz
 ·have hw:KF t.ae (eT t.ae { bl t.ae i with eE:=nw ((bl t.ae i).eE+1) }):=hz.edit i rfl rfl
  exact hw.trans (Zr.nH (t:=⟨_,t.next,t.ak⟩) hw.1 d s i)
def Zj{t:Tree}(h:Rt t)(d:Int)(s:Bytes):KF t.ae (BN t d s).1.ae:=by
 have hz:=h.zr;unfold BN;split
 ·exact KF.refl hz
 split
 ·exact KF.refl hz
 ·exact(hz.left d s).trans ((hz.left d s).1.unnamed _)
def Jn{t:Tree}(h:Rt t)(i:Int)(d:Bytes):KF t.ae (rP t i d).1.ae:=by
 have hz:=h.zr;unfold rP;split
 ·exact KF.refl hz
 split
 ·exact KF.refl hz
 split
 ·exact KF.refl hz
 ·exact hz.edit i rfl rfl
def Zi{t:Tree}(h:Rt t)(d:Int)(s:Bytes)(to:Int)(nm:Bytes):KF t.ae (wP t d s to nm).1.ae:=by
 have hz:=h.zr;unfold wP;split
 ·exact KF.refl hz
 split
 ·exact KF.refl hz
 split
 ·exact KF.refl hz
 split
 ·exact KF.refl hz
 split
 ·exact KF.refl hz
 split
 ·exact KF.refl hz
 split
 ·exact KF.refl hz
 ·generalize (fg t.ae d s).1=x;generalize jf (gV t.ae to).1.bc nm=y;unfold tc;have h1:=hz.left d s
  have h2:KF t.ae (if y != 0 then fm (dx (dx t.ae d s) to nm) y else dx t.ae d s):=by
   split
   ·exact h1.trans ((h1.1.left to nm).trans ((h1.1.left to nm).1.unnamed y))
   ·exact h1
  split
  ·rename_i hk
   have hx:∃m,find t.ae x=some m/\bl t.ae x=m:=by
    cases hf:find t.ae x with
    |none=>simp[bl,hf,Node.zero] at hk
    |some m=>exact⟨m,rfl,by simp[bl,hf]⟩
   obtain⟨m,m1,m2⟩:=hx;rw[m2] at hk ⊢;have hmi:=(cD m1).2;have hmk:m.kind=2:=by simpa using hk
   have hb:∀i,tG (if y != 0 then fm (dx (dx t.ae d s) to nm) y else dx t.ae d s) i->tG t.ae i:=by
    intro i hi;split at hi
    ·exact hz.B4 d (by rfl) (by rfl) (h1.1.B4 to (by rfl) (by rfl) ((h1.1.left to nm).1.EP y hi))
    ·exact hz.B4 d (by rfl) (by rfl) hi
   generalize (if y != 0 then fm (dx (dx t.ae d s) to nm) y else dx t.ae d s)=B at h2 hb
   have hw:KF B (eT B { m with up:=to }):=by
    refine⟨⟨lL h2.1.1 _,fun⟨z,g1,g2⟩=>?_⟩,fun i hi=>DW h2.1.1 (fun hf=>?_) hi⟩
    ·rw[gm h2.1.1] at g1;split at g1
     ·injection g1 with g1
      rw[<-g1] at g2;simp only at g2;omega
     ·exact h2.1.2 ⟨z,g1,g2⟩
    ·simp only at hf;rw[hmi] at hf;obtain⟨z,g1,g2⟩:=hb _ hf;rw[m1] at g1; injection g1 with g1
     rw[<-g1] at g2;omega
   exact(h2.trans hw).trans (Zr.nH (t:=⟨_,t.next,t.ak⟩) hw.1 to nm x)
  ·exact h2.trans (Zr.nH (t:=⟨_,t.next,t.ak⟩) h2.1 to nm x)
def Mk(ae:List Node)(m:List Bool)(v:Int):Prop:=∀(a:Nat)(y:Node),ae[a]?=some y->y.ar=v->m[a]?=some true
def Clo(ae:List Node)(ar:Int)(m:List Bool):Prop:=∀(i:Nat)(x:Node),ae[i]?=some x->(x.ar=ar\/m[i]?=some true)->∀e,e∈x.bc->Mk ae m e.ar
def nT(m:List Bool):Nat:=m.countP id
def ahi{m:List Bool}{a:Nat}(h:m[a]?=some false):nT (m.set a true)=nT m+1:=by
 have ha:=(aj.1 h).1;have hv:=(aj.1 h).2;unfold nT;rw[List.countP_set ha];simp[hv]
def aet{ae:List Node}(h:oU ae){a b:Nat}{x y:Node}(hx:ae[a]?=some x)(hy:ae[b]?=some y)(e:x.ar=y.ar):a=b:=by
 obtain⟨ha,rfl⟩:=aj.1 hx;obtain⟨hb,rfl⟩:=aj.1 hy;rcases iX a b with h1|h1|h1
 ·have:=cd.1 h _ _ ha hb h1; omega
 ·exact h1
 ·have:=cd.1 h _ _ hb ha h1; omega
def ae3{t:Tree}{dD:Int->Nat}(h:dS t dD 0){ar:Int}{m:List Bool}(hc:Clo t.ae ar m){v:Int}(hv:InB t.ae ar v):Mk t.ae m v:=by
 have step:∀ {d:Node},d∈t.ae->(d.ar=ar\/Mk t.ae m d.ar)->∀e,e∈d.bc->Mk t.ae m e.ar:=fun hd ho e he=>by
  obtain⟨a,ha⟩:=bV hd;exact hc a _ ha (ho.imp id fun hk=>hk a _ ha rfl) e he
 have key:∀(c:Nat)(i:Int)(n:Node),find t.ae i=some n->n.kind=2->dD i=c->iJ t.ae i ar=true->i=ar\/Mk t.ae m i:=by
  intro c;induction c with
  |zero =>
   intro i n hi hk hd hb
   by_cases ho:i=ar
   ·exact .inl ho
   ·by_cases h1:i=1
    ·subst h1;rw[dS.qM (fun hh=>ho hh.symm)] at hb; cases hb
    ·have:=(h.qF _ _ hi hk h1).1; omega
  |succ c ih =>
   intro i n hi hk hd hb
   by_cases ho:i=ar
   ·exact .inl ho
   ·right;have h1:i≠1:=fun hh=>by subst hh; have:=h.CE; omega
    rw[h.su hi hk h1 ho] at hb;obtain⟨a,q,hq,hqk⟩:=h.qF _ _ hi hk h1;obtain⟨p,e',p1,p2,p3,p4⟩:=h.named hi hk h1 (by have:=(h.num _ _ hi).1; omega)
    have hp:=ih n.up p p1 p2 aH hb;have:=step (cD p1).1 (by rw[(cD p1).2]; exact hp) e' p3
    rwa[p4] at this
 obtain⟨d,e,hd,hk,hb,he,rfl⟩:=hv;exact step hd (key _ _ d ((ic h.lK.mo).2 ⟨hd,rfl⟩) hk rfl hb) e he
def ahX{ae:List Node}:∀ {a b:List Bool},a.length=ae.length->b.length=ae.length->(∀i:Nat,a[i]?=some true->b[i]?=some true)->nT a<=nT b/\HR ae a<=HR ae b:=by
 induction ae with
 |nil =>
  intro a b ha hb _;rw[dB ha,dB hb];exact⟨au _,au _⟩
 |cons n r ih =>
  intro a b ha hb hab;cases a with
  |nil=>cases ha
  |cons x a =>
  cases b with
  |nil=>cases hb
  |cons y b =>
  obtain⟨h1,h2⟩:=ih (a:=a) (b:=b) (by simpa using ha) (by simpa using hb) fun i hi=>by simpa using hab (i+1) (by simpa using hi)
  have h0:x=true->y=true:=fun e=>by simpa using hab 0 (by simp[e])
  simp only[nT,HR] at h1 h2 ⊢;simp only[lR,List.zip_cons_cons,aE,List.sum_cons,id] at h1 h2 ⊢;cases x<;>cases y<;>simp at h0 ⊢ <;> omega
def Rp{t:Tree}(hr:Rt t){ar:Int}{m:List Bool}(hm:m.length=t.ae.length)(hc:Clo t.ae ar m):(lq t.ae ar).1<=nT m/\(lq t.ae ar).2<=HR t.ae m:=by
 rw[HO hr];obtain⟨dD,h⟩:=hr;obtain⟨q,h1,h2⟩:=w8 t.ae ar
 have:=ahX (ae:=t.ae) (a:=sy t.ae ar) (b:=m) (by rw[h1]; simp) hm fun i hi=>by
  rw[h1,aX] at hi;obtain⟨n,hn,hq⟩:=aV.1 hi;exact ae3 h hc ((h2 n).1 hq) i n hn rfl
 unfold nT at this ⊢;unfold OY;simp only;omega
def Y8{l:List dN}(h:pw l)(ar:Int):F4 l ar=true↔∃x,x∈l/\x.ar=ar:=by
 have hl:=ya h ar;unfold F4 pg
 have hc:∀a b:Int,(qO a b==0)=true↔a=b:=fun a b=>by
  unfold qO;simp only[bh,eG];split
  ·constructor<;>intro<;>omega
  split
  ·constructor<;>intro<;>omega
  ·constructor<;>intro<;>omega
 have cG:∀a b:Int,decide (qO a b<0)=true↔a<b:=fun a b=>by
  unfold qO;simp only[bh];split
  ·constructor<;>intro<;>omega
  split
  ·constructor<;>intro<;>omega
  ·constructor<;>intro<;>omega
 constructor
 ·intro hq;split at hq
  ·rename_i x hx;exact⟨x,aK hx,(hc _ _).1 hq⟩
  ·cases hq
 ·rintro⟨x,hx,rfl⟩;obtain⟨i,hi⟩:=bV hx;have h1:=hl.lt i x hi;rw[cG] at h1
  have hge:wJ l x.ar<=i:=by
   rcases bz i (wJ l x.ar) with h2|h2
   ·have:=h1.2 h2; omega
   ·exact h2
  have hil:=(aj.1 hi).1;have hb:l[wJ l x.ar]?=some (l[wJ l x.ar]'(by omega)):=ai _
  rw[hb];simp only;rw[hc];rcases bz (wJ l x.ar) i with h2|h2
  ·have h3:=hl.lt _ _ hb;rw[cG] at h3;have h4:=cd.1 h _ _ aH hil h2;have h5:=(aj.1 hi).2;rw[h5] at h4;have:=h3.1 h4;omega
  ·have:wJ l x.ar=i:=aH;have h5:=(aj.1 hi).2;simp only[this,h5]
def Dv{t:Tree}{dD:Int->Nat}(h:dS t dD 0)(l:List dN):∀(f g:Nat)(i:Int)(n:Node),find t.ae i=some n->n.kind=2->dD i<f->dD i<g->sA t.ae l f i=sA t.ae l g i
 |0,_,_,_,_,_,hf,_=>aH
 |_+1,0,_,_,_,_,_,hg=>aH
 |f+1,g+1,i,n,hi,hk,hf,hg=>by
  rw[sA,sA];split
  ·rfl
  split
  ·rename_i h1;obtain⟨a,p,p1,p2⟩:=h.qF _ _ hi hk (by simpa using h1)
   have hn:bl t.ae i=n:=by simp[bl,hi]
   rw[hn];exact Dv h l f g n.up p p1 p2 aH aH
  ·rfl
def Lb{t:Tree}{dD:Int->Nat}(h:dS t dD 0)(l:List dN){i:Int}{n:Node}(hi:find t.ae i=some n)(hk:n.kind=2):mg t.ae l i=if F4 l i then i else if i=1 then 0 else mg t.ae l n.up:=by
 have hn:bl t.ae i=n:=by simp[bl,hi]
 unfold mg
 conv=>lhs; rw[sA]
 rw[hn]
 by_cases h1:i=1
 ·simp[h1]
 ·obtain⟨a,p,p1,p2⟩:=h.qF _ _ hi hk h1;have hd:=(h.deep _ _ hi hk).1;have h1':(i != 1)=true:=by simpa using h1
  rw[h1'];simp only[aJ,h1,aD];rw[Dv h l 12 13 n.up p p1 p2 aH aH]
def IC{t:Tree}{dD:Int->Nat}(h:dS t dD 0)(l:List dN):∀(f:Nat)(i:Int)(n:Node),find t.ae i=some n->n.kind=2->0<=sA t.ae l f i
 |0,_,_,_,_=>dL 0
 |f+1,i,n,hi,hk=>by
  rw[sA];split
  ·have:=(h.num _ _ hi).1; omega
  split
  ·rename_i h1;obtain⟨_,p,p1,p2⟩:=h.qF _ _ hi hk (by simpa using h1)
   have hn:bl t.ae i=n:=by simp[bl,hi]
   rw[hn];exact IC h l f n.up p p1 p2
  ·exact dL 0
def OD(t:Tree)(l:List dN):Prop:=∀d1 e1 d2 e2 x,d1∈t.ae->e1∈d1.bc->d2∈t.ae->e2∈d2.bc->e1.ar=e2.ar->find t.ae e1.ar=some x->x.kind=1->mg t.ae l d1.ar=mg t.ae l d2.ar
def w9{t u:Tree}{dD:Int->Nat}(h:dS t dD 0)(hk:∀i n,find t.ae i=some n->n.kind=2->(bl u.ae i).up=n.up)(l:List dN):∀(f:Nat)(i:Int)(n:Node),find t.ae i=some n->n.kind=2->sA u.ae l f i=sA t.ae l f i
 |0,_,_,_,_=>rfl
 |f+1,i,n,hi,hk2=>by
  have h1:bl t.ae i=n:=by simp[bl,hi]
  rw[sA,sA,h1,hk _ _ hi hk2];split
  ·rfl
  split
  ·rename_i hne;obtain⟨_,p,p1,p2⟩:=h.qF _ _ hi hk2 (by simpa using hne)
   exact w9 h hk l f n.up p p1 p2
  ·rfl
def dS.RE{t:Tree}{dD:Int->Nat}(h:dS t dD 0){d:Node}{e:gI}(hd:d∈t.ae)(he:e∈d.bc):find t.ae d.ar=some d/\d.kind=2:=by
 have hf:=(ic h.lK.mo).2 ⟨hd,rfl⟩;refine⟨hf,?_⟩;rcases h.kind _ _ hf with h1|h1
 ·rw[(h.file _ _ hf h1).1] at he; cases he
 ·exact h1
def XT(ae:List Node)(i:Int):Prop:=∃n,find ae i=some n/\n.kind=2
def RF(a b:List Node):Prop:=∀i,tG b i->tG a i\/find a i=none
def XT.no{a:List Node}{i:Int}(h:XT a i)(hf:tG a i\/find a i=none):False:=by
 obtain⟨n,h1,h2⟩:=h;rcases hf with ⟨m,g1,g2⟩|h3
 ·rw[h1] at g1; cases g1; omega
 ·rw[h1] at h3; cases h3
def Rt.XT{t:Tree}(h:Rt t){i:Int}{n:Node}(hn:find t.ae i=some n)(hf:¬tG t.ae i):XT t.ae i:=by
 obtain⟨dD,g⟩:=h;rcases g.kind _ _ hn with hk|hk
 ·exact absurd ⟨n,hn,hk⟩ hf
 ·exact⟨n,hn,hk⟩
def Zr.Cd{ae:List Node}(h:Zr ae)(d:Int)(s:Bytes){i:Int}(hi:tG (dx ae d s) i):tG ae i:=h.B4 d (by rfl) (by rfl) hi
def Zr.zL{t:Tree}(h:Zr t.ae)(d:Int)(s:Bytes)(o:Int){i:Int}(hi:tG (il t d s o).ae i):tG t.ae i:=h.B4 d (by rfl) (by rfl) hi
def ahM{t:Tree}(h:Rt t)(d:Int)(s:Bytes)(k:Int):RF t.ae (rU t d s k).1.ae:=by
 have hz:=h.zr;intro i hi;unfold rU at hi;split at hi
 ·exact .inl hi
 split at hi
 ·exact .inl hi
 split at hi
 ·exact .inl hi
 ·obtain⟨dD,g⟩:=h
  have h0:find t.ae t.next=none:=by
   cases hf:find t.ae t.next with
   |none=>rfl
   |some n=>have:=(g.num _ _ hf).2; omega
  have h1:1<=t.next:=by
   obtain⟨r,g1,_⟩:=g.root;have:=(g.num _ _ g1).2; omega
  have hw:Zr (eT t.ae ⟨t.next,k,1,[],[],if k==2 then d else 0⟩):=by
   refine⟨lL hz.1 _,fun⟨x,g1,g2⟩=>?_⟩
   rw[gm hz.1,aR (show ¬((0:Int)=t.next) by omega)] at g1
   exact hz.2 ⟨x,g1,g2⟩
  obtain⟨x,g1,g2⟩:=Zr.zL (t:=⟨_,nw (t.next+1),t.ak⟩) hw d s t.next hi
  have g1:find (eT t.ae ⟨t.next,k,1,[],[],if k==2 then d else 0⟩) i=some x:=g1
  rw[gm hz.1] at g1
  by_cases e:i=t.next
  ·right; rw[e]; exact h0
  ·rw[aR e] at g1; exact .inl ⟨x,g1,g2⟩
def anT{t:Tree}(h:Rt t)(j d:Int)(s:Bytes):RF t.ae (CK t j d s).1.ae:=by
 have hz:=h.zr;intro i hi;unfold CK at hi;split at hi
 ·exact .inl hi
 split at hi
 ·exact .inl hi
 split at hi
 ·exact .inl hi
 ·have hw:KF t.ae (eT t.ae { bl t.ae j with eE:=nw ((bl t.ae j).eE+1) }):=hz.edit j rfl rfl
  exact .inl (hz.B4 j (by rfl) (by rfl) (Zr.zL (t:=⟨_,t.next,t.ak⟩) hw.1 d s j hi))
def anV{t:Tree}(h:Rt t)(d:Int)(s:Bytes):RF t.ae (BN t d s).1.ae:=by
 have hz:=h.zr;intro i hi;unfold BN at hi;split at hi
 ·exact .inl hi
 split at hi
 ·exact .inl hi
 ·exact .inl (hz.Cd d s ((hz.left d s).1.EP _ hi))
def Xa{t:Tree}(h:Rt t)(j:Int)(d:Bytes):RF t.ae (rP t j d).1.ae:=by
 have hz:=h.zr;intro i hi;unfold rP at hi;split at hi
 ·exact .inl hi
 split at hi
 ·exact .inl hi
 split at hi
 ·exact .inl hi
 ·exact .inl (hz.B4 j (by rfl) (by rfl) hi)
def anU{t:Tree}(h:Rt t)(d:Int)(s:Bytes)(to:Int)(nm:Bytes):RF t.ae (wP t d s to nm).1.ae:=by
 have hz:=h.zr;intro i hi;left;unfold wP at hi;split at hi
 ·exact hi
 split at hi
 ·exact hi
 split at hi
 ·exact hi
 split at hi
 ·exact hi
 split at hi
 ·exact hi
 split at hi
 ·exact hi
 split at hi
 ·exact hi
 ·generalize (fg t.ae d s).1=x at hi;generalize jf (gV t.ae to).1.bc nm=y at hi;unfold tc at hi;have h1:=hz.left d s
  have hb:∀i,tG (if y != 0 then fm (dx (dx t.ae d s) to nm) y else dx t.ae d s) i->tG t.ae i:=by
   intro i hi;split at hi
   ·exact hz.Cd d s (h1.1.Cd to nm ((h1.1.left to nm).1.EP y hi))
   ·exact hz.Cd d s hi
  have h2:Zr (if y != 0 then fm (dx (dx t.ae d s) to nm) y else dx t.ae d s):=by
   split
   ·exact((h1.1.left to nm).1.unnamed y).1
   ·exact h1.1
  refine hb i ?_;generalize (if y != 0 then fm (dx (dx t.ae d s) to nm) y else dx t.ae d s)=B at h2 hi
  split at hi
  ·rename_i hk;have hk2:(bl t.ae x).kind=2:=by simpa using hk
   have hw:∀j,tG (eT B { bl t.ae x with up:=to }) j->tG B j:=by
    rintro j ⟨z,g1,g2⟩;rw[gm h2.1] at g1;split at g1
    ·injection g1 with g1
     rw[<-g1] at g2;simp only at g2;omega
    ·exact⟨z,g1,g2⟩
   exact hw _ (Zr.zL (t:=⟨_,t.next,t.ak⟩) ⟨lL h2.1 _,fun hf=>h2.2 (hw _ hf)⟩ to nm x hi)
  ·exact Zr.zL (t:=⟨_,t.next,t.ak⟩) h2 to nm x hi
def AZ{t:Tree}(h:Rt t)(k i:Int):find (kJ t k).1.ae i=if i=k/\∃n,find t.ae k=some n/\gQ n=true then none else find t.ae i:=by
 have hz:=h.zr;obtain⟨dD,g⟩:=h;unfold kJ;cases hf:find t.ae k with
 |none=>simp
 |some n =>
  have hn:bl t.ae k=n:=by simp[bl,hf]
  have hl:=g.eE _ _ hf;simp only[bX,dQ,af,aD,hn];rcases g.kind _ _ hf with hk|hk
  ·have h1:(n.kind==2)=false:=by simp[hk]
   simp only[h1,af,aD];split
   ·rename_i h2;have h2':0<n.eE:=by simpa using h2
    have:gQ n=false:=by simp[gQ,hk]; omega
    simp[this]
   ·rename_i h2;have h2':¬0<n.eE:=by simpa using h2
    have h3:0<=n.eE:=by rw[hl]; split<;>omega
    have:gQ n=true:=by simp[gQ,hk]; omega
    rw[mj hz.1];simp[this]
  ·have h1:(n.kind==2)=true:=by simp[hk]
   have:gQ n=false:=by simp[gQ,hk]
   simp[h1,this]
def aaP{t:Tree}(hr:Rt t)(k:Int)(l:List dN)(ho:OD t l):OD (kJ t k).1 l:=by
 have hf:=AZ hr k;have hu:=(hr.free k).lK.mo;obtain⟨dD,h⟩:=hr
 have back:∀ {d:Node},d∈(kJ t k).1.ae->d∈t.ae:=fun hd=>by
  have h1:=(ic hu).2 ⟨hd,rfl⟩;rw[hf] at h1;split at h1
  ·cases h1
  ·exact(cD h1).1
 have rj:∀i n,find t.ae i=some n->n.kind=2->(bl (kJ t k).1.ae i).up=n.up:=fun i n h1 h2=>by
  unfold bl;rw[hf,aR,h1]
  ·rfl
  rintro⟨rfl,m,g1,g2⟩;rw[h1] at g1; cases g1;simp[gQ,h2] at g2
 intro d1 e1 d2 e2 x h1 h2 h3 h4 h5 h6 h7;obtain⟨a1,a2⟩:=h.RE (back h1) h2;obtain⟨b1,b2⟩:=h.RE (back h3) h4
 have hx:find t.ae e1.ar=some x:=by
  rw[hf] at h6;split at h6
  ·cases h6
  ·exact h6
 unfold mg;rw[w9 h rj l 13 _ _ a1 a2,w9 h rj l 13 _ _ b1 b2];exact ho d1 e1 d2 e2 x (back h1) h2 (back h3) h4 h5 hx h7
def HJ:Bytes->Bytes->List Bytes->Option (List Bytes)
 | [],cur,out=>if !fU cur||(out.length:Int)==12 then none else some (out++[cur])
 |b::r,cur,out=>if (b.toNat:Int) != 47 then HJ r (cur++[b]) out else if !fU cur||(out.length:Int)==12 then none else HJ r [] (out++[cur])
def pV(s:Bytes):List Bytes×Int:=if s==[47] then ([],0) else match s with
 | []=>([],60)
 |b::r=>if (b.toNat:Int) != 47 then ([],60) else match HJ r [] [] with
  |none=>([],60)
  |some l=>(l,0)
section
attribute [local irreducible] eX fM lu gK dX kr aq aU cr bJ
def ahe{s:Bytes}(hs:s.length<=100000){k:List K}{R:Option (List Bytes)->Option (ag×aC)}
  (hx:∀(l:List Bytes) z,kr (aq bW) [.tmp 2,.tmp 3] 0 k ⟨.exit 0,(0,.str s)::(4,.slice (.own 0) (l.map .str))::z,[.tick 1 l.length]⟩=R (some l))
  (hr:∀n,kr (aq bW) [.tmp 2,.tmp 3] 0 k ⟨.ret,[(2,.slice .c0 []),(3,aF 60)],[.tick 1 n]⟩=R none) :
  ∀(rest:Bytes)(n m:Nat)(cur:Bytes)(out:List Bytes),s.drop m=rest->m+rest.length=s.length->n<=m->(s.take m).drop n=cur->out.length<=12 ->
   eX (aq bW) [.tmp 2,.tmp 3] 0 k (.loop [0,4,5,6] ag8) [(0,.str s),(4,.slice (.own 0) (out.map .str)),(5,aF n),(6,aF m)] [.tick 1 out.length]=R (HJ rest cur out):=by
 intro rest;induction rest with
 |nil =>
  intro n m cur out h1 h2 h3 h4 h5;simp only[az,c8] at h2;rw[bG];have e1:((m:Int)<=(s.length:Int))=True:=sM;have e2:((m:Int)<(s.length:Int))=False:=oyf;have e3:((n:Int)<=(m:Int))=True:=sM;have w1:IntKind.i64.wrap ((m:Int)+1)=(m:Int)+1:=gv aH aH;have e4:((m:Int)+1<=(s.length:Int))=False:=oyf;have hc:cur.length<=100000:=by rw[<-h4]; simp; omega
  have q:=fun M=>S0 cur hc M
  have r1:cp (out.length+1) 16=True:=qH;have i1:=hx (out++[cur]);simp only[aW,aE,aQ,aA,aw,az,aG] at i1;rw[HJ]
  cases h6:fU cur<;>rw[h6] at q<;>cases h7:(out.length:Int)==12 <;>
   simp only[QE,e1,e2,e3,h4,q,h7,dH,cQ,er,fF,aJ,af,aD,EW,seval]<;>first|exact hr _|skip
  simp only[QE,r1,w1,EW,seval];rw[bG];simp only[QE,e4,EW,seval];exact i1 _
 |cons b r ih =>
  intro n m cur out h1 h2 h3 h4 h5;simp only[aw] at h2;rw[bG];have e1:((m:Int)<=(s.length:Int))=True:=sM;have e2:((m:Int)<(s.length:Int))=True:=sM;have e3:((n:Int)<=(m:Int))=True:=sM;have w1:IntKind.i64.wrap ((m:Int)+1)=((m+1:Nat):Int):=by rw[gv aH aH]; rfl
  have hc:cur.length<=100000:=by rw[<-h4]; simp; omega
  have hb:s[m]?=some b:=by
   have:(s.drop m)[0]?=some b:=by rw[h1]; rfl
   simpa using this
  have hd:s.drop (m+1)=r:=by rw[<-List.drop_drop,h1]; rfl
  have hm:=(aj.1 hb).1
  have ht:(s.take (m+1)).drop n=cur++[b]:=by
   rw[cB,hb,kI,List.drop_append_of_le_length gh,h4]
  have q:=fun M=>S0 cur hc M
  have r1:cp (out.length+1) 16=True:=qH;have i1:=ih n (m+1) (cur++[b]) out hd aH aH ht h5;have i2:=fun h=>ih (m+1) (m+1) [] (out++[cur]) hd aH aH dy h
  simp only[aW,aE,aQ,aA,aw,az,aG] at i2;rw[HJ];cases h8:(b.toNat:Int) != 47
  ·cases h6:fU cur<;>rw[h6] at q<;>cases h7:(out.length:Int)==12 <;>
    simp only[QE,e1,e2,e3,h4,hb,h8,q,h7,dH,cQ,er,fF,aJ,af,aD,EW,seval]<;>first|exact hr _|skip
   have h9:out.length+1<=12:=by simp at h7; omega
   simp only[QE,r1,w1,EW,seval];exact i2 h9
  ·simp only[QE,e1,e2,hb,h8,w1,aJ,EW,seval];exact i1
def c85(s:Bytes)(hs:s.length<=100000):aq bW 85 [.str s] []=some (.tuple [cZ (pV s).1,aF (pV s).2],[]):=by
 refine aB ?_;unfold pV;cases h0:s==[47]
 ·cases s with
  |nil=>simp only[Pk,QE,h0,af,aD,EW,seval]; rfl
  |cons b r =>
   have h1:((b::r)==[])=false:=rfl;cases h8:(b.toNat:Int) != 47
   ·have hl:=fun {k R} hx hr=>ahe hs (k:=k) (R:=R) hx hr r 1 1 [] [] rfl gh aH dy dy
    simp only[aQ,az] at hl;simp only[Pk,QE,h0,h1,h8,af,aD,EW,seval];refine hl (R:=fun o=>some (.tuple [cZ (match o with|none=>(([]:List Bytes),(60:Int))|some l=>(l,0)).1,aF (match o with|none=>(([]:List Bytes),(60:Int))|some l=>(l,0)).2],[])) (fun l z=>?_) (fun n=>?_)
    ·simp only[QE,EW,seval]
    ·simp only[QE,EW,seval]; rfl
   ·simp only[Pk,QE,h0,h1,h8,af,aD,aJ,EW,seval]; rfl
 ·simp only[Pk,QE,h0,aJ,EW,seval]; rfl
def k85 s hs:=cP (c85 s hs)
def y9(l:List Bytes)(s:Bytes):Bytes:=l.foldl (fun s x=>s++[47]++x) s
def Nn(l:List Bytes):Bytes:=if (l.length:Int)==0 then [47] else y9 l []
def DX:∀(l:List Bytes)(s:Bytes),(∀x,x∈l->x.length<=32)->(y9 l s).length<=s.length+33*l.length
 | [],s,_=>by simp[y9]
 |x::l,s,h=>by
  have h1:=DX l (s++[47]++x) fun y hy=>h y (bt _ hy)
  have h2:=h x bD;simp only[y9,eK,aA,aw,az] at h1 ⊢;omega
def aqB(l:List Bytes)(hl:l.length<=100)(h:∀x,x∈l->x.length<=32):aq bW 170 [cZ l] []=some (.str (Nn l),[]):=by
 refine aB ?_;unfold Nn;cases h0:(l.length:Int)==0<;>simp only[acE,X4,h0,af,aD,aJ,EW,seval]
 have key:∀ {k:List K} {R:Bytes->Option (ag×aC)} (hx:∀s z,kr (aq bW) [.tmp 2] 0 k ⟨.exit 0,(0,cZ l)::(3,.str s)::z,[]⟩=R s) (rest pre:List Bytes) (s:Bytes),l=pre++rest->s.length<=33*pre.length->eX (aq bW) [.tmp 2] 0 k (.loop [0,3,4] ZO) [(0,cZ l),(3,.str s),(4,aF pre.length)] []=R (y9 rest s):=by
  intro k R hx rest;induction rest with
  |nil =>
   intro pre s e _;rw[bG];simp only[X4,jL e,y9,nb,EW,seval];exact hx _ _
  |cons x r ih =>
   intro pre s e hs;rw[bG];have hxl:=h x (by rw[e]; simp)
   have hp:pre.length+1<=100:=by rw[e] at hl; simp at hl; omega
   have hw:=zp pre x;have i1:=ih (pre++[x]) (s++[47]++x) (by rw[e]; simp) gh
   have m1:(IntKind.i64.max<((s.length+1:Nat):Int))=False:=max_lt _ aH;have m2:(IntKind.i64.max<((s.length+1+x.length:Nat):Int))=False:=max_lt _ aH;simp only[aA,aw,az,aG] at i1;simp only[y9,eK] at i1 ⊢;simp only[X4,iK e,gP e,hw,m1,m2,EW,seval];exact i1
 exact key (R:=fun s=>some (.str s,[])) (fun s z=>by simp only[X4,EW,seval]) l [] [] rfl dy
def asF l hl h:=cP (aqB l hl h)
def abn:∀(rest cur:Bytes)(out l:List Bytes),HJ rest cur out=some l->(∀x,x∈out->fU x=true)->out.length<=12->(∀x,x∈l->fU x=true)/\l.length<=12:=by
 have key:∀(cur:Bytes)(out:List Bytes),¬(!fU cur||(out.length:Int)==12)=true->(∀x,x∈out->fU x=true)->out.length<=12->(∀x,x∈out++[cur]->fU x=true)/\(out++[cur]).length<=12:=by
  intro cur out h1 h2 h3;simp only[cW,ij,eG,o7,Bool.not_eq_false] at h1;refine⟨fun x hx=>?_,gh⟩
  rcases bm.1 hx with hx|hx
  ·exact h2 x hx
  ·rw[bS.1 hx]; exact h1.1
 intro rest;induction rest with
 |nil =>
  intro cur out l h h1 h2;rw[HJ] at h;split at h
  ·cases h
  ·rename_i hc;cases h;exact key cur out hc h1 h2
 |cons b r ih =>
  intro cur out l h h1 h2;rw[HJ] at h;split at h
  ·exact ih _ _ _ h h1 h2
  split at h
  ·cases h
  ·rename_i hc;obtain⟨k1,k2⟩:=key cur out hc h1 h2;exact ih _ _ _ h k1 k2
def yg(s:Bytes):(∀x,x∈(pV s).1->fU x=true)/\(pV s).1.length<=12:=by
 unfold pV;split
 ·simp
 split
 ·simp
 split
 ·simp
 split
 ·simp
 ·rename_i h;exact abn _ _ _ _ h dy dy
def Cb(s:Bytes):Bytes×Bytes×Int:=if (pV s).2 != 0||(((pV s).1.length:Int)==0) then ([],[],60) else ((pV s).1.getLast?.getD [],Nn (pV s).1.dropLast,0)
def apT(s:Bytes)(hs:s.length<=100000):aq bW 116 [.str s] []=some (.tuple [.str (Cb s).1,.str (Cb s).2.1,aF (Cb s).2.2],[]):=by
 refine aB ?_;have q:=fun M=>k85 s hs M
 obtain⟨o1,o2⟩:=yg s;unfold Cb;generalize pV s=X at q o1 o2;obtain⟨l,e⟩:=X;simp only at q o1 o2 ⊢;cases h1:e != 0
 ·cases h2:(l.length:Int)==0
  ·obtain⟨A,x,rfl⟩:∃A x,l=A++[x]:=by
    refine⟨l.dropLast,l.getLast (by rintro rfl; simp at h2),(List.dropLast_concat_getLast _).symm⟩
   have qj:=fun M=>asF A (by simp at o2; omega) (fun y hy=>qQ (o1 y (by simp[hy]))) M
   simp only[aA,aw,az,aG] at h2 o2;have w1:IntKind.i64.wrap (((A.length+1:Nat):Int)-1)=(A.length:Int):=by rw[gv aH aH]; omega
   have a1:(A++[x])[A.length]?=some x:=dy;have a2:((A.length:Int)<((A.length+1:Nat):Int))=True:=sM;have a3:((A.length:Int)<=((A.length+1:Nat):Int))=True:=sM;have a4:((A.length:Int)<0)=False:=dy;have a5:(A++[x]).take A.length=A:=dy;simp only[MW,ad4,q,h1,h2,w1,a2,a3,a4,a1,<-eb,a5,qj,fG,fF,af,aD,List.getLast?_append,List.getLast?_singleton,List.dropLast_concat,bA,Option.or_some,Option.some_or,EW,seval]
  ·simp only[MW,ad4,q,h1,h2,er,cQ,aJ,EW,seval]
 ·simp only[MW,ad4,q,h1,dH,aJ,EW,seval]
def Ay(ae:List Node):List Bytes->Int->Int×Int
 | [],a=>(a,0)
 |x::r,a=>if (fg ae a x).2 != 0 then (0,(fg ae a x).2) else Ay ae r (fg ae a x).1
def Cy(ae:List Node)(s:Bytes):Int×Int:=if (pV s).2 != 0 then (0,(pV s).2) else Ay ae (pV s).1 1
def c66(t:Tree)(s:Bytes)(ht:Small t)(hs:s.length<=100000):aq bW 66 [bq t,.str s] []=some (.tuple [aF (Cy t.ae s).1,aF (Cy t.ae s).2],[]):=by
 refine aB ?_;have q:=fun M=>k85 s hs M
 obtain⟨o1,o2⟩:=yg s;unfold Cy;generalize pV s=X at q o1 o2;obtain⟨l,e⟩:=X;simp only at q o1 o2 ⊢;cases h1:e != 0<;>simp only[alO,E66,bq,aM,q,h1,af,aD,aJ,EW,seval]
 refine AY (xs:=l) aH (Ay t.ae) (fun a i=>[(2,ct 0),(6,cZ l),(8,aF a),(9,aF i)]) (fun _=>[cu [ba t.ae,aF t.next,aF t.ak]]) (fun p=>some (.tuple [aF p.1,aF p.2],([]:aC))) (fun a=>?_) (fun pre x post a h hx cG hw h0 hm hi=>?_) 1
 ·simp only[E66,br,Ay,EW,seval]
 ·have ql:=fun M=>k72 t.ae t.next t.ak a x ht (by have:=qQ (o1 x hm); omega) M
  rw[Ay];have i1:=hi (fg t.ae a x).1;generalize fg t.ae a x=u at ql i1;cases h2:u.2 != 0<;>simp only[E66,cG,hx,hw,ql,h2,af,aD,aJ,EW,seval]
  exact i1
def k66(ae:List Node)(next ak:Int)(s:Bytes)(ht:Small ⟨ae,next,ak⟩)(hs:s.length<=100000)(M:aC):aU (aq bW) 66 [.agg [ba ae,aF next,aF ak],.str s] M=some (.tuple [aF (Cy ae s).1,aF (Cy ae s).2],M):=cO (c66 ⟨ae,next,ak⟩ s ht hs) M
end
def rI(q:dN):List dN->Bool->List dN
 | [],d=>if d then [] else [q]
 |x::r,d=>(if !d&&decide (q.ar<=x.ar) then [q] else [])++((if x.ar != q.ar then [x] else [])++rI q r (d||decide (q.ar<=x.ar)))
def zm(q:dN):∀l,rI q l true=l.filter fun x=>x.ar != q.ar
 | []=>rfl
 |x::r=>by
  rw[rI,dH,zm q r,fq];cases x.ar != q.ar<;>rfl
theorem Ml(q x:dN)(r:List dN):rI q (x::r) false=if q.ar<=x.ar then q::(x::r).filter fun x=>x.ar != q.ar else x::rI q r false:=by
 rw[rI]
 by_cases h:q.ar<=x.ar
 ·rw[aZ h,kf h,cQ,zm,fq];cases x.ar != q.ar<;>rfl
 grind
theorem GA(q:dN):∀l,pw l->pw (rI q l false)/\(∀y,y∈rI q l false->y=q\/y∈l)/\(rI q l false).length<=l.length+1/\((∃x,x∈l/\x.ar=q.ar)->(rI q l false).length<=l.length)
 | [],_=>⟨pL _ _,fun y hy => .inl (by grind [rI]),au _,fun⟨x,h,_⟩=>jK⟩
 |x::r,h=>by
  have hc:=df.1 h;obtain⟨i1,i2,i3,i4⟩:=GA q r hc.2;rw[Ml]
  grind [List.pairwise_cons]
section
attribute [local irreducible] eX fM lu gK dX kr aq aU cr bJ
def ap9(t:Tree)(ar:Int)(ht:t.ae.length<=100000):aq bW 133 [bq t,aF ar] []=some (.bool ((find t.ae ar).isSome&&(bl t.ae ar).kind==2),[]):=by
 refine aB ?_;have q:=fun M=>Bh t.ae t.next t.ak ar ht M
 have hz:(find t.ae ar).getD Node.zero=bl t.ae ar:=rfl;rw[hz] at q;generalize bl t.ae ar=n at q
 cases h1:(find t.ae ar).isSome<;>rw[h1] at q<;>cases h2:n.kind==2 <;>
  simp only[acn,aoD,bq,aM,q,h2,bK,aL,dV,EW,seval]
def amm(ae:List Node)(next ak ar:Int)(h:ae.length<=100000)(M:aC):aU (aq bW) 133 [.agg [ba ae,aF next,aF ak],aF ar] M=some (.bool ((find ae ar).isSome&&(bl ae ar).kind==2),M) :=
 cO (ap9 ⟨ae,next,ak⟩ _ h) M
def Plc(ae:List Node)(ar n:Int):Prop:=(n = -1/\∀y,y∈ae->y.ar≠ar)\/∃(i:Nat) (y:Node),ae[i]?=some y/\y.ar=ar/\n=i
def arq(t:Tree)(ar:Int)(ht:t.ae.length<=100000):∃n:Int,aq bW 237 [bq t,aF ar] []=some (aF n,[])/\Plc t.ae ar n:=by
 have key:∃r:ag×aC,(∃n:Int,r=(aF n,[])/\Plc t.ae ar n)/\eX (aq bW) M9.results 0 [] M9.body (eF 0 [bq t,aF ar]) []=some r:=by
  simp only[M9,aen,bq,aM,EW,seval];refine jc (xs:=t.ae) aH (fun m (_:Unit)=>∀y,y∈t.ae.take m->y.ar≠ar) (fun _ i=>[(1,aF ar),(2,ct 0),(5,aF i)]) (fun _=>[cu [ba t.ae,aF t.next,aF t.ak]]) _ (fun _ hq=>?_) (fun pre x post _ e hx cG hw h0 hm hq hi=>?_) () (fun y hy=>by simp at hy)
  ·simp only[aen,br,EW,seval];exact⟨_,⟨-1,rfl,.inl ⟨rfl,by rwa[bE] at hq⟩⟩,rfl⟩
  ·have htk:t.ae.take (pre.length+1)=t.ae.take pre.length++[x]:=by rw[cB,hx]; rfl
   have i1:=fun h=>hi () (fun y hy=>by
    rw[htk] at hy;exact(bm.1 hy).elim (hq y) fun hy=>by rw[bS.1 hy]; exact h)
   cases h1:x.ar==ar<;>simp only[aen,cG,hx,hw,h1,bK,aL,EW,seval]
   ·exact i1 (by simpa using h1)
   ·exact⟨_,⟨_,rfl,.inr ⟨_,x,hx,by simpa using h1,rfl⟩⟩,rfl⟩
 obtain⟨_,⟨n,rfl,h1⟩,h3⟩:=key;exact⟨n,aB h3,h1⟩
theorem akM(l:List dN)(ar:Int)(hn:l.length<=100000):∃n:Int,aq bW 135 [cK l,aF ar] []=some (aF n,[])/\(0<=n↔∃x,x∈l/\x.ar=ar):=by
 have key:∃r:ag×aC,(∃n:Int,r=(aF n,[])/\(0<=n↔∃x,x∈l/\x.ar=ar))/\eX (aq bW) MY.results 0 [] MY.body (eF 0 [cK l,aF ar]) []=some r:=by
  simp only[MY,ad7,EW,seval];refine jc (xs:=l) aH (fun m (_:Unit)=>∀y,y∈l.take m->y.ar≠ar) (fun _ i=>[(0,cK l),(1,aF ar),(5,aF i)]) (fun _=>[]) _ (fun _ hq=>?_) (fun pre x post _ e hx cG hw h0 hm hq hi=>?_) () (fun y hy=>by simp at hy)
  ·simp only[ad7,br,EW,seval];rw[bE] at hq
   grind
  ·have htk:l.take (pre.length+1)=l.take pre.length++[x]:=by rw[cB,hx]; rfl
   have i1:=fun h=>hi () (fun y hy=>by
    rw[htk] at hy;exact(bm.1 hy).elim (hq y) fun hy=>by rw[bS.1 hy]; exact h)
   cases h1:x.ar==ar<;>simp only[ad7,cG,hx,hw,h1,gx,iT,EW,seval]
   ·exact i1 (by simpa using h1)
   grind
 obtain⟨_,⟨n,rfl,h1⟩,h3⟩:=key;exact⟨n,aB h3,h1⟩
abbrev BL(n:Nat):={ m:List Bool // m.length=n }
def XP(ae:List Node)(m0:List Bool)(P:List gI->Prop)(s:Bool×List Bool):Prop:=(s.1=false->s.2=m0/\∀L,P L->∀e,e∈L->Mk ae m0 e.ar)/\(s.1=true->nT m0<nT s.2)
abbrev Fj(t:Tree)(m:List Bool):aC:=[.cells [ba t.ae,.int .i64 t.next,.int .i64 t.ak],.arr 1 0 (m.map ag.bool)]
section
variable {t:Tree} {ar by':Int} {Q:ag×aC->Prop}
def VU(ht:t.ae.length<=100000)(hasc:oU t.ae){m0:List Bool}{P:List gI->Prop}{i:Nat}{x:Node}(hxi:t.ae[i]?=some x)(hxe:x.bc.length<=100000){k:List K}
  (hx:∀(s:Bool×BL t.ae.length) z,XP t.ae m0 (fun L=>P L\/L=x.bc) (s.1,s.2.1)->∃r,Q r/\kr (aq bW) [.tmp 4] 0 k ⟨.exit 4,(1,aF ar)::(2,ct 0)::(5,.cv 1 0 1 0 t.ae.length)::(6,aF by')::(7,.bool s.1)::(8,aF i)::z,Fj t s.2.1⟩=some r) (s:Bool×BL t.ae.length) (hs0:XP t.ae m0 P (s.1,s.2.1)) :
  ∃r,Q r/\eX (aq bW) [.tmp 4] 0 k (.loop [1,2,5,6,7,8,9] ZT) [(1,aF ar),(2,ct 0),(5,.cv 1 0 1 0 t.ae.length),(6,aF by'),(7,.bool s.1),(8,aF i),(9,aF 0)] (Fj t s.2.1)=some r:=by
 have b1:((i:Int)<0)=False:=dy;refine jc (xs:=x.bc) aH (fun j (s:Bool×BL t.ae.length)=>XP t.ae m0 (fun L=>P L\/L=x.bc.take j) (s.1,s.2.1)) (fun(s:Bool×BL t.ae.length) j=>[(1,aF ar),(2,ct 0),(5,.cv 1 0 1 0 t.ae.length),(6,aF by'),(7,.bool s.1),(8,aF i),(9,aF j)]) (fun s=>Fj t s.2.1) Q (fun s hs=>?_) (fun pre e post s h hx' cG hw h0 hm hs hi=>?_) s ⟨fun h=>⟨(hs0.1 h).1,fun L hL=>hL.elim ((hs0.1 h).2 L) fun hL e he=>by rw[hL] at he; simp at he⟩,hs0.2⟩
 ·simp only[CA,br,hxi,bK,aL,EW,seval];rw[bE] at hs;exact hx s _ hs
 ·obtain⟨n,q,hn⟩:=arq t e.ar ht;have qp:=cP q;simp only[bq,aM] at qp;have hm2:=s.2.2;have htk:x.bc.take (pre.length+1)=x.bc.take pre.length++[e]:=by rw[cB,hx']; rfl
  have same:(s.1=false->Mk t.ae m0 e.ar)->XP t.ae m0 (fun L=>P L\/L=x.bc.take (pre.length+1)) (s.1,s.2.1):=fun hk=>⟨fun h=>⟨(hs.1 h).1,fun L hL e' he=>by
   rcases hL with hL|hL
   ·exact(hs.1 h).2 L (.inl hL) e' he
   ·rw[hL,htk] at he;rcases bm.1 he with he|he
    ·exact(hs.1 h).2 _ (.inr rfl) e' he
    ·rw[bS.1 he]; exact hk h⟩,hs.2⟩
  rcases hn with ⟨rfl,hno⟩|⟨a,y,hay,hye,rfl⟩
  ·have i1:=hi s (same fun _ a y h1 h2=>absurd h2 (hno y (aK h1)))
   simp only[CA,cG,hx',hw,hxi,qp,bK,aL,iE,gd,EW,seval];exact i1
  ·have ha:=(aj.1 hay).1;have a0:((a:Int)<0)=False:=dy;have a1:((a:Int)<(t.ae.length:Int))=True:=jK;have a2:(a<t.ae.length)=True:=sM;have a3:(0<=(a:Int))=True:=dy;have a4:(a<s.2.1.length)=True:=sM;obtain⟨b,hb⟩:∃b,s.2.1[a]?=some b:=⟨_,ai aH⟩;cases b
   ·have i1:=hi (true,⟨s.2.1.set a true,by simp[hm2]⟩) ⟨fun h=>(by cases h),fun _=>by
     simp only[ahi hb];cases h1:s.1 with
     |false=>have:=(hs.1 h1).1; simp only at this; rw[this]; omega
     |true=>have:=hs.2 h1; simp only at this; omega⟩
    simp only[CA,cG,hx',hw,hxi,qp,a1,a3,hb,GB,bO,bK,aL,iE,gd,EW,seval];omega
   ·have i1:=hi s (same fun h1 a' y' g1 g2=>by
     have:=aet hasc g1 hay (by rw[g2,hye])
     have he:=(hs.1 h1).1;simp only at he;rw[this,<-he]; exact hb)
    simp only[CA,cG,hx',hw,hxi,qp,a1,a3,hb,bO,bK,aL,iE,gd,EW,seval];exact i1
theorem VV(ht:t.ae.length<=100000)(he:∀n,n∈t.ae->n.bc.length<=100000)(hasc:oU t.ae){m0:List Bool}{k:List K}
  (hx:∀(s:Bool×BL t.ae.length) z,XP t.ae m0 (fun L=>∃(i:Nat) (x:Node),t.ae[i]?=some x/\(x.ar=ar\/m0[i]?=some true)/\L=x.bc) (s.1,s.2.1)->∃r,Q r/\kr (aq bW) [.tmp 4] 0 k ⟨.exit 2,(1,aF ar)::(2,ct 0)::(5,.cv 1 0 1 0 t.ae.length)::(6,aF by')::(7,.bool s.1)::z,Fj t s.2.1⟩=some r) (s:Bool×BL t.ae.length) (hs0:XP t.ae m0 (fun _=>False) (s.1,s.2.1)) :
  ∃r,Q r/\eX (aq bW) [.tmp 4] 0 k (.loop [1,2,5,6,7,8] ZU) [(1,aF ar),(2,ct 0),(5,.cv 1 0 1 0 t.ae.length),(6,aF by'),(7,.bool s.1),(8,aF 0)] (Fj t s.2.1)=some r:=by
 refine jc (xs:=t.ae) aH (fun j (s:Bool×BL t.ae.length)=>XP t.ae m0 (fun L=>∃(i:Nat) (x:Node),i<j/\t.ae[i]?=some x/\(x.ar=ar\/m0[i]?=some true)/\L=x.bc) (s.1,s.2.1)) (fun(s:Bool×BL t.ae.length) j=>[(1,aF ar),(2,ct 0),(5,.cv 1 0 1 0 t.ae.length),(6,aF by'),(7,.bool s.1),(8,aF j)]) (fun s=>Fj t s.2.1) Q (fun s hs=>?_) (fun pre x post s h hx' cG hw h0 hm hs hi=>?_) s ⟨fun h=>⟨(hs0.1 h).1,fun L ⟨i,x,hi,_⟩=>aH⟩,hs0.2⟩
 ·simp only[CA,br,EW,seval];exact hx s _ ⟨fun h=>⟨(hs.1 h).1,fun L ⟨i,x,h1,h2,h3⟩=>(hs.1 h).2 L ⟨i,x,(aj.1 h1).1,h1,h2,h3⟩⟩,hs.2⟩
 ·have hl:=(aj.1 hx').1;have hm2:=s.2.2;have a4:(pre.length<s.2.1.length)=True:=sM;have a2:(pre.length<t.ae.length)=True:=sM;obtain⟨b,hb⟩:∃b,s.2.1[pre.length]?=some b:=⟨_,ai aH⟩;have la:=fun {k} hx2=>VU (t:=t) (ar:=ar) (by':=by') (Q:=Q) ht hasc hx' (he x hm) (k:=k) hx2 s hs
  have fin:∀(s':Bool×BL t.ae.length),XP t.ae m0 (fun L=>(∃(i:Nat) (x:Node),i<pre.length/\t.ae[i]?=some x/\(x.ar=ar\/m0[i]?=some true)/\L=x.bc)\/L=x.bc) (s'.1,s'.2.1)->XP t.ae m0 (fun L=>∃(i:Nat) (x:Node),i<pre.length+1/\t.ae[i]?=some x/\(x.ar=ar\/m0[i]?=some true)/\L=x.bc) (s'.1,s'.2.1):=fun s' h'=>⟨fun h=>⟨(h'.1 h).1,fun L ⟨i,x',h1,h2,h3,h4⟩=>(h'.1 h).2 L (by
   grind)⟩,h'.2⟩
  have skip:b=false->x.ar≠ar->XP t.ae m0 (fun L=>∃(i:Nat) (x:Node),i<pre.length+1/\t.ae[i]?=some x/\(x.ar=ar\/m0[i]?=some true)/\L=x.bc) (s.1,s.2.1):=fun hbf hne=>⟨fun h=>⟨(hs.1 h).1,fun L ⟨i,x',h1,h2,h3,h4⟩=>(hs.1 h).2 L (by
   by_cases hip:i=pre.length
   ·exfalso;have e0:=(hs.1 h).1
    grind
   ·exact⟨i,x',aH,h2,h3,h4⟩)⟩,hs.2⟩
  cases b<;>cases h1:x.ar != ar <;>
   simp only[CA,cG,hx',hw,hb,h1,bO,bK,aL,EW,seval]
  all_goals first
   |exact hi s (skip rfl (by simpa using h1))
   |(refine la (fun s' z hs'=>?_)
     have i1:=hi s' (fin s' hs');simp only[CA,hw,EW,seval];exact i1)
theorem VW(ht:t.ae.length<=100000)(he:∀n,n∈t.ae->n.bc.length<=100000)(hasc:oU t.ae){k:List K}
  (hx:∀(m:BL t.ae.length) z,Clo t.ae ar m.1->∃r,Q r/\kr (aq bW) [.tmp 4] 0 k ⟨.exit 0,(1,aF ar)::(2,ct 0)::(5,.cv 1 0 1 0 t.ae.length)::z,Fj t m.1⟩=some r)
  (hr:∀(m:BL t.ae.length),Clo t.ae ar m.1->∃r,Q r/\kr (aq bW) [.tmp 4] 0 k ⟨.ret,[(4,.cv 1 0 1 0 t.ae.length)],Fj t m.1⟩=some r) (m:BL t.ae.length) :
  ∃r,Q r/\eX (aq bW) [.tmp 4] 0 k (.loop [1,2,5,6] ZV) [(1,aF ar),(2,ct 0),(5,.cv 1 0 1 0 t.ae.length),(6,aF 0)] (Fj t m.1)=some r:=by
 refine jc (xs:=t.ae) aH (fun j (m:BL t.ae.length)=>j<=nT m.1) (fun(_:BL t.ae.length) j=>[(1,aF ar),(2,ct 0),(5,.cv 1 0 1 0 t.ae.length),(6,aF j)]) (fun m=>Fj t m.1) Q (fun m hm=>?_) (fun pre x post m h hx' cG hw h0 hm hj hi=>?_) m (cL _)
 ·simp only[CA,br,EW,seval];refine hx m _ fun i x h1 _ e _ a y h3 _=>?_
  have h4:nT m.1=m.1.length:=Nat.le_antisymm (ny) (by rw[m.2]; exact hm)
  have ha:=(aj.1 h3).1;have h5:=List.countP_eq_length.1 h4 (m.1[a]'(by rw[m.2]; exact ha)) (jr _)
  grind
 ·have lb:=fun {k} hx2=>VV (t:=t) (ar:=ar) (by':=pre.length) (Q:=Q) ht he hasc (m0:=m.1) (k:=k) hx2 (false,m) ⟨fun _=>⟨rfl,fun _ h=>h.elim⟩,fun h=>by cases h⟩
  simp only[CA,cG,EW,seval];refine lb (fun s z hs=>?_)
  obtain⟨b,m'⟩:=s;cases b<;>simp only[CA,hw,EW,seval]
  ·obtain⟨e0,hc⟩:=hs.1 rfl;simp only at e0;exact hr m' (by rw[e0]; exact fun i x h1 h2 e he=>hc x.bc ⟨i,x,h1,h2,rfl⟩ e he)
  ·have:=hs.2 rfl;simp only at this;exact hi m' aH
end
def aqH(t:Tree)(ar:Int)(ht:t.ae.length<=100000)(he:∀n,n∈t.ae->n.bc.length<=100000)(hasc:oU t.ae):∃m:List Bool,aq bW 176 [bq t,aF ar] []=some (gS (m.map ag.bool),[])/\m.length=t.ae.length/\Clo t.ae ar m:=by
 have key:∃r:ag×aC,(∃m:List Bool,r=(gS (m.map ag.bool),[])/\m.length=t.ae.length/\Clo t.ae ar m)/\eX (aq bW) I2.results 0 [] I2.body (eF 0 [bq t,aF ar]) []=some r:=by
  have r1:cp t.ae.length 8=True:=qH
  have hrep:List.replicate t.ae.length (ag.agg [ag.bool false]).norm=(List.replicate t.ae.length false).map ag.bool:=by
   rw[gW]; rfl
  have lc:=fun {k Q} hx hr=>VW (t:=t) (ar:=ar) (Q:=Q) ht he hasc (k:=k) hx hr ⟨List.replicate t.ae.length false,dy⟩
  simp only[I2,CA,bq,aM,r1,hrep,EW,seval];refine lc (fun m z hc=>?_) (fun m hc=>?_) <;>
  ·have hm:=m.2;have htk:(m.1.map ag.bool).take t.ae.length=m.1.map ag.bool:=bC jK;simp only[CA,htk,EW,seval];exact⟨_,⟨m.1,rfl,hm,hc⟩,rfl⟩
 obtain⟨_,⟨m,rfl,h1⟩,h3⟩:=key;exact⟨m,aB h3,h1⟩
def Kb{A:List Node}{B:List Bool}(h:A.length=B.length)(n:Node)(b:Bool):HR (A++[n]) (B++[b])=HR A B+if b then n.data.length else 0:=by
 unfold HR;rw[List.zip_append h];simp
def Xy:∀(A:List Node)(B:List Bool),(∀n,n∈A->n.data.length<=4096)->HR A B<=4096*A.length
 | [],_,_=>by simp[HR]
 |n::A,[],_=>by simp[HR]
 |n::A,b::B,h=>by
  have h1:=Xy A B fun x hx=>h x (bt _ hx)
  have h2:=h n bD;simp only[HR,List.zip_cons_cons,aE,List.sum_cons,aw] at h1 ⊢;split<;>omega
def akL(t:Tree)(ar:Int)(hr:Rt t):∃a b:Int,aq bW 134 [bq t,aF ar] []=some (.tuple [aF a,aF b],[])/\(lq t.ae ar).1<=a/\(lq t.ae ar).2<=b:=by
 have h200:=hr.sz.ae
 have key:∃r:ag×aC,(∃a b:Int,r=(.tuple [aF a,aF b],[])/\(lq t.ae ar).1<=a/\(lq t.ae ar).2<=b)/\eX (aq bW) MX.results 0 [] MX.body (eF 0 [bq t,aF ar]) []=some r:=by
  obtain⟨m,q,hm,hc⟩:=aqH t ar aH (fun n hn=>by have:=(hr.XV hn).1; omega) hr.lK.mo
  have qu:=cP q;have qd:=fun M=>amm t.ae t.next t.ak ar aH M
  have hu:=Rp hr hm hc;cases hb:((find t.ae ar).isSome&&(bl t.ae ar).kind==2)<;>rw[hb] at qd<;>simp only[bq,aM] at qu<;>simp only[MX,ad6,bq,aM,qd,qu,EW,seval]
  ·have h0:lq t.ae ar=(0,0):=by unfold lq; rw[hb]; rfl
   exact⟨_,⟨_,_,rfl,by rw[h0]; exact dL 0,by rw[h0]; exact dL 0⟩,rfl⟩
  refine jc (xs:=m) aH (fun j (s:Int×Int)=>s.1=nT (m.take j)/\s.2=HR (t.ae.take j) (m.take j)) (fun s i=>[(2,ct 0),(7,gS (m.map ag.bool)),(8,aF s.1),(9,aF s.2),(10,aF i)]) (fun _=>[cu [ba t.ae,aF t.next,aF t.ak]]) _ (fun s hs=>?_) (fun pre x post s e hx cG hw h0 _ hs hi=>?_) (0,0) (by simp[nT,HR])
  ·rw[bE,hm,bE] at hs;simp only[ad6,br,EW,seval];exact⟨_,⟨_,_,rfl,by rw[hs.1]; exact hu.1,by rw[hs.2]; exact hu.2⟩,rfl⟩
  ·have hl:=(aj.1 hx).1;obtain⟨n,hn⟩:∃n,t.ae[pre.length]?=some n:=⟨_,ai aH⟩;have t1:m.take (pre.length+1)=m.take pre.length++[x]:=by rw[cB,hx]; rfl
   have t2:t.ae.take (pre.length+1)=t.ae.take pre.length++[n]:=by rw[cB,hn]; rfl
   have t3:(t.ae.take pre.length).length=(m.take pre.length).length:=gh;have hnd:=(hr.XV (aK hn)).2;have b1:nT (m.take pre.length)<=200:=aY ny gh;have b2:=Xy (t.ae.take pre.length) (m.take pre.length) fun y hy=>(hr.XV (dK hy)).2
   have b3:(t.ae.take pre.length).length<=200:=gh;cases x<;>simp only[ad6,cG,hx,hw,h0,hn,bK,aL,EW,seval]
   ·exact hi s (by rw[t1,t2,Kb t3,hs.1,hs.2]; simp[nT])
   ·have w1:IntKind.i64.wrap (s.1+1)=s.1+1:=gv aH aH;have w2:IntKind.i64.wrap (s.2+(n.data.length:Int))=s.2+(n.data.length:Int):=gv aH aH;simp only[w1,w2];exact hi (s.1+1,s.2+(n.data.length:Int)) (by rw[t1,t2,Kb t3,hs.1,hs.2]; simp[nT])
 obtain⟨_,⟨a,b,rfl,h1⟩,h3⟩:=key;exact⟨a,b,aB h3,h1⟩
def arp{t:Tree}{dD:Int->Nat}(h:dS t dD 0){l:List dN}(hq:pw l)(hl:l.length<=100000){ar:Int}{n:Node}(hi0:find t.ae ar=some n)(hk0:n.kind=2):aq bW 236 [bq t,cK l,aF ar] []=some (aF (mg t.ae l ar),[]):=by
 have ht:=h.ae;have hdl:=h.Du hi0 hk0
 have key:∃r:ag×aC,r=(aF (mg t.ae l ar),[])/\eX (aq bW) M8.results 0 [] M8.body (eF 0 [bq t,cK l,aF ar]) []=some r:=by
  simp only[M8,aem,bq,aM,EW,seval];refine jc (xs:=List.replicate (t.ae.length+1) ()) gh (fun j (a:Int)=>∃y,find t.ae a=some y/\y.kind=2/\dD a+j=dD ar/\mg t.ae l a=mg t.ae l ar) (fun a i=>[(1,cK l),(3,ct 0),(7,aF a),(8,aF i)]) (fun _=>[cu [ba t.ae,aF t.next,aF t.ak]]) _ (fun a ha=>?_) (fun pre x post a e hx cG hw h0 _ ha hi=>?_) ar ⟨n,hi0,hk0,aH,rfl⟩
  ·obtain⟨_,_,_,h1,_⟩:=ha;simp at h1; omega
  ·obtain⟨y,y1,y2,y3,y4⟩:=ha
   have e1:((pre.length:Int)<=(t.ae.length:Int))=True:=by
    have:=of_eq_true cG;rw[kV] at this;simp only[fH,iZ]; omega
   obtain⟨n,q,hn⟩:=akM l a hl;have qf:=cP q;have qg:=fun M=>Bh t.ae t.next t.ak a aH M
   have hup:=Lb h l y1 y2;have hqi:=(Y8 hq a).trans hn.symm;rw[y1] at qg;simp only[bA,bK,aL] at qg;cases h1:decide (0<=n)
   ·have h1':F4 l a=false:=by
     cases hc:F4 l a with
     |false=>rfl
     |true=>exact absurd (hqi.1 hc) (by simpa using h1)
    rw[h1'] at hup;cases h2:a==1<;>simp only[aem,e1,hw,qf,qg,h1,h2,EW,seval]
    ·have h2':a≠1:=by simpa using h2
     obtain⟨d1,p,p1,p2⟩:=h.qF _ _ y1 y2 h2';refine hi _ ⟨p,p1,p2,aH,?_⟩;rw[<-y4,hup]; simp[h2']
    ·refine⟨_,?_,rfl⟩;rw[<-y4,hup]; simp[show a=1 by simpa using h2]
   ·have h1':F4 l a=true:=hqi.2 (by simpa using h1)
    rw[h1'] at hup;simp only[aem,e1,hw,qf,qg,h1,EW,seval];refine⟨_,?_,rfl⟩;rw[<-y4,hup]; rfl
 obtain⟨_,rfl,h3⟩:=key;exact aB h3
def ahd{l:List dN}(hl:l.length<=16){q:dN}{t:Tree}{k:List K}{R:List dN->Option (ag×aC)}
  (hx:∀(out:List dN) (d:Bool) z,out.length<=40->kr (aq bW) [.tmp 10,.tmp 11] 0 k ⟨.exit 0,(1,cK l)::(2,aF q.ar)::(3,aF q.ae)::(4,aF q.bytes)::(17,.slice (.own 2) (out.map gx))::(18,.bool d)::z,[cu (aM t),cu (aL (bl t.ae q.ar)),.tick 3 out.length]⟩=R (out++rI q [] d)) :
  ∀(s:List dN×Bool),s.1.length<=0->eX (aq bW) [.tmp 10,.tmp 11] 0 k (.loop [1,2,3,4,17,18,19] ag6) [(1,cK l),(2,aF q.ar),(3,aF q.ae),(4,aF q.bytes),(17,.slice (.own 2) (s.1.map gx)),(18,.bool s.2),(19,aF 0)] [cu (aM t),cu (aL (bl t.ae q.ar)),.tick 3 s.1.length]=R (s.1++rI q l s.2):=by
 refine qJ (xs:=l) aH (fun m (s:List dN×Bool)=>s.1.length<=2*m) (fun post s=>s.1++rI q post s.2) (fun s i=>[(1,cK l),(2,aF q.ar),(3,aF q.ae),(4,aF q.bytes),(17,.slice (.own 2) (s.1.map gx)),(18,.bool s.2),(19,aF i)]) (fun s=>[cu (aM t),cu (aL (bl t.ae q.ar)),.tick 3 s.1.length]) R (fun s hI=>?_) (fun pre x post s e hx' cG hw h0 hm hI hi=>?_)
 ·simp only[aM,aL] at hx ⊢;simp only[QY,br,EW,seval];exact hx s.1 s.2 _ aH
 ·have hp:=(aj.1 hx').1;obtain⟨out,d⟩:=s;simp only at hI;have r1:cp (out.length+1) 24=True:=qH;have r2:cp (out.length+1+1) 24=True:=qH;rw[rI];simp only[aM,aL] at hi ⊢;have i1:=hi (out++[q]++[x],true) gh;have i2:=hi (out++[q],true) gh;have i3:=hi (out++[x],d) gh;have i4:=hi (out,d) (by simp only; omega)
  simp only[aW,aE,aQ,aA,aw,az,aG,bZ,aI,aP,gx,iT] at i1 i2 i3 i4
  cases d<;>cases h1:decide (q.ar<=x.ar)<;>cases h2:x.ar != q.ar <;>
   simp only[QY,cG,hx',hw,h0,h1,h2,r1,r2,gx,iT,dZ,dW,dH,cQ,er,fF,af,aJ,aD,bZ,EW,seval]<;>first|exact i4|exact i3|exact i2|exact i1
def c78(t:Tree)(l:List dN)(ar ae bytes:Int)(hr:Rt t)(hq:pw l)(hn:l.length<=16) :
  ∃m e,aq bW 78 [bq t,cK l,aF ar,aF ae,aF bytes] []=some (.tuple [cK m,aF e],[])/\pw m/\m.length<=16/\∀y,y∈m->y∈l\/∃n,find t.ae y.ar=some n/\n.kind=2:=by
 have ht:t.ae.length<=100000:=by have:=hr.sz.ae; omega
 obtain⟨a,b,qa,_⟩:=akL t ar hr;obtain⟨n,qn,hf⟩:=akM l ar aH;have qu:=cP qa;have qf:=cP qn;have qg:=fun M=>Bh t.ae t.next t.ak ar ht M
 have qd:=fun M=>amm t.ae t.next t.ak ar ht M
 have hz:(find t.ae ar).getD Node.zero=bl t.ae ar:=rfl;rw[hz] at qg;simp only[bq,aM] at qu;have hl:=fun {k R} hx=>ahd (l:=l) hn (q:=⟨ar,ae,bytes⟩) (t:=t) (k:=k) (R:=R) hx ([],decide (ae<0)) (au 0)
 simp only[aM,aL,aQ,az] at hl
 have hneg:decide (ae<0) = !decide (0<=ae):=by
  rw[cE]; simp
 have sh:(0<=ae->n<0->l.length<16)->pw (rI ⟨ar,ae,bytes⟩ l (decide (ae<0)))/\(rI ⟨ar,ae,bytes⟩ l (decide (ae<0))).length<=16/\∀y,y∈rI ⟨ar,ae,bytes⟩ l (decide (ae<0))->y∈l\/y.ar=ar:=by
  intro hh;rcases Int.lt_or_le ae 0 with h|h
  ·rw[kf h,zm];exact⟨hq.filter _,aY (bT _ _) hn,fun y hy => .inl (ei.1 hy).1⟩
  ·rw[iY (Int.not_lt.2 h)];obtain⟨g1,g2,g3,g4⟩:=GA ⟨ar,ae,bytes⟩ l hq;refine⟨g1,?_,fun y hy=>(g2 y hy).elim (fun e => .inr (by rw[e])) .inl⟩
   rcases Int.lt_or_le n 0 with h'|h'
   ·have:=hh h h'; omega
   ·exact aY (g4 (hf.1 h')) hn
 cases h1:(find t.ae ar).isSome<;>rw[h1] at qg qd
 ·refine⟨l,70,aB ?_,hq,hn,fun _ => .inl⟩
  simp only[Fa,QY,bq,aM,bK,aL,qg,EW,seval]
 cases h2:(bl t.ae ar).kind==2<;>rw[h2] at qd<;>simp only[jO,dV] at qd
 ·refine⟨l,73,aB ?_,hq,hn,fun _ => .inl⟩
  simp only[Fa,QY,bq,aM,bK,aL,qg,qd,EW,seval]
 cases h3:decide (0<=ae)
 case' true =>
  cases h4:decide (ae<a)
  case true =>
   refine⟨l,90,aB ?_,hq,hn,fun _ => .inl⟩
   simp only[Fa,QY,bq,aM,bK,aL,qg,qd,qu,qf,h3,hneg,h4,EW,seval]
  cases h5:decide (bytes<b)
  case true =>
   refine⟨l,90,aB ?_,hq,hn,fun _ => .inl⟩
   simp only[Fa,QY,bq,aM,bK,aL,qg,qd,qu,qf,h3,hneg,h4,h5,EW,seval]
  cases h6:decide (n<0)
  case' true =>
   cases h7:decide (16<=(l.length:Int))
   case true =>
    refine⟨l,76,aB ?_,hq,hn,fun _ => .inl⟩
    simp only[Fa,QY,bq,aM,bK,aL,qg,qd,qu,qf,h3,hneg,h4,h5,h6,h7,EW,seval]
 all_goals
  obtain⟨s1,s2,s3⟩:=sh (by intro g1 g2; simp only[bh,dv] at *; omega)
  refine⟨_,0,aB ?_,s1,s2,fun y hy=>(s3 y hy).elim .inl fun e => .inr ⟨bl t.ae ar,by rw[e]; cases hf':find t.ae ar<;>simp_all [bl],by simpa using h2⟩⟩
  rw[hneg,h3] at hl
  first
   |simp only[Fa,QY,bq,aM,bK,aL,qg,qd,qu,qf,h3,hneg,h4,h5,h6,h7,EW,seval]
   |simp only[Fa,QY,bq,aM,bK,aL,qg,qd,qu,qf,h3,hneg,h4,h5,h6,EW,seval]
   |simp only[Fa,QY,bq,aM,bK,aL,qg,qd,qu,qf,h3,hneg,EW,seval]
  refine(hl (R:=fun m=>some (.tuple [cK m,aF 0],([]:aC))) (fun out d z ho=>?_)).trans (by first|rfl|(rw[hneg,h3]; rfl))
  have r1:cp (out.length+1) 24=True:=qH;cases d<;>simp only[QY,r1,rI,gx,iT,aW,af,aJ,aD,EW,seval]
  all_goals simp[gx,iT]
end
def pT(c h:Int):List fD->Nat->Int
 | [],_ => -1
 |x::r,i=>if x.bF==c&&x.handle==h then i else pT c h r (i+1)
def zj(l:List fD)(c h:Int):Int:=pT c h l 0
def sm(c h:Int):∀(l:List fD)(i:Nat),(pT c h l i = -1/\∀x,x∈l->(x.bF==c&&x.handle==h)=false) \/
  ∃(m:Nat) (x:fD),pT c h l i=((i+m:Nat):Int)/\l[m]?=some x/\(x.bF==c&&x.handle==h)=true
 | [],i => .inl ⟨rfl,dy⟩
 |x::r,i=>by
  rw[pT];cases hx:x.bF==c&&x.handle==h
  ·rcases sm c h r (i+1) with ⟨h1,h2⟩|⟨m,y,h1,h2,h3⟩
   ·exact .inl ⟨by simpa using h1,fun y hy=>by rcases bI.1 hy with rfl|hy; exact hx; exact h2 y hy⟩
   ·exact .inr ⟨m+1,y,by simp only[af,aD,h1]; congr 1; omega,by simpa using h2,h3⟩
  ·exact .inr ⟨0,x,dy,rfl,hx⟩
def Jc(l:List fD)(ar:Int):Int:=((l.countP fun x=>x.ar==ar:Nat):Int)
def wC(c h:Int)(x:fD):Bool:=decide (x.bF<c)||(x.bF==c&&decide (x.handle<h))
def sG(t:Tree)(l:List fD)(c h ar:Int):List fD×Int :=
 if decide (c<0)||(decide (16<=c)||(decide (h<0)||decide (99<h))) then (l,1)
 else if !(find t.ae ar).isSome||gQ (bl t.ae ar) then (l,70)
 else if (bl t.ae ar).kind==2 then (l,72)
 else if decide (0<=zj l c h) then (l,71)
 else if decide (64<=(l.length:Int)) then (l,76)
 else (l.take (ml (wC c h) l)++⟨c,h,ar⟩::l.drop (ml (wC c h) l),0)
def PI(c h:Int):(fun x=>decide (ig x c h<0))=wC c h:=by
 funext x;rw[cE];simp only[wC,bh,sa,cW,bw,eG]
def WH{t:Tree}{l:List fD}(hl:uA l)(hn:l.length<=64)(c g ar:Int):uA (sG t l c g ar).1/\(sG t l c g ar).1.length<=64:=by
 have h0:=JJ (t:=t) hl hn c g ar;unfold sG;split
 ·exact⟨hl,hn⟩
 rename_i h1;split
 ·exact⟨hl,hn⟩
 rename_i h2;split
 ·exact⟨hl,hn⟩
 rename_i h3;split
 ·exact⟨hl,hn⟩
 rename_i h4;split
 ·exact⟨hl,hn⟩
 rename_i h5
 have k1:¬(!zY c g)=true:=by
  simp only[cW,bh,o7,zY,ij,Bool.and_eq_false_iff,dv,Classical.not_not] at h1 ⊢;omega
 have k2:¬pg (fun x=>ig x c g==0) l (ml (fun x=>decide (ig x c g<0)) l)=true:=by
  intro hk;unfold pg at hk;split at hk
  ·rename_i z hz
   have hz':(z.bF==c&&z.handle==g)=true:=by
    have:=(DS z c g).1 (by simpa using hk)
    simp[this.1,this.2]
   rcases sm c g l 0 with ⟨_,h6⟩|⟨m,_,h6,_⟩
   ·have:=h6 z (aK hz);rw[hz'] at this; cases this
   ·apply h4;unfold zj;rw[h6];simp
  ·cases hk
 unfold vG at h0;rw[aR k1,aR h2,aR h3,aR k2,aR h5,PI] at h0;exact h0
def P3{t:Tree}(ht:∀i n,find t.ae i=some n->n.kind=1\/n.kind=2)(l:List fD)(c g ar:Int){y:fD}(hy:y∈(sG t l c g ar).1):y∈l\/(∃n,find t.ae y.ar=some n/\n.kind=1)/\zY y.bF y.handle=true:=by
 unfold sG at hy;split at hy
 ·exact .inl hy
 rename_i h1;split at hy
 ·exact .inl hy
 rename_i h2;split at hy
 ·exact .inl hy
 rename_i h3;split at hy
 ·exact .inl hy
 split at hy
 ·exact .inl hy
 rcases bm.1 hy with hy|hy
 ·exact .inl (dK hy)
 rcases bI.1 hy with rfl|hy
 ·right;simp only[cW,o7,ij,Bool.not_eq_false] at h2;obtain⟨n,hn⟩:=fA.1 h2.1;refine⟨⟨n,hn,?_⟩,?_⟩
  case refine_2 =>
   simp only[cW,bh,o7] at h1;simp only[zY,bw,bh];omega
  have hnn:bl t.ae ar=n:=by simp[bl,hn]
  rw[hnn] at h3;rcases ht _ _ hn with h|h
  ·exact h
  ·simp[h] at h3
 ·exact .inl (dr hy)
def P4(t:Tree)(l:List fD)(c g ar:Int){y:fD}(hy:y∈l):y∈(sG t l c g ar).1:=by
 unfold sG;split
 ·exact hy
 split
 ·exact hy
 split
 ·exact hy
 split
 ·exact hy
 split
 ·exact hy
 simp only;generalize (ml _ l)=k;rw[<-cC k l] at hy;rcases bm.1 hy with hy|hy
 ·exact ft _ hy
 ·exact iC _ (bt _ hy)
section
attribute [local irreducible] eX fM lu gK dX kr aq aU cr bJ
def ap8(l:List fD)(c h:Int)(hn:l.length<=100000):aq bW 132 [fI l,aF c,aF h] []=some (aF (zj l c h),[]):=by
 refine aB ?_;have e0:zj l c h=pT c h l (l.length-l.length):=by rw[Nat.sub_self]; rfl
 rw[e0];simp only[acm,ad5,EW,seval];refine AY (xs:=l) aH (fun post (_:Unit)=>pT c h post (l.length-post.length)) (fun _ i=>[(0,fI l),(1,aF c),(2,aF h),(7,aF i)]) (fun _=>[]) (fun n=>some (aF n,([]:aC))) (fun _=>?_) (fun pre x post _ e hx cG hw h0 hm hi=>?_) ()
 ·simp only[ad5,br,pT,EW,seval]
 ·have i1:=hi ();have e1:l.length-(x::post).length=pre.length:=by rw[e]; simp
  have e2:l.length-post.length=pre.length+1:=by rw[e]; simp; omega
  rw[e2] at i1;rw[e1,pT];cases h1:x.bF==c<;>cases h2:x.handle==h<;>simp only[ad5,cG,hx,hw,h0,h1,h2,ib,jb,dV,dZ,dW,af,aD,aJ,EW,seval]<;>exact i1
def afA l c h hn:=cP (ap8 l c h hn)
def aqa(l:List fD)(ar:Int)(hn:l.length<=100000):aq bW 136 [fI l,aF ar] []=some (aF (Jc l ar),[]):=by
 refine aB ?_;simp only[aco,X0,EW,seval];refine(qJ (xs:=l) aH (fun m n=>n<=m) (fun post (n:Nat)=>((n+post.countP fun x=>x.ar==ar:Nat):Int)) (fun n i=>[(0,fI l),(1,aF ar),(5,aF n),(6,aF i)]) (fun _=>[]) (fun n=>some (aF n,([]:aC))) (fun n _=>?_) (fun pre x post n e hx cG hw h0 hm hI hi=>?_) 0 aH).trans (by simp[Jc])
 ·simp only[X0,br,List.countP_nil,EW,seval]
 ·have i1:=hi n aH;have i2:=hi (n+1) aH;have hl:=(aj.1 hx).1;have w1:IntKind.i64.wrap ((n:Int)+1)=((n+1:Nat):Int):=by rw[gv aH aH]; rfl
  cases h1:x.ar==ar
  ·simp only[lR,h1,af,aD,c8] at i1 ⊢;simp only[X0,cG,hx,hw,h0,h1,ib,jb,EW,seval];exact i1
  ·have e2:n+(List.countP (fun x=>x.ar==ar) (x::post))=n+1+List.countP (fun x=>x.ar==ar) post:=by simp only[lR,h1,aJ]; omega
   simp only[e2];simp only[X0,cG,hx,hw,w1,h0,h1,ib,jb,EW,seval];exact i2
def asq l ar hn:=cP (aqa l ar hn)
def ap7(t:Tree)(ar:Int)(ht:t.ae.length<=100000):aq bW 131 [bq t,aF ar] []=some (.bool ((find t.ae ar).isSome&&gQ (bl t.ae ar)),[]):=by
 refine aB ?_;have q:=fun M=>Bh t.ae t.next t.ak ar ht M
 have hz:(find t.ae ar).getD Node.zero=bl t.ae ar:=rfl;rw[hz] at q;unfold gQ;generalize bl t.ae ar=n at q
 cases h1:(find t.ae ar).isSome<;>rw[h1] at q<;>cases h2:n.kind==1<;>cases h3:n.eE==0 <;>
  simp only[ack,aoC,bq,aM,q,h2,h3,bK,aL,dV,dZ,dW,EW,seval]
def aml(ae:List Node)(next ak ar:Int)(h:ae.length<=100000)(M:aC):aU (aq bW) 131 [.agg [ba ae,aF next,aF ak],aF ar] M=some (.bool ((find ae ar).isSome&&gQ (bl ae ar)),M) :=
 cO (ap7 ⟨ae,next,ak⟩ ar h) M
def afx(ae:List Node)(next ak ar:Int)(s:Bytes)(ht:Small ⟨ae,next,ak⟩)(M:aC):aU (aq bW) 122 [.agg [ba ae,aF next,aF ak],aF ar,.str s] M =
  some (.agg [ba (dx ae ar s),aF next,aF ak],M):=cO (apY ⟨ae,next,ak⟩ ar s ht) M
def aaa{T:List ag}{n:Node}{e:gI}(hn:n.bc.length<=100000){k:List K}{R:List gI->Bool->Option (ag×aC)}
  (hx:∀out done v q,out.length<=300000->kr (aq bW) [.dE 8 3] 0 k ⟨.exit 0,[(2,.str e.name),(4,ct 0),(8,ct 1),(9,ct 2),(11,ct 3),(12,.slice (.own 4) (out.map iE)),(13,.bool done),(14,v),(30,q)],[.cells T,.cells zT,cu (aL n),cu (gd e),.tick 3 out.length]⟩=R out done)
  (hT:∀B M,T.map (ag.jW B M)=T) :
  ∀(l pre out:List gI)(done:Bool),n.bc=pre++l->out.length+2*l.length<=300000->eX (aq bW) [.dE 8 3] 0 k (.loop [2,4,8,9,11,12,13,14] Zt) [(2,.str e.name),(4,ct 0),(8,ct 1),(9,ct 2),(11,ct 3),(12,.slice (.own 4) (out.map iE)),(13,.bool done),(14,aF pre.length)] [.cells T,.cells zT,cu (aL n),cu (gd e),.tick 3 out.length]=R (vA e l out done).1 (vA e l out done).2:=by
 intro l;induction l with
 |nil =>
  intro pre out done h ho;rw[bG];simp only[GQ,aL,ja,jL h,EN,seval];exact hx _ _ _ _ (by simp at ho; omega)
 |cons m r ih =>
  intro pre out done h ho;rw[bG];have dJ:pre.length+1<=100000:=by rw[h] at hn; simp at hn; omega
  have hw:=zp pre m;have hi:=fun out done ho=>ih (pre++[m]) out done (by rw[h]; simp) ho
  simp only[aw] at ho;have r1:cp (out.length+1) 32=True:=qH;have r2:cp (out.length+1+1) 32=True:=qH;have hg:(!(strLt m.name e.name||m.name==e.name))=gtB m.name e.name:=rfl
  rw[vA];simp only[GQ,hg,aL,ja,iK h,gP h,gd,hT,zT,EN,seval]
  repeat' ((first|apply bB|apply bU|apply dI)<;>intro hb<;>simp only[hb,EN,GQ,gP h,hw,r1,r2,gd,hT,zT,hg,seval])
  all_goals try simp only[GQ,gP h,hw,r1,r2,gd,hT,zT,hg,EN,seval]
  all_goals first
   |(refine ik ?_ ((hi (out++[e]++[m]) true gh).trans ?_)
     ·simp only[aW,aE,aQ,aA,aw,az]; rfl
     ·clear hi ih hx hw h hT hg; simp_all; done)
   |(refine ik ?_ ((hi (out++[m]) done gh).trans ?_)
     ·simp only[aW,aE,aQ,aA,aw,az]; rfl
     ·clear hi ih hx hw h hT hg; simp_all; done)
def apV(t:Tree)(ar:Int)(s:Bytes)(of:Int)(ht:Small t):aq bW 118 [bq t,aF ar,.str s,aF of] []=some (bq (il t ar s of),[]):=by
 refine aB ?_;have hd:=FG ht ar;unfold il;simp only[R6,GQ,bq,aM,Bh,ht.ae,bK,EN,seval];generalize (find t.ae ar).getD Node.zero=n at hd ⊢;simp only[GQ,aL,EN,seval];refine(aaa (e:=⟨s,of,t.ak⟩) (R:=fun out done=>some (bq ⟨eT t.ae { n with bc:=out++(if done then [] else [⟨s,of,t.ak⟩]) },t.next,nw (t.ak+1)⟩,[])) hd (fun out done v e ho=>?_) (fun B M=>by simp only[GQ,EN,seval]) n.bc [] [] false rfl gh).trans (by simp[bq,aM,yZ])
 have r1:cp (out.length+1) 32=True:=qH;cases done
 ·simp only[GQ,zT,aL,gd,r1,aaK,Hl,ht.ae,EN,seval];simp[bq,aM]
 ·simp only[GQ,zT,aL,gd,r1,Hl,ht.ae,EN,seval];simp[bq,aM]
def Za(ae:List Node)(next ak ar:Int)(s:Bytes)(of:Int)(ht:Small ⟨ae,next,ak⟩)(M:aC):aU (aq bW) 118 [.agg [ba ae,aF next,aF ak],aF ar,.str s,aF of] M =
  some (bq (il ⟨ae,next,ak⟩ ar s of),M):=cO (apV ⟨ae,next,ak⟩ ar s of ht) M
def aag{t:Tree}(ht:t.ae.length<=100000){k:List K}{R:Nat->Option (ag×aC)}
  (hx:∀(d:Nat) v q,kr (aq bW) [.tmp 4] 0 k ⟨.exit 0,[(1,v),(2,ct 0),(5,aF d),(13,q)],[cu (aM t)]⟩=R d) :
  ∀(m:Nat)(ar:Int)(d:Nat),d+m=201->eX (aq bW) [.tmp 4] 0 k (.loop [1,2,5] ZC) [(1,aF ar),(2,ct 0),(5,aF d)] [cu (aM t)]=R (vZ t.ae m ar d):=by
 intro m;induction m with
 |zero =>
  intro ar d hd;rw[bG];have hd':((d:Int)<=200)=False:=gh;simp only[Kr,EN,seval]
  repeat' ((first|apply bB|apply bU|apply dI)<;>intro hb<;>simp only[hb,EN,Kr,hd',seval])
  all_goals exact hx _ _ _
 |succ m ih =>
  intro ar d hd;rw[bG];have hd':((d:Int)<=200)=True:=gh;have hw:IntKind.i64.wrap ((d:Int)+1)=((d+1:Nat):Int):=by rw[gv aH aH]; rfl
  have hi:=fun ar=>ih ar (d+1) aH
  rw[vZ];simp only[Kr,EN,seval];refine bU (fun hb=>?_) (fun hb=>?_)
  ·simp only[Kr,hb,hd',hw,aM,Bh,ht,bK,aL,EN,seval];have h1:¬ar=1:=by simpa using hb
   rw[aR h1];exact hi _
  ·simp only[Kr,hb,hd',hw,aM,Bh,ht,bK,aL,EN,seval];have h1:ar=1:=by simpa using hb
   rw[aZ h1];exact hx _ _ _
def ap4(t:Tree)(ar:Int)(ht:t.ae.length<=100000):aq bW 128 [bq t,aF ar] []=some (aF (pP t.ae ar),[]):=by
 refine aB ?_;simp only[ach,Kr,bq,EN,seval];exact aag (R:=fun(d:Nat)=>some (aF d,[])) ht (fun d v q=>by simp only[Kr,EN,seval]) 201 ar 0 rfl
def Py(ae:List Node)(next ak ar:Int)(h:ae.length<=100000)(M:aC):aU (aq bW) 128 [.agg [ba ae,aF next,aF ak],aF ar] M=some (aF (pP ae ar),M) :=
 cO (ap4 ⟨ae,next,ak⟩ ar h) M
def aqC(t:Tree)(n:Node)(ht:Small t):aq bW 171 [bq t,bK n] []=some (.bool (DG t n),[]):=by
 refine aB ?_;simp only[acF,aiu,bq,aM,bK,aL,Py,ht.ae,EN,seval];unfold DG
 repeat' ((first|apply bB|apply bU|apply dI)<;>intro hb<;>simp only[hb,EN,aiu,Py,ht.ae,seval])
 all_goals simp_all
def asG(ae:List Node)(next ak a b c:Int)(d:Bytes)(e:List gI)(u:Int)(h:Small ⟨ae,next,ak⟩)(M:aC):aU (aq bW) 171 [.agg [ba ae,aF next,aF ak],.agg [aF a,aF b,aF c,cR d,ja e,aF u]] M =
  some (.bool (DG ⟨ae,next,ak⟩ ⟨a,b,c,d,e,u⟩),M):=cO (aqC ⟨ae,next,ak⟩ ⟨a,b,c,d,e,u⟩ h) M
def apU(t:Tree)(ar:Int)(s:Bytes)(ht:Small t)(hs:s.length<=100000):aq bW 117 [bq t,aF ar,.str s] []=some (aF (oW t ar s),[]):=by
 refine aB ?_;have hd:=tC ht ar;have ht':Small ⟨t.ae,t.next,t.ak⟩:=ht
 simp only[ab9,GP,bq,aM,Zb,ht.ae,bK,aL,EN,seval];unfold oW;refine bB (fun hb=>?_) (fun hb=>?_)
 ·simp only[GP,EN,seval];simp_all
 ·simp only[GP,S0,hs,EN,seval];refine bB (fun hb'=>?_) (fun hb'=>?_)
  ·simp only[GP,EN,seval];simp_all
  ·simp only[GP,afy,hd,EN,seval];rcases tq s (gV t.ae ar).1.bc 0 with ⟨h1,h2⟩|⟨m,n,h1,h2,h3⟩
   ·rw[h2];simp only[GP,asG,ht',EN,seval];refine bB (fun hb''=>?_) (fun hb''=>?_)
    ·simp only[GP,EN,seval];simp_all
    ·simp only[GP,EN,seval];simp_all
   ·rw[h3];simp only[GP,EN,seval];simp_all
def afv(ae:List Node)(next ak ar:Int)(s:Bytes)(ht:Small ⟨ae,next,ak⟩)(hs:s.length<=100000)(M:aC):aU (aq bW) 117 [.agg [ba ae,aF next,aF ak],aF ar,.str s] M =
  some (aF (oW ⟨ae,next,ak⟩ ar s),M):=cO (apU ⟨ae,next,ak⟩ ar s ht hs) M
def ami(ae:List Node)(next ak a b c u:Int)(h:ae.length<=100000)(M:aC):aU (aq bW) 119 [.agg [ba ae,aF next,aF ak],.agg [aF a,aF b,aF c,gS [],gS [],aF u]] M =
  some (.agg [ba (eT ae ⟨a,b,c,[],[],u⟩),aF next,aF ak],M):=Hl ae next ak a b c [] [] u h M
def Ql{t:Tree}(hz:Sz 1000 t)(k u next ak a c:Int):Small ⟨eT t.ae ⟨a,k,c,[],[],u⟩,next,ak⟩:=(hz.with dy dy next ak).small aH
set_option maxHeartbeats 1000000 in
def c70(t:Tree)(ar:Int)(s:Bytes)(kind:Int)(hz:Sz 1000 t)(hs:s.length<=100000):aq bW 70 [bq t,aF ar,.str s,aF kind] []=some (.tuple [bq (rU t ar s kind).1,aF (rU t ar s kind).2.1,aF (rU t ar s kind).2.2],[]):=by
 obtain⟨ae,next,ak⟩:=t
 refine aB ?_;have ht:Small ⟨ae,next,ak⟩:=hz.small aH
 have hn:ae.length<=100000:=ht.ae;have hw:=fun k u next' cookie' a c=>Ql hz k u next' cookie' a c
 simp only[alQ,E70,bq,aM,afv,ht,hs,EN,seval]
 repeat' ((first|apply bB|apply bU|apply dI)<;>intro hb<;>simp only[hb,EN,E70,afv,ht,hs,hn,ami,Za,hw,bq,aM,seval])
 all_goals (clear hw; simp_all only[rU,bq,aM,qv,↓reduceIte,reduceCtorEq,av]; done)
def aaf{t:Tree}{of:Int}(ht:t.ae.length<=100000){k:List K}{R:Bool->Option (ag×aC)}
  (hx:∀e,kr (aq bW) [.tmp 6] 0 k ⟨.exit 0,e,[cu (aM t)]⟩=R false) (hr:∀b,kr (aq bW) [.tmp 6] 0 k ⟨.ret,[(6,.bool b)],[cu (aM t)]⟩=R b) :
  ∀(m:Nat)(ar:Int)(d:Nat),d+m=t.ae.length+1->eX (aq bW) [.tmp 6] 0 k (.loop [1,2,3,7] ZB) [(1,aF ar),(2,aF of),(3,ct 0),(7,aF d)] [cu (aM t)]=R (nj t.ae of m ar):=by
 intro m;induction m with
 |zero =>
  intro ar d hd;rw[bG];have hd':((d:Int)<=(t.ae.length:Int))=False:=gh;simp only[GR,aM,ba,hd',EN,seval];exact hx _
 |succ m ih =>
  intro ar d hd;rw[bG];have hd':((d:Int)<=(t.ae.length:Int))=True:=gh;have hw:IntKind.i64.wrap ((d:Int)+1)=((d+1:Nat):Int):=by rw[gv aH aH]; rfl
  have hi:=fun ar=>ih ar (d+1) aH
  rw[nj];simp only[GR,aM,ba,hd',EN,seval];refine bB (fun hb=>?_) (fun hb=>?_)
  ·have h1:ar=of:=by simpa using hb
   simp only[GR,EN,seval];rw[aZ h1];exact hr _
  ·have h1:¬ar=of:=by simpa using hb
   simp only[GR,EN,seval];rw[aR h1];refine bB (fun hb=>?_) (fun hb=>?_)
   ·have h1:ar=1:=by simpa using hb
    simp only[GR,EN,seval];rw[aZ h1];exact hr _
   ·have h1:¬ar=1:=by simpa using hb
    simp only[GR,hw,Bh,ht,bK,aL,EN,seval];rw[aR h1];exact hi _
def ap2(t:Tree)(ar of:Int)(ht:t.ae.length<=100000):aq bW 126 [bq t,aF ar,aF of] []=some (.bool (iJ t.ae ar of),[]):=by
 refine aB ?_;simp only[acf,GR,bq,EN,seval];exact aaf (R:=fun b=>some (.bool b,[])) ht (fun e=>by simp only[GR,EN,seval]) (fun b=>by simp only[GR,EN,seval]) (t.ae.length+1) ar 0 aH
def afz(ae:List Node)(next ak ar of:Int)(h:ae.length<=100000)(M:aC):aU (aq bW) 126 [.agg [ba ae,aF next,aF ak],aF ar,aF of] M=some (.bool (iJ ae ar of),M) :=
 cO (ap2 ⟨ae,next,ak⟩ ar of h) M
def k70(ae:List Node)(next ak ar:Int)(s:Bytes)(kind:Int)(hz:Sz 1000 ⟨ae,next,ak⟩)(hs:s.length<=100000)(M:aC):aU (aq bW) 70 [.agg [ba ae,aF next,aF ak],aF ar,.str s,aF kind] M =
  some (.tuple [bq (rU ⟨ae,next,ak⟩ ar s kind).1,aF (rU ⟨ae,next,ak⟩ ar s kind).2.1,aF (rU ⟨ae,next,ak⟩ ar s kind).2.2],M):=cO (c70 ⟨ae,next,ak⟩ ar s kind hz hs) M
def c68(t:Tree)(ar to:Int)(s:Bytes)(hz:Sz 1000 t)(hs:s.length<=100000):aq bW 68 [bq t,aF ar,aF to,.str s] []=some (.tuple [bq (CK t ar to s).1,aF (CK t ar to s).2],[]):=by
 obtain⟨ae,next,ak⟩:=t
 refine aB ?_;have ht:Small ⟨ae,next,ak⟩:=hz.small aH
 have hn:ae.length<=100000:=ht.ae;have hf:=hz.find ar;have hw':∀l,Small ⟨eT ae { bl ae ar with eE:=l },next,ak⟩:=fun l=>(hz.with (n:={ bl ae ar with eE:=l }) (iW hf.1) hf.2 next ak).small aH
 simp only[alP,E68,bq,aM,Bh,hn,bK,aL,EN,seval]
 repeat' ((first|apply bB|apply bU|apply dI)<;>intro hb<;>simp only[hb,EN,E68,afv,ht,hs,hn,Hl,Za,hw',bq,aM,seval])
 all_goals (clear hw' hf; simp_all only[CK,bq,aM,qv,↓reduceIte,reduceCtorEq,av]; done)
def k68(ae:List Node)(next ak ar to:Int)(s:Bytes)(hz:Sz 1000 ⟨ae,next,ak⟩)(hs:s.length<=100000)(M:aC):aU (aq bW) 68 [.agg [ba ae,aF next,aF ak],aF ar,aF to,.str s] M =
  some (.tuple [bq (CK ⟨ae,next,ak⟩ ar to s).1,aF (CK ⟨ae,next,ak⟩ ar to s).2],M):=cO (c68 ⟨ae,next,ak⟩ ar to s hz hs) M
def apX(t:Tree)(ar:Int)(ht:Small t):aq bW 121 [bq t,aF ar] []=some (bq ⟨fm t.ae ar,t.next,t.ak⟩,[]):=by
 obtain⟨ae,next,ak⟩:=t
 refine aB ?_;have hn:ae.length<=100000:=ht.ae;simp only[aca,aio,bq,aM,Bh,hn,bK,aL,EN,seval]
 repeat' ((first|apply bB|apply bU|apply dI)<;>intro hb<;>simp only[hb,EN,aio,hn,Hl,ams,bq,aM,seval])
 all_goals (simp_all only[fm,bq,aM,qv,↓reduceIte,reduceCtorEq,av]; done)
def afw(ae:List Node)(next ak ar:Int)(ht:Small ⟨ae,next,ak⟩)(M:aC):aU (aq bW) 121 [.agg [ba ae,aF next,aF ak],aF ar] M =
  some (.agg [ba (fm ae ar),aF next,aF ak],M):=cO (apX ⟨ae,next,ak⟩ ar ht) M
def c71(t:Tree)(ar:Int)(s:Bytes)(hz:Sz 1000 t)(hs:s.length<=100000):aq bW 71 [bq t,aF ar,.str s] []=some (.tuple [bq (BN t ar s).1,aF (BN t ar s).2.1,aF (BN t ar s).2.2],[]):=by
 obtain⟨ae,next,ak⟩:=t
 refine aB ?_;have ht:Small ⟨ae,next,ak⟩:=hz.small aH
 have hn:ae.length<=100000:=ht.ae;have hl:Small ⟨dx ae ar s,next,ak⟩:=(hz.left ar s next ak).small aH
 simp only[alR,E71,bq,aM,k72,ht,hs,bK,aL,EN,seval]
 repeat' ((first|apply bB|apply bU|apply dI)<;>intro hb<;>simp only[hb,EN,E71,hn,ht,hs,Bh,afx,afw,hl,bK,aL,bq,aM,seval])
 all_goals (simp_all only[BN,bq,aM,qv,↓reduceIte,reduceCtorEq,av]; done)
def k71(ae:List Node)(next ak ar:Int)(s:Bytes)(hz:Sz 1000 ⟨ae,next,ak⟩)(hs:s.length<=100000)(M:aC):aU (aq bW) 71 [.agg [ba ae,aF next,aF ak],aF ar,.str s] M =
  some (.tuple [bq (BN ⟨ae,next,ak⟩ ar s).1,aF (BN ⟨ae,next,ak⟩ ar s).2.1,aF (BN ⟨ae,next,ak⟩ ar s).2.2],M):=cO (c71 ⟨ae,next,ak⟩ ar s hz hs) M
def ap3(t:Tree)(x:Node)(y:Int)(ht:Small t):aq bW 127 [bq t,bK x,aF y] []=some (aF (uX t.ae x.kind y),[]):=by
 obtain⟨ae,next,ak⟩:=t
 refine aB ?_;have hn:ae.length<=100000:=ht.ae;simp only[acg,aip,bq,aM,Bh,hn,bK,aL,EN,seval]
 repeat' ((first|apply bB|apply bU|apply dI)<;>intro hb<;>simp only[hb,EN,aip,seval])
 all_goals (simp_all only[uX,qv,↓reduceIte,reduceCtorEq,av]; done)
def amj(ae:List Node)(next ak a b c:Int)(d:Bytes)(e:List gI)(u y:Int)(ht:Small ⟨ae,next,ak⟩)(M:aC):aU (aq bW) 127 [.agg [ba ae,aF next,aF ak],.agg [aF a,aF b,aF c,cR d,ja e,aF u],aF y] M =
  some (aF (uX ae b y),M):=cO (ap3 ⟨ae,next,ak⟩ ⟨a,b,c,d,e,u⟩ y ht) M
def c83(t:Tree)(ar:Int)(data:Bytes)(ht:Small t)(hd:data.length<=100000):aq bW 83 [bq t,aF ar,cR data] []=some (.tuple [bq (rP t ar data).1,aF (rP t ar data).2],[]):=by
 obtain⟨ae,next,ak⟩:=t
 refine aB ?_;have hn:ae.length<=100000:=ht.ae;have r1:cp data.length 1=True:=qH;simp only[afn,E83,bq,aM,Bh,hn,bK,aL,EN,seval]
 repeat' ((first|apply bB|apply bU|apply dI)<;>intro hb<;>simp only[hb,EN,E83,hn,r1,Hl,bq,aM,seval])
 all_goals (simp_all only[rP,bq,aM,qv,↓reduceIte,reduceCtorEq,av]; done)
def k83(ae:List Node)(next ak ar:Int)(data:Bytes)(ht:Small ⟨ae,next,ak⟩)(hd:data.length<=100000)(M:aC):aU (aq bW) 83 [.agg [ba ae,aF next,aF ak],aF ar,cR data] M =
  some (.tuple [bq (rP ⟨ae,next,ak⟩ ar data).1,aF (rP ⟨ae,next,ak⟩ ar data).2],M):=cO (c83 ⟨ae,next,ak⟩ ar data ht hd) M
def aqb(t:Tree)(ar:Int)(ht:Small t):aq bW 137 [bq t,aF ar] []=some (.tuple [bq (kJ t ar).1,aF (kJ t ar).2],[]):=by
 obtain⟨ae,next,ak⟩:=t
 refine aB ?_;have hn:ae.length<=100000:=ht.ae;simp only[acp,aiq,bq,aM,Bh,hn,bK,aL,EN,seval]
 repeat' ((first|apply bB|apply bU|apply dI)<;>intro hb<;>simp only[hb,EN,aiq,hn,ams,bq,aM,seval])
 all_goals (simp_all only[kJ,bq,aM,qv,↓reduceIte,reduceCtorEq,av]; done)
def amn(ae:List Node)(next ak ar:Int)(ht:Small ⟨ae,next,ak⟩)(M:aC):aU (aq bW) 137 [.agg [ba ae,aF next,aF ak],aF ar] M =
  some (.tuple [bq (kJ ⟨ae,next,ak⟩ ar).1,aF (kJ ⟨ae,next,ak⟩ ar).2],M):=cO (aqb ⟨ae,next,ak⟩ ar ht) M
def c41:aq bW 41 [] []=some (bq wK,[]):=by
 refine aB ?_;simp only[alH,E41,EN,seval];rfl
def k41:=cP c41
def aah{ae:List Node}{next ak ar at' d:Int}(ht:ae.length<=100000){k:List K}{R:Int->Option (ag×aC)}
  (hx:∀dC v q,kr (aq bW) [.tmp 6] 0 k ⟨.exit 0,[(1,aF ar),(2,aF at'),(3,ct 0),(7,aF dC),(8,aF d),(9,v),(19,q)],[cu (aM ⟨ae,next,ak⟩)]⟩=R dC) :
  ∀(l pre:List Node)(dC:Int),ae=pre++l->eX (aq bW) [.tmp 6] 0 k (.loop [1,2,3,7,8,9] ZD) [(1,aF ar),(2,aF at'),(3,ct 0),(7,aF dC),(8,aF d),(9,aF pre.length)] [cu (aM ⟨ae,next,ak⟩)]=R (wc ae ar at' d l dC):=by
 intro l;induction l with
 |nil =>
  intro pre dC h;rw[bG];simp only[QO,aM,jL h,EN,seval];exact hx _ _ _
 |cons n r ih =>
  intro pre dC h;rw[bG];have dJ:pre.length+1<=100000:=by rw[h] at ht; simp at ht; omega
  have hw:=zp pre n;have hi:=fun dC=>ih (pre++[n]) dC (by rw[h]; simp)
  rw[wc];simp only[aM] at hi;generalize hst:sC ae ar at' d n dC=m1;simp only[QO,aM,iK h,gP h,aL,EN,seval]
  repeat' ((first|apply bB|apply bU|apply dI)<;>intro hb<;>simp only[hb,EN,QO,hw,afz,Py,ht,aL,seval])
  all_goals refine ik ?_ (hi m1)
  all_goals congr 1
  all_goals (subst hst; clear hi ih hx hw h ht; simp_all only[sC,nw,gt_iff_lt,aA,aw,az,aG,qv,↓reduceIte,reduceCtorEq,av]; done)
def ap5(t:Tree)(ar at':Int)(ht:t.ae.length<=100000):aq bW 129 [bq t,aF ar,aF at'] []=some (aF (B9 t.ae ar at'),[]):=by
 obtain⟨ae,next,ak⟩:=t
 have ht:ae.length<=100000:=ht;refine aB ?_;simp only[aci,QO,bq,aM,Py,ht,EN,seval];exact aah (R:=fun z=>some (aF z,[])) ht (fun dC v q=>by simp only[QO,EN,seval]) ae [] 0 rfl
def amk(ae:List Node)(next ak ar at':Int)(h:ae.length<=100000)(M:aC):aU (aq bW) 129 [.agg [ba ae,aF next,aF ak],aF ar,aF at'] M=some (aF (B9 ae ar at'),M) :=
 cO (ap5 ⟨ae,next,ak⟩ ar at' h) M
set_option maxHeartbeats 2000000 in
def c73(t:Tree)(kv:Int)(s:Bytes)(to:Int)(nm:Bytes)(hz:Sz 1000 t)(hs:s.length<=100000)(ha:nm.length<=100000):aq bW 73 [bq t,aF kv,.str s,aF to,.str nm] [] =
  some (.tuple [bq (wP t kv s to nm).1,aF (wP t kv s to nm).2.1,aF (wP t kv s to nm).2.2],[]):=by
 obtain⟨ae,next,ak⟩:=t
 have ht:Small ⟨ae,next,ak⟩:=hz.small aH
 have hn:ae.length<=100000:=ht.ae;have hd:(gV ae to).1.bc.length<=100000:=tC ht to;have z1:Sz 1001 ⟨dx ae kv s,next,ak⟩:=hz.left kv s next ak
 have z2:Sz 1002 ⟨dx (dx ae kv s) to nm,next,ak⟩:=z1.left to nm next ak
 have z3:∀y,Sz 1003 ⟨fm (dx (dx ae kv s) to nm) y,next,ak⟩:=fun y=>z2.unnamed y next ak
 have hx:=hz.find (fg ae kv s).1;have z4:∀y,Sz 1004 ⟨eT (fm (dx (dx ae kv s) to nm) y) { bl ae (fg ae kv s).1 with up:=to },next,ak⟩:=fun y=>(z3 y).with (n:={ bl ae (fg ae kv s).1 with up:=to }) (aY hx.1 aH) hx.2 next ak
 have z5:Sz 1002 ⟨eT (dx ae kv s) { bl ae (fg ae kv s).1 with up:=to },next,ak⟩:=z1.with (n:={ bl ae (fg ae kv s).1 with up:=to }) (aY hx.1 aH) hx.2 next ak
 have s1:=z1.small aH;have s2:=z2.small aH;have s3:=fun y=>(z3 y).small aH
 have s4:=fun y=>(z4 y).small aH
 have s5:=z5.small aH;have n1:(dx ae kv s).length<=100000:=s1.ae;have n3:∀y,(fm (dx (dx ae kv s) to nm) y).length<=100000:=fun y=>(s3 y).ae
 clear z1 z2 z3 z4 z5 hx;refine aB ?_;simp only[alT,QX,bq,aM,k72,ht,hs,EN,seval];refine bB (fun hb0=>?_) (fun hb0=>?_)
 ·simp only[QX,hb0,EN,seval];clear s1 s2 s3 s4 s5 n1 n3;simp_all only[wP,bq,aM,qv,↓reduceIte,reduceCtorEq,av]
 simp only[QX,hb0,Zb,hn,bK,aL,EN,seval];refine bB (fun hb1=>?_) (fun hb1=>?_)
 ·simp only[QX,hb1,EN,seval];clear s1 s2 s3 s4 s5 n1 n3;simp_all only[wP,bq,aM,qv,↓reduceIte,reduceCtorEq,av]
 simp only[QX,hb1,S0,ha,EN,seval];refine bB (fun hb2=>?_) (fun hb2=>?_)
 ·simp only[QX,hb2,EN,seval];clear s1 s2 s3 s4 s5 n1 n3;simp_all only[wP,bq,aM,qv,↓reduceIte,reduceCtorEq,av]
 simp only[QX,hb2,afy,hd,EN,seval];rcases tq nm (gV ae to).1.bc 0 with ⟨h1,h2⟩|⟨m,n,h1,h2,h3⟩
 ·have hu:jf (gV ae to).1.bc nm=0:=by simp[jf,h1]
  rw[h2];simp only[QX,EN,seval]
  repeat' ((first|apply bB|apply bU|apply dI)<;>intro hb<;>simp only[hb,EN,QX,Bh,hn,ht,bK,aL,afz,amj,Py,amk,afx,afw,Hl,Za,s1,s2,s3,s4,s5,n1,n3,bq,aM,seval])
  all_goals (clear s1 s2 s3 s4 s5 n1 n3 h2; simp_all only[wP,tc,manyN,hu,bq,aM,qv,↓reduceIte,reduceCtorEq,av]; done)
 ·have hu:jf (gV ae to).1.bc nm=n.ar:=by simp[jf,h2]
  rw[h3];simp only[QX,h1,gd,EN,seval]
  repeat' ((first|apply bB|apply bU|apply dI)<;>intro hb<;>simp only[hb,EN,QX,Bh,hn,ht,bK,aL,afz,amj,Py,amk,afx,afw,Hl,Za,s1,s2,s3,s4,s5,n1,n3,bq,aM,seval])
  all_goals (clear s1 s2 s3 s4 s5 n1 n3 h3; simp_all only[wP,tc,manyN,hu,bq,aM,qv,↓reduceIte,reduceCtorEq,av]; done)
def k73(ae:List Node)(next ak kv:Int)(s:Bytes)(to:Int)(nm:Bytes)(hz:Sz 1000 ⟨ae,next,ak⟩)(hs:s.length<=100000)(ha:nm.length<=100000)(M:aC):aU (aq bW) 73 [.agg [ba ae,aF next,aF ak],aF kv,.str s,aF to,.str nm] M =
  some (.tuple [bq (wP ⟨ae,next,ak⟩ kv s to nm).1,aF (wP ⟨ae,next,ak⟩ kv s to nm).2.1,aF (wP ⟨ae,next,ak⟩ kv s to nm).2.2],M):=cO (c73 ⟨ae,next,ak⟩ kv s to nm hz hs ha) M
def V2{α:Type}(lt:α->Bool)(x:α)(l:List α):ml lt (x::l)=if lt x then ml lt l+1 else 0:=by
 unfold ml;rw[gN];split<;>simp
def ahc{l:List fD}(hn:l.length<=100000){c h ar:Int}{t:Tree}{n:Node}{i:Nat}{k:List K}{R:Option (ag×aC)}
  (hx:∀z,kr (aq bW) [.tmp 10,.tmp 11] 0 k ⟨.exit 0,(1,fI l)::(2,aF c)::(3,aF h)::(4,aF ar)::(14,aF i)::z,[cu (aM t),cu (aL n)]⟩=R) :
  ∀(rest pre:List fD),l=pre++rest->pre.length+ml (wC c h) rest=i->eX (aq bW) [.tmp 10,.tmp 11] 0 k (.loop [1,2,3,4,14] ag5) [(1,fI l),(2,aF c),(3,aF h),(4,aF ar),(14,aF pre.length)] [cu (aM t),cu (aL n)]=R:=by
 simp only[aM,aL] at hx ⊢;intro rest;induction rest with
 |nil =>
  intro pre e hi;obtain rfl:pre.length=i:=by simpa[ml] using hi
  rw[bG];simp only[Ye,jL e,EW,seval];exact hx _
 |cons x r ih =>
  intro pre e hi;rw[bG];have dJ:pre.length+1<=100000:=by rw[e] at hn; simp at hn; omega
  have hw:=zp pre x;have i1:=ih (pre++[x]) (by rw[e]; simp)
  have h0:((pre.length:Int)<0)=False:=dy;simp only[aA,aw,az,aG] at i1;rw[V2] at hi;cases hl:wC c h x<;>rw[hl] at hi
  ·obtain rfl:pre.length=i:=by simpa using hi
   unfold wC at hl;cases h1:decide (x.bF<c)<;>cases h2:x.bF==c<;>cases h3:decide (x.handle<h)<;>rw[h1,h2,h3] at hl<;>first|(cases hl; done)|skip
   all_goals
    simp only[Ye,iK e,gP e,hw,h0,h1,h2,h3,ib,jb,er,dH,fF,cQ,dV,dZ,dW,aJ,af,aD,EW,seval];exact hx _
  ·have i1:=i1 (by simp at hi; omega)
   unfold wC at hl;cases h1:decide (x.bF<c)<;>cases h2:x.bF==c<;>cases h3:decide (x.handle<h)<;>rw[h1,h2,h3] at hl<;>first|(cases hl; done)|skip
   all_goals
    simp only[Ye,iK e,gP e,hw,h0,h1,h2,h3,ib,jb,er,dH,fF,cQ,dV,dZ,dW,aJ,af,aD,EW,seval];exact i1
def c77(t:Tree)(l:List fD)(c h ar:Int)(ht:t.ae.length<=100000)(hn:l.length<=100000):aq bW 77 [bq t,fI l,aF c,aF h,aF ar] []=some (.tuple [fI (sG t l c h ar).1,aF (sG t l c h ar).2],[]):=by
 refine aB ?_;have qg:=fun M=>Bh t.ae t.next t.ak ar ht M
 have qo:=fun M=>aml t.ae t.next t.ak ar ht M
 have qp:=fun M=>afA l c h hn M
 have hz:(find t.ae ar).getD Node.zero=bl t.ae ar:=rfl;rw[hz] at qg
 obtain⟨A,B,hl,hA⟩:∃A B,l=A++B/\ml (wC c h) l=A.length:=⟨l.take (ml (wC c h) l),l.drop (ml (wC c h) l),dy,by
  rw[cq];have:ml (wC c h) l<=l.length:=by unfold ml; exact(List.takeWhile_prefix _).length_le
  omega⟩
 have hlo:=fun {k R} hx=>ahc (t:=t) (n:=bl t.ae ar) (c:=c) (h:=h) (ar:=ar) (i:=A.length) hn (k:=k) (R:=R) hx l [] rfl (by simpa using hA)
 unfold sG;rw[hA];have a1:l.take A.length=A:=by rw[hl]; simp
 have a2:l.drop A.length=B:=by rw[hl]; simp
 have a3:((A.length:Int)<=(l.length:Int))=True:=by rw[hl]; simp; omega
 have hal:A.length+B.length<=100000:=by rw[hl] at hn; simpa using hn
 have r1:cp A.length 24=True:=qH;have r2:cp (A.length+1) 24=True:=qH;have r3:cp (A.length+1+B.length) 24=True:=qH;generalize bl t.ae ar=n at qg qo hlo;generalize (find t.ae ar).isSome=is at qg qo;generalize zj l c h=p at qp
 cases h1:decide (c<0)<;>cases h2:decide (16<=c)<;>cases h3:decide (h<0)<;>cases h4:decide (99<h) <;>
  simp only[afl,Ye,bq,aM,qg,h1,h2,h3,h4,bK,aL,er,dH,fF,cQ,fG,aJ,af,aD,EW,seval]
 cases is<;>cases h5:gQ n<;>rw[h5] at qo<;>simp only[jO,gA,dV,dZ,dW] at qo <;>
  simp only[Ye,qo,er,dH,fF,cQ,fG,aJ,af,aD,EW,seval]
 cases h6:n.kind==2<;>simp only[Ye,h6,aJ,af,aD,EW,seval]
 cases h7:decide (0<=p)<;>simp only[Ye,qp,h7,aJ,af,aD,EW,seval]
 cases h8:decide (64<=(l.length:Int))<;>simp only[Ye,h8,aJ,af,aD,EW,seval]
 simp only[az,aG,aM,aL] at hlo;refine hlo (fun z=>?_)
 rw[a1,a2];have a1':(l.map ib).take A.length=A.map ib:=by rw[<-eb,a1]
 have a2':(l.map ib).drop A.length=B.map ib:=by rw[<-jS,a2]
 have a5:(l.map ib).take l.length=l.map ib:=by rw[<-eb,bE]
 simp only[Ye,a1',a2',a3,a5,r1,r2,r3,dL,EW,seval];simp[ib,jb]
def k77(ae:List Node)(next ak:Int)(l:List fD)(c h ar:Int)(ht:ae.length<=100000)(hn:l.length<=100000)(M:aC):aU (aq bW) 77 [.agg [ba ae,aF next,aF ak],fI l,aF c,aF h,aF ar] M=some (.tuple [fI (sG ⟨ae,next,ak⟩ l c h ar).1,aF (sG ⟨ae,next,ak⟩ l c h ar).2],M):=cO (c77 ⟨ae,next,ak⟩ l c h ar ht hn) M
structure AG(t:Tree)(l:List fD)(u:Tree)(m:List fD):Prop where
 rt:Rt u
 mo:uA m
 len:m.length<=64
 mem:∀y,y∈m->y∈l/\(tG t.ae y.ar->tG u.ae y.ar)
 orp:(∀n,n∈t.ae->gQ n=true->pQ l n.ar=true)->∀n,n∈u.ae->gQ n=true->pQ m n.ar=true
 dir:∀i,XT t.ae i->XT u.ae i
 one:∀Q,OD t Q->OD u Q
 use:∀q,nr u q=nr t q
def AG.refl{t:Tree}{l:List fD}(ht:Rt t)(hl:uA l)(hn:l.length<=64):AG t l t l:=⟨ht,hl,hn,fun _ hy=>⟨hy,id⟩,id,fun _=>id,fun _=>id,fun _=>rfl⟩
theorem AG.trans{t u v:Tree}{l m k:List fD}(h:AG t l u m)(g:AG u m v k):AG t l v k:=⟨g.rt,g.mo,g.len,fun y hy=>⟨(h.mem y (g.mem y hy).1).1,fun hf=>(g.mem y hy).2 ((h.mem y (g.mem y hy).1).2 hf)⟩,fun ho=>g.orp (h.orp ho),fun i hi=>g.dir i (h.dir i hi),fun Q hQ=>g.one Q (h.one Q hQ),fun q=>(g.use q).trans (h.use q)⟩
def CT{l:List fD}{y:fD}(h:y∈l){i:Int}(e:y.ar=i):pQ l i=true:=km.2 ⟨y,h,by simp[e]⟩
def of_held{l:List fD}{i:Int}(h:pQ l i=true):∃y,y∈l/\y.ar=i:=by
 obtain⟨y,h1,h2⟩:=km.1 h;exact⟨y,h1,by simpa using h2⟩
def abm{t u:Tree}{l A B:List fD}{x:fD}(ht:Rt t)(hl:uA l)(hn:l.length<=64)(he:l=A++x::B)(hu:u=t/\(((find t.ae x.ar).isSome&&gQ (bl t.ae x.ar))=true->pQ (A++B) x.ar=true)\/u=(kJ t x.ar).1/\pQ (A++B) x.ar=false):AG t l u (A++B):=by
 subst he;have hsub:(A++B).Sublist (A++x::B):=List.Sublist.append (List.Sublist.refl _) (List.sublist_cons_self _ _);have dJ:(A++B).length<=64:=aY hsub.length_le hn
 have hor:∀y,y∈A++x::B->y=x\/y∈A++B:=fun y hy=>by
  rcases bm.1 hy with h|h
  ·exact .inr (ft _ h)
  ·rcases bI.1 h with h|h
   ·exact .inl h
   ·exact .inr (iC _ h)
 rcases hu with ⟨rfl,hb⟩|⟨rfl,hb⟩
 ·exact⟨ht,hl.sublist hsub,dJ,fun y hy=>⟨hsub.mem hy,id⟩,fun h n hm ho=>by
   obtain⟨y,h1,h2⟩:=of_held (h n hm ho);rcases hor y h1 with rfl|h3
   ·rw[<-h2];refine hb ?_;have:=(ic ht.lK.mo).2 ⟨hm,h2.symm⟩;simp[bl,this,ho]
   ·exact CT h3 h2,fun _=>id,fun _=>id,fun _=>rfl⟩
 ·have hf:=ht.free x.ar;have hff:=AZ ht x.ar;refine⟨hf,hl.sublist hsub,dJ,fun y hy=>⟨hsub.mem hy,fun hi=>Jk ht x.ar hi fun e=>by rw[CT hy e] at hb; cases hb⟩,fun h n hm ho=>?_,fun i hi=>?_,aaP ht x.ar,fun q=>by simp only[nr,Qu ht]⟩
  ·have h1:=(ic hf.lK.mo).2 ⟨hm,rfl⟩;rw[hff] at h1;split at h1
   ·cases h1
   rename_i hc;obtain⟨y,g1,g2⟩:=of_held (h n (cD h1).1 ho);rcases hor y g1 with rfl|h3
   ·exact absurd ⟨g2.symm,n,by rw[g2]; exact h1,ho⟩ hc
   ·exact CT h3 g2
  ·obtain⟨n,h1,h2⟩:=hi;refine⟨n,?_,h2⟩;rw[hff,aR,h1];rintro⟨rfl,m,g1,g2⟩;rw[h1] at g1; cases g1;simp[gQ,h2] at g2
def c80(t:Tree)(l:List fD)(c h:Int)(ht:Rt t)(hl:uA l)(hn:l.length<=64):∃u m e,aq bW 80 [bq t,fI l,aF c,aF h] []=some (.tuple [bq u,fI m,aF e],[])/\AG t l u m:=by
 have qp:=fun M=>afA l c h aH M
 have hnl:=ht.sz.ae;rcases sm c h l 0 with ⟨hp,_⟩|⟨m,x,hp,hx,_⟩<;>rw[show pT c h l 0=zj l c h from rfl] at hp
 ·rw[hp] at qp;refine⟨t,l,80,aB ?_,AG.refl ht hl hn⟩;simp only[Ph,E80,bq,aM,qp,EW,seval]
 ·rw[hp,aG] at qp;have hm:=(aj.1 hx).1;have h1:((m:Int)<0)=False:=dy;have h2:((m:Int)<(l.length:Int))=True:=sM;have w1:IntKind.i64.wrap ((m:Int)+1)=((m+1:Nat):Int):=by rw[gv aH aH]; rfl
  have h3:((m:Int)<=(l.length:Int))=True:=sM;have h4:(((m+1:Nat):Int)<=(l.length:Int))=True:=sM;obtain⟨A,B,e1,e2⟩:∃A B,l.take m=A/\l.drop (m+1)=B:=⟨_,_,rfl,rfl⟩
  have he:l=A++x::B:=by
   have hxe:x=l[m]:=(aj.1 hx).2.symm;rw[<-e1,<-e2,hxe,List.getElem_cons_drop hm,cC]
  have sh:=fun u hu=>abm (u:=u) ht hl hn he hu
  have hab:A.length+B.length<=64:=by rw[he] at hn; simp at hn; omega
  have qo:=fun M=>aml t.ae t.next t.ak x.ar aH M
  have qh:=fun M=>asq (A++B) x.ar gh M
  have qf:=fun M=>amn t.ae t.next t.ak x.ar ht.small M
  have hD:pQ (A++B) x.ar = !(Jc (A++B) x.ar==0):=by
   rw[cE];unfold pQ Jc;rw[km,<-List.countP_pos_iff (p:=fun z:fD=>z.ar==x.ar)]
   simp only[ij,ke];omega
  rw[hD] at sh;have a1:(l.map ib).take m=A.map ib:=by rw[<-eb,e1]
  have a2:(l.map ib).drop (m+1)=B.map ib:=by rw[<-jS,e2]
  have a5:(l.map ib).take l.length=l.map ib:=by rw[<-eb,bE]
  have r1:cp A.length 24=True:=qH;have r2:cp (A.length+B.length) 24=True:=qH;generalize ((find t.ae x.ar).isSome&&gQ (bl t.ae x.ar))=b at qo sh;generalize kJ t x.ar=v at qf sh;have eAB:fI (A++B) = gS (A.map ib++B.map ib):=congrArg (ag.slice .sh) aW;rw[eAB] at qh;cases b
  ·refine⟨t,A++B,0,aB ?_,sh t (.inl ⟨rfl,fun h=>by cases h⟩)⟩
   rw[eAB];simp only[Ph,E80,bq,aM,qp,qo,h1,h2,h3,h4,w1,hx,a1,a2,a5,r1,r2,ib,jb,aW,dL,EW,seval]
  ·cases h5:Jc (A++B) x.ar==0<;>rw[h5] at sh
   ·refine⟨t,A++B,0,aB ?_,sh t (.inl ⟨rfl,fun _=>rfl⟩)⟩
    rw[eAB];simp only[Ph,E80,bq,aM,qp,qo,qh,h1,h2,h3,h4,h5,w1,hx,a1,a2,a5,r1,r2,ib,jb,aW,dL,EW,seval]
   ·refine⟨v.1,A++B,0,aB ?_,sh v.1 (.inr ⟨rfl,rfl⟩)⟩;rw[eAB];simp only[Ph,E80,bq,aM,qp,qo,qh,qf,h1,h2,h3,h4,h5,w1,hx,a1,a2,a5,r1,r2,ib,jb,aW,dL,EW,seval]
def c48(t:Tree)(l:List fD)(c:Int)(ht:Rt t)(hl:uA l)(hn:l.length<=64):∃u m,aq bW 48 [bq t,fI l,aF c] []=some (.tuple [bq u,fI m],[])/\AG t l u m:=by
 have key:∃r:ag×aC,(∃u m,r=(.tuple [bq u,fI m],[])/\AG t l u m)/\eX (aq bW) YY.results 0 [] YY.body (eF 0 [bq t,fI l,aF c]) []=some r:=by
  simp only[YY,E48,bq,aM,EW,seval];refine jc (xs:=List.replicate 100 ()) dy (fun _ (s:Tree×List fD)=>AG t l s.1 s.2) (fun s i=>[(1,fI s.2),(2,aF c),(3,ct 0),(6,ct 1),(8,aF i)]) (fun s=>[cu [ba s.1.ae,aF s.1.next,aF s.1.ak],cu [.slice .c0 [],aF 0,aF 0]]) _ (fun s hs=>?_) (fun pre x post s e hx cG hw h0 _ hs hi=>?_) (t,l) (AG.refl ht hl hn)
  ·have e1:(((100:Nat):Int)<=99)=False:=dy;simp only[E48,e1,kV,EW,seval];exact⟨_,⟨s.1,s.2,rfl,hs⟩,rfl⟩
  ·have e1:((pre.length:Int)<=99)=True:=by
    have:=of_eq_true cG;rw[kV] at this;simp only[fH,iZ]; omega
   obtain⟨u,m,e,q,hq⟩:=c80 s.1 s.2 c pre.length hs.rt hs.mo hs.len;have qc:=cP q;simp only[bq,aM] at qc;have i1:=hi (u,m) (hs.trans hq);simp only[E48,e1,hw,qc,EW,seval];exact i1
 obtain⟨_,⟨u,m,rfl,h1⟩,h3⟩:=key;exact⟨u,m,aB h3,h1⟩
def c81(l:List fD)(c h:Int)(hn:l.length<=64):∃i e,aq bW 81 [fI l,aF c,aF h] []=some (.tuple [aF i,aF e],[]):=by
 have qp:=fun M=>afA l c h aH M
 rcases sm c h l 0 with ⟨hp,_⟩|⟨m,x,hp,hx,_⟩<;>rw[show pT c h l 0=zj l c h from rfl] at hp
 ·rw[hp] at qp;refine⟨0,80,aB ?_⟩;simp only[afm,E81,qp,EW,seval]
 ·rw[hp,aG] at qp;have hm:=(aj.1 hx).1;have h1:((m:Int)<0)=False:=dy;have h2:((m:Int)<(l.length:Int))=True:=sM;refine⟨x.ar,0,aB ?_⟩;simp only[afm,E81,qp,h1,h2,hx,ib,jb,EW,seval]
def aqD(l:List fD)(ar:Int)(hn:l.length<=100000):aq bW 172 [fI l,aF ar] []=some (.bool (l.any fun x=>x.ar==ar),[]):=by
 refine aB ?_;simp only[acG,aef,EW,seval];refine AY (xs:=l) aH (fun post (_:Unit)=>post.any fun x=>x.ar==ar) (fun _ i=>[(0,fI l),(1,aF ar),(5,aF i)]) (fun _=>[]) (fun z=>some (ag.bool z,([]:aC))) (fun _=>?_) (fun pre x post _ e hx cG hw h0 hm hi=>?_) ()
 ·simp[aef,br,oV,EW]
 ·have i1:=hi ();rw[jR];cases h1:x.ar==ar<;>simp only[aef,cG,hx,hw,h1,ib,jb,dH,cQ,EW,seval]<;>exact i1
def asH(l:List fD)(ar:Int)(hn:l.length<=100000)(M:aC):aU (aq bW) 172 [fI l,aF ar] M=some (.bool (l.any fun x=>x.ar==ar),M):=cO (aqD l _ hn) M
def aqF(t:Tree)(l:List dN)(hr:Rt t)(hl:l.length<=100000):∃b:Bool,aq bW 174 [bq t,cK l] []=some (.bool b,[])/\(b=false->∀y,y∈l->nr t y=false):=by
 have key:∃r:ag×aC,(∃b:Bool,r=(.bool b,[])/\(b=false->∀y,y∈l->nr t y=false))/\eX (aq bW) M7.results 0 [] M7.body (eF 0 [bq t,cK l]) []=some r:=by
  simp only[M7,aeg,bq,aM,EW,seval];refine jc (xs:=l) aH (fun m (_:Unit)=>∀y,y∈l.take m->nr t y=false) (fun _ i=>[(1,cK l),(2,ct 0),(5,aF i)]) (fun _=>[cu [ba t.ae,aF t.next,aF t.ak]]) _ (fun _ ho=>?_) (fun pre x post _ e hx cG hw h0 _ ho hi=>?_) () (fun y hy=>jK)
  ·simp only[aeg,br,EW,seval];rw[bE] at ho;simp_all
  ·obtain⟨a,b,q,u1,u2⟩:=akL t x.ar hr;have qu:=cP q;simp only[bq,aM] at qu;have htk:l.take (pre.length+1)=l.take pre.length++[x]:=by rw[cB,hx]; rfl
   have i1:=fun h=>hi () (fun y hy=>by
    rw[htk] at hy;exact(bm.1 hy).elim (ho y) fun hy=>by rw[bS.1 hy]; omega)
   cases h1:decide (x.ae<a)<;>cases h2:decide (x.bytes<b)<;>simp only[aeg,cG,hx,hw,qu,h1,h2,gx,iT,EW,seval]<;>first|exact⟨_,⟨_,rfl,fun h=>by cases h⟩,rfl⟩|exact i1 (by simp only[dv] at h1 h2; simp only[nr,Bool.not_eq_false',bw,bh]; omega)
 obtain⟨_,⟨b,rfl,h1⟩,h3⟩:=key;exact⟨b,aB h3,h1⟩
section
variable {t:Tree} {l:List dN} {Q:ag×aC->Prop}
def Fst(t:Tree)(l:List dN)(v:Int)(S:Node->gI->Prop)(a:Int):Prop:=(∀d e,S d e->e.ar=v->mg t.ae l d.ar=a)/\(a<0->∀d e,S d e->e.ar≠v)
abbrev XW(t:Tree):aC:=[.cells [ba t.ae,.int .i64 t.next,.int .i64 t.ak]]
theorem VR{dD:Int->Nat}(h:dS t dD 0)(hq:pw l)(hl:l.length<=100000){S:Node->gI->Prop}{i j:Nat}{x d:Node}(hi':t.ae[i]?=some x)(hdm:d∈t.ae)(hd:d.bc.length<=100000){k:List K}
  (hx:∀(a:Int) z,Fst t l x.ar (fun d' e'=>S d' e'\/(d'=d/\e'∈d.bc)) a->∃r,Q r/\kr (aq bW) [.tmp 4] 0 k ⟨.exit 4,(1,cK l)::(2,ct 0)::(5,aF i)::(6,aF a)::(7,aF j)::(8,ct 1)::z,XW t++[cu (aL d)]⟩=some r)
  (hr:∀M,∃r,Q r/\kr (aq bW) [.tmp 4] 0 k ⟨.ret,[(4,.bool false)],M⟩=some r) (a:Int) (ha:Fst t l x.ar S a) :
  ∃r,Q r/\eX (aq bW) [.tmp 4] 0 k (.loop [1,2,5,6,7,8,9] ZP) [(1,cK l),(2,ct 0),(5,aF i),(6,aF a),(7,aF j),(8,ct 1),(9,aF 0)] (XW t++[cu (aL d)])=some r:=by
 have b1:((i:Int)<0)=False:=dy;refine jc (xs:=d.bc) aH (fun m (a:Int)=>Fst t l x.ar (fun d' e'=>S d' e'\/(d'=d/\e'∈d.bc.take m)) a) (fun(a:Int) n=>[(1,cK l),(2,ct 0),(5,aF i),(6,aF a),(7,aF j),(8,ct 1),(9,aF n)]) (fun _=>XW t++[cu (aL d)]) Q (fun a ha=>?_) (fun pre e post a hp hx' cG hw h0 hm ha hi=>?_) a ⟨fun d' e' h1 h2=>h1.elim (fun h1=>ha.1 d' e' h1 h2) fun h1=>by simp at h1,fun h0 d' e' h1=>h1.elim (ha.2 h0 d' e') fun h1=>by simp at h1⟩
 ·simp only[XW,aL,aI,aP] at hx ⊢;simp only[EY,br,EW,seval];rw[bE] at ha;exact hx a _ ha
 ·have hfd:=(ic h.lK.mo).2 ⟨hdm,rfl⟩
  have hkd:d.kind=2:=by
   rcases h.kind _ _ hfd with h1|h1
   ·rw[(h.file _ _ hfd h1).1] at hm; cases hm
   ·exact h1
  have qd:=fun M=>cO (arp h hq hl hfd hkd) M
  have hge:0<=mg t.ae l d.ar:=IC h l 13 d.ar d hfd hkd;have htk:d.bc.take (pre.length+1)=d.bc.take pre.length++[e]:=by rw[cB,hx']; rfl
  generalize hu:mg t.ae l d.ar=u at qd hge;simp only[bq,aM] at qd
  have i1:=fun hne:e.ar≠x.ar=>hi a ⟨fun d' e' h1 h2=>ha.1 d' e' (h1.imp id fun h1=>⟨h1.1,by
    have h1:=h1.2;rw[htk] at h1
    grind⟩) h2,fun h0 d' e' h1 h2=>ha.2 h0 d' e' (h1.imp id fun h1=>⟨h1.1,by
    have h1:=h1.2;rw[htk] at h1;rcases bm.1 h1 with h1|h1
    ·exact h1
    grind⟩) h2⟩
  have i2:=fun hau:a<0\/u=a=>hi u ⟨fun d' e' h1 h2=>by
    have ui:∀d' e',(S d' e'\/(d'=d/\e'∈d.bc.take pre.length))->e'.ar=x.ar->mg t.ae l d'.ar=u:=fun d' e' g1 g2=>by
     rcases hau with h0|h0
     ·exact absurd g2 (ha.2 h0 d' e' g1)
     ·rw[h0]; exact ha.1 d' e' g1 g2
    rcases h1 with h1|⟨rfl,h1⟩
    ·exact ui d' e' (.inl h1) h2
    ·exact hu,fun h0=>aH⟩
  simp only[XW,aL,aI,aP] at i1 i2 ⊢;cases h1:e.ar != x.ar
  ·cases h2:decide (0<=a)<;>cases h3:u != a<;>simp only[EY,cG,hx',hw,hi',qd,h1,h2,h3,bK,aL,iE,gd,EW,seval]<;>first|exact hr _|exact i2 (by simp only[dv] at h2; omega)|exact i2 (.inr (by simpa using h3))
  ·simp only[EY,cG,hx',hw,hi',h1,bK,aL,iE,gd,EW,seval];exact i1 (by simpa using h1)
theorem VT{dD:Int->Nat}(h:dS t dD 0)(hq:pw l)(he:∀n,n∈t.ae->n.bc.length<=100000)(hl:l.length<=100000){i:Nat}{x:Node}(hi':t.ae[i]?=some x){k:List K}
  (hx:∀z,(∃a,Fst t l x.ar (fun d' e'=>d'∈t.ae/\e'∈d'.bc) a)->∃r,Q r/\kr (aq bW) [.tmp 4] 0 k ⟨.exit 2,(1,cK l)::(2,ct 0)::(5,aF i)::z,XW t⟩=some r)
  (hr:∀M,∃r,Q r/\kr (aq bW) [.tmp 4] 0 k ⟨.ret,[(4,.bool false)],M⟩=some r) (a:Int) (ha:Fst t l x.ar (fun _ _=>False) a) :
  ∃r,Q r/\eX (aq bW) [.tmp 4] 0 k (.loop [1,2,5,6,7] ZQ) [(1,cK l),(2,ct 0),(5,aF i),(6,aF a),(7,aF 0)] (XW t)=some r:=by
 have h200:=h.ae;refine jc (xs:=t.ae) aH (fun m (a:Int)=>Fst t l x.ar (fun d' e'=>d'∈t.ae.take m/\e'∈d'.bc) a) (fun(a:Int) n=>[(1,cK l),(2,ct 0),(5,aF i),(6,aF a),(7,aF n)]) (fun _=>XW t) Q (fun a ha=>?_) (fun pre d post a hp hx' cG hw h0 hm ha hi=>?_) a ⟨fun d' e' h1=>by simp at h1,fun h0 d' e' h1=>by simp at h1⟩
 ·simp only[EY,br,EW,seval];rw[bE] at ha;exact hx _ ⟨a,ha⟩
 ·have la:=fun {k} h2 h3=>VR (t:=t) (l:=l) (Q:=Q) h hq hl (j:=pre.length) hi' hm (he d hm) (k:=k) h2 h3 a ha
  have htk:t.ae.take (pre.length+1)=t.ae.take pre.length++[d]:=by rw[cB,hx']; rfl
  simp only[XW,aL,aI,aP] at la ⊢;simp only[EY,cG,hx',bK,aL,EW,seval];refine la (fun a z ha'=>?_) (fun M=>?_)
  ·have sub:∀d' e',(d'∈t.ae.take (pre.length+1)/\e'∈d'.bc)->((d'∈t.ae.take pre.length/\e'∈d'.bc)\/(d'=d/\e'∈d.bc)):=fun d' e' ⟨g1,g2⟩=>by
    rw[htk] at g1
    grind
   have i1:=hi a ⟨fun d' e' g=>ha'.1 d' e' (sub d' e' g),fun h0 d' e' g=>ha'.2 h0 d' e' (sub d' e' g)⟩
   simp only[EY,hw,EW,seval];exact i1
  ·simp only[EW,seval];exact hr _
end
def aqE(t:Tree)(l:List dN)(hr:Rt t)(hq:pw l)(hl:l.length<=100000):∃b:Bool,aq bW 173 [bq t,cK l] []=some (.bool b,[])/\(b=true->OD t l):=by
 have he:∀n,n∈t.ae->n.bc.length<=100000:=fun n hn=>by have:=(hr.XV hn).1; omega
 have h200:=hr.sz.ae;obtain⟨dD,h⟩:=hr
 have key:∃r:ag×aC,(∃b:Bool,r=(.bool b,[])/\(b=true->OD t l))/\eX (aq bW) M6.results 0 [] M6.body (eF 0 [bq t,cK l]) []=some r:=by
  simp only[M6,EY,bq,aM,EW,seval];refine jc (xs:=t.ae) aH (fun m (_:Unit)=>∀x,x∈t.ae.take m->x.kind=1->∃a,Fst t l x.ar (fun d' e'=>d'∈t.ae/\e'∈d'.bc) a) (fun _ i=>[(1,cK l),(2,ct 0),(5,aF i)]) (fun _=>XW t) _ (fun _ ho=>?_) (fun pre x post _ e hx cG hw h0 _ ho hi=>?_) () (fun y hy=>by simp at hy)
  ·simp only[EY,br,EW,seval];rw[bE] at ho;refine⟨_,⟨_,rfl,fun _ d1 e1 d2 e2 x h1 h2 h3 h4 h5 h6 h7=>?_⟩,rfl⟩
   obtain⟨x1,x2⟩:=cD h6;obtain⟨a,ha⟩:=ho x x1 h7;rw[ha.1 d1 e1 ⟨h1,h2⟩ x2.symm,ha.1 d2 e2 ⟨h3,h4⟩ (h5.symm.trans x2.symm)]
  ·have htk:t.ae.take (pre.length+1)=t.ae.take pre.length++[x]:=by rw[cB,hx]; rfl
   have lb:=fun {k Q} h2 h3=>VT (t:=t) (l:=l) (Q:=Q) h hq he hl hx (k:=k) h2 h3 (-1) ⟨fun _ _ h=>h.elim,fun _ _ _ h=>h.elim⟩
   have i1:=fun hh:x.kind=1->∃a,Fst t l x.ar (fun d' e'=>d'∈t.ae/\e'∈d'.bc) a=>hi () (fun y hy=>by
    rw[htk] at hy;exact(bm.1 hy).elim (ho y) fun hy=>by rw[bS.1 hy]; exact hh)
   cases h1:x.kind != 1<;>simp only[EY,cG,hx,hw,h1,bK,aL,EW,seval]
   ·refine lb (fun z hz=>?_) (fun M=>?_)
    ·simp only[EY,hw,EW,seval];exact i1 fun _=>hz
    ·simp only[EW,seval];simp
   ·exact i1 fun hk=>absurd hk jK
 obtain⟨_,⟨b,rfl,h1⟩,h3⟩:=key;exact⟨b,aB h3,h1⟩
section
variable {f:aa} {t:Tree} {q:List dN} {Q:ag×aC->Prop}
abbrev stM(f:aa)(t:Tree):aC:=[.cells (cm f),.cells [ba t.ae,.int .i64 t.next,.int .i64 t.ak],.cells rR]
abbrev HQ(q:List dN):Env:=[(2,cK q),(3,.ptr 0 0),(4,.ptr 1 0),(6,.ptr 2 0)]
def VI(ht:Rt t)(hh:f.holds.length<=64){k:List K}
  (hx:∀(F:List Int) z,F.length<=1000->(∀i,i∈F->∀y,y∈f.holds->y.ar≠i)->(∀n,n∈t.ae->gQ n=true->pQ f.holds n.ar=false->n.ar∈F)->∃r,Q r/\kr (aq bW) [.dE 6 10,.tmp 7] 0 k ⟨.exit 0,HQ q++(8,.slice (.own 3) (F.map mU))::z,stM f t++[.tick 1 F.length]⟩=some r) :
  ∃r,Q r/\eX (aq bW) [.dE 6 10,.tmp 7] 0 k (.loop [2,3,4,6,8,9] Zv) (HQ q++[(8,.slice (.own 3) []),(9,aF 0)]) (stM f t++[.tick 1 0])=some r:=by
 have h200:=ht.sz.ae;refine jc (xs:=t.ae) aH (fun m (F:List Int)=>F.length<=m/\(∀i,i∈F->∀y,y∈f.holds->y.ar≠i)/\∀n,n∈t.ae.take m->gQ n=true->pQ f.holds n.ar=false->n.ar∈F) (fun F i=>HQ q++[(8,.slice (.own 3) (F.map mU)),(9,aF i)]) (fun F=>stM f t++[.tick 1 F.length]) Q (fun F hF=>?_) (fun pre x post F e hx' cG hw h0 hm hF hi=>?_) [] ⟨au _,fun i h=>(by cases h),fun n h=>(by simp at h)⟩
 ·simp only[stM,HQ,cm,rR,aI,aP] at hx ⊢;simp only[EX,br,EW,seval];exact hx F _ aH hF.2.1 (by have:=hF.2.2; rwa[bE] at this)
 ·have hp:=(aj.1 hx').1;have htk:t.ae.take (pre.length+1)=t.ae.take pre.length++[x]:=by rw[cB,hx']; rfl
  have i1:=fun hb:(gQ x=true->pQ f.holds x.ar=false->False)=>hi F ⟨aH,hF.2.1,fun n h=>by
   rw[htk] at h;rcases bm.1 h with h|h
   ·exact hF.2.2 n h
   ·rw[bS.1 h]; exact fun a b=>(hb a b).elim⟩
  have i2:=fun hb:(f.holds.any fun y=>y.ar==x.ar)=false=>hi (F++[x.ar]) ⟨gh,fun i h y hy=>by
   rcases bm.1 h with h|h
   ·exact hF.2.1 i h y hy
   ·rw[bS.1 h];simpa using List.any_eq_false.1 hb y hy,fun n h o1 o2=>by
   rw[htk] at h;rcases bm.1 h with h|h
   ·exact ft _ (hF.2.2 n h o1 o2)
   ·rw[bS.1 h]; simp⟩
  unfold pQ gQ at i1;have qh:=fun M=>asH f.holds x.ar aH M
  generalize (f.holds.any fun y=>y.ar==x.ar)=b at qh i1 i2
  have r1:cp (F.length+1) 8=True:=qH;simp only[stM,HQ,cm,rR,aI,aP,aW,aE,aQ,aA,aw,az,aG,mU] at i1 i2 ⊢;cases h1:x.kind==1<;>cases h2:x.eE==0<;>cases b<;>simp only[EX,cG,hx',hw,h0,h1,h2,qh,r1,uz,bK,aL,mU,EW,seval]<;>first|exact i1 (by simp[h1,h2])|exact i2 rfl
structure wW(f:aa)(t0:Tree)(F:List Int)(t:Tree):Prop where
 rt:Rt t
 rj:∀y,y∈f.holds->tG t0.ae y.ar->tG t.ae y.ar
 sub:∀i n,find t.ae i=some n->find t0.ae i=some n
 gone:∀i,i∈F->∀n,find t.ae i=some n->gQ n=false
def wW.file{f:aa}{t0:Tree}{F:List Int}{t:Tree}(h:wW f t0 F t){i:Int}(hi:tG t.ae i):tG t0.ae i:=by
 obtain⟨n,h1,h2⟩:=hi;exact⟨n,h.sub _ _ h1,h2⟩
def wW.step{f:aa}{t0:Tree}{F:List Int}{t:Tree}(h:wW f t0 F t){x:Int}(hx:∀y,y∈f.holds->y.ar≠x):wW f t0 (F++[x]) (kJ t x).1:=by
 have hf:=AZ h.rt x;refine⟨h.rt.free x,fun y hy hi=>Jk h.rt x (h.rj y hy hi) (hx y hy),fun i n hn=>?_,fun i hi n hn=>?_⟩
 ·rw[hf] at hn;split at hn
  ·cases hn
  ·exact h.sub _ _ hn
 ·rw[hf] at hn;split at hn
  ·cases hn
  ·rename_i hc;rcases bm.1 hi with hi|hi
   ·exact h.gone i hi n hn
   ·rw[bS.1 hi] at hc hn;cases ho:gQ n with
    |false=>rfl
    |true=>exact absurd ⟨rfl,n,hn,ho⟩ hc
def wW.held{f:aa}{t0:Tree}{F:List Int}{t:Tree}(h:wW f t0 F t)(ha:∀n,n∈t0.ae->gQ n=true->pQ f.holds n.ar=false->n.ar∈F)(_:Rt t0):∀n,n∈t.ae->gQ n=true->pQ f.holds n.ar=true:=by
 intro n hn ho;have h1:=(ic h.rt.lK.mo).2 ⟨hn,rfl⟩;cases hh:pQ f.holds n.ar with
 |true=>rfl
 |false =>
  have:=h.gone _ (ha n (cD (h.sub _ _ h1)).1 ho hh) n h1;rw[ho] at this; cases this
def VJ{F:List Int}(hF:F.length<=1000)(hno:∀i,i∈F->∀y,y∈f.holds->y.ar≠i){t0:Tree}{k:List K}
  (hx:∀(t:Tree) z,wW f t0 F t->∃r,Q r/\kr (aq bW) [.dE 6 10,.tmp 7] 0 k ⟨.exit 2,HQ q++(8,.slice (.own 3) (F.map mU))::z,stM f t++[.tick 1 F.length]⟩=some r) (ht:wW f t0 [] t) :
  ∃r,Q r/\eX (aq bW) [.dE 6 10,.tmp 7] 0 k (.loop [2,3,4,6,8,11] Zw) (HQ q++[(8,.slice (.own 3) (F.map mU)),(11,aF 0)]) (stM f t++[.tick 1 F.length])=some r:=by
 refine jc (xs:=F) aH (fun m (t:Tree)=>wW f t0 (F.take m) t) (fun _ i=>HQ q++[(8,.slice (.own 3) (F.map mU)),(11,aF i)]) (fun t=>stM f t++[.tick 1 F.length]) Q (fun t ht=>?_) (fun pre x post t e hx' cG hw h0 hm ht hi=>?_) t (by simpa using ht)
 ·simp only[stM,HQ,cm,rR,aI,aP] at hx ⊢;simp only[EX,br,EW,seval];exact hx t _ (by rwa[bE] at ht)
 ·have i1:=hi _ (show wW f t0 (F.take (pre.length+1)) (kJ t x).1 by rw[cB,hx']; exact ht.step (hno x hm))
  have qf:=fun M=>amn t.ae t.next t.ak x ht.rt.small M
  generalize kJ t x=v at qf i1;simp only[bq,aM] at qf;simp only[stM,HQ,cm,rR,aI,aP] at i1 ⊢;simp only[EX,cG,hx',hw,h0,qf,mU,EW,seval];exact i1
def VK(ht:Rt t)(hq:pw q)(hn:q.length<=16){F:List Int}{k:List K}
  (hx:∀(L:List dN) z,pw L->L.length<=16->(∀y,y∈L->y∈q/\(find t.ae y.ar).isSome=true)->∃r,Q r/\kr (aq bW) [.dE 6 10,.tmp 7] 0 k ⟨.exit 4,HQ q++(14,.slice (.own 4) (L.map gx))::z,stM f t++[.tick 1 F.length,.tick 3 L.length]⟩=some r) :
  ∃r,Q r/\eX (aq bW) [.dE 6 10,.tmp 7] 0 k (.loop [2,3,4,6,14,15] Zx) (HQ q++[(14,.slice (.own 4) []),(15,aF 0)]) (stM f t++[.tick 1 F.length,.tick 3 0])=some r:=by
 have h200:=ht.sz.ae;refine jc (xs:=q) aH (fun m (L:List dN)=>L.Sublist (q.take m)/\∀y,y∈L->(find t.ae y.ar).isSome=true) (fun L i=>HQ q++[(14,.slice (.own 4) (L.map gx)),(15,aF i)]) (fun L=>stM f t++[.tick 1 F.length,.tick 3 L.length]) Q (fun L hL=>?_) (fun pre x post L e hx' cG hw h0 hm hL hi=>?_) [] ⟨List.nil_sublist _,fun y h=>by cases h⟩
 ·rw[bE] at hL;simp only[stM,HQ,cm,rR,aI,aP] at hx ⊢;simp only[EX,br,EW,seval];exact hx L _ (hq.sublist hL.1) (aY hL.1.length_le hn) (fun y hy=>⟨hL.1.mem hy,hL.2 y hy⟩)
 ·have ht1:q.take (pre.length+1)=q.take pre.length++[x]:=by rw[cB,hx']; rfl
  have i1:=hi L ⟨by rw[ht1]; exact hL.1.trans (List.sublist_append_left _ _),hL.2⟩
  have i2:=fun hs=>hi (L++[x]) ⟨by rw[ht1]; exact hL.1.append (List.Sublist.refl _),fun y h=>(bm.1 h).elim (hL.2 y) fun h=>by rw[bS.1 h]; exact hs⟩
  have hLl:L.length<=16:=aY hL.1.length_le gh;have qg:=fun M=>Bh t.ae t.next t.ak x.ar aH M
  generalize (find t.ae x.ar).getD Node.zero=n at qg;generalize (find t.ae x.ar).isSome=b at qg i2;have r1:cp (L.length+1) 24=True:=qH;simp only[stM,HQ,cm,rR,aI,aP,aW,aE,aQ,aA,aw,az,aG,gx,iT] at i1 i2 ⊢;cases b<;>simp only[EX,cG,hx',hw,h0,qg,r1,bK,aL,gx,iT,EW,seval]<;>first|exact i1|exact i2 rfl
end
structure Ou(f:aa):Prop where
 file:∀y,y∈f.holds->tG f.s.now.ae y.ar
 orp:∀n,n∈f.s.now.ae->gQ n=true->pQ f.holds n.ar=true
 quo:∀q,q∈f.dR->XT f.s.now.ae q.ar
 one:OD f.s.now f.dR
 over:∀q,q∈f.dR->nr f.s.now q=false
 key:∀y,y∈f.holds->zY y.bF y.handle=true
def Qh(s:iL)(t:Tree):(qt s t).now=t:=by
 unfold qt;split
 ·rename_i h; exact jV h
 ·rfl
def HA{f:aa}{t:Tree}{H:List fD}{Q:List dN}(hH:∀y,y∈H->y∈f.holds/\(tG f.s.now.ae y.ar->tG t.ae y.ar))(hO:∀n,n∈t.ae->gQ n=true->pQ H n.ar=true)(hQ:∀q,q∈Q->XT t.ae q.ar)(h1:OD t Q)(h2:∀q,q∈Q->nr t q=false)(h:Ou f):Ou ⟨qt f.s t,H,Q⟩:=by
 refine⟨fun y hy=>?_,fun n hn=>?_,fun q hq=>?_,?_,fun q hq=>?_,fun y hy=>h.key y (hH y hy).1⟩<;>simp only[Qh] at *
 ·exact(hH y hy).2 (h.file y (hH y hy).1)
 ·exact hO n hn
 ·exact hQ q hq
 ·exact h1
 ·exact h2 q hq
def Kp(f g:aa):Prop:=(Ou f->Ou g)/\Stp (fun _=>True) f.s g.s
def D3{f:aa}:Kp f f:=⟨id,.inl rfl⟩
def apW{K:Nat}(f:aa)(t:Tree)(q:List dN)(hf:FB K f)(hK:K<=89000)(ht:Rt t)(hq:pw q)(hn:q.length<=16)(hkp:∀y,y∈f.holds->tG f.s.now.ae y.ar->tG t.ae y.ar)(hqd:Ou f->∀y,y∈q->¬tG t.ae y.ar):∃g e,aq bW 120 [.agg (cm f),bq t,cK q] []=some (.tuple [.agg (cm g),aF e],[])/\FB (K+200) g/\Kp f g:=by
 have key:∃r:ag×aC,(∃g e,r=(.tuple [.agg (cm g),aF e],[])/\FB (K+200) g/\Kp f g)/\eX (aq bW) IZ.results 0 [] IZ.body (eF 0 [.agg (cm f),bq t,cK q]) []=some r:=by
  have la:=fun {k Q} hx=>VI (f:=f) (t:=t) (q:=q) (Q:=Q) ht hf.ok.dJ (k:=k) hx
  simp only[stM,HQ,cm,rR,aI,aP] at la;simp only[IZ,EX,cm,bq,aM,EW,seval];refine la (fun F z hF hno hall=>?_)
  have lb:=fun {k Q} hx=>VJ (f:=f) (t:=t) (q:=q) (Q:=Q) hF hno (t0:=t) (k:=k) hx ⟨ht,fun _ _ h=>h,fun _ _ h=>h,fun i h=>by cases h⟩
  simp only[stM,HQ,cm,rR,aI,aP] at lb;simp only[EX,EW,seval];refine lb (fun t' z hfr=>?_)
  have ht':=hfr.rt;have hor:=hfr.held hall ht;have lc:=fun {k Q} hx=>VK (f:=f) (t:=t') (q:=q) (Q:=Q) ht' hq hn (F:=F) (k:=k) hx
  simp only[stM,HQ,cm,rR,aI,aP] at lc;simp only[EX,EW,seval];refine lc (fun L z hL hLn hLq=>?_)
  have h200:=ht'.sz.ae;obtain⟨b1,q1,k1⟩:=aqE t' L ht' hL aH;obtain⟨b2,q2,k2⟩:=aqF t' L ht' aH;have q3:=c49 f.s t' hf.ok.rt ht' hf.ok.len hf.ok.dP hf.ok.eR;have g1:=cP q1;have g2:=cP q2;have g3:=cP q3;simp only[bq,aM,bL] at g1 g2 g3;have hfin:=hf.put hK ht' hf.ok.holds hf.ok.dJ hL hLn
  have hho:b1=true->b2=false->Ou f->Ou ⟨qt f.s t',f.holds,L⟩:=fun c1 c2 h=>HA (fun y hy=>⟨hy,fun hf=>hfr.rj y hy (hkp y hy hf)⟩) hor (fun y hy=>by
   obtain⟨h1,h2⟩:=hLq y hy;obtain⟨n,h2⟩:=fA.1 h2;exact ht'.XT h2 (fun hf=>hqd h y h1 (hfr.file hf))) (k1 c1) (k2 c2) h
  cases b1<;>cases b2<;>simp only[EX,g1,g2,g3,EW,seval]
  ·exact⟨_,⟨f,91,rfl,hf.mono aH,D3⟩,rfl⟩
  ·exact⟨_,⟨f,91,rfl,hf.mono aH,D3⟩,rfl⟩
  ·exact⟨_,⟨_,0,rfl,hfin,hho rfl rfl,.inr (.inl ⟨t',ht',rfl⟩)⟩,rfl⟩
  ·exact⟨_,⟨f,90,rfl,hf.mono aH,D3⟩,rfl⟩
 obtain⟨_,⟨g,e,rfl,h1⟩,h3⟩:=key;exact⟨g,e,aB h3,h1⟩
end
def PC(s:Bytes):(Cb s).1.length<=100000/\(Cb s).2.1.length<=100000:=by
 obtain⟨o1,o2⟩:=yg s;unfold Cb;split
 ·exact⟨dy,dy⟩
 ·generalize (pV s).1=l at o1 o2;constructor
  ·simp only;cases h:l.getLast? with
   |none=>simp
   |some x=>have:=qQ (o1 x (List.mem_of_getLast? h)); simp only[bA]; omega
  ·simp only[Nn];split
   ·simp
   ·have h1:=DX l.dropLast [] (fun x hx=>qQ (o1 x (List.Sublist.mem hx (List.dropLast_sublist _))))
    simp only[az,List.length_dropLast] at h1;omega
section
attribute [local irreducible] eX fM lu gK dX kr aq aU cr bJ
def c42(e:Int):aq bW 42 [aF e] []=some (.agg (dw (hU e)),[]):=by
 refine aB ?_;simp only[alI,E42,EW,seval];rfl
def k42 e:=cP (c42 e)
def c75(n:Node):∃a:Int,aq bW 75 [bK n] []=some (aF a,[]):=by
 cases h1:n.kind==2
 ·refine⟨n.data.length,aB ?_⟩;simp only[afk,E75,bK,aL,h1,EW,seval]
 ·refine⟨n.bc.length,aB ?_⟩;simp only[afk,E75,bK,aL,h1,EW,seval]
def c67(t:Tree)(s:Bytes)(ht:Small t)(hs:s.length<=100000):∃d nm e,aq bW 67 [bq t,.str s] []=some (.tuple [aF d,.str nm,aF e],[])/\nm.length<=100000:=by
 have ql:=fun M=>cO (apT s hs) M
 obtain⟨h1,h2⟩:=PC s;generalize Cb s=v at ql h1 h2;have qw:=fun M=>k66 t.ae t.next t.ak v.2.1 ht h2 M
 generalize Cy t.ae v.2.1=w at qw;cases h3:v.2.2 != 0
 ·refine⟨w.1,v.1,w.2,aB ?_,h1⟩;simp only[afj,E67,bq,aM,ql,qw,h3,EW,seval]
 ·refine⟨0,[],v.2.2,aB ?_,dy⟩;simp only[afj,E67,bq,aM,ql,h3,EW,seval]
def FB.adU{K:Nat}{f:aa}(h:FB K f){u:iL}(e1:u.now=f.s.now)(e2:u.since=f.s.since)(e3:∀p,p∈u.eR->p∈f.s.eR)(e4:u.eR.length<=f.s.eR.length)(e5:u.dP.length<=16):FB (K+200) ⟨u,f.holds,f.dR⟩/\(Ou f->Ou ⟨u,f.holds,f.dR⟩) :=
 ⟨⟨⟨by simp only[e1]; exact h.ok.rt,by simp only[e1,e2]; exact h.ok.len,aY e4 h.ok.eR,fun p hp=>h.ok.Ep p (e3 p hp),e5,h.ok.holds,h.ok.dJ,h.ok.dR,h.ok.sI⟩,by have:=h.past; simp only; omega⟩,fun g=>⟨by simp only[e1]; exact g.file,by simp only[e1]; exact g.orp,by simp only[e1]; exact g.quo,by simp only[e1]; exact g.one,by simp only[e1]; exact g.over,g.key⟩⟩
def yu(K:Nat)(f:aa)(F:Nat)(vs:List ag):Prop:=∃g a,aq bW F vs []=some (.tuple [.agg (cm g),.agg (dw a)],[])/\FB (K+200) g/\Kp f g
def c69{K:Nat}(f:aa)(t:Tree)(q:List dN)(e:Int)(a:vR)(hf:FB K f)(hK:K<=89000)(ht:Rt t)(hq:pw q)(hn:q.length<=16)(hkp:∀y,y∈f.holds->tG f.s.now.ae y.ar->tG t.ae y.ar)(hqd:Ou f->∀y,y∈q->¬tG t.ae y.ar):yu K f 69 [.agg (cm f),bq t,cK q,aF e,.agg (dw a)]:=by
 obtain⟨g,e',qs,hg⟩:=apW f t q hf hK ht hq hn hkp hqd;have q1:=cP qs;have q2:=k42;simp only[bq,aM,cm,dw] at q1 q2;cases h1:e != 0
 ·cases h2:e' != 0
  ·refine⟨g,a,aB ?_,hg⟩;simp only[YZ,E69,bq,aM,cm,dw,q1,q2,h1,h2,EW,seval]
  ·refine⟨f,hU e',aB ?_,hf.mono aH,D3⟩;simp only[YZ,E69,bq,aM,cm,dw,q1,q2,h1,h2,EW,seval]
 ·refine⟨f,hU e,aB ?_,hf.mono aH,D3⟩;simp only[YZ,E69,bq,aM,cm,dw,q1,q2,h1,EW,seval]
def c43{K:Nat}(f:aa)(o:jA)(hf:FB K f)(hK:K<=89000)(ho:sr o):yu K f 43 [.agg (cm f),.agg (eS o)]:=by
 have hr:=hf.ok.rt;have hz:Sz 1000 f.s.now:=⟨by have:=hr.sz.ae; omega,fun n hn=>by have:=hr.sz.bc n hn; omega,hr.sz.data⟩
 have hp:o.dG.length<=100000:=by have:=ho.dG; omega
 have hto:o.vd.length<=100000:=by have:=ho.vd; omega
 obtain⟨d,nm,e1,qa,hnm⟩:=c67 f.s.now o.dG hr.small hp;obtain⟨d',nm',e2,qb,hnm'⟩:=c67 f.s.now o.vd hr.small hto;have q1:=cP qa;have q2:=cP qb;have q3:=fun M=>k66 f.s.now.ae f.s.now.next f.s.now.ak o.dG hr.small hp M
 generalize Cy f.s.now.ae o.dG=w at q3;have q4:=k42;simp only[bq,aM,cm,dw] at q1 q2 q4;have back:FB (K+200) f:=hf.mono aH;cases h0:o.kind==3
 ·cases h1:e1 != 0
  ·cases h2:o.kind==2
   ·cases h3:o.kind==4
    ·cases h4:e2 != 0
     ·have q5:=fun M=>k73 f.s.now.ae f.s.now.next f.s.now.ak d nm d' nm' hz hnm hnm' M
      have q6:=fun M=>k72 f.s.now.ae f.s.now.next f.s.now.ak d nm hr.small hnm M
      have hv:=hr.mv d nm d' nm';have hkf:=Zi hr d nm d' nm';have hrf:=anU hr d nm d' nm';generalize wP f.s.now d nm d' nm'=v at q5 hv hkf hrf;generalize fg f.s.now.ae d nm=u at q6;obtain⟨g,a,qd,hg⟩:=c69 f v.1 f.dR v.2.2 ⟨0,u.1,0,0,0,[],[]⟩ hf hK hv hf.ok.dR hf.ok.sI (fun y _ h=>hkf.2 _ h) (fun h y hy hi=>(h.quo y hy).no (hrf _ hi))
      have q7:=cP qd;simp only[bq,aM,cm,dw,cZ,cR,aQ] at q5 q6 q7;refine⟨g,a,aB ?_,hg⟩;simp only[Hf,E43,cm,eS,dw,h0,h1,h2,h3,h4,q1,q2,q5,q6,q7,EW,seval]
     ·refine⟨f,hU e2,aB ?_,back,D3⟩;simp only[Hf,E43,cm,eS,dw,h0,h1,h2,h3,h4,q1,q2,q4,EW,seval]
    ·have q5:=fun M=>k71 f.s.now.ae f.s.now.next f.s.now.ak d nm hz hnm M
     have hv:=hr.un d nm;have hkf:=Zj hr d nm;have hrf:=anV hr d nm;generalize BN f.s.now d nm=v at q5 hv hkf hrf;obtain⟨g,a,qd,hg⟩:=c69 f v.1 f.dR v.2.2 ⟨0,v.2.1,0,0,0,[],[]⟩ hf hK hv hf.ok.dR hf.ok.sI (fun y _ h=>hkf.2 _ h) (fun h y hy hi=>(h.quo y hy).no (hrf _ hi))
     have q7:=cP qd;simp only[bq,aM,cm,dw,cZ,cR,aQ] at q5 q7;refine⟨g,a,aB ?_,hg⟩;simp only[Hf,E43,cm,eS,dw,h0,h1,h2,h3,q1,q5,q7,EW,seval]
   ·have q5:=fun M=>k70 f.s.now.ae f.s.now.next f.s.now.ak d nm o.n hz hnm M
    have hv:=hr.add d nm o.n;have hkf:=S4 hr d nm o.n;have hrf:=ahM hr d nm o.n;generalize rU f.s.now d nm o.n=v at q5 hv hkf hrf;obtain⟨g,a,qd,hg⟩:=c69 f v.1 f.dR v.2.2 ⟨0,v.2.1,o.n,0,0,[],[]⟩ hf hK hv hf.ok.dR hf.ok.sI (fun y _ h=>hkf.2 _ h) (fun h y hy hi=>(h.quo y hy).no (hrf _ hi))
    have q7:=cP qd;simp only[bq,aM,cm,dw,cZ,cR,aQ] at q5 q7;refine⟨g,a,aB ?_,hg⟩;simp only[Hf,E43,cm,eS,dw,h0,h1,h2,q1,q5,q7,EW,seval]
  ·refine⟨f,hU e1,aB ?_,back,D3⟩;simp only[Hf,E43,cm,eS,dw,h0,h1,q1,q4,EW,seval]
 ·cases h1:w.2 != 0
  ·cases h2:e2 != 0
   ·have q5:=fun M=>k68 f.s.now.ae f.s.now.next f.s.now.ak w.1 d' nm' hz hnm' M
    have hv:=hr.ln w.1 d' nm';have hkf:=Zh hr w.1 d' nm';have hrf:=anT hr w.1 d' nm';generalize CK f.s.now w.1 d' nm'=v at q5 hv hkf hrf;obtain⟨g,a,qd,hg⟩:=c69 f v.1 f.dR v.2 ⟨0,w.1,0,0,0,[],[]⟩ hf hK hv hf.ok.dR hf.ok.sI (fun y _ h=>hkf.2 _ h) (fun h y hy hi=>(h.quo y hy).no (hrf _ hi))
    have q7:=cP qd;simp only[bq,aM,cm,dw,cZ,cR,aQ] at q5 q7;refine⟨g,a,aB ?_,hg⟩;simp only[Hf,E43,cm,eS,dw,h0,h1,h2,q2,q3,q5,q7,EW,seval]
   ·refine⟨f,hU e2,aB ?_,back,D3⟩;simp only[Hf,E43,cm,eS,dw,h0,h1,h2,q2,q3,q4,EW,seval]
  ·refine⟨f,hU w.2,aB ?_,back,D3⟩;simp only[Hf,E43,cm,eS,dw,h0,h1,q3,q4,EW,seval]
section
variable {t:Tree} {n:Node} {many:Int} {Q:ag×aC->Prop}
abbrev liM(t:Tree)(n:Node)(out:List gI):aC:=[.cells [ba t.ae,.int .i64 t.next,.int .i64 t.ak],.cells [.int .i64 n.ar,.int .i64 n.kind,.int .i64 n.eE,cR n.data,ja n.bc,.int .i64 n.up],.tick 3 out.length]
def Nx(hn:n.bc.length<=100000){kv:Int}{out:List gI}{k:List K}
  (hx:∀(b:Int) z,(b = -1\/∃i:Nat,i<n.bc.length/\b=i)->∃r,Q r/\kr (aq bW) [.tmp 8,.tmp 9,.tmp 10] 0 k ⟨.exit 2,(2,aF kv)::(3,aF many)::(11,ct 1)::(13,.slice (.own 2) (out.map iE))::(14,aF b)::z,liM t n out⟩=some r) :
  ∃r,Q r/\eX (aq bW) [.tmp 8,.tmp 9,.tmp 10] 0 k (.loop [2,3,11,13,14,15] ag3) [(2,aF kv),(3,aF many),(11,ct 1),(13,.slice (.own 2) (out.map iE)),(14,aF (-1)),(15,aF 0)] (liM t n out)=some r:=by
 refine jc (xs:=n.bc) aH (fun _ (b:Int)=>b = -1\/∃i:Nat,i<n.bc.length/\b=i) (fun b i=>[(2,aF kv),(3,aF many),(11,ct 1),(13,.slice (.own 2) (out.map iE)),(14,aF b),(15,aF i)]) (fun _=>liM t n out) Q (fun b hb=>?_) (fun pre e post b h hx' cG hw h0 hm hb hi=>?_) (-1) (.inl rfl)
 ·simp only[Kx,br,EW,seval];exact hx b _ hb
 ·have hp:=(aj.1 hx').1;have i1:=hi b hb;have i2:=hi pre.length (.inr ⟨_,hp,rfl⟩);rcases hb with rfl|⟨a,ha,rfl⟩
  ·cases h1:decide (kv<=e.ak)<;>simp only[Kx,cG,hx',hw,h0,h1,iE,gd,EW,seval]<;>first|exact i1|exact i2
  ·have a0:((a:Int)<0)=False:=dy;have a1:((a:Int)<(n.bc.length:Int))=True:=sM;obtain⟨y,hy⟩:∃y,n.bc[a]?=some y:=⟨_,ai ha⟩;cases h1:decide (kv<=e.ak)<;>cases h2:decide (e.ak<y.ak)<;>simp only[Kx,cG,hx',hw,h0,a0,a1,hy,h1,h2,iE,gd,EW,seval]<;>first|exact i1|exact i2
def aaG(hn:n.bc.length<=100000){m:Nat}(hm:1<=m)(hm':m<=64){k:List K}
  (hr:∀(out:List gI)(x:Int),out.length<=64->∃r,Q r/\kr (aq bW) [.tmp 8,.tmp 9,.tmp 10] 0 k ⟨.ret,[(8,.slice (.own 2) (out.map iE)),(9,aF x),(10,aF 0)],liM t n out⟩=some r) :
  ∀(d:Nat)(kv:Int)(out:List gI),out.length+d=m->∃r,Q r/\eX (aq bW) [.tmp 8,.tmp 9,.tmp 10] 0 k (.loop [2,3,11,13] ag4) [(2,aF kv),(3,aF m),(11,ct 1),(13,.slice (.own 2) (out.map iE))] (liM t n out)=some r:=by
 intro d;induction d with
 |zero =>
  intro kv out hd;rw[bG];have la:=fun {k} hx=>Nx (t:=t) (n:=n) (many:=m) (Q:=Q) hn (kv:=kv) (out:=out) (k:=k) hx
  simp only[Kx,EW,seval];refine la (fun b z hb=>?_)
  rcases hb with rfl|⟨a,ha,rfl⟩
  ·simp only[Kx,EW,seval];exact hr out 0 aH
  ·have a0:((a:Int)<0)=False:=dy;have e1:((out.length:Int)==(m:Int))=true:=gh;have w1:IntKind.i64.wrap ((m:Int)-1)=((m-1:Nat):Int):=by rw[gv aH aH]; omega
   have e2:(((m-1:Nat):Int)<(out.length:Int))=True:=sM;have e3:(((m-1:Nat):Int)<0)=False:=dy;obtain⟨y,hy⟩:∃y,out[m-1]?=some y:=⟨_,ai aH⟩;simp only[Kx,a0,e1,w1,e2,e3,hy,iE,gd,EW,seval];exact hr out _ aH
 |succ d ih =>
  intro kv out hd;rw[bG];have la:=fun {k} hx=>Nx (t:=t) (n:=n) (many:=m) (Q:=Q) hn (kv:=kv) (out:=out) (k:=k) hx
  simp only[Kx,EW,seval];refine la (fun b z hb=>?_)
  rcases hb with rfl|⟨a,ha,rfl⟩
  ·simp only[Kx,EW,seval];exact hr out 0 aH
  ·have a0:((a:Int)<0)=False:=dy;have a1:((a:Int)<(n.bc.length:Int))=True:=sM;obtain⟨y,hy⟩:∃y,n.bc[a]?=some y:=⟨_,ai ha⟩;have e1:((out.length:Int)==(m:Int))=false:=gh;have r1:cp (out.length+1) 32=True:=qH;have i1:=fun kv=>ih kv (out++[y]) gh
   simp only[liM,aW,aE,aQ,aA,aw,az,aG,iE,gd] at i1 ⊢;simp only[Kx,a0,a1,e1,r1,hy,iE,gd,EW,seval];exact i1 _
end
def c76(t:Tree)(ar kv many:Int)(ht:Rt t):∃out x e,aq bW 76 [bq t,aF ar,aF kv,aF many] []=some (.tuple [ja out,aF x,aF e],[])/\out.length<=64:=by
 have key:∃r:ag×aC,(∃out x e,r=(.tuple [ja out,aF x,aF e],[])/\out.length<=64)/\eX (aq bW) Hg.results 0 [] Hg.body (eF 0 [bq t,aF ar,aF kv,aF many]) []=some r:=by
  have qd:=fun M=>Zb t.ae t.next t.ak ar (by have:=ht.sz.ae; omega) M
  have hd:(gV t.ae ar).1.bc.length<=100000:=by obtain⟨dD,g⟩:=ht; have:=(xZ g ar).2; omega
  generalize gV t.ae ar=v at qd hd;cases h1:decide (kv<0)
  case true =>
   simp only[Hg,Kx,bq,aM,h1,EW,seval];exact⟨_,⟨[],0,1,rfl,dy⟩,rfl⟩
  cases h2:decide (many<1)
  case true =>
   simp only[Hg,Kx,bq,aM,h1,h2,EW,seval];exact⟨_,⟨[],0,1,rfl,dy⟩,rfl⟩
  cases h3:decide (64<many)
  case true =>
   simp only[Hg,Kx,bq,aM,h1,h2,h3,EW,seval];exact⟨_,⟨[],0,1,rfl,dy⟩,rfl⟩
  cases h4:v.2 != 0
  case true =>
   simp only[Hg,Kx,bq,aM,bK,aL,qd,h1,h2,h3,h4,EW,seval];exact⟨_,⟨[],0,v.2,rfl,dy⟩,rfl⟩
  simp only[dv] at h2 h3;obtain⟨m,rfl⟩:∃m:Nat,many=m:=⟨many.toNat,aH⟩;have g2:decide ((m:Int)<1)=false:=gh;have g3:decide (64<(m:Int))=false:=gh;have lb:=fun {k Q} hr=>aaG (t:=t) (n:=v.1) (Q:=Q) hd (m:=m) aH aH (k:=k) hr m kv [] dy
  simp only[liM,aQ,az] at lb;simp only[Hg,Kx,bq,aM,bK,aL,qd,h1,g2,g3,h4,EW,seval];refine lb (fun out x ho=>?_)
  simp only[Kx,EW,seval];exact⟨_,⟨out,x,0,rfl,ho⟩,rfl⟩
 obtain⟨_,⟨out,x,e,rfl,h1⟩,h3⟩:=key;exact⟨out,x,e,aB h3,h1⟩
section
variable {f:aa} {o:jA} {n:Node} {Q:ag×aC->Prop}
abbrev wkM(f:aa)(o:jA)(n:Node):aC:=[.cells (cm f),.cells (eS o),.cells rR,.cells rb,.cells (aM f.s.now),.cells (aL n)]
def ahb{l:List gI}(hl:l.length<=64){nx:Int}{k:List K}
  (hx:∀(S:List Bytes) z,∃r,Q r/\kr (aq bW) [.dE 4 10,.dE 5 7] 0 k ⟨.exit 1,(2,ct 0)::(4,ct 2)::(5,ct 3)::(11,ja l)::(12,aF nx)::(14,.slice (.own 6) (S.map ag.str))::z,wkM f o n++[.tick 1 S.length]⟩=some r) :
  ∃r,Q r/\eX (aq bW) [.dE 4 10,.dE 5 7] 0 k (.loop [2,4,5,11,12,14,15] agU) [(2,ct 0),(4,ct 2),(5,ct 3),(11,ja l),(12,aF nx),(14,.slice (.own 6) []),(15,aF 0)] (wkM f o n++[.tick 1 0])=some r:=by
 refine jc (xs:=l) aH (fun m (S:List Bytes)=>S.length<=m) (fun S i=>[(2,ct 0),(4,ct 2),(5,ct 3),(11,ja l),(12,aF nx),(14,.slice (.own 6) (S.map ag.str)),(15,aF i)]) (fun S=>wkM f o n++[.tick 1 S.length]) Q (fun S hS=>?_) (fun pre e post S h hx' cG hw h0 hm hS hi=>?_) [] (au _)
 ·simp only[wkM,cm,eS,rR,rb,aM,aL,aI,aP] at hx ⊢;simp only[Oq,br,EW,seval];exact hx S _
 ·have hp:=(aj.1 hx').1;have i1:=hi (S++[e.name]) gh;have r1:cp (S.length+1) 16=True:=qH;simp only[wkM,cm,eS,rR,rb,aM,aL,aI,aP,aW,aE,aQ,aA,aw,az,aG] at i1 ⊢;simp only[Oq,cG,hx',hw,h0,r1,iE,gd,EW,seval];exact i1
end
def c44{K:Nat}(f:aa)(o:jA)(hf:FB K f)(hK:K<=89000)(ho:sr o):yu K f 44 [.agg (cm f),.agg (eS o)]:=by
 have hr:=hf.ok.rt;have h200:=hr.sz.ae;have hp:o.dG.length<=100000:=by have:=ho.dG; omega
 have q3:=fun M=>k66 f.s.now.ae f.s.now.next f.s.now.ak o.dG hr.small hp M
 generalize Cy f.s.now.ae o.dG=w at q3;have qg:=fun M=>Bh f.s.now.ae f.s.now.next f.s.now.ak w.1 aH M
 generalize (find f.s.now.ae w.1).getD Node.zero=n at qg;have q4:=k42;simp only[dw,hU,cZ,cR,aQ,bK,aL] at q4 qg;have back:FB (K+200) f:=hf.mono aH;cases h0:w.2 != 0
 case true =>
  refine⟨f,hU w.2,aB ?_,back,D3⟩;simp only[zN,Oq,cm,eS,dw,hU,cZ,cR,h0,q3,q4,EW,seval]
 cases h1:o.kind==1
 case true =>
  refine⟨f,⟨0,w.1,n.kind,0,0,[],[]⟩,aB ?_,back,D3⟩;simp only[zN,Oq,cm,eS,dw,hU,cZ,cR,h0,h1,q3,qg,EW,seval]
 cases h2:o.kind==7
 case true =>
  obtain⟨a,qa⟩:=c75 n;have q5:=cP qa;simp only[bK,aL] at q5;refine⟨f,⟨0,w.1,n.kind,n.eE,a,[],[]⟩,aB ?_,back,D3⟩;simp only[zN,Oq,cm,eS,dw,hU,cZ,cR,h0,h1,h2,q3,qg,q5,EW,seval]
 cases h3:o.kind==6
 case true =>
  obtain⟨l,nx,e,qa,hl⟩:=c76 f.s.now w.1 o.n o.m hr;have q5:=cP qa;simp only[bq,aM] at q5;cases h4:e != 0
  case true =>
   refine⟨f,hU e,aB ?_,back,D3⟩;simp only[zN,Oq,cm,eS,dw,hU,cZ,cR,h0,h1,h2,h3,h4,q3,q4,q5,qg,EW,seval]
  have key:∃r:ag×aC,(∃a,r=(.tuple [.agg (cm f),.agg (dw a)],[]))/\eX (aq bW) zN.results 0 [] zN.body (eF 0 [.agg (cm f),.agg (eS o)]) []=some r:=by
   have la:=fun {k Q} hx=>ahb (f:=f) (o:=o) (n:=n) (Q:=Q) hl (nx:=nx) (k:=k) hx
   simp only[wkM,cm,eS,rR,rb,aM,aL,aI,aP] at la;simp only[zN,Oq,cm,eS,dw,hU,cZ,cR,h0,h1,h2,h3,h4,q3,q5,qg,EW,seval];refine la (fun S z=>?_)
   simp only[Oq,EW,seval];exact⟨_,⟨⟨0,0,0,nx,0,S,[]⟩,rfl⟩,rfl⟩
  obtain⟨_,⟨a,rfl⟩,h5⟩:=key;exact⟨f,a,aB h5,back,D3⟩
 cases h4:o.kind==8
 case true =>
  have q5:=fun M=>k77 f.s.now.ae f.s.now.next f.s.now.ak f.holds o.bF o.handle w.1 aH (by have:=hf.ok.dJ; omega) M
  obtain⟨g1,g2⟩:=WH (t:=f.s.now) hf.ok.holds hf.ok.dJ o.bF o.handle w.1;have g4:∀y,y∈f.holds->y∈(sG ⟨f.s.now.ae,f.s.now.next,f.s.now.ak⟩ f.holds o.bF o.handle w.1).1:=fun y hy=>P4 f.s.now f.holds o.bF o.handle w.1 hy
  have g3:∀y,y∈(sG ⟨f.s.now.ae,f.s.now.next,f.s.now.ak⟩ f.holds o.bF o.handle w.1).1->y∈f.holds\/tG f.s.now.ae y.ar/\zY y.bF y.handle=true:=fun y hy=>P3 (t:=f.s.now) (by obtain⟨dD,g⟩:=hr; exact g.kind) f.holds o.bF o.handle w.1 hy
  change uA (sG ⟨f.s.now.ae,f.s.now.next,f.s.now.ak⟩ f.holds o.bF o.handle w.1).1 at g1
  change(sG ⟨f.s.now.ae,f.s.now.next,f.s.now.ak⟩ f.holds o.bF o.handle w.1).1.length<=64 at g2
  generalize sG ⟨f.s.now.ae,f.s.now.next,f.s.now.ak⟩ f.holds o.bF o.handle w.1=v at q5 g1 g2 g3 g4
  cases h5:v.2 != 0
  ·refine⟨⟨f.s,v.1,f.dR⟩,⟨0,w.1,0,0,0,[],[]⟩,aB ?_,hf.set g1 g2,fun h=>⟨fun y hy=>(g3 y hy).elim (h.file y) And.left,fun n hn ho=>by
    obtain⟨y,h1,h2⟩:=of_held (h.orp n hn ho);exact CT (g4 y h1) h2,h.quo,h.one,h.over,fun y hy=>(g3 y hy).elim (h.key y) And.right⟩,.inl rfl⟩
   simp only[zN,Oq,cm,eS,dw,hU,cZ,cR,h0,h1,h2,h3,h4,h5,q3,q5,qg,EW,seval]
  ·refine⟨f,hU v.2,aB ?_,back,D3⟩;simp only[zN,Oq,cm,eS,dw,hU,cZ,cR,h0,h1,h2,h3,h4,h5,q3,q4,q5,qg,EW,seval]
 cases h5:o.kind==13
 case true =>
  obtain⟨l,e,qa,hl,hl',hlm⟩:=c78 f.s.now f.dR w.1 o.n o.m hr hf.ok.dR hf.ok.sI;have q5:=cP qa;obtain⟨g,a,qd,hg⟩:=c69 f f.s.now l e ⟨0,w.1,0,0,0,[],[]⟩ hf hK hr hl hl' (fun _ _ h=>h) (fun h y hy hi=>(hlm y hy).elim (fun hq=>(h.quo y hq).no (.inl hi)) fun hd=>XT.no hd (.inl hi))
  have q7:=cP qd;simp only[bq,aM,cm,dw,cZ,cR,aQ] at q5 q7;refine⟨g,a,aB ?_,hg⟩;simp only[zN,Oq,cm,eS,dw,hU,cZ,cR,h0,h1,h2,h3,h4,h5,q3,q5,q7,qg,EW,seval]
 obtain⟨i,e,qa⟩:=c79 f.s w.1 aH hf.ok.dP;have q5:=cP qa;simp only[bL] at q5;cases h6:e != 0
 ·have hts:(takeN f.s w.1).1.now=f.s.now/\(takeN f.s w.1).1.since=f.s.since/\(takeN f.s w.1).1.eR=f.s.eR/\(takeN f.s w.1).1.dP.length<=16:=by
   have:=hf.ok.dP;unfold takeN;split
   ·exact⟨rfl,rfl,rfl,this⟩
   split
   ·exact⟨rfl,rfl,rfl,this⟩
   split
   ·exact⟨rfl,rfl,rfl,this⟩
   ·rename_i hl;simp only[cW,bh,o7] at hl;exact⟨rfl,rfl,rfl,gh⟩
  obtain⟨t1,t2⟩:=hf.adU hts.1 hts.2.1 (fun p hp=>by rw[hts.2.2.1] at hp; exact hp) (by rw[hts.2.2.1]; exact au _) hts.2.2.2
  refine⟨⟨(takeN f.s w.1).1,f.holds,f.dR⟩,⟨0,0,0,i,0,[],[]⟩,aB ?_,t1,t2,.inr (.inr (.inl ⟨_,rfl⟩))⟩;simp only[zN,Oq,cm,eS,dw,hU,cZ,cR,h0,h1,h2,h3,h4,h5,h6,q3,q5,qg,EW,seval]
 ·refine⟨f,hU e,aB ?_,back,D3⟩;simp only[zN,Oq,cm,eS,dw,hU,cZ,cR,h0,h1,h2,h3,h4,h5,h6,q3,q4,q5,qg,EW,seval]
section
variable {data:Bytes} {kv:Nat} {Q:ag×aC->Prop}
def aaH(hf:kv+data.length<=100000){k:List K}
  (hx:∀(v:Nat) (out:Bytes) z,kv+data.length<=out.length->out.length<=100000->∃r,Q r/\kr (aq bW) [.tmp 6] 0 k ⟨.exit 0,(1,aF kv)::(2,cR data)::(7,.cv 0 v 1 0 out.length)::z,[.arr 1 v (out.map pt)]⟩=some r) :
  ∀(d v:Nat)(out:Bytes),kv+data.length-out.length=d->out.length<=100000->∃r,Q r/\eX (aq bW) [.tmp 6] 0 k (.loop [1,2,7] LM) [(1,aF kv),(2,cR data),(7,.cv 0 v 1 0 out.length)] [.arr 1 v (out.map pt)]=some r:=by
 have w1:IntKind.i64.wrap ((kv:Int)+(data.length:Int))=((kv+data.length:Nat):Int):=by rw[gv aH aH]; rfl
 intro d;induction d with
 |zero =>
  intro v out h1 h2;rw[bG];have e1:((out.length:Int)<((kv+data.length:Nat):Int))=False:=oyf;simp only[E82,w1,e1,bO,EW,seval];exact hx v out _ aH h2
 |succ d ih =>
  intro v out h1 h2;rw[bG];have e1:((out.length:Int)<((kv+data.length:Nat):Int))=True:=sM;have r1:cp (out.length+1) 1=True:=qH;have u0:pt 0 = .int .u8 0:=rfl;have i1:=ih (v+1) (out++[0]) gh gh;simp only[aW,aE,aQ,aA,aw,az,aG,u0] at i1;simp only[E82,w1,e1,r1,bO,qY,EW,seval];exact i1
def aaI(hf:kv+data.length<=100000){v L:Nat}(hL:kv+data.length<=L){k:List K}
  (hx:∀(out:Bytes) z,out.length=L->∃r,Q r/\kr (aq bW) [.tmp 6] 0 k ⟨.exit 2,(1,aF kv)::(2,cR data)::(7,.cv 0 v 1 0 L)::z,[.arr 1 v (out.map pt)]⟩=some r) {out:Bytes} (ho:out.length=L) :
  ∃r,Q r/\eX (aq bW) [.tmp 6] 0 k (.loop [1,2,7,8] ag7) [(1,aF kv),(2,cR data),(7,.cv 0 v 1 0 L),(8,aF 0)] [.arr 1 v (out.map pt)]=some r:=by
 refine jc (xs:=data) aH (fun _ (out:Bytes)=>out.length=L) (fun _ i=>[(1,aF kv),(2,cR data),(7,.cv 0 v 1 0 L),(8,aF i)]) (fun out=>[.arr 1 v (out.map pt)]) Q (fun out ho=>?_) (fun pre x post out e hx' cG hw h0 hm ho hi=>?_) out ho
 ·simp only[E82,br,EW,seval];exact hx out _ ho
 ·have hp:=(aj.1 hx').1;have w1:IntKind.i64.wrap ((kv:Int)+(pre.length:Int))=((kv+pre.length:Nat):Int):=by rw[gv aH aH]; rfl
  have e1:(((kv+pre.length:Nat):Int)<(L:Int))=True:=sM;have e2:(((kv+pre.length:Nat):Int)<0)=False:=oyf;have sU:∀(ds:List UInt8)(b:Nat)(d x:UInt8),iP (ds.map pt) b (putCells (.int .u8 d.toNat) 0 [.int .u8 x.toNat])=(ds.set b x).map pt:=abl;have e3:(kv+pre.length<out.length)=True:=sM;have e4:(kv+pre.length<L)=True:=sM;obtain⟨d,hb⟩:∃d,out[kv+pre.length]?=some d:=⟨_,ai aH⟩;have i1:=hi (out.set (kv+pre.length) x) (by simp[ho])
  simp only[E82,cG,hx',hw,h0,w1,e1,e2,e3,e4,hb,ho,sU,pt,bO,EW,seval];exact i1
end
def c82(file:Bytes)(kv:Nat)(data:Bytes)(hf:file.length<=100000)(hr:kv+data.length<=100000):∃out:Bytes,aq bW 82 [cR file,aF kv,cR data] []=some (cR out,[])/\out.length<=100000:=by
 have key:∃r:ag×aC,(∃out:Bytes,r=(cR out,[])/\out.length<=100000)/\eX (aq bW) Pj.results 0 [] Pj.body (eF 0 [cR file,aF kv,cR data]) []=some r:=by
  have r1:cp file.length 1=True:=qH;cases h1:(data.length:Int)==0
  ·have la:=fun {k Q} hx=>aaH (data:=data) (kv:=kv) (Q:=Q) hr (k:=k) hx _ 0 file rfl aH
   have hk:∀ {k:List K} {a b c d:ag} {M:aC},eX (aq bW) [.tmp 6] 0 k (.loop [1,2,7] LM) [(1,a),(2,b),(7,c),(14,d)] M=eX (aq bW) [.tmp 6] 0 k (.loop [1,2,7] LM) [(1,a),(2,b),(7,c)] M:=by
    intros; rw[bG,bG]; rfl
   simp only[Pj,E82,h1,r1,EW,seval];rw[hk];refine la (fun v out z h2 h3=>?_)
   have lb:=fun {k Q} hx=>aaI (data:=data) (kv:=kv) (Q:=Q) hr (v:=v) h2 (k:=k) hx (out:=out) rfl
   simp only[E82,EW,seval];refine lb (fun out' z h4=>?_)
   have htk:(out'.map pt).take out.length=out'.map pt:=bC (by simp[h4])
   simp only[E82,h4,htk,bO,EW,seval];exact⟨_,⟨out',rfl,aH⟩,rfl⟩
  ·have htk:(file.map pt).take file.length=file.map pt:=bC dy;simp only[Pj,E82,h1,r1,htk,bO,EW,seval];exact⟨_,⟨file,rfl,aH⟩,rfl⟩
 obtain⟨_,⟨out,rfl,h1⟩,h3⟩:=key;exact⟨out,aB h3,h1⟩
def c45{K:Nat}(f:aa)(o:jA)(hf:FB K f)(hK:K<=89000)(ho:sr o):yu K f 45 [.agg (cm f),.agg (eS o)]:=by
 have hr:=hf.ok.rt;have h200:=hr.sz.ae;have hod:=ho.data;have q4:=k42;simp only[dw,hU,cZ,cR,aQ] at q4;have back:FB (K+200) f:=hf.mono aH;cases h0:o.kind==9
 case true =>
  obtain⟨u,l,e,qa,g⟩:=c80 f.s.now f.holds o.bF o.handle hr hf.ok.holds hf.ok.dJ;have qp:=c49 f.s u hr g.rt hf.ok.len hf.ok.dP hf.ok.eR;have q1:=cP qa;have q2:=cP qp;simp only[bq,aM,bL] at q1 q2;cases h1:e != 0
  ·refine⟨⟨qt f.s u,l,f.dR⟩,hU 0,aB ?_,hf.put hK g.rt g.mo g.len hf.ok.dR hf.ok.sI,fun h=>HA g.mem (g.orp h.orp) (fun q hq=>g.dir _ (h.quo q hq)) (g.one _ h.one) (fun q hq=>by rw[g.use]; exact h.over q hq) h,.inr (.inl ⟨u,g.rt,rfl⟩)⟩
   simp only[CI,QW,cm,eS,dw,hU,cZ,cR,h0,h1,q1,q2,EW,seval]
  ·refine⟨f,hU e,aB ?_,back,D3⟩;simp only[CI,QW,cm,eS,dw,hU,cZ,cR,h0,h1,q1,q4,EW,seval]
 obtain⟨x,e,qa⟩:=c81 f.holds o.bF o.handle hf.ok.dJ;have q1:=cP qa;cases h1:e != 0
 case true =>
  refine⟨f,hU e,aB ?_,back,D3⟩;simp only[CI,QW,cm,eS,dw,hU,cZ,cR,h0,h1,q1,q4,EW,seval]
 have qg:=fun M=>Bh f.s.now.ae f.s.now.next f.s.now.ak x aH M
 have hz:(find f.s.now.ae x).getD Node.zero=bl f.s.now.ae x:=rfl;rw[hz] at qg;obtain⟨s1,s2⟩:=xu hf.ok x;generalize bl f.s.now.ae x=n at qg s1 s2;simp only[bK,aL] at qg;have bad:∀e,aq bW 45 [.agg (cm f),.agg (eS o)] []=some (.tuple [.agg (cm f),.agg (dw (hU e))],[])->yu K f 45 [.agg (cm f),.agg (eS o)]:=fun e h=>⟨f,hU e,h,back,D3⟩
 cases h2:decide (o.n<0)
 case true =>
  refine bad 1 (aB ?_);simp only[CI,QW,cm,eS,dw,hU,cZ,cR,h0,h1,h2,q1,q4,qg,EW,seval]
 have hn0:0<=o.n:=by simpa using h2
 obtain⟨m1,m2⟩:=z8 hn0 n.data.length;generalize Bn o.n n.data.length=mn at m1 m2;have t1:((mn:Int)<=(n.data.length:Int))=True:=sM;have ta:(n.data.map pt).take n.data.length=n.data.map pt:=bC dy;cases h3:o.kind==10
 case true =>
  have h3':(o.kind==11)=false:=by simp at h3 ⊢; omega
  cases h4:decide (o.m<0)
  case true =>
   refine bad 1 (aB ?_);simp only[CI,QW,cm,eS,dw,hU,cZ,cR,h0,h1,h2,h3,h3',h4,q1,q4,qg,EW,seval]
  cases h5:decide (4096<o.m)
  case true =>
   refine bad 1 (aB ?_);simp only[CI,QW,cm,eS,dw,hU,cZ,cR,h0,h1,h2,h3,h3',h4,h5,q1,q4,qg,EW,seval]
  simp only[dv] at h4 h5;have g4:decide (o.m<0)=false:=gh;have g5:decide (4096<o.m)=false:=gh;have w1:IntKind.i64.wrap ((mn:Int)+o.m)=(mn:Int)+o.m:=gv aH aH;obtain⟨p1,p2⟩:=z8 (a:=(mn:Int)+o.m) aH n.data.length
  have p3:mn<=Bn ((mn:Int)+o.m) n.data.length:=by
   have:=p1; split at this<;>omega
  generalize Bn ((mn:Int)+o.m) n.data.length=mx at p1 p2 p3;have t2:((mx:Int)<=(n.data.length:Int))=True:=sM;have t3:((mn:Int)<=(mx:Int))=True:=sM;refine⟨f,⟨0,x,0,0,0,[],(n.data.take mx).drop mn⟩,aB ?_,back,D3⟩;simp only[CI,QW,cm,eS,dw,hU,cZ,cR,h0,h1,h2,h3,h3',g4,g5,q1,qg,m1,p1,w1,t1,t2,t3,ta,gw,jS,EW,seval]
 cases h6:o.kind==11
 case true =>
  cases h7:decide (4096<o.n)
  case true =>
   refine bad 1 (aB ?_);simp only[CI,QW,cm,eS,dw,hU,cZ,cR,h0,h1,h2,h3,h6,h7,q1,q4,qg,EW,seval]
  have h7':¬4096<o.n:=by simpa using h7
  obtain⟨m,hm⟩:∃m:Nat,o.n=m:=⟨o.n.toNat,aH⟩;rw[hm] at h2 h7;have w1:IntKind.i64.wrap ((m:Int)+(o.data.length:Int))=(m:Int)+(o.data.length:Int):=gv aH aH;cases h8:decide (4096<(m:Int)+(o.data.length:Int))
  case true =>
   refine bad 2 (aB ?_);simp only[CI,QW,cm,eS,dw,hU,cZ,cR,hm,h0,h1,h2,h3,h6,h7,h8,w1,q1,q4,qg,EW,seval]
  obtain⟨d,ql,hd⟩:=c82 n.data m o.data aH aH;have q5:=cP ql;have h8':¬4096<(m:Int)+(o.data.length:Int):=by simpa using h8
  have q6:=fun M=>k83 f.s.now.ae f.s.now.next f.s.now.ak x d hr.small hd M
  have hv:=hr.put x d;have hkf:=Jn hr x d;have hrf:=Xa hr x d;generalize rP f.s.now x d=v at q6 hv hkf hrf;obtain⟨g,a,qd,hg⟩:=c69 f v.1 f.dR v.2 ⟨0,x,0,0,d.length,[],[]⟩ hf hK hv hf.ok.dR hf.ok.sI (fun y _ h=>hkf.2 _ h) (fun h y hy hi=>(h.quo y hy).no (hrf _ hi))
  have q7:=cP qd;simp only[bq,aM,cm,dw,cZ,cR,aQ] at q5 q6 q7;refine⟨g,a,aB ?_,hg⟩;simp only[CI,QW,cm,eS,dw,hU,cZ,cR,hm,h0,h1,h2,h3,h6,h7,h8,w1,q1,q5,q6,q7,qg,EW,seval]
 have tl1:(List.take mn (n.data.map pt)).length=mn:=gh;have tl2:(List.take mn n.data).length=mn:=gh;have q6:=fun M=>k83 f.s.now.ae f.s.now.next f.s.now.ak x (n.data.take mn) hr.small gh M
 have hv:=hr.put x (n.data.take mn);have hkf:=Jn hr x (n.data.take mn);have hrf:=Xa hr x (n.data.take mn);generalize rP f.s.now x (n.data.take mn)=v at q6 hv hkf hrf;obtain⟨g,a,qd,hg⟩:=c69 f v.1 f.dR v.2 ⟨0,x,0,0,(n.data.take mn).length,[],[]⟩ hf hK hv hf.ok.dR hf.ok.sI (fun y _ h=>hkf.2 _ h) (fun h y hy hi=>(h.quo y hy).no (hrf _ hi))
 have q7:=cP qd;simp only[bq,aM,cm,dw,cZ,cR,aQ,eb,tl2] at q6 q7;refine⟨g,a,aB ?_,hg⟩;simp only[CI,QW,tl1,cm,eS,dw,hU,cZ,cR,h0,h1,h2,h3,h6,q1,q6,q7,qg,m1,t1,gw,EW,seval]
section
variable {s:iL} {Q:ag×aC->Prop} {id:Int}
abbrev QF(s:iL):aC:=[.cells (bL s),.cells [.slice .c0 [],.int .i64 0,.int .i64 0,.int .i64 0,.slice .c0 [],.slice .c0 [],.slice .c0 [],.int .i64 0]]
def aaB(hk:s.dP.length<=16){k:List K}
  (hx:∀z,∃r,Q r/\kr (aq bW) [.dE 4 8,.tmp 5] 0 k ⟨.exit 0,(1,aF id)::(2,ct 0)::(4,ct 1)::(6,.slice (.own 2) ((s.dP.filter (rF id)).map kS))::z,QF s++[.tick 3 (s.dP.filter (rF id)).length]⟩=some r) :
  ∃r,Q r/\eX (aq bW) [.dE 4 8,.tmp 5] 0 k (.loop [1,2,4,6,7] agY) [(1,aF id),(2,ct 0),(4,ct 1),(6,.slice (.own 2) []),(7,aF 0)] (QF s++[.tick 3 0])=some r:=by
 refine jc (xs:=s.dP) aH (fun m (ts:List mT)=>ts=(s.dP.take m).filter (rF id)) (fun ts i=>[(1,aF id),(2,ct 0),(4,ct 1),(6,.slice (.own 2) (ts.map kS)),(7,aF i)]) (fun ts=>QF s++[.tick 3 ts.length]) Q (fun ts hK=>?_) (fun pre x post ts e hx' cG hw h0 hm hK hi=>?_) [] rfl
 ·rw[bE] at hK;subst hK;simp only[QF,bL,aI,aP] at hx ⊢;simp only[E47,br,EW,seval];exact hx _
 ·have hp:=(aj.1 hx').1;have hl:ts.length<=16:=by rw[hK]; exact aY (bT _ _) gh
  have i1:=hi (ts++if x.id != id then [x] else []) (by rw[cB,hx',jx,<-hK]; simp only[kI,fq,kM,rF]<;>rfl)
  have r1:cp (ts.length+1) 24=True:=qH;simp only[QF,bL,aI,aP] at i1 ⊢;cases h1:x.id != id<;>simp only[h1,af,aJ,aD,cX,aW,aE,aQ,aA,aw,az,aG,kS,iB] at i1<;>simp only[E47,cG,hx',hw,h0,h1,r1,kS,iB,EW,seval]<;>exact i1
def aaC(hp:s.eR.length<=90000){ts:List mT}(hk:ts.length<=16){k:List K}
  (hx:∀z,∃r,Q r/\kr (aq bW) [.dE 4 8,.tmp 5] 0 k ⟨.exit 2,(2,ct 0)::(4,ct 1)::(6,.slice (.own 2) (ts.map kS))::(8,.slice (.own 3) ((s.eR.filter (vJ ts)).map lX))::z,QF s++[.tick 3 ts.length,.tick 8 (s.eR.filter (vJ ts)).length]⟩=some r) :
  ∃r,Q r/\eX (aq bW) [.dE 4 8,.tmp 5] 0 k (.loop [2,4,6,8,9] agZ) [(2,ct 0),(4,ct 1),(6,.slice (.own 2) (ts.map kS)),(8,.slice (.own 3) []),(9,aF 0)] (QF s++[.tick 3 ts.length,.tick 8 0])=some r:=by
 refine jc (xs:=s.eR) aH (fun m (P:List po)=>P=(s.eR.take m).filter (vJ ts)) (fun P i=>[(2,ct 0),(4,ct 1),(6,.slice (.own 2) (ts.map kS)),(8,.slice (.own 3) (P.map lX)),(9,aF i)]) (fun P=>QF s++[.tick 3 ts.length,.tick 8 P.length]) Q (fun P hP=>?_) (fun pre x post P e hx' cG hw h0 hm hP hi=>?_) [] rfl
 ·rw[bE] at hP;subst hP;simp only[QF,bL,aI,aP] at hx ⊢;simp only[E47,br,EW,seval];exact hx _
 ·have hp':=(aj.1 hx').1;have hl:P.length<=90000:=by rw[hP]; exact aY (bT _ _) gh
  have i1:=hi (P++if xD ts x.kv x.BK then [x] else []) (by rw[cB,hx',jx,<-hP]; simp only[kI,fq,kM,vJ]<;>rfl)
  have qw:=fun M=>k86 ts x.kv x.BK aH M
  generalize xD ts x.kv x.BK=w at qw i1;have r1:cp (P.length+1) 96=True:=qH;simp only[QF,bL,aI,aP] at i1 ⊢;cases w<;>simp only[af,aJ,aD,cX,aW,aE,aQ,aA,aw,az,aG,lX,mL,aL] at i1<;>simp only[E47,cG,hx',hw,h0,qw,r1,lX,mL,aL,EW,seval]<;>exact i1
end
def c47(s:iL)(id:Int)(hk:s.dP.length<=16)(hp:s.eR.length<=90000):∃e,aq bW 47 [.agg (bL s),aF id] []=some (.tuple [.agg (bL (rq s id).1),aF e],[]):=by
 have key:∃r:ag×aC,(∃e,r=(.tuple [.agg (bL (rq s id).1),aF e],[]))/\eX (aq bW) Sv.results 0 [] Sv.body (eF 0 [.agg (bL s),aF id]) []=some r:=by
  have la:=fun {k Q} hx=>aaB (s:=s) (Q:=Q) (id:=id) hk (k:=k) hx
  simp only[QF,bL,aI,aP] at la;simp only[Sv,E47,bL,EW,seval];refine la (fun z=>?_)
  unfold rq;have hK:(s.dP.filter (rF id)).length<=16:=aY (bT _ _) hk;generalize s.dP.filter (rF id)=ts at hK ⊢;cases h1:(ts.length:Int)==(s.dP.length:Int)
  ·have lb:=fun {k Q} hx=>aaC (s:=s) (Q:=Q) hp (ts:=ts) hK (k:=k) hx
   simp only[QF,bL,aI,aP] at lb;simp only[E47,h1,af,aD,EW,seval];refine lb (fun z=>?_)
   simp only[E47,EW,seval];exact⟨_,⟨0,rfl⟩,rfl⟩
  ·simp only[E47,h1,aJ,EW,seval];exact⟨_,⟨100,rfl⟩,rfl⟩
 obtain⟨_,⟨e,rfl⟩,h3⟩:=key;exact⟨e,aB h3⟩
def aqI(l:List Node)(n:Node)(hn:l.length<=100000):∃m,aq bW 177 [ba l,bK n] []=some (ba m,[])/\m.length=l.length+1/\∀x,x∈m->x=n\/x∈l:=by
 have key:∃r:ag×aC,(∃m,r=(ba m,[])/\m.length=l.length+1/\∀x,x∈m->x=n\/x∈l)/\eX (aq bW) I3.results 0 [] I3.body (eF 0 [ba l,bK n]) []=some r:=by
  simp only[I3,X5,bK,aL,EW,seval]
  have fin:∀(i:Nat),i<=l.length->∃m:List Node,m.length=l.length+1/\(∀x,x∈m->x=n\/x∈l)/\l.take i++n::l.drop i=m:=fun i hi=>⟨_,gh,fun x hx=>by
   rcases bm.1 hx with hx|hx
   ·exact .inr (dK hx)
   ·rcases bI.1 hx with hx|hx
    ·exact .inl hx
    ·exact .inr (dr hx),rfl⟩
  refine jc (xs:=l) aH (fun _ (_:Unit)=>True) (fun _ i=>[(0,ba l),(3,ct 0),(5,aF i)]) (fun _=>[cu [aF n.ar,aF n.kind,aF n.eE,cR n.data,ja n.bc,aF n.up]]) _ (fun _ _=>?_) (fun pre x post _ e hx cG hw h0 hm _ hi=>?_) () trivial
  ·obtain⟨m,m1,m2,m3⟩:=fin l.length (au _);have r1:cp l.length 80=True:=qH;have r2:cp (l.length+1) 80=True:=qH;have a1:(l.map bK).take l.length=l.map bK:=by rw[<-eb,bE]
   have a2:(l.map bK).drop l.length=[]:=by rw[<-jS,List.drop_length]; rfl
   simp only[X5,br,dL,a1,a2,r1,r2,EW,seval];refine⟨_,⟨m,rfl,m1,m2⟩,?_⟩;rw[<-m3]; simp[bK,aL]
  ·have hp:=(aj.1 hx).1;obtain⟨m,m1,m2,m3⟩:=fin pre.length aH;have i1:=hi () trivial;have r1:cp pre.length 80=True:=qH;have r2:cp (pre.length+1) 80=True:=qH;obtain⟨B,hB⟩:∃B,x::post=B:=⟨_,rfl⟩;have t1:l.take pre.length=pre:=by rw[e]; simp
   have t2:l.drop pre.length=B:=by rw[e,<-hB]; simp
   have t3:pre.length+B.length=l.length:=by rw[e,<-hB]; simp
   have r3:cp (pre.length+1+B.length) 80=True:=qH;have a1:(l.map bK).take pre.length=pre.map bK:=by rw[<-eb,t1]
   have a2:(l.map bK).drop pre.length=B.map bK:=by rw[<-jS,t2]
   have a3:((pre.length:Int)<=(l.length:Int))=True:=sM;have a4:(l.map bK).take l.length=l.map bK:=by rw[<-eb,bE]
   cases h1:decide (x.ar<=n.ar)<;>simp only[X5,cG,hx,hw,h0,h1,bK,aL,EW,seval]
   ·simp only[X5,a1,a2,a3,a4,r1,r2,r3,dL,EW,seval];refine⟨_,⟨m,rfl,m1,m2⟩,?_⟩;rw[<-m3,t1,t2]; simp[bK,aL]
   ·exact i1
 obtain⟨_,⟨m,rfl,h1⟩,h3⟩:=key;exact⟨m,aB h3,h1⟩
end
def XF:List Node->List Bool->Nat
 |n::r,b::m=>(if b then 0 else n.bc.length)+XF r m
 |_,_=>0
def N8:∀(l:List Node)(m:List Bool)(i:Nat)(n:Node),l[i]?=some n->m[i]?=some false->XF l (m.set i true)+n.bc.length=XF l m
 | [],m,i,n,h,_=>by simp at h
 |x::l,[],i,n,_,h=>by simp at h
 |x::l,b::m,0,n,h,h'=>by simp at h h'; subst h; subst h'; simp[XF]; omega
 |x::l,b::m,i+1,n,h,h'=>by
  have:=N8 l m i n (by simpa using h) (by simpa using h')
  simp only[List.set_cons_succ,XF]; omega
def XG:∀(l:List Node)(m:List Bool),(∀n,n∈l->n.bc.length<=64)->XF l m<=64*l.length
 | [],m,_=>by simp[XF]
 |x::l,[],_=>by simp[XF]
 |x::l,b::m,h=>by
  have h1:=XG l m fun n hn=>h n (bt _ hn)
  have h2:=h x bD;simp only[XF,aw]; split<;>omega
section
attribute [local irreducible] eX fM lu gK dX kr aq aU cr bJ
section
variable {l:List Node} {Q:ag×aC->Prop}
abbrev J5(l:List Node)(m:List Bool)(all:List Int):aC:=[.arr 1 0 (m.map ag.bool),.cells [ba l,.int .i64 0,.int .i64 0],.tick 1 all.length]
abbrev Xn(n:Node):cI := .cells [.int .i64 n.ar,.int .i64 n.kind,.int .i64 n.eE,cR n.data,ja n.bc,.int .i64 n.up]
def VL(hl:l.length<=100000){m:List Bool}{all:List Int}{i:Nat}{A B:List Node}{n:Node}(hs:l=A++n::B)(hA:∀x,x∈A->x.ar≠n.ar){k:List K}
  (hx:∀z,∃r,Q r/\kr (aq bW) [.tmp 4,.tmp 5] 0 k ⟨.exit 2,(0,ba l)::(6,.cv 0 0 1 0 l.length)::(7,ct 1)::(8,.slice (.own 2) (all.map mU))::(9,aF i)::(10,ct 3)::(12,aF A.length)::z,J5 l m all++[Xn n]⟩=some r) :
  ∀(d j:Nat),j+d=A.length->∃r,Q r/\eX (aq bW) [.tmp 4,.tmp 5] 0 k (.loop [0,6,7,8,9,10,12] ZF) [(0,ba l),(6,.cv 0 0 1 0 l.length),(7,ct 1),(8,.slice (.own 2) (all.map mU)),(9,aF i),(10,ct 3),(12,aF j)] (J5 l m all++[Xn n])=some r:=by
 have hl2:l.length=A.length+(B.length+1):=by rw[hs]; simp
 intro d;induction d with
 |zero =>
  intro j hj;obtain rfl:j=A.length:=aH;rw[bG];have b0:((A.length:Int)<0)=False:=dy;have hn:l[A.length]?=some n:=by rw[hs]; simp
  have e1:(n.ar != n.ar)=false:=dy;simp only[J5,Xn,aI,aP] at hx ⊢;simp only[AF,b0,hn,e1,bK,aL,EW,seval];exact hx _
 |succ d ih =>
  intro j hj;rw[bG];have b0:((j:Int)<0)=False:=dy;obtain⟨x,hx1⟩:∃x,A[j]?=some x:=⟨_,ai aH⟩;have hn:l[j]?=some x:=by rw[hs,aO aH]; exact hx1
  have e1:(x.ar != n.ar)=true:=by simpa using hA x (aK hx1)
  have w1:IntKind.i64.wrap ((j:Int)+1)=((j+1:Nat):Int):=by rw[gv aH aH]; rfl
  have i1:=ih (j+1) aH;simp only[J5,Xn,aI,aP] at i1 ⊢;simp only[AF,b0,hn,e1,w1,bK,aL,EW,seval];exact i1
def VM{m:List Bool}{all:List Int}{i:Nat}{n:Node}(hn:n.bc.length<=64)(ha:all.length<=10000000){k:List K}
  (hx:∀(S:List Int) z,S.length=all.length+n.bc.length->∃r,Q r/\kr (aq bW) [.tmp 4,.tmp 5] 0 k ⟨.exit 4,(0,ba l)::(6,.cv 0 0 1 0 l.length)::(7,ct 1)::(8,.slice (.own 2) (S.map mU))::(9,aF i)::z,J5 l m S++[Xn n]⟩=some r) :
  ∃r,Q r/\eX (aq bW) [.tmp 4,.tmp 5] 0 k (.loop [0,6,7,8,9,10,13] ZG) [(0,ba l),(6,.cv 0 0 1 0 l.length),(7,ct 1),(8,.slice (.own 2) (all.map mU)),(9,aF i),(10,ct 3),(13,aF 0)] (J5 l m all++[Xn n])=some r:=by
 refine jc (xs:=n.bc) aH (fun c (S:List Int)=>S.length=all.length+c) (fun S j=>[(0,ba l),(6,.cv 0 0 1 0 l.length),(7,ct 1),(8,.slice (.own 2) (S.map mU)),(9,aF i),(10,ct 3),(13,aF j)]) (fun S=>J5 l m S++[Xn n]) Q (fun S hS=>?_) (fun pre e post S h hx' cG hw h0 hm hS hi=>?_) all rfl
 ·have:=fun z=>hx S ((10,ct 3)::z) hS
  simp only[J5,Xn,aI,aP] at this ⊢;simp only[AF,br,EW,seval];exact this _
 ·have hp:=(aj.1 hx').1;have i1:=hi (S++[e.ar]) gh
  have r1:cp (S.length+1) 8=True:=by
   simp only[fH,iZ]; unfold cp; omega
  simp only[J5,Xn,aI,aP,aW,aE,aQ,aA,aw,az,aG,mU] at i1 ⊢;simp only[AF,cG,hx',hw,h0,r1,uz,iE,gd,EW,seval];exact i1
def VN(hl:l.length<=100000)(he:∀n,n∈l->n.bc.length<=64){k:List K}
  (hx:∀(m:List Bool) z M,m.length=l.length->∃r,Q r/\kr (aq bW) [.tmp 4,.tmp 5] 0 k ⟨.exit 0,(0,ba l)::(6,.cv 0 0 1 0 l.length)::z,.arr 1 0 (m.map ag.bool)::M⟩=some r)
  (hr:∀(m:List Bool) M,m.length=l.length->∃r,Q r/\kr (aq bW) [.tmp 4,.tmp 5] 0 k ⟨.ret,[(4,.cv 0 0 1 0 l.length),(5,.bool false)],.arr 1 0 (m.map ag.bool)::M⟩=some r) :
  ∀(d:Nat)(m:List Bool)(all:List Int)(i:Nat),m.length=l.length->i<=all.length->all.length+XF l m<=7000000->all.length+XF l m-i=d->∃r,Q r/\eX (aq bW) [.tmp 4,.tmp 5] 0 k (.loop [0,6,7,8,9] ZH) [(0,ba l),(6,.cv 0 0 1 0 l.length),(7,ct 1),(8,.slice (.own 2) (all.map mU)),(9,aF i)] (J5 l m all)=some r:=by
 intro d;induction d using Nat.strongRecOn with
 |_ d ih =>
  intro m all i hm hi hb hd;rw[bG];rcases bz i all.length with h1|h1
  ·have e1:((i:Int)<(all.length:Int))=True:=sM;have e0:((i:Int)<0)=False:=dy;have w1:IntKind.i64.wrap ((i:Int)+1)=((i+1:Nat):Int):=by rw[gv aH aH]; rfl
   obtain⟨x,hx1⟩:∃x,all[i]?=some x:=⟨_,ai h1⟩;have qg:=fun M=>Bh l 0 0 x hl M
   cases hf:find l x with
   |none =>
    rw[hf] at qg;simp only[iH,dg,bK,aL,Node.zero,aQ] at qg;simp only[J5,aI,aP] at hr ⊢;simp only[AF,e1,e0,hx1,qg,mU,EW,seval];exact hr m _ hm
   |some n =>
    rw[hf] at qg;simp only[bA,bX,bK,aL] at qg;obtain⟨_,A,B,hs,hA⟩:=List.find?_eq_some_iff_append.1 hf;have hnm:n∈l:=by rw[hs]; simp
    have hne:=he n hnm
    have hA':∀y,y∈A->y.ar≠n.ar:=fun y hy hyn=>by
     have h2:=hA y hy;have h3:=(List.find?_eq_some_iff_append.1 hf).1;simp at h2 h3; omega
    have la:=fun {k} hx=>VL (l:=l) (Q:=Q) hl (m:=m) (all:=all) (i:=i) hs hA' (k:=k) hx A.length 0 aH
    simp only[J5,Xn,aI,aP] at la ⊢;simp only[AF,e1,e0,hx1,qg,mU,EW,seval];refine la (fun z=>?_)
    have hAl:A.length<l.length:=by rw[hs]; simp
    have a0:((A.length:Int)<0)=False:=dy;have a1:((A.length:Int)<(l.length:Int))=True:=sM;have a2:(A.length<l.length)=True:=sM;have a3:(A.length<m.length)=True:=sM;have hln:l[A.length]?=some n:=by rw[hs]; simp
    obtain⟨b,hmb⟩:∃b,m[A.length]?=some b:=⟨_,ai aH⟩;cases b
    ·have hu:=N8 l m A.length n hln hmb;have lb:=fun {k} hx=>VM (l:=l) (Q:=Q) (m:=m.set A.length true) (all:=all) (i:=i) (n:=n) hne aH (k:=k) hx
     simp only[J5,Xn,aI,aP] at lb;simp only[AF,a0,a1,a2,a3,hmb,hm,GB,bO,EW,seval];refine lb (fun S z hS=>?_)
     have i1:=ih _ aH (m.set A.length true) S (i+1) (by simp[hm]) aH aH rfl
     simp only[J5] at i1;simp only[AF,w1,EW,seval];exact i1
    ·have i1:=ih _ aH m all (i+1) hm aH hb rfl;simp only[J5] at i1;simp only[AF,a0,a1,a2,a3,hmb,hm,w1,bO,EW,seval];exact i1
  ·have e1:((i:Int)<(all.length:Int))=False:=oyf;simp only[J5,aI,aP] at hx ⊢;simp only[AF,e1,EW,seval];exact hx m _ _ hm
end
def aqc(l:List Node)(ar:Int)(hl:l.length<=100000)(he:∀n,n∈l->n.bc.length<=64):∃(m:List Bool) (b:Bool),aq bW 139 [ba l,aF ar] []=some (.tuple [gS (m.map ag.bool),.bool b],[])/\m.length=l.length:=by
 have key:∃r:ag×aC,(∃(m:List Bool) (b:Bool),r=(.tuple [gS (m.map ag.bool),.bool b],[])/\m.length=l.length)/\eX (aq bW) I0.results 0 [] I0.body (eF 0 [ba l,aF ar]) []=some r:=by
  have r1:cp l.length 8=True:=qH
  have hrep:List.replicate l.length (ag.agg [ag.bool false]).norm=(List.replicate l.length false).map ag.bool:=by
   rw[gW]; rfl
  have hu:=XG l (List.replicate l.length false) he;have lc:=fun {k Q} hx hr=>VN (l:=l) (Q:=Q) hl he (k:=k) hx hr _ (List.replicate l.length false) [ar] 0 dy dy gh rfl
  simp only[J5,aE,aQ,aw,az,mU] at lc;simp only[I0,AF,r1,hrep,EW,seval];refine lc (fun m z M hm=>?_) (fun m M hm=>?_)
  ·have htk:(m.map ag.bool).take l.length=m.map ag.bool:=bC (by simp[hm])
   simp only[AF,hm,htk,bO,EW,seval];exact⟨_,⟨m,true,rfl,hm⟩,rfl⟩
  ·have htk:(m.map ag.bool).take l.length=m.map ag.bool:=bC (by simp[hm])
   simp only[AF,hm,htk,bO,EW,seval];exact⟨_,⟨m,false,rfl,hm⟩,rfl⟩
 obtain⟨_,⟨m,b,rfl,h1⟩,h3⟩:=key;exact⟨m,b,aB h3,h1⟩
section
variable {s:iL} {a:Int} {Q:ag×aC->Prop}
def BR(c:Nat)(x:ag×List Node):Prop:=(x.1 = .slice .c0 []/\x.2=[]\/x.1=ba x.2)/\x.2.length<=c/\∀n,n∈x.2->Fl n
def BR.amg{c:Nat}{x:ag×List Node}(h:BR c x)(hc:c<=100000){n:Node}(hn:Fl n):∃m,(∀M,aU (aq bW) 177 [x.1.fR,.agg (aL n)] M=some (ba m,M))/\BR (c+1) (ba m,m):=by
 obtain⟨v,l⟩:=x;obtain⟨h1,h2,h3⟩:=h;simp only at h1 h2 h3;obtain⟨m,q,g1,g2⟩:=aqI l n aH
 have hv:v.fR=ba l:=by
  rcases h1 with ⟨rfl,rfl⟩|rfl<;>rfl
 refine⟨m,fun M=>?_,.inr rfl,by simp only; omega,fun y hy=>?_⟩
 ·simp only[hv];exact cO q M
 ·rcases g2 y hy with rfl|hy
  ·exact hn
  ·exact h3 y hy
def BR.mono{c d:Nat}{x:ag×List Node}(h:BR c x)(hd:c<=d):BR d x:=⟨h.1,aY h.2.1 hd,h.2.2⟩
def c138(s:iL)(a:Int)(hs:Rt s.now)(hl:s.since.length=s.now.ae.length)(hp:s.eR.length<=90000)(he:∀p,p∈s.eR->Fl p.node):∃l,aq bW 138 [.agg (bL s),aF a] []=some (ba l,[])/\l.length<=90200/\∀n,n∈l->Fl n:=by
 have key:∃r:ag×aC,(∃l,r=(ba l,[])/\l.length<=90200/\∀n,n∈l->Fl n)/\eX (aq bW) MZ.results 0 [] MZ.body (eF 0 [.agg (bL s),aF a]) []=some r:=by
  have h200:=hs.sz.ae;simp only[MZ,Oe,bL,EW,seval];refine jc (xs:=s.now.ae) aH (fun m (x:ag×List Node)=>BR m x) (fun x i=>[(1,aF a),(2,ct 0),(5,x.1),(6,aF i)]) (fun _=>[cu (bL s)]) _ (fun x hI=>?_) (fun pre n post x e hx cG hw h0 hm hI hi=>?_) (.slice .c0 [],[]) ⟨.inl ⟨rfl,rfl⟩,au _,fun n h=>by cases h⟩
  ·simp only[bL];simp only[Oe,br,EW,seval];refine jc (xs:=s.eR) aH (fun m (x:ag×List Node)=>BR (s.now.ae.length+m) x) (fun x i=>[(1,aF a),(2,ct 0),(5,x.1),(7,aF i)]) (fun _=>[cu (bL s)]) _ (fun x hI=>?_) (fun pre p post x e hx cG hw h0 hm hI hi=>?_) x hI
   ·obtain⟨v,l⟩:=x;obtain⟨h1,h2,h3⟩:=hI;simp only at h2 h3;rcases h1 with ⟨h1,h4⟩|h1<;>simp only at h1
    ·simp only at h4;subst h1; subst h4;simp only[bL];simp only[Oe,br,EW,seval];exact⟨_,⟨[],rfl,dy,h3⟩,rfl⟩
    ·subst h1;simp only[bL];simp only[Oe,br,EW,seval];exact⟨_,⟨l,rfl,aH,h3⟩,rfl⟩
   ·have hpl:=(aj.1 hx).1;obtain⟨m,q,g⟩:=hI.amg aH (he p hm);have i1:=hi x (hI.mono aH);have i2:=hi _ g;obtain⟨v,l⟩:=x;rcases hI.1 with ⟨h3,h4⟩|h3<;>simp only at h3<;>first|(simp only at h4; subst h3; subst h4)|subst h3
    all_goals
     first
      |(change ∀M,aU (aq bW) 177 [gS [],.agg (aL p.node)] M=_ at q)
      |(change ∀M,aU (aq bW) 177 [ba l,.agg (aL p.node)] M=_ at q)
     simp only[bL,aL] at i1 i2 q ⊢;cases h1:decide (p.kv<=a)<;>cases h2:decide (a<p.BK)<;>simp only[Oe,cG,hx,hw,h0,h1,h2,q,lX,mL,aL,EW,seval]<;>first|exact i1|exact i2
  ·have hpl:=(aj.1 hx).1;have hl1:((pre.length:Int)<(s.since.length:Int))=True:=sM;obtain⟨y,hy⟩:∃y,s.since[pre.length]?=some y:=⟨_,ai aH⟩;obtain⟨m,q,g⟩:=hI.amg aH (hs.XV hm);have i1:=hi x (hI.mono aH);have i2:=hi _ g;obtain⟨v,l⟩:=x;rcases hI.1 with ⟨h3,h4⟩|h3<;>simp only at h3<;>first|(simp only at h4; subst h3; subst h4)|subst h3
   all_goals
    first
     |(change ∀M,aU (aq bW) 177 [gS [],.agg (aL n)] M=_ at q)
     |(change ∀M,aU (aq bW) 177 [ba l,.agg (aL n)] M=_ at q)
    simp only[bL,aL] at i1 i2 q ⊢;cases h1:decide (y<=a)<;>simp only[Oe,cG,hx,hw,h0,hl1,hy,h1,q,bK,aL,mU,EW,seval]<;>first|exact i1|exact i2
 obtain⟨_,⟨l,rfl,h1⟩,h3⟩:=key;exact⟨l,aB h3,h1⟩
def c84(s:iL)(id:Int)(hs:Rt s.now)(hl:s.since.length=s.now.ae.length)(hp:s.eR.length<=90000)(he:∀p,p∈s.eR->Fl p.node)(hk:s.dP.length<=16):∃i l e,aq bW 84 [.agg (bL s),aF id] []=some (.tuple [aF i,ba l,aF e],[])/\l.length<=90200/\∀n,n∈l->Fl n:=by
 have key:∃r:ag×aC,(∃i l e,r=(.tuple [aF i,ba l,aF e],[])/\l.length<=90200/\∀n,n∈l->Fl n)/\eX (aq bW) Sw.results 0 [] Sw.body (eF 0 [.agg (bL s),aF id]) []=some r:=by
  simp only[Sw,E84,bL,EW,seval];refine jc (xs:=s.dP) aH (fun _ (_:Unit)=>True) (fun _ i=>[(1,aF id),(2,ct 0),(7,aF i)]) (fun _=>[cu (bL s)]) _ (fun _ _=>?_) (fun pre x post _ e hx cG hw h0 hm _ hi=>?_) () trivial
  ·simp only[bL];simp only[E84,br,EW,seval];exact⟨_,⟨0,[],100,rfl,dy,fun n h=>by cases h⟩,rfl⟩
  ·have hpl:=(aj.1 hx).1;obtain⟨l,q1,g1,g2⟩:=c138 s x.at' hs hl hp he;obtain⟨m,b,q2,g3⟩:=aqc l x.ar aH (fun n hn=>(g2 n hn).1)
   have k1:=cP q1;have k2:=cP q2;have i1:=hi () trivial;have e1:((pre.length:Int)<(s.dP.length:Int))=True:=sM;simp only[bL] at i1 k1 ⊢;cases h1:x.id != id<;>simp only[E84,cG,hx,hw,h0,h1,k1,k2,kS,iB,EW,seval]
   ·refine jc (xs:=l) aH (fun c (S:List Node)=>S.length<=c/\∀n,n∈S->n∈l) (fun S i=>[(2,ct 0),(7,aF pre.length),(8,ba l),(9,gS (m.map ag.bool)),(11,.slice (.own 1) (S.map bK)),(12,aF i)]) (fun S=>[cu (bL s),.tick 6 S.length]) _ (fun S hS=>?_) (fun pre2 n post2 S e2 hx2 hlt2 hw2 h02 hm2 hS hi2=>?_) [] ⟨au _,fun n h=>by cases h⟩
    ·simp only[bL];simp only[E84,br,e1,hx,h0,kS,iB,EW,seval];exact⟨_,⟨_,S,0,rfl,aH,fun n hn=>g2 n (hS.2 n hn)⟩,rfl⟩
    ·have hpl2:=(aj.1 hx2).1;obtain⟨c,hc⟩:∃c,m[pre2.length]?=some c:=⟨_,ai aH⟩;have j1:=hi2 S ⟨aH,hS.2⟩
     have j2:=hi2 (S++[n]) ⟨gh,fun y hy=>by
      rcases bm.1 hy with hy|hy
      ·exact hS.2 y hy
      ·rw[bS.1 hy]; exact hm2⟩
     have r1:cp (S.length+1) 80=True:=qH;simp only[bL,aW,aE,aQ,aA,aw,az,aG,bK,aL] at j1 j2 ⊢;cases c<;>simp only[E84,hlt2,hx2,hw2,h02,hc,r1,bK,aL,EW,seval]<;>first|exact j1|exact j2
   ·exact i1
 obtain⟨_,⟨i,l,e,rfl,h1⟩,h3⟩:=key;exact⟨i,l,e,aB h3,h1⟩
end
section
variable {f:aa} {o:jA} {l:List Node} {names:List Bytes} {Q:ag×aC->Prop}
abbrev pkC(n:Node):List ag:=[.int .i64 n.ar,.int .i64 n.kind,.int .i64 n.eE,cR n.data,ja n.bc,.int .i64 n.up]
abbrev JR(f:aa)(o:jA)(l:List Node)(n:Node):aC:=[.cells (cm f),.cells (eS o),.cells rb,.cells [ba l,.int .i64 0,.int .i64 0],.cells (pkC n)]
def aay{n:Node}(hn:n.bc.length<=64){i:Nat}{w:Bytes}(hw':names[i]?=some w){k:List K}
  (hx:∀(x:Int) z,∃r,Q r/\kr (aq bW) [.dE 4 7] 0 k ⟨.exit 2,(4,ct 2)::(8,cZ names)::(9,ct 3)::(10,ct 4)::(12,aF i)::(13,aF x)::z,JR f o l n⟩=some r) :
  ∃r,Q r/\eX (aq bW) [.dE 4 7] 0 k (.loop [4,8,9,10,12,13,14] agV) [(4,ct 2),(8,cZ names),(9,ct 3),(10,ct 4),(12,aF i),(13,aF 0),(14,aF 0)] (JR f o l n)=some r:=by
 have b1:((i:Int)<0)=False:=dy;refine jc (xs:=n.bc) aH (fun _ _=>True) (fun(x:Int) j=>[(4,ct 2),(8,cZ names),(9,ct 3),(10,ct 4),(12,aF i),(13,aF x),(14,aF j)]) (fun _=>JR f o l n) Q (fun x _=>?_) (fun pre e post x h hx' cG hw h0 hm _ hi=>?_) 0 trivial
 ·simp only[JR,pkC,cm,eS,rb] at hx ⊢;simp only[Kw,br,EW,seval];exact hx x _
 ·have i1:=hi x trivial;have i2:=hi e.ar trivial;simp only[JR,pkC,cm,eS,rb] at i1 i2 ⊢;cases h1:e.name==w<;>simp only[Kw,cG,hx',hw,h0,hw',b1,h1,iE,gd,EW,seval]<;>first|exact i1|exact i2
def aaz(hl:l.length<=100000)(he:∀n,n∈l->Fl n)(hn:names.length<=12){k:List K}
  (hx:∀(n:Node) z,Fl n->∃r,Q r/\kr (aq bW) [.dE 4 7] 0 k ⟨.exit 0,(4,ct 2)::(8,cZ names)::(9,ct 3)::(10,ct 4)::z,JR f o l n⟩=some r)
  (hr:∀(a:Int) M,∃r,Q r/\kr (aq bW) [.dE 4 7] 0 k ⟨.ret,[(4,ct 2)],cu (cm f) :: cu (eS o) :: cu (dw (hU a))::M⟩=some r) {n:Node} (hno:Fl n) :
  ∃r,Q r/\eX (aq bW) [.dE 4 7] 0 k (.loop [4,8,9,10,12] agW) [(4,ct 2),(8,cZ names),(9,ct 3),(10,ct 4),(12,aF 0)] (JR f o l n)=some r:=by
 have q4:=k42;simp only[dw,hU] at q4 hr;refine jc (xs:=names) aH (fun _ (n:Node)=>Fl n) (fun _ i=>[(4,ct 2),(8,cZ names),(9,ct 3),(10,ct 4),(12,aF i)]) (fun n=>JR f o l n) Q (fun n hno=>?_) (fun pre w post n h hx' cG hw h0 hm hno hi=>?_) n hno
 ·simp only[JR,pkC,cm,eS,rb] at hx ⊢;simp only[Kw,br,EW,seval];exact hx n _ hno
 ·have la:=fun {k} hx=>aay (f:=f) (o:=o) (l:=l) (Q:=Q) hno.1 hx' (k:=k) hx
  simp only[JR,pkC,cm,eS,rb] at la hi hr ⊢;cases h1:n.kind != 2
  ·simp only[Kw,cG,h1,EW,seval];refine la (fun x z=>?_)
   have qg:=fun M=>Bh l 0 0 x hl M
   cases hf:find l x with
   |none =>
    rw[hf] at qg;simp only[iH,dg,bK,aL,Node.zero,aQ] at qg;simp only[Kw,qg,q4,EW,seval];exact hr 70 _
   |some m =>
    rw[hf] at qg;simp only[bA,bX,bK,aL] at qg;have i1:=hi m (he m (iz hf));simp only[Kw,qg,hw,EW,seval];exact i1
  ·simp only[Kw,cG,h1,q4,EW,seval];exact hr 73 _
def aaA{n:Node}(hn:n.bc.length<=64){k:List K}
  (hx:∀(S:List Bytes) z,∃r,Q r/\kr (aq bW) [.dE 4 7] 0 k ⟨.exit 4,(4,ct 2)::(10,ct 4)::(17,.slice (.own 5) (S.map ag.str))::z,JR f o l n++[.tick 1 S.length]⟩=some r) :
  ∃r,Q r/\eX (aq bW) [.dE 4 7] 0 k (.loop [4,10,17,18] agX) [(4,ct 2),(10,ct 4),(17,.slice (.own 5) []),(18,aF 0)] (JR f o l n++[.tick 1 0])=some r:=by
 refine jc (xs:=n.bc) aH (fun m (S:List Bytes)=>S.length<=m) (fun S i=>[(4,ct 2),(10,ct 4),(17,.slice (.own 5) (S.map ag.str)),(18,aF i)]) (fun S=>JR f o l n++[.tick 1 S.length]) Q (fun S hS=>?_) (fun pre e post S h hx' cG hw h0 hm hS hi=>?_) [] (au _)
 ·simp only[JR,pkC,cm,eS,rb,aI,aP] at hx ⊢;simp only[Kw,br,EW,seval];exact hx S _
 ·have hp:=(aj.1 hx').1;have i1:=hi (S++[e.name]) gh;have r1:cp (S.length+1) 16=True:=qH;simp only[JR,pkC,cm,eS,rb,aI,aP,aW,aE,aQ,aA,aw,az,aG] at i1 ⊢;simp only[Kw,cG,hx',hw,h0,r1,iE,gd,EW,seval];exact i1
end
def c46{K:Nat}(f:aa)(o:jA)(hf:FB K f)(hK:K<=89000)(ho:sr o):∃a,aq bW 46 [.agg (cm f),.agg (eS o)] []=some (.agg (dw a),[]):=by
 have key:∃r:ag×aC,(∃a,r=(.agg (dw a),[]))/\eX (aq bW) Lw.results 0 [] Lw.body (eF 0 [.agg (cm f),.agg (eS o)]) []=some r:=by
  obtain⟨i,l,e,qa,h1,h2⟩:=c84 f.s o.n hf.ok.rt hf.ok.len hf.ok.eR hf.ok.Ep hf.ok.dP;have q1:=cP qa;have q2:=fun M=>k85 o.dG (by have:=ho.dG; omega) M
  obtain⟨_,o2⟩:=yg o.dG;generalize pV o.dG=v at q2 o2;have q4:=k42;simp only[bL,dw,hU] at q1 q4;cases h3:e != 0
  case true =>
   simp only[Lw,Kw,cm,eS,q1,q4,h3,EW,seval];exact⟨_,⟨hU e,rfl⟩,rfl⟩
  cases h4:v.2 != 0
  case true =>
   simp only[Lw,Kw,cm,eS,q1,q2,q4,h3,h4,EW,seval];exact⟨_,⟨hU v.2,rfl⟩,rfl⟩
  have qg:=fun M=>Bh l 0 0 i aH M
  have hz:Fl ((find l i).getD Node.zero):=by
   cases hf:find l i with
   |none=>exact⟨by simp[Node.zero],by simp[Node.zero]⟩
   |some m=>exact h2 m (iz hf)
  generalize (find l i).getD Node.zero=n at qg hz;have lb:=fun {k Q} hx hr=>aaz (f:=f) (o:=o) (l:=l) (names:=v.1) (Q:=Q) aH h2 o2 (k:=k) hx hr hz
  simp only[JR,pkC,cm,eS,rb,bK,aL] at lb qg;simp only[Lw,Kw,cm,eS,bK,aL,q1,q2,qg,h3,h4,EW,seval];refine lb (fun n z hn=>?_) (fun a M=>?_)
  ·have lc:=fun {k Q} hx=>aaA (f:=f) (o:=o) (l:=l) (Q:=Q) hn.1 (k:=k) hx
   simp only[JR,pkC,cm,eS,rb,aI,aP] at lc;simp only[Kw,EW,seval];refine lc (fun S z=>?_)
   obtain⟨b,qs⟩:=c75 n;have q5:=cP qs;simp only[bK,aL] at q5;simp only[Kw,q5,EW,seval];exact⟨_,⟨⟨0,n.ar,n.kind,n.eE,b,S,n.data⟩,rfl⟩,rfl⟩
  ·simp only[Kw,dw,EW,seval];exact⟨_,⟨hU a,rfl⟩,rfl⟩
 obtain⟨_,⟨a,rfl⟩,h3⟩:=key;exact⟨a,aB h3⟩
def c28{K:Nat}(f:aa)(o:jA)(hf:FB K f)(hK:K<=89000)(ho:sr o):yu K f 28 [.agg (cm f),.agg (eS o)]:=by
 have q4:=k42;simp only[dw,hU,cZ,cR,aQ] at q4;have back:FB (K+200) f:=hf.mono aH;have bad:aq bW 28 [.agg (cm f),.agg (eS o)] []=some (.tuple [.agg (cm f),.agg (dw (hU 1))],[])->yu K f 28 [.agg (cm f),.agg (eS o)]:=fun h=>⟨f,hU 1,h,back,D3⟩
 cases c1:decide (o.bF<0)
 case true =>
  refine bad (aB ?_);simp only[uC,EZ,cm,eS,dw,hU,cZ,cR,c1,q4,EW,seval]
 cases c2:decide (16<=o.bF)
 case true =>
  refine bad (aB ?_);simp only[uC,EZ,cm,eS,dw,hU,cZ,cR,c1,c2,q4,EW,seval]
 obtain⟨g1,a1,r1,f1⟩:=c43 f o hf hK ho;obtain⟨g2,a2,r2,f2⟩:=c44 f o hf hK ho;obtain⟨g3,a3,r3,f3⟩:=c45 f o hf hK ho;have q1:=cP r1;have q2:=cP r2;have q3:=cP r3;simp only[cm,eS,dw] at q1 q2 q3;have byN:aq bW 28 [.agg (cm f),.agg (eS o)] []=some (.tuple [.agg (cm g1),.agg (dw a1)],[])->yu K f 28 [.agg (cm f),.agg (eS o)]:=fun h=>⟨g1,a1,h,f1⟩
 have byW:aq bW 28 [.agg (cm f),.agg (eS o)] []=some (.tuple [.agg (cm g2),.agg (dw a2)],[])->yu K f 28 [.agg (cm f),.agg (eS o)]:=fun h=>⟨g2,a2,h,f2⟩
 have byH:aq bW 28 [.agg (cm f),.agg (eS o)] []=some (.tuple [.agg (cm g3),.agg (dw a3)],[])->yu K f 28 [.agg (cm f),.agg (eS o)]:=fun h=>⟨g3,a3,h,f3⟩
 cases k2:o.kind==2
 case true =>
  refine byN (aB ?_);simp only[uC,EZ,cm,eS,dw,hU,cZ,cR,c1,c2,k2,q1,EW,seval]
 cases k3:o.kind==3
 case true =>
  refine byN (aB ?_);simp only[uC,EZ,cm,eS,dw,hU,cZ,cR,c1,c2,k2,k3,q1,EW,seval]
 cases k4:o.kind==4
 case true =>
  refine byN (aB ?_);simp only[uC,EZ,cm,eS,dw,hU,cZ,cR,c1,c2,k2,k3,k4,q1,EW,seval]
 cases k5:o.kind==5
 case true =>
  refine byN (aB ?_);simp only[uC,EZ,cm,eS,dw,hU,cZ,cR,c1,c2,k2,k3,k4,k5,q1,EW,seval]
 cases k1:o.kind==1
 case true =>
  refine byW (aB ?_);simp only[uC,EZ,cm,eS,dw,hU,cZ,cR,c1,c2,k2,k3,k4,k5,k1,q2,EW,seval]
 cases k6:o.kind==6
 case true =>
  refine byW (aB ?_);simp only[uC,EZ,cm,eS,dw,hU,cZ,cR,c1,c2,k2,k3,k4,k5,k1,k6,q2,EW,seval]
 cases k7:o.kind==7
 case true =>
  refine byW (aB ?_);simp only[uC,EZ,cm,eS,dw,hU,cZ,cR,c1,c2,k2,k3,k4,k5,k1,k6,k7,q2,EW,seval]
 cases k8:o.kind==8
 case true =>
  refine byW (aB ?_);simp only[uC,EZ,cm,eS,dw,hU,cZ,cR,c1,c2,k2,k3,k4,k5,k1,k6,k7,k8,q2,EW,seval]
 cases k13:o.kind==13
 case true =>
  refine byW (aB ?_);simp only[uC,EZ,cm,eS,dw,hU,cZ,cR,c1,c2,k2,k3,k4,k5,k1,k6,k7,k8,k13,q2,EW,seval]
 cases k14:o.kind==14
 case true =>
  refine byW (aB ?_);simp only[uC,EZ,cm,eS,dw,hU,cZ,cR,c1,c2,k2,k3,k4,k5,k1,k6,k7,k8,k13,k14,q2,EW,seval]
 cases k9:o.kind==9
 case true =>
  refine byH (aB ?_);simp only[uC,EZ,cm,eS,dw,hU,cZ,cR,c1,c2,k2,k3,k4,k5,k1,k6,k7,k8,k13,k14,k9,q3,EW,seval]
 cases k10:o.kind==10
 case true =>
  refine byH (aB ?_);simp only[uC,EZ,cm,eS,dw,hU,cZ,cR,c1,c2,k2,k3,k4,k5,k1,k6,k7,k8,k13,k14,k9,k10,q3,EW,seval]
 cases k11:o.kind==11
 case true =>
  refine byH (aB ?_);simp only[uC,EZ,cm,eS,dw,hU,cZ,cR,c1,c2,k2,k3,k4,k5,k1,k6,k7,k8,k13,k14,k9,k10,k11,q3,EW,seval]
 cases k12:o.kind==12
 case true =>
  refine byH (aB ?_);simp only[uC,EZ,cm,eS,dw,hU,cZ,cR,c1,c2,k2,k3,k4,k5,k1,k6,k7,k8,k13,k14,k9,k10,k11,k12,q3,EW,seval]
 cases S2:o.kind==15
 case true =>
  obtain⟨a,r5⟩:=c46 f o hf hK ho;have q5:=cP r5;simp only[cm,eS,dw] at q5;refine⟨f,a,aB ?_,back,D3⟩;simp only[uC,EZ,cm,eS,dw,hU,cZ,cR,c1,c2,k2,k3,k4,k5,k1,k6,k7,k8,k13,k14,k9,k10,k11,k12,S2,q5,EW,seval]
 cases k16:o.kind==16
 case true =>
  obtain⟨e,r5⟩:=c47 f.s o.n hf.ok.dP hf.ok.eR;have q5:=cP r5;simp only[bL] at q5;cases h1:e != 0
  ·obtain⟨t1,t2⟩:=hf.adU (u:=(rq f.s o.n).1) (by unfold rq; split<;>rfl) (by unfold rq; split<;>rfl) (fun p hp=>by
    unfold rq at hp;split at hp
    ·exact hp
    ·exact(ei.1 hp).1) (by unfold rq; split<;>first|exact au _|exact bT _ _) (by
    have:=hf.ok.dP;unfold rq; split<;>first|exact this|exact aY (bT _ _) this)
   refine⟨⟨(rq f.s o.n).1,f.holds,f.dR⟩,hU 0,aB ?_,t1,t2,.inr (.inr (.inr ⟨_,trivial,rfl⟩))⟩;simp only[uC,EZ,cm,eS,dw,hU,cZ,cR,c1,c2,k2,k3,k4,k5,k1,k6,k7,k8,k13,k14,k9,k10,k11,k12,S2,k16,q5,h1,EW,seval]
  ·refine⟨f,hU e,aB ?_,back,D3⟩;simp only[uC,EZ,cm,eS,dw,hU,cZ,cR,c1,c2,k2,k3,k4,k5,k1,k6,k7,k8,k13,k14,k9,k10,k11,k12,S2,k16,q4,q5,h1,EW,seval]
 cases k17:o.kind==17
 case true =>
  obtain⟨u,l,r5,g⟩:=c48 f.s.now f.holds o.bF hf.ok.rt hf.ok.holds hf.ok.dJ;have r6:=c49 f.s u hf.ok.rt g.rt hf.ok.len hf.ok.dP hf.ok.eR;have q5:=cP r5;have q6:=cP r6;simp only[bq,aM,bL] at q5 q6;refine⟨⟨qt f.s u,l,f.dR⟩,hU 0,aB ?_,hf.put hK g.rt g.mo g.len hf.ok.dR hf.ok.sI,fun h=>HA g.mem (g.orp h.orp) (fun q hq=>g.dir _ (h.quo q hq)) (g.one _ h.one) (fun q hq=>by rw[g.use]; exact h.over q hq) h,.inr (.inl ⟨u,g.rt,rfl⟩)⟩
  simp only[uC,EZ,cm,eS,dw,hU,cZ,cR,c1,c2,k2,k3,k4,k5,k1,k6,k7,k8,k13,k14,k9,k10,k11,k12,S2,k16,k17,q5,q6,EW,seval]
 refine bad (aB ?_);simp only[uC,EZ,cm,eS,dw,hU,cZ,cR,c1,c2,k2,k3,k4,k5,k1,k6,k7,k8,k13,k14,k9,k10,k11,k12,S2,k16,k17,q4,EW,seval]
def k28{K:Nat}(f:aa)(o:jA)(hf:FB K f)(hK:K<=89000)(ho:sr o):∃g a,(∀M,aU (aq bW) 28 [.agg (cm f),.agg (eS o)] M=some (.tuple [.agg (cm g),.agg (dw a)],M))/\FB (K+200) g/\Kp f g:=by
 obtain⟨g,a,h,hg⟩:=c28 f o hf hK ho;exact⟨g,a,fun M=>cO h M,hg⟩
def amf(a b:Int):(a != b) = !decide (a=b):=by rw[cE]; simp
def c57(a b:List Int)(ha:a.length<=100000):aq bW 57 [tX a,tX b] []=some (.bool (decide (a=b)),[]) :=
 DI (sz:=1) (e:=mU) (ld := .rD) (ne := .bin .neq) fz rfl ha (fun _=>rfl) (fun _=>rfl) (fun _=>rfl) (fun _ _ _ _ h=>by simp only[ef,fV.ev,h,mU,ag.cells,nth,bN]) (fun _ _ _ _ _ _ h h'=>by simp only[ef,fV.ev,h,h',mU,pY,amf,ne_eq,ng,aD,bN])
def k57 a b ha:=cP (c57 a b ha)
def afb(x y:mT):kZ [.i,.i,.i] (iB x) (iB y)=some (decide (x=y)):=by
 cases x; cases y;simp only[iB,YL,fY];rw[cE];simp
def c59(a b:List mT)(ha:a.length<=100000):aq bW 59 [ki a,ki b] []=some (.bool (decide (a=b)),[]) :=
 DI (sz:=3) (e:=kS) (ld := .mN 3) (ne := .QG [.i,.i,.i] true) fz rfl ha (fun _=>rfl) (fun _=>rfl) (fun _=>rfl) (fun _ _ _ _ h=>by simp only[ef,fV.ev,h]; rfl) (fun _ _ _ _ _ _ h h'=>by simp only[ef,fV.ev,h,h',kS,afb,bN])
def k59 a b ha:=cP (c59 a b ha)
def afa(x y:fD):kZ [.i,.i,.i] (jb x) (jb y)=some (decide (x=y)):=by
 cases x; cases y;simp only[jb,YL,fY];rw[cE];simp
def c60(a b:List fD)(ha:a.length<=100000):aq bW 60 [fI a,fI b] []=some (.bool (decide (a=b)),[]) :=
 DI (sz:=3) (e:=ib) (ld := .mN 3) (ne := .QG [.i,.i,.i] true) fz rfl ha (fun _=>rfl) (fun _=>rfl) (fun _=>rfl) (fun _ _ _ _ h=>by simp only[ef,fV.ev,h]; rfl) (fun _ _ _ _ _ _ h h'=>by simp only[ef,fV.ev,h,h',ib,afa,bN])
def k60 a b ha:=cP (c60 a b ha)
def YM(x y:dN):kZ [.i,.i,.i] (iT x) (iT y)=some (decide (x=y)):=by
 cases x; cases y;simp only[iT,YL,fY];rw[cE];simp
def c61(a b:List dN)(ha:a.length<=100000):aq bW 61 [cK a,cK b] []=some (.bool (decide (a=b)),[]) :=
 DI (sz:=3) (e:=gx) (ld := .mN 3) (ne := .QG [.i,.i,.i] true) fz rfl ha (fun _=>rfl) (fun _=>rfl) (fun _=>rfl) (fun _ _ _ _ h=>by simp only[ef,fV.ev,h]; rfl) (fun _ _ _ _ _ _ h h'=>by simp only[ef,fV.ev,h,h',gx,YM,bN])
def k61 a b ha:=cP (c61 a b ha)
def anG(x y:po):decide (x=y)=(x.kv==y.kv&&(x.BK==y.BK&&decide (x.node=y.node))):=by
 cases x; cases y;simp only[po.mk.injEq];rw[cE];simp
def ath(a b:Node)(ha:Fl a)(M:aC):aU (aq bW) 56 [.agg [gS [.agg (aL a)],aF 0,aF 0],.agg [gS [.agg (aL b)],aF 0,aF 0]] M=some (.bool (decide (a=b)),M):=by
 have h:=c56 ⟨[a],0,0⟩ ⟨[b],0,0⟩ ⟨dy,fun n hn=>by rw[bS.1 hn]; have:=ha.1; omega,fun n hn=>by rw[bS.1 hn]; have:=ha.2; omega⟩
 have hd:decide ((⟨[a],0,0⟩:Tree)=⟨[b],0,0⟩)=decide (a=b):=by rw[cE]; simp
 rw[hd] at h;exact cO h M
def c55(x y:po)(hx:Fl x.node):aq bW 55 [.agg (mL x),.agg (mL y)] []=some (.bool (decide (x=y)),[]):=by
 rw[anG];refine aB ?_;have q:=fun M=>ath x.node y.node hx M
 simp only[aL] at q;simp only[alM,E55,lX,mL,aL,EW,seval]
 repeat' ((first|apply bB|apply bU|apply dI)<;>intro hb<;>simp only[hb,EW,E55,q,seval])
 all_goals simp_all only[qv,↓reduceIte,reduceCtorEq,av]
def k55 x y hx:=cP (c55 x y hx)
def c58(a b:List po)(ha:a.length<=100000)(he:∀n,n∈a->Fl n.node):aq bW 58 [r8 a,r8 b,.func 55 []] []=some (.bool (decide (a=b)),[]) :=
 adF (sz:=8) (e:=mL) (z:=[aF 0,aF 0,aF 0,aF 0,aF 0,.slice .c0 [],.slice .c0 [],aF 0]) fz rfl ha (fun _=>rfl) rfl (fun _=>rfl) (fun _=>rfl) fun x y M h=>k55 x y (he x h) M
def k58 a b ha he:=cP (c58 a b ha he)
def fsB(x y:aa):decide (x=y)=(decide (x.s.now=y.s.now)&&(x.s.tick==y.s.tick&&(x.s.next==y.s.next&&(decide (x.s.since=y.s.since)&&(decide (x.s.eR=y.s.eR)&&(decide (x.s.dP=y.s.dP)&&(decide (x.holds=y.holds)&&decide (x.dR=y.dR)))))))):=by
 obtain⟨⟨a,b,c,d,e,f⟩,g,h⟩:=x;obtain⟨⟨a',b',c',d',e',f'⟩,g',h'⟩:=y;simp only[aa.mk.injEq,iL.mk.injEq];rw[cE];simp only[bh,bw,eG];constructor
 ·rintro⟨⟨h1,h2,h3,h4,h5,h6⟩,h7,h8⟩; exact⟨h1,h2,h6,h3,h4,h5,h7,h8⟩
 ·rintro⟨h1,h2,h6,h3,h4,h5,h7,h8⟩; exact⟨⟨h1,h2,h3,h4,h5,h6⟩,h7,h8⟩
def c34(x y:aa)(hx:vg x):aq bW 34 [.agg (cm x),.agg (cm y)] []=some (.bool (decide (x=y)),[]):=by
 rw[fsB];refine aB ?_;have hn:=hx.rt.sz.ae;have q1:=fun M=>k56 x.s.now y.s.now hx.rt.small M
 have q2:=fun M=>k57 x.s.since y.s.since (by have:=hx.len; omega) M
 have q3:=fun M=>k58 x.s.eR y.s.eR (by have:=hx.eR; omega) (fun n hn=>hx.Ep n hn) M
 have q4:=fun M=>k59 x.s.dP y.s.dP (by have:=hx.dP; omega) M
 have q5:=fun M=>k60 x.holds y.holds (by have:=hx.dJ; omega) M
 have q6:=fun M=>k61 x.dR y.dR (by have:=hx.sI; omega) M
 simp only[alC,E34,cm,q1,q2,q3,q4,q5,q6,EW,seval]
 repeat' ((first|apply bB|apply bU|apply dI)<;>intro hb<;>simp only[hb,EW,E34,q2,q3,q4,q5,q6,seval])
 all_goals simp_all only[qv,↓reduceIte,reduceCtorEq,av]
def c40(t:Tree)(ht:t.ae.length<=100000):aq bW 40 [bq t] []=some (.agg (bL ⟨t,0,List.replicate t.ae.length 0,[],[],1⟩),[]):=by
 refine aB ?_;have r1:cp t.ae.length 8=True:=qH;have hrep:List.replicate t.ae.length (ag.agg [aF 0]).norm=(List.replicate t.ae.length (0:Int)).map mU:=by rw[gW]; rfl
 simp only[alG,E40,bq,aM,r1,hrep,EW,seval];rfl
def c27:aq bW 27 [] []=some (.agg (cm f0),[]):=by
 have q1:=k41;have q2:∀M,aU (aq bW) 40 [.agg (aM wK)] M=some (.agg (bL f0.s),M):=fun M=>cO (c40 wK mi) M
 simp only[bq,aM,bL] at q1 q2;refine aB ?_;simp only[alw,E27,q1,q2,EW,seval];rfl
inductive Chn:Nat->aa->Prop
 |new:Chn 0 f0
 |step {K:Nat} {f g:aa}:Chn K f->FB K f->Stp (fun _=>True) f.s g.s->Chn (K+200) g
def c13(xs:List jA)(hn:xs.length<=50)(ho:∀o,o∈xs->sr o):∃f,aq bW 13 [IG xs] []=some (.agg (cm f),[])/\FB 10000 f/\Ou f/\∃K,K<=10000/\Chn K f:=by
 have key:∃r:ag×aC,(∃f,r=(.agg (cm f),[])/\FB 10000 f/\Ou f/\∃K,K<=10000/\Chn K f)/\eX (aq bW) YX.results 0 [] YX.body (eF 0 [IG xs]) []=some r:=by
  have q1:=cP c27;simp only[cm] at q1;simp only[YX,E13,q1,EVO,EW,seval]
  refine jc (xs:=xs) aH (fun m (f:aa)=>FB (200*m) f/\Ou f/\Chn (200*m) f) (fun _ i=>[(0,IG xs),(2,ct 0),(3,ct 1),(4,aF i)]) (fun f=>[.cells rR,cu (cm f)]) _ (fun f hf=>?_) (fun pre o post f e hx cG hw h0 hm hf hi=>?_) f0 ⟨fb0,⟨fun y hy=>(by cases hy),fun n hn ho=>(by revert n; decide),fun y hy=>(by cases hy),fun d1 e1 d2 e2 x h1 h2=>(by
   have key:∀d,d∈f0.s.now.ae->d.bc=[]:=mi;rw[key d1 h1] at h2; cases h2),fun y hy=>(by cases hy),fun y hy=>(by cases hy)⟩,.new⟩
  ·simp only[cm,rR];simp only[E13,br,EVO,EW,seval];exact⟨_,⟨f,rfl,hf.1.mono aH,hf.2.1,_,aH,hf.2.2⟩,rfl⟩
  ·have hp:=(aj.1 hx).1;obtain⟨g,a,q2,hg,hh⟩:=k28 f o hf.1 aH (ho o hm);have i1:=hi g ⟨by rw[Nat.mul_add]; exact hg,hh.1 hf.2.1,by rw[Nat.mul_add]; exact .step hf.2.2 hf.1 hh.2⟩
   simp only[cm,eS,dw,rR] at q2 i1 ⊢;simp only[E13,cG,hx,hw,h0,q2,eS,EVO,EW,seval];exact i1
 obtain⟨_,⟨f,rfl,h1⟩,h3⟩:=key;exact⟨f,aB h3,h1⟩
end
end Go.Proofs.YteoamaffclmdbaaGreatDoor
namespace Hs
section
open Go
variable {S O A:Type} (step:S->O->S×A)
structure Call(O A:Type) where
 b:Nat
 e:Option Nat
 op:O
 ku:A
def Yg(cs:List (Call O A))(done:List Nat)(i:Nat):Prop :=
 i∉done/\∀k c d,cs[k]?=some c->cs[i]?=some d->(∃e,c.e=some e/\e<d.b)->k∈done
inductive ou(cs:List (Call O A)):S->List Nat->List Nat->Prop
 |nil {s done}:(∀k c,cs[k]?=some c->c.e≠none->k∈done)->ou cs s done []
 |cons {s done i c ord}:cs[i]?=some c->Yg cs done i->(c.e≠none->(step s c.op).2=c.ku)->ou cs (step s c.op).1 (done++[i]) ord->ou cs s done (i::ord)
def Fits(cs:List (Call O A))(s:S):Prop:=∃ord,ou step cs s [] ord
theorem ou.more{cs:List (Call O A)}{c:Call O A}(hc:c.e=none):∀ {s done ord},ou step cs s done ord->ou step (cs++[c]) s done ord:=by
 have ui:∀(k:Nat)(x:Call O A),(cs++[c])[k]?=some x->x.e≠none->cs[k]?=some x:=by
  grind
 intro s done ord h;induction h with
 |nil h1=>exact .nil fun k x hx he=>h1 k x (ui k x hx he) he
 | @cons s done i d ord h1 h2 h3 _ ih =>
  have hi  := (aj.1 h1).1;have h1':(cs++[c])[i]?=some d:=by rw[aO hi]; omega
  refine .cons h1' ⟨h2.1,fun k x y hx hy he=>?_⟩ h3 ih
  obtain⟨e,e1,e2⟩:=he;rw[h1'] at hy; cases hy;exact h2.2 k x d (ui k x hx (by rw[e1]; simp)) h1 ⟨e,e1,e2⟩
def K6(n:Nat)(c:Call O A):Call O A:=⟨c.b,c.e.filter fun e=>decide (e<n),c.op,c.ku⟩
def zJ(n:Nat)(cs:List (Call O A)):List (Call O A):=(cs.takeWhile fun c=>decide (c.b<n)).map (K6 n)
theorem Wa{α:Type}{p:α->Bool}{c:α}:∀ {l:List α},c∈l.takeWhile p->p c=true
 | [],h=>by simp_all
 |x::l,h=>by
  rw[gN] at h;split at h
  ·rcases bI.1 h with rfl|h
   ·omega
   ·exact Wa h
  grind
def Dr{n:Nat}{cs:List (Call O A)}{k:Nat}{x:Call O A}(h:(zJ n cs)[k]?=some x):∃c,cs[k]?=some c/\c.b<n/\x=K6 n c:=by
 unfold zJ at h;rw[aX] at h;obtain⟨c,h1,rfl⟩:=aV.1 h;have hm:=aK h1;have hp:=Wa hm;refine⟨c,?_,jK,rfl⟩;have hpre:(cs.takeWhile fun c=>decide (c.b<n)) <+: cs:=List.takeWhile_prefix _
 obtain⟨r,hr⟩:=hpre;rw[<-hr,aO (aj.1 h1).1];omega
theorem Ra{n:Nat}{cs:List (Call O A)}(ha:cs.Pairwise fun a b=>a.b<b.b){k:Nat}{c:Call O A}(h:cs[k]?=some c)(hb:c.b<n):(zJ n cs)[k]?=some (K6 n c):=by
 unfold zJ;rw[aX]
 have key:∀(l:List _)(k:Nat),l.Pairwise (fun a b=>a.b<b.b)->l[k]?=some c->(l.takeWhile fun c=>decide (c.b<n))[k]?=some c:=by
  intro l;induction l<;>grind [List.pairwise_cons,List.takeWhile_cons_of_pos]
 rw[key _ k ha h]; rfl
def MM{n:Nat}{c:Call O A}{e:Nat}(h:(K6 n c).e=some e):c.e=some e/\e<n:=by
 simp_all [K6]
theorem ou.cut{cs:List (Call O A)}(ha:cs.Pairwise fun a b=>a.b<b.b)(n:Nat):∀ {s done ord},ou step cs s done ord->∃ord',ou step (zJ n cs) s done ord':=by
 intro s done ord h;induction h with
 |nil h1 =>
  refine⟨[],.nil fun k x hx he=>?_⟩
  obtain⟨c,c1,_,rfl⟩:=Dr hx;obtain⟨e,he⟩:=jw.1 he;exact h1 k c c1 (by rw[(MM he).1]; simp)
 | @cons s done i d ord h1 h2 h3 _ ih =>
  by_cases hb:d.b<n
  ·obtain⟨ord',ho⟩:=ih;have h1':=Ra ha h1 hb;refine⟨i::ord',.cons h1' ⟨h2.1,fun k x y hx hy he=>?_⟩ (fun he=>?_) ho⟩
   ·obtain⟨e,e1,e2⟩:=he;obtain⟨c,c1,_,rfl⟩:=Dr hx;rw[h1'] at hy; cases hy;exact h2.2 k c d c1 h1 ⟨e,(MM e1).1,e2⟩
   ·obtain⟨e,he⟩:=jw.1 he;exact h3 (by rw[(MM he).1]; simp)
  ·refine⟨[],.nil fun k x hx he=>?_⟩
   obtain⟨c,c1,_,rfl⟩:=Dr hx;obtain⟨e,he⟩:=jw.1 he;obtain⟨e1,e2⟩:=MM he;exact h2.2 k c d c1 h1 ⟨e,e1,aH⟩
theorem ou.wider{cs ds:List (Call O A)}(hl:cs.length=ds.length)(hs:∀(k:Nat)(c d:Call O A),cs[k]?=some c->ds[k]?=some d->d.op=c.op/\(c.e≠none->d.ku=c.ku)/\(d.e=none↔c.e=none))
  (hw:∀(i k:Nat)(ci di:Call O A)(ck dk:Call O A),cs[i]?=some ci->ds[i]?=some di->cs[k]?=some ck->ds[k]?=some dk->(∃e,dk.e=some e/\e<di.b)->∃e,ck.e=some e/\e<ci.b) :
  ∀ {s done ord},ou step cs s done ord->ou step ds s done ord:=by
 have bk:∀(k:Nat)(d:Call O A),ds[k]?=some d->∃c,cs[k]?=some c:=fun k d h=>by
  have:=(aj.1 h).1;exact⟨_,ai aH⟩
 intro s done ord h;induction h with
 |nil h1 =>
  refine .nil fun k d hd he=>?_
  grind
 | @cons s done i c ord h1 h2 h3 _ ih =>
  obtain⟨d,hd⟩:∃d,ds[i]?=some d:=⟨_,ai (by have:=(aj.1 h1).1; omega)⟩
  obtain⟨s1,s2,s3⟩:=hs i c d h1 hd;rw[<-s1] at ih h3;refine .cons hd ⟨h2.1,fun k x y hx hy he=>?_⟩ (fun he=>by have hc:=fun h=>he (s3.2 h); rw[s2 hc]; exact h3 hc) ih
  rw[hd] at hy; cases hy;obtain⟨ck,hck⟩:=bk k x hx;exact h2.2 k _ c hck h1 (hw i k c d ck x h1 hd hck hx he)
end
section
open Go
variable {S O A:Type} (step:S->O->S×A)
inductive vh(cs:List (Call O A)):S->List Nat->List Nat->S->Prop
 |nil {s done}:vh cs s done [] s
 |cons {s s' done i c ord}:cs[i]?=some c->Yg cs done i->(step s c.op).2=c.ku->vh cs (step s c.op).1 (done++[i]) ord s'->vh cs s done (i::ord) s'
variable {step}
def vh.snoc{cs:List (Call O A)}:∀ {s done ord s'},vh step cs s done ord s'->∀ {i:Nat} {c:Call O A},cs[i]?=some c->Yg cs (done++ord) i->(step s' c.op).2=c.ku->vh step cs s done (ord++[i]) (step s' c.op).1:=by
 intro s done ord s' h;induction h with
 |nil=>intro i c h1 h2 h3; rw[cX] at h2; exact .cons h1 h2 h3 .nil
 |cons a1 a2 a3 _ ih =>
  intro i c h1 h2 h3;exact .cons a1 a2 a3 (ih h1 (by rwa[bZ]) h3)
def vh.to{cs ds:List (Call O A)}:∀ {s done ord s'},vh step cs s done ord s' ->
  (∀i,i∈ord->∀c,cs[i]?=some c->∃d,ds[i]?=some d/\d.op=c.op/\d.ku=c.ku/\∀(k:Nat)(dk:Call O A),ds[k]?=some dk->(∃e,dk.e=some e/\e<d.b)->∃ck,cs[k]?=some ck/\∃e,ck.e=some e/\e<c.b) ->
  vh step ds s done ord s':=by
 intro s done ord s' h;induction h with
 |nil=>exact fun _ => .nil
 | @cons s s' done i c ord a1 a2 a3 _ ih =>
  intro hx;obtain⟨d,d1,d2,d3,d4⟩:=hx i bD c a1;have ih:=ih fun j hj=>hx j (bt _ hj)
  rw[<-d2] at ih a3;refine .cons d1 ⟨a2.1,fun k x y hkx hky he=>?_⟩ (by rw[d3]; omega) ih
  rw[d1] at hky; cases hky;obtain⟨ck,c1,c2⟩:=d4 k x hkx he;exact a2.2 k _ c c1 a1 c2
def vh.runs{cs:List (Call O A)}:∀ {s done ord s'},vh step cs s done ord s'->(∀k c,cs[k]?=some c->c.e≠none->k∈done++ord)->ou step cs s done ord:=by
 intro s done ord s' h;induction h with
 |nil=>exact fun hx => .nil fun k c hk he=>jK
 |cons a1 a2 a3 _ ih=>exact fun hx => .cons a1 a2 (fun _=>a3) (ih fun k c hk he=>jK)
structure yM(step:S->O->S×A)(s0:S)(cs:List (Call O A))(ord:List Nat)(s:S)(n:Nat):Prop where
 chain:vh step cs s0 [] ord s
 mo:cs.Pairwise fun a b=>a.b<b.b
 bn:∀c,c∈cs->c.b<n
 en:∀c,c∈cs->∀e,c.e=some e->e<n
 dn:∀(k:Nat)(c:Call O A),cs[k]?=some c->c.e≠none->k∈ord
 lt:∀k,k∈ord->k<cs.length
def yM.new(s0:S):yM step s0 [] [] s0 0:=⟨.nil,.nil,dy,dy,dy,dy⟩
def yM.fits{s0 s:S}{cs:List (Call O A)}{ord:List Nat}{n:Nat}(h:yM step s0 cs ord s n):Fits step cs s0:=⟨ord,h.chain.runs fun k c hk he=>by simpa using h.dn k c hk he⟩
theorem yM.begin{s0 s:S}{cs:List (Call O A)}{ord:List Nat}{n:Nat}(h:yM step s0 cs ord s n)(o:O)(a:A):yM step s0 (cs++[⟨n,none,o,a⟩]) ord s (n+1):=by
 have ui:∀(k:Nat)(x:Call O A),(cs++[⟨n,none,o,a⟩])[k]?=some x->cs[k]?=some x\/x.e=none:=fun k x hx=>by
  grind
 refine⟨h.chain.to fun i hi c hc=>⟨c,?_,rfl,rfl,fun k dk hk he=>?_⟩,?_,?_,?_,?_,?_⟩
 ·rw[aO (h.lt i hi)]; omega
 ·grind
 ·refine fu.2 ⟨h.mo,pL _ _,fun x hx y hy=>?_⟩
  rw[bS.1 hy]; exact h.bn x hx
 ·intro c hc;rcases bm.1 hc with hc|hc
  ·have:=h.bn c hc; omega
  grind
 ·intro c hc e he;rcases bm.1 hc with hc|hc
  ·have:=h.en c hc e he; omega
  grind
 ·intro k c hk he;rcases ui k c hk with h1|h1
  ·exact h.dn k c h1 he
  grind
 ·intro k hk; have:=h.lt k hk; grind
theorem yM.ae8{s0 s:S}{cs:List (Call O A)}{ord:List Nat}{n:Nat}(h:yM step s0 cs ord s n){i:Nat}{c:Call O A}(hi:cs[i]?=some c)(hno:i∉ord)(he:c.e=none) :
  yM step s0 (cs.set i { c with ku:=(step s c.op).2 }) (ord++[i]) (step s c.op).1 n:=by
 have hil:i<cs.length:=(aj.1 hi).1
 have hat:∀(k:Nat)(x:Call O A),(cs.set i { c with ku:=(step s c.op).2 })[k]?=some x->∃y,cs[k]?=some y/\x.b=y.b/\x.e=y.e:=fun k x hx=>by
  rw[gJ] at hx
  grind
 have hmem:∀x,x∈cs.set i { c with ku:=(step s c.op).2 }->∃y,y∈cs/\x.b=y.b/\x.e=y.e:=fun x hx=>by
  grind
 have hd:(cs.set i { c with ku:=(step s c.op).2 })[i]?=some { c with ku:=(step s c.op).2 }:=by rw[eZ hil]
 have h1:vh step (cs.set i { c with ku:=(step s c.op).2 }) s0 [] ord s:=h.chain.to fun j hj x hx=>by
  have hji:i≠j:=fun e=>hno (e▸hj)
  refine⟨x,by rw[fa hji]; exact hx,rfl,rfl,fun k dk hk he=>?_⟩
  grind
 have h2:=h1.snoc hd ⟨jK,fun k x y hx _ he=>?_⟩ rfl
 ·refine⟨h2,?_,?_,?_,?_,?_⟩
  ·have ha:=h.mo;rw[cd] at ha ⊢
   grind
  ·intro x hx;obtain⟨y,y1,y2,_⟩:=hmem x hx;rw[y2]; exact h.bn y y1
  ·intro x hx e hxe;obtain⟨y,y1,_,y2⟩:=hmem x hx;exact h.en y y1 e (by rw[<-y2]; exact hxe)
  ·intro k x hx hxe;obtain⟨y,y1,_,y2⟩:=hat k x hx;exact ft _ (h.dn k y y1 (by rw[<-y2]; exact hxe))
  ·intro k hk;rw[cY];rcases bm.1 hk with hk|hk
   ·exact h.lt k hk
   grind
 ·obtain⟨e,e1,_⟩:=he;obtain⟨z,z1,_,z2⟩:=hat k x hx;simpa using h.dn k z z1 (by rw[<-z2,e1]; simp)
theorem yM.ends{s0 s:S}{cs:List (Call O A)}{ord:List Nat}{n:Nat}(h:yM step s0 cs ord s n){i:Nat}{c:Call O A}(hi:cs[i]?=some c)(hd:i∈ord) :
  yM step s0 (cs.set i { c with e:=some n }) ord s (n+1):=by
 have hil:i<cs.length:=(aj.1 hi).1
 have hat:∀(k:Nat)(x:Call O A),(cs.set i { c with e:=some n })[k]?=some x->∃y,cs[k]?=some y/\x.b=y.b/\x.op=y.op/\x.ku=y.ku/\(x.e=y.e\/(k=i/\x.e=some n)):=fun k x hx=>by
  rw[gJ] at hx
  grind
 have hmem:∀x,x∈cs.set i { c with e:=some n }->∃y,y∈cs/\x.b=y.b/\(x.e=y.e\/x.e=some n):=fun x hx=>by
  grind
 refine⟨h.chain.to fun j hj x hx=>?_,?_,?_,?_,?_,?_⟩
 ·obtain⟨d,hd1⟩:∃d,(cs.set i { c with e:=some n })[j]?=some d:=⟨_,ai (by rw[cY]; exact h.lt j hj)⟩
  obtain⟨y,y1,y2,y3,y4,_⟩:=hat j d hd1;rw[hx] at y1; cases y1;refine⟨d,hd1,y3,y4,fun k dk hk he=>?_⟩
  obtain⟨z,z1,_,_,_,z5⟩:=hat k dk hk;obtain⟨e,e1,e2⟩:=he;rcases z5 with z5|⟨_,z5⟩
  ·grind
  ·rw[z5] at e1; injection e1 with e1
   have:=h.bn x (aK hx);omega
 ·have ha:=h.mo;rw[cd] at ha ⊢
  grind
 ·intro x hx;obtain⟨y,y1,y2,_⟩:=hmem x hx;have:=h.bn y y1;omega
 ·intro x hx e hxe;obtain⟨y,y1,_,y3⟩:=hmem x hx;rcases y3 with y3|y3
  ·have:=h.en y y1 e (by rw[<-y3]; exact hxe); omega
  grind
 ·intro k x hx hxe;obtain⟨y,y1,_,_,_,y3⟩:=hat k x hx;rcases y3 with y3|⟨rfl,_⟩
  ·exact h.dn k y y1 (by rw[<-y3]; exact hxe)
  ·exact hd
 ·intro k hk; rw[cY]; exact h.lt k hk
end
end Hs
set_option linter.unusedSectionVars false
namespace Hs
open Go
variable {S O A:Type} {step:S->O->S×A}
def Yg.congr{cs:List (Call O A)}{d1 d2:List Nat}(h:∀k,k∈d1↔k∈d2){i:Nat}(g:Yg cs d1 i):Yg cs d2 i:=⟨fun hi=>g.1 ((h i).2 hi),fun k c d hc hd he=>(h k).1 (g.2 k c d hc hd he)⟩
def ou.congr{cs:List (Call O A)}:∀ {s d1 ord},ou step cs s d1 ord->∀ {d2:List Nat},(∀k,k∈d1↔k∈d2)->ou step cs s d2 ord:=by
 intro s d1 ord g;induction g with
 |nil h1=>intro d2 h; exact .nil fun k c hk he=>(h k).1 (h1 k c hk he)
 |cons h1 h2 h3 _ ih=>intro d2 h; exact .cons h1 (h2.congr h) h3 (ih fun k=>jK)
section
variable [DecidableEq S] [DecidableEq A]
def lM(cs:List (Call O A))(k i:Nat):Bool:=match cs[k]?,cs[i]? with
 |some c,some d=>match c.e with
  |some e=>decide (e<d.b)
  |none=>false
 |_,_=>false
def Ea(cs:List (Call O A))(done:List Nat)(i:Nat):Bool := !done.contains i&&(List.range cs.length).all fun k => !lM cs k i||done.contains k
def KE(step:S->O->S×A)(s:S)(c:Call O A):Bool:=c.e.isNone||decide ((step s c.op).2=c.ku)
def BP(cs:List (Call O A))(done:List Nat):Bool:=(List.range cs.length).all fun k=>match cs[k]? with
 |some c=>c.e.isNone||done.contains k
 |none=>true
theorem JC{cs:List (Call O A)}{done:List Nat}{i:Nat}(hi:i<cs.length):Ea cs done i=true↔Yg cs done i:=by
 unfold Ea Yg;simp only[bw,ij,bM,gb,cW];constructor
 ·grind [List.contains_iff_mem,List.getElem?_eq_some_iff,lM]
 ·rintro⟨h1,h2⟩;refine⟨jK,fun k hk=>?_⟩
  cases ha:lM cs k i
  ·exact .inl rfl
  grind [List.contains_iff_mem,List.getElem?_eq_getElem,lM]
theorem ES{cs:List (Call O A)}{done:List Nat}:BP cs done=true↔∀(k:Nat)(c:Call O A),cs[k]?=some c->c.e≠none->k∈done:=by
 unfold BP;simp;constructor
 ·intro h k c hk he;have:=h k (aj.1 hk).1;simp_all
 grind
abbrev uB(S:Type):=List (Nat×S)
def Ja(step:S->O->S×A)(cs:List (Call O A))(T:S->List Nat->uB S->Option (List Nat)×uB S)(s:S)(done:List Nat):List Nat->uB S->Option (List Nat)×uB S
 | [],lost=>(none,lost)
 |i::r,lost=>match cs[i]? with
  |none=>Ja step cs T s done r lost
  |some c=>if Ea cs done i&&KE step s c then
    match T (step s c.op).1 (done++[i]) lost with
    |(some o,l)=>(some (i::o),l)
    |(none,l)=>Ja step cs T s done r l
   else Ja step cs T s done r lost
def wN(step:S->O->S×A)(key:List Nat->Nat)(cs:List (Call O A)):Nat->S->List Nat->uB S->Option (List Nat)×uB S
 |0,_,_,lost=>(none,lost)
 |f+1,s,done,lost =>
  if BP cs done then (some [],lost)
  else if lost.any (fun p=>p.1==key done&&decide (p.2=s))=true then (none,lost)
  else match Ja step cs (wN step key cs f) s done (List.range cs.length) lost with
   |(some o,l)=>(some o,l)
   |(none,l)=>(none,l++[(key done,s)])
def C6(step:S->O->S×A)(key:List Nat->Nat)(cs:List (Call O A))(lost:uB S):Prop:=∀p,p∈lost->∀done,key done=p.1->¬ ∃ord,ou step cs p.2 done ord
def aiL(step:S->O->S×A)(key:List Nat->Nat)(cs:List (Call O A))(s:S)(done:List Nat)(r:Option (List Nat)×uB S):Prop :=
 C6 step key cs r.2/\match r.1 with
  |some ord=>ou step cs s done ord
  |none=>¬ ∃ord,ou step cs s done ord
structure Good(cs:List (Call O A))(done:List Nat):Prop where
 nodup:done.Nodup
 lt:∀k,k∈done->k<cs.length
theorem Good.len{cs:List (Call O A)}{done:List Nat}(h:Good cs done):done.length<=cs.length:=by
 have key:∀(n:Nat)(l:List _),l.Nodup->(∀k,k∈l->k<n)->l.length<=n:=by
  intro n;induction n with
  |zero =>
   intro l _ hl;cases l with
   |nil=>simp
   |cons a r=>exact absurd (hl a bD) (jJ _)
  |succ n ih =>
   intro l hd hl
   have:=ih _ (hd.erase n) fun k hk=>by
    grind
   rw[List.length_erase] at this;split at this<;>omega
 exact key _ _ h.nodup h.lt
def H9{s:S}{c:Call O A}:KE step s c=true↔(c.e≠none->(step s c.op).2=c.ku):=by
 unfold KE;cases hc:c.e<;>simp
theorem CS{key:List Nat->Nat}{cs:List (Call O A)}{T:S->List Nat->uB S->Option (List Nat)×uB S}{s:S}{done:List Nat}
  (hT:∀i c lost,cs[i]?=some c->i∉done->C6 step key cs lost->aiL step key cs (step s c.op).1 (done++[i]) (T (step s c.op).1 (done++[i]) lost)) :
  ∀(is:List Nat)(lost:uB S),C6 step key cs lost->C6 step key cs (Ja step cs T s done is lost).2/\match (Ja step cs T s done is lost).1 with
   |some ord=>∃i r,ord=i::r/\i∈is/\ou step cs s done ord
   |none=>∀i c r,i∈is->cs[i]?=some c->Yg cs done i->(c.e≠none->(step s c.op).2=c.ku)->¬ou step cs (step s c.op).1 (done++[i]) r
 | [],lost,h=>⟨h,by simp[Ja]⟩
 |i::is,lost,h=>by
  rw[Ja];cases hc:cs[i]? with
  |none =>
   obtain⟨g1,g2⟩:=CS hT is lost h
   grind
  |some c =>
   have hil:i<cs.length:=(aj.1 hc).1;simp only
   by_cases hm:(Ea cs done i&&KE step s c)=true
   ·rw[aZ hm];simp only[bw] at hm;have hm1:=(JC hil).1 hm.1;have hm2:=H9.1 hm.2;obtain⟨t1,t2⟩:=hT i c lost hc hm1.1 h;generalize T (step s c.op).1 (done++[i]) lost=t at t1 t2;obtain⟨o,l⟩:=t;cases o with
    |some o=>exact⟨t1,i,o,rfl,bD,.cons hc hm1 hm2 t2⟩
    |none =>
     simp only at t1 t2 ⊢;obtain⟨g1,g2⟩:=CS hT is l t1;refine⟨g1,?_⟩;split
     ·grind
     grind
   ·rw[aR hm];obtain⟨g1,g2⟩:=CS hT is lost h;refine⟨g1,?_⟩;split
    ·grind
    ·rename_i ho;rw[ho] at g2;intro j d r hj hdj;rcases bI.1 hj with rfl|hj
     ·rw[hc] at hdj; cases hdj;exact fun h1 h2 _=>hm (by rw[(JC hil).2 h1,H9.2 h2]; rfl)
     ·exact g2 j d r hj hdj
theorem Kf{key:List Nat->Nat}(hkey:∀a b,key a=key b->∀k,k∈a↔k∈b){cs:List (Call O A)}:∀(f:Nat)(s:S)(done:List Nat)(lost:uB S),Good cs done->cs.length<done.length+f->C6 step key cs lost->aiL step key cs s done (wN step key cs f s done lost)
 |0,s,done,lost,hg,hf,_=>by have:=hg.len; omega
 |f+1,s,done,lost,hg,hf,hl=>by
  rw[wN];split
  ·rename_i hw;exact⟨hl,.nil (ES.1 hw)⟩
  rename_i hw;split
  ·rename_i ha;obtain⟨p,p1,p2⟩:=km.1 ha;simp only[bw,eG,bh] at p2;refine⟨hl,?_⟩;have:=hl p p1 done p2.1.symm;rw[p2.2] at this;omega
  have hgo:=CS (step:=step) (key:=key) (cs:=cs) (T:=wN step key cs f) (s:=s) (done:=done) (fun i c lost' hc hi hl'=>by
   refine Kf hkey f _ _ lost' ⟨?_,fun k hk=>?_⟩ gh hl'
   ·refine lh.2 ⟨hg.nodup,dy,fun a ha b hb=>?_⟩
    rw[bS.1 hb]
    grind
   ·rcases bm.1 hk with hk|hk
    ·exact hg.lt k hk
    grind) (List.range cs.length) lost hl
  obtain⟨g1,g2⟩:=hgo;generalize Ja step cs (wN step key cs f) s done (List.range cs.length) lost=r at g1 g2;obtain⟨o,l⟩:=r;cases o with
  |some o =>
   obtain⟨i,r,e1,e2,e3⟩:=g2;exact⟨g1,e3⟩
  |none =>
   simp only at g1 g2 ⊢
   have hno:¬ ∃ord,ou step cs s done ord:=by
    rintro⟨ord,ho⟩;cases ho<;>grind [ES]
   refine⟨fun p hp d hd=>?_,hno⟩
   rcases bm.1 hp with hp|hp
   ·exact g1 p hp d hd
   ·rw[bS.1 hp] at hd ⊢;rintro⟨ord,ho⟩;exact hno ⟨ord,ho.congr (hkey _ _ hd)⟩
end
end Hs
set_option linter.unusedSectionVars false
namespace Hs
open Go
variable {S O A:Type} {step:S->O->S×A}
theorem ou.new{cs:List (Call O A)}:∀ {s done ord},ou step cs s done ord->∀i,i∈ord->i∉done:=by
 intro s done ord h;induction h with
 |nil=>simp
 |cons h1 h2 _ _ ih =>
  intro j hj;rcases bI.1 hj with rfl|hj
  ·exact h2.1
  grind
def ou.nodup{cs:List (Call O A)}:∀ {s done ord},ou step cs s done ord->ord.Nodup:=by
 intro s done ord h;induction h with
 |nil=>simp
 |cons _ _ _ h4 ih=>exact oH.2 ⟨fun hi=>h4.new _ hi dy,ih⟩
theorem ou.lt{cs:List (Call O A)}:∀ {s done ord},ou step cs s done ord->∀i,i∈ord->i<cs.length:=by
 intro s done ord h;induction h<;>grind
theorem ou.back{cs:List (Call O A)}:∀ {s done ord},ou step cs s done ord->∀pre i post,ord=pre++i::post->∀k,k∈pre->∀ci ck,cs[i]?=some ci->cs[k]?=some ck->¬ ∃e,ci.e=some e/\e<ck.b:=by
 intro s done ord h;induction h with
 |nil=>simp
 | @cons s done j c ord h1 h2 h3 h4 ih =>
  intro pre i post e k hk ci ck hi hck he;cases pre with
  |nil=>cases hk
  |cons p pre =>
   simp only[aI] at e;obtain⟨rfl,rfl⟩:=e;rcases bI.1 hk with rfl|hk
   ·have:=h2.2 i ci ck hi hck he;exact h4.new i dy (ft _ this)
   grind
theorem ou.all{cs:List (Call O A)}:∀ {s done ord},ou step cs s done ord->∀(k:Nat)(c:Call O A),cs[k]?=some c->c.e≠none->k∈done\/k∈ord:=by
 intro s done ord h;induction h<;>grind
end Hs
set_option linter.unusedSectionVars false
namespace Hs
open Go
variable {S O A:Type} {step:S->O->S×A}
structure Ev(O A:Type) where
 begin:Bool
 cl:Nat
 op:O
 ku:A
structure Cl(O A:Type) where
 n:Nat
 cs:List (Call O A)
 last:Nat->Nat
def iA(t:Cl O A)(x:Ev O A):Cl O A :=
 if x.begin then ⟨t.n+1,t.cs++[⟨t.n,none,x.op,x.ku⟩],fun c=>if c=x.cl then t.cs.length else t.last c⟩
 else ⟨t.n+1,t.cs.modify (t.last x.cl) fun c=>{ c with e:=some t.n,ku:=x.ku },t.last⟩
def dz(l:List (Ev O A)):Cl O A:=l.foldl iA ⟨0,[],fun _=>0⟩
def iu(l:List (Ev O A))(x:Ev O A):dz (l++[x])=iA (dz l) x:=by simp[dz]
structure Rn(S O A:Type) where
 out:List (Ev O A)
 s:S
 st:Nat->Nat
 op:Nat->O
 ku:Nat->A
structure Of(cs ds:List (Call O A)):Prop where
 len:ds.length=cs.length
 at':∀(k:Nat)(c d:Call O A),cs[k]?=some c->ds[k]?=some d->d.b=c.b/\d.e=c.e/\d.op=c.op/\(c.e≠none->d.ku=c.ku)
structure tN(step:S->O->S×A)(s0:S)(r:Rn S O A):Prop where
 ex:∃ds ord,yM step s0 ds ord r.s (dz r.out).n/\Of (dz r.out).cs ds /\
  (∀c,r.st c=1->∃d,ds[(dz r.out).last c]?=some d/\d.e=none/\(dz r.out).last c∉ord/\d.op=r.op c) /\
  (∀c,r.st c=2->∃d,ds[(dz r.out).last c]?=some d/\d.e=none/\(dz r.out).last c∈ord/\d.ku=r.ku c)
 dis:∀c c',c≠c'->(r.st c=1\/r.st c=2)->(r.st c'=1\/r.st c'=2)->(dz r.out).last c≠(dz r.out).last c'
def tN.new(s0:S)(op:Nat->O)(ku:Nat->A):tN step s0 ⟨[],s0,fun _=>0,op,ku⟩ :=
 ⟨⟨[],[],yM.new _,⟨rfl,dy⟩,dy,dy⟩,dy⟩
theorem tN.fits{s0:S}{r:Rn S O A}(h:tN step s0 r):Fits step (dz r.out).cs s0:=by
 obtain⟨ds,ord,h1,h2,_⟩:=h.ex;obtain⟨o,ho⟩:=h1.fits;refine⟨o,ou.wider _ h2.len (fun k d c hd hc=>?_) (fun i k ci di ck dk hci hdi hck hdk he=>?_) ho⟩
 ·obtain⟨_,g2,g3,g4⟩:=h2.at' k c d hc hd
  grind
 ·obtain⟨g1,_⟩:=h2.at' i _ ci hdi hci;obtain⟨_,k2,_⟩:=h2.at' k _ ck hdk hck;rw[g1,k2]; omega
theorem tN.begin{s0:S}{r:Rn S O A}(h:tN step s0 r){c:Nat}(_hc:r.st c=0)(o:O)(a:A):tN step s0 ⟨r.out++[⟨true,c,o,a⟩],r.s,fun x=>if x=c then 1 else r.st x,fun x=>if x=c then o else r.op x,r.ku⟩:=by
 obtain⟨ds,ord,h1,h2,h3,h4⟩:=h.ex;have dJ:=h2.len;refine⟨⟨ds++[⟨(dz r.out).n,none,o,a⟩],ord,?_,⟨?_,fun k x y hx hy=>?_⟩,fun x hx=>?_,fun x hx=>?_⟩,fun x y hxy hx hy=>?_⟩
 ·simp only[iu,iA,aJ]; exact h1.begin o a
 ·simp_all [iu,iA]
 ·simp only[iu,iA,aJ] at hx;rcases bz k (dz r.out).cs.length with hk|hk
  ·rw[aO hk] at hx;rw[aO aH] at hy;exact h2.at' k x y hx hy
  grind
 ·simp only[iu,iA,aJ] at hx ⊢
  by_cases hxc:x=c
  ·rw[aZ hxc,aZ hxc];refine⟨⟨(dz r.out).n,none,o,a⟩,by rw[<-dJ]; simp,rfl,fun hm=>?_,rfl⟩
   have:=h1.lt _ hm; omega
  grind
 ·simp only[iu,iA,aJ] at hx ⊢
  grind
 ·simp only[iu,iA,aJ] at hx hy ⊢
  have lt:∀z,z≠c->((if z=c then 1 else r.st z)=1\/(if z=c then 1 else r.st z)=2)->(dz r.out).last z<(dz r.out).cs.length:=fun z hz hzz=>by
   rw[aR hz] at hzz
   grind
  by_cases hxc:x=c
  ·have hyc:y≠c:=fun e=>hxy (hxc.trans e.symm)
   rw[aZ hxc,aR hyc];have:=lt y hyc hy; omega
  ·by_cases hyc:y=c
   ·rw[aR hxc,aZ hyc];have:=lt x hxc hx; omega
   ·rw[aR hxc] at hx;rw[aR hyc] at hy;rw[aR hxc,aR hyc];exact h.dis x y hxy hx hy
theorem tN.ae8{s0:S}{r:Rn S O A}(h:tN step s0 r){c:Nat}(hc:r.st c=1):tN step s0 ⟨r.out,(step r.s (r.op c)).1,fun x=>if x=c then 2 else r.st x,r.op,fun x=>if x=c then (step r.s (r.op c)).2 else r.ku x⟩:=by
 obtain⟨ds,ord,h1,h2,h3,h4⟩:=h.ex;obtain⟨d,d1,d2,d3,d4⟩:=h3 c hc;have g:=h1.ae8 d1 d3 d2;rw[d4] at g;have hil:=(aj.1 d1).1;have hne  := fun x hx hs=>h.dis c x (eW hx) (.inl hc) hs
 refine⟨⟨_,_,g,⟨by rw[cY]; exact h2.len,fun k x y hx hy=>?_⟩,fun x hx=>?_,fun x hx=>?_⟩,fun x y hxy hx hy=>h.dis x y hxy ?_ ?_⟩
 ·rw[gJ] at hy;split at hy
  ·rename_i hk;subst hk;cases hy;obtain⟨e1,e2,e3,e4⟩:=h2.at' _ x d hx d1
   grind
  ·exact h2.at' k x y hx hy
 ·grind
 ·grind
 ·grind
 grind
theorem tN.ends{s0:S}{r:Rn S O A}(h:tN step s0 r){c:Nat}(hc:r.st c=2)(o:O):tN step s0 ⟨r.out++[⟨false,c,o,r.ku c⟩],r.s,fun x=>if x=c then 0 else r.st x,r.op,r.ku⟩:=by
 obtain⟨ds,ord,h1,h2,h3,h4⟩:=h.ex;obtain⟨d,d1,d2,d3,d4⟩:=h4 c hc;have g:=h1.ends d1 d3;have hil:=(aj.1 d1).1;have hne  := fun x hx hs=>h.dis c x (eW hx) (.inr hc) hs
 refine⟨⟨ds.set ((dz r.out).last c) { d with e:=some (dz r.out).n },ord,?_,⟨?_,fun k x y hx hy=>?_⟩,fun x hx=>?_,fun x hx=>?_⟩,fun x y hxy hx hy=>?_⟩
 ·simp_all [iu,iA,af]
 ·simp only[iu,iA,af,aD]; rw[cY,List.length_modify]; exact h2.len
 ·simp only[iu,iA,af,aD] at hx;rw[hZ] at hx;rw[gJ] at hy;obtain⟨z,hz,rfl⟩:=aV.1 hx;split at hy
  ·rename_i hk;subst hk;cases hy;obtain⟨e1,e2,e3,e4⟩:=h2.at' _ z d hz d1;rw[aZ rfl]
   grind
  ·rename_i hk;rw[aR hk];exact h2.at' k z y hz hy
 ·simp only[iu,iA,af,aD] at hx ⊢
  grind
 ·simp only[iu,iA,af,aD] at hx ⊢
  grind
 ·simp only[iu,iA,af,aD] at hx hy ⊢
  by_cases hxc:x=c
  ·rw[aZ hxc] at hx; omega
  by_cases hyc:y=c
  ·rw[aZ hyc] at hy; omega
  rw[aR hxc] at hx;rw[aR hyc] at hy;exact h.dis x y hxy hx hy
end Hs
namespace Go.Proofs.YteoamaffclmdbaaGreatDoor
open Go Go.Abs
structure mV where
 kind:Int
 bF:Int
 op:jA
 ku:vR
 deriving DecidableEq,Inhabited
structure wO where
 bF:UInt8
 op:jA
def pf(e:mV):List ag:=[.int .i64 e.kind,.int .i64 e.bF,.int .i64 e.op.kind,.int .i64 e.op.bF,.str e.op.dG,.str e.op.vd,.int .i64 e.op.n,.int .i64 e.op.m,.int .i64 e.op.handle,cR e.op.data,.int .i64 e.ku.err,.int .i64 e.ku.ar,.int .i64 e.ku.kind,.int .i64 e.ku.n,.int .i64 e.ku.m,cZ e.ku.names,cR e.ku.data]
def uZ(e:mV):ag := .agg (pf e)
abbrev tW(l:List mV):ag := .slice .sh (l.map uZ)
def uJ(t:wO):List ag:=[pt t.bF,.int .i64 t.op.kind,.int .i64 t.op.bF,.str t.op.dG,.str t.op.vd,.int .i64 t.op.n,.int .i64 t.op.m,.int .i64 t.op.handle,cR t.op.data]
def RO(t:wO):ag := .agg (uJ t)
abbrev B3(l:List wO):ag := .slice .sh (l.map RO)
def KU(n:mV):(uZ n).cells=pf n:=rfl
def PG(n:mV):(pf n).length=17:=rfl
def XK(l:List mV):wid (l.map uZ) 17=True:=pk uZ _ (fun _=>rfl) l
def auh(n:mV):List.take 17 (pf n)=pf n:=rfl
def auf(n:mV):List.map ag.shut (pf n)=pf n:=rfl
def KV(n:wO):(RO n).cells=uJ n:=rfl
def PH(n:wO):(uJ n).length=9:=rfl
def XM(l:List wO):wid (l.map RO) 9=True:=pk RO _ (fun _=>rfl) l
def aui(n:wO):List.take 9 (uJ n)=uJ n:=rfl
def aug(n:wO):List.map ag.shut (uJ n)=uJ n:=rfl
set_option linter.defProp false in
def ET:=bQ @KU (bQ @PG (bQ @XK (bQ @auh (bQ @auf (bQ @KV (bQ @PH (bQ @XM (bQ @aui (bQ @aug (bQ @Fy (bQ @Jv (bQ @N9 (bQ @tkO (@shO))))))))))))))
def aiP(x y:vR):decide (x=y)=(x.err==y.err&&(x.ar==y.ar&&(x.kind==y.kind&&(x.n==y.n&&(x.m==y.m&&(decide (x.names=y.names)&&decide (x.data=y.data))))))):=by
 cases x; cases y;rw[cE];simp only[vR.mk.injEq,bh,bw,eG]
section
attribute [local irreducible] eX fM lu gK dX kr aq aU cr bJ
def c62(a b:List Bytes)(ha:a.length<=100000):aq bW 62 [cZ a,cZ b] []=some (.bool (decide (a=b)),[]) :=
 DI (sz:=1) (e:=ag.str) (ld := .rD) (ne := .bin .neq) fz rfl ha (fun _=>rfl) (fun _=>rfl) (fun _=>rfl) (fun _ _ _ _ h=>by simp only[ef,fV.ev,h,ag.cells,nth,bN]) (fun _ _ _ _ x y h h'=>by
  have:(x != y) = !decide (x=y):=by rw[cE]; simp
  simp only[ef,fV.ev,h,h',pY,this,bN])
def c63(a b:Bytes)(ha:a.length<=100000):aq bW 63 [cR a,cR b] []=some (.bool (decide (a=b)),[]) :=
 DI (sz:=1) (e:=pt) (ld := .rD) (ne := .bin .neq) fz rfl ha (fun _=>rfl) (fun _=>rfl) (fun _=>rfl) (fun _ _ _ _ h=>by simp only[ef,fV.ev,h,pt,ag.cells,nth,bN]) (fun _ _ _ _ x y h h'=>by
  have:((x.toNat:Int) != (y.toNat:Int)) = !decide (x=y):=by rw[cE]; simp only[o6,ne_eq,ij,dv,<-kN]; omega
  simp only[ef,fV.ev,h,h',pt,pY,this,ne_eq,ng,aD,bN])
def c35(x y:vR)(hn:x.names.length<=100000)(hd:x.data.length<=100000):aq bW 35 [Lg x,Lg y] []=some (.bool (decide (x=y)),[]):=by
 have q1:=fun M=>cO (c62 x.names y.names hn) M
 have q2:=fun M=>cO (c63 x.data y.data hd) M
 rw[aiP];refine aB ?_;simp only[alD,E35,Lg,dw,EW,seval]
 repeat' ((first|apply bB|apply bU|apply dI)<;>intro hb<;>simp only[hb,EW,E35,q1,q2,seval])
 all_goals simp_all only[qv,↓reduceIte,reduceCtorEq,av]
def k35(x y:vR)(hn:x.names.length<=100000)(hd:x.data.length<=100000)(M:aC):aU (aq bW) 35 [.agg (dw x),.agg (dw y)] M=some (.bool (decide (x=y)),M):=cO (c35 x y hn hd) M
def xa(c:Int):List mV->Nat->Int
 | [],_ => -1
 |x::r,i=>if x.bF==c then (i:Int) else xa c r (i+1)
def zR(l:List jA)(m:List wO):Bool:=DN l||(decide (24<(m.length:Int))||m.any fun t=>xi t.op)
def c10(l:List jA)(m:List wO):aq bW 10 [IG l,B3 m] []=some (.bool (zR l m),[]):=by
 have q1:=fun M=>k25 l M
 unfold zR;refine aB ?_
 cases h1:DN l<;>cases h2:decide (24<(m.length:Int))<;>rw[h1] at q1 <;>
  simp only[ald,E10,q1,h1,h2,dH,cQ,ET,EW,seval]
 have hn:m.length<=24:=by simp at h2; omega
 refine AY (xs:=m) aH (fun l (_:Unit)=>l.any fun t=>xi t.op) (fun _ i=>[(1,B3 m),(5,aF i)]) (fun _=>[]) (fun b=>some (ag.bool b,([]:aC))) (fun _=>?_) (fun pre x post _ h hx cG hw h0 hm hi=>?_) ()
 ·simp only[E10,br,oV,ET,EW,seval]
 ·have q:=fun M=>k26 x.op M
  have i1:=hi ();simp only[eS] at q;cases hl:xi x.op<;>rw[hl] at q<;>simp only[E10,cG,hx,hw,h0,uJ,eS,q,hl,jR,dH,cQ,ET,EW,seval]
  exact i1
end
def wM(e:mV):Hs.Ev jA vR:=⟨e.kind==1,e.bF.toNat,e.op,e.ku⟩
abbrev Cls:=Hs.Cl jA vR
abbrev xN:=Hs.Call jA vR
def wa(c:xN):Int:=match c.e with
 |some n=>(n:Int)
 |none => -1
def qy(c:xN):List ag:=[.int .i64 c.b,.int .i64 (wa c)]
def qm(c:xN):ag := .agg (qy c)
def jY(n:xN):(qm n).cells=qy n:=rfl
def kQ(n:xN):(qy n).length=2:=rfl
def Qw(l:List xN):wid (l.map qm) 2=True:=pk qm _ (fun _=>rfl) l
def BM(n:xN):List.take 2 (qy n)=qy n:=rfl
def Xi(n:xN):List.map ag.shut (qy n)=qy n:=rfl
def cf(l:List mV):Cls:=Hs.dz (l.map wM)
def nk(l:List mV)(x:mV):cf (l++[x])=Hs.iA (cf l) (wM x):=by
 unfold cf; rw[aW]; exact Hs.iu _ _
structure aiI(l:List mV):Prop where
 len:l.length<=1000
 hd:∀x,l[0]?=some x->x.kind=1
 cl:∀x,x∈l->0<=x.bF
def SC:∀(l:List (Hs.Ev jA vR)) (t:Cls),(l.foldl Hs.iA t).n=t.n+l.length
 | [],t=>rfl
 |x::r,t=>by
  rw[eK,SC r,aw];unfold Hs.iA;split<;>simp<;>omega
def vp(l:List mV):(cf l).n=l.length:=by
 unfold cf Hs.dz; rw[SC]; simp
def FI:∀(l:List (Hs.Ev jA vR)) (t:Cls),(∀c,t.last c<t.cs.length)->∀c,(l.foldl Hs.iA t).last c<(l.foldl Hs.iA t).cs.length
 | [],t,h=>h
 |x::r,t,h=>by
  rw[eK];refine FI r _ fun c=>?_
  have:=h c;unfold Hs.iA;split
  ·simp only[aA,aw,az];split<;>omega
  ·simpa using this
def Zm{l:List mV}(h:∀x,l[0]?=some x->x.kind=1)(h0:l≠[])(c:Nat):(cf l).last c<(cf l).cs.length:=by
 cases l with
 |nil=>exact absurd rfl h0
 |cons x r =>
  have hk:=h x rfl;unfold cf Hs.dz;rw[aE,eK];refine FI _ _ (fun c=>?_) c
  unfold Hs.iA wM;simp[hk]
def Im{l:List mV}{i:Nat}{x:mV}(h:l[i]?=some x):cf (l.take (i+1))=Hs.iA (cf (l.take i)) (wM x):=by
 rw[cB,h,kI,nk]
def am2(o:Option Int):ph (aF 0) false (o.map (ag.int .i64)) = aF (o.getD 0):=by cases o<;>rfl
def I6:∀(l:List (Hs.Ev jA vR)) (t:Cls),(l.foldl Hs.iA t).cs.length<=t.cs.length+l.length
 | [],t=>dy
 |x::r,t=>by
  rw[eK,aw];refine aY (I6 r _) ?_;unfold Hs.iA;split<;>simp<;>omega
def KQ(l:List mV):(cf l).cs.length<=l.length:=by
 have:=I6 (l.map wM) ⟨0,[],fun _=>0⟩
 simpa[cf,Hs.dz] using this
def akI(B:Nat)(M:aC)(m:AM Int):List.map (ag.jX B M) (pb (ag.int .i64) m)=pb (ag.int .i64) m:=by
 unfold pb; rw[gD]; rfl
def ae9{cs:List xN}{k n:Nat}{o:vR}(h:k<cs.length):List.set (cs.map qm) k (.agg [aF (cs[k]).b,aF (n:Int)])=(cs.modify k fun c=>{ c with e:=some n,ku:=o }).map qm:=by
 refine cA fun i=>?_
 rw[aX,hZ,gJ]
 by_cases hi:k=i
 ·subst hi;simp[h,qm,qy,wa]
 ·simp[hi]
section
attribute [local irreducible] eX fM lu gK dX kr aq aU cr bJ
def c30{l:List mV}(h:aiI l):aq bW 30 [tW l] []=some (gS ((cf l).cs.map qm),[]):=by
 refine aB ?_;have hn:=h.len;simp only[afh,E30,EW,seval]
 refine qJ (xs:=l) aH (fun i (s:List xN×AM Int×Nat)=>s.1=(cf (l.take i)).cs/\∀c,0<=c->(eY s.2.1 c).getD 0=((cf (l.take i)).last c.toNat:Int)) (fun _ _=>()) (fun s i=>[(3,.cv 0 s.2.2 2 0 s.1.length),(4,.iw 1),(8,tW l),(9,aF l.length),(10,aF i)])
  (fun s=>[.arr 2 s.2.2 (s.1.map qm),.map (B1 s.2.1) (pb (ag.int .i64) s.2.1)]) (fun _=>some (gS ((cf l).cs.map qm),[])) (fun s hs=>?_) (fun pre x post s e hx cG hw h0 hm hs hi=>?_) ([],[],0) ⟨rfl,fun c _=>rfl⟩
 ·have hs1:=hs.1;rw[bE] at hs1;simp only[E30,br,hs1,qY,EW,seval]
  done
 ·obtain⟨cs,m,v⟩:=s;obtain⟨hs1,hs2⟩:=hs;simp only at hs1 hs2;have dJ:cs.length<=pre.length:=by rw[hs1]; exact aY (KQ _) (by rw[cq]; exact Nat.min_le_left _ _)
  have hpl:pre.length<l.length:=(aj.1 hx).1;have hne:cs.length-0=cs.length:=rfl;have r1:cp (cs.length+1) 16=True:=qH;have hck:=h.cl x hm;have hnx:=Im hx;have wl:=Qw cs;cases hk:x.kind==1
  ·have hj:=hs2 x.bF hck
   have h0l:l.take pre.length≠[]:=by
    intro e
    have hp:pre.length=0:=by
     rcases List.take_eq_nil_iff.1 e with h1|h1
     ·exact h1
     ·rw[h1] at hpl; simp at hpl
    have:=h.hd x (by rw[<-hp]; exact hx)
    rw[this] at hk; cases hk
   have hlast:(cf (l.take pre.length)).last x.bF.toNat<cs.length:=by
    rw[hs1]
    exact Zm (fun y hy=>h.hd y (by
     rw[fy] at hy;split at hy
     ·exact hy
     ·cases hy)) h0l _
   have i1:=hi (cs.modify ((cf (l.take pre.length)).last x.bF.toNat) fun c=>{ c with e:=some pre.length,ku:=x.ku },m,v) (by
    rw[hnx];unfold Hs.iA wM;simp only[hk,af,aD];rw[vp,hs1,cq,ir aH];exact⟨rfl,hs2⟩)
   simp only[<-ae9 (n:=pre.length) (o:=x.ku) hlast,List.length_modify] at i1;generalize (cf (l.take pre.length)).last x.bF.toNat=q at hj hlast i1;have hq:((q:Int)<(cs.length:Int))=True:=sM;have hg:(cs.map qm)[q]?=some (qm cs[q]):=by rw[aX,ai hlast]; rfl
   simp only[E30,cG,hx,hw,hne,akI,hq,hg,pf,hk,mapOf.eq_1,o5,am2,hj,qm,qy,ET,EW,seval];rw[fi];exact i1
  ·have i1:=hi (cs++[⟨pre.length,none,x.op,x.ku⟩],kR m x.bF cs.length,v+1) (by
    rw[hnx];unfold Hs.iA wM;simp only[hk,aJ];rw[vp,hs1,cq,ir aH];refine⟨rfl,fun c hc=>?_⟩
    rw[jz];split
    ·rename_i e; subst e; simp
    ·rename_i e;rw[aR aH];exact hs2 c hc)
   simp only[aW,aE,aQ,aA,aw,az,aG,qm,qy,wa] at i1;simp only[E30,cG,hx,hw,hne,akI,pf,hk,r1,wl,sE,qY,ET,EW,seval];exact i1
end
end Go.Proofs.YteoamaffclmdbaaGreatDoor
namespace Go.Abs
open Go
def bitsOf(p:Nat->Bool):Nat->Nat
 |0=>0
 |n+1=>bitsOf p n ||| (if p n then 2 ^ n else 0)
def vm(p:Nat->Bool):∀n k,(bitsOf p n).testBit k=(decide (k<n)&&p k)
 |0,k=>by simp[bitsOf]
 |n+1,k=>by
  rw[bitsOf,nc,vm p n k]
  by_cases hk:k=n
  ·subst hk;cases hp:p k<;>simp[Nat.testBit_two_pow_self]
  ·have h1:(if p n then 2 ^ n else 0).testBit k=false:=by
    split
    ·rw[oI]; simp; omega
    ·simp
   rw[h1,fF];have:(decide (k<n+1))=decide (k<n):=by simp only[decide_eq_decide]; omega
   rw[this]
def Yz(p:Nat->Bool)(n:Nat):bitsOf p n<2 ^ n:=by
 refine Nat.lt_pow_two_of_testBit _ fun i hi=>?_
 rw[vm];simp; omega
def xV(p:Nat->Bool){n:Nat}(h:n<=64):bitsOf p n<2 ^ 64:=bu (Yz p n) (Nat.pow_le_pow_right aH h)
def jg:List Nat->Nat
 | []=>0
 |k::r=>2 ^ k ||| jg r
def nR:∀(l:List Nat)(k:Nat),(jg l).testBit k=l.contains k
 | [],k=>by simp[jg]
 |x::r,k=>by
  rw[jg,nc,nR r k,oI,List.contains_cons];congr 1;rw[cE,bh,eG];exact⟨Eq.symm,Eq.symm⟩
def aaL{l:List Nat}(h:∀k,k∈l->k<64):jg l<2 ^ 64:=by
 refine Nat.lt_pow_two_of_testBit _ fun i hi=>?_
 rw[nR,<-Bool.not_eq_true];intro hc;have:=h i (jB.1 hc);omega
def PN(l:List Nat)(i:Nat):jg l ||| 2 ^ i=jg (l++[i]):=by
 refine nN fun k=>?_
 rw[nc,nR,nR,oI];rw[cE,jB,cW,jB,bh,bm,bS];exact⟨fun h=>h.imp id Eq.symm,fun h=>h.imp id Eq.symm⟩
def V6{a b:List Nat}(h:jg a=jg b)(k:Nat):k∈a↔k∈b:=by
 rw[<-jB,<-jB,<-nR,<-nR,h]
def Ob{n:Nat}(h:n<2 ^ 64):IntKind.u64.wrap (n:Int)=n:=by
 have:(n:Int) % (2 ^ IntKind.u64.bits:Int)=n:=Int.emod_eq_of_lt aH (by simp only[IntKind.bits]; omega)
 simp[IntKind.wrap,this,IntKind.signed]
def tI{n:Nat}(h:n<2 ^ 64):(BitVec.ofInt IntKind.u64.bits (n:Int)).toNat=n:=by
 rw[BitVec.ofInt_natCast,BitVec.toNat_ofNat];exact nG h
def SI{m n:Nat}(hm:m<2 ^ 64)(hn:n<2 ^ 64):DT .u64 (m:Int) (n:Int)=((m &&& n:Nat):Int):=by
 unfold DT;rw[BitVec.toNat_and,tI hm,tI hn];exact Ob (Nat.and_lt_two_pow _ hn)
def SV{m n:Nat}(hm:m<2 ^ 64)(hn:n<2 ^ 64):ior .u64 (m:Int) (n:Int)=((m ||| n:Nat):Int):=by
 unfold ior;rw[BitVec.toNat_or,tI hm,tI hn];exact Ob (Nat.or_lt_two_pow hm hn)
def KO(m n:Nat):Nat:=m &&& (2 ^ 64-1-n)
def aft{m n:Nat}(hm:m<2 ^ 64)(hn:n<2 ^ 64):Hi .u64 (m:Int) (n:Int)=(KO m n:Int):=by
 unfold Hi KO;rw[BitVec.toNat_and,tI hm,BitVec.toNat_not,tI hn];refine(Ob (Nat.lt_of_le_of_lt Nat.and_le_left hm)).trans ?_;rfl
def Rh{m x:Nat}(hm:m<2 ^ 64)(hx:x<2 ^ 64):(KO m x=0)↔∀k,m.testBit k=true->x.testBit k=true:=by
 have ht:∀k,(KO m x).testBit k=(m.testBit k&&(decide (k<64) && !x.testBit k)):=by
  intro k;unfold KO;rw[Nat.testBit_and,show 2 ^ 64-1-x=2 ^ 64-(x+1) by omega,Nat.testBit_two_pow_sub_succ hx]
 have cG:∀k,m.testBit k=true->k<64:=fun k hk=>by
  refine Nat.lt_of_not_le fun h=>?_
  have:=Nat.testBit_lt_two_pow (bu hm (Nat.pow_le_pow_right aH h));rw[this] at hk; cases hk
 constructor
 ·intro h k hk;have:=ht k;rw[h,Nat.zero_testBit] at this;simpa[hk,cG k hk] using this
 ·intro h;refine nN fun k=>?_
  rw[ht,Nat.zero_testBit];cases hk:m.testBit k
  ·rfl
  ·simp[h k hk]
def Xk{k:Nat}(hk:k<64):IntKind.u64.wrap ((1:Int)*2 ^ (min (k:Int).toNat IntKind.u64.bits))=((2 ^ k:Nat):Int):=by
 have e:min (k:Int).toNat IntKind.u64.bits=k:=by simp only[eL,IntKind.bits]; omega
 rw[e];have:=Ob (n:=2 ^ k) (lA aH hk);rw[<-this]; congr 1; simp
def Xl{m k:Nat}(hk:k<64):(m:Int).fdiv (2 ^ (min (k:Int).toNat IntKind.u64.bits))=((m >>> k:Nat):Int):=by
 have e:min (k:Int).toNat IntKind.u64.bits=k:=by simp only[eL,IntKind.bits]; omega
 rw[e,Nat.shiftRight_eq_div_pow];rw[Int.fdiv_eq_ediv_of_nonneg _ (Int.pow_nonneg mi)];simp
def akF{m k:Nat}(hm:m<2 ^ 64):(DT .u64 ((m >>> k:Nat):Int) 1==1)=m.testBit k:=by
 have h1:m >>> k<2 ^ 64:=by rw[Nat.shiftRight_eq_div_pow]; exact Nat.lt_of_le_of_lt (Nat.div_le_self _ _) hm
 have:=SI (n:=1) h1 mi;have e:((1:Nat):Int)=1:=rfl;rw[e] at this;rw[this,Nat.testBit,Nat.and_comm];have h2:1 &&& (m >>> k)<=1:=Nat.and_le_left;generalize 1 &&& (m >>> k)=z at h2
 match z,h2 with
 |0,_=>rfl
 |1,_=>rfl
def Yk{m x:Nat}:(x &&& m=m)↔∀k,m.testBit k=true->x.testBit k=true:=by
 constructor
 ·intro h k hk;have:(x &&& m).testBit k=true:=by rw[h]; exact hk
  rw[Nat.testBit_and] at this;simp only[bw] at this;exact this.1
 ·intro h;refine nN fun k=>?_
  rw[Nat.testBit_and];cases hk:m.testBit k
  ·simp
  ·simp[h k hk]
end Go.Abs
namespace Go.Proofs.YteoamaffclmdbaaGreatDoor
open Go Go.Abs
inductive SB
 |cl (c:xN)
 |fs (f:aa)
 |an (a:vR)
 |tk (k:Nat)
def B2:SB->cI
 | .cl c => .cells (qy c)
 | .fs f => .cells (cm f)
 | .an a => .cells (dw a)
 | .tk k => .tick 10 k
section
variable {α:Type}
def eKu(l:AM α):List ag:=l.map fun p => .int .u64 p.1
def xl(enc:α->ag):∀(l:AM α)(k:Int),xk .i (.int .u64 k) (eKu l) (pb enc l)=some ((eY l k).map enc)
 | [],k=>rfl
 |(k',v)::l,k=>by
  show bJ (kB .i (.int .u64 k) (.int .u64 k')) (fun b=>Bq b (some (some (enc v))) (xk .i (.int .u64 k) (eKu l) (pb enc l)))=_
  rw[xl enc l k];simp only[kB,↓reduceIte,bN,eY]
  by_cases h:k=k'
  ·rw[aZ h,show(k==k')=true by simpa using h,vE]; rfl
  ·rw[aR h,show(k==k')=false by simpa using h,p8]
def D8(enc:α->ag):∀(l:AM α)(k:Int)(v:α),xm .i (.int .u64 k) (enc v) (eKu l) (pb enc l)=some (eKu (kR l k v),pb enc (kR l k v))
 | [],k,v=>by
  show bJ (kB .i (.int .u64 k) (.int .u64 k)) (fun _=>some ([ag.int .u64 k],[enc v]))=_
  simp only[kB,↓reduceIte,bN];rfl
 |(k',v')::l,k,v=>by
  show bJ (kB .i (.int .u64 k) (.int .u64 k')) (fun b=>Bq b (some (ag.int .u64 k::eKu l,enc v::pb enc l)) (bJ (xm .i (.int .u64 k) (enc v) (eKu l) (pb enc l)) fun x=>some (ag.int .u64 k'::x.1,enc v'::x.2)))=_
  rw[D8 enc l k v];simp only[kB,↓reduceIte,bN,kR]
  by_cases h:k=k'
  ·rw[aZ h,show(k==k')=true by simpa using h,vE]; rfl
  ·rw[aR h,show(k==k')=false by simpa using h,p8]; rfl
end
abbrev SM:=AM (Nat×List aa)
def Lh(p:Nat×List aa):ag := .slice (.own p.1) (p.2.map O6)
structure C7(b:Nat)(m:SM)(r:List SB):Prop where
 at':∀g id l,eY m g=some (id,l)->∃i,id=b+i/\r[i]?=some (SB.tk l.length)
 ne:∀g g' id l l',eY m g=some (id,l)->eY m g'=some (id,l')->g=g'
 low:∀p,p∈m->p.2.1<b+r.length
def C7.nil(b:Nat)(r:List SB):C7 b [] r:=⟨fun _ _ _ h=>(by cases h),fun _ _ _ _ _ h=>(by cases h),fun _ h=>(by cases h)⟩
structure Kept(r r':List SB):Prop where
 len:r.length<=r'.length
 at':∀(i:Nat)(x:SB),r[i]?=some x->(∀n,x≠SB.tk n)->r'[i]?=some x
def Kept.rfl{r:List SB}:Kept r r:=⟨au _,fun _ _ h _=>h⟩
theorem Kept.trans{a b c:List SB}(h:Kept a b)(g:Kept b c):Kept a c:=⟨aY h.len g.len,fun i x hx hn=>g.at' i x (h.at' i x hx hn) hn⟩
def Kept.app(r x:List SB):Kept r (r++x):=⟨dy,fun i y hy _=>by rw[aO (aj.1 hy).1]; exact hy⟩
def C7.app{b:Nat}{m:SM}{r:List SB}(h:C7 b m r)(x:List SB):C7 b m (r++x):=by
 refine⟨fun g id l hm=>?_,h.ne,fun p hp=>?_⟩
 ·obtain⟨i,h1,h2⟩:=h.at' g id l hm;refine⟨i,h1,?_⟩;rw[aO (aj.1 h2).1]; exact h2
 ·have:=h.low p hp;rw[aA]; omega
def Ec{α:Type}:∀ {m:AM α} {k:Int} {v:α} {p:Int×α},p∈kR m k v->p=(k,v)\/p∈m
 | [],k,v,p,h=>by simp[kR] at h; exact .inl h
 |(k',v')::m,k,v,p,h=>by
  simp only[kR] at h;split at h
  ·rcases bI.1 h with rfl|h
   ·exact .inl rfl
   ·exact .inr (bt _ h)
  ·rcases bI.1 h with rfl|h
   ·exact .inr bD
   ·exact(Ec h).imp id (bt _)
def C7.new{b:Nat}{m:SM}{r:List SB}(h:C7 b m r){g0:Int}(_hg:eY m g0=none)(f:aa):C7 b (kR m g0 (b+r.length,[f])) (r++[.tk 1]):=by
 have hfar:∀g id l,eY m g=some (id,l)->id≠b+r.length:=fun g id l hm e=>by
  obtain⟨i,h1,h2⟩:=h.at' g id l hm;have:=(aj.1 h2).1;omega
 refine⟨fun g id l hm=>?_,fun g g' id l l' hm hm'=>?_,fun p hp=>?_⟩
 ·simp only[jz] at hm;split at hm
  ·injection hm with hm; injection hm with h1 h2; subst h1; subst h2
   exact⟨r.length,_root_.rfl,dy⟩
  ·exact(h.app _).at' g id l hm
 ·simp only[jz] at hm hm';split at hm<;>split at hm'
  ·rename_i a b; rw[a,b]
  ·injection hm with hm; injection hm with h1 h2; subst h1
   exact absurd _root_.rfl (hfar _ _ _ hm')
  ·injection hm' with hm'; injection hm' with h1 h2; subst h1
   exact absurd _root_.rfl (hfar _ _ _ hm)
  ·exact h.ne _ _ _ _ _ hm hm'
 ·rcases Ec hp with rfl|hp
  ·simp
  ·exact(h.app _).low p hp
def C7.more{b:Nat}{m:SM}{r:List SB}(h:C7 b m r){g0:Int}{id0:Nat}{l0:List aa}(hg:eY m g0=some (id0,l0))(f:aa):C7 b (kR m g0 (id0,l0++[f])) (r.set (id0-b) (.tk (l0.length+1))):=by
 obtain⟨i0,e0,a0⟩:=h.at' _ _ _ hg;have hi0:=(aj.1 a0).1;have hsub:id0-b=i0:=aH;rw[hsub];refine⟨fun g id l hm=>?_,fun g g' id l l' hm hm'=>?_,fun p hp=>?_⟩
 ·simp only[jz] at hm;split at hm
  ·injection hm with hm; injection hm with h1 h2; subst h1; subst h2
   refine⟨i0,e0,?_⟩;rw[eZ hi0]; simp
  ·rename_i hne;obtain⟨i,h1,h2⟩:=h.at' g id l hm;refine⟨i,h1,?_⟩;have:i≠i0:=fun e=>hne (h.ne _ _ id l l0 hm (by rw[hg,e0,h1,e]))
   rw[fa aH]; exact h2
 ·simp only[jz] at hm hm';split at hm<;>split at hm'
  ·rename_i a b; rw[a,b]
  ·rename_i a b;injection hm with hm; injection hm with h1 h2; subst h1
   rw[a]; exact h.ne _ _ _ _ _ hg hm'
  ·rename_i a b;injection hm' with hm'; injection hm' with h1 h2; subst h1
   rw[b]; exact h.ne _ _ _ _ _ hm hg
  ·exact h.ne _ _ _ _ _ hm hm'
 ·rcases Ec hp with rfl|hp
  ·simp; omega
  ·simpa using h.low p hp
def Kept.set{r:List SB}{i k:Nat}(h:r[i]?=some (SB.tk k))(k':Nat):Kept r (r.set i (.tk k')):=by
 refine⟨dy,fun j x hx hn=>?_⟩
 have:i≠j:=by
  intro e;subst e;rw[h] at hx; injection hx with hx
  exact hn k hx.symm
 rw[fa this]; exact hx
def LR(m:SM)(lost:Hs.uB aa):Prop:=∀k:Nat,((eY m (k:Int)).map Prod.snd).getD []=(lost.filter fun p=>p.1==k).map Prod.snd
def Mw(k:Nat)(f:aa):∀lost:Hs.uB aa,lost.any (fun p=>p.1==k&&decide (p.2=f))=((lost.filter fun p=>p.1==k).map Prod.snd).any fun g=>decide (f=g)
 | []=>rfl
 |p::r=>by
  rw[jR,fq,Mw k f r];cases hk:p.1==k
  ·simp only[dW,cQ,af,aD]
  ·simp only[dZ,aJ,aE,jR];rw[decide_eq_decide.2 (show p.2=f↔f=p.2 from⟨Eq.symm,Eq.symm⟩)]
def LR.any{m:SM}{lost:Hs.uB aa}(h:LR m lost)(k:Nat)(f:aa):lost.any (fun p=>p.1==k&&decide (p.2=f))=(((eY m (k:Int)).map Prod.snd).getD []).any fun g=>decide (f=g):=by
 rw[h k]; exact Mw k f lost
def LR.add{m:SM}{lost:Hs.uB aa}(h:LR m lost)(k:Nat)(f:aa)(id:Nat):LR (kR m (k:Int) (id,((eY m (k:Int)).map Prod.snd).getD []++[f])) (lost++[(k,f)]):=by
 intro j;rw[jx,aW,<-h j,jz]
 by_cases hj:j=k
 ·subst hj; simp
 ·have h1:¬(j:Int)=(k:Int):=aH;have h2:(k==j)=false:=gh;rw[aR h1]; simp[h2]
def RM(B:Nat)(M:aC)(r:List SB):(r.map B2).map (cI.back B M)=r.map B2:=by
 rw[gD];refine cT fun x _=>?_
 cases x<;>rfl
def apD{m:SM}{B:Nat}(h:∀p,p∈m->p.2.1<B)(M:aC):List.map (ag.jX B M) (pb Lh m)=pb Lh m:=by
 unfold pb;rw[gD];refine cT fun p hp=>?_
 show ag.jX B M (Lh p.2)=Lh p.2
 simp only[Lh,ag.jX,ag.jW,ag.jC,h p hp,aJ]
def AD:vR:=⟨0,0,0,0,0,[],[]⟩
def Kj:jA:=⟨0,0,[],[],0,0,0,[]⟩
abbrev wG(c:Int)(o:jA):mV:=⟨1,c,{ o with bF:=c },AD⟩
abbrev CL(c:Int)(a:vR):mV:=⟨2,c,Kj,a⟩
def Aq:List mV->List Bool->Bool
 | [],_=>true
 |x::r,s =>
  if decide (x.bF<0)||decide (16<=x.bF) then false
  else if (!(x.kind==1)&&x.kind != 2)||((x.kind==1)==(s[x.bF.toNat]?).getD false)||((x.kind==1)&&x.op.bF != x.bF) then false
  else Aq r (s.set x.bF.toNat (x.kind==1))
def HF(l:List mV):Bool:=if 64<l.length then false else Aq l (List.replicate 16 false)
def bqt:(false==true)=false:=rfl
def bqu:(true==false)=false:=rfl
def bqv:(true==true)=true:=rfl
def bqw:(false==false)=true:=rfl
def apB(B:Nat)(M:aC)(s:List Bool):List.map (ag.jW B M) (s.map ag.bool)=s.map ag.bool:=by rw[gD]; rfl
def WT(s:List Bool)(i:Nat)(b:Bool)(h:i<s.length):List.take i (s.map ag.bool)++ag.bool b::List.drop (i+1) (s.map ag.bool)=(s.set i b).map ag.bool:=by
 rw[gF,jt,aZ (by simpa using h)]
def Wh(s:List Bool)(i:Nat)(b:Bool)(h:s[i]?=some b):nth (s.map ag.bool) i=some (.bool b):=by rw[fc,aX,h]; rfl
section
attribute [local irreducible] eX fM lu gK dX kr aq aU cr bJ
def c22(c:Int)(o:jA):aq bW 22 [aF c,.agg (eS o)] []=some (uZ (wG c o),[]):=by
 refine aB ?_;simp only[aln,E22,eS,uZ,pf,EW,seval];rfl
def c23(c:Int)(a:vR):aq bW 23 [aF c,.agg (dw a)] []=some (uZ (CL c a),[]):=by
 refine aB ?_;simp only[alo,E23,dw,uZ,pf,EW,seval];rfl
def c11(l:List mV)(hl:l.length<=100000):aq bW 11 [tW l] []=some (.bool (HF l),[]):=by
 refine aB ?_;unfold HF
 by_cases h6:64<l.length
 ·have h7:((64:Int)<(l.length:Int))=True:=sM;simp only[aff,E11,h6,h7,aJ,ET,EW,seval]
  done
 ·have h7:((64:Int)<(l.length:Int))=False:=oyf;simp only[aff,E11,h6,h7,aD,af,ET,EW,seval];refine qJ (xs:=l) aH (fun _ s=>s.length=16) (fun r (s:List Bool)=>Aq r s) (fun _ i=>[(3,ct 0),(10,tW l),(11,aF l.length),(12,aF i)]) (fun s=>[cu (s.map ag.bool)]) (fun b=>some (ag.bool b,([]:aC))) (fun s hs=>?_) (fun pre x post s h hx cG hw h0 hm hs hi=>?_) (List.replicate 16 false) rfl
  ·simp only[E11,br,Aq,ET,EW,seval]
   done
  ·rw[Aq];cases c1:decide (x.bF<0)
   ·cases c2:decide (16<=x.bF)
    ·have d1:0<=x.bF:=by simpa using c1
     have d2:x.bF<16:=by simpa using c2
     obtain⟨b,hb⟩:∃b,s[x.bF.toNat]?=some b:=⟨_,ai aH⟩;have hn:=Wh s _ b hb;have p1:(0<=x.bF)=True:=eq_true d1;have p2:(x.bF<16)=True:=eq_true d2;have p4:x.bF.toNat<s.length:=aH;have p3:(x.bF.toNat+1<=s.length)=True:=eq_true p4;have i1:=hi (s.set x.bF.toNat (x.kind==1)) (by simpa using hs)
     cases k1:x.kind==1<;>cases k2:x.kind==2<;>cases b<;>cases k3:x.op.bF==x.bF<;>rw[k1] at i1<;>simp only[E11,cG,hx,hw,pf,c1,c2,k1,k2,k3,hb,hn,p1,p2,bqt,bqu,bqv,bqw,p3,apB,aJ,WT _ _ _ p4,pM,bne,bA,ET,EW,seval]
     all_goals first|rfl|exact i1|skip
    ·simp only[E11,cG,hx,hw,pf,c1,c2,er,aJ,ET,EW,seval]
   ·simp only[E11,cG,hx,hw,pf,c1,dH,aJ,ET,EW,seval]
    done
end
end Go.Proofs.YteoamaffclmdbaaGreatDoor
namespace Go.Abs
open Go
def YD{C:eP}{f p:Nat}{vs:List ag}{q q' r:ag}{M:aC}{cs:List ag}(hq:q.ids=[p])(hqf:q.flat=true)(hqr:q.pj (iv [p])=q')(hM:nth M p=some (.cells cs))(h:C f (vs++[q']) [.cells cs]=some (r,[.cells cs]))(h1:vs.all ag.flat=true)(h2:vs.flatMap ag.ids=[])(h3:r.wA=true)
  (h4:vs.map (ag.pj (iv [p]))=vs) (h5:r.Ap (wv [p])=r) (h6:cs.all ag.vw=true) (h7:cs.flatMap ag.nD=[]) (h8:cs.map (ag.sf (iv [p]))=cs) (h10:cs.map (ag.sf (wv [p]))=cs) :
  aU C f (vs++[q]) M=some (r,M):=by
 have hids:(vs++[q]).flatMap ag.ids=[p]:=by simp[hq,h2]
 have hi:qq M [p]=[]:=by simp_all [qq,cI.ids]
 have e0:kC M [p]=[p]:=by simp[kC,hi,kb]
 have e1:reach M [p]=[p]:=by
  have ea:kb [] [p]=[p]:=rfl;simp only[reach,ea,e0]
 have hfl:(vs++[q]).all ag.flat=true:=by rw[oz,h1]; simp[hqf]
 have hmp:(vs++[q]).map (ag.pj (iv [p]))=vs++[q']:=by rw[aW,h4]; simp[hqr]
 have hpk:j4 M (iv [p]) [p]=some [.cells cs]:=by simp[j4,hM,cI.pj,h8,bN,show(cI.cells cs).flat=true from h6]
 refine lk (ids:=[p]) hfl (by rw[hids]; exact e1) hpk e0 hmp h rfl h3 (by simp only[kL,List.all_nil,gA]; exact h6) h5 ?_
 have hren:(cI.cells cs).pj (wv [p]) = .cells cs:=by rw[cI.pj,h10]
 simp[mb,hren,uR hM]
end Go.Abs
namespace Go.Proofs.YteoamaffclmdbaaGreatDoor
open Go Go.Abs
def ahz(f:aa):j4 [cu (cm f)] (iv [0]) [0]=some [cu (cm f)]:=rfl
section
attribute [local irreducible] eX fM lu gK dX kr aq aU cr bJ
def c33(f g:aa)(hf:vg f):aq bW 33 [.agg (cm g),ct 0] [cu (cm f)]=some (.bool (decide (f=g)),[cu (cm f)]):=by
 refine aB ?_;have q:=fun M=>cO (c34 f g hf) M
 simp only[cm] at q;simp only[alB,E33,cm,q,EW,seval]
def c54(xs:List aa)(f:aa)(hf:vg f)(hn:xs.length<=900000):aq bW 54 [gS (xs.map O6),.func 33 [ct 0]] [cu (cm f)]=some (aF (qA (fun g:aa=>decide (f=g)) xs 0),[cu (cm f)]) :=
 DJ (sz:=10) (e:=cm) fz rfl hn (fun _=>rfl) (fun _=>rfl) rfl rfl fun x _ => .inl ⟨_,_,rfl,uG (p:=0) (vs:=[.agg (cm x)]) rfl (c33 f x hf) rfl rfl rfl rfl rfl rfl rfl rfl rfl⟩
def c32(xs:List aa)(f:aa)(hf:vg f)(hn:xs.length<=900000):aq bW 32 [gS (xs.map O6),.func 33 [ct 0]] [cu (cm f)]=some (.bool (xs.any fun g=>decide (f=g)),[cu (cm f)]):=by
 refine aB ?_;have hk:aU (aq bW) 54 [gS (xs.map O6),.func 33 [ct 0]] _=some (aF _,[cu (cm f)]):=lk (ids:=[0]) rfl rfl (ahz f) rfl rfl (c54 xs f hf hn) rfl rfl rfl rfl rfl;simp only[alA,E32,hk,xd,EW,seval];rfl
def k32(xs:List aa)(f:aa)(hf:vg f)(hn:xs.length<=900000){M:aC}{p:Nat}(hM:nth M p=some (cu (cm f))):aU (aq bW) 32 [gS (xs.map O6),.func 33 [ct p]] M=some (.bool (xs.any fun g=>decide (f=g)),M) :=
 YD (p:=p) (vs:=[gS (xs.map O6)]) (q' := .func 33 [ct 0]) rfl rfl (by simp[ag.pj,ag.sf,ag.um,iv]) hM (c32 xs f hf hn) rfl rfl rfl rfl rfl rfl rfl rfl rfl
end
end Go.Proofs.YteoamaffclmdbaaGreatDoor
namespace Go.Abs
open Go
variable [kG]
noncomputable def JO(C:eP)(fn:eH)(args:List ag)(M:aC):Option (ag×aC) :=
 if args.length=fn.nparams then bJ (eO C fn.body (eF 0 args) M) fun o=>bJ (finish fn.results o.mem.length o) fun x=>if M.length<=o.mem.length/\o.mem.length<=x.2.length then some x else none else none
def LJ{P:Program}{C:eP}(hmix:P.follows .mixedOrders=true)(hC:nJ P C){f:Nat}{fn:eH}{A:Cz}{func:Func}(hf:P.funcs[f]?=some func)(hc:pa P A func=some fn){args:List ag}{M:aC}{x:ag×aC}
  (h:JO C fn args M=some x):db P f args M x:=by
 unfold JO at h;split at h
 ·rename_i hl;obtain⟨o,ho,h⟩:=bo h;obtain⟨y,hy,h⟩:=bo h;split at h
  ·rename_i dJ;cases h;exact(A5 hmix hC hf hc dJ.1 (.inr dJ.2) hl (by rw[ho]; exact hy)).2
  ·cases h
 ·cases h
def Zg{C:eP}{fn:eH}{args:List ag}{M M':aC}{v:ag}(hl:args.length=fn.nparams)(h:∀B,eX C fn.results B [] fn.body (eF 0 args) M=some (v.lC B M',iQ B M'))(hM:M.length<=M'.length) :
  JO C fn args M=some (v.lC M'.length M',iQ M'.length M'):=by
 unfold JO;rw[aZ hl];cases ha:eO C fn.body (eF 0 args) M with
 |none=>have:=h 0; unfold eX at this; rw[ha] at this; cases this
 |some o =>
  have h':∀B,finish fn.results B o=some (v.lC B M',iQ B M'):=fun B=>by
   have:=h B;unfold eX at this;rw[ha] at this;exact this
  have dJ:o.mem.length=M'.length:=by
   have e:=h' (o.mem.length+M'.length);have e2:(finish fn.results (o.mem.length+M'.length) o)=some (v.lC (o.mem.length+M'.length) M',iQ (o.mem.length+M'.length) M'):=e;unfold finish at e2
   have hb:∀M2:aC,M2.length<=o.mem.length+M'.length->(iQ (o.mem.length+M'.length) M2).length=M2.length:=fun M2 h2=>by
    unfold iQ; rw[dU,cq]; omega
   split at e2
   ·cases e2
   ·injection e2 with e2
    have:=congrArg (fun x:ag×aC=>x.2.length) e2
    simp only at this;rw[hb _ aH,hb _ aH] at this; exact this
   ·obtain⟨l,_,e2⟩:=bo e2;injection e2 with e2
    have:=congrArg (fun x:ag×aC=>x.2.length) e2
    simp only at this;rw[hb _ aH,hb _ aH] at this; exact this
  rw[bN,dJ,h',bN,aZ ⟨hM,by unfold iQ; rw[dU,cq]; omega⟩]
end Go.Abs
namespace Go.Proofs.YteoamaffclmdbaaGreatDoor
open Go Go.Abs
noncomputable def gT:Nat->List ag->aC->Option (ag×aC)
 |0=>fun _ _=>none
 |n+1=>JO (aq (mc Fi 31 (gT n))) afi
noncomputable def rQ(n:Nat):zt:=mc Fi 31 (gT n)
def SD:∀n,vk Tryz.prog (rQ n)/\∀ {args:List ag} {M:aC} {x:ag×aC},gT n args M=some x->db Tryz.prog 31 args M x
 |0=>⟨pX N4 fz (fun h=>by cases h),fun h=>by cases h⟩
 |n+1=>by
  have ih:=(SD n).1
  have key:∀ {args:List ag} {M:aC} {x:ag×aC},gT (n+1) args M=some x->db Tryz.prog 31 args M x:=fun h =>
   LJ fz (qS fz ih) (f:=31) func31 atL h
  exact⟨pX N4 fz key,key⟩
def Xq(n:Nat):nJ Tryz.prog (aq (rQ n)):=qS fz (SD n).1
def lT'{n f:Nat}{a:List ag}{M:aC}{x:ag×aC}(h:aq Fi f a M=some x):aq (rQ n) f a M=some x:=qZ rfl rfl h
def lT{n f:Nat}{vs:List ag}{M:aC}{x:ag×aC}(h:aU (aq Fi) f vs M=some x):aU (aq (rQ n)) f vs M=some x:=by
 obtain⟨a,B,y,h1,h2⟩:=pO h;exact h2 _ (lT' h1)
def Kd{n:Nat}{a:List ag}{M:aC}{x:ag×aC}(h:gT n a M=some x):aq (rQ n) 31 a M=some x:=fe (g:=gT n) rfl h
end Go.Proofs.YteoamaffclmdbaaGreatDoor
namespace Go.Abs
open Go
def D4{C:eP}{fn:List sN}{bR:Nat}{bp:Env}{M:aC}:∀(k:List K),kr C fn bR k ⟨.ret,bp,M⟩=finish fn bR ⟨.ret,bp,M⟩
 | []=>rfl
 | .seq _::k=>D4 k
 | .block _::k=>D4 k
 | .loop _ _ _::k=>D4 k
 | .nC _ _::k=>D4 k
end Go.Abs
namespace Go.Proofs.YteoamaffclmdbaaGreatDoor
open Go Go.Abs
abbrev xJ(n:Nat):ag := .int .u64 n
abbrev mO(n:Nat):ag := .int .i64 n
structure TS where
 m:SM
 r:List SB
 ov:Nat
 ox:List Nat
 k:Nat
def yv:List ag:=[.ptr 3 0,.ptr 7 0,.ptr 2 0,.ptr 5 0,.ptr 1 0,.ptr 9 0,.ptr 10 0]
structure Bs where
 f0:aa
 l:List mV
 cs:List xN
 E:Nat
 rv:Nat
 rd:List Nat
def lZ(b:Bs)(s:TS):aC :=
 .cells (cm b.f0) :: .cells [tW b.l] :: .cells [.slice .sh (b.cs.map qm)] :: .cells [xJ b.E] :: .arr 1 b.rv (b.rd.map xJ) :: .cells [.cv 4 b.rv 1 0 b.rd.length] :: .map (eKu s.m) (pb Lh s.m) :: .cells [.iw 6] :: .arr 1 s.ov (s.ox.map mO) :: .cells [.cv 8 s.ov 1 0 s.k] ::
  .cells [.func 31 yv]::s.r.map B2
def z6(b:Bs)(s:TS):(lZ b s).length=s.r.length+11:=by simp[lZ]
def KN(b:Bs){s:TS}(h:C7 11 s.m s.r){n:Nat}(hl:n=s.r.length+11)(M:aC):List.map (cI.back n M) (lZ b s)=lZ b s:=by
 have e1:∀i,i<11->(i<n)=True:=fun i hi=>by simp only[fH,iZ]; omega
 have e2:List.map (ag.jX n M) (pb Lh s.m)=pb Lh s.m:=apD (fun p hp=>by have:=h.low p hp; omega) M
 unfold lZ;simp only[aE,RM,cI.back,e2,cm,aQ,ag.jW,ag.jC,yv,e1 0 aH,e1 1 aH,e1 2 aH,e1 3 aH,e1 5 aH,e1 7 aH,e1 9 aH,e1 10 aH,e1 4 aH,e1 6 aH,e1 8 aH,aJ,ba,tX,r8,ki,fI,cK]
def Fu(b:Bs){s:TS}(h:C7 11 s.m s.r):iQ (lZ b s).length (lZ b s)=lZ b s:=by
 unfold iQ;rw[bE];exact KN b h (z6 b s) _
def CH(B:Nat)(b:Bool)(M:aC):Option (ag×aC):=some ((ag.bool b).lC B M,iQ B M)
section
attribute [local irreducible] eX fM lu gK dX kr aq aU cr bJ
def ahL{C:eP}{B:Nat}{k:List K}{bp:Env}{M:aC}{b:Bool}:eX C [.tmp 11] B k (.seq (.region [ob 11 (.mv (.sY (.bool b)))] false [11]) .ret) bp M=kr C [.tmp 11] B k ⟨.ret,[(11,.bool b)],M⟩:=by
 simp only[EW,seval]
end
def NU{C:eP}{B:Nat}{k:List K}{c:cz}{bp:Env}{M:aC}{b:Bool}(hc:c = .seq (.region [ob 11 (.mv (.sY (.bool b)))] false [11]) .ret):eX C [.tmp 11] B k c bp M=CH B b M:=by
 subst hc;rw[ahL,D4];rfl
noncomputable def Xx(n B:Nat)(k:List K)(bp:Env)(M:aC):Option (ag×aC):=eX (aq (rQ n)) [.tmp 11] B k (sub Kl 58) bp M
def NA:List Nat:=[1,3,5,6,7,8,9,26,27,28]
def AX(b:Bs)(mask P j:Nat):Env:=[(1,xJ mask),(3,.ptr 7 0),(5,.ptr 5 0),(6,.ptr 1 0),(7,.ptr 9 0),(8,.ptr 10 0),(9,.ptr P 0),(26,.slice .sh (b.cs.map qm)),(27,.int .i64 b.cs.length),(28,mO j)]
noncomputable def qV(n B:Nat)(b:Bs)(mask P j:Nat)(M:aC):Option (ag×aC):=eX (aq (rQ n)) [.tmp 11] B [.block 0,.seq (sub Kl 59)] (.nC NA (sub Kl 23)) (AX b mask P j) M
section
attribute [local irreducible] eX fM lu gK dX kr aq aU cr bJ
def BA{n B:Nat}{b:Bs}{mask P j:Nat}{s:TS}(hj:j<1000)(h:C7 11 s.m s.r)(hP:P<11+s.r.length){bp:Env}(he:jo bp NA=AX b mask P j) :
  Xx n B [.nC NA (sub Kl 23),.block 0,.seq (sub Kl 59)] bp (lZ b s)=qV n B b mask P (j+1) (lZ b s):=by
 have hb:=Fu b h;have hl:=z6 b s;simp only[jo,NA,AX,aE,aQ,mB,jk,true_and,pN] at he;obtain⟨g1,g3,g5,g6,g7,g8,g9,g26,g27,g28⟩:=he;unfold Xx qV AX NA;generalize lZ b s=M at hb hl;have e1:∀i,i<11->(i<M.length)=True:=fun i hi=>by simp only[fH,iZ]; omega
 have e2:(P<M.length)=True:=sM;have e3:IntKind.i64.wrap ((j:Int)+1)=((j+1:Nat):Int):=by rw[gv aH aH]; rfl
 have e9:=e1 9 aH;have e10:=e1 10 aH;have e7:=e1 7 aH;have e5:=e1 5 aH;have e01:=e1 1 aH;simp only[Oo,↓hb,g1,g3,g5,g6,g7,g8,g9,g26,g27,g28,e3,e2,e9,e10,e7,e5,e01,EW,seval]
end
end Go.Proofs.YteoamaffclmdbaaGreatDoor
namespace Go.Proofs.YteoamaffclmdbaaGreatDoor
open Go Go.Abs
def lY(f:aa):(cm f).length=10:=rfl
def yo(f:aa):List.take 10 (cm f)=cm f:=rfl
def E4(f:aa):List.drop 10 (cm f)=[]:=rfl
def wL(f:aa):List.map ag.shut (cm f)=cm f:=rfl
def Lc(c:xN):List.drop 2 (qy c)=[]:=rfl
def zh(c:xN):nth (qy c) 0=some (aF c.b):=rfl
def u9(c:xN):nth (qy c) 1=some (aF (wa c)):=rfl
def CJ(f:aa):List.flatMap ag.nD (cm f)=[]:=rfl
def Qc{α:Type}(l a b:List α):(l++a <+: l++b)=(a <+: b):=propext (List.prefix_append_right_inj l)
def Bf(c:xN):(qy c).all ag.je=true:=rfl
def y8(f:aa):(cm f).all ag.je=true:=rfl
def Ab(r:List SB)(a:cI)(X:aC):nth (r.map B2++a::X) r.length=some a:=by rw[fc]; simp
def EB(r:List SB)(a c:cI)(X:aC):iP (r.map B2++a::X) r.length c=r.map B2++c::X:=by rw[fi]; simp
def Ef(r:List SB)(a a':cI)(X:aC):nth (r.map B2++a::a'::X) (r.length+1)=some a':=by rw[fc]; simp
def EC(r:List SB)(a a' c:cI)(X:aC):iP (r.map B2++a::a'::X) (r.length+1) c=r.map B2++a::c::X:=by rw[fi]; simp
def Eg(r:List SB)(a a' a'':cI)(X:aC):nth (r.map B2++a::a'::a''::X) (r.length+2)=some a'':=by rw[fc]; simp
def ED(r:List SB)(a a' a'' c:cI)(X:aC):iP (r.map B2++a::a'::a''::X) (r.length+2) c=r.map B2++a::a'::c::X:=by rw[fi]; simp
section
attribute [local irreducible] eX fM lu gK dX kr aq aU cr bJ
def anS{C:eP}{B:Nat}{k:List K}{bp:Env}{M:aC}:eX C [.tmp 11] B k (sub Kl 6) bp M=CH B true M:=NU fz
def W8{C:eP}{B:Nat}{k:List K}{bp:Env}{M:aC}:eX C [.tmp 11] B k (sub Kl 14) bp M=CH B false M:=NU fz
def HE{C:eP}{B:Nat}{k:List K}{bp:Env}{M:aC}:eX C [.tmp 11] B k (sub Kl 53) bp M=CH B true M:=NU fz
def W9{C:eP}{B:Nat}{k:List K}{bp:Env}{M:aC}:eX C [.tmp 11] B k (sub Kl 61) bp M=CH B false M:=NU fz
def wm{n B:Nat}{k:List K}{bp:Env}{M:aC}:eX (aq (rQ n)) [.tmp 11] B k (sub Kl 58) bp M=Xx n B k bp M:=rfl
variable {n B:Nat} {b:Bs} {mask P j:Nat} {s:TS} {c:xN} {f:aa}
def step_skip(hn:b.cs.length<=60)(hj:b.cs[j]?=some c)(hL:C7 11 s.m s.r)(hP:P<11+s.r.length){q:Nat}{x1 x2:Bool}(hlr:b.rd.length=b.cs.length)(hq:b.rd[j]?=some q)(hx1:(DT .u64 ((mask >>> j:Nat):Int) 1==1)=x1)(hx2:(Hi .u64 (q:Int) (mask:Int) != 0)=x2)(h:(x1||x2)=true) :
  qV n B b mask P j (lZ b s)=qV n B b mask P (j+1) (lZ b { s with r:=s.r++[.cl c] }):=by
 have hjl:j<b.cs.length:=(aj.1 hj).1;have cG:((j:Int)<(b.cs.length:Int))=True:=sM;have hlt2:((j:Int)<((b.rd.length-0:Nat):Int))=True:=sM;have hsh:=Xl (m:=mask) (k:=j) aH;simp only[eL] at hsh;have fin:=fun bp (he:jo bp NA=AX b mask P j)=>BA (n:=n) (B:=B) (b:=b) (mask:=mask) (P:=P) (j:=j) (s:={ s with r:=s.r++[.cl c] }) aH (hL.app _) gh he
 unfold qV;rw[vu];simp only[AX,NA,lZ,aW,aE,aQ,B2] at fin ⊢;cases x1
 ·cases x2
  ·cases h
  ·simp only[Oo,↓wm,cG,hlt2,hj,hq,hsh,hx1,hx2,Ab,EB,jY,kQ,BM,Lc,Bf,aJ,EW,seval];exact fin _ rfl
 ·simp only[Oo,↓wm,cG,hlt2,hj,hq,hsh,hx1,Ab,EB,jY,kQ,BM,Lc,Bf,aJ,EW,seval];exact fin _ rfl
def Xu(hn:b.cs.length<=60)(hj:b.cs[j]?=some c)(hL:C7 11 s.m s.r)(hP:∃p,P=11+p/\s.r[p]?=some (.fs f)){q:Nat}(hlr:b.rd.length=b.cs.length)(hq:b.rd[j]?=some q)(hx1:(DT .u64 ((mask >>> j:Nat):Int) 1==1)=false)(hx2:(Hi .u64 (q:Int) (mask:Int) != 0)=false)
  (hf:vg f) {x:mV} (hx:b.l[c.b]?=some x) (ho:sr x.op) {e:Nat} (he:c.e=some e) {y:mV} (hy:b.l[e]?=some y) (ha:decide ((pq f x.op).2=y.ku)=false) :
  qV n B b mask P j (lZ b s)=qV n B b mask P (j+1) (lZ b { s with r:=s.r++[.cl c,.fs (pq f x.op).1,.an (pq f x.op).2] }):=by
 have hjl:j<b.cs.length:=(aj.1 hj).1;have cG:((j:Int)<(b.cs.length:Int))=True:=sM;have hlt2:((j:Int)<((b.rd.length-0:Nat):Int))=True:=sM;have hsh:=Xl (m:=mask) (k:=j) aH;simp only[eL] at hsh;obtain⟨p,hP1,hP2⟩:=hP;have hpl:=(aj.1 hP2).1
 have hnP:∀(a0 a1 a2 a3 a4 a5 a6 a7 a8 a9 a10:cI)(X:aC),nth (a0::a1::a2::a3::a4::a5::a6::a7::a8::a9::a10::(s.r.map B2++X)) P=some (cu (cm f)):=fun a0 a1 a2 a3 a4 a5 a6 a7 a8 a9 a10 X=>by
  rw[fc,hP1,show 11+p=p+11 by omega]
  simp only[cS];rw[aO (by simpa using hpl),aX,hP2]; rfl
 have qd:=fun M=>lT (n:=n) (k29 f x.op hf ho M)
 have hae:=G8 hf x.op;have qa:=fun M=>lT (n:=n) (lE (k35 (pq f x.op).2 y.ku (by have:=hae.names; omega) (by have:=hae.data; omega) M))
 simp only[ha,eS,dw] at qd qa;have fin:=fun bp (he:jo bp NA=AX b mask P j)=>BA (n:=n) (B:=B) (b:=b) (mask:=mask) (P:=P) (j:=j) (s:={ s with r:=s.r++[.cl c,.fs (pq f x.op).1,.an (pq f x.op).2] }) aH (hL.app _) gh he
 unfold qV;rw[vu];simp only[AX,NA,lZ,aW,aE,aQ,B2] at fin ⊢;have hce:wa c=(e:Int):=by unfold wa; rw[he]
 simp only[Oo,↓wm,cG,hlt2,hj,hq,hsh,hx1,hx2,hnP,Ab,EB,Ef,EC,Eg,ED,jY,kQ,BM,Xi,Lc,lY,yo,E4,wL,CJ,Qc,bZ,aI,aP,zh,u9,Bf,y8,qd,qa,aJ,hx,hy,hce,pf,dw,ET,EW,seval];exact fin _ rfl
def Qo(hn:b.cs.length<=60)(hj:b.cs[j]?=some c)(hP:∃p,P=11+p/\s.r[p]?=some (.fs f)){q:Nat}(hlr:b.rd.length=b.cs.length)(hq:b.rd[j]?=some q)(hx1:(DT .u64 ((mask >>> j:Nat):Int) 1==1)=false)(hx2:(Hi .u64 (q:Int) (mask:Int) != 0)=false)(hm:mask<2 ^ 64)
  (hk:s.k<=s.ox.length) (hk2:s.k<=1000)
  (hf:vg f) {x:mV} (hx:b.l[c.b]?=some x) (ho:sr x.op) (he:c.e=none\/∃e y,c.e=some e/\b.l[e]?=some y/\decide ((pq f x.op).2=y.ku)=true) {s2:TS} {k2:Nat} {t:Bool} (hs2:s2.k=k2+1) (hk3:t=false->k2<=1000) (hL:C7 11 s2.m s2.r) (hP3:P<11+s2.r.length)
  (hin:gT n (.agg (cm (pq f x.op).1)::xJ (mask ||| 2 ^ j)::yv) (lZ b ⟨s.m,s.r++[.cl c,.fs (pq f x.op).1,.an (pq f x.op).2],s.ov+1,s.ox.take s.k++[c.b],s.k+1⟩)=some (.bool t,lZ b s2)) :
  qV n B b mask P j (lZ b s)=if t then CH B true (lZ b s2) else qV n B b mask P (j+1) (lZ b { s2 with k:=k2 }):=by
 have hjl:j<b.cs.length:=(aj.1 hj).1;have cG:((j:Int)<(b.cs.length:Int))=True:=sM;have hlt2:((j:Int)<((b.rd.length-0:Nat):Int))=True:=sM;have hsh:=Xl (m:=mask) (k:=j) aH;simp only[eL] at hsh;have hsl:=Xk (k:=j) aH;simp only[eL] at hsl;have hor:=SV hm (n:=2 ^ j) (lA aH aH);obtain⟨p,hP1,hP2⟩:=hP;have hpl:=(aj.1 hP2).1
 have hnP:∀(a0 a1 a2 a3 a4 a5 a6 a7 a8 a9 a10:cI)(X:aC),nth (a0::a1::a2::a3::a4::a5::a6::a7::a8::a9::a10::(s.r.map B2++X)) P=some (cu (cm f)):=fun a0 a1 a2 a3 a4 a5 a6 a7 a8 a9 a10 X=>by
  rw[fc,hP1,show 11+p=p+11 by omega]
  simp only[cS];rw[aO (by simpa using hpl),aX,hP2]; rfl
 have qd:=fun M=>lT (n:=n) (k29 f x.op hf ho M)
 have hae:=G8 hf x.op;simp only[eS,dw] at qd;have fin:=fun bp (he:jo bp NA=AX b mask P j)=>BA (n:=n) (B:=B) (b:=b) (mask:=mask) (P:=P) (j:=j) (s:={ s2 with k:=k2 }) aH hL hP3 he
 have hin':=Kd hin;obtain⟨m2,r2,ov2,ox2,k2'⟩:=s2;simp only at hs2;subst hs2;unfold qV;rw[vu];simp only[AX,NA,lZ,aW,aE,aQ,eb,B2,dw] at fin hin' ⊢;have rm:cp (s.k+1) 8=True:=qH;have hne:k2+1-0=k2+1:=rfl;have hwk:t=false->IntKind.i64.wrap (((k2+1:Nat):Int)-1)=(k2:Int):=fun ht=>by have:=hk3 ht; rw[gv aH aH]; omega
 have hck:((k2:Int)<((k2+1:Nat):Int))=True:=sM;have hkl:(s.k<=s.ox.length)=True:=eq_true hk;have wdT:wid (List.take s.k (List.map mO s.ox)) 1=True:=by rw[<-eb]; exact pk mO _ (fun _=>rfl) _
 rcases he with he|⟨e,y,he,hy,ha⟩
 ·have hce:wa c = -1:=by unfold wa; rw[he]
  cases t
  ·have hwk:=hwk rfl;simp only[Oo,↓wm,↓HE,cG,hlt2,hj,hq,hsh,hsl,hor,rm,wdT,hne,hwk,hck,hkl,hin',hx1,hx2,hnP,Ab,EB,Ef,EC,Eg,ED,jY,kQ,BM,Xi,Lc,lY,yo,E4,wL,CJ,Qc,bZ,aI,aP,zh,u9,Bf,y8,qd,aJ,hx,hce,pf,dw,ET,EW,seval];exact fin _ rfl
  ·simp only[Oo,↓wm,↓HE,cG,hlt2,hj,hq,hsh,hsl,hor,rm,wdT,hne,hck,hkl,hin',hx1,hx2,hnP,Ab,EB,Ef,EC,Eg,ED,jY,kQ,BM,Xi,Lc,lY,yo,E4,wL,CJ,Qc,bZ,aI,aP,zh,u9,Bf,y8,qd,aJ,hx,hce,pf,dw,ET,EW,seval]
   done
 ·have hce:wa c=(e:Int):=by unfold wa; rw[he]
  have qa:=fun M=>lT (n:=n) (lE (k35 (pq f x.op).2 y.ku (by have:=hae.names; omega) (by have:=hae.data; omega) M))
  simp only[ha,dw] at qa;cases t
  ·have hwk:=hwk rfl;simp only[Oo,↓wm,↓HE,cG,hlt2,hj,hq,hsh,hsl,hor,rm,wdT,hne,hwk,hck,hkl,hin',hx1,hx2,hnP,Ab,EB,Ef,EC,Eg,ED,jY,kQ,BM,Xi,Lc,lY,yo,E4,wL,CJ,Qc,bZ,aI,aP,zh,u9,Bf,y8,qd,qa,hy,aJ,hx,hce,pf,dw,ET,EW,seval];exact fin _ rfl
  ·simp only[Oo,↓wm,↓HE,cG,hlt2,hj,hq,hsh,hsl,hor,rm,wdT,hne,hck,hkl,hin',hx1,hx2,hnP,Ab,EB,Ef,EC,Eg,ED,jY,kQ,BM,Xi,Lc,lY,yo,E4,wL,CJ,Qc,bZ,aI,aP,zh,u9,Bf,y8,qd,qa,hy,aJ,hx,hce,pf,dw,ET,EW,seval]
   done
end
section
attribute [local irreducible] eX fM lu gK dX kr aq aU cr bJ
variable {n B:Nat} {b:Bs} {mask P:Nat} {s:TS} {f:aa}
def rowsOf(o:Option (Nat×List aa)):ag:=match o with
 |none => .slice .c0 []
 |some p => .slice (.own p.1) (p.2.map O6)
def NY(o:Option (Nat×List aa)):(rowsOf o).fR = gS (((o.map Prod.snd).getD []).map O6):=by cases o<;>rfl
def anH(f:aa):(cm f).all ag.plainCell=true:=rfl
def adZ(l:List aa):wid (l.map O6) 10=True:=pk O6 _ (fun _=>rfl) l
def JP(o:Option (Nat×List aa)):(rowsOf o).jn=false:=by cases o<;>rfl
def VE(o:Option (Nat×List aa)):ph (.slice .c0 []) false (o.map Lh)=rowsOf o:=by cases o<;>rfl
def IK(hw:(DT .u64 (mask:Int) (b.E:Int)==(b.E:Int))=true):eX (aq (rQ n)) [.tmp 11] B [] (sub Kl 0) (eF 0 (.agg (cm f)::xJ mask::yv)) (lZ b s)=CH B true (lZ b { s with r:=s.r++[.fs f] }):=by
 simp only[yv,lZ,aW,aE,aQ,B2];simp only[Oo,↓anS,hw,wL,EW,seval]
def Dy(hw:(DT .u64 (mask:Int) (b.E:Int)==(b.E:Int))=false)(hf:vg f){x:Bool}(hx:((((eY s.m (mask:Int)).map Prod.snd).getD []).any fun g=>decide (f=g))=x)(hn:(((eY s.m (mask:Int)).map Prod.snd).getD []).length<=900000) :
  eX (aq (rQ n)) [.tmp 11] B [] (sub Kl 0) (eF 0 (.agg (cm f)::xJ mask::yv)) (lZ b s)=if x then CH B false (lZ b { s with r:=s.r++[.fs f] }) else qV n B b mask (s.r.length+11) 0 (lZ b { s with r:=s.r++[.fs f] }):=by
 have qc:=fun {M p} hM=>lT (n:=n) (lE (k32 (((eY s.m (mask:Int)).map Prod.snd).getD []) f hf hn (M:=M) (p:=p) hM))
 rw[hx] at qc;unfold qV;simp only[yv,AX,NA,lZ,aW,aE,aQ,B2] at qc ⊢;cases x
 ·simp only[Oo,↓W8,hw,wL,mapOf.eq_1,xl,VE,NY,JP,qc,Ab,EW,seval];rfl
 ·simp only[Oo,↓W8,hw,wL,mapOf.eq_1,xl,VE,NY,JP,qc,Ab,EW,seval]
def PD(hP:∃p,P=11+p/\s.r[p]?=some (.fs f))(hg:eY s.m (mask:Int)=none):qV n B b mask P b.cs.length (lZ b s)=CH B false (lZ b { s with m:=kR s.m (mask:Int) (s.r.length+11,[f]),r:=s.r++[.tk 1] }):=by
 obtain⟨p,hP1,hP2⟩:=hP;have hpl:=(aj.1 hP2).1
 have hnP:∀(a0 a1 a2 a3 a4 a5 a6 a7 a8 a9 a10:cI),nth (a0::a1::a2::a3::a4::a5::a6::a7::a8::a9::a10::s.r.map B2) P=some (cu (cm f)):=fun a0 a1 a2 a3 a4 a5 a6 a7 a8 a9 a10=>by
  rw[fc,hP1,show 11+p=p+11 by omega]
  simp only[cS];rw[aX,hP2]; rfl
 have hput:=D8 Lh s.m (mask:Int) (s.r.length+11,[f]);simp only[Lh,aE,aQ,O6] at hput;have rm:cp (0+1) 176=True:=qH;unfold qV;rw[vu];simp only[AX,NA,lZ,aW,aE,aQ,B2];simp only[Oo,↓W9,br,hnP,mapOf.eq_1,xl,VE,hg,rowsOf,hput,rm,wL,yo,lY,y8,anH,aJ,adZ,EW,seval]
 done
def LN(hP:∃p,P=11+p/\s.r[p]?=some (.fs f)){id:Nat}{l0:List aa}(hL:C7 11 s.m s.r)(hl0:l0.length<=900000)(hg:eY s.m (mask:Int)=some (id,l0)):qV n B b mask P b.cs.length (lZ b s)=CH B false (lZ b { s with m:=kR s.m (mask:Int) (id,l0++[f]),r:=s.r.set (id-11) (.tk (l0.length+1)) }):=by
 obtain⟨p,hP1,hP2⟩:=hP;have hpl:=(aj.1 hP2).1
 have hnP:∀(a0 a1 a2 a3 a4 a5 a6 a7 a8 a9 a10:cI),nth (a0::a1::a2::a3::a4::a5::a6::a7::a8::a9::a10::s.r.map B2) P=some (cu (cm f)):=fun a0 a1 a2 a3 a4 a5 a6 a7 a8 a9 a10=>by
  rw[fc,hP1,show 11+p=p+11 by omega]
  simp only[cS];rw[aX,hP2]; rfl
 obtain⟨i,hi1,hi2⟩:=hL.at' _ _ _ hg
 have hnI:∀(a0 a1 a2 a3 a4 a5 a6 a7 a8 a9 a10:cI),nth (a0::a1::a2::a3::a4::a5::a6::a7::a8::a9::a10::s.r.map B2) id=some (.tick 10 l0.length):=fun a0 a1 a2 a3 a4 a5 a6 a7 a8 a9 a10=>by
  rw[fc,hi1,show 11+i=i+11 by omega]
  simp only[cS];rw[aX,hi2]; rfl
 have hsI:∀(a0 a1 a2 a3 a4 a5 a6 a7 a8 a9 a10:cI)(k:Nat),iP (a0::a1::a2::a3::a4::a5::a6::a7::a8::a9::a10::s.r.map B2) id (.tick 10 k)=a0::a1::a2::a3::a4::a5::a6::a7::a8::a9::a10::(s.r.set (id-11) (.tk k)).map B2:=fun a0 a1 a2 a3 a4 a5 a6 a7 a8 a9 a10 k=>by
  rw[fi,hi1,show 11+i=i+11 by omega,show i+11-11=i by omega,gF]; rfl
 have hput:=D8 Lh s.m (mask:Int) (id,l0++[f]);simp only[Lh,aW,aE,aQ,O6] at hput;have e1:ph (.slice .c0 []) false (some (Lh (id,l0))) = .slice (.own id) (l0.map O6):=rfl;have rm:cp (l0.length+1) 176=True:=qH;unfold qV;rw[vu];simp only[AX,NA,lZ,aW,aE,aQ,B2];simp only[Oo,↓W9,br,hnP,hnI,hsI,mapOf.eq_1,xl,hg,eo,e1,hput,rm,wL,yo,lY,y8,anH,aJ,adZ,EW,seval]
 done
end
def Tb(W:Nat):Nat->Nat
 |0=>0
 |r+1=>1+min r W*Tb W r
def GY(cs:List xN)(i:Nat):Nat:=match cs[i]? with
 |some c=>c.b
 |none=>0
structure Lk(b:Bs):Prop where
 len:b.cs.length<=60
 E:b.E=bitsOf (fun k=>match b.cs[k]? with|some c=>c.e.isSome|none=>false) b.cs.length
 rdl:b.rd.length=b.cs.length
 rd:∀j,j<b.cs.length->b.rd[j]?=some (bitsOf (fun k=>Hs.lM b.cs k j) b.cs.length)
 ev:∀c,c∈b.cs->∃x,b.l[c.b]?=some x/\x.op=c.op/\sr c.op
 nd:∀c,c∈b.cs->∀e,c.e=some e->∃y,b.l[e]?=some y/\y.ku=c.ku
structure Mv(b:Bs)(s s':TS)(lost:Hs.uB aa)(t:Nat)(x:Option (List Nat)×Hs.uB aa):Prop where
 lt:C7 11 s'.m s'.r
 lr:LR s'.m x.2
 len:x.2.length<=lost.length+t
 kept:Kept s.r s'.r
 k:s'.k<=s'.ox.length
 out:s'.ox.take s'.k=s.ox.take s.k++(x.1.getD []).map (GY b.cs)
def Mv.kk{b:Bs}{s s':TS}{lost:Hs.uB aa}{t:Nat}{x:Option (List Nat)×Hs.uB aa}(h:Mv b s s' lost t x)(hk:s.k<=s.ox.length):s'.k=s.k+(x.1.getD []).length:=by
 have:=congrArg List.length h.out;rw[aA,cq,cq,dU,ir h.k] at this;omega
def abK(W:Nat)(b:Bs)(n r:Nat):Prop:=∀(f:aa)(K:Nat)(done:List Nat)(lost:Hs.uB aa)(s:TS),b.cs.length+1=done.length+r->FB K f->K+200*r<=89000->Hs.Good b.cs done->C7 11 s.m s.r->LR s.m lost->lost.length+Tb W r<=900000->s.k<=s.ox.length->s.k+r<=900 ->
 ∃s',gT n (.agg (cm f)::xJ (jg done)::yv) (lZ b s)=some (.bool (Hs.wN pq jg b.cs n f done lost).1.isSome,lZ b s')/\Mv b s s' lost (Tb W r) (Hs.wN pq jg b.cs n f done lost)
def tE{b:Bs}(h:Lk b){done:List Nat}(hg:Hs.Good b.cs done):jg done<2 ^ 64:=aaL fun k hk=>by have:=hg.lt k hk; have:=h.len; omega
def afr{b:Bs}(h:Lk b){done:List Nat}(hg:Hs.Good b.cs done)(j:Nat):(DT .u64 ((jg done >>> j:Nat):Int) 1==1)=done.contains j:=by
 rw[akF (tE h hg),nR]
theorem afs{b:Bs}(h:Lk b){done:List Nat}(hg:Hs.Good b.cs done)(j:Nat):(Hi .u64 ((bitsOf (fun k=>Hs.lM b.cs k j) b.cs.length:Nat):Int) (jg done:Int) != 0) = !((List.range b.cs.length).all fun k => !Hs.lM b.cs k j||done.contains k):=by
 have hn:=h.len;have hl:=xV (fun k=>Hs.lM b.cs k j) (n:=b.cs.length) aH
 rw[aft hl (tE h hg)];have hz:=Rh hl (tE h hg);rw[bne,Bool.not_inj_iff,cE,eG,bM];have e:((KO (bitsOf (fun k=>Hs.lM b.cs k j) b.cs.length) (jg done):Nat):Int)=0↔KO (bitsOf (fun k=>Hs.lM b.cs k j) b.cs.length) (jg done)=0:=dy
 rw[e,hz];constructor
 ·intro h1 k hk;cases ha:Hs.lM b.cs k j
  ·rfl
  simp_all [vm,nR,er]
 ·intro h1 k hk;rw[vm] at hk;simp only[bw,bh] at hk;have:=h1 k (gb.2 hk.1);rw[hk.2] at this;rw[nR]
  grind
theorem amb{b:Bs}(h:Lk b){done:List Nat}(hg:Hs.Good b.cs done):(DT .u64 (jg done:Int) (b.E:Int)==(b.E:Int))=Hs.BP b.cs done:=by
 have hn:=h.len;have hl:=xV (fun k=>match b.cs[k]? with|some c=>c.e.isSome|none=>false) (n:=b.cs.length) aH
 rw[<-h.E] at hl;have ht:∀k,b.E.testBit k=(decide (k<b.cs.length)&&(match b.cs[k]? with|some c=>c.e.isSome|none=>false)):=fun k=>by rw[h.E,vm]
 rw[SI (tE h hg) hl,cE,eG];have e:((jg done &&& b.E:Nat):Int)=(b.E:Int)↔jg done &&& b.E=b.E:=aH;rw[e,Yk];unfold Hs.BP;rw[bM];constructor
 ·intro h1 k hk;rw[gb] at hk;have h2:=h1 k;rw[ht,nR] at h2;have hc:=ai hk;generalize b.cs[k]=c at hc;rw[hc] at h2 ⊢;obtain⟨cb,ce,co,ca⟩:=c;cases ce<;>grind
 ·intro h1 k hk;rw[ht] at hk;simp only[bw,bh] at hk;obtain⟨hk1,hk2⟩:=hk;have h2:=h1 k (gb.2 hk1);have hc:=ai hk1;generalize b.cs[k]=c at hc;rw[nR];obtain⟨cb,ce,co,ca⟩:=c;cases ce<;>grind
def E3(cs:List xN)(done is:List Nat):Nat:=(is.filter fun i=>Hs.Ea cs done i).length
theorem O0(cs:List xN)(done is:List Nat)(i:Nat):E3 cs done (i::is)=(if Hs.Ea cs done i then 1 else 0)+E3 cs done is:=by
 grind [E3]
theorem aaM{cs:List xN}{done:List Nat}{i:Nat}(h:Hs.Ea cs done i=true):done.contains i=false:=by
 grind [Hs.Ea]
theorem Iy{cs:List xN}{done:List Nat}(hg:Hs.Good cs done):E3 cs done (List.range cs.length)+done.length<=cs.length:=by
 have:Hs.Good cs (((List.range cs.length).filter fun i=>Hs.Ea cs done i)++done):=by
  refine⟨lh.2 ⟨List.nodup_range.filter _,hg.nodup,fun a ha b' hb e=>?_⟩,fun k hk=>?_⟩
  ·have:=aaM (ei.1 ha).2
   grind
  ·rcases bm.1 hk with hk|hk
   ·grind
   ·exact hg.lt k hk
 have:=this.len;rw[aA] at this;exact this
theorem aaJ{W:Nat}{b:Bs}(h:Lk b){n r:Nat}(IH:abK W b n r){f:aa}{K P:Nat}{done:List Nat}(hr:b.cs.length+1=done.length+(r+1))(hf:FB K f)(hK:K+200*(r+1)<=89000)(hg:Hs.Good b.cs done) :
  ∀(m j:Nat)(lost:Hs.uB aa)(s:TS),j+m=b.cs.length->C7 11 s.m s.r->LR s.m lost->lost.length+E3 b.cs done (List.range' j m)*Tb W r+1<=900000->(∃p,P=11+p/\s.r[p]?=some (.fs f))->s.k<=s.ox.length->s.k+(r+1)<=900 ->
  ∃s',Mv b s s' lost (E3 b.cs done (List.range' j m)*Tb W r) (Hs.Ja pq b.cs (Hs.wN pq jg b.cs n) f done (List.range' j m) lost) /\
   ∀B,qV n B b (jg done) P j (lZ b s)=if (Hs.Ja pq b.cs (Hs.wN pq jg b.cs n) f done (List.range' j m) lost).1.isSome=true then CH B true (lZ b s') else qV n B b (jg done) P b.cs.length (lZ b s'):=by
 intro m;induction m with
 |zero =>
  intro j lost s hj hL hR _ _ hk _;refine⟨s,⟨hL,hR,by simp[Hs.Ja],.rfl,hk,by simp[Hs.Ja]⟩,fun B=>?_⟩
  rw[<-hj];simp[Hs.Ja]
 |succ m ih =>
  intro j lost s hj hL hR hc hP hk hk9;have hjl:j<b.cs.length:=aH;have hcj:=ai hjl;generalize b.cs[j]=c at hcj;have hcm:c∈b.cs:=aK hcj;have dJ:=h.len;obtain⟨p,hp1,hp2⟩:=hP;have hpl:=(aj.1 hp2).1;have hx1:=afr h hg j;have hx2:=afs h hg j;have hmk:=tE h hg;rw[List.range'_succ] at hc ⊢;rw[O0] at hc ⊢;have hmay:Hs.Ea b.cs done j=(!done.contains j&&(List.range b.cs.length).all fun k => !Hs.lM b.cs k j||done.contains k):=rfl
  generalize hX:Hs.Ja pq b.cs (Hs.wN pq jg b.cs n) f done (j::List.range' (j+1) m) lost=X;rw[Hs.Ja,hcj] at hX;simp only at hX;cases hm:Hs.Ea b.cs done j
  ·-- it may not come
   rw[hm] at hc;simp only[af,aD,aG] at hc ⊢;obtain⟨s',ha,hh⟩:=ih (j+1) lost { s with r:=s.r++[.cl c] } aH (hL.app _) hR hc ⟨p,hp1,by rw[aO hpl]; exact hp2⟩ hk hk9
   rw[hm,dW,aR dy] at hX;subst hX;refine⟨s',⟨ha.lt,ha.lr,ha.len,(Kept.app _ _).trans ha.kept,ha.k,ha.out⟩,fun B=>?_⟩
   rw[step_skip dJ hcj hL aH h.rdl (h.rd j hjl) hx1 hx2 (by
    rw[hm] at hmay;have:=hmay.symm;cases hd:done.contains j
    ·rw[hd] at this;simpa using this
    ·rfl)]
   exact hh B
  ·rw[hm] at hmay hX hc
   have hnd:done.contains j=false:=by
    cases hd:done.contains j
    ·rfl
    ·rw[hd] at hmay; cases hmay
   have hall:((List.range b.cs.length).all fun k => !Hs.lM b.cs k j||done.contains k)=true:=by
    rw[hnd] at hmay; simpa using hmay.symm
   rw[hnd] at hx1;rw[hall] at hx2;obtain⟨x,hx,hxo,hoo⟩:=h.ev c hcm;simp only[aJ] at hc ⊢;rw[bP,fL] at hc ⊢;cases ha:Hs.KE pq f c
   ·-- it answers otherwise
    have hansF:=ha;simp only[Hs.KE,jP] at ha;obtain⟨ha1,ha2⟩:=ha
    obtain⟨e,he⟩:∃e,c.e=some e:=by
     cases he:c.e with
     |none=>rw[he] at ha1; cases ha1
     |some e=>exact⟨e,rfl⟩
    obtain⟨y,hy,hya⟩:=h.nd c hcm e he;obtain⟨s',hA,hh⟩:=ih (j+1) lost { s with r:=s.r++[.cl c,.fs (pq f x.op).1,.an (pq f x.op).2] } aH (hL.app _) hR aH ⟨p,hp1,by rw[aO hpl]; exact hp2⟩ hk hk9
    rw[hansF,dV,aR dy] at hX;subst hX;refine⟨s',⟨hA.lt,hA.lr,by have:=hA.len; omega,(Kept.app _ _).trans hA.kept,hA.k,hA.out⟩,fun B=>?_⟩
    rw[Xu dJ hcj hL ⟨p,hp1,hp2⟩ h.rdl (h.rd j hjl) hx1 hx2 hf.ok hx (by rw[hxo]; exact hoo) he hy (by rw[hxo,hya]; exact ha2)]
    exact hh B
   ·-- it may be the next one
    rw[ha,jO,aZ rfl] at hX;have hfb:=RG hf aH c.op
    have hg':Hs.Good b.cs (done++[j]):=by
     refine⟨lh.2 ⟨hg.nodup,dy,fun a ha' b' hb e=>?_⟩,fun k hk=>?_⟩
     ·grind
     ·rcases bm.1 hk with hk|hk
      ·exact hg.lt k hk
      ·simp at hk; omega
    obtain⟨s2,hin,hA⟩:=IH (pq f c.op).1 (K+200) (done++[j]) lost ⟨s.m,s.r++[.cl c,.fs (pq f c.op).1,.an (pq f c.op).2],s.ov+1,s.ox.take s.k++[c.b],s.k+1⟩ (by rw[aA]; simp; omega) hfb aH hg' (hL.app _) hR aH (by rw[aA,cq,ir hk]; simp) (by simp only; omega)
    have hk0:(⟨s.m,s.r++[.cl c,.fs (pq f c.op).1,.an (pq f c.op).2],s.ov+1,s.ox.take s.k++[c.b],s.k+1⟩:TS).k<=(s.ox.take s.k++[c.b]).length:=by rw[aA,cq,ir hk]; simp
    have hkk:=hA.kk hk0;have hout:=hA.out;rw[<-PN] at hin;have hkept:=(Kept.app s.r [.cl c,.fs (pq f c.op).1,.an (pq f c.op).2]).trans hA.kept;have hP2:s2.r[p]?=some (.fs f):=hkept.at' p _ hp2 (fun _ h=>by cases h)
    have hst:∀B,_:=fun B=>Qo (n:=n) (B:=B) (P:=P) dJ hcj ⟨p,hp1,hp2⟩ h.rdl (h.rd j hjl) hx1 hx2 hmk hk aH hf.ok hx (by rw[hxo]; exact hoo) (by
     rw[hxo];simp only[Hs.KE,cW] at ha;cases he:c.e with
     |none=>exact .inl rfl
     |some e =>
      obtain⟨y,hy,hya⟩:=h.nd c hcm e he
      grind) (s2:=s2) (k2:=s2.k-1) (t:=(Hs.wN pq jg b.cs n (pq f c.op).1 (done++[j]) lost).1.isSome) (by simp only at hkk; omega) (fun ht=>by
      have e:(Hs.wN pq jg b.cs n (pq f c.op).1 (done++[j]) lost).1=none:=by
       simp_all
      rw[e] at hkk;simp at hkk; omega) hA.lt (by have:=hkept.len; omega) (by rw[hxo]; exact hin)
    generalize Hs.wN pq jg b.cs n (pq f c.op).1 (done++[j]) lost=T at hA hkk hout hst hX;obtain⟨o,l⟩:=T;cases o with
    |some o =>
     simp only at hX;subst hX;simp only[bX,aJ] at hst ⊢;refine⟨s2,⟨hA.lt,hA.lr,by have:=hA.len; simp only at this ⊢; omega,hkept,hA.k,?_⟩,hst⟩
     rw[hout];simp only[bA,aE];rw[bC (by rw[aA,cq,ir hk]; simp),bZ]
     simp only[GY,hcj,aI,aP]
    |none =>
     simp only at hX;subst hX;simp only[dg,af,aD,iH,aQ,cX,az,c8] at hst hout hkk ⊢;have hk1:s2.k-1=s.k:=aH;rw[hk1] at hst
     have htk:s2.ox.take s.k=s.ox.take s.k:=by
      have:=congrArg (List.take s.k) hout;rw[List.take_take,ir aH] at this;rw[this,bC (l:=s.ox.take s.k++[c.b]) (by rw[aA,cq,ir hk]; simp),eM (by rw[cq,ir hk]; exact au _),List.take_take,Nat.min_self]
     have hA2:=hA.len;simp only at hA2;obtain⟨s',hA3,hh⟩:=ih (j+1) l { s2 with k:=s.k } aH hA.lt hA.lr aH ⟨p,hp1,hP2⟩ (by have:=hA.k; simp only; omega) hk9
     refine⟨s',⟨hA3.lt,hA3.lr,by have:=hA3.len; omega,hkept.trans hA3.kept,hA3.k,?_⟩,fun B=>(hst B).trans (hh B)⟩
     rw[hA3.out];simp only[htk]
def DZ{b:Bs}{n:Nat}{a:List ag}{s s':TS}{t:Bool}(hl:a.length=9)(h:∀B,eX (aq (rQ n)) [.tmp 11] B [] (sub Kl 0) (eF 0 a) (lZ b s)=CH B t (lZ b s'))(hL:C7 11 s'.m s'.r)(hk:s.r.length<=s'.r.length):gT (n+1) a (lZ b s)=some (.bool t,lZ b s'):=by
 have:=Zg (C:=aq (rQ n)) (fn:=afi) (args:=a) (M:=lZ b s) (M':=lZ b s') (v := .bool t) (by rw[hl]; rfl) h (by rw[z6,z6]; omega)
 rw[Fu b hL] at this;exact this
def XB{W:Nat}{b:Bs}(h:Lk b)(hW:∀done,Hs.Good b.cs done->E3 b.cs done (List.range b.cs.length)<=W):∀n r:Nat,r<=n->abK W b n r
 |n,0,_=>fun f K done lost s hr _ _ hg=>by have:=hg.len; omega
 |0,r+1,hn=>aH
 |n+1,r+1,hn=>fun f K done lost s hr hf hK hg hL hR hc hk hk9=>by
  have hmk:=tE h hg;have hw:=amb h hg;rw[Hs.wN];rw[Tb] at hc ⊢;cases hwb:Hs.BP b.cs done
  rotate_left
  ·rw[aZ rfl];refine⟨{ s with r:=s.r++[.fs f] },DZ rfl (fun B=>IK (by rw[hw,hwb])) (hL.app _) dy,⟨hL.app _,hR,dy,Kept.app _ _,hk,dy⟩⟩
  rw[aR dy];have hany:=hR.any (jg done) f
  have hrows:(((eY s.m (jg done:Int)).map Prod.snd).getD []).length<=lost.length:=by
   rw[hR (jg done),dU]; exact bT _ _
  cases hla:lost.any (fun p=>p.1==jg done&&decide (p.2=f))
  rotate_left
  ·rw[aZ rfl];rw[hla] at hany;refine⟨{ s with r:=s.r++[.fs f] },DZ rfl (fun B=>?_) (hL.app _) dy,⟨hL.app _,hR,dy,Kept.app _ _,hk,dy⟩⟩
   rw[Dy (x:=true) (by rw[hw,hwb]) hf.ok hany.symm aH]
   rfl
  rw[aR dy];rw[hla] at hany;have hcn:=Iy hg;have hcw:=hW done hg;rw[ly] at hcn hcw ⊢;have hcb:E3 b.cs done (List.range' 0 b.cs.length)*Tb W r<=min r W*Tb W r:=bd _ aH;obtain⟨s1,hA,hh⟩:=aaJ h (XB h hW n r aH) (P:=11+s.r.length) hr hf hK hg b.cs.length 0 lost { s with r:=s.r++[.fs f] } aH (hL.app _) hR aH ⟨s.r.length,rfl,dy⟩ hk hk9
  generalize Hs.Ja pq b.cs (Hs.wN pq jg b.cs n) f done (List.range' 0 b.cs.length) lost=X at hA hh;obtain⟨o,l⟩:=X
  have hen:∀B,eX (aq (rQ n)) [.tmp 11] B [] (sub Kl 0) (eF 0 (.agg (cm f)::xJ (jg done)::yv)) (lZ b s)=qV n B b (jg done) (11+s.r.length) 0 (lZ b { s with r:=s.r++[.fs f] }):=fun B=>by
   rw[Dy (x:=false) (by rw[hw,hwb]) hf.ok hany.symm aH,Nat.add_comm]
   rfl
  have hk1:=(Kept.app s.r [.fs f]).trans hA.kept;cases o with
  |some o =>
   simp only[bX,aJ] at hh ⊢;refine⟨s1,DZ rfl (fun B=>(hen B).trans (hh B)) hA.lt hk1.len,⟨hA.lt,hA.lr,by have:=hA.len; simp only at this ⊢; omega,hk1,hA.k,hA.out⟩⟩
  |none =>
   simp only[dg,af,aD] at hh ⊢;have hP1:s1.r[s.r.length]?=some (.fs f):=hA.kept.at' s.r.length _ dy (fun _ h=>by cases h)
   have hlr:=hA.lr;have dJ:=hA.len;simp only at hlr dJ
   have hrows1:(((eY s1.m (jg done:Int)).map Prod.snd).getD []).length<=l.length:=by
    rw[hlr (jg done),dU]; exact bT _ _
   have hadd:=fun id=>hlr.add (jg done) f id
   cases hgm:eY s1.m (jg done:Int) with
   |none =>
    have hadd:=hadd (s1.r.length+11);rw[hgm] at hadd;have cG:=hA.lt.new hgm f;rw[Nat.add_comm 11] at cG;refine⟨{ s1 with m:=kR s1.m (jg done:Int) (s1.r.length+11,[f]),r:=s1.r++[.tk 1] },DZ rfl (fun B=>(hen B).trans ((hh B).trans (PD ⟨_,rfl,hP1⟩ hgm))) cG (by have:=hk1.len; simp only[aA]; omega),⟨cG,hadd,by simp only[aA,aw,az]; omega,hk1.trans (Kept.app _ _),hA.k,hA.out⟩⟩
   |some v =>
    obtain⟨id,l0⟩:=v;have hadd:=hadd id;rw[hgm] at hadd hrows1;have cG:=hA.lt.more hgm f;obtain⟨i,hi1,hi2⟩:=hA.lt.at' _ _ _ hgm
    have hks:Kept s1.r (s1.r.set (id-11) (.tk (l0.length+1))):=by
     rw[show id-11=i by omega]
     exact Kept.set hi2 _
    refine⟨{ s1 with m:=kR s1.m (jg done:Int) (id,l0++[f]),r:=s1.r.set (id-11) (.tk (l0.length+1)) },DZ rfl (fun B=>(hen B).trans ((hh B).trans (LN ⟨_,rfl,hP1⟩ hA.lt (by simp only[eo,bA] at hrows1; omega) hgm))) cG (by have:=(hk1.trans hks).len; exact this),⟨cG,hadd,by simp only[aA,aw,az]; omega,hk1.trans hks,hA.k,hA.out⟩⟩
abbrev Hk(cs:List xN)(k:Nat):Bool:=match cs[k]? with
 |some c=>c.e.isSome
 |none=>false
theorem N0{α:Type}{P:List α->Prop}(h0:P [])(h1:∀l x,P l->P (l++[x]))(l:List α):P l:=by
 rw[<-l.reverse_reverse];induction l.reverse<;>grind
theorem zD(l:List mV):∀c,c∈(cf l).cs->(∃x,l[c.b]?=some x/\x.op=c.op/\x.kind=1)/\∀e,c.e=some e->∃y,l[e]?=some y/\y.ku=c.ku:=by
 refine N0 (P:=fun l=>∀c,c∈(cf l).cs->(∃x,l[c.b]?=some x/\x.op=c.op/\x.kind=1)/\∀e,c.e=some e->∃y,l[e]?=some y/\y.ku=c.ku) ?_ ?_ l
 ·simp[cf,Hs.dz]
 ·intro l x ih c hc;rw[nk] at hc;have last:(l++[x])[l.length]?=some x:=dy
  have hold:∀c,c∈(cf l).cs->(∃y,(l++[x])[c.b]?=some y/\y.op=c.op/\y.kind=1)/\∀e,c.e=some e->∃y,(l++[x])[e]?=some y/\y.ku=c.ku:=fun c hc=>by
   grind
  unfold Hs.iA at hc;split at hc
  ·rename_i hb;simp only[bm,bS] at hc;rcases hc with hc|hc
   ·exact hold c hc
   ·subst hc;simp only[vp];refine⟨⟨x,last,rfl,?_⟩,fun e he=>jK⟩
    simpa[wM] using hb
  ·simp only at hc;obtain⟨i,hi⟩:=List.mem_iff_getElem?.1 hc;rw[hZ] at hi;cases hci:(cf l).cs[i]? with
   |none=>rw[hci] at hi; cases hi
   |some d =>
    have hd:=hold d (aK hci);rw[hci] at hi;simp only[Option.map_eq_map,eo] at hi;split at hi
    ·cases hi;refine⟨hd.1,fun e he=>?_⟩
     simp only[vp] at he;cases he;exact⟨x,last,rfl⟩
    ·cases hi;exact hd
structure vj(n K:Nat)(f:aa)(l:List mV):Prop where
 h:aiI l
 fb:FB K f
 QH:(cf l).cs.length<=12
 tb:∃W,(∀done,Hs.Good (cf l).cs done->E3 (cf l).cs done (List.range (cf l).cs.length)<=W)/\Tb W ((cf l).cs.length+1)<=900000
 n:(cf l).cs.length+1<=n
 K:K<=80000
 ops:∀c,c∈(cf l).cs->sr c.op
def HC(cs:List xN)(i k:Nat):List Nat:=(List.range cs.length).map fun j=>if j<i then bitsOf (fun k=>Hs.lM cs k j) cs.length else if j=i then bitsOf (fun k=>Hs.lM cs k i) k else 0
def bOf(f:aa)(l:List mV):Bs:=⟨f,l,(cf l).cs,bitsOf (Hk (cf l).cs) (cf l).cs.length,0,HC (cf l).cs (cf l).cs.length 0⟩
theorem C0(cs:List xN)(i k:Nat):(HC cs i k).length=cs.length:=by simp[HC]
def HD{cs:List xN}{i k j:Nat}(hj:j<cs.length):(HC cs i k)[j]?=some (if j<i then bitsOf (fun k=>Hs.lM cs k j) cs.length else if j=i then bitsOf (fun k=>Hs.lM cs k i) k else 0):=by
 simp_all [HC]
theorem WU(cs:List xN)(i:Nat):HC cs i cs.length=HC cs (i+1) 0:=by
 refine cT fun j hj=>?_
 by_cases h1:j<i
 ·rw[aZ h1,aZ aH]
 ·rw[aR h1]
  by_cases h2:j=i
  ·grind
  ·rw[aR h2,aR aH]
   by_cases h3:j=i+1
   ·rw[aZ h3]; rfl
   grind
theorem WV(cs:List xN):HC cs 0 0=List.replicate cs.length 0:=by
 unfold HC;refine cA fun j=>?_
 rw[aX,iU]
 by_cases hj:j<cs.length
 ·rw[ji hj];simp only[eo,jJ,aD];split<;>rfl
 grind
theorem JT{cs:List xN}{i k:Nat}(h:Hs.lM cs k i=false):HC cs i (k+1)=HC cs i k:=by
 grind [HC,bitsOf]
theorem abh{cs:List xN}{i k:Nat}(h:Hs.lM cs k i=true):(HC cs i k).set i (bitsOf (fun k=>Hs.lM cs k i) k ||| 2 ^ k)=HC cs i (k+1):=by
 refine cA fun j=>?_
 rcases bz j _ with hj|hj
 ·rw[gJ,HD hj,HD hj,C0]
  by_cases h1:i=j
  ·subst h1;rw[aZ rfl,aZ hj,aR (ia _),aZ rfl,bitsOf,h,aZ rfl]
  grind
 grind [C0]
def am1{n K:Nat}{f:aa}{l:List mV}(h:vj n K f l):Lk (bOf f l):=by
 refine⟨by have:=h.QH; show(cf l).cs.length<=60; omega,rfl,C0 _ _ _,fun j hj=>?_,fun c hc=>?_,fun c hc e he=>?_⟩
 ·show(HC _ _ 0)[j]?=_
  have hj:j<(cf l).cs.length:=hj;rw[HD hj,aZ hj]; rfl
 ·obtain⟨x,h1,h2,_⟩:=(zD l c hc).1;exact⟨x,h1,h2,h.ops c hc⟩
 ·exact(zD l c hc).2 e he
def aiN:∀r,r<=9->Tb 60 r<=900000:=mi
def XA{cs:List xN}(h:cs.length<=8):∃W,(∀done,Hs.Good cs done->E3 cs done (List.range cs.length)<=W)/\Tb W (cs.length+1)<=900000 :=
 ⟨60,fun done hg=>by have:=Iy hg; omega,aiN _ aH⟩
noncomputable def xx(n:Nat)(f:aa)(l:List mV):Option (List Nat):=(Hs.wN pq jg (cf l).cs n f [] []).1
section
attribute [local irreducible] eX fM lu gK dX kr aq aU cr bJ
theorem MP(c:xN):decide (0<=wa c)=c.e.isSome:=by
 grind [wa]
def c15{n K:Nat}{f:aa}{l:List mV}(h:vj n K f l):aq (rQ n) 15 [.agg (cm f),tW l] []=some (.tuple [gS (((xx n f l).getD []).map fun i=>mO (GY (cf l).cs i)),.bool (xx n f l).isSome],[]):=by
 have hfew:=h.QH;have qc:=fun M=>lT (n:=n) (lE (cO (c30 h.h) M))
 refine aB ?_;have hn:(cf l).cs.length<=12:=h.QH;obtain⟨W,hW,hTb⟩:=h.tb;simp only[afg,QR,qc,EW,seval]
 refine qJ (xs:=(cf l).cs) aH (fun i (E:Nat)=>E=bitsOf (Hk (cf l).cs) i) (fun _ _=>()) (fun _ i=>[(2,ct 0),(3,ct 1),(6,ct 2),(7,ct 3),(20,gS ((cf l).cs.map qm)),(21,aF (cf l).cs.length),(22,aF i)])
  (fun E=>[cu (cm f),cu [tW l],cu [gS ((cf l).cs.map qm)],cu [xJ E]]) (fun _=>_) (fun E hE=>?_) (fun pre x post E e hx cG hw h0 hm hE hi=>?_) 0 rfl
 ·have rmn:cp (cf l).cs.length 8=True:=qH;have hrep:List.replicate (cf l).cs.length (ag.agg [ag.int IntKind.u64 0]).norm=(HC (cf l).cs 0 0).map xJ:=by rw[WV,gW]; rfl
  simp only[QR,br,rmn,hrep,EW,seval]
  refine qJ (xs:=(cf l).cs) aH (fun i (rd:List Nat)=>rd=HC (cf l).cs i 0) (fun _ _=>()) (fun _ i=>[(2,ct 0),(3,ct 1),(6,ct 2),(7,ct 3),(10,ct 5),(38,gS ((cf l).cs.map qm)),(39,aF (cf l).cs.length),(40,aF i)])
   (fun rd=>[cu (cm f),cu [tW l],cu [gS ((cf l).cs.map qm)],cu [xJ E],.arr 1 0 (rd.map xJ),cu [.cv 4 0 1 0 (cf l).cs.length]]) (fun _=>_) (fun rd hrd=>?_) (fun pre x post rd e hx cG hw h0 hm hrd hi=>?_) (HC (cf l).cs 0 0) rfl
  ·obtain⟨s',hin,hA⟩:=XB (W:=W) (am1 h) hW n ((cf l).cs.length+1) h.n f K [] [] ⟨[],[],0,[],0⟩ (by show(cf l).cs.length+1=_; simp) h.fb (by have:=h.K; omega) ⟨lx,fun k hk=>by cases hk⟩ (C7.nil 11 []) (fun k=>rfl) jK (au _) (by simp only; omega)
   have hin':=Kd hin;have ho:xx n f l=(Hs.wN pq jg (bOf f l).cs n f [] []).1:=rfl;rw[ho];generalize Hs.wN pq jg (bOf f l).cs n f [] []=X at hin' hA;obtain⟨o,lo⟩:=X;have hout:=hA.out;have hk:=hA.k;obtain⟨m2,r2,ov2,ox2,k2⟩:=s';simp only[lZ,bOf,jg,yv,aQ,C0,show eKu ([]:SM)=[] from rfl,show pb Lh []=[] from rfl,show xJ 0 = .int .u64 0 from rfl] at hin'
   subst hE;subst hrd;simp only[List.take_nil,aP] at hout hk;cases o with
   |none =>
    simp only[dg] at hin';simp only[QR,br,lY,yo,hin',EW,seval];rfl
   |some ord =>
    simp only[bX] at hin'
    have hso:List.take k2 (List.map mO ox2)=ord.map fun i=>mO (GY (cf l).cs i):=by
     rw[<-eb,hout,gD]; rfl
    simp only[QR,br,lY,yo,hin',hso,EW,seval];rfl
  ·have hpl:=(aj.1 hx).1;simp only[QR,cG,hx,jY,kQ,BM,Bf,EW,seval]
   refine qJ (xs:=(cf l).cs) aH (fun k (rd:List Nat)=>rd=HC (cf l).cs pre.length k) (fun _ _=>()) (fun _ k=>[(2,ct 0),(3,ct 1),(6,ct 2),(7,ct 3),(10,ct 5),(11,mO pre.length),(12,ct 6),(38,gS ((cf l).cs.map qm)),(39,aF (cf l).cs.length),(40,mO pre.length),(45,gS ((cf l).cs.map qm)),(46,aF (cf l).cs.length),(47,aF k)])
    (fun rd=>[cu (cm f),cu [tW l],cu [gS ((cf l).cs.map qm)],cu [xJ E],.arr 1 0 (rd.map xJ),cu [.cv 4 0 1 0 (cf l).cs.length],cu (qy x)]) (fun _=>_) (fun rd' hrd'=>?_) (fun pre' y post' rd' e' hy hlt' hw' h0' hm' hrd' hi'=>?_) rd hrd
   ·have i1:=hi rd' (by rw[hrd',WU])
    simp only[QR,br,hw,EW,seval];exact i1
   ·have hpl':=(aj.1 hy).1;have hen:=MP y;have hah:Hs.lM (cf l).cs pre'.length pre.length=(match y.e with|some e=>decide (e<x.b)|none=>false):=by simp only[Hs.lM,hx,hy]<;>cases y.e<;>rfl
    have hat:rd'[pre.length]?=some (bitsOf (fun k=>Hs.lM (cf l).cs k pre.length) pre'.length):=by rw[hrd',HD hpl,aR (ia _),aZ rfl]
    have hlr:((pre.length:Int)<(((cf l).cs.length-0:Nat):Int))=True:=cG;have hsl:=Xk (k:=pre'.length) aH;simp only[eL] at hsl;have hor:=SV (xV (fun k=>Hs.lM (cf l).cs k pre.length) (n:=pre'.length) aH) (n:=2 ^ pre'.length) (lA aH aH)
    cases hye:y.e with
    |none =>
     rw[hye] at hen hah;have i1:=hi' rd' (by rw[hrd',JT hah])
     simp only[QR,hlt',hy,hw',hen,dg,jY,kQ,BM,u9,Bf,EW,seval];exact i1
    |some e2 =>
     have hce:wa y=(e2:Int):=by unfold wa; rw[hye]
     rw[hye] at hen hah;cases hd:decide (e2<x.b)
     ·have i1:=hi' rd' (by rw[hrd',JT (hah.trans hd)])
      have hd2:decide ((e2:Int)<(x.b:Int))=false:=by simp at hd ⊢; omega
      simp only[QR,hlt',hy,hw',hce,hd2,jY,kQ,BM,zh,u9,Bf,EW,seval];exact i1
     ·have i1:=hi' (rd'.set pre.length (bitsOf (fun k=>Hs.lM (cf l).cs k pre.length) pre'.length ||| 2 ^ pre'.length)) (by rw[hrd',abh (hah.trans hd)])
      have hd2:decide ((e2:Int)<(x.b:Int))=true:=by simp at hd ⊢; omega
      simp only[gF] at i1;have hsr:∀v,iP (List.map xJ rd') pre.length v=(List.map xJ rd').set pre.length v:=fun v=>fi _ _ _
      simp only[QR,hlt',hy,hw',hce,hd2,hlr,hat,hsl,hor,hsr,jY,kQ,BM,zh,u9,Bf,EW,seval];exact i1
 ·have hpl:=(aj.1 hx).1;have hEl:E<2 ^ 64:=by rw[hE]; exact xV _ aH
  have hsl:=Xk (k:=pre.length) aH;simp only[eL] at hsl;have hor:=SV hEl (n:=2 ^ pre.length) (lA aH aH);have hen:=MP x;have hib:Hk (cf l).cs pre.length=x.e.isSome:=by simp only[Hk,hx]
  cases hs:x.e.isSome
  ·have i1:=hi E (by rw[hE,bitsOf,hib,hs]; simp)
   simp only[QR,cG,hx,hw,hen,hs,jY,kQ,BM,u9,Bf,EW,seval];exact i1
  ·have i1:=hi (E ||| 2 ^ pre.length) (by rw[hE,bitsOf,hib,hs]; rfl)
   simp only[QR,cG,hx,hw,hen,hs,hsl,hor,jY,kQ,BM,u9,Bf,EW,seval];exact i1
def S2{n K:Nat}{f:aa}{l:List mV}(h:vj n K f l)(M:aC):aU (aq (rQ n)) 15 [.agg (cm f),tW l] M=some (.tuple [gS (((xx n f l).getD []).map fun i=>mO (GY (cf l).cs i)),.bool (xx n f l).isSome],M) :=
 cO (c15 h) M
def c18{n K:Nat}{f:aa}{l:List mV}(h:vj n K f l):aq (rQ n) 18 [.agg (cm f),tW l] []=some (.bool (xx n f l).isSome,[]):=by
 have q:=fun M=>S2 h M
 refine aB ?_;simp only[alh,E18,lY,yo,wL,y8,CJ,aJ,q,EW,seval]
 done
def k18{n K:Nat}{f:aa}{l:List mV}(h:vj n K f l)(M:aC):aU (aq (rQ n)) 18 [.agg (cm f),tW l] M=some (.bool (xx n f l).isSome,M) :=
 cO (c18 h) M
end
def SG(cs:List xN):Hs.Good cs []:=⟨lx,fun k hk=>by cases hk⟩
def Gm{n:Nat}{f:aa}{l:List mV}(hn:(cf l).cs.length+1<=n):match xx n f l with
  |some ord=>Hs.ou pq (cf l).cs f [] ord
  |none=>¬ ∃ord,Hs.ou pq (cf l).cs f [] ord:=by
 have:=(Hs.Kf (step:=pq) (key:=jg) (fun a b h=>V6 h) (cs:=(cf l).cs) n f [] [] (SG _) gh (fun p hp=>by cases hp)).2
 exact this
end Go.Proofs.YteoamaffclmdbaaGreatDoor
