import Derived.Test.YtahkjijkflobhaaGreatDoorFsuG
set_option linter.unusedSimpArgs false
set_option linter.unusedVariables false
set_option linter.unusedSectionVars false
set_option linter.defProp false
namespace Go.Proofs.YtahkjijkflobhaaGreatDoor
open Go Go.Abs
structure CC(u t:Tree):Prop where
 dir:∀i n,find u.ae i=some n->n.kind=2->∃m,find t.ae i=some m/\m.kind=2/\m.up=n.up/\∀e,e∈n.aM->e∈m.aM
 all:∀i n,find u.ae i=some n->∃m,find t.ae i=some m/\m.kind=n.kind/\m.data=n.data
section
variable {u t:Tree} {cE:Int->Nat}
def CC.below(h:CC u t)(hu:cr u cE 0)(ht:cr t cE 0)(of:Int):∀(c:Nat)(i:Int)(n:Node),find u.ae i=some n->n.kind=2->cE i=c->gR u.ae i of=gR t.ae i of:=by
 intro c;induction c with
 |zero =>
  intro i n hi hk hd
  by_cases ho:i=of
  ·subst ho; rw[cr.iY (t:=u),cr.iY (t:=t)]
  ·by_cases h1:i=1
   ·subst h1;rw[cr.nK (t:=u) (fun e=>ho e.symm),cr.nK (t:=t) (fun e=>ho e.symm)]
   ·have:=(hu.oZ _ _ hi hk h1).1; omega
 |succ c ih =>
  intro i n hi hk hd
  by_cases ho:i=of
  ·subst ho; rw[cr.iY (t:=u),cr.iY (t:=t)]
  ·have h1:i≠1:=fun hh=>by subst hh; have:=hu.zB; omega
   obtain⟨m,m1,m2,m3,_⟩:=h.dir _ _ hi hk;obtain⟨a,p,p1,p2⟩:=hu.oZ _ _ hi hk h1;rw[hu.oX hi hk h1 ho,ht.oX m1 m2 h1 ho,m3];exact ih n.up p p1 p2 (by omega)
def CC.inB(h:CC u t)(hu:cr u cE 0)(ht:cr t cE 0){q v:Int}(hv:We u.ae q v):We t.ae q v:=by
 obtain⟨d,e,h1,h2,h3,h4,h5⟩:=hv;have hd:=(fC hu.jo.jv).2 ⟨h1,rfl⟩;obtain⟨m,m1,m2,m3,m4⟩:=h.dir _ _ hd h2;refine⟨m,e,(bP m1).1,m2,?_,m4 e h4,h5⟩;rw[(bP m1).2,<-h.below hu ht q _ _ d hd h2 rfl];exact h3
def MY{f:Int->Nat}:∀(l k:List Int),l.Nodup->(∀x,x∈l->x∈k)->(l.map f).sum<=(k.map f).sum
 | [],_,_,_=>by simp
 |x::l,k,hn,hs=>by
  obtain⟨A,B,rfl⟩:=List.append_of_mem (hs x aV);obtain⟨h1,h2⟩:=nH.1 hn
  have ih:=MY (f:=f) l (A++B) h2 fun y hy=>by
   have:=hs y (aO _ hy);rcases bm.1 this with h|h
   ·exact dq _ h
   ·rcases bC.1 h with h|h
    ·subst h; exact absurd hy h1
    ·exact eL _ h
  simp only[aP,mX,bu,List.sum_append] at ih ⊢;omega
def CC.used(h:CC u t)(hu:cr u cE 0)(ht:cr t cE 0)(q:Int):(jU u.ae q).1<=(jU t.ae q).1/\(jU u.ae q).2<=(jU t.ae q).2:=by
 by_cases hq:∃d,find u.ae q=some d/\d.kind=2
 ·obtain⟨d,d1,d2⟩:=hq;obtain⟨m,m1,m2,_,_⟩:=h.dir _ _ d1 d2;obtain⟨K,k1,k2,k3,k4⟩:=Al hu d1 d2;obtain⟨L,l1,l2,l3,l4⟩:=Al ht m1 m2;rw[k4,l4];have hs:∀x,x∈K->x∈L:=fun x hx=>(l2 x).2 (h.inB hu ht ((k2 x).1 hx))
  have s1:=zY K L k1 hs;have s2:=MY (f:=Wd t.ae) K L k1 hs
  have s3:K.map (Wd u.ae)=K.map (Wd t.ae):=dH fun x hx=>by
   obtain⟨n,hn⟩:=ct.1 (k3 x hx);obtain⟨n',hn',_,hd⟩:=h.all _ _ hn;simp[Wd,aX,hn,hn',hd]
  unfold xu;rw[s3];simp only;omega
 ·obtain⟨h1,_,_⟩:=sJ hu (q:=q) fun d hd hk=>hq ⟨d,hd,hk⟩
  rw[h1,Ak ⟨cE,ht⟩];simp only;omega
def CC.over(h:CC u t)(hu:cr u cE 0)(ht:cr t cE 0){q:cF}(ho:kW t q=false):kW u q=false:=by
 have:=h.used hu ht q.an;simp only[kW,lX,bn,bg] at ho ⊢;omega
def CC.od(h:CC u t)(hu:cr u cE 0){l:List cF}(ho:OD t l):OD u l:=by
 intro d1 e1 d2 e2 x h1 h2 h3 h4 h5 h6 h7
 have key:∀ {d:Node} {e:fp},d∈u.ae->e∈d.aM->∃m,m∈t.ae/\e∈m.aM/\m.an=d.an/\jN t.ae l m.an=jN u.ae l d.an:=fun {d e} hd he=>by
  obtain⟨a1,a2⟩:=hu.Gm hd he;obtain⟨m,m1,m2,m3,m4⟩:=h.dir _ _ a1 a2;refine⟨m,(bP m1).1,m4 e he,(bP m1).2,?_⟩;rw[(bP m1).2];refine ur hu (fun i n hi hk=>?_) l 13 _ _ a1 a2
  obtain⟨y,y1,_,y3,_⟩:=h.dir _ _ hi hk;simp[aX,y1,y3]
 obtain⟨m1,a1,a2,_,a3⟩:=key h1 h2;obtain⟨m2,b1,b2,_,b3⟩:=key h3 h4;obtain⟨y,y1,y2,_⟩:=h.all _ _ h6;rw[<-a3,<-b3];exact ho m1 e1 m2 e2 y a1 a2 b1 b2 h5 y1 (y2.trans h7)
def Dm(t:Tree)(l:List cF)(m:AM Int):Prop:=∀k v,dx m k=some v->∃d e,d∈t.ae/\e∈d.aM/\e.an=k/\jN t.ae l d.an=v
def HK(ht:cr t cE 0){l:List cF}(ho:OD t l){d:Node}(hd:d∈t.ae):∀(es:List fp)(m:AM Int),(∀e,e∈es->e∈d.aM)->Dm t l m->∃m',vN t.ae (jN t.ae l d.an) es m=some m'/\Dm t l m'
 | [],m,_,hm=>⟨m,rfl,hm⟩
 |e::es,m,hs,hm=>by
  rw[vN];have he:=hs e aV;split
  ·rename_i hc;exfalso;simp only[bn,mJ,ne_eq,eM] at hc;obtain⟨⟨c1,c2⟩,c3⟩:=hc;obtain⟨v,hv⟩:=ct.1 c2;obtain⟨d',e',a1,a2,a3,a4⟩:=hm _ _ hv;obtain⟨_,_,_,_,x,hx,_⟩:=ht.Au _ _ e (ht.Gm hd he).1 he
   have hxk:x.kind=1:=by
    have:aX t.ae e.an=x:=by simp[aX,hx]
    rw[this] at c1; exact c1
   have:=ho d' e' d e x a1 a2 hd he a3 (by rw[a3]; exact hx) hxk
   rw[hv] at c3;simp only[bh] at c3;rw[a4] at this;exact c3 this
  ·refine HK ht ho hd es _ (fun x hx=>hs x (aO _ hx)) fun k v hk=>?_
   rw[gZ] at hk;split at hk
   ·rename_i hke;injection hk with hk
    exact⟨d,e,hd,he,hke.symm,hk⟩
   ·exact hm k v hk
def AI(ht:cr t cE 0){l:List cF}(ho:OD t l):∀(ns:List Node)(m:AM Int),(∀d,d∈ns->d∈t.ae)->Dm t l m->qt t.ae l ns m=true
 | [],_,_,_=>rfl
 |d::ns,m,hs,hm=>by
  rw[qt];split
  ·exact AI ht ho ns m (fun x hx=>hs x (aO _ hx)) hm
  ·obtain⟨m',h1,h2⟩:=HK ht ho (hs d aV) d.aM m (fun _ h=>h) hm
   rw[h1];exact AI ht ho ns m' (fun x hx=>hs x (aO _ hx)) h2
def afP(ht:cr t cE 0){l:List cF}(ho:OD t l):pd t l=true :=
 AI ht ho t.ae [] (fun _ h=>h) fun k v h=>by cases h
def LY(ht:cr t cE 0){d:Int}{s:Bytes}{dN m:Node}{e:fp}(hd:find t.ae d=some dN)(hk:dN.kind=2)(hs:eh s=true)(he:eG dN.aM s=some e)(hm:find t.ae e.an=some m)(hmk:m.kind=1) :
  Aj t d s=(⟨dY (cK t.ae d s) e.an,t.next,t.aj⟩,e.an,0)/\e.an≠d/\∀i,find (dY (cK t.ae d s) e.an) i=if i=e.an then some { m with cL:=kR (m.cL-1) } else if i=d then some { dN with aM:=ga dN.aM s } else find t.ae i:=by
 have hne:e.an≠d:=fun hh=>by rw[hh,hd] at hm; injection hm with hm; rw[hm] at hk; omega
 have hl:dX t.ae d s=(e.an,0):=by rw[zR hd hk hs,he]
 have hme:(aX t.ae e.an).aM=[]:=by simp[aX,hm,(ht.file _ _ hm hmk).1]
 have fl:=iZ ht.jo.jv hd (s:=s);have hml:find (cK t.ae d s) e.an=some m:=by rw[fl,aH hne]; exact hm
 have fu:=pJ (ly ht.jo.jv d s) hml;refine⟨?_,hne,fun i=>?_⟩
 ·unfold Aj;rw[hl];simp[hme]
 ·rw[fu];split
  ·simp[Fm,hmk]
  ·rw[fl]
def YB(ht:cr t cE 0){d:Int}{s:Bytes}{dN m:Node}{e:fp}(hd:find t.ae d=some dN)(hk:dN.kind=2)(hs:eh s=true)(he:eG dN.aM s=some e)(hm:find t.ae e.an=some m)(hmk:m.kind=1):CC ⟨dY (cK t.ae d s) e.an,t.next,t.aj⟩ t:=by
 obtain⟨_,_,hf⟩:=LY ht hd hk hs he hm hmk;refine⟨fun i n hi hn=>?_,fun i n hi=>?_⟩<;>simp only[hf] at hi
 ·split at hi
  ·injection hi with hi; rw[<-hi] at hn; simp only at hn; omega
  split at hi
  ·rename_i h1 h2;injection hi with hi
   subst hi;exact⟨dN,by rw[h2]; exact hd,hk,rfl,fun x hx=>(cm.1 hx).1⟩
  ·exact⟨n,hi,hn,rfl,fun _ h=>h⟩
 ·split at hi
  ·rename_i h1;injection hi with hi
   exact⟨m,by rw[h1]; exact hm,by rw[<-hi],by rw[<-hi]⟩
  split at hi
  ·rename_i h1 h2;injection hi with hi
   exact⟨dN,by rw[h2]; exact hd,by rw[<-hi],by rw[<-hi]⟩
  ·exact⟨n,hi,rfl,rfl⟩
end
def Vc{t:Tree}{l:List eB}(hl:tq l){c h an:Int}(h0:(sq t l c h an).2=0):(∃n,find t.ae an=some n/\ep n=false/\n.kind≠2)/\(∀y,y∈l->lP c h y=false)/\∃A B,l=A++B/\(sq t l c h an).1=A++⟨c,h,an⟩::B:=by
 unfold sq at h0 ⊢;split at h0
 ·cases h0
 rename_i c1;split at h0
 ·cases h0
 rename_i c2;split at h0
 ·cases h0
 rename_i c3;split at h0
 ·cases h0
 rename_i c4;split at h0
 ·cases h0
 rename_i c5;rw[aH c1,aH c2,aH c3,aH c4,aH c5];refine⟨?_,fun y hy=>?_,_,_,(cD _ l).symm,rfl⟩
 ·simp only[cN,lu,gW,Bool.not_eq_false,Bool.not_eq_true] at c2;obtain⟨n,hn⟩:=ct.1 c2.1;have:aX t.ae an=n:=by simp[aX,hn]
  rw[this] at c2 c3;exact⟨n,hn,c2.2,by simpa using c3⟩
 ·cases hq:lP c h y with
  |false=>rfl
  |true =>
   exfalso;refine c4 ?_;have hlow:=zU hl c h;generalize kV (fun x=>decide (gF x c h<0)) l=b at hlow ⊢
   obtain⟨i,hi⟩:=bE hy;have hyk:y.cH=c/\y.handle=h:=by simpa[lP] using hq
   have hil:=(aq.1 hi).1;have hiv:=(aq.1 hi).2;have h1:=hlow.lt i y hi;simp only[bg,o8] at h1
   have hge:b<=i:=by
    rcases bD i b with h2|h2
    ·have:=h1.2 h2; omega
    ·exact h2
   have hb:l[b]?=some (l[b]'(by omega)):=ai _
   have hbi:b=i:=by
    rcases bD b i with h2|h2
    ·have h3:=hlow.lt _ _ hb;simp only[bg,o8] at h3;have h4:=bS.1 hl _ _ (by omega) hil h2
     rw[hiv] at h4;have:=h3.1 (by unfold vQ at h4; omega)
     omega
    ·omega
   unfold qy;subst hbi;rw[hi];simp[gF,orI,pB,hyk.1,hyk.2]
def Vp{t:Tree}{c h an:Int}{A B l:List eB}(hl:l=A++B)(hn:∀y,y∈l->lP c h y=false):(A++⟨c,h,an⟩::B).find? (lP c h)=some ⟨c,h,an⟩/\(A++⟨c,h,an⟩::B).eraseP (lP c h)=l:=by
 have hA:∀y,y∈A->lP c h y=false:=fun y hy=>hn y (by rw[hl]; exact dq _ hy)
 have hs:lP c h ⟨c,h,an⟩=true:=by simp[lP]
 constructor
 ·rw[List.find?_append,df.2 fun y hy=>by simp[hA y hy]]
  simp[hs]
 ·rw[List.eraseP_append_right _ fun y hy=>by simp[hA y hy]]
  simp[hs,hl]
def IX(p:Bytes):jk:=⟨8,9,p,[],0,0,7,[]⟩
def Ep:jk:=⟨10,9,[],[],0,4096,7,[]⟩
def G7(p:Bytes):jk:=⟨4,3,p,[],0,0,0,[]⟩
def JN:jk:=⟨9,9,[],[],0,0,7,[]⟩
def rdA(n:Node):Eu:=⟨0,n.an,0,0,0,[],(n.data.drop (yb 0 n.data.length)).take (yb 4096 (n.data.length-yb 0 n.data.length))⟩
def aay{f:aa}{x:Int}(h:f.holds.find? (lP 9 7)=some ⟨9,7,x⟩):lN f Ep=(f,rdA (aX f.s.now.ae x)):=by
 rw[yj (K:=70) rfl (show(0:Int)<=9 by omega) (show(9:Int)<16 by omega),show ma 70 f Ep=xi f Ep from rfl]
 have hi:Gy f.holds 9 7=(x,0):=by simp[Gy,h]
 have hh:iv f Ep=(aX f.s.now.ae x,0):=by
  unfold iv;rw[show Ep.cH=9 from rfl,show Ep.handle=7 from rfl,hi]
  rfl
 have hr:xi f Ep=(f,rdA (aX f.s.now.ae x),0):=by
  unfold xi;rw[hh];rfl
 rw[hr];rfl
structure anT(g:aa)(x:Int)(p:Bytes):Prop where
 V8:(lN g Ep).2.err=0
 un:(lN g (G7 p)).2.err=0
 now:(lN g Ep).2=(lN (lN g (G7 p)).1 Ep).2
 cl:(lN (lN g (G7 p)).1 JN).2.err=0
 fin:∃n,find (lN g (G7 p)).1.s.now.ae x=some n/\(find (lN (lN g (G7 p)).1 JN).1.s.now.ae x).isSome=(decide (0<n.cL)||(lN (lN g (G7 p)).1 JN).1.holds.any fun y=>y.an==x)
def ZI{f:aa}(hf:uo f)(hh:JM f)(p:Bytes)(h0:(lN f (IX p)).2.err=0):anT (lN f (IX p)).1 (lN f (IX p)).2.an p:=by
 rw[yj (K:=68) rfl (show(0:Int)<=9 by omega) (show(9:Int)<16 by omega),show ma 68 f (IX p)=vr f (IX p) from rfl] at h0 ⊢
 by_cases he:(vr f (IX p)).2.2=0
 case neg=>rw[aH he] at h0; exact absurd h0 he
 rw[bc he];clear h0;unfold vr at he ⊢;simp only[show(IX p).da=p from rfl,show(IX p).cH=9 from rfl,show(IX p).handle=7 from rfl] at he ⊢
 split at he
 ·rename_i hc; simp only at he; rw[he] at hc; cases hc
 rename_i c1;split at he
 ·rename_i hc; simp only at he; rw[he] at hc; cases hc
 rename_i c2;rw[aH c1,aH c2];simp only;obtain⟨L,w1,w2⟩:=p8.1 (Prod.ext rfl (by simpa using c1):fY f.s.now p=((fY f.s.now p).1,0))
 generalize (fY f.s.now p).1=x at c2 w2 ⊢;have w2:=pz.1 w2;have hr:=hf.rt;obtain⟨cE,h⟩:=hf.rt;obtain⟨r,r1,r2,_⟩:=h.root;obtain⟨m,hm,ho⟩:=h.Cy w2 r1 (ry r2);have hnm:aX f.s.now.ae x=m:=by simp[aX,hm]
 have hmi:=(bP hm).2;rw[hnm,hmi] at c2 ⊢;obtain⟨⟨m',g1,_,g3⟩,g4,A,B,g5,g6⟩:=Vc hf.holds (by simpa using c2)
 rw[hm] at g1; cases g1;rw[g6];have hmk:m.kind=1:=(h.kind _ _ hm).resolve_right g3;obtain⟨p1,p2⟩:=Vp (t:=f.s.now) (an:=x) g5 g4
 -- the last name
 rcases List.eq_nil_or_concat L with rfl|⟨P,s,rfl⟩
 ·have:x=1:=Eq.symm w2;rw[this,r1] at hm; injection hm with hm; rw[hm] at r2; omega
 rw[List.concat_eq_append] at w1 w2;obtain⟨d,v1,dN,e,e1,e2,e3,e4,e5⟩:=lk.1 w2;have e5:e.an=x:=e5;subst e5;obtain⟨u1,u2,u3⟩:=LY h e1 e2 e3 e4 hm hmk;have hless:=YB h e1 e2 e3 e4 hm hmk;have hu:=M5 h d s;rw[u1] at hu;simp only at hu
 have hsp:iK f.s.now p=(d,s,0):=by
  have hl:pY p=(s,jP P,0):=by
   unfold pY;rw[w1];simp[Im];omega
  obtain⟨o1,o2⟩:=mj p;rw[w1] at o1 o2;have hw:fY f.s.now (jP P)=(d,0):=p8.2 ⟨P,xX (fun y hy=>o1 y (dq _ hy)) (by simp at o2; omega),pz.2 v1⟩
  unfold iK;rw[hl];simp[hw]
 generalize hU:(⟨dY (cK f.s.now.ae d s) e.an,f.s.now.next,f.s.now.aj⟩:Tree)=u at *
 have Px:u.ae=dY (cK f.s.now.ae d s) e.an:=by rw[<-hU]
 rw[<-Px] at u3
 -- settled
 have hset:gz ⟨f.s,A++⟨9,7,e.an⟩::B,f.cq⟩ u f.cq=(⟨ki f.s u,A++⟨9,7,e.an⟩::B,f.cq⟩,0):=by
  have s1:lg (A++⟨9,7,e.an⟩::B) (jS u) u=u:=wW _ _ _ fun i hi=>by
   obtain⟨n,hn,rfl⟩:=dj.1 hi;obtain⟨n1,n2⟩:=cm.1 hn;have n3:=(fC hu.jo.jv).2 ⟨n1,rfl⟩;rw[u3] at n3;split at n3
   ·rename_i hx;exact xL (y:=⟨9,7,e.an⟩) (eL _ aV) hx.symm
   split at n3
   ·injection n3 with n3
    rw[<-n3] at n2; simp[ep,e2] at n2
   ·obtain⟨y,y1,y2⟩:=of_held (hh.Ve n (bP n3).1 n2);rw[g5] at y1;refine xL (y:=y) ?_ y2;rcases bm.1 y1 with y1|y1
    ·exact dq _ y1
    ·exact eL _ (aO _ y1)
  have s2:jd u f.cq=f.cq:=by
   unfold jd;refine fQ.2 fun q hq=>?_
   obtain⟨n,n1,n2⟩:=hh.quo q hq
   have:(find u.ae q.an).isSome=true:=by
    rw[u3];split
    ·rfl
    split
    ·rfl
    ·rw[n1]; rfl
   simp[wX,this]
  have s3:pd u f.cq=true:=afP hu (hless.od hu hh.one)
  have s4:f.cq.any (kW u)=false:=List.any_eq_false.2 fun q hq=>by
   rw[hless.over hu h (hh.over q hq)]; simp
  unfold gz;simp only[s1,s2,s3,s4];rfl
 have hul:lN ⟨f.s,A++⟨9,7,e.an⟩::B,f.cq⟩ (G7 p)=(⟨ki f.s u,A++⟨9,7,e.an⟩::B,f.cq⟩,⟨0,e.an,0,0,0,[],[]⟩):=by
  rw[yj (K:=64) rfl (show(0:Int)<=3 by omega) (show(3:Int)<16 by omega),show ∀f,ma 64 f (G7 p)=py f (G7 p) from fun _=>rfl]
  have:py ⟨f.s,A++⟨9,7,e.an⟩::B,f.cq⟩ (G7 p)=(⟨ki f.s u,A++⟨9,7,e.an⟩::B,f.cq⟩,⟨0,e.an,0,0,0,[],[]⟩,0):=by
   unfold py;simp only[show(G7 p).da=p from rfl,hsp,u1,hset]
   rfl
  rw[this];rfl
 have hx:find u.ae e.an=some { m with cL:=kR (m.cL-1) }:=by rw[u3,bc rfl]
 have hnu:aX u.ae e.an={ m with cL:=kR (m.cL-1) }:=by simp[aX,hx]
 have hcl:lN ⟨ki f.s u,A++⟨9,7,e.an⟩::B,f.cq⟩ JN=(⟨ki (ki f.s u) (if (ep { m with cL:=kR (m.cL-1) } && !mP f.holds e.an)=true then (jO u e.an).1 else u),f.holds,f.cq⟩,fL):=by
  rw[yj (K:=69) rfl (show(0:Int)<=9 by omega) (show(9:Int)<16 by omega),show ∀f,ma 69 f JN=sg f JN from fun _=>rfl]
  have hc:lL u (A++⟨9,7,e.an⟩::B) 9 7=(if (ep { m with cL:=kR (m.cL-1) } && !mP f.holds e.an)=true then (jO u e.an).1 else u,f.holds,0):=by
   unfold lL;rw[p1];simp only[p2,hx,hnu,bZ,c9]
  unfold sg;simp only[show JN.cH=9 from rfl,show JN.handle=7 from rfl,vv,hc]
  rfl
 have hrd:=aay (f:=⟨f.s,A++⟨9,7,e.an⟩::B,f.cq⟩) p1;have hrd2:=aay (f:=⟨ki f.s u,A++⟨9,7,e.an⟩::B,f.cq⟩) p1;simp only[vv,hnu,hnm] at hrd hrd2
 have hl0:0<=kR (m.cL-1):=by
  have:=hu.cL _ _ hx;simp only at this;rw[this];split<;>omega
 refine⟨by rw[hrd]; rfl,by rw[hul],by rw[hul,hrd,hrd2]; rfl,by rw[hul,hcl]; rfl,?_⟩
 rw[hul,hcl];simp only[vv];refine⟨_,hx,?_⟩
 have hof:ep { m with cL:=kR (m.cL-1) } = !decide (0<kR (m.cL-1)):=by
  have:((kR (m.cL-1))==0) = !decide (0<kR (m.cL-1)):=by
   rw[eD]; simp; omega
  simp only[ep,hmk,this,iX,c9]
 have hany:(f.holds.any fun y=>y.an==e.an)=mP f.holds e.an:=rfl
 rw[hof,hany];have hff:=ve ⟨cE,hu⟩ e.an e.an;cases hd:decide (0<kR (m.cL-1))<;>cases hb:mP f.holds e.an<;>simp only[fg,c8,gq,dG,c9,dw,aE,aw,af,eH,dS,dA,eT]
 ·rw[hff,bc ⟨rfl,_,hx,by rw[hof,hd]; rfl⟩]; rfl
 ·rw[hx]; rfl
 ·rw[hx]; rfl
 ·rw[hx]; rfl
section
attribute [local irreducible] eV fZ je gK eo kr ar aU cA bH
set_option maxRecDepth 100000 in
def On(xs:List jk)(p:Bytes):ar tb 5 [C6 xs,.str p] []=some (.bool true,[]):=by
 refine az ?_;have q10:=cP Gx;have q11:=fun M=>lE (Pz xs M)
 cases hg:wY xs<;>rw[hg] at q11
 case true=>simp only[fn5,E5,q10,q11,uT,EW,seval]
 cases g1:decide (1000<(p.length:Int))
 case true=>simp only[fn5,E5,q10,q11,g1,uT,EW,seval]
 have l1:p.length<=1000:=by have:=of_decide_eq_false g1; omega
 obtain⟨hn,ho⟩:=zI hg;obtain⟨f,qa,hf,hh,_⟩:=c13 xs hn ho;have q13:=fun M=>lE (cO qa M)
 have oR:wL Ep:=⟨by simp[Ep],by simp[Ep],by simp[Ep]⟩
 have oC:wL JN:=⟨by simp[JN],by simp[JN],by simp[JN]⟩
 have d1:=fun M=>uU f (IX p) hf.ok ⟨by simp only[IX]; omega,by simp[IX],by simp[IX]⟩ M
 have hO:=ZI hf.ok hh p;have hf1:=pC hf (by omega) (IX p)
 generalize lN f (IX p)=X at d1 hO hf1;obtain⟨g,a⟩:=X;simp only at d1 hO hf1;cases h1:a.err != 0
 case true =>
  simp only[ck,eA,cQ,IX,cR,a8] at q13 d1;simp only[fn5,E5,q10,q11,g1,q13,d1,h1,uT,EW,seval]
 obtain⟨o1,o2,o3,o4,n,o5,o6⟩:=hO (by simpa using h1)
 have d2:=fun M=>uU g Ep hf1.ok oR M
 have d3:=fun M=>uU g (G7 p) hf1.ok ⟨by simp only[G7]; omega,by simp[G7],by simp[G7]⟩ M
 have a2:=LR hf1.ok Ep;have hf2:=pC hf1 (by omega) (G7 p)
 generalize lN g (G7 p)=Y at d3 o2 o3 o4 o5 o6 hf2;obtain⟨h,b⟩:=Y;simp only at d3 o2 o3 o4 o5 o6 hf2;have d4:=fun M=>uU h Ep hf2.ok oR M
 have d5:=fun M=>uU h JN hf2.ok oC M
 have hf3:=pC hf2 (by omega) JN
 have sa:=fun M=>lE (cO (c17 (lN g Ep).2 (by have:=a2.names; omega) (by have:=a2.data; omega)) M)
 rw[<-o3] at d4;generalize lN g Ep=W at d2 d4 o1 sa;obtain⟨_,w⟩:=W;generalize (lN h Ep).1=h' at d4;generalize lN h JN=Z at d5 o4 o6 hf3;obtain⟨i,c⟩:=Z;simp only at d2 d4 d5 o1 o4 o6 hf3 sa;have hg1:=fun M=>lE (zN h.s.now.ae h.s.now.next h.s.now.aj a.an (by have:=hf2.ok.rt.sz.ae; omega) M)
 have hg2:=fun M=>lE (zN i.s.now.ae i.s.now.next i.s.now.aj a.an (by have:=hf3.ok.rt.sz.ae; omega) M)
 rw[o5] at hg1;rw[o6] at hg2;generalize (find i.s.now.ae a.an).getD Node.zero=z at hg2;have hh64:=hf3.ok.dQ;simp only[ck,eA,cQ,IX,Ep,G7,JN,cR,a8,bG,aI,bh,bZ] at q13 d1 d2 d3 d4 d5 sa hg1 hg2;have e1:(w.err==0)=true:=by simp[o1]
 have e2:(b.err==0)=true:=by simp[o2]
 have e3:(c.err==0)=true:=by simp[o4]
 simp only[fn5,E5,q10,q11,g1,q13,d1,d2,d3,d4,d5,h1,hg1,hg2,uT,EW,seval];refine LX (gH (xs:=i.holds) (by omega) (fun m d=>d=(i.holds.take m).any fun y=>y.an==a.an) (fun d k=>[(5,.bool true),(8,b9 2),(10,b9 4),(12,b9 6),(14,b9 8),(15,b9 9),(16,b9 10),(17,b9 11),(18,.bool true),(20,.bool (decide (0<n.cL)||i.holds.any fun y=>y.an==a.an)),(21,.bool d),(22,aF k)]) (fun _=>_) _ (fun d hd=>?_) (fun pre x post d e hx cz hw h0 hm hd hi=>?_) false rfl)
 ·rw[bW] at hd;rw[<-hd];refine⟨_,rfl,?_⟩;cases hz:decide (0<n.cL)<;>cases d<;>simp only[E5,bw,sa,e1,e2,e3,hz,uT,EW,seval]<;>rfl
 ·have i1:=hi (d||x.an==a.an) (by rw[cC,hx,hd]; simp)
  cases d<;>cases hxa:x.an==a.an<;>simp only[hxa,dS,eT,dA] at i1<;>simp only[E5,cz,hx,hw,h0,hxa,gx,iA,uT,EW,seval]<;>exact i1
end
end Go.Proofs.YtahkjijkflobhaaGreatDoor
