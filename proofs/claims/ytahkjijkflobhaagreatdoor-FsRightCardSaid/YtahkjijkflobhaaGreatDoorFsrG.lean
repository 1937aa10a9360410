import Derived.Test.YtahkjijkflobhaaGreatDoorFsrF
set_option linter.unusedSimpArgs false
set_option linter.unusedVariables false
set_option linter.unusedSectionVars false
set_option linter.defProp false
open Go.Proofs.Tryz
namespace Go.Proofs.YtahkjijkflobhaaGreatDoor
open Go Go.Abs
def Dq(t:Tree)(l:List cv)(S:Node->fg->Prop)(m:AM Int):Prop:=∀d e,S d e->∃v,dA m e.aq=some v/\((aY t.ae e.aq).kind=1->jM t.ae l d.aq=v)
section
variable {t:Tree} {l:List cv}
theorem KA{d:Node}:∀(es:List fg)(S:Node->fg->Prop)(m m':AM Int),pO t.ae (jM t.ae l d.aq) es m=some m'->Dq t l S m->Dq t l (fun x e=>S x e\/x=d/\e∈es) m'
 | [],S,m,m',h,hm=>by
  rw[pO] at h;simp_all
 |a::es,S,m,m',h,hm=>by
  rw[pO] at h;split at h
  ·cases h
  have:=KA es (fun x e=>S x e\/x=d/\e=a) _ m' h fun x e hx=>by
   rw[gN];split
   ·refine⟨_,rfl,fun hk=>?_⟩
    rcases hx with hx|⟨rfl,_⟩
    ·obtain⟨v,v1,v2⟩:=hm x e hx
     grind
    rfl
   ·rename_i he;exact hm x e (hx.resolve_right fun h=>he (by rw[h.2]))
  grind
theorem CM:∀(ns:List Node)(S:Node->fg->Prop)(m:AM Int),oU t.ae l ns m=true->Dq t l S m->∃m',Dq t l (fun x e=>S x e\/x∈ns/\e∈x.aL) m'
 | [],S,m,_,hm=>⟨m,fun x e hx=>hm x e (hx.resolve_right fun h=>by grind)⟩
 |d::ns,S,m,h,hm=>by
  rw[oU] at h;split at h
  ·obtain⟨m',h'⟩:=CM ns S m h hm;refine⟨m',fun x e hx=>h' x e ?_⟩
   grind
  ·cases he:pO _ _ d.aL m with
   |none=>rw[he] at h; cases h
   |some m1 =>
    rw[he] at h;obtain⟨m',h'⟩:=CM ns _ m1 h (KA d.aL S m m1 he hm);refine⟨m',fun x e hx=>h' x e ?_⟩
    grind
theorem afm(h:oX t l=true):OD t l:=by
 obtain⟨m,hm⟩:=CM _ (fun _ _=>False) _ h fun _ _ h=>h.elim
 intro d1 e1 d2 e2 x h1 h2 h3 h4 he hx hk;obtain⟨v,v1,v2⟩:=hm _ _ (.inr ⟨h1,h2⟩);obtain⟨u,u1,u2⟩:=hm _ _ (.inr ⟨h3,h4⟩)
 grind
end
theorem P0{t:Tree}(h:Rt t)(k:Int){n:Node}(hn:n∈(jU t k).1.ae):n∈t.ae/\(fO n=true->n.aq≠k):=by
 have hf:=w8 h k n.aq;rw[(eD (h.free k).ja.jd).2 ⟨hn,rfl⟩] at hf;split at hf
 ·cases hf
 grind [bR]
theorem vj(l:List dZ):∀(r:List Int)(t:Tree),Rt t->∀n,n∈(nC l r t).ae->n∈t.ae/\(fO n=true->n.aq∈r->nj l n.aq=true)
 | [],_,_,n,h=>⟨h,fun _ h=>by grind⟩
 |k::r,t,ht,n,h=>by
  rw[nC] at h;split at h
  ·obtain⟨h1,h2⟩:=vj l r _ (ht.free k) n h
   grind [P0]
  ·obtain⟨h1,h2⟩:=vj l r _ ht n h
   grind
theorem yp{f:aa}(hh:yx f){t:Tree}(ht:Rt t){Q:List cv}(hk:∀i,rb f.s.now.ae i->rb t.ae i)(hq:∀q,q∈Q->rb t.ae q.aq->False):yx (iw f t Q).1:=by
 unfold iw;split
 ·exact hh
 split
 ·omega
 have hr:=uH f.holds (iT t) t ht;refine zt (fun y hy=>⟨hy,fun hf=>wi hy _ _ ht (hk _ hf)⟩) (fun n hn ho=>?_) (fun q hq'=>?_) (afm (by grind)) (fun q hq'=>?_) hh
 ·obtain⟨h1,h2⟩:=vj _ _ _ ht n hn;exact h2 ho (cE.2 ⟨n,cr.2 ⟨h1,ho⟩,rfl⟩)
 ·obtain⟨h1,h2⟩:=cr.1 hq';obtain⟨n,hn⟩:∃n,find (nC f.holds (iT t) t).ae q.aq=some n:=ct.1 (by grind [xH])
  refine hr.K5 hn fun hf=>hq q h1 ?_
  obtain⟨m,m1,m2⟩:=hf;obtain⟨g1,_⟩:=vj _ _ _ ht m (bR m1).1;exact⟨m,(eD ht.ja.jd).2 ⟨g1,(bR m1).2⟩,m2⟩
 grind
theorem G2{f:aa}(hf:sR f)(hh:yx f)(o:jz)(i:Int)(d:Bytes):yx (oh f o i d).1:=by
 have hr:=yp hh (hf.rt.put i d) (Cz hf.rt i d).2 fun q hq h=>(hh.quo q hq).no (J5 hf.rt i d _ h)
 grind [oh]
theorem C3{t:Tree}{l:List dZ}(ht:Rt t)(hl:sd l)(hn:l.length<=64)(c h:Int):vd t l (kU t l c h).1 (kU t l c h).2.1:=by
 unfold kU;cases hx:l.find? (pf c h) with
 |none=>grind [vd.refl]
 |some x =>
  obtain⟨a,A,B,h1,h2,h3,h4⟩:=List.exists_of_eraseP (gi hx) (nt hx)
  grind [LI]
def Ar(c:Int):∀(r:List dZ){t:Tree}{l:List dZ},Rt t->sd l->l.length<=64->vd t l (pA c r t l).1 (pA c r t l).2
 | [],_,_,ht,hl,hn=>vd.refl ht hl hn
 |x::r,_,_,ht,hl,hn=>by
  rw[pA];split
  ·have h:=C3 ht hl hn c x.handle;exact h.trans (Ar c r h.rt h.jd h.len)
  ·exact Ar c r ht hl hn
def vd.hok{f:aa}{u:Tree}{m:List dZ}(g:vd f.s.now f.holds u m)(h:yx f):yx ⟨mu f.s u,m,f.cL⟩ :=
 zt g.mem (g.Lu h.Lu) (fun q hq=>g.dir _ (h.quo q hq)) (g.one _ h.one) (fun q hq=>by rw[g.use]; exact h.over q hq) h
theorem T4{f:aa}(hr:Rt f.s.now)(h:yx f)(c g i:Int):yx ⟨f.s,(tn f.s.now f.holds c g i).1,f.cL⟩:=by
 unfold tn;split
 ·exact h
 rename_i h1;split
 ·exact h
 rename_i h2;split
 ·exact h
 rename_i h3;split
 ·exact h
 split
 ·exact h
 have hm:∀y,y∈f.holds.take (kx (fun x=>decide (gb x c g<0)) f.holds)++⟨c,g,i⟩::f.holds.drop (kx (fun x=>decide (gb x c g<0)) f.holds)↔y=⟨c,g,i⟩\/y∈f.holds:=fun y=>by
  conv=>rhs; rw[<-cC (kx (fun x=>decide (gb x c g<0)) f.holds) f.holds]
  grind
 refine⟨fun y hy=>?_,fun n hn ho=>?_,h.quo,h.one,h.over,fun y hy=>?_⟩
 ·rcases(hm y).1 hy with rfl|hy
  ·simp only[dj,mL,gV,Bool.not_eq_false] at h2;obtain⟨n,hn⟩:=ct.1 h2.1;refine⟨n,hn,?_⟩;have hnn:aY f.s.now.ae i=n:=by grind
   rw[hnn] at h3;obtain⟨cz,hv⟩:=hr;exact(hv.kind _ _ hn).resolve_right (by grind)
  ·exact h.file y hy
 ·obtain⟨y,y1,y2⟩:=of_held (h.Lu n hn ho)
  grind [yU]
 ·rcases(hm y).1 hy with rfl|hy
  ·grind
  ·exact h.key y hy
theorem NF{t:Tree}(l:List cv)(i a b:Int){q:cv}(hq:q∈(pT t l i a b).1):q∈l\/K5 t.ae q.aq:=by
 unfold pT at hq;split at hq
 ·exact .inl hq
 rename_i h1;split at hq
 ·exact .inl hq
 rename_i h2
 have hd:K5 t.ae i:=by
  obtain⟨n,hn⟩:=ct.1 (by simpa[Option.isSome_iff_ne_none] using h1)
  have hnn:aY t.ae i=n:=by grind
  rw[hnn] at h2;exact⟨n,hn,by simpa using h2⟩
 grind [List.mem_of_mem_eraseIdx]
theorem N1{f:aa}(hf:sR f)(h0:yx f)(K:Nat)(o:jz):yx (qO K f o).1:=by
 have hr:=hf.rt;have hp {t:Tree} (ht:Rt t) (hk:KF f.s.now.ae t.ae) (hq:RF f.s.now.ae t.ae):=yp h0 ht (Q:=f.cL) hk.2 fun q hq' h=>(h0.quo q hq').no (hq _ h)
 have hsh:∀u:ga,u.now=f.s.now->yx ⟨u,f.holds,f.cL⟩:=fun u e=>⟨by simp only[e]; exact h0.file,by simp only[e]; exact h0.Lu,by simp only[e]; exact h0.quo,by simp only[e]; exact h0.one,by simp only[e]; exact h0.over,h0.key⟩
 refine FP (P:=fun r=>yx r.1) ?_ ?_ ?_ ?_ ?_ ?_ ?_ ?_ ?_ ?_ ?_ ?_ ?_ ?_ ?_ ?_ ?_ ?_ K
 ·unfold wv; split<;>exact h0
 ·have hr:=hp (hr.add (ig f.s.now o.c8).1 (ig f.s.now o.c8).2.1 o.n) (Hj hr _ _ _) (UI hr _ _ _)
  grind [wy]
 ·have hr:=hp (hr.ln (aY f.s.now.ae (jn f.s.now o.c8).1).aq (ig f.s.now o.r9).1 (ig f.s.now o.r9).2.1) (K8 hr _ _ _) (abH hr _ _ _)
  grind [wq]
 ·have hr:=hp (hr.un (ig f.s.now o.c8).1 (ig f.s.now o.c8).2.1) (La hr _ _) (abJ hr _ _)
  grind [p7]
 ·have hr:=hp (hr.mv (ig f.s.now o.c8).1 (ig f.s.now o.c8).2.1 (ig f.s.now o.r9).1 (ig f.s.now o.r9).2.1) (K9 hr _ _ _ _) (abI hr _ _ _ _)
  grind [pV]
 ·grind [yZ]
 ·unfold wM; simp only[]; split<;>exact h0
 ·have hh:=T4 hr h0 o.cD o.handle (aY f.s.now.ae (jn f.s.now o.c8).1).aq
  grind [wE]
 ·have hh:=(C3 hr hf.holds hf.dR o.cD o.handle).hok h0;unfold sZ; grind
 ·grind [zu]
 ·grind [tE,G2]
 ·unfold B5; grind [G2]
 ·have hr:=yp h0 hr (Q:=(pT f.s.now f.cL (aY f.s.now.ae (jn f.s.now o.c8).1).aq o.n o.m).1) (fun _ h=>h) fun q hq h=>(NF _ _ _ _ hq).elim (fun hq=>(h0.quo q hq).no (.inl h)) fun hd=>K5.no hd (.inl h)
  grind [th]
 ·have ht:=hsh (takeN f.s (aY f.s.now.ae (jn f.s.now o.c8).1).aq).1 (by
   unfold takeN; repeat' split
   all_goals rfl)
  grind [wQ]
 ·unfold zh; grind
 ·have ht:=hsh (nN f.s o.n).1 (by unfold nN; split<;>rfl)
  grind [wc]
 ·have hh:=(Ar o.cD f.holds hr hf.holds hf.dR).hok h0;unfold ue yR; simp_all
 ·exact h0
def V5{f:aa}(hf:sR f)(h:yx f)(o:jz):yx (vz f o).1:=by
 unfold vz;split
 ·exact h
 ·split
  ·split
   ·exact N1 hf h _ o
   ·exact h
  ·exact h
def C1{f:aa}{o:jz}{i:Int}{d:Bytes}:(oh f o i d).2.1.err=0:=by
 unfold oh; simp only[]; repeat' split
 all_goals rfl
def N0(f:aa)(K:Nat)(o:jz):(qO K f o).2.1.err=0:=by
 refine FP (P:=fun r=>r.2.1.err=0) ?_ ?_ ?_ ?_ ?_ ?_ ?_ ?_ ?_ ?_ ?_ ?_ ?_ ?_ ?_ ?_ ?_ ?_ K
 case refine_11=>
  unfold tE; repeat' split
  all_goals first|rfl|exact C1
 case refine_12=>
  unfold B5; split
  ·rfl
  ·exact C1
 all_goals (first|rfl|unfold wv|unfold wy|unfold wq|unfold p7|unfold pV|unfold yZ|unfold wM|unfold wE|unfold sZ|unfold zu|unfold th|unfold wQ|unfold zh|unfold wc|unfold ue)
 all_goals (try simp only[])
 all_goals (repeat' split)
 all_goals rfl
def V4{f:aa}{o:jz}(h:(vz f o).2.err≠0):(vz f o).1=f/\(vz f o).2=gw (vz f o).2.err:=by
 revert h
 unfold vz
 repeat' split
 all_goals first|exact fun _=>⟨rfl,rfl⟩|exact fun h=>absurd (N0 ..) h
def uu{α:Type}{xs pre:List α}(hp:pre.length<=1000000)(hl:pre.length<xs.length)(h1:0<pre.length):∃y,xs[pre.length-1]?=some y/\IntKind.i64.wrap ((pre.length:Int)-1)=((pre.length-1:Nat):Int)/\(((pre.length-1:Nat):Int)<0)=False/\(((pre.length-1:Nat):Int)<(xs.length:Int))=True :=
 ⟨_,ai (by omega),by rw[fW (by omega) (by omega)]; omega,by simp,by simp only[eH,im]; omega⟩
def xi{α:Type}{R:α->α->Prop}{xs:List α}(h:xs.Pairwise R){i j:Nat}{x y:α}(hx:xs[i]?=some x)(hy:xs[j]?=some y)(hl:i<j):R x y:=by
 obtain⟨h1,rfl⟩:=ak.1 hx;obtain⟨h2,rfl⟩:=ak.1 hy;exact bV.1 h i j h1 h2 hl
section
attribute [local irreducible] eW fQ lh gK dW kr ar aM cq bI
abbrev AL:=AM Int
abbrev eK(l:AL):List ag:=AN l
abbrev eV(l:AL):List ag:=pQ (ag.int .i64) l
def abl(o:Option Int):o9 (aE 0) false (o.map (ag.int .i64)) = aE (o.getD 0):=by cases o<;>rfl
def bkV(B:Nat)(M:aH)(l:AL):List.map (ag.kg B M) (eV l)=eV l:=OS _ B M (fun _=>rfl) l
def afI(l:AL):(eV l).all ag.plain=true:=bH.2 fun x hx=>by
 obtain⟨p,_,rfl⟩:=cE.1 hx;rfl
def afG(l:AL):(eK l).all ag.plainCell=true:=bH.2 fun x hx=>by
 obtain⟨p,_,rfl⟩:=cE.1 hx;rfl
def mB(d:Int)(mi:AL×AL)(e:fg):AL×AL:=(lJ mi.1 e.aq (lK ((dA mi.1 e.aq).getD 0+1)),lJ mi.2 e.aq d)
def nL(ae:List Node):AL×AL:=ae.foldl (fun mi n=>n.aL.foldl (mB n.aq) mi) ([],[])
def aon(ae:List Node)(next aj:Int)(hn:ae.length<=100000)(he:∀n,n∈ae->n.aL.length<=100000):ar bK 149 [bX 0] [bO [aN ae,aE next,aE aj]] =
  some (.tuple [.iL (eK (nL ae).1) (eV (nL ae).1),.iL (eK (nL ae).2) (eV (nL ae).2)],[bO [aN ae,aE next,aE aj]]):=by
 refine aw ?_;simp only[Z9,Oh,EW,seval]
 refine lM (xs:=ae) (by omega) (fun l mi=>l.foldl (fun mi n=>n.aL.foldl (mB n.aq) mi) mi) (fun _ i=>[(4,.gP 1),(5,.gP 2),(16,aN ae),(17,aE ae.length),(18,aE i)]) (fun mi=>[bO [aN ae,aE next,aE aj],.map (eK mi.1) (eV mi.1),.map (eK mi.2) (eV mi.2)])
  (fun mi=>some (.tuple [.iL (eK mi.1) (eV mi.1),.iL (eK mi.2) (eV mi.2)],[bO [aN ae,aE next,aE aj]])) (fun mi=>?_) (fun pre x post mi _ hx cn hw h0 hm hi=>?_) ([],[])
 ·simp only[Oh,bp,jH,afI,afG,eL,eb,EW,seval]
 ·simp only[Oh,cn,hx,h0,cK,bkV,bD,aF,EW,seval]
  refine lM (xs:=x.aL) (by have:=he x hm; omega) (fun l mi=>post.foldl (fun mi n=>n.aL.foldl (mB n.aq) mi) (l.foldl (mB x.aq) mi)) (fun _ i=>[(4,.gP 1),(5,.gP 2),(7,bX 3),(16,aN ae),(17,aE ae.length),(18,aE pre.length),(23,gS x.aL),(24,aE x.aL.length),(25,aE i)]) (fun mi=>[bO [aN ae,aE next,aE aj],.map (eK mi.1) (eV mi.1),.map (eK mi.2) (eV mi.2),bO [aE x.aq,aE x.kind,aE x.dz,cX x.data,gS x.aL,aE x.up]])
   (fun mi=>some (.tuple [.iL (eK mi.1) (eV mi.1),.iL (eK mi.2) (eV mi.2)],[bO [aN ae,aE next,aE aj]])) (fun mi=>?_) (fun pre' y post' mi _ hy hlt' hw' h0' _ hi'=>?_) mi
  ·have i1:=hi mi;simp only[Oh,bp,jH,hw,bkV,EW,seval];exact i1
  ·have i1:=hi' (mB x.aq mi y);simp only[mB] at i1;simp only[Oh,hlt',hy,h0',hw',fH,fa,mapOf,mM,rJ,abl,bkV,mB,cK,EW,seval];exact i1
def aqA ae next aj hn he p M hM:=cM (p:=p) (M:=M) hM (aon ae next aj hn he)
end
def abw(l:List dZ):iU [bO [eo l]] (hZ [0]) [0]=some [bO [eo l]]:=rfl
def afz(l:List dZ)(b:dv):iU [b,bO [eo l]] (hZ [1]) [1]=some [bO [eo l]]:=rfl
section
attribute [local irreducible] eW fQ lh gK dW kr ar aM cq bI
def aiS{xs:List Int}(hn:xs.length<=100000){g:Nat}{b:dv}(hb:b.back 1 [b]=b)(hk:∀x,x∈xs->aM (ar bK) g [aE x,bX 0] [b]=some (.bool false,[b])) :
  ar bK 151 [gH (xs.map kv),.func g [bX 0]] [b]=some (aE (-1),[b]):=by
 refine aw ?_;simp only[aaa,abX,EW,seval];refine lM (xs:=xs) (by omega) (fun _ (_:Unit)=>()) (fun _ i=>[(0,gH (xs.map kv)),(1,.func g [bX 0]),(7,aE xs.length),(8,aE i)]) (fun _=>[b]) (fun _=>some (aE (-1),[b])) (fun _=>?_) (fun pre x post _ e hx cn hw h0 hm hi=>?_) ()
 ·simp only[abX,bp,hb,EW,seval]
 ·have i1:=hi ();have q:=hk x hm;simp only[abX,cn,hx,hw,h0,q,kv,hb,EW,seval];exact i1
def c80{xs:List Int}{g:Nat}{b:dv}(hb:b.back 1 [b]=b)(q:aM (ar bK) 151 [gH (xs.map kv),.func g [bX 0]] [b]=some (aE (-1),[b])) :
  ar bK 80 [gH (xs.map kv),.func g [bX 0]] [b]=some (.bool false,[b]):=by
 refine aw ?_;have e:(0<=(-1:Int))=False:=by simp
 simp only[aj3,E80,q,hb,e,EW,seval]
def c31{f:aa}(hf:sR f)(hh:yx f):ar bK 31 [bo f.s.now,cJ f.cL] []=some (.bool true,[]):=by
 refine aw ?_;have h16:=hf.qv;have e16:decide ((f.cL.length:Int)<=16)=true:=gR (by omega)
 simp only[ajO,E31,bo,aI,EW,seval];refine lM (xs:=f.cL) (by omega) (fun _ (_:Unit)=>()) (fun _ i=>[(1,cJ f.cL),(2,bX 0),(11,cJ f.cL),(12,aE f.cL.length),(13,aE i)]) (fun _=>[bO (aI f.s.now)]) (fun _=>some (ag.bool true,([]:aH))) (fun _=>?_) (fun pre x post _ e hx cn hw h0 hm hi=>?_) ()
 ·simp only[aI,E31,bp,e16,EW,seval]
 ·have i1:=hi ();obtain⟨n,n1,n2⟩:=hh.quo x hm;have ho:=hh.over x hm;have q1:=fun M=>Oa f.s.now x.aq hf.rt.small hf.rt.ja M
  have q2:=fun M=>k93 hf.rt x.aq M
  simp only[kP,jY,bm,ba] at ho;have d0:(n.kind != 2)=false:=by simp[n2]
  have d1:decide (x.ae<(jm f.s.now.ae x.aq).1)=false:=bG (by omega)
  have d2:decide (x.bytes<(jm f.s.now.ae x.aq).2)=false:=bG (by omega)
  generalize jm f.s.now.ae x.aq=u at q2 d1 d2;rw[show aY f.s.now.ae x.aq=n by simp[aY,n1],n1] at q1
  simp only[bW,aF,aI] at q1 i1 ⊢;cases h1:decide ((0:Int)<(pre.length:Int))
  ·simp only[E31,cn,hx,hw,h0,q1,q2,d0,d1,d2,h1,dM,gU,EW,seval];exact i1
  ·have hp:=(ak.1 hx).1;obtain⟨y,b1,b2,b3,b4⟩:=uu (xs:=f.cL) (pre:=pre) (by omega) hp (by simpa using h1)
   have:=xi hf.cL b1 hx (by simp at h1; omega)
   have d3:decide (x.aq<=y.aq)=false:=bG (by omega)
   simp only[E31,cn,hx,hw,h0,q1,q2,d0,d1,d2,d3,h1,b1,b2,b3,b4,dM,gU,EW,seval];exact i1
def c91(l:List dZ)(x:Int)(hn:l.length<=100000):ar bK 91 [aE x,bX 0] [bO [eo l]]=some (.bool (!nj l x),[bO [eo l]]):=by
 refine aw ?_;have q:=fun M=>cO (c92 l x hn) M
 simp only[akc,E91,q,EW,seval]
def c30{f:aa}(hf:sR f)(hh:yx f):ar bK 30 [bo f.s.now,eo f.holds] []=some (.bool true,[]):=by
 refine aw ?_;have h64:=hf.dR;have h200:=hf.rt.sz.ae;have e64:decide (64<(f.holds.length:Int))=false:=bG (by omega)
 have hk:∀x,x∈iT f.s.now->aM (ar bK) 91 [aE x,bX 0] [bO [eo f.holds]]=some (.bool false,[bO [eo f.holds]]):=fun x hx=>by
  obtain⟨n,h1,rfl⟩:=cE.1 hx;obtain⟨h1,h2⟩:=cr.1 h1;have:=c91 f.holds n.aq (by omega)
  rw[hh.Lu n h1 h2] at this;exact jc (ids:=[0]) rfl rfl (abw _) rfl rfl this rfl rfl rfl rfl rfl
 have hol:(iT f.s.now).length<=100000:=by
  unfold iT;rw[fT];exact aV (bZ _ _) (by omega)
 have q1:=c80 (xs:=iT f.s.now) (b := bO [eo f.holds]) rfl (jc (ids:=[0]) rfl rfl (abw _) rfl rfl (aiS hol rfl hk) rfl rfl rfl rfl rfl);have q2:aM (ar bK) 80 [gH ((iT f.s.now).map kv),.func 91 [bX 1]] [bO (aI f.s.now),bO [eo f.holds]]=some (.bool false,[bO (aI f.s.now),bO [eo f.holds]]):=jc (ids:=[1]) rfl rfl (afz _ _) rfl rfl q1 rfl rfl rfl rfl rfl;have q3:=fun M=>k90 f.s.now (by omega) M
 simp only[aI] at q2;simp only[ajN,E30,bo,aI,e64,EW,seval];refine lM (xs:=f.holds) (by omega) (fun _ (_:Unit)=>()) (fun _ i=>[(2,bX 0),(3,bX 1),(12,eo f.holds),(13,aE f.holds.length),(14,aE i)]) (fun _=>[bO (aI f.s.now),bO [eo f.holds]]) (fun _=>some (ag.bool true,([]:aH))) (fun _=>?_) (fun pre x post _ e hx cn hw h0 hm hi=>?_) ()
 ·simp only[aI];simp only[E30,bp,q2,q3,EW,seval]
 ·have i1:=hi ();obtain⟨n,n1,n2⟩:=hh.file x hm;have p1:=fun M=>Oa f.s.now x.aq hf.rt.small hf.rt.ja M
  have p2:=fun M=>k87 x M
  have p3:=fun M=>k88 x.cD x.handle M
  rw[show aY f.s.now.ae x.aq=n by simp[aY,n1],n1] at p1
  rw[hh.key x hm] at p3;have d0:(n.kind != 1)=false:=by simp[n2]
  simp only[bW,aF,aI,hV] at p1 p2 i1 ⊢;cases h1:decide ((0:Int)<(pre.length:Int))
  ·simp only[E30,cn,hx,hw,h0,p1,p2,p3,d0,h1,gm,hV,EW,seval];exact i1
  ·have hp:=(ak.1 hx).1;obtain⟨y,b1,b2,b3,b4⟩:=uu (xs:=f.holds) (pre:=pre) (by omega) hp (by simpa using h1)
   have hy:=xi hf.holds b1 hx (by simp at h1; omega)
   have p4:=fun M=>k87 y M
   have p5:=fun M=>k89 y.cD y.handle 0 0 x M
   have d3:decide (gb x y.cD y.handle<=0)=false:=by
    have c1:=pB x y.cD y.handle;have c2:=yc x y.cD y.handle;unfold vl at hy
    exact bG fun hle=>by
     rcases Int.lt_or_eq_of_le hle with h|h
     ·have:=c1.1 h; omega
     ·have:=c2.1 h; omega
   simp only[hV] at p4 p5;simp only[E30,cn,hx,hw,h0,p1,p2,p3,p4,p5,d0,d3,h1,b1,b2,b3,b4,gm,hV,EW,seval];exact i1
def Cg(d k:Int):∀(l:List fg)(mi:AL×AL),0<=(dA mi.1 k).getD 0->(dA mi.1 k).getD 0+o7 l k<=1000000000->(dA (l.foldl (mB d) mi).1 k).getD 0=(dA mi.1 k).getD 0+o7 l k
 | [],mi,_,_=>by simp[uC]
 |x::l,mi,h0,hb=>by
  rw[cK];rw[uB] at hb ⊢
  have hs:(dA (mB d mi x).1 k).getD 0=(dA mi.1 k).getD 0+(if x.aq=k then 1 else 0):=by
   simp only[mB];rw[gN]
   by_cases hx:x.aq=k
   ·rw[bh hx.symm,bh hx,hx];rw[bh hx] at hb;simp only[bn];exact fW (by omega) (by omega)
   ·rw[aQ (fun hh=>hx hh.symm),aQ hx]; omega
  rw[Cg d k l _ (by rw[hs]; split<;>omega) (by rw[hs]; split at hb<;>simp_all<;>omega),hs]
  split<;>omega
def Ch(k:Int):∀(l:List Node)(mi:AL×AL),0<=(dA mi.1 k).getD 0->(dA mi.1 k).getD 0+qk l k<=1000000000->(dA (l.foldl (fun mi n=>n.aL.foldl (mB n.aq) mi) mi).1 k).getD 0=(dA mi.1 k).getD 0+qk l k
 | [],mi,_,_=>by simp[qk]
 |x::l,mi,h0,hb=>by
  rw[cK];rw[rB] at hb ⊢;have h1:=Cg x.aq k x.aL mi h0 (by omega)
  rw[Ch k l _ (by rw[h1]; omega) (by rw[h1]; omega),h1]
  omega
def E9(ae:List Node)(k:Int)(hb:qk ae k<=1000000):(dA (nL ae).1 k).getD 0=qk ae k:=by
 have:=Ch k ae ([],[]) (by simp[dA]) (by simp[dA]; omega)
 simpa[dA,nL] using this
def GV(d k u:Int):∀(l:List fg)(mi:AL×AL),(∀e,e∈l->e.aq=k->d=u)->(dA mi.2 k=some u\/0<o7 l k)->dA (l.foldl (mB d) mi).2 k=some u
 | [],mi,_,h=>by
  rcases h with h|h
  ·exact h
  ·simp[uC] at h
 |x::l,mi,hd,h=>by
  rw[cK];refine GV d k u l _ (fun e he=>hd e (aX _ he)) ?_
  simp only[mB];rw[gN]
  by_cases hx:x.aq=k
  ·rw[bh hx.symm,hd x bj hx]; exact .inl rfl
  ·rw[aQ (fun hh=>hx hh.symm)]
   rcases h with h|h
   ·exact .inl h
   ·rw[uB,aQ hx] at h; exact .inr h
def Cf(d k:Int):∀(l:List fg)(mi:AL×AL),o7 l k=0->dA (l.foldl (mB d) mi).2 k=dA mi.2 k
 | [],_,_=>rfl
 |x::l,mi,h=>by
  rw[uB] at h;have hx:¬x.aq=k:=fun hh=>by rw[bh hh] at h; omega
  rw[cK,Cf d k l _ (by rw[aQ hx] at h; exact h)]
  simp only[mB];rw[gN,aQ (fun hh=>hx hh.symm)]
def GW(k u:Int):∀(l:List Node)(mi:AL×AL),(∀n,n∈l->∀e,e∈n.aL->e.aq=k->n.aq=u)->(dA mi.2 k=some u\/0<qk l k)->dA (l.foldl (fun mi n=>n.aL.foldl (mB n.aq) mi) mi).2 k=some u
 | [],mi,_,h=>by
  rcases h with h|h
  ·exact h
  ·simp[qk] at h
 |x::l,mi,hd,h=>by
  rw[cK];refine GW k u l _ (fun n hn=>hd n (aX _ hn)) ?_
  rcases fA (o7 x.aL k) with h0|h0
  ·rw[Cf x.aq k x.aL mi h0];rcases h with h|h
   ·exact .inl h
   ·rw[rB,h0] at h; exact .inr (by omega)
  ·exact .inl (GV x.aq k u x.aL mi (hd x bj) (.inr h0))
def cF.I8{t:Tree}{cz:Int->Nat}(h:cF t cz 0){i:Int}{n:Node}(hi:find t.ae i=some n)(hk:n.kind=2)(h1:i≠1):dA (nL t.ae).2 i=some n.up:=by
 have hl:=h.dz _ _ hi;rw[aQ (by have:=(h.num _ _ hi).1; omega),h.one _ _ hi hk h1] at hl
 refine GW i n.up t.ae ([],[]) (fun m hm e he hei=>?_) (.inr (by omega))
 obtain⟨_,_,_,_,q,hq,hu⟩:=h.x9 _ _ e ((eD h.ja.jd).2 ⟨hm,rfl⟩) he;rw[hei,hi] at hq; cases hq;exact(hu hk).symm
def cF.Va{t:Tree}{cz:Int->Nat}{x:Int}(h:cF t cz x):∀(m:Nat)(i:Int)(out:List Int)(n:Node),find t.ae i=some n->n.kind=2->cz i<=m->(qF t.ae m i (out++[i]))[out.length+cz i]?=some 1:=by
 intro m;induction m with
 |zero =>
  intro i out n hi hk hd
  have h1:i=1:=by
   rcases Int.decEq i 1 with h1|h1
   ·have:=(h.n9 _ _ hi hk h1).1; omega
   ·exact h1
  have h0:cz i=0:=by omega
  rw[h0];simp[qF,h1]
 |succ m ih =>
  intro i out n hi hk hd;simp only[qF]
  by_cases h1:i=1
  ·subst h1; simp[h.yL]
  ·obtain⟨a,p,b,c⟩:=h.n9 _ _ hi hk h1;simp only[mj,ne_eq,h1,lV,↓reduceIte,aY,hi,bW,di,bn,hk,an,eR,af];have:=ih n.up (out++[i]) p b c (by omega)
   simp only[aD,au,av] at this;rw[a,show out.length+(cz n.up+1)=out.length+(0+1)+cz n.up by omega]
   exact this
def cF.NR{t:Tree}{cz:Int->Nat}{x:Int}(h:cF t cz x){i:Int}{n:Node}(hi:find t.ae i=some n)(hk:n.kind=2):(rf t.ae i)[cz i]?=some 1:=by
 have:=h.Va t.ae.length i [] n hi hk (by have:=h.zO hi hk; omega)
 simpa[rf] using this
def eC(cs:List Int):List ag:=cs.map fun c => .int .i64 c
def eT(cs:List Int):List ag:=cs.map fun _ => .bool true
def JP:∀(cs:List Int)(c:Int),c∉cs->wz .i (aE c) (eC cs) (eT cs)=some none
 | [],c,_=>rfl
 |x::cs,c,h=>by
  show bI (jW .i (aE c) (aE x)) (fun b=>xy b (some (some (.bool true))) (wz .i (aE c) (eC cs) (eT cs)))=_
  rw[JP cs c (fun hh=>h (aX _ hh))]
  have:(c==x)=false:=by simp; rintro rfl; exact h bj
  simp only[jW,↓reduceIte,bT,this,nZ]
def JQ:∀(cs:List Int)(c:Int),c∉cs->wA .i (aE c) (.bool true) (eC cs) (eT cs)=some (eC (cs++[c]),eT (cs++[c]))
 | [],c,_=>by
  show bI (jW .i (aE c) (aE c)) (fun _=>some ([aE c],[ag.bool true]))=_
  simp only[jW,↓reduceIte,bT];rfl
 |x::cs,c,h=>by
  show bI (jW .i (aE c) (aE x)) (fun b=>xy b (some (aE c::eC cs,ag.bool true::eT cs)) (bI (wA .i (aE c) (.bool true) (eC cs) (eT cs)) fun y=>some (aE x::y.1,ag.bool true::y.2)))=_
  rw[JQ cs c (fun hh=>h (aX _ hh))]
  have:(c==x)=false:=by simp; rintro rfl; exact h bj
  simp only[jW,↓reduceIte,bT,this,nZ];rfl
def bkT(B:Nat)(M:aH)(l:List Int):List.map (ag.kg B M) (eT l)=eT l:=by
 unfold eT;rw[jj];exact dx (fun p _=>rfl)
def TE{s:Bytes}(h:Nm s):nH s/\s.length<=100000/\fD s=true:=by
 refine⟨trivial,?_,h⟩;unfold Nm fD at h;simp only[bm,gV,kB,dq] at h;omega
def apq{t:Tree}{cz:Int->Nat}(hi:cF t cz 0)(ht:Small t){n:Node}{ni:Int}(hf:find t.ae ni=some n):ar bK 236 [bX 0,bD n] [bO [aN t.ae,aE t.next,aE t.aj]]=some (.bool true,[bO [aN t.ae,aE t.next,aE t.aj]]):=by
 obtain⟨ae,next,aj⟩:=t
 have he:=hi.few hf;have hE:ou n.aL:=hi.ja.aL n (bR hf).1;have hC:=(hi.v8 _ _ hf).1;have hl:decide ((n.aL.length:Int)<=64)=true:=gR (by omega)
 have hlk:o9 (.bool false) false none = .bool false:=rfl;refine aw ?_;simp only[PR,Vy,bD,aF,EW,seval];refine Ph (iu (xs:=n.aL) (by omega) (fun m cs=>cs=(n.aL.take m).map fg.aj) (fun _ i=>[(0,bX 0),(3,bX 1),(5,.gP 2),(12,gS n.aL),(13,aE n.aL.length),(14,aE i)]) (fun cs=>[bO [aN ae,aE next,aE aj],bO (aF n),.map (eC cs) (eT cs)]) _ (fun cs _=>?_) (fun pre x post cs e hx cn hw h0 hm hcs hi'=>?_) [] rfl)
 ·refine⟨_,rfl,?_⟩;simp only[aF];simp only[Vy,bp,hl,EW,seval]
 ·have hp:=(ak.1 hx).1;have i1:=hi' (cs++[x.aj]) (by rw[cB,hx,hcs]; simp)
  obtain⟨x1,x2,_,x4,m,hm',_⟩:=hi.x9 _ _ x hf hm;obtain⟨na,nl,no⟩:=TE x4
  have hat:Hg ae x.aq (kO ae x.aq)=true:=by
   rcases ri hi.ja.jd x.aq with ⟨h1,_⟩|⟨_,h2⟩
   ·exact h1
   ·simp only at hm' h2; rw[hm'] at h2; cases h2
  have hcm:x.aj∉cs:=fun hc=>by
   rw[hcs,e,List.take_left] at hc;obtain⟨y,hy,hyc⟩:=cE.1 hc;rw[e,dn] at hC;exact hC.2.2 y hy x bj hyc
  have b1:decide (x.aj<1)=false:=bG (by omega)
  have b2:decide (aj<=x.aj)=false:=bG (by simp only at x2; omega)
  have q79:=fun a b M=>WO ae next aj x.aq hi.ja.jd ht.ae 0 (bO [aN ae,aE next,aE aj]::a::b::M) rfl
  have q41:=fun M=>WM x.name nl na M
  simp only[aF] at i1 ⊢;cases h1:decide ((0:Int)<(pre.length:Int))
  ·simp only[Vy,cn,hx,hw,h0,fH,fa,q79,q41,hat,no,b1,b2,mapOf,JP _ _ hcm,JQ _ _ hcm,hlk,bkT,h1,EW,seval];exact i1
  ·obtain⟨y,c1,c2,c3,c4⟩:=uu (xs:=n.aL) (pre:=pre) (by omega) hp (by simpa using h1)
   have hlt':strLt y.name x.name=true:=xi hE c1 hx (by simp at h1; omega)
   simp only[Vy,cn,hx,hw,h0,fH,fa,q79,q41,hat,no,b1,b2,mapOf,JP _ _ hcm,JQ _ _ hcm,hlk,bkT,h1,c1,c2,c3,c4,hlt',EW,seval];exact i1
def aqO{ae:List Node}{next aj:Int}{cz:Int->Nat}(hi:cF ⟨ae,next,aj⟩ cz 0)(ht:Small ⟨ae,next,aj⟩){n:Node}{ni:Int}(hf:find ae ni=some n)(p:Nat)(M:aH)(hM:nth M p=some (bO [aN ae,aE next,aE aj])) :
  aM (ar bK) 236 [bX p,.agg (aF n)] M=some (.bool true,M):=by
 have:=pM hM (apq hi ht hf) rfl rfl rfl rfl rfl rfl rfl rfl rfl rfl;rwa[rq hM] at this
set_option maxHeartbeats 1000000 in
def aoo{t:Tree}{cz:Int->Nat}(hi:cF t cz 0)(ht:Small t){n:Node}{ni:Int}(hf:find t.ae ni=some n)(many P9:Int)(hm:many=qk t.ae ni)(hin:n.kind=2->ni≠1->P9=n.up) :
  ar bK 150 [bX 0,bD n,aE many,aE P9] [bO [aN t.ae,aE t.next,aE t.aj]]=some (.bool true,[bO [aN t.ae,aE t.next,aE t.aj]]):=by
 obtain⟨ae,next,aj⟩:=t
 have hno:n.aq=ni:=hi.aq hf;have hl:=hi.dz _ _ hf;rw[aQ (by have:=(hi.num _ _ hf).1; omega)] at hl
 have hl:n.dz=(qk ae ni:Int):=by simpa using hl
 have hm:many=(qk ae ni:Int):=hm;have hlm:(n.dz==many)=true:=by rw[hm,hl]; simp
 have q108:=fun a M=>aqO hi ht hf 0 (bO [aN ae,aE next,aE aj]::a::M) rfl
 have q44:=fun aq a M=>WN ae next aj aq hi.ja.jd ht.ae 0 (bO [aN ae,aE next,aE aj]::a::M) rfl
 simp only[aF] at q108;refine aw ?_;rcases hi.kind _ _ hf with hk|hk
 ·obtain⟨f1,f2,f3⟩:=hi.file _ _ hf hk;have b1:(n.kind==1)=true:=by simp[hk]
  have b2:((n.aL.length:Int)==0)=true:=by rw[f1]; rfl
  have b3:(n.up==0)=true:=by simp[f2]
  have b4:decide ((n.data.length:Int)<=4096)=true:=by rw[ba]; omega
  simp only[GL,Vp,bD,aF,b1,b2,b3,b4,hlm,EN,seval]
 ·have hd:=hi.dir _ _ hf hk;have b1:(n.kind==1)=false:=by simp[hk]
  have b2:(n.kind != 2)=false:=by simp[hk]
  have b3:decide ((0:Int)<(n.data.length:Int))=false:=by rw[hd]; simp
  by_cases h1:ni=1
  ·subst h1;obtain⟨r,r1,r2,r3⟩:=hi.root;have hrn:r=n:=by simp only at r1 hf; rw[hf] at r1; injection r1 with r1; exact r1.symm
   subst hrn
   have c0:qk ae 1=0:=by
    rcases fA (qk ae 1) with h0|h0
    ·exact h0
    ·obtain⟨m,e,e1,e2,e3⟩:=si.1 h0;exact absurd e3 (hi.x9 _ _ e ((eD hi.ja.jd).2 ⟨e1,rfl⟩) e2).2.2.1
   have c1:(r.aq==1)=true:=by simp[hno]
   have c2:(r.up==1)=true:=by simp[r3]
   have c3:(r.dz==0)=true:=by simp[hl,c0]
   have c4:(many==0)=true:=by simp[hm,c0]
   simp only[GL,Vp,bD,aF,b1,b2,b3,q108,c1,c2,c3,c4,EN,seval]
  ·have hl1:=hi.one _ _ hf hk h1;have c1:(n.aq==1)=false:=by rw[hno]; simpa using h1
   have c2:(many != 1)=false:=by simp; omega
   have c3:(P9 != n.up)=false:=by simp[hin hk h1]
   have c4:(n.dz != 1)=false:=by simp[hl1]
   have hul:=hi.rR hf hk;have hlast:=hi.NR hf hk;obtain⟨dd1,dd2⟩:=hi.deep _ _ hf hk;simp only at hul hlast;have hw:IntKind.i64.wrap (((rf ae n.aq).length:Int)-1)=(cz ni:Int):=by rw[hno,hul,fW (by omega) (by omega)]; omega
   have hg:(rf ae n.aq)[cz ni]?=some 1:=by rw[hno]; exact hlast
   have w1:=rS (rf ae n.aq)
   by_cases h12:cz ni<12
   ·have d1:decide ((cz ni:Int)<12)=true:=by rw[ba]; omega
    simp only[GL,Vp,bD,aF,b1,b2,b3,q108,c1,c2,c3,c4,q44,hw,hg,w1,d1,EN,seval]
   ·have d1:decide ((cz ni:Int)<12)=false:=by rw[dq]; omega
    have d2:((cz ni:Int)==12)=true:=by rw[eG]; omega
    have d3:((n.aL.length:Int)==0)=true:=by rw[dd2 (by omega)]; rfl
    simp only[GL,Vp,bD,aF,b1,b2,b3,q108,c1,c2,c3,c4,q44,hw,hg,w1,d1,d2,d3,EN,seval]
def aqB{ae:List Node}{next aj:Int}{cz:Int->Nat}(hi:cF ⟨ae,next,aj⟩ cz 0)(ht:Small ⟨ae,next,aj⟩){n:Node}{ni:Int}(hf:find ae ni=some n)(many P9:Int)(hm:many=qk ae ni)(hin:n.kind=2->ni≠1->P9=n.up)(p:Nat)(M:aH)(hM:nth M p=some (bO [aN ae,aE next,aE aj])) :
  aM (ar bK) 150 [bX p,.agg (aF n),aE many,aE P9] M=some (.bool true,M):=by
 have:=pM hM (aoo hi ht hf many P9 hm hin) rfl rfl rfl rfl rfl rfl rfl rfl rfl rfl;rwa[rq hM] at this
def cF.first{t:Tree}{cz:Int->Nat}(h:cF t cz 0):∃r rest,t.ae=r::rest/\r.aq=1/\r.kind=2:=by
 obtain⟨r,r1,r2,_⟩:=h.root;cases hn:t.ae with
 |nil=>rw[hn] at r1; cases r1
 |cons x l =>
  refine⟨x,l,rfl,?_⟩;have hxf:find t.ae x.aq=some x:=(eD h.ja.jd).2 ⟨by rw[hn]; exact bj,rfl⟩
  obtain⟨q1,q2⟩:=bR r1;rw[hn] at q1;rcases bC.1 q1 with rfl|q1
  ·exact⟨q2,r2⟩
  ·have hp:=h.ja.jd;rw[hn] at hp;have:=(cd.1 hp).1 r q1;have:=(h.num _ _ hxf).1;omega
set_option maxHeartbeats 1000000 in
def c79{t:Tree}{cz:Int->Nat}(hi:cF t cz 0)(ht:Small t):ar bK 79 [bo t] []=some (.bool true,[]):=by
 obtain⟨ae,next,aj⟩:=t
 obtain⟨r,rest,r1,r2,r3⟩:=hi.first
 simp only at r1;have hn:ae.length<=200:=hi.ae;have hl1:1<=ae.length:=by rw[r1]; simp
 have hnx:=hi.next
 have hck:=hi.aj;simp only at hnx hck;have b1:decide ((ae.length:Int)<1)=false:=bG (by omega)
 have b2:decide ((200:Int)<(ae.length:Int))=false:=bG (by omega)
 have h0:ae[0]?=some r:=by rw[r1]; rfl
 have b3:(r.aq != 1)=false:=by simp[r2]
 have b4:(r.kind != 2)=false:=by simp[r3]
 have b5:decide ((1099511627776:Int)<next)=false:=bG (by omega)
 have b6:decide (aj<1)=false:=bG (by omega)
 have b7:decide ((1099511627776:Int)<aj)=false:=bG (by omega)
 have q72:=fun a M=>aqA ae next aj ht.ae ht.aL 1 (a :: bO [aN ae,aE next,aE aj]::M) rfl
 have hz0:Int.toNat 0=0:=rfl;refine aw ?_;simp only[aj2,E79,bo,aI,b1,b2,h0,hz0,bD,aF,b3,b4,b5,b6,b7,cZ,EW,seval];refine lM (xs:=ae) (by omega) (fun _ (_:Unit)=>()) (fun _ i=>[(3,bX 1),(79,aN ae),(80,aE ae.length),(81,aE i)]) (fun _=>[bO [aN ae,aE next,aE aj],bO [aN ae,aE next,aE aj]]) (fun _=>some (ag.bool true,([]:aH))) (fun _=>?_) (fun pre x post _ _ hx cn hw h0' hm hi'=>?_) ()
 ·simp only[E79,bp,q72,EW,seval];refine lM (xs:=ae) (by omega) (fun _ (_:Unit)=>()) (fun _ i=>[(3,bX 1),(6,.iL (eK (nL ae).1) (eV (nL ae).1)),(7,.iL (eK (nL ae).2) (eV (nL ae).2)),(129,aN ae),(130,aE ae.length),(131,aE i)]) (fun _=>[bO [aN ae,aE next,aE aj],bO [aN ae,aE next,aE aj]]) (fun _=>some (ag.bool true,([]:aH))) (fun _=>?_) (fun pre x post _ _ hx cn hw h0' hm hi'=>?_) ()
  ·simp only[E79,bp,EW,seval]
  ·have i1:=hi' ();have hf:find ae x.aq=some x:=(eD hi.ja.jd).2 ⟨hm,rfl⟩
   have q73:=fun a b M=>aqB hi ht hf _ _ (E9 ae x.aq (aV (hi.I5 x.aq) (by omega))) (fun hk h1=>by
    have:=hi.I8 hf hk h1;simp only at this
    show(dA (nL ae).2 x.aq).getD 0=x.up
    rw[this]; rfl) 1 (a :: bO [aN ae,aE next,aE aj]::b::M) rfl
   simp only[aF] at q73;simp only[E79,cn,hx,hw,h0',bD,aF,mapOf,mM,abl,q73,EW,seval];exact i1
 ·have i1:=hi' ();have hp:=(ak.1 hx).1;have hf:find ae x.aq=some x:=(eD hi.ja.jd).2 ⟨hm,rfl⟩;have c5:decide (next<=x.aq)=false:=bG (by have:=(hi.num _ _ hf).2; simp only at this; omega)
  have c6:decide ((64:Int)<(x.aL.length:Int))=false:=bG (by have:=hi.few hf; omega)
  cases h1:decide ((0:Int)<(pre.length:Int))
  ·simp only[E79,cn,hx,hw,h0',bD,aF,h1,c5,c6,EW,seval];exact i1
  ·obtain⟨y,d1,d2,d3,d4⟩:=uu (xs:=ae) (pre:=pre) (by omega) hp (by simpa using h1)
   have d5:decide (x.aq<=y.aq)=false:=bG (by have:=xi hi.ja.jd d1 hx (by simp at h1; omega); omega)
   simp only[E79,cn,hx,hw,h0',bD,aF,h1,c5,c6,d1,d2,d3,d4,d5,EW,seval];exact i1
def k79{ae:List Node}{next aj:Int}{cz:Int->Nat}(hi:cF ⟨ae,next,aj⟩ cz 0)(ht:Small ⟨ae,next,aj⟩)(M:aH):aM (ar bK) 79 [.agg [aN ae,aE next,aE aj]] M=some (.bool true,M):=cO (c79 hi ht) M
end
def zE(s:ga)(a:Int)(n:Node):Prop:=(∃(j:Nat) (c:Int),s.now.ae[j]?=some n/\s.since[j]?=some c/\c<=a)\/∃p,p∈s.dw/\p.node=n/\p.jh<=a/\a<p.nS
theorem HJ(a:Int)(k:Int):∀(l:List mP)(m:AM Node),
  (∀n,dA (l.foldl (jQ a) m) k=some n->(∃p,p∈l/\p.node=n/\p.jh<=a/\a<p.nS/\n.aq=k)\/dA m k=some n) /\
  ((dA m k).isSome=true\/(∃p,p∈l/\p.jh<=a/\a<p.nS/\p.node.aq=k)->(dA (l.foldl (jQ a) m) k).isSome=true)
 | [],m=>⟨fun n h => .inr h,fun h=>by
   grind⟩
 |p::r,m=>by
  obtain⟨h1,h2⟩:=HJ a k r (jQ a m p);rw[cK];refine⟨fun n hn=>?_,fun h=>h2 ?_⟩
  ·rcases h1 n hn with ⟨q,q1,q2⟩|h
   ·grind
   ·unfold jQ at h;split at h
    ·rename_i hc;simp only[bm,ba] at hc;rw[gN] at h
     grind
    ·exact .inr h
  ·unfold jQ;rcases h with h|⟨q,q1,q2,q3,q4⟩
   ·grind [gN]
   ·rcases bC.1 q1 with rfl|q1
    ·simp_all [gN]
    grind
theorem HB(a:Int)(k:Int):∀(l:List Node)(ys:List Int)(m:AM Node),
  (∀n,dA (pg a l ys m) k=some n->(∃(j:Nat) (c:Int),l[j]?=some n/\ys[j]?=some c/\c<=a/\n.aq=k)\/dA m k=some n) /\
  ((dA m k).isSome=true\/(∃(j:Nat) (n:Node) (c:Int),l[j]?=some n/\ys[j]?=some c/\c<=a/\n.aq=k)->(dA (pg a l ys m) k).isSome=true)
 | [],ys,m=>by
  grind [pg]
 |x::l,[],m=>by
  grind [pg]
 |x::l,y::ys,m=>by
  obtain⟨h1,h2⟩:=HB a k l ys (if decide (y<=a) then lJ m x.aq x else m)
  rw[pg];refine⟨fun n hn=>?_,fun h=>h2 ?_⟩
  ·rcases h1 n hn with ⟨j,c,q1,q2,q3⟩|h
   ·exact .inl ⟨j+1,c,by simpa using q1,by simpa using q2,q3⟩
   ·split at h
    ·rename_i hc;rw[gN] at h;split at h
     ·rename_i hk;injection h with h
      exact .inl ⟨0,y,by simp[h],rfl,iB hc,by rw[<-h,hk]⟩
     ·exact .inr h
    ·exact .inr h
  ·rcases h with h|⟨j,n,c,q1,q2,q3,q4⟩
   ·left; split
    ·rw[gN]; split
     ·rfl
     ·exact h
    ·exact h
   ·cases j with
    |zero =>
     simp_all [eS,gN]
    |succ j=>exact .inr ⟨j,n,c,by simpa using q1,by simpa using q2,q3,q4⟩
theorem VJ{s:ga}{a:Int}(hu:∀n m,zE s a n->zE s a m->n.aq=m.aq->n=m)(k:Int)(n:Node):dA (qS s a) k=some n↔zE s a n/\n.aq=k:=by
 obtain⟨p1,p2⟩:=HJ a k s.dw [];obtain⟨n1,n2⟩:=HB a k s.now.ae s.since _
 have sound:∀n,dA (qS s a) k=some n->zE s a n/\n.aq=k:=fun n h=>by
  rcases n1 n h with ⟨j,c,h1,h2,h3,h4⟩|h
  ·exact⟨.inl ⟨j,c,h1,h2,h3⟩,h4⟩
  ·rcases p1 n h with ⟨p,q1,q2,q3,q4,q5⟩|h
   ·exact⟨.inr ⟨p,q1,q2,q3,q4⟩,q5⟩
   ·cases h
 refine⟨sound n,fun⟨hv,hk⟩=>?_⟩
 have:(dA (qS s a) k).isSome=true:=by
  refine n2 ?_;rcases hv with ⟨j,c,h1,h2,h3⟩|⟨p,h1,h2,h3,h4⟩
  ·exact .inr ⟨j,n,c,h1,h2,h3,hk⟩
  grind
 grind [Option.isSome_iff_exists,sound]
structure xW(K:Nat)(s:ga):Prop where
 tick:0<=s.tick/\s.tick<=K
 next:1<=s.next/\s.next<=K+1
 since:∀c,c∈s.since->0<=c/\c<=s.tick
 past:∀p,p∈s.dw->0<=p.jh/\p.jh<p.nS/\p.nS<=s.tick/\uU s.cp p.jh p.nS=true
 jd:s.dw.Pairwise fun q p=>(q.nS<p.nS\/q.nS=p.nS/\q.node.aq<p.node.aq)/\(q.node.aq=p.node.aq->q.nS<=p.jh)
 after:∀p,p∈s.dw->∀(j:Nat)(n:Node)(c:Int),s.now.ae[j]?=some n->s.since[j]?=some c->n.aq=p.node.aq->p.nS<=c
 C2:∀x,x∈s.cp->1<=x.id/\x.id<s.next/\0<=x.at'/\x.at'<=s.tick
 vF:s.cp.Pairwise fun x y=>x.id<y.id/\x.at'<=y.at'
 whole:∀x,x∈s.cp->(∃n,zE s x.at' n/\n.aq=x.aq/\n.kind=2)/\∀n e,zE s x.at' n->e∈n.aL->∃m,zE s x.at' m/\m.aq=e.aq
theorem Uh{α:Type}{R:α->α->Prop}:∀ {l:List α},l.Pairwise R->∀ {p q:α},p∈l->q∈l->p=q\/R p q\/R q p
 | [],_,_,_,h,_=>by grind
 |x::l,hw,p,q,hp,hq=>by
  obtain⟨h1,h2⟩:=cd.1 hw;rcases bC.1 hp with rfl|hp'<;>rcases bC.1 hq with rfl|hq'
  ·simp
  ·grind
  ·grind
  ·exact Uh h2 hp' hq'
section
variable {K:Nat} {s:ga} (h:xW K s) (hr:lL s.now.ae)
include h hr
theorem xW.uniq{a:Int}{n m:Node}(hn:zE s a n)(hm:zE s a m)(e:n.aq=m.aq):n=m:=by
 rcases hn with ⟨j,c,h1,h2,h3⟩|⟨p,h1,h2,h3,h4⟩<;>rcases hm with ⟨j',c',g1,g2,g3⟩|⟨q,g1,g2,g3,g4⟩
 ·have:=yV hr h1 g1 e
  grind
 ·have:=h.after q g1 j n c h1 h2 (by rw[e,g2]); omega
 ·have:=h.after p h1 _ m c' g1 g2 (by rw[h2,e]); omega
 ·rcases Uh h.jd h1 g1 with hpq|⟨_,hpq⟩|⟨_,hpq⟩
  ·rw[<-h2,<-g2,hpq]
  ·have:=hpq (by rw[h2,g2,e]); omega
  grind
theorem xW.all(a k:Int)(n:Node):dA (qS s a) k=some n↔zE s a n/\n.aq=k:=VJ (fun _ _ h1 h2 e=>h.uniq hr h1 h2 e) k n
end
theorem chg{t:Tree}(ht:lL t.ae)(n:Node):(decide (N4 t.ae n.aq<0) || !decide (n=aY t.ae n.aq))=true↔find t.ae n.aq≠some n:=by
 rcases vg ht n.aq with ⟨_,h2,_,h4⟩|⟨_,h2,h3⟩
 ·grind
 grind
theorem tp{t:Tree}(ht:lL t.ae){tk:List j5}{T:Int}:∀(l:List Node)(y:List Int)(p:mP),p∈iZ t tk T l y↔∃(j:Nat) (n:Node) (c:Int),l[j]?=some n/\y[j]?=some c/\p=⟨c,T,n⟩/\find t.ae n.aq≠some n/\uU tk c T=true
 | [],y,p=>by simp[iZ]
 |n::r,[],p=>by simp[iZ]
 |n::r,x::y,p=>by
  rw[iZ,bB,tp ht r y p];constructor
  ·rintro(hp|⟨j,m,c,h1,h2,h3⟩)
   ·split at hp
    ·rename_i hc;rw[bm,chg ht] at hc;exact⟨0,n,x,rfl,rfl,bP.1 hp,hc⟩
    ·cases hp
   ·exact⟨j+1,m,c,by simpa using h1,by grind,h3⟩
  ·rintro⟨j,m,c,h1,h2,h3,h4⟩;cases j with
   |zero =>
    left;simp only[eL,eS] at h1 h2;subst h1 h2;rw[bh (by rw[bm,chg ht]; exact h4)]
    grind
   |succ j=>grind
theorem HI{t:Tree}(ht:lL t.ae){tk:List j5}{T:Int}:∀(l:List Node)(y:List Int),lL l->(iZ t tk T l y).Pairwise fun q p=>(q.nS<p.nS\/q.nS=p.nS/\q.node.aq<p.node.aq)/\(q.node.aq=p.node.aq->q.nS<=p.jh)
 | [],y,_=>by simp[iZ]
 |n::r,[],_=>by simp[iZ]
 |n::r,x::y,hl=>by
  obtain⟨h1,h2⟩:=cd.1 hl;rw[iZ,dn];refine⟨by split<;>simp,HI ht r y h2,fun p hp q hq=>?_⟩
  obtain⟨j,m,c,g1,g2,rfl,_⟩:=(tp ht r y q).1 hq
  grind
def zD.mono{P Q:Int->Prop}{s u:ga}(h:zD P s u)(hp:∀d,P d->Q d):zD Q s u:=by
 rcases h with h|h|h|⟨d,h1,h2⟩
 ·exact .inl h
 ·exact .inr (.inl h)
 ·exact .inr (.inr (.inl h))
 ·exact .inr (.inr (.inr ⟨d,hp d h1,h2⟩))
section
variable {K:Nat} {s:ga} (h:xW K s) (hK:K<=100000) (hr:Rt s.now) (hl:s.since.length=s.now.ae.length)
include h hK hr hl
theorem xW.Ly{t:Tree}(ht:lL t.ae){x:j5}(hx:x∈s.cp)(n:Node):zE (mu s t) x.at' n↔zE s x.at' n:=by
 obtain⟨x1,x2,x3,x4⟩:=h.C2 x hx;have hT:lK (s.tick+1)=s.tick+1:=fW (by have:=h.tick; omega) (by have:=h.tick; omega)
 have hs:=hr.ja.jd;unfold mu;split
 ·rfl
 rw[hT];unfold zE;simp only[bB,tp ht];constructor
 ·rintro(⟨j,c,h1,h2,h3⟩|⟨p,h1|⟨j,m,c,g1,g2,rfl,_⟩,h2,h3,h4⟩)
  ·rw[bd,h1] at h2;simp only[eM,eS] at h2;rcases wJ hs hl (s.tick+1) n with ⟨i,i1,i2⟩|⟨_,i2⟩<;>grind
  ·exact .inr ⟨p,h1,h2,h3,h4⟩
  ·simp only at h2 h3;subst h2;exact .inl ⟨j,c,g1,g2,h3⟩
 ·rintro(⟨j,c,h1,h2,h3⟩|⟨p,h1,h2⟩)
  ·by_cases e:find t.ae n.aq=some n
   ·obtain⟨i,hi⟩:=bJ (bR e).1;refine .inl ⟨i,c,hi,?_,h3⟩;rw[bd,hi,eM];rcases wJ hs hl (s.tick+1) n with ⟨j',i1,i2⟩|⟨i1,_⟩
    ·have:=yV hs h1 i1 rfl;subst this;rw[h2] at i2; exact i2.symm
    ·exact absurd ((eD hs).2 ⟨aO h1,rfl⟩) i1
   ·refine .inr ⟨⟨c,s.tick+1,n⟩,.inr ⟨j,n,c,h1,h2,rfl,e,?_⟩,rfl,h3,by simp only; omega⟩
    exact fZ.2 ⟨x,hx,by simp[tx]; omega⟩
  ·exact .inr ⟨p,.inl h1,h2⟩
theorem xW.put{t:Tree}(ht:Rt t):xW (K+200) (mu s t):=by
 have hT:lK (s.tick+1)=s.tick+1:=fW (by have:=h.tick; omega) (by have:=h.tick; omega)
 have hs:=hr.ja.jd;have ha:=ht.ja.jd;have hv:=fun {x}=>h.Ly hK hr hl ha (x:=x)
 obtain⟨t1,t2⟩:=h.tick;obtain⟨n1,n2⟩:=h.next
 unfold mu at hv ⊢;split
 ·exact⟨⟨t1,by omega⟩,⟨n1,by omega⟩,h.since,h.past,h.jd,h.after,h.C2,h.vF,h.whole⟩
 rename_i hc;rw[aQ hc] at hv;rw[hT] at hv ⊢;refine⟨⟨by simp only; omega,by simp only; omega⟩,⟨n1,by simp only; omega⟩,fun c hc=>?_,fun p hp=>?_,?_,fun p hp j n c h1 h2 e=>?_,fun x hx=>?_,h.vF,fun x hx=>?_⟩
 ·obtain⟨n,_,rfl⟩:=cE.1 hc;rcases wJ hs hl (s.tick+1) n with ⟨j,_,i2⟩|⟨_,i2⟩
  ·have:=h.since _ (aO i2);simp only; omega
  grind
 ·rcases bB.1 hp with hp|hp
  ·obtain⟨g1,g2,g3,g4⟩:=h.past p hp
   grind
  ·obtain⟨j,n,c,g1,g2,rfl,_,g3⟩:=(tp ha _ _ p).1 hp;have:=h.since c (aO g2)
   grind
 ·rw[dn];refine⟨h.jd,HI ha _ _ hs,fun q hq p hp=>?_⟩
  obtain⟨j,n,c,g1,g2,rfl,_,_⟩:=(tp ha _ _ p).1 hp;have:=(h.past q hq).2.2.1;exact⟨.inl (by simp only; omega),fun e=>h.after q hq j n c g1 g2 e.symm⟩
 ·simp only at h1 h2;rw[bd,h1,eM] at h2;injection h2 with h2
  rcases wJ hs hl (s.tick+1) n with ⟨i,i1,i2⟩|⟨_,i2⟩
  ·rw[h2] at i2;rcases bB.1 hp with hp|hp
   ·exact h.after p hp i n c i1 i2 e
   ·exfalso;obtain⟨j',m,c',g1,g2,rfl,g3,_⟩:=(tp ha _ _ p).1 hp;have:=yV hs i1 g1 e;subst this;rw[i1] at g1; injection g1 with g1
    subst g1;exact g3 ((eD ha).2 ⟨aO h1,rfl⟩)
  ·have:p.nS<=s.tick+1:=by
    rcases bB.1 hp with hp|hp
    ·have:=(h.past p hp).2.2.1; omega
    ·obtain⟨j',m,c',g1,g2,rfl,_⟩:=(tp ha _ _ p).1 hp;simp[]
   omega
 ·obtain⟨g1,g2,g3,g4⟩:=h.C2 x hx
  grind
 ·obtain⟨⟨n,w1,w2⟩,w3⟩:=h.whole x hx
  grind
omit hK in
theorem xW.Zc(n:Node):zE s s.tick n↔n∈s.now.ae:=by
 constructor
 ·rintro(⟨j,c,h1,_⟩|⟨p,h1,_,_,h4⟩)
  ·exact aO h1
  ·have:=(h.past p h1).2.2.1; omega
 ·intro hn;obtain⟨j,hj⟩:=bJ hn;have cn:=(ak.1 hj).1;have hc:s.since[j]?=some (s.since[j]'(by omega)):=ai _
  exact .inl ⟨j,_,hj,hc,(h.since _ (aO hc)).2⟩
omit hK hl in
theorem xW.drop(d:Int):xW (K+200) (nN s d).1/\∀x,x∈s.cp->x.id≠d->x∈(nN s d).1.cp/\∀n,zE (nN s d).1 x.at' n↔zE s x.at' n:=by
 obtain⟨t1,t2⟩:=h.tick;obtain⟨n1,n2⟩:=h.next
 have h0:xW (K+200) s:=⟨⟨t1,by omega⟩,⟨n1,by omega⟩,h.since,h.past,h.jd,h.after,h.C2,h.vF,h.whole⟩
 unfold nN;split
 ·exact⟨h0,fun x hx _=>⟨hx,fun n=>Iff.rfl⟩⟩
 have hk:∀x,x∈s.cp.filter (nR d)->x∈s.cp:=fun x hx=>(cr.1 hx).1
 have hv:∀x,x∈s.cp.filter (nR d)->∀n,zE ⟨s.now,s.tick,s.since,s.dw.filter (tz (s.cp.filter (nR d))),s.cp.filter (nR d),s.next⟩ x.at' n↔zE s x.at' n:=fun x hx n=>by
  unfold zE;simp only[cr (p:=tz _)];constructor
  ·rintro(h1|⟨p,⟨h1,_⟩,h2⟩)
   ·exact .inl h1
   ·exact .inr ⟨p,h1,h2⟩
  ·rintro(h1|⟨p,h1,h2,h3,h4⟩)
   ·exact .inl h1
   ·exact .inr ⟨p,⟨h1,fZ.2 ⟨x,hx,by simp[tx]; omega⟩⟩,h2,h3,h4⟩
 refine⟨⟨⟨t1,by simp only; omega⟩,⟨n1,by simp only; omega⟩,h.since,fun p hp=>?_,h.jd.filter _,fun p hp=>h.after p (cr.1 hp).1,fun x hx=>h.C2 x (hk x hx),h.vF.filter _,fun x hx=>?_⟩,fun x hx hd=>?_⟩
 ·obtain⟨p1,p2⟩:=cr.1 hp;obtain⟨g1,g2,g3,_⟩:=h.past p p1;exact⟨g1,g2,g3,p2⟩
 ·obtain⟨⟨n,w1,w2⟩,w3⟩:=h.whole x (hk x hx);refine⟨⟨n,(hv x hx n).2 w1,w2⟩,fun n e g1 g2=>?_⟩
  obtain⟨m,m1,m2⟩:=w3 n e ((hv x hx n).1 g1) g2;exact⟨m,(hv x hx m).2 m1,m2⟩
 ·have hm:x∈s.cp.filter (nR d):=cr.2 ⟨hx,by simp[nR,hd]⟩
  exact⟨hm,hv x hm⟩
theorem xW.take(i:Int):xW (K+200) (takeN s i).1/\∀x,x∈s.cp->x∈(takeN s i).1.cp/\∀n,zE (takeN s i).1 x.at' n↔zE s x.at' n:=by
 obtain⟨t1,t2⟩:=h.tick;obtain⟨n1,n2⟩:=h.next
 have h0:xW (K+200) s:=⟨⟨t1,by omega⟩,⟨n1,by omega⟩,h.since,h.past,h.jd,h.after,h.C2,h.vF,h.whole⟩
 have hN:lK (s.next+1)=s.next+1:=fW (by omega) (by omega)
 unfold takeN;split
 ·exact⟨h0,fun x hx=>⟨hx,fun n=>Iff.rfl⟩⟩
 rename_i c1;split
 ·exact⟨h0,fun x hx=>⟨hx,fun n=>Iff.rfl⟩⟩
 rename_i c2;split
 ·exact⟨h0,fun x hx=>⟨hx,fun n=>Iff.rfl⟩⟩
 rw[hN];have hmem:∀x,x∈s.cp++[⟨s.next,i,s.tick⟩]↔x∈s.cp\/x=⟨s.next,i,s.tick⟩:=fun x=>by simp
 refine⟨⟨⟨t1,by simp only; omega⟩,⟨by simp only; omega,by simp only; omega⟩,h.since,fun p hp=>?_,h.jd,h.after,fun x hx=>?_,?_,fun x hx=>?_⟩,fun x hx=>⟨ew _ hx,fun n=>Iff.rfl⟩⟩
 ·obtain⟨g1,g2,g3,g4⟩:=h.past p hp;obtain⟨x,x1,x2⟩:=fZ.1 g4;exact⟨g1,g2,g3,fZ.2 ⟨x,ew _ x1,x2⟩⟩
 ·rcases(hmem x).1 hx with hx|rfl
  ·obtain⟨g1,g2,g3⟩:=h.C2 x hx;exact⟨g1,by simp only; omega,g3⟩
  ·exact⟨n1,by simp only; omega,t1,cZ _⟩
 ·rw[dn];refine⟨h.vF,by simp,fun x hx y hy=>?_⟩
  rw[bP.1 hy];obtain⟨_,g2,_,g4⟩:=h.C2 x hx;exact⟨g2,g4⟩
 ·rcases(hmem x).1 hx with hx|rfl
  ·exact h.whole x hx
  ·obtain⟨n,hn⟩:∃n,find s.now.ae i=some n:=ct.1 (by simpa[Option.isSome_iff_ne_none] using c1)
   have hnn:aY s.now.ae i=n:=by simp[aY,hn]
   have hv:∀n,zE ⟨s.now,s.tick,s.since,s.dw,s.cp++[⟨s.next,i,s.tick⟩],s.next+1⟩ s.tick n↔n∈s.now.ae:=h.Zc hr hl
   refine⟨⟨n,(hv n).2 (bR hn).1,(bR hn).2,by rw[hnn] at c2; simpa using c2⟩,fun m e g1 g2=>?_⟩
   have g1:=(hv m).1 g1;obtain⟨cz,hg⟩:=hr;obtain⟨_,_,_,_,q,q1,_⟩:=hg.x9 _ _ e ((eD hg.ja.jd).2 ⟨g1,rfl⟩) g2;exact⟨q,(hv q).2 (bR q1).1,(bR q1).2⟩
theorem xW.step{P:Int->Prop}{u:ga}(hu:zD P s u):xW (K+200) u/\∀x,x∈s.cp->¬P x.id->x∈u.cp/\∀n,zE u x.at' n↔zE s x.at' n:=by
 obtain⟨t1,t2⟩:=h.tick;obtain⟨n1,n2⟩:=h.next
 rcases hu with rfl|⟨t,ht,rfl⟩|⟨i,rfl⟩|⟨d,hd,rfl⟩
 ·exact⟨⟨⟨t1,by omega⟩,⟨n1,by omega⟩,h.since,h.past,h.jd,h.after,h.C2,h.vF,h.whole⟩,fun x hx _=>⟨hx,fun n=>Iff.rfl⟩⟩
 ·refine⟨h.put hK hr hl ht,fun x hx _=>⟨?_,h.Ly hK hr hl ht.ja.jd hx⟩⟩
  unfold mu;split<;>exact hx
 ·exact⟨(h.take hK hr hl i).1,fun x hx _=>(h.take hK hr hl i).2 x hx⟩
 ·exact⟨(h.drop hr d).1,fun x hx hp=>(h.drop hr d).2 x hx fun e=>hp (by rw[e]; exact hd)⟩
end
def yq(P:Int->Prop){f:aa}{t:Tree}(ht:Rt t)(Q:List cv):zD P f.s (iw f t Q).1.s:=by
 unfold iw;split
 ·exact .inl rfl
 split
 ·exact .inl rfl
 ·exact .inr (.inl ⟨_,uH _ _ _ ht,rfl⟩)
def G3(P:Int->Prop){f:aa}(hf:sR f)(o:jz)(i:Int)(d:Bytes):zD P f.s (oh f o i d).1.s:=by
 have hr:=yq P (f:=f) (hf.rt.put i d) f.cL;unfold oh;simp only[];split
 ·exact .inl rfl
 split<;>exact hr
def Drp(o:jz)(d:Int):Prop:=o.kind=16/\d=o.n
def Ve{K:Nat}{f:aa}{o:jz}(hf:sR f)(hk:dA p9 o.kind=some K):zD (Drp o) f.s (qO K f o).1.s:=by
 have h0:zD (Drp o) f.s f.s := .inl rfl;have hr:=hf.rt;have hp {t:Tree} (ht:Rt t):=yq (Drp o) (f:=f) ht f.cL;have hm:=uO _ _ _ hk;simp only[p9,bC,Prod.mk.injEq,List.not_mem_nil,or_false] at hm;rcases hm with ⟨_,rfl⟩|⟨_,rfl⟩|⟨_,rfl⟩|⟨_,rfl⟩|⟨_,rfl⟩|⟨_,rfl⟩|⟨_,rfl⟩|⟨_,rfl⟩|⟨_,rfl⟩|⟨_,rfl⟩|⟨_,rfl⟩|⟨_,rfl⟩|⟨_,rfl⟩|⟨_,rfl⟩|⟨_,rfl⟩|⟨e,rfl⟩|⟨_,rfl⟩
 ·show zD _ f.s (wv f o).1.s
  unfold wv; split<;>exact h0
 ·show zD _ f.s (wy f o).1.s
  have hr:=hp (hr.add (ig f.s.now o.c8).1 (ig f.s.now o.c8).2.1 o.n);unfold wy; simp only[]; repeat' split
  all_goals first|exact h0|exact hr
 ·show zD _ f.s (wq f o).1.s
  have hr:=hp (hr.ln (aY f.s.now.ae (jn f.s.now o.c8).1).aq (ig f.s.now o.r9).1 (ig f.s.now o.r9).2.1);unfold wq; simp only[]; repeat' split
  all_goals first|exact h0|exact hr
 ·show zD _ f.s (p7 f o).1.s
  have hr:=hp (hr.un (ig f.s.now o.c8).1 (ig f.s.now o.c8).2.1);unfold p7; simp only[]; repeat' split
  all_goals first|exact h0|exact hr
 ·show zD _ f.s (pV f o).1.s
  have hr:=hp (hr.mv (ig f.s.now o.c8).1 (ig f.s.now o.c8).2.1 (ig f.s.now o.r9).1 (ig f.s.now o.r9).2.1);unfold pV; simp only[]; repeat' split
  all_goals first|exact h0|exact hr
 ·show zD _ f.s (yZ f o).1.s
  unfold yZ; simp only[]; repeat' split
  all_goals exact h0
 ·show zD _ f.s (wM f o).1.s
  unfold wM; simp only[]; split<;>exact h0
 ·show zD _ f.s (wE f o).1.s
  unfold wE; simp only[]; repeat' split
  all_goals exact h0
 ·show zD _ f.s (sZ f o).1.s
  unfold sZ; simp only[]; split
  ·exact h0
  ·exact .inr (.inl ⟨_,hr.close _ _ _,rfl⟩)
 ·show zD _ f.s (zu f o).1.s
  unfold zu; repeat' split
  all_goals exact h0
 ·show zD _ f.s (tE f o).1.s
  unfold tE; repeat' split
  all_goals first|exact h0|exact G3 _ hf o _ _
 ·show zD _ f.s (B5 f o).1.s
  unfold B5; split
  ·exact h0
  ·exact G3 _ hf o _ _
 ·show zD _ f.s (th f o).1.s
  have hr:=yq (Drp o) (f:=f) hr (pT f.s.now f.cL (aY f.s.now.ae (jn f.s.now o.c8).1).aq o.n o.m).1;unfold th; simp only[]; repeat' split
  all_goals first|exact h0|exact hr
 ·show zD _ f.s (wQ f o).1.s
  unfold wQ; simp only[]; repeat' split
  all_goals first|exact h0|exact .inr (.inr (.inl ⟨_,rfl⟩))
 ·show zD _ f.s (zh f o).1.s
  unfold zh; simp only[]; repeat' split
  all_goals exact h0
 ·show zD _ f.s (wc f o).1.s
  unfold wc; simp only[]; split
  ·exact h0
  ·exact .inr (.inr (.inr ⟨_,⟨e,rfl⟩,rfl⟩))
 ·show zD _ f.s (ue f o).1.s
  unfold ue yR; simp only[];exact .inr (.inl ⟨_,hr.gone _ _ _,rfl⟩)
def V6{f:aa}{o:jz}(hf:sR f):zD (Drp o) f.s (vz f o).1.s:=by
 unfold vz;split
 ·exact .inl rfl
 ·rename_i K hk;split
  ·split
   ·exact Ve hf hk
   ·exact .inl rfl
  ·exact .inl rfl
def arM:xW 0 f0.s :=
 ⟨⟨by decide,by decide⟩,⟨by decide,by decide⟩,fun c hc=>by revert c; decide,fun p hp=>(by cases hp),.nil,fun p hp=>(by cases hp),fun x hx=>(by cases hx),.nil,fun x hx=>(by cases hx)⟩
def xW.mono{K L:Nat}{s:ga}(h:xW K s)(hl:K<=L):xW L s :=
 ⟨⟨h.tick.1,by have:=h.tick; omega⟩,⟨h.next.1,by have:=h.next; omega⟩,h.since,h.past,h.jd,h.after,h.C2,h.vF,h.whole⟩
def Zj.ok{K:Nat}{f:aa}(h:Zj K f):K<=100000->xW K f.s:=by
 induction h with
 |new=>intro _; exact arM
 |step _ hb hs ih=>intro hK; exact((ih (by omega)).step (by omega) hb.ok.rt hb.ok.len hs).1
def xW.do{K:Nat}{f:aa}(h:xW K f.s)(hK:K<=100000)(hf:sR f)(o:jz):xW (K+200) (vz f o).1.s/\∀x,x∈f.s.cp->¬Drp o x.id->x∈(vz f o).1.s.cp/\∀n,zE (vz f o).1.s x.at' n↔zE f.s x.at' n:=h.step hK hf.rt hf.len (V6 hf)
structure Vh(all:AM Node)(a b:VS):Prop where
 Hz:missing all b.1<=missing all a.1
 met:∀k,(dA a.1 k).isSome=true->(dA b.1 k).isSome=true
 out:∀n,n∈a.2->n∈b.2
 new:∀k,(dA b.1 k).isSome=true->(dA a.1 k).isSome=true\/∃n,dA all k=some n/\n∈b.2
 clo:∀n,n∈b.2->n∈a.2\/∀e,e∈n.aL->(dA b.1 e.aq).isSome=true
theorem Vh.refl{all:AM Node}{a:VS}:Vh all a a:=⟨aC _,fun _ h=>h,fun _ h=>h,fun _ h => .inl h,fun _ h => .inl h⟩
theorem Vh.trans{all:AM Node}{a b c:VS}(h:Vh all a b)(g:Vh all b c):Vh all a c :=
 ⟨aV g.Hz h.Hz,fun k hk=>g.met k (h.met k hk),fun n hn=>g.out n (h.out n hn),fun k hk=>by
  rcases g.new k hk with h1|h1
  ·rcases h.new k h1 with h2|⟨n,n1,n2⟩
   ·exact .inl h2
   ·exact .inr ⟨n,n1,g.out n n2⟩
  ·exact .inr h1,fun n hn=>by
  rcases g.clo n hn with h1|h1
  ·rcases h.clo n h1 with h2|h2
   ·exact .inl h2
   ·exact .inr fun e he=>g.met _ (h2 e he)
  ·exact .inr h1⟩
def EE{all:AM Node}(hc:∀k n e,dA all k=some n->e∈n.aL->(dA all e.aq).isSome=true):∀(f:Nat)(aq:Int)(st:VS),missing all st.1<f->(dA all aq).isSome=true ->
  (gd all f aq st).1=true/\(dA (gd all f aq st).2.1 aq).isSome=true/\Vh all st (gd all f aq st).2
 |0,_,_,h,_=>absurd h (j8 _)
 |f+1,aq,st,h,hs=>by
  rw[gd];split
  ·rename_i h1; exact⟨rfl,h1,Vh.refl⟩
  rename_i h1;obtain⟨n,hn⟩:=ct.1 hs;rw[hn];simp only[bW,di,af,az,bn];have h0:dA st.1 aq=none:=by simpa using h1
  have cn:=yl hn h0
  have key:∀(l:List fg)(w:Bool×VS),(∀e,e∈l->e∈n.aL)->w.1=true->missing all w.2.1<f ->
    (l.foldl (fun w e=>((gd all f e.aq w.2).1&&w.1,(gd all f e.aq w.2).2)) w).1=true/\Vh all w.2 (l.foldl (fun w e=>((gd all f e.aq w.2).1&&w.1,(gd all f e.aq w.2).2)) w).2/\∀e,e∈l->(dA (l.foldl (fun w e=>((gd all f e.aq w.2).1&&w.1,(gd all f e.aq w.2).2)) w).2.1 e.aq).isSome=true:=by
   intro l;induction l with
   |nil=>intro w _ hw _; exact⟨hw,Vh.refl,fun e he=>by cases he⟩
   |cons e r ih =>
    intro w hl hw hm;rw[cK];obtain⟨v1,v2,v3⟩:=EE hc f e.aq w.2 hm (hc _ _ e hn (hl e bj));obtain⟨g1,g2,g3⟩:=ih ((gd all f e.aq w.2).1&&w.1,(gd all f e.aq w.2).2) (fun x hx=>hl x (aX _ hx)) (by simp[v1,hw]) (Nat.lt_of_le_of_lt v3.Hz hm)
    refine⟨g1,v3.trans g2,fun x hx=>?_⟩
    rcases bC.1 hx with rfl|hx
    ·exact g2.met _ v2
    ·exact g3 x hx
  obtain⟨g1,g2,g3⟩:=key n.aL (true,(lJ st.1 aq (),st.2++[n])) (fun _ h=>h) rfl (by simp only; omega)
  have hi:∀k,(dA (lJ st.1 aq ()) k).isSome=true↔k=aq\/(dA st.1 k).isSome=true:=fun k=>by
   rw[gN]; split<;>simp[*]
  refine⟨g1,g2.met aq ((hi aq).2 (.inl rfl)),⟨by have:=g2.Hz; simp only at this; omega,fun k hk=>g2.met k ((hi k).2 (.inr hk)),fun m hm=>g2.out m (ew _ hm),fun k hk=>?_,fun m hm=>?_⟩⟩
  ·rcases g2.new k hk with h2|h2
   ·rcases(hi k).1 h2 with rfl|h2
    ·exact .inr ⟨n,hn,g2.out n (by simp)⟩
    ·exact .inl h2
   ·exact .inr h2
  ·rcases g2.clo m hm with h2|h2
   ·rcases bB.1 h2 with h2|h2
    ·exact .inl h2
    ·rw[bP.1 h2]; exact .inr g3
   ·exact .inr h2
def Bz(x y:Node):∀l:List Node,y=x\/y∈l->y∈yd x l
 | [],h=>by simpa[yd] using h
 |z::r,h=>by
  simp only[yd];split
  ·simpa using h
  ·rcases h with h|h
   ·exact aX _ (Bz x y r (.inl h))
   ·rcases bC.1 h with h|h
    ·simp[h]
    ·exact aX _ (Bz x y r (.inr h))
def C5(y:Node):∀l:List Node,y∈l->y∈xK l
 |x::r,h=>by
  rcases bC.1 h with h|h
  ·exact Bz x y _ (.inl h)
  ·exact Bz x y _ (.inr (C5 y r h))
structure Had(s:ga)(x:j5):Prop where
 whole:(tK s x).1=true
 root:∃n,n∈rU s x/\n.aq=x.aq/\n.kind=2
 vis:∀n,n∈rU s x->zE s x.at' n
 clo:∀n e,n∈rU s x->e∈n.aL->∃m,m∈rU s x/\m.aq=e.aq
def xW.had{K:Nat}{f:aa}(h:xW K f.s)(hf:sR f){x:j5}(hx:x∈f.s.cp):Had f.s x:=by
 have ha:=h.all hf.rt.ja.jd x.at';obtain⟨⟨r,r1,r2,r3⟩,w⟩:=h.whole x hx
 have hc:∀k n e,dA (qS f.s x.at') k=some n->e∈n.aL->(dA (qS f.s x.at') e.aq).isSome=true:=fun k n e h1 h2=>by
  obtain⟨m,m1,m2⟩:=w n e ((ha k n).1 h1).1 h2;rw[(ha e.aq m).2 ⟨m1,m2⟩]; rfl
 obtain⟨_,hl⟩:=hf.all x.at';have hr:=(ha x.aq r).2 ⟨r1,r2⟩;obtain⟨v1,v2,v3⟩:=EE hc 200001 x.aq ([],[]) (by have:=re (qS f.s x.at') []; simp only; omega) (by rw[hr]; rfl)
 have hv:∀n,n∈(tK f.s x).2.2->zE f.s x.at' n:=ED (fun k n hk=>((ha k n).1 hk).1) 200001 x.aq ([],[]) (fun n hn=>by cases hn)
 have new:∀k,(dA (tK f.s x).2.1 k).isSome=true->∃n,dA (qS f.s x.at') k=some n/\n∈(tK f.s x).2.2:=fun k hk=>(v3.new k hk).resolve_left (by simp[dA])
 refine⟨v1,?_,fun n hn=>hv n (uM n _ hn),fun n e hn he=>?_⟩
 ·obtain⟨n,n1,n2⟩:=new x.aq v2;rw[hr] at n1; cases n1;exact⟨r,C5 r _ n2,r2,r3⟩
 ·obtain⟨m,m1,m2⟩:=new e.aq ((v3.clo n (uM n _ hn)).resolve_left (by simp) e he)
  exact⟨m,C5 m _ m2,((ha _ m).1 m1).2⟩
def lh(n:Int)(p:Bytes):jz:=⟨15,0,p,[],n,0,0,[]⟩
def Hc(x:Node):∀l:List Node,lL l->(∀y,y∈l->y.aq≠x.aq)->lL (yd x l)
 | [],_,_=>by simp[yd,lL]
 |z::r,h,hn=>by
  obtain⟨h1,h2⟩:=cd.1 h;simp only[yd];split
  ·rename_i cn;refine cd.2 ⟨fun y hy=>?_,h⟩
   rcases bC.1 hy with rfl|hy
   ·exact cn
   ·have:=h1 y hy; omega
  ·rename_i hge;refine cd.2 ⟨fun y hy=>?_,Hc x r h2 fun y hy=>hn y (aX _ hy)⟩
   rcases CH x y r hy with rfl|hy
   ·have:=hn z bj; omega
   ·exact h1 y hy
def Ez:∀l:List Node,(l.map Node.aq).Nodup->lL (xK l)
 | [],_=>List.Pairwise.nil
 |x::r,h=>by
  obtain⟨h1,h2⟩:=lr.1 h;exact Hc x _ (Ez r h2) fun y hy e=>h1 (cE.2 ⟨y,uM y r hy,e⟩)
def Wy{f:aa}(hf:sR f)(x:j5):lL (rU f.s x)/\(rU f.s x).length<=100000:=by
 obtain⟨h1,_⟩:=hf.all x.at'
 have h2:(qS f.s x.at').length<=90200:=by
  obtain⟨g1,g2⟩:=tV x.at' f.s.dw [] ⟨fun k n h=>(by cases h),fun k n h=>(by cases h)⟩ (fun p hp=>by have:=(hf.Br p hp).1; omega)
  obtain⟨_,g4⟩:=xg x.at' f.s.now.ae f.s.since (f.s.dw.foldl (jQ x.at') []) g1 (fun n hn=>by have:=hf.rt.sz.aL n hn; omega)
  have:=hf.rt.sz.ae; have h3:=hf.dw;simp at g2; unfold qS; omega
 have hg:=tY (all:=qS f.s x.at') h1.own 200001 x.aq ([],[]);refine⟨Ez _ (hg.nodup (by simp) (by simp)).1,?_⟩
 have:=hg.len; have h3:=re (qS f.s x.at') [];simp only[av] at this;simp only[rU,xm,tK]; omega
def J1(s:ga):iU [bO (bl s)] (hZ [0]) [0]=some [bO (bl s)]:=rfl
def T9(p:mP):iU [bO (fL p)] (hZ [0]) [0]=some [bO (fL p)]:=rfl
def afA(p:mP)(b:dv):iU [b,bO (fL p)] (hZ [1]) [1]=some [bO (fL p)]:=rfl
section
attribute [local irreducible] eW fQ lh gK dW kr ar aM cq bI
def c82{K:Nat}{f:aa}(hf:sR f)(hs:xW K f.s):ar bK 82 [.agg (bl f.s)] []=some (.bool true,[]):=by
 refine aw ?_;have h16:=hf.cp;have e16:decide ((f.s.cp.length:Int)<=16)=true:=gR (by omega)
 simp only[aj5,E82,bl,EW,seval];refine lM (xs:=f.s.cp) (by omega) (fun _ (_:Unit)=>()) (fun _ i=>[(1,bX 0),(6,kc f.s.cp),(7,aE f.s.cp.length),(8,aE i)]) (fun _=>[bO (bl f.s)]) (fun _=>some (ag.bool true,([]:aH))) (fun _=>?_) (fun pre x post _ e hx cn hw h0 hm hi=>?_) ()
 ·simp only[bl,E82,bp,e16,EW,seval]
 ·have i1:=hi ();obtain⟨x1,x2,x3,x4⟩:=hs.C2 x hm;have d1:decide (x.id<1)=false:=bG (by omega)
  have d2:decide (f.s.next<=x.id)=false:=bG (by omega)
  have d3:decide (x.at'<0)=false:=bG (by omega)
  have d4:decide (f.s.tick<x.at')=false:=bG (by omega)
  simp only[bl] at i1 ⊢;cases h1:decide ((0:Int)<(pre.length:Int))
  ·simp only[E82,cn,hx,hw,h0,d1,d2,d3,d4,h1,jN,gv,EW,seval];exact i1
  ·have hp:=(ak.1 hx).1;obtain⟨y,b1,b2,b3,b4⟩:=uu (xs:=f.s.cp) (pre:=pre) (by omega) hp (by simpa using h1)
   obtain⟨y1,y2⟩:=xi hs.vF b1 hx (by simp at h1; omega)
   have d5:decide (x.id<=y.id)=false:=bG (by omega)
   have d6:decide (x.at'<y.at')=false:=bG (by omega)
   simp only[E82,cn,hx,hw,h0,d1,d2,d3,d4,d5,d6,h1,b1,b2,b3,b4,jN,gv,EW,seval];exact i1
def aot{q p:mP}(h:q.node.aq=p.node.aq->q.nS<=p.jh):ar bK 155 [iC q,bX 0] [bO (fL p)]=some (.bool false,[bO (fL p)]):=by
 refine aw ?_;simp only[aad,abY,iC,fL,aF,EW,seval];cases h1:q.node.aq==p.node.aq
 ·simp only[abY,h1,EW,seval]
 ·have h3:decide (p.jh<q.nS)=false:=bG (by have:=h (by simpa using h1); omega)
  cases h2:decide (q.jh<p.nS)<;>simp only[abY,h1,h2,h3,EW,seval]
def apt{xs:List mP}(hn:xs.length<=100000){p:mP}(h:∀q,q∈xs->q.node.aq=p.node.aq->q.nS<=p.jh) :
  ar bK 240 [gH (xs.map iC),.func 155 [bX 0]] [bO (fL p)]=some (aE (-1),[bO (fL p)]):=by
 refine aw ?_;have hk:∀x,x∈xs->aM (ar bK) 155 [.agg (fL x),bX 0] [bO (fL p)]=some (.bool false,[bO (fL p)]):=fun x hx=>jc (ids:=[0]) rfl rfl (T9 p) rfl rfl (aot (h x hx)) rfl rfl rfl rfl rfl
 simp only[aaX,ab8,EW,seval];refine lM (xs:=xs) (by omega) (fun _ (_:Unit)=>()) (fun _ i=>[(0,gH (xs.map iC)),(1,.func 155 [bX 0]),(7,aE xs.length),(8,aE i)]) (fun _=>[bO (fL p)]) (fun _=>some (aE (-1),[bO (fL p)])) (fun _=>?_) (fun pre x post _ e hx cn hw h0 hm hi=>?_) ()
 ·simp only[fL,aF,ab8,bp,EW,seval]
 ·have i1:=hi ();have q:=hk x hm;simp only[fL,aF] at q i1 ⊢;simp only[ab8,cn,hx,hw,h0,q,iC,fL,aF,EW,seval];exact i1
def aou{xs:List mP}(hn:xs.length<=100000){p:mP}(h:∀q,q∈xs->q.node.aq=p.node.aq->q.nS<=p.jh) :
  ar bK 156 [gH (xs.map iC),.func 155 [bX 0]] [bO (fL p)]=some (.bool false,[bO (fL p)]):=by
 refine aw ?_;have q:aM (ar bK) 240 [gH (xs.map iC),.func 155 [bX 0]] [bO (fL p)]=some (aE (-1),[bO (fL p)]):=jc (ids:=[0]) rfl rfl (T9 p) rfl rfl (apt hn h) rfl rfl rfl rfl rfl;have e:(0<=(-1:Int))=False:=by simp
 simp only[fL,aF] at q ⊢;simp only[aae,amV,q,e,EW,seval]
def afu{a b c d:Int}(h:a<b\/a=b/\c<d):decide (0<=YP (om a b) (om c d))=false:=by
 refine bG ?_;unfold YP om;rcases h with h|⟨rfl,h⟩
 ·simp[h]
 ·simp[h]
def c83{K:Nat}{f:aa}(hf:sR f)(hs:xW K f.s):ar bK 83 [.agg (bl f.s)] []=some (.bool true,[]):=by
 refine aw ?_;have h9:=hf.dw;have h200:=hf.rt.sz.ae;simp only[aj6,E83,bl,EW,seval];refine lM (xs:=f.s.dw) (by omega) (fun _ (_:Unit)=>()) (fun _ i=>[(1,bX 0),(8,ug f.s.dw),(9,aE f.s.dw.length),(10,aE i)]) (fun _=>[bO (bl f.s)]) (fun _=>some (ag.bool true,([]:aH))) (fun _=>?_) (fun pre x post _ e hx cn hw h0 hm hi=>?_) ()
 ·simp only[bl,E83,bp,EW,seval]
 ·have i1:=hi ();have hp:=(ak.1 hx).1;obtain⟨x1,x2,x3,x4⟩:=hs.past x hm;have d1:decide (x.jh<0)=false:=bG (by omega)
  have d2:decide (x.nS<=x.jh)=false:=bG (by omega)
  have d3:decide (f.s.tick<x.nS)=false:=bG (by omega)
  have q1:=fun M=>adl f.s.cp x.jh x.nS (by have:=hf.cp; omega) M
  rw[x4] at q1;have hpre:f.s.dw.take pre.length=pre:=by rw[e]; simp
  have q2:aM (ar bK) 156 [gH (pre.map iC),.func 155 [bX 1]] [bO (bl f.s),bO (fL x)]=some (.bool false,[bO (bl f.s),bO (fL x)]) :=
   jc (ids:=[1]) rfl rfl (afA x _) rfl rfl (aou (xs:=pre) (by omega) fun q hq=>by
    have ha:=hs.jd;rw[e,dn] at ha;exact(ha.2.2 q hq x bj).2) rfl rfl rfl rfl rfl
  have q3:=fun M=>k85 f.s.now.ae x.node.aq hf.rt.ja.jd (by omega) M
  have hle:((pre.length:Int)<=(f.s.dw.length:Int))=True:=uq;have hsl:(f.s.dw.map iC).take pre.length=pre.map iC:=by rw[<-eO,hpre]
  have hin:∀(a:Int),a=N4 f.s.now.ae x.node.aq->(decide (0<=a)=false)\/∃(j:Nat) (c:Int),a=j/\decide ((0:Int)<=(j:Int))=true/\f.s.since[j]?=some c/\decide (c<x.nS)=false/\((j:Int)<0)=False/\((j:Int)<(f.s.since.length:Int))=True:=fun a ha=>by
   rcases vg hf.rt.ja.jd x.node.aq with ⟨_,h2,h3,h4⟩|⟨_,h2,_⟩
   ·right;have hj:=(ak.1 h3).1;have hl:=hf.len;have hc:f.s.since[rI Node.aq f.s.now.ae x.node.aq]?=some (f.s.since[rI Node.aq f.s.now.ae x.node.aq]'(by omega)):=ai _
    have:=hs.after x hm _ _ _ h3 hc (bR h4).2;exact⟨_,_,ha.trans h2,by simp,hc,bG (by omega),by simp,by simp only[eH,im]; omega⟩
   ·left;rw[ha,h2]; rfl
  generalize N4 f.s.now.ae x.node.aq=a at q3 hin;have q4:∀a b M,aM (ar bK) 154 [aE a,aE b] M=some (aE (om a b),M):=fun a b M=>Qj a b M
  have q5:=fun a b M=>akJ a b M
  simp only[bl,fL,aF] at q2 i1 ⊢;rcases hin a rfl with ha|⟨j,c,rfl,d4,hc,d5,j1,j2⟩
  all_goals
   cases h1:decide ((0:Int)<(pre.length:Int))
   case' true =>
    obtain⟨y,b1,b2,b3,b4⟩:=uu (xs:=f.s.dw) (pre:=pre) (by omega) hp (by simpa using h1)
    have hor:=afu (xi hs.jd b1 hx (by simp at h1; omega)).1
  case inl.false =>
   simp only[E83,cn,hx,hw,h0,d1,d2,d3,ha,h1,q1,q2,q3,hle,hsl,iC,fL,aF,EW,seval];exact i1
  case inl.true =>
   simp only[E83,cn,hx,hw,h0,d1,d2,d3,ha,h1,b1,b2,b3,b4,hor,q1,q2,q3,q4,q5,hle,hsl,iC,fL,aF,EW,seval];exact i1
  case inr.false =>
   simp only[E83,cn,hx,hw,h0,d1,d2,d3,d4,d5,hc,j1,j2,h1,q1,q2,q3,hle,hsl,kv,iC,fL,aF,EW,seval];exact i1
  case inr.true =>
   simp only[E83,cn,hx,hw,h0,d1,d2,d3,d4,d5,hc,j1,j2,h1,b1,b2,b3,b4,hor,q1,q2,q3,q4,q5,hle,hsl,kv,iC,fL,aF,EW,seval];exact i1
def c81(s:ga)(x:Int):ar bK 81 [aE x,bX 0] [bO (bl s)]=some (.bool (decide (x<0)||decide (s.tick<x)),[bO (bl s)]):=by
 refine aw ?_;cases h1:decide (x<0)<;>simp only[aj4,E81,bl,h1,dH,cY,EW,seval]
def c29{K:Nat}{f:aa}(hf:sR f)(hs:xW K f.s)(hK:K<=1000000):ar bK 29 [.agg (bl f.s)] []=some (.bool true,[]):=by
 refine aw ?_;have h200:=hf.rt.sz.ae;obtain⟨t1,t2⟩:=hs.tick;obtain⟨n1,n2⟩:=hs.next
 obtain⟨cz,hg⟩:=hf.rt;have q1:=fun M=>k79 (ae:=f.s.now.ae) (next:=f.s.now.next) (aj:=f.s.now.aj) hg hf.rt.small M
 have q2:=fun M=>cO (c82 hf hs) M
 have q3:=fun M=>cO (c83 hf hs) M
 have hk:∀x,x∈f.s.since->aM (ar bK) 81 [aE x,bX 0] [bO (bl f.s)]=some (.bool false,[bO (bl f.s)]):=fun x hx=>by
  have:=c81 f.s x;obtain⟨x1,x2⟩:=hs.since x hx;rw[bG (show ¬x<0 by omega),bG (show ¬f.s.tick<x by omega)] at this
  exact jc (ids:=[0]) rfl rfl (J1 _) rfl rfl this rfl rfl rfl rfl rfl
 have q4:aM (ar bK) 80 [gH (f.s.since.map kv),.func 81 [bX 0]] [bO (bl f.s)]=some (.bool false,[bO (bl f.s)]) :=
  jc (ids:=[0]) rfl rfl (J1 _) rfl rfl (c80 (xs:=f.s.since) (b := bO (bl f.s)) rfl (jc (ids:=[0]) rfl rfl (J1 _) rfl rfl (aiS (by have:=hf.len; omega) rfl hk) rfl rfl rfl rfl rfl)) rfl rfl rfl rfl rfl
 have d1:decide (f.s.tick<0)=false:=bG (by omega)
 have d2:decide (1099511627776<f.s.tick)=false:=bG (by omega)
 have d3:((f.s.since.length:Int) != (f.s.now.ae.length:Int))=false:=by rw[hf.len]; simp
 have d4:decide (f.s.next<1)=false:=bG (by omega)
 have d5:decide (1099511627776<f.s.next)=false:=bG (by omega)
 simp only[bl] at q2 q3 q4;simp only[ajL,E29,bl,q1,q2,q3,q4,d1,d2,d3,d4,d5,EW,seval];refine lM (xs:=f.s.cp) (by have:=hf.cp; omega) (fun _ (_:Unit)=>()) (fun _ i=>[(1,bX 0),(57,kc f.s.cp),(58,aE f.s.cp.length),(59,aE i)]) (fun _=>[bO (bl f.s)]) (fun _=>some (ag.bool true,([]:aH))) (fun _=>?_) (fun pre x post _ e hx cn hw h0 hm hi=>?_) ()
 ·simp only[bl,E29,bp,EW,seval]
 ·have i1:=hi ();obtain⟨g1,⟨r,r1,r2,r3⟩,_,_⟩:=hs.had hf hm;obtain⟨a1,a2⟩:=Wy hf x;have p1:=fun M=>k84 f.s x (by have:=hf.dw; omega) (fun p hp=>by have:=(hf.Br p hp).1; omega) hf.rt.sz hf.len M
  have p2:=fun M=>k85 (rU f.s x) x.aq a1 a2 M
  rw[g1] at p1;have hfr:=(eD a1).2 ⟨r1,r2⟩;rcases vg a1 x.aq with ⟨_,h2,h3,h4⟩|⟨_,_,h4⟩
  case inr=>rw[hfr] at h4; cases h4
  rw[hfr] at h4;injection h4 with h4
  rw[h2] at p2;rw[<-h4] at h3;have j0:=(ak.1 h3).1;have j1:decide (((rI Node.aq (rU f.s x) x.aq:Nat):Int)<0)=false:=by simp
  have j2:(((rI Node.aq (rU f.s x) x.aq:Nat):Int)<0)=False:=by simp
  have j3:(((rI Node.aq (rU f.s x) x.aq:Nat):Int)<((rU f.s x).length:Int))=True:=uq;have j4:(r.kind != 2)=false:=by simp[r3]
  generalize rI Node.aq (rU f.s x) x.aq=j at p2 h3 j1 j2 j3;generalize rU f.s x=l at p1 p2 h3 j3;simp only[bl,gv] at p1 i1 ⊢;simp only[E29,cn,hx,hw,h0,p1,p2,h3,j1,j2,j3,j4,jN,gv,bD,aF,EW,seval];exact i1
def c15{K:Nat}{f:aa}(hf:sR f)(hh:yx f)(hs:xW K f.s)(hK:K<=1000000):ar bK 15 [.agg (cG f)] []=some (.bool true,[]):=by
 refine aw ?_;have q1:=fun M=>cO (c29 hf hs hK) M
 have q2:=fun M=>cO (c30 hf hh) M
 have q3:=fun M=>cO (c31 hf hh) M
 have q4:=fun M=>k32 f.s.now f.cL hf.rt hf.cL (by have:=hf.qv; omega) M
 obtain⟨cz,hg⟩:=hf.rt;rw[afg hg hh.one] at q4;simp only[bl,bo,aI] at q1 q2 q3 q4;simp only[ajA,E15,cG,q1,q2,q3,q4,EW,seval]
def k15{K:Nat}{f:aa}(hf:sR f)(hh:yx f)(hs:xW K f.s)(hK:K<=1000000):=cP (c15 hf hh hs hK)
end
end Go.Proofs.YtahkjijkflobhaaGreatDoor
