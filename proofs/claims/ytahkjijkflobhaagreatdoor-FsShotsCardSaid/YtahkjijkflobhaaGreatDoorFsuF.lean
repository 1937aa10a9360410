import Derived.KernelRfl
import Derived.Test.YtahkjijkflobhaaGreatDoorFsuE
set_option linter.unusedSimpArgs false
set_option linter.unusedVariables false
set_option linter.unusedSectionVars false
set_option linter.defProp false
open Go.Proofs.Tryz
namespace Go.Proofs.YtahkjijkflobhaaGreatDoor
open Go Go.Abs
abbrev Gb(n:Node):Prop:=n.aM.length<=64/\n.data.length<=4096
structure FB(k:Nat)(f:aa):Prop where
 ok:uo f
 past:f.s.dz.length<=k
structure Cz(a:Eu):Prop where
 names:a.names.length<=90000
 data:a.data.length<=90000
def FB.mono{k m:Nat}{f:aa}(h:FB k f)(hm:k<=m):FB m f:=⟨h.ok,aW h.past hm⟩
def Rt.PD{t:Tree}(h:Rt t){n:Node}(hn:n∈t.ae):Gb n:=by
 obtain⟨cE,h⟩:=h;have hi:find t.ae n.an=some n:=(fC h.jo.jv).2 ⟨hn,rfl⟩;refine⟨(h.x9 _ _ hi).2,?_⟩;rcases h.kind _ _ hi with h1|h1
 ·exact(h.file _ _ hi h1).2.2
 ·rw[h.dir _ _ hi h1]; simp
def Bb(t:Tree)(tk:List jm)(c:Int):∀(l:List Node)(y:List Int),(ja t tk c l y).length<=l.length/\∀p,p∈ja t tk c l y->p.node∈l
 | [],y=>⟨by simp[ja],fun p h=>by simp[ja] at h⟩
 |n::r,[]=>⟨by simp[ja],fun p h=>by simp[ja] at h⟩
 |n::r,x::y=>by
  obtain⟨h1,h2⟩:=Bb t tk c r y;rw[ja];refine⟨?_,fun p hp=>?_⟩
  ·rw[aD,au];split<;>simp<;>omega
  ·rcases bm.1 hp with hp|hp
   ·split at hp
    ·rw[bM.1 hp]; exact aV
    ·cases hp
   ·exact aO _ (h2 p hp)
def FB.put{k:Nat}{f:aa}(h:FB k f)(hk:k<=89000){t:Tree}(ht:Rt t){H:List eB}(hH:tq H)(hl:H.length<=64){Q:List cF}(hQ:oz Q)(hq:Q.length<=16):FB (k+200) ⟨ki f.s t,H,Q⟩:=by
 have hf:=h.ok;have hp:=h.past;unfold ki;split
 ·exact⟨⟨hf.rt,hf.len,hf.dz,hf.Cf,hf.cf,hH,hl,hQ,hq⟩,by simp only; omega⟩
 ·obtain⟨h1,h2⟩:=Bb t f.s.cf (kR (f.s.tick+1)) f.s.now.ae f.s.since;have h3:=hf.rt.sz.ae;have h4:(f.s.dz++ja t f.s.cf (kR (f.s.tick+1)) f.s.now.ae f.s.since).length<=k+200:=by rw[aD]; omega
  refine⟨⟨ht,by simp,by simp only; omega,fun p hp=>?_,hf.cf,hH,hl,hQ,hq⟩,h4⟩
  rcases bm.1 hp with hp|hp
  ·exact hf.Cf p hp
  ·exact hf.rt.PD (h2 p hp)
def FB.settle{k:Nat}{f:aa}(h:FB k f)(hk:k<=89000){t:Tree}(ht:Rt t){Q:List cF}(hQ:oz Q)(hq:Q.length<=16):FB (k+200) (gz f t Q).1:=by
 unfold gz;split
 ·exact h.mono (by omega)
 split
 ·exact h.mono (by omega)
 ·exact h.put hk (vg _ _ _ ht) h.ok.holds h.ok.dQ (Fi hQ) (aW (A3 _ _) hq)
def IY{t:Tree}{l:List eB}(hl:tq l)(hn:l.length<=64)(c g an:Int):tq (sq t l c g an).1/\(sq t l c g an).1.length<=64:=by
 have hlow:=zU hl c g;unfold sq;split
 ·exact⟨hl,hn⟩
 split
 ·exact⟨hl,hn⟩
 split
 ·exact⟨hl,hn⟩
 split
 ·exact⟨hl,hn⟩
 split
 ·exact⟨hl,hn⟩
 ·rename_i hi dQ;simp only[bg] at dQ
  have hat:∀(i:Nat)(y:eB),l[i]?=some y->decide (gF y c g<0)=false->vQ ⟨c,g,an⟩ y:=by
   intro i y hy hge;have h1:=hlow.le
   by_cases he:i=kV (fun x=>decide (gF x c g<0)) l
   ·subst he;have hne:¬(y.cH=c/\y.handle=g):=fun hh=>hi (by unfold qy; rw[hy]; simpa using(Dh y c g).2 hh)
    have cz:=o8 y c g;simp only[dP,cz] at hge;unfold vQ; simp only;omega
   ·have cz:=o8 y c g;simp only[dP,cz] at hge
    have hgt:kV (fun x=>decide (gF x c g<0)) l<i:=by
     rcases bD (kV (fun x=>decide (gF x c g<0)) l) i with h|h
     ·exact h
     ·exact absurd ((hlow.lt i y hy).2 (by omega)) (by simp only[bg,cz]; exact hge)
    have hi':=(aq.1 hy).1;have hz:l[kV (fun x=>decide (gF x c g<0)) l]?=some l[kV (fun x=>decide (gF x c g<0)) l]:=ai (by omega)
    have hp:vQ l[kV (fun x=>decide (gF x c g<0)) l] y:=by
     have:=(bS.1 hl) _ i (by omega) hi' hgt
     rw[<-(aq.1 hy).2]; exact this
    generalize l[kV (fun x=>decide (gF x c g<0)) l]=z at hz hp
    have hzl:¬gF z c g<0:=fun h=>by
     have:=(hlow.lt _ z hz).1 (by simpa using h)
     omega
    rw[o8] at hzl;unfold vQ at hp ⊢; simp only;omega
  refine⟨Mo hl hlow (fun y hy h=>?_) (fun y hy h=>?_) (fun a b d h1 h2=>?_),by simp; have:=hlow.le; omega⟩
  ·simp only[bg,o8] at h; unfold vQ; simp only; omega
  ·obtain⟨i,hy'⟩:=bE hy;exact hat i y hy' h
  ·unfold vQ at *; omega
def CY{t:Tree}{l:List eB}(hl:tq l)(c g:Int):tq (lL t l c g).2.1:=by
 unfold lL;split
 ·exact hl
 ·exact hl.sublist List.eraseP_sublist
def AV(c:Int):∀(r l:List eB)(t:Tree),tq l->l.length<=64->tq (si c r t l).2/\(si c r t l).2.length<=64
 | [],l,t,h1,h2=>⟨h1,h2⟩
 |x::r,l,t,h1,h2=>by
  rw[si];split
  ·exact AV c r _ _ (CY h1 _ _) (aW (yF _ _ _ _) h2)
  ·exact AV c r l t h1 h2
def FB.set{k:Nat}{f:aa}(h:FB k f){H:List eB}(hH:tq H)(hl:H.length<=64):FB (k+200) ⟨f.s,H,f.cq⟩ :=
 ⟨⟨h.ok.rt,h.ok.len,h.ok.dz,h.ok.Cf,h.ok.cf,hH,hl,h.ok.cq,h.ok.rB⟩,by have:=h.past; simp only; omega⟩
def FB.ab8{k:Nat}{f:aa}(h:FB k f)(hk:k<=89000)(o:jk)(an:Int)(d:Bytes):FB (k+200) (pK f o an d).1:=by
 have hr:=h.settle hk (h.ok.rt.put an d) h.ok.cq h.ok.rB;unfold pK;simp only[];split
 ·exact h.mono (by omega)
 split<;>exact hr
def rV{α:Type}{P:α->Prop}{c:Prop}[Decidable c]{a b:α}(ha:P a)(hb:P b):P (if c then a else b):=by
 split
 ·exact ha
 ·exact hb
def Na{P:Wk->Prop}{f:aa}{o:jk}(h55:P (wj f o))(h56:P (yo f o))(h57:P (yn f o))(h58:P (py f o))(h59:P (pw f o))(h60:P (BN f o))(h61:P (wq f o))(h62:P (vr f o))(h63:P (sg f o))(h64:P (xi f o))(h65:P (uR f o))(h66:P (Ee f o))(h67:P (uO f o))(h68:P (su f o))(h69:P (qP f o))(h70:P (wc f o))(h71:P (wT f o))(h0:P (f,fL,0))(K:Nat):P (ma K f o) :=
 rV h55 (rV h56 (rV h57 (rV h58 (rV h59 (rV h60 (rV h61 (rV h62 (rV h63 (rV h64 (rV h65 (rV h66 (rV h67 (rV h68 (rV h69 (rV h70 (rV h71 (h0)))))))))))))))))
def Wb{k:Nat}{f:aa}(h:FB k f)(hk:k<=89000)(K:Nat)(o:jk):FB (k+200) (ma K f o).1:=by
 have h0:FB (k+200) f:=h.mono (by omega)
 have hp {t:Tree} (ht:Rt t):=h.settle hk ht h.ok.cq h.ok.rB;refine Na (P:=fun r=>FB (k+200) r.1) ?_ ?_ ?_ ?_ ?_ ?_ ?_ ?_ ?_ ?_ ?_ ?_ ?_ ?_ ?_ ?_ ?_ ?_ K
 ·unfold wj; split<;>exact h0
 ·have hr:=hp (h.ok.rt.add (iK f.s.now o.da).1 (iK f.s.now o.da).2.1 o.n);unfold yo; simp only[];split
  ·exact h0
  split
  ·exact h0
  split<;>exact hr
 ·have hr:=hp (h.ok.rt.ln (aX f.s.now.ae (fY f.s.now o.da).1).an (iK f.s.now o.tZ).1 (iK f.s.now o.tZ).2.1);unfold yn; simp only[];split
  ·exact h0
  split
  ·exact h0
  split
  ·exact h0
  split<;>exact hr
 ·have hr:=hp (h.ok.rt.un (iK f.s.now o.da).1 (iK f.s.now o.da).2.1);unfold py; simp only[];split
  ·exact h0
  split
  ·exact h0
  split<;>exact hr
 ·have hr:=hp (h.ok.rt.mv (iK f.s.now o.da).1 (iK f.s.now o.da).2.1 (iK f.s.now o.tZ).1 (iK f.s.now o.tZ).2.1);unfold pw; simp only[];split
  ·exact h0
  split
  ·exact h0
  split
  ·exact h0
  split
  ·exact h0
  split<;>exact hr
 ·unfold BN; simp only[];split
  ·exact h0
  split<;>exact h0
 ·unfold wq; simp only[]; split<;>exact h0
 ·obtain⟨g1,g2⟩:=IY (t:=f.s.now) h.ok.holds h.ok.dQ o.cH o.handle (aX f.s.now.ae (fY f.s.now o.da).1).an;unfold vr; simp only[];split
  ·exact h0
  split
  ·exact h0
  ·exact h.set g1 g2
 ·have hr:=h.put hk (h.ok.rt.close f.holds o.cH o.handle) (CY (t:=f.s.now) h.ok.holds o.cH o.handle) (aW (yF _ _ _ _) h.ok.dQ) h.ok.cq h.ok.rB;unfold sg; simp only[];split
  ·exact h0
  ·exact hr
 ·unfold xi;split
  ·exact h0
  split<;>exact h0
 ·unfold uR;split
  ·exact h0
  split
  ·exact h0
  split
  ·exact h0
  ·exact h.ab8 hk o _ _
 ·unfold Ee;split
  ·exact h0
  ·exact h.ab8 hk o _ _
 ·obtain⟨g1,g2⟩:=FF (t:=f.s.now) h.ok.cq h.ok.rB (aX f.s.now.ae (fY f.s.now o.da).1).an o.n o.m;have hr:=h.settle hk h.ok.rt g1 g2;unfold uO; simp only[];split
  ·exact h0
  split
  ·exact h0
  split<;>exact hr
 ·unfold su; simp only[];split
  ·exact h0
  split
  ·exact h0
  ·rename_i hh;unfold takeN at hh ⊢;split
   ·exact h0
   split
   ·exact h0
   split
   ·exact h0
   ·rename_i dQ;refine⟨⟨h.ok.rt,h.ok.len,h.ok.dz,h.ok.Cf,?_,h.ok.holds,h.ok.dQ,h.ok.cq,h.ok.rB⟩,by have:=h.past; simp only; omega⟩
    simp only[cN,bg,lu] at dQ;simp; omega
 ·unfold qP; simp only[];split
  ·exact h0
  split
  ·exact h0
  split<;>exact h0
 ·unfold wc; simp only[];split
  ·exact h0
  ·unfold nV;split
   ·exact h0
   ·refine⟨⟨h.ok.rt,h.ok.len,aW (bU _ _) h.ok.dz,fun p hp=>h.ok.Cf p (cm.1 hp).1,aW (bU _ _) h.ok.cf,h.ok.holds,h.ok.dQ,h.ok.cq,h.ok.rB⟩,?_⟩
    have:=h.past;have h2:=bU (ri (f.s.cf.filter (kJ o.n))) f.s.dz;simp only; omega
 ·obtain⟨g1,g2⟩:=AV o.cH f.holds f.holds f.s.now h.ok.holds h.ok.dQ;exact h.put hk (h.ok.rt.gone o.cH f.holds f.holds) g1 g2 h.ok.cq h.ok.rB
 ·exact h0
def pC{k:Nat}{f:aa}(h:FB k f)(hk:k<=89000)(o:jk):FB (k+200) (lN f o).1:=by
 unfold lN;split
 ·exact h.mono (by omega)
 ·split
  ·split
   ·exact Wb h hk _ o
   ·exact h.mono (by omega)
  ·exact h.mono (by omega)
def UL{P:Node->Prop}{m:AM Node}(h:∀k n,dx m k=some n->P n)(n:Node)(hn:P n):∀k x,dx (lR m n.an n) k=some x->P x:=by
 intro k x hx;rw[gZ] at hx;split at hx
 ·injection hx with hx; rw[<-hx]; exact hn
 ·exact h k x hx
def DL{P:Node->Prop}(a:Int):∀(l:List pj)(m:AM Node),(∀k n,dx m k=some n->P n)->(∀p,p∈l->P p.node)->∀k n,dx (l.foldl (jy a) m) k=some n->P n
 | [],m,h,hl=>h
 |p::r,m,h,hl=>by
  rw[dZ];refine DL a r _ ?_ (fun p hp=>hl p (aO _ hp))
  unfold jy;split
  ·exact UL h _ (hl p aV)
  ·exact h
def IP{P:Node->Prop}(a:Int):∀(l:List Node)(y:List Int)(m:AM Node),(∀k n,dx m k=some n->P n)->(∀p,p∈l->P p)->∀k n,dx (oj a l y m) k=some n->P n
 | [],y,m,h,hl=>h
 |n::r,[],m,h,hl=>h
 |n::r,x::y,m,h,hl=>by
  rw[oj];refine IP a r y _ ?_ (fun p hp=>hl p (aO _ hp))
  split
  ·exact UL h _ (hl n aV)
  ·exact h
def WJ{f:aa}(hf:uo f)(id:Int):∀n,n∈(rL f.s id).2.1->Gb n:=by
 unfold rL;split
 ·rename_i x _;intro n hn;have:=vm n _ hn;refine Bq (P:=Gb) ?_ 200001 x.an ([],[]) (fun n h=>by cases h) n this
  exact IP x.at' _ _ _ (DL x.at' _ _ (fun k n h=>by cases h) hf.Cf) (fun n hn=>hf.rt.PD hn)
 ·exact fun n h=>by cases h
def I4{P:Node->Prop}{all:AM Node}(hall:∀k n,dx all k=some n->P n):∀(p:List Bytes)(o:Option Node),(∀n,o=some n->P n)->∀n,(ik all p o).1=some n->P n
 | [],o,ho,n,h=>ho n h
 |s::r,o,ho,n,h=>by
  rw[ik] at h;split at h
  ·exact ho n h
  ·split at h
   ·exact ho n h
   ·exact I4 hall r _ (fun m hm=>hall _ _ hm) n h
def mq{a:Eu}(h1:a.names=[])(h2:a.data=[]):Cz a:=⟨by rw[h1]; simp,by rw[h2]; simp⟩
def Gs(e:Int):Cz (gk e):=mq rfl rfl
def Ps{f:aa}(h:uo f)(K:Nat)(o:jk):Cz (ma K f o).2.1:=by
 have h0:Cz fL:=mq rfl rfl;have hv (i:Int) (d:Bytes):Cz (pK f o i d).2.1:=mq (ti f o i d).1 (ti f o i d).2;refine Na (P:=fun r=>Cz r.2.1) ?_ ?_ ?_ ?_ ?_ ?_ ?_ ?_ ?_ ?_ ?_ ?_ ?_ ?_ ?_ ?_ ?_ ?_ K
 ·unfold wj; split<;>exact mq rfl rfl
 ·unfold yo; simp only[]; repeat' split
  all_goals exact mq rfl rfl
 ·unfold yn; simp only[]; repeat' split
  all_goals exact mq rfl rfl
 ·unfold py; simp only[]; repeat' split
  all_goals exact mq rfl rfl
 ·unfold pw; simp only[]; repeat' split
  all_goals exact mq rfl rfl
 ·unfold BN; simp only[];split
  ·exact h0
  split
  ·exact h0
  ·refine⟨?_,by simp⟩
   simp only[fH];obtain⟨cE,g⟩:=h.rt;have h64:=(xH g (aX f.s.now.ae (fY f.s.now o.da).1).an).2
   have hfr:(zG f.s.now.ae (aX f.s.now.ae (fY f.s.now o.da).1).an o.n).length<=64:=by
    unfold zG;rw[vV];exact aW (bU _ _) h64
   unfold wi;split
   ·simp
   split
   ·simp
   split
   ·simp only; omega
   ·simp only[gi]; omega
 ·unfold wq; simp only[]; split<;>exact mq rfl rfl
 ·unfold vr; simp only[]; repeat' split
  all_goals exact mq rfl rfl
 ·unfold sg; simp only[]; split<;>exact mq rfl rfl
 ·unfold xi;split
  ·exact h0
  split
  ·exact h0
  ·rename_i hh _;obtain⟨_,i,hi⟩:=Cm (f:=f) (o:=o) (by simpa using hh)
   have:=(xb h i).1;rw[hi];exact⟨by simp,by simp only[gi,ir]; omega⟩
 ·unfold uR;split
  ·exact h0
  split
  ·exact h0
  split
  ·exact h0
  ·exact hv _ _
 ·unfold Ee;split
  ·exact h0
  ·exact hv _ _
 ·unfold uO; simp only[]; repeat' split
  all_goals exact mq rfl rfl
 ·unfold su; simp only[]; repeat' split
  all_goals exact mq rfl rfl
 ·have ha:=WJ h o.n;unfold qP; simp only[]
  have hall:∀k n,dx (fa (rL f.s o.n).2.1 []) k=some n->Gb n:=fun k n h=>by
   rcases yU _ _ _ _ h with h|h
   ·exact ha n h
   ·cases h
  have hpe:=I4 hall (dW o.da).1 (dx (fa (rL f.s o.n).2.1 []) (rL f.s o.n).1) (fun n h=>hall _ _ h)
  split
  ·exact h0
  split
  ·exact h0
  split
  ·exact h0
  ·generalize (ik (fa (rL f.s o.n).2.1 []) (dW o.da).1 (dx (fa (rL f.s o.n).2.1 []) (rL f.s o.n).1)).1=z at hpe ⊢;cases z with
   |none=>exact mq rfl rfl
   |some n =>
    obtain⟨g1,g2⟩:=hpe n rfl;exact⟨by simp only[bh,fH]; omega,by simp only[bh]; omega⟩
 ·unfold wc; simp only[]; split<;>exact mq rfl rfl
 ·exact mq rfl rfl
 ·exact mq rfl rfl
def LR{f:aa}(h:uo f)(o:jk):Cz (lN f o).2:=by
 unfold lN;split
 ·exact Gs _
 ·split
  ·split
   ·exact Ps h _ o
   ·exact Gs _
  ·exact Gs _
def Ny{t:Tree}{cE:Int->Nat}(h:cr t cE 0){q:Int}:∀(m:Nat)(i:Int)(n:Node),find t.ae i=some n->n.kind=2->cE i=m->gR t.ae i q=true->∃d,find t.ae q=some d/\d.kind=2:=by
 intro m;induction m with
 |zero =>
  intro i n hi hk hm hb
  by_cases ho:i=q
  ·subst ho; exact⟨n,hi,hk⟩
  by_cases h1:i=1
  ·subst h1; rw[cr.nK (fun hh=>ho hh.symm)] at hb; cases hb
  ·have:=(h.oZ _ _ hi hk h1).1; omega
 |succ m ih =>
  intro i n hi hk hm hb
  by_cases ho:i=q
  ·subst ho; exact⟨n,hi,hk⟩
  have h1:i≠1:=fun hh=>by subst hh; have:=h.zB; omega
  rw[h.oX hi hk h1 ho] at hb;obtain⟨a,p,hp,hpk⟩:=h.oZ _ _ hi hk h1;exact ih _ p hp hpk (by omega) hb
def sJ{t:Tree}{cE:Int->Nat}(h:cr t cE 0){q:Int}(hq:∀d,find t.ae q=some d->d.kind≠2):jU t.ae q=(0,0)/\NN (rO t.ae q)=0/\G9 t.ae (rO t.ae q)=0:=by
 have hin:∀x,¬We t.ae q x:=by
  rintro x ⟨d,e,hd,hk,hb,_,_⟩;obtain⟨p,p1,p2⟩:=Ny h _ _ d ((fC h.jo.jv).2 ⟨hd,rfl⟩) hk rfl hb;exact hq p p1 p2
 obtain⟨p,p1,p2⟩:=wS t.ae q;have hf:t.ae.filter p=[]:=List.filter_eq_nil_iff.2 fun n _ hn=>hin _ ((p2 n).1 hn)
 refine⟨?_,by rw[p1,CZ,hf]; rfl,by rw[p1,G4,hf]; rfl⟩
 unfold jU;rw[aH];intro hc;rw[bn,eM] at hc;obtain⟨d,hd⟩:=ct.1 hc.1;exact hq d hd (by simpa[aX,hd] using hc.2)
def Ak{t:Tree}(h:Rt t)(q:Int):jU t.ae q=((NN (rO t.ae q):Int),(G9 t.ae (rO t.ae q):Int)):=by
 obtain⟨cE,h⟩:=h
 by_cases hq:∃d,find t.ae q=some d/\d.kind=2
 ·obtain⟨d,h1,h2⟩:=hq;exact Gk h h1 h2
 ·obtain⟨h1,h2,h3⟩:=sJ h (q:=q) fun d hd hk=>hq ⟨d,hd,hk⟩
  rw[h1,h2,h3]; rfl
def Pm{t:Tree}(h:Rt t)(i q:Int):jU (jO t i).1.ae q=jU t.ae q:=by
 obtain⟨cE,h⟩:=h;have h':=EU h i
 have hcase:(jO t i).1=t\/(∃m,find t.ae i=some m/\m.kind=1/\ue t.ae i=0/\(jO t i).1=⟨fG t.ae i,t.next,t.aj⟩):=by
  unfold jO;split
  ·exact .inl rfl
  split
  ·exact .inl rfl
  split
  ·exact .inl rfl
  ·rename_i h1 h2 h3;right;cases hi:find t.ae i with
   |none=>simp[hi] at h1
   |some m =>
    simp only[aX,hi,bh,eM,bg] at h2 h3;have hl:=h.cL _ _ hi;have hm:=(h.num _ _ hi).1;rw[aH (by omega)] at hl
    exact⟨m,rfl,(h.kind _ _ hi).resolve_right h2,by omega,rfl⟩
 rcases hcase with e|⟨m,hm,hmk,hc,e⟩
 ·rw[e]
 rw[e] at h' ⊢;have hff:=ll h.jo.jv i
 have hne:∀j n,find t.ae j=some n->n.kind=2->j≠i:=by
  rintro j n hj hk rfl;rw[hm] at hj; cases hj;omega
 have fd:∀j n,find t.ae j=some n->n.kind=2->find (fG t.ae i) j=some n:=fun j n hj hk=>by rw[hff,aH (hne j n hj hk),hj]
 have bel:∀(m:Nat)(j:Int)(n:Node),find t.ae j=some n->n.kind=2->cE j=m->gR (fG t.ae i) j q=gR t.ae j q:=by
  intro m;induction m with
  |zero =>
   intro j n hj hk hd
   by_cases ho:j=q
   ·subst ho;exact(cr.iY (t:=⟨fG t.ae i,t.next,t.aj⟩) j).trans (cr.iY j).symm
   by_cases h1:j=1
   ·subst h1;exact(cr.nK (t:=⟨fG t.ae i,t.next,t.aj⟩) fun hh=>ho hh.symm).trans (cr.nK fun hh=>ho hh.symm).symm
   ·have:=(h.oZ _ _ hj hk h1).1; omega
  |succ m ih =>
   intro j n hj hk hd
   by_cases ho:j=q
   ·subst ho;exact(cr.iY (t:=⟨fG t.ae i,t.next,t.aj⟩) j).trans (cr.iY j).symm
   have h1:j≠1:=fun hh=>by subst hh; have:=h.zB; omega
   obtain⟨a,p,hp,hpk⟩:=h.oZ _ _ hj hk h1;have b1:=h'.oX (fd j n hj hk) hk h1 ho;rw[h.oX hj hk h1 ho];exact b1.trans (ih _ p hp hpk (by omega))
 by_cases hq:∃d,find t.ae q=some d/\d.kind=2
 ·obtain⟨d,d1,d2⟩:=hq;obtain⟨K,k1,k2,k3,k4⟩:=Al h d1 d2;obtain⟨L,l1,l2,l3,l4⟩:=Al h' (fd q d d1 d2) d2
  have hin:∀x,We (fG t.ae i) q x↔We t.ae q x:=fun x=>by
   constructor
   ·rintro⟨d,e,hd,hk,hb,he,hx⟩;have hd':find (fG t.ae i) d.an=some d:=(fC h'.jo.jv).2 ⟨hd,rfl⟩;rw[hff] at hd';split at hd'
    ·cases hd'
    ·exact⟨d,e,(bP hd').1,hk,by rw[<-bel _ _ d hd' hk rfl]; exact hb,he,hx⟩
   ·rintro⟨d,e,hd,hk,hb,he,hx⟩;have hd':find t.ae d.an=some d:=(fC h.jo.jv).2 ⟨hd,rfl⟩;exact⟨d,e,(bP (fd _ _ hd' hk)).1,hk,by rw[bel _ _ d hd' hk rfl]; exact hb,he,hx⟩
  have hp:L.Perm K:=(List.perm_ext_iff_of_nodup l1 k1).2 fun x=>by rw[l2,k2]; exact hin x
  have hs:xu (fG t.ae i) L=xu t.ae K:=by
   unfold xu;rw[<-(hp.map (Wd t.ae)).sum_nat];congr 1;refine dH fun x hx=>?_
   obtain⟨d,e,hd,_,_,he,hxe⟩:=(k2 x).1 (hp.mem_iff.1 hx)
   have hxi:x≠i:=fun hh=>by
    have:=uq.2 ⟨d,e,hd,he,hxe.trans hh⟩;omega
   simp only[Wd,aX,hff,aH hxi]
  rw[k4,l4,hp.length_eq,hs]
 ·rw[(sJ h fun d hd hk=>hq ⟨d,hd,hk⟩).1]
  refine(sJ h' fun d hd hk=>?_).1
  have hd:find (fG t.ae i) q=some d:=hd;rw[hff] at hd;split at hd
  ·cases hd
  ·exact hq ⟨d,hd,hk⟩
def t0:Tree:=⟨[⟨1,2,0,[],[],1⟩],2,1⟩
def f0:aa:=⟨⟨t0,0,[0],[],[],1⟩,[],[]⟩
section
attribute [local irreducible] eV fZ je gK eo kr ar aU cA bH
def c38:ar bN 38 [] []=some (.agg (aJ t0),[]):=by
 refine az ?_;simp only[akn,E38,EW,seval];rfl
def k38:=cP c38
def k37(M:aG):aU (ar bN) 37 [.agg [aY t0.ae,aF t0.next,aF t0.aj]] M=some (.agg (bo f0.s),M):=cO (c37 t0 (by decide)) M
def c20:ar bN 20 [] []=some (.agg (ck f0),[]):=by
 refine az ?_;have q:=k38;simp only[aJ] at q;simp only[akc,E20,q,k37,bo,EW,seval];rfl
def k20:=cP c20
end
def rt0:Rt t0:=⟨_,UM⟩
def fb0:FB 0 f0:=by
 refine⟨⟨rt0,rfl,?_,?_,?_,List.Pairwise.nil,?_,List.Pairwise.nil,?_⟩,?_⟩<;>simp[f0]
end Go.Proofs.YtahkjijkflobhaaGreatDoor
namespace Go.Abs
open Go
def tD{C:eK}{fn:List sv}{bL:Nat}{k:List K}{live:List Nat}{body:cB}{α σ ρ:Type}{xs:List α}(hn:xs.length<=1000000)(go:List α->σ->ρ)(E:σ->Int->Env)(M:σ->aG)(R:ρ->Option (ag×aG))
  (hend:∀s,eV C fn bL (.loop live (M s).length body::k) body (lQ (E s xs.length) live) (M s)=R (go [] s))
  (hstep:∀(pre:List α)(x:α)(post:List α)(s:σ),xs=pre++x::post->xs[pre.length]?=some x->((pre.length:Int)<xs.length)=True->IntKind.i64.wrap ((pre.length:Int)+1)=(pre.length:Int)+1->((pre.length:Int)<0)=False->x∈xs ->
   (∀s',eV C fn bL k (.loop live body) (E s' ((pre.length:Int)+1)) (M s')=R (go post s'))->eV C fn bL (.loop live (M s).length body::k) body (lQ (E s pre.length) live) (M s)=R (go (x::post) s)) :
  ∀s,eV C fn bL k (.loop live body) (E s 0) (M s)=R (go xs s):=by
 have key:∀(l pre:List α)(s:σ),xs=pre++l->eV C fn bL k (.loop live body) (E s pre.length) (M s)=R (go l s):=by
  intro l;induction l with
  |nil =>
   intro pre s h;rw[bt,show pre.length=xs.length by rw[h]; simp]
   exact hend s
  |cons x r ih =>
   intro pre s h;rw[bt];have hl:pre.length+1<=1000000:=by rw[h] at hn; simp at hn; omega
   refine hstep pre x r s h (by rw[h]; simp) (by rw[h]; simp; omega) (gn (by omega) (by omega)) (by simp) (by rw[h]; simp) fun s'=>?_
   have:=ih (pre++[x]) s' (by rw[h]; simp)
   simpa using this
 intro s;exact key xs [] s rfl
def gH{C:eK}{fn:List sv}{bL:Nat}{k:List K}{live:List Nat}{body:cB}{α σ:Type}{xs:List α}(hn:xs.length<=1000000)(I:Nat->σ->Prop)(E:σ->Int->Env)(M:σ->aG)(Q:ag×aG->Prop)
  (hend:∀s,I xs.length s->∃r,Q r/\eV C fn bL (.loop live (M s).length body::k) body (lQ (E s xs.length) live) (M s)=some r)
  (hstep:∀(pre:List α)(x:α)(post:List α)(s:σ),xs=pre++x::post->xs[pre.length]?=some x->((pre.length:Int)<xs.length)=True->IntKind.i64.wrap ((pre.length:Int)+1)=(pre.length:Int)+1->((pre.length:Int)<0)=False->x∈xs->I pre.length s ->
   (∀s',I (pre.length+1) s'->∃r,Q r/\eV C fn bL k (.loop live body) (E s' ((pre.length:Int)+1)) (M s')=some r)->∃r,Q r/\eV C fn bL (.loop live (M s).length body::k) body (lQ (E s pre.length) live) (M s)=some r) :
  ∀s,I 0 s->∃r,Q r/\eV C fn bL k (.loop live body) (E s 0) (M s)=some r:=by
 have key:∀(l pre:List α)(s:σ),xs=pre++l->I pre.length s->∃r,Q r/\eV C fn bL k (.loop live body) (E s pre.length) (M s)=some r:=by
  intro l;induction l with
  |nil =>
   intro pre s h hI;have e:pre.length=xs.length:=by rw[h]; simp
   rw[bt,e];exact hend s (by rw[<-e]; exact hI)
  |cons x r ih =>
   intro pre s h hI;rw[bt];have hl:pre.length+1<=1000000:=by rw[h] at hn; simp at hn; omega
   refine hstep pre x r s h (by rw[h]; simp) (by rw[h]; simp; omega) (gn (by omega) (by omega)) (by simp) (by rw[h]; simp) hI fun s' hI'=>?_
   have:=ih (pre++[x]) s' (by rw[h]; simp) (by simpa using hI')
   simpa using this
 intro s hI;exact key xs [] s rfl hI
def FP{α:Type}{a b:List α}{m:Nat}(h:a.take m=b.take m){x:α}(hx:a[m]?=some x)(hy:b[m]?=some x):a.take (m+1)=b.take (m+1):=by
 rw[cC,cC,h,hx,hy]
def Jr{α:Type}{a b:List α}(hl:a.length=b.length)(h:a.take a.length=b.take a.length):a=b:=by
 rw[bW,hl,bW] at h; exact h
def FJ(ds:List Bool)(b:Nat)(d:Bool):jj (ds.map ag.bool) b (putCells (.bool d) 0 [.bool true])=(ds.set b true).map ag.bool:=by
 have:putCells (.bool d) 0 [.bool true] = .bool true:=rfl;rw[this,gy,kN]
def ZV(ds:List UInt8)(b:Nat)(d x:UInt8):jj (ds.map pU) b (putCells (pU d) 0 [pU x])=(ds.set b x).map pU:=by
 have:putCells (pU d) 0 [pU x]=pU x:=rfl;rw[this,gy,kN]
end Go.Abs
namespace Go.Proofs.YtahkjijkflobhaaGreatDoor
open Go Go.Abs
abbrev C6(l:List jk):ag := .slice .sh (l.map eOp)
def NF(n:jk):(eOp n).cells=eA n:=rfl
def Ud(n:jk):(eA n).length=8:=rfl
def aab(l:List jk):wid (l.map eOp) 8=True:=td eOp _ (fun _=>rfl) l
def tkO(n:jk):List.take 8 (eA n)=eA n:=rfl
def shO(n:jk):List.map ag.shut (eA n)=eA n:=rfl
set_option linter.defProp false in
def uT:=bO @NF (bO @Ud (bO @aab (bO @tkO (@shO))))
def BO(o:jk):Bool:=decide (5000<(o.data.length:Int))||(decide (1000<(o.da.length:Int))||decide (1000<(o.tZ.length:Int)))
def wY(l:List jk):Bool:=if decide (50<(l.length:Int)) then true else l.any BO
def YD{o:jk}(h:BO o=false):wL o:=by
 simp only[BO,mT,dP] at h;exact⟨by omega,by omega,by omega⟩
def zI{l:List jk}(h:wY l=false):l.length<=50/\∀o,o∈l->wL o:=by
 unfold wY at h;split at h
 ·cases h
 ·rename_i h0;simp only[bg] at h0;exact⟨by omega,fun o ho=>YD (by simpa using List.any_eq_false.1 h o ho)⟩
section
attribute [local irreducible] eV fZ je gK eo kr ar aU cA bH
def c12(o:jk):ar bN 12 [eOp o] []=some (.bool (BO o),[]):=by
 refine az ?_;unfold BO
 cases h1:decide (5000<(o.data.length:Int))<;>cases h2:decide (1000<(o.da.length:Int))<;>cases h3:decide (1000<(o.tZ.length:Int)) <;>
  simp only[aj3,E12,eOp,eA,h1,h2,h3,dS,dA,eT,dp,EW,seval]
def k12(o:jk)(M:aG):aU (ar bN) 12 [.agg (eA o)] M=some (.bool (BO o),M):=cO (c12 o) M
def c11(xs:List jk):ar bN 11 [C6 xs] []=some (.bool (wY xs),[]):=by
 refine az ?_;unfold wY;cases h0:decide (50<(xs.length:Int))<;>simp only[aj2,E11,h0,aE,af,aw,uT,EW,seval]
 have hn:xs.length<=50:=by simp at h0; omega
 refine tD (xs:=xs) (by omega) (fun l (_:Unit)=>l.any BO) (fun _ i=>[(0,C6 xs),(3,aF i)]) (fun _=>[]) (fun b=>some (ag.bool b,([]:aG))) (fun _=>?_) (fun pre x post _ h hx cz hw h0 hm hi=>?_) ()
 ·simp only[E11,bw,List.any_nil,uT,EW,seval]
 ·have q:=fun M=>k12 x M
  have i1:=hi ();cases hl:BO x<;>rw[hl] at q<;>simp only[E11,cz,hx,hw,q,hl,lr,dA,dp,uT,EW,seval]
  exact i1
def Pz xs:=cP (c11 xs)
def lE{f:Nat}{vs:List ag}{M:aG}{x:ag×aG}(h:aU (ar bN) f vs M=some x):aU (ar tb) f vs M=some x:=lD (lS h)
def uU f o hf ho:=cP (c14 f o hf ho)
end
section
open Go.ChangeShapes Go.WideShapes Go.ChangeAt Go.RowKit Go.Deep
def laidOut:laidOutB Tryz.prog=true:=by kernel_rfl
section
variable {H:Type} {enc:TypeId×Value->H}
def rI{W W':World}(hb:Below W.heap.size W W'):∀ {ts:List TypeId} {vs:List Value} {ds:List (DataW H)} {p:List MemPlace},DataW.TrodAll enc Tryz.prog W 0 (fun _=>true) true ts vs ds p ->
  (∀t,t∈ts->Tryz.prog.readableRec t=true/\t<Tryz.prog.types.size)->(∀x∈p,x.block<W.heap.size)->DataW.TrodAll enc Tryz.prog W' 0 (fun b=>decide (b<W.heap.size)) true ts vs ds p
 | [],vs,ds,p,h,_,_=>by
  obtain⟨rfl,rfl,rfl⟩:=trodAll_nil h;exact trodAll_mk0
 |t::ts,vs,ds,p,h,ht,hp=>by
  obtain⟨v,vs',d,ds',p1,q,rfl,rfl,rfl,h1,h2⟩:=trodAll_cons h
  exact trodAll_cons_mk (Below.trod laidOut (ht t aV).1 (ht t aV).2 h1 hb (fun x hx=>hp x (dq _ hx)))
   (rI hb h2 (fun t ht'=>ht t (aO _ ht')) (fun x hx=>hp x (eL _ hx)))
abbrev Ed(w:World):Nat->Nat->Prop:=ny jX0 [] w
def VK{w:World}{b off:Nat}(h:b<w.heap.size):Ed w b off:=⟨h,fun id hid=>absurd hid (ka _),fun hx=>hx⟩
def lF(b off i:Nat):(⟨b,off,none⟩:Addr).add i=⟨b,off+i,none⟩:=by
 unfold Addr.add;split
 ·rename_i h; rw[h]; rfl
 ·rfl
def zM{w:World}{fuel t:Nat}{v:Value}{x:DataW H×List MemPlace}(ht:Tryz.prog.underlying t=some (.int .i64))(h:DataW.trod enc Tryz.prog w 0 (fun _=>true) true fuel t [v]=some x):∃n:Int,fM w (Ed w) (.int .i64 n) v:=by
 obtain⟨n,q,_,_⟩:=DataW.trod_int ht h;cases q;exact⟨n,.int _ _⟩
def agR{w:World}{fuel t:Nat}{v:Value}{x:DataW H×List MemPlace}(ht:Tryz.prog.underlying t=some (.int .u8))(h:DataW.trod enc Tryz.prog w 0 (fun _=>true) true fuel t [v]=some x):∃b:UInt8,fM w (Ed w) (pU b) v:=by
 obtain⟨n,q,_,wf⟩:=DataW.trod_int ht h;cases q;have h3:IntKind.u8.min<=n/\n<=IntKind.u8.max:=by simpa[Lit.wf] using wf
 have e1:IntKind.u8.min=0:=by decide
 have e2:IntKind.u8.max=255:=by decide
 have e:n=((UInt8.ofNat n.toNat).toNat:Int):=by rw[UInt8.toNat_ofNat']; omega
 refine⟨UInt8.ofNat n.toNat,?_⟩;unfold pU;rw[<-e];exact .int _ _
def G3{w:World}{fuel t:Nat}{v:Value}{x:DataW H×List MemPlace}(ht:Tryz.prog.underlying t=some .string)(h:DataW.trod enc Tryz.prog w 0 (fun _=>true) true fuel t [v]=some x):∃s:Bytes,fM w (Ed w) (.str s) v:=by
 obtain⟨s,q,_,_⟩:=DataW.trod_string ht h;cases q;refine⟨s.data.toList,?_⟩;have:Go.Abs.bs s.data.toList=s:=by apply ByteArray.ext; simp[Go.Abs.bs]
 have h:=fM.str (w:=w) (ib:=Ed w) s.data.toList;rw[this] at h;exact h
def Bz{α:Type}(P:Nat->α->Prop):∀(n:Nat),(∀i,i<n->∃a,P i a)->∃l:List α,l.length=n/\∀i a,l[i]?=some a->P i a
 |0,_=>⟨[],rfl,fun i a h=>by cases i<;>cases h⟩
 |n+1,h=>by
  obtain⟨l,hl,hp⟩:=Bz P n (fun i hi=>h i (by omega))
  obtain⟨a,ha⟩:=h n (by omega)
  refine⟨l++[a],by simp[hl],fun i b hb=>?_⟩
  rcases bD i n with hi|hi
  ·rw[bB (by omega)] at hb
   exact hp i b hb
  ·rw[bA (by omega)] at hb
   have:i=n:=by
    have:=(aq.1 hb).1;simp at this; omega
   subst this;simp[hl] at hb;subst hb; exact ha
def oA(w:World)(l:List ag)(cs:List Value):Prop:=l.length=cs.length/\∀(k:Nat)(c:ag)(v:Value),l[k]?=some c->cs[k]?=some v->fM w (Ed w) c v
def oA.one{w:World}{c:ag}{v:Value}(h:fM w (Ed w) c v):oA w [c] [v]:=⟨rfl,fun k c' v' h1 h2=>by
 match k with
 |0=>cases h1; cases h2; exact h
 |k+1=>cases h1⟩
def oA.app{w:World}{a b:List ag}{cs ds:List Value}(h:oA w a cs)(g:oA w b ds):oA w (a++b) (cs++ds):=⟨by simp[h.1,g.1],fun k c v h1 h2=>by
 rcases bD k a.length with hk|hk
 ·rw[bB hk] at h1;rw[bB (by rw[<-h.1]; exact hk)] at h2
  exact h.2 k c v h1 h2
 ·rw[bA hk] at h1;rw[bA (by rw[<-h.1]; exact hk),<-h.1] at h2
  exact g.2 _ c v h1 h2⟩
def oA.nil{w:World}:oA w [] []:=⟨rfl,fun k c v h1 _=>by cases h1⟩
def alO:DataW H->Nat
 | .slice es _=>es.length
 |_=>0
def Jm{α:Type}{w:World}{fuel t e m:Nat}{v:Value}{x:DataW H×List MemPlace}{eC:α->List ag}{mk:α->ag}(ht:Tryz.prog.underlying t=some (.slice e))(hm:Tryz.prog.cellsOf e=m)(hm0:0<m)
  (hmk:∀a,(mk a).cells=eC a) (dQ:∀a,(eC a).length=m)
  (he:∀(n:Nat)(cs:List Value)(y:DataW H×List MemPlace),cs.length=m->DataW.trod enc Tryz.prog w 0 (fun _=>true) true n e cs=some y->∃a,oA w (eC a) cs)
  (h:DataW.trod enc Tryz.prog w 0 (fun _=>true) true fuel t [v]=some x) :
  ∃l:List α,fM w (Ed w) (.slice .sh (l.map mk)) v/\l.length=alO x.1:=by
 rcases open_slice ht h with ⟨hcs,hxx⟩|⟨a,len,cap,mm,n,D,Pl,hcs,_,hl,_,hmm,hxx,hi⟩
 ·cases hcs;exact⟨[],fM.nil _ _ _,by rw[hxx]; rfl⟩
 ·cases hcs;simp only[aE] at hmm;obtain⟨b,off,spot⟩:=a;rw[hm] at hi
  have each:∀i,i<len->∃s:α,∃cs',w.cells? 0 ((⟨b,off,spot⟩:Addr).add (i*m)) m=some cs'/\cs'.length=m/\oA w (eC s) cs':=by
   intro i hi';obtain⟨cs',hcl,ht⟩:=hi i (by omega)
   have hln:cs'.length=m:=(World.cells?_some hcl).2.1;obtain⟨s,hr⟩:=he _ _ _ hln ht;exact⟨s,cs',hcl,hln,hr⟩
  obtain⟨l,hll,hlp⟩:=Bz _ len each;refine⟨l,?_,by rw[hxx]; simp[alO,hll]⟩
  have hsp:len≠0->spot=none:=fun h0=>by
   obtain⟨s,cs',hcl,h6,_⟩:=each 0 (by omega)
   obtain⟨_,_,hat⟩:=World.cells?_some hcl;have:=hat 0 hm0;have h3:cs'[0]?=some (cs'[0]'(by omega)):=ai (by omega)
   rw[h3] at this;simpa[Addr.add] using World.cell?_spot this
  have cell:∀(i:Nat)(s:α)(k:Nat)(c:ag),l[i]?=some s->(eC s)[k]?=some c->∃u,w.cell? ⟨b,off+(i*m+k),none⟩=some u/\fM w (Ed w) c u:=fun i s k c hs hk=>by
   obtain⟨cs',hcl,h6,hr⟩:=hlp i s hs;have hil:i<len:=by have:=(aq.1 hs).1; omega
   obtain rfl:=hsp (by omega)
   obtain⟨_,_,hat⟩:=World.cells?_some hcl;have hk6:k<m:=by have:=(aq.1 hk).1; rw[dQ] at this; exact this
   have h1:=hat k hk6;have h3:cs'[k]?=some (cs'[k]'(by omega)):=ai (by omega)
   rw[lF,lF,h3] at h1;exact⟨_,by rw[<-Nat.add_assoc]; exact h1,hr.2 k c _ hk h3⟩
  refine .slice _ _ _ _ b off m (fun q=>(w.cell? ⟨b,off+q,none⟩).getD undef) (by simp[hll]) hl (fun hne=>?_) ?_ ?_ ?_
  ·obtain rfl:=hsp (fun h0=>hne (by rw[h0] at hll; rw[cj.1 hll]; rfl))
   rfl
  ·intro x hx;obtain⟨s,_,rfl⟩:=dj.1 hx;rw[hmk,dQ]
  ·intro i x k c hx hk;rw[bf] at hx;obtain⟨s,hs,rfl⟩:=aN.1 hx;rw[hmk] at hk;obtain⟨u,h1,_⟩:=cell i s k c hs hk;refine⟨by rw[h1]; rfl,VK (LM h1)⟩
  ·intro i x k c hx hk;rw[bf] at hx;obtain⟨s,hs,rfl⟩:=aN.1 hx;rw[hmk] at hk;obtain⟨u,h1,h2⟩:=cell i s k c hs hk
   show fM w _ c ((w.cell? _).getD undef)
   rw[h1];exact h2
def NA{w:World}{fuel t e:Nat}{v:Value}{x:DataW H×List MemPlace}(ht:Tryz.prog.underlying t=some (.slice e))(he:Tryz.prog.underlying e=some (.int .u8))(hc:Tryz.prog.cellsOf e=1)(h:DataW.trod enc Tryz.prog w 0 (fun _=>true) true fuel t [v]=some x) :
  ∃d:Bytes,fM w (Ed w) (.slice .sh (d.map pU)) v:=by
 obtain⟨l,h,_⟩:=Jm (eC:=fun b=>[pU b]) (mk:=pU) ht hc (by omega) (fun _=>rfl) (fun _=>rfl) (fun n cs y hl hy=>by
  match cs,hl with
  | [c],_ =>
   obtain⟨b,hb⟩:=agR he hy;exact⟨b,.one hb⟩) h
 exact⟨l,h⟩
def zd{T:zg}(hT:oV Tryz.prog (ar T)){f:Nat}{args:List ag}(h:ar T f args []=some (.bool true,[]))(w:World)(hG:se jX0 [] w)(vs:Array Value)(hl:args.length=vs.size)(hv:∀(i:Nat)(c:ag)(v:Value),args[i]?=some c->vs[i]?=some v->gj jX0 [] w c v) :
  Calls Tryz.prog f vs w fun e w'=>e = .returned (.bool true)/\Below w.heap.size w w':=by
 refine((hT f args [] _ h).2 jX0 w vs (asw w) hG hl hv).mono ?_;intro e w' hce;obtain⟨v,rfl,j',_,hx,hr⟩:=hce.ret rfl;obtain rfl:=hr.jh;exact⟨rfl,hx.os,hx.tape,hx.output,hx.size,fun k hk=>(hx.tL k hk fun i hi=>absurd hi (ka _)).1⟩
def at1{w:World}{n t k:Nat}{cs:List Value}{v:Value}{y:DataW H×List MemPlace}(hc:Tryz.prog.cellsOf t=1)(hk:cs[k]?=some v)(h:DataW.trod enc Tryz.prog w 0 (fun _=>true) true n t ((cs.drop k).take (Tryz.prog.cellsOf t))=some y):DataW.trod enc Tryz.prog w 0 (fun _=>true) true n t [v]=some y:=by
 rw[hc] at h
 have:(cs.drop k).take 1=[v]:=by
  have:=(aq.1 hk);obtain⟨h1,h2⟩:=this;rw[di h1,h2]; rfl
 rw[this] at h;exact h
def JG:Tryz.prog.underlying 3=some (.int .i64):=by kernel_rfl
def M4:Tryz.prog.underlying 9=some .string:=by kernel_rfl
def asz:Tryz.prog.underlying 5=some (.int .u8):=by kernel_rfl
def Z6:Tryz.prog.underlying 23=some (.slice 5):=by kernel_rfl
def HA:Tryz.prog.cellsOf 3=1:=by kernel_rfl
def aar:Tryz.prog.cellsOf 9=1:=by kernel_rfl
def aqk:Tryz.prog.cellsOf 5=1:=by kernel_rfl
def WY:Tryz.prog.cellsOf 23=1:=by kernel_rfl
def asb:Tryz.prog.cellsOf 25=8:=by kernel_rfl
def acB:Tryz.prog.underlying 22=some (.slice 25):=by kernel_rfl
set_option maxRecDepth 100000 in
def af1{w:World}{fuel:Nat}{cs:List Value}{x:DataW H×List MemPlace}(h:DataW.trod enc Tryz.prog w 0 (fun _=>true) true fuel 25 cs=some x):∃o:jk,oA w (eA o) cs:=by
 obtain⟨xs,n,_,_,hl,hxl,hf⟩:=DataW.trod_struct underlying25 h;have h0:cs.length=8:=by rw[hl]; kernel_rfl
 match cs,h0 with
 | [v0,v1,v2,v3,v4,v5,v6,v7],_ =>
  match xs,hxl with
  | [y0,y1,y2,y3,y4,y5,y6,y7],_ =>
   obtain⟨a0,r0⟩:=zM JG (at1 (k:=0) HA rfl (hf 0 _ rfl));obtain⟨a1,r1⟩:=zM JG (at1 (k:=1) HA rfl (hf 1 _ rfl));obtain⟨a2,r2⟩:=G3 M4 (at1 (k:=2) aar rfl (hf 2 _ rfl));obtain⟨a3,r3⟩:=G3 M4 (at1 (k:=3) aar rfl (hf 3 _ rfl));obtain⟨a4,r4⟩:=zM JG (at1 (k:=4) HA rfl (hf 4 _ rfl));obtain⟨a5,r5⟩:=zM JG (at1 (k:=5) HA rfl (hf 5 _ rfl));obtain⟨a6,r6⟩:=zM JG (at1 (k:=6) HA rfl (hf 6 _ rfl));obtain⟨a7,r7⟩:=NA Z6 asz aqk (at1 (k:=7) WY rfl (hf 7 _ rfl));exact⟨⟨a0,a1,a2,a3,a4,a5,a6,a7⟩,.app (.one r0) (.app (.one r1) (.app (.one r2) (.app (.one r3) (.app (.one r4) (.app (.one r5) (.app (.one r6) (.one r7)))))))⟩
set_option maxRecDepth 100000 in
def Ct{w:World}{r:Reach}{b:Nat}{v:Value}{d:DataW H}{ps:List MemPlace}(h:DataW.Trod enc Tryz.prog w 0 (fun _=>true) true 22 v d ps)(hv:Value.okWide Tryz.prog w r b 22 v):∃l:List jk,gj jX0 [] w (C6 l) v:=by
 obtain⟨a,len,cap,rfl⟩:=okWide_slice acB hv;obtain⟨fuel,hf⟩:=h;obtain⟨l,h2,_⟩:=Jm (eC:=eA) (mk:=eOp) acB asb (by omega) (fun _=>rfl) (fun _=>rfl) (fun n cs y _ hy=>af1 hy) hf
 exact⟨l,.plain h2⟩
set_option maxRecDepth 100000 in
def xY{w:World}{r:Reach}{b:Nat}{v:Value}{d:DataW H}{ps:List MemPlace}(h:DataW.Trod enc Tryz.prog w 0 (fun _=>true) true 9 v d ps)(hv:Value.okWide Tryz.prog w r b 9 v):∃s:Bytes,gj jX0 [] w (.str s) v:=by
 have:=hv;obtain⟨s,rfl⟩:=okWide_string M4 hv;obtain⟨fuel,hf⟩:=h;obtain⟨l,h2⟩:=G3 M4 hf;exact⟨l,.plain h2⟩
end
def Lv{α:Type}{a:Array α}{l:List α}(h:a.toList=l):a=l.toArray:=by rw[<-h]
end
def tj(ae:List Node)(i:Int):Prop:=∃n,find ae i=some n/\n.kind=1
def Zr(ae:List Node):Prop:=mG ae/\¬tj ae 0
def KF(a b:List Node):Prop:=Zr b/\∀i,tj a i->tj b i
theorem KF.trans{a b c:List Node}(h:KF a b)(k:KF b c):KF a c:=⟨k.1,fun i hi=>k.2 i (h.2 i hi)⟩
def Rt.zr{t:Tree}(h:Rt t):Zr t.ae:=by
 obtain⟨cE,g⟩:=h;exact⟨g.jo.jv,fun⟨n,h1,_⟩=>by have:=(g.num _ _ h1).1; omega⟩
def KF.refl{a:List Node}(h:Zr a):KF a a:=⟨h,fun _ hi=>hi⟩
def Dn{ae:List Node}(h:mG ae){n:Node}(hn:tj ae n.an->n.kind=1){i:Int}(hi:tj ae i):tj (eu ae n) i:=by
 unfold tj;rw[fJ h];split
 ·rename_i e; exact⟨n,rfl,hn (e▸hi)⟩
 ·exact hi
def Zr.edit{ae:List Node}(h:Zr ae)(d:Int){n:Node}(h1:n.an=(aX ae d).an)(h2:n.kind=(aX ae d).kind):KF ae (eu ae n):=by
 have key:∀i,tj ae i->i=n.an->n.kind=1:=by
  intro i hi e;cases hd:find ae d with
  |none =>
   have:aX ae d=Node.zero:=by simp[aX,hd]
   rw[h1,this] at e;subst e;exact absurd hi h.2
  |some m =>
   have:aX ae d=m:=by simp[aX,hd]
   rw[this] at h1 h2;have hm:=(bP hd).2;obtain⟨x,g1,g2⟩:=hi;rw[e,h1,hm,hd] at g1;injection g1 with g1
   rw[h2,g1]; exact g2
 refine⟨⟨kf h.1 n,fun⟨x,g1,g2⟩=>?_⟩,fun i hi=>Dn h.1 (fun hf=>key _ hf rfl) hi⟩
 rw[fJ h.1] at g1;split at g1
 ·rename_i e;injection g1 with g1
  subst g1;cases hd:find ae d with
  |none =>
   have:aX ae d=Node.zero:=by simp[aX,hd]
   rw[h2,this] at g2;cases g2
  |some m =>
   have:aX ae d=m:=by simp[aX,hd]
   rw[this] at h1 h2;have hm:=(bP hd).2;exact h.2 ⟨m,by rw[e,h1,hm]; exact hd,by rw[<-h2]; exact g2⟩
 ·exact h.2 ⟨x,g1,g2⟩
def Zr.BB{ae:List Node}(h:Zr ae)(d:Int){n:Node}(h1:n.an=(aX ae d).an)(h2:n.kind=(aX ae d).kind){i:Int}(hi:tj (eu ae n) i):tj ae i:=by
 obtain⟨x,g1,g2⟩:=hi;rw[fJ h.1] at g1;split at g1
 ·rename_i e;injection g1 with g1
  subst g1;cases hd:find ae d with
  |none =>
   have:aX ae d=Node.zero:=by simp[aX,hd]
   rw[h2,this] at g2;cases g2
  |some m =>
   have:aX ae d=m:=by simp[aX,hd]
   rw[this] at h1 h2;exact⟨m,by rw[e,h1,(bP hd).2]; exact hd,by rw[<-h2]; exact g2⟩
 ·exact⟨x,g1,g2⟩
def Zr.D4{ae:List Node}(h:Zr ae)(k:Int){i:Int}(hi:tj (dY ae k) i):tj ae i:=by
 unfold dY at hi;split at hi
 ·obtain⟨x,g1,g2⟩:=hi;rw[ll h.1] at g1;split at g1
  ·cases g1
  ·exact⟨x,g1,g2⟩
 ·exact h.BB k (by rfl) (by rfl) hi
def Zr.uG{ae:List Node}(h:Zr ae)(k:Int):Zr (fG ae k)/\∀i,tj ae i->i≠k->tj (fG ae k) i:=by
 refine⟨⟨qX h.1 k,fun⟨x,g1,g2⟩=>?_⟩,fun i hi hk=>?_⟩
 ·rw[ll h.1] at g1;split at g1
  ·cases g1
  ·exact h.2 ⟨x,g1,g2⟩
 ·unfold tj;rw[ll h.1,aH hk]; exact hi
def Zr.unnamed{ae:List Node}(h:Zr ae)(k:Int):KF ae (dY ae k):=by
 unfold dY;split
 ·rename_i hk;obtain⟨g1,g2⟩:=h.uG k;refine⟨g1,fun i hi=>g2 i hi ?_⟩
  rintro rfl;obtain⟨n,h1,h2⟩:=hi;simp[aX,h1,h2] at hk
 ·exact h.edit k rfl rfl
def Ik{t:Tree}(h:Rt t)(k:Int){i:Int}(hi:tj t.ae i)(hk:i≠k):tj (jO t k).1.ae i:=by
 unfold jO
 repeat' split
 all_goals first|exact hi|exact(h.zr.uG k).2 i hi hk
def Zr.left{ae:List Node}(h:Zr ae)(d:Int)(s:Bytes):KF ae (cK ae d s):=h.edit d rfl rfl
def Zr.mR{t:Tree}(h:Zr t.ae)(d:Int)(s:Bytes)(o:Int):KF t.ae (gG t d s o).ae:=h.edit d rfl rfl
def Rx{t:Tree}(h:Rt t)(d:Int)(s:Bytes)(k:Int):KF t.ae (rl t d s k).1.ae:=by
 have hz:=h.zr;unfold rl;split
 ·exact KF.refl hz
 split
 ·exact KF.refl hz
 split
 ·exact KF.refl hz
 ·obtain⟨cE,g⟩:=h;have h0:¬tj t.ae t.next:=fun⟨n,h1,_⟩=>by have:=(g.num _ _ h1).2; omega
  have h1:1<=t.next:=by
   obtain⟨r,g1,_⟩:=g.root;have:=(g.num _ _ g1).2; omega
  have hw:KF t.ae (eu t.ae ⟨t.next,k,1,[],[],if k==2 then d else 0⟩):=by
   refine⟨⟨kf hz.1 _,fun⟨x,g1,g2⟩=>?_⟩,fun i hi=>Dn hz.1 (fun hf=>absurd hf h0) hi⟩
   rw[fJ hz.1,aH (show ¬((0:Int)=t.next) by omega)] at g1
   exact hz.2 ⟨x,g1,g2⟩
  exact hw.trans (Zr.mR (t:=⟨_,kR (t.next+1),t.aj⟩) hw.1 d s t.next)
def XI{t:Tree}(h:Rt t)(i d:Int)(s:Bytes):KF t.ae (Cd t i d s).1.ae:=by
 have hz:=h.zr;unfold Cd;split
 ·exact KF.refl hz
 split
 ·exact KF.refl hz
 split
 ·exact KF.refl hz
 ·have hw:KF t.ae (eu t.ae { aX t.ae i with cL:=kR ((aX t.ae i).cL+1) }):=hz.edit i rfl rfl
  exact hw.trans (Zr.mR (t:=⟨_,t.next,t.aj⟩) hw.1 d s i)
def XK{t:Tree}(h:Rt t)(d:Int)(s:Bytes):KF t.ae (Aj t d s).1.ae:=by
 have hz:=h.zr;unfold Aj;split
 ·exact KF.refl hz
 split
 ·exact KF.refl hz
 ·exact(hz.left d s).trans ((hz.left d s).1.unnamed _)
def Iq{t:Tree}(h:Rt t)(i:Int)(d:Bytes):KF t.ae (rf t i d).1.ae:=by
 have hz:=h.zr;unfold rf;split
 ·exact KF.refl hz
 split
 ·exact KF.refl hz
 split
 ·exact KF.refl hz
 ·exact hz.edit i rfl rfl
def XJ{t:Tree}(h:Rt t)(d:Int)(s:Bytes)(to:Int)(nm:Bytes):KF t.ae (wE t d s to nm).1.ae:=by
 have hz:=h.zr;unfold wE;split
 ·exact KF.refl hz
 split
 ·exact KF.refl hz
 split
 ·exact KF.refl hz
 split
 ·exact KF.refl hz
 split
 ·exact KF.refl hz
 split
 ·exact KF.refl hz
 split
 ·exact KF.refl hz
 ·generalize (dX t.ae d s).1=x;generalize dB (gr t.ae to).1.aM nm=y;unfold jQ;have h1:=hz.left d s
  have h2:KF t.ae (if y != 0 then dY (cK (cK t.ae d s) to nm) y else cK t.ae d s):=by
   split
   ·exact h1.trans ((h1.1.left to nm).trans ((h1.1.left to nm).1.unnamed y))
   ·exact h1
  split
  ·rename_i hk
   have hx:∃m,find t.ae x=some m/\aX t.ae x=m:=by
    cases hf:find t.ae x with
    |none=>simp[aX,hf,Node.zero] at hk
    |some m=>exact⟨m,rfl,by simp[aX,hf]⟩
   obtain⟨m,m1,m2⟩:=hx;rw[m2] at hk ⊢;have hmi:=(bP m1).2;have hmk:m.kind=2:=by simpa using hk
   have hb:∀i,tj (if y != 0 then dY (cK (cK t.ae d s) to nm) y else cK t.ae d s) i->tj t.ae i:=by
    intro i hi;split at hi
    ·exact hz.BB d (by rfl) (by rfl) (h1.1.BB to (by rfl) (by rfl) ((h1.1.left to nm).1.D4 y hi))
    ·exact hz.BB d (by rfl) (by rfl) hi
   generalize (if y != 0 then dY (cK (cK t.ae d s) to nm) y else cK t.ae d s)=B at h2 hb
   have hw:KF B (eu B { m with up:=to }):=by
    refine⟨⟨kf h2.1.1 _,fun⟨z,g1,g2⟩=>?_⟩,fun i hi=>Dn h2.1.1 (fun hf=>?_) hi⟩
    ·rw[fJ h2.1.1] at g1;split at g1
     ·injection g1 with g1
      rw[<-g1] at g2;simp only at g2;omega
     ·exact h2.1.2 ⟨z,g1,g2⟩
    ·simp only at hf;rw[hmi] at hf;obtain⟨z,g1,g2⟩:=hb _ hf;rw[m1] at g1; injection g1 with g1
     rw[<-g1] at g2;omega
   exact(h2.trans hw).trans (Zr.mR (t:=⟨_,t.next,t.aj⟩) hw.1 to nm x)
  ·exact h2.trans (Zr.mR (t:=⟨_,t.next,t.aj⟩) h2.1 to nm x)
def Mk(ae:List Node)(m:List Bool)(v:Int):Prop:=∀(a:Nat)(y:Node),ae[a]?=some y->y.an=v->m[a]?=some true
def Clo(ae:List Node)(an:Int)(m:List Bool):Prop:=∀(i:Nat)(x:Node),ae[i]?=some x->(x.an=an\/m[i]?=some true)->∀e,e∈x.aM->Mk ae m e.an
def nT(m:List Bool):Nat:=m.countP id
def afM{m:List Bool}{a:Nat}(h:m[a]?=some false):nT (m.set a true)=nT m+1:=by
 have ha:=(aq.1 h).1;have hv:=(aq.1 h).2;unfold nT;rw[List.countP_set ha];simp[hv]
def ac5{ae:List Node}(h:mG ae){a b:Nat}{x y:Node}(hx:ae[a]?=some x)(hy:ae[b]?=some y)(e:x.an=y.an):a=b:=by
 obtain⟨ha,rfl⟩:=aq.1 hx;obtain⟨hb,rfl⟩:=aq.1 hy;rcases gX a b with h1|h1|h1
 ·have:=bS.1 h _ _ ha hb h1; omega
 ·exact h1
 ·have:=bS.1 h _ _ hb ha h1; omega
def adI{t:Tree}{cE:Int->Nat}(h:cr t cE 0){an:Int}{m:List Bool}(hc:Clo t.ae an m){v:Int}(hv:We t.ae an v):Mk t.ae m v:=by
 have step:∀ {d:Node},d∈t.ae->(d.an=an\/Mk t.ae m d.an)->∀e,e∈d.aM->Mk t.ae m e.an:=fun hd ho e he=>by
  obtain⟨a,ha⟩:=bE hd;exact hc a _ ha (ho.imp id fun hk=>hk a _ ha rfl) e he
 have key:∀(c:Nat)(i:Int)(n:Node),find t.ae i=some n->n.kind=2->cE i=c->gR t.ae i an=true->i=an\/Mk t.ae m i:=by
  intro c;induction c with
  |zero =>
   intro i n hi hk hd hb
   by_cases ho:i=an
   ·exact .inl ho
   ·by_cases h1:i=1
    ·subst h1;rw[cr.nK (fun hh=>ho hh.symm)] at hb; cases hb
    ·have:=(h.oZ _ _ hi hk h1).1; omega
  |succ c ih =>
   intro i n hi hk hd hb
   by_cases ho:i=an
   ·exact .inl ho
   ·right;have h1:i≠1:=fun hh=>by subst hh; have:=h.zB; omega
    rw[h.oX hi hk h1 ho] at hb;obtain⟨a,q,hq,hqk⟩:=h.oZ _ _ hi hk h1;obtain⟨p,e',p1,p2,p3,p4⟩:=h.named hi hk h1 (by have:=(h.num _ _ hi).1; omega)
    have hp:=ih n.up p p1 p2 (by omega) hb
    have:=step (bP p1).1 (by rw[(bP p1).2]; exact hp) e' p3
    rwa[p4] at this
 obtain⟨d,e,hd,hk,hb,he,rfl⟩:=hv;exact step hd (key _ _ d ((fC h.jo.jv).2 ⟨hd,rfl⟩) hk rfl hb) e he
def agM{ae:List Node}:∀ {a b:List Bool},a.length=ae.length->b.length=ae.length->(∀i:Nat,a[i]?=some true->b[i]?=some true)->nT a<=nT b/\G9 ae a<=G9 ae b:=by
 induction ae with
 |nil =>
  intro a b ha hb _;rw[cG ha,cG hb];exact⟨aC _,aC _⟩
 |cons n r ih =>
  intro a b ha hb hab;cases a with
  |nil=>cases ha
  |cons x a =>
  cases b with
  |nil=>cases hb
  |cons y b =>
  obtain⟨h1,h2⟩:=ih (a:=a) (b:=b) (by simpa using ha) (by simpa using hb) fun i hi=>by simpa using hab (i+1) (by simpa using hi)
  have h0:x=true->y=true:=fun e=>by simpa using hab 0 (by simp[e])
  simp only[nT,G9] at h1 h2 ⊢;simp only[jV,List.zip_cons_cons,aP,mX,id] at h1 h2 ⊢;cases x<;>cases y<;>simp at h0 ⊢ <;> omega
def Qd{t:Tree}(hr:Rt t){an:Int}{m:List Bool}(hm:m.length=t.ae.length)(hc:Clo t.ae an m):(jU t.ae an).1<=nT m/\(jU t.ae an).2<=G9 t.ae m:=by
 rw[Ak hr];obtain⟨cE,h⟩:=hr;obtain⟨q,h1,h2⟩:=wS t.ae an
 have:=agM (ae:=t.ae) (a:=rO t.ae an) (b:=m) (by rw[h1]; simp) hm fun i hi=>by
  rw[h1,bf] at hi;obtain⟨n,hn,hq⟩:=aN.1 hi;exact adI h hc ((h2 n).1 hq) i n hn rfl
 unfold nT at this ⊢;unfold NN;simp only;omega
def Xz{l:List cF}(h:oz l)(an:Int):Fh l an=true↔∃x,x∈l/\x.an=an:=by
 have hl:=xQ h an;unfold Fh qy
 have hc:∀a b:Int,(pB a b==0)=true↔a=b:=fun a b=>by
  unfold pB;simp only[bg,eM];split
  ·constructor<;>intro<;>omega
  split
  ·constructor<;>intro<;>omega
  ·constructor<;>intro<;>omega
 have cz:∀a b:Int,decide (pB a b<0)=true↔a<b:=fun a b=>by
  unfold pB;simp only[bg];split
  ·constructor<;>intro<;>omega
  split
  ·constructor<;>intro<;>omega
  ·constructor<;>intro<;>omega
 constructor
 ·intro hq;split at hq
  ·rename_i x hx;exact⟨x,aQ hx,(hc _ _).1 hq⟩
  ·cases hq
 ·rintro⟨x,hx,rfl⟩;obtain⟨i,hi⟩:=bE hx;have h1:=hl.lt i x hi;rw[cz] at h1
  have hge:wB l x.an<=i:=by
   rcases bD i (wB l x.an) with h2|h2
   ·have:=h1.2 h2; omega
   ·exact h2
  have hil:=(aq.1 hi).1;have hb:l[wB l x.an]?=some (l[wB l x.an]'(by omega)):=ai _
  rw[hb];simp only;rw[hc];rcases bD (wB l x.an) i with h2|h2
  ·have h3:=hl.lt _ _ hb;rw[cz] at h3;have h4:=bS.1 h _ _ (by omega) hil h2
   have h5:=(aq.1 hi).2;rw[h5] at h4;have:=h3.1 h4;omega
  ·have:wB l x.an=i:=by omega
   have h5:=(aq.1 hi).2;simp only[this,h5]
def C3{t:Tree}{cE:Int->Nat}(h:cr t cE 0)(l:List cF):∀(f g:Nat)(i:Int)(n:Node),find t.ae i=some n->n.kind=2->cE i<f->cE i<g->rP t.ae l f i=rP t.ae l g i
 |0,_,_,_,_,_,hf,_=>by omega
 |_+1,0,_,_,_,_,_,hg=>by omega
 |f+1,g+1,i,n,hi,hk,hf,hg=>by
  rw[rP,rP];split
  ·rfl
  split
  ·rename_i h1;obtain⟨a,p,p1,p2⟩:=h.oZ _ _ hi hk (by simpa using h1)
   have hn:aX t.ae i=n:=by simp[aX,hi]
   rw[hn];exact C3 h l f g n.up p p1 p2 (by omega) (by omega)
  ·rfl
def Kw{t:Tree}{cE:Int->Nat}(h:cr t cE 0)(l:List cF){i:Int}{n:Node}(hi:find t.ae i=some n)(hk:n.kind=2):jN t.ae l i=if Fh l i then i else if i=1 then 0 else jN t.ae l n.up:=by
 have hn:aX t.ae i=n:=by simp[aX,hi]
 unfold jN
 conv=>lhs; rw[rP]
 rw[hn]
 by_cases h1:i=1
 ·simp[h1]
 ·obtain⟨a,p,p1,p2⟩:=h.oZ _ _ hi hk h1;have hd:=(h.deep _ _ hi hk).1;have h1':(i != 1)=true:=by simpa using h1
  rw[h1'];simp only[aE,h1,aw];rw[C3 h l 12 13 n.up p p1 p2 (by omega) (by omega)]
def HJ{t:Tree}{cE:Int->Nat}(h:cr t cE 0)(l:List cF):∀(f:Nat)(i:Int)(n:Node),find t.ae i=some n->n.kind=2->0<=rP t.ae l f i
 |0,_,_,_,_=>cp 0
 |f+1,i,n,hi,hk=>by
  rw[rP];split
  ·have:=(h.num _ _ hi).1; omega
  split
  ·rename_i h1;obtain⟨_,p,p1,p2⟩:=h.oZ _ _ hi hk (by simpa using h1)
   have hn:aX t.ae i=n:=by simp[aX,hi]
   rw[hn];exact HJ h l f n.up p p1 p2
  ·exact cp 0
def OD(t:Tree)(l:List cF):Prop:=∀d1 e1 d2 e2 x,d1∈t.ae->e1∈d1.aM->d2∈t.ae->e2∈d2.aM->e1.an=e2.an->find t.ae e1.an=some x->x.kind=1->jN t.ae l d1.an=jN t.ae l d2.an
def ur{t u:Tree}{cE:Int->Nat}(h:cr t cE 0)(hk:∀i n,find t.ae i=some n->n.kind=2->(aX u.ae i).up=n.up)(l:List cF):∀(f:Nat)(i:Int)(n:Node),find t.ae i=some n->n.kind=2->rP u.ae l f i=rP t.ae l f i
 |0,_,_,_,_=>rfl
 |f+1,i,n,hi,hk2=>by
  have h1:aX t.ae i=n:=by simp[aX,hi]
  rw[rP,rP,h1,hk _ _ hi hk2];split
  ·rfl
  split
  ·rename_i hne;obtain⟨_,p,p1,p2⟩:=h.oZ _ _ hi hk2 (by simpa using hne)
   exact ur h hk l f n.up p p1 p2
  ·rfl
def cr.Gm{t:Tree}{cE:Int->Nat}(h:cr t cE 0){d:Node}{e:fp}(hd:d∈t.ae)(he:e∈d.aM):find t.ae d.an=some d/\d.kind=2:=by
 have hf:=(fC h.jo.jv).2 ⟨hd,rfl⟩;refine⟨hf,?_⟩;rcases h.kind _ _ hf with h1|h1
 ·rw[(h.file _ _ hf h1).1] at he; cases he
 ·exact h1
def Wi(ae:List Node)(i:Int):Prop:=∃n,find ae i=some n/\n.kind=2
def RF(a b:List Node):Prop:=∀i,tj b i->tj a i\/find a i=none
def Wi.no{a:List Node}{i:Int}(h:Wi a i)(hf:tj a i\/find a i=none):False:=by
 obtain⟨n,h1,h2⟩:=h;rcases hf with ⟨m,g1,g2⟩|h3
 ·rw[h1] at g1; cases g1; omega
 ·rw[h1] at h3; cases h3
def Rt.Wi{t:Tree}(h:Rt t){i:Int}{n:Node}(hn:find t.ae i=some n)(hf:¬tj t.ae i):Wi t.ae i:=by
 obtain⟨cE,g⟩:=h;rcases g.kind _ _ hn with hk|hk
 ·exact absurd ⟨n,hn,hk⟩ hf
 ·exact⟨n,hn,hk⟩
def Zr.BM{ae:List Node}(h:Zr ae)(d:Int)(s:Bytes){i:Int}(hi:tj (cK ae d s) i):tj ae i:=h.BB d (by rfl) (by rfl) hi
def Zr.zC{t:Tree}(h:Zr t.ae)(d:Int)(s:Bytes)(o:Int){i:Int}(hi:tj (gG t d s o).ae i):tj t.ae i:=h.BB d (by rfl) (by rfl) hi
def agA{t:Tree}(h:Rt t)(d:Int)(s:Bytes)(k:Int):RF t.ae (rl t d s k).1.ae:=by
 have hz:=h.zr;intro i hi;unfold rl at hi;split at hi
 ·exact .inl hi
 split at hi
 ·exact .inl hi
 split at hi
 ·exact .inl hi
 ·obtain⟨cE,g⟩:=h
  have h0:find t.ae t.next=none:=by
   cases hf:find t.ae t.next with
   |none=>rfl
   |some n=>have:=(g.num _ _ hf).2; omega
  have h1:1<=t.next:=by
   obtain⟨r,g1,_⟩:=g.root;have:=(g.num _ _ g1).2; omega
  have hw:Zr (eu t.ae ⟨t.next,k,1,[],[],if k==2 then d else 0⟩):=by
   refine⟨kf hz.1 _,fun⟨x,g1,g2⟩=>?_⟩
   rw[fJ hz.1,aH (show ¬((0:Int)=t.next) by omega)] at g1
   exact hz.2 ⟨x,g1,g2⟩
  obtain⟨x,g1,g2⟩:=Zr.zC (t:=⟨_,kR (t.next+1),t.aj⟩) hw d s t.next hi
  have g1:find (eu t.ae ⟨t.next,k,1,[],[],if k==2 then d else 0⟩) i=some x:=g1
  rw[fJ hz.1] at g1
  by_cases e:i=t.next
  ·right; rw[e]; exact h0
  ·rw[aH e] at g1; exact .inl ⟨x,g1,g2⟩
def amF{t:Tree}(h:Rt t)(j d:Int)(s:Bytes):RF t.ae (Cd t j d s).1.ae:=by
 have hz:=h.zr;intro i hi;unfold Cd at hi;split at hi
 ·exact .inl hi
 split at hi
 ·exact .inl hi
 split at hi
 ·exact .inl hi
 ·have hw:KF t.ae (eu t.ae { aX t.ae j with cL:=kR ((aX t.ae j).cL+1) }):=hz.edit j rfl rfl
  exact .inl (hz.BB j (by rfl) (by rfl) (Zr.zC (t:=⟨_,t.next,t.aj⟩) hw.1 d s j hi))
def amH{t:Tree}(h:Rt t)(d:Int)(s:Bytes):RF t.ae (Aj t d s).1.ae:=by
 have hz:=h.zr;intro i hi;unfold Aj at hi;split at hi
 ·exact .inl hi
 split at hi
 ·exact .inl hi
 ·exact .inl (hz.BM d s ((hz.left d s).1.D4 _ hi))
def VF{t:Tree}(h:Rt t)(j:Int)(d:Bytes):RF t.ae (rf t j d).1.ae:=by
 have hz:=h.zr;intro i hi;unfold rf at hi;split at hi
 ·exact .inl hi
 split at hi
 ·exact .inl hi
 split at hi
 ·exact .inl hi
 ·exact .inl (hz.BB j (by rfl) (by rfl) hi)
def amG{t:Tree}(h:Rt t)(d:Int)(s:Bytes)(to:Int)(nm:Bytes):RF t.ae (wE t d s to nm).1.ae:=by
 have hz:=h.zr;intro i hi;left;unfold wE at hi;split at hi
 ·exact hi
 split at hi
 ·exact hi
 split at hi
 ·exact hi
 split at hi
 ·exact hi
 split at hi
 ·exact hi
 split at hi
 ·exact hi
 split at hi
 ·exact hi
 ·generalize (dX t.ae d s).1=x at hi;generalize dB (gr t.ae to).1.aM nm=y at hi;unfold jQ at hi;have h1:=hz.left d s
  have hb:∀i,tj (if y != 0 then dY (cK (cK t.ae d s) to nm) y else cK t.ae d s) i->tj t.ae i:=by
   intro i hi;split at hi
   ·exact hz.BM d s (h1.1.BM to nm ((h1.1.left to nm).1.D4 y hi))
   ·exact hz.BM d s hi
  have h2:Zr (if y != 0 then dY (cK (cK t.ae d s) to nm) y else cK t.ae d s):=by
   split
   ·exact((h1.1.left to nm).1.unnamed y).1
   ·exact h1.1
  refine hb i ?_;generalize (if y != 0 then dY (cK (cK t.ae d s) to nm) y else cK t.ae d s)=B at h2 hi
  split at hi
  ·rename_i hk;have hk2:(aX t.ae x).kind=2:=by simpa using hk
   have hw:∀j,tj (eu B { aX t.ae x with up:=to }) j->tj B j:=by
    rintro j ⟨z,g1,g2⟩;rw[fJ h2.1] at g1;split at g1
    ·injection g1 with g1
     rw[<-g1] at g2;simp only at g2;omega
    ·exact⟨z,g1,g2⟩
   exact hw _ (Zr.zC (t:=⟨_,t.next,t.aj⟩) ⟨kf h2.1 _,fun hf=>h2.2 (hw _ hf)⟩ to nm x hi)
  ·exact Zr.zC (t:=⟨_,t.next,t.aj⟩) h2 to nm x hi
def ve{t:Tree}(h:Rt t)(k i:Int):find (jO t k).1.ae i=if i=k/\∃n,find t.ae k=some n/\ep n=true then none else find t.ae i:=by
 have hz:=h.zr;obtain⟨cE,g⟩:=h;unfold jO;cases hf:find t.ae k with
 |none=>simp
 |some n =>
  have hn:aX t.ae k=n:=by simp[aX,hf]
  have hl:=g.cL _ _ hf;simp only[bZ,c8,af,aw,hn];rcases g.kind _ _ hf with hk|hk
  ·have h1:(n.kind==2)=false:=by simp[hk]
   simp only[h1,af,aw];split
   ·rename_i h2;have h2':0<n.cL:=by simpa using h2
    have:ep n=false:=by simp[ep,hk]; omega
    simp[this]
   ·rename_i h2;have h2':¬0<n.cL:=by simpa using h2
    have h3:0<=n.cL:=by rw[hl]; split<;>omega
    have:ep n=true:=by simp[ep,hk]; omega
    rw[ll hz.1];simp[this]
  ·have h1:(n.kind==2)=true:=by simp[hk]
   have:ep n=false:=by simp[ep,hk]
   simp[h1,this]
def Zw{t:Tree}(hr:Rt t)(k:Int)(l:List cF)(ho:OD t l):OD (jO t k).1 l:=by
 have hf:=ve hr k;have hu:=(hr.free k).jo.jv;obtain⟨cE,h⟩:=hr
 have back:∀ {d:Node},d∈(jO t k).1.ae->d∈t.ae:=fun hd=>by
  have h1:=(fC hu).2 ⟨hd,rfl⟩;rw[hf] at h1;split at h1
  ·cases h1
  ·exact(bP h1).1
 have ov:∀i n,find t.ae i=some n->n.kind=2->(aX (jO t k).1.ae i).up=n.up:=fun i n h1 h2=>by
  unfold aX;rw[hf,aH,h1]
  ·rfl
  rintro⟨rfl,m,g1,g2⟩;rw[h1] at g1; cases g1;simp[ep,h2] at g2
 intro d1 e1 d2 e2 x h1 h2 h3 h4 h5 h6 h7;obtain⟨a1,a2⟩:=h.Gm (back h1) h2;obtain⟨b1,b2⟩:=h.Gm (back h3) h4
 have hx:find t.ae e1.an=some x:=by
  rw[hf] at h6;split at h6
  ·cases h6
  ·exact h6
 unfold jN;rw[ur h ov l 13 _ _ a1 a2,ur h ov l 13 _ _ b1 b2];exact ho d1 e1 d2 e2 x (back h1) h2 (back h3) h4 h5 hx h7
def zR{ae:List Node}{dir:Int}{s:Bytes}{d:Node}(hd:find ae dir=some d)(hk:d.kind=2)(hs:eh s=true):dX ae dir s=match eG d.aM s with
  |none=>(0,70)
  |some e=>(e.an,0):=by
 have:gr ae dir=(d,0):=by simp[gr,hd,hk]
 simp only[dX,this,hs];cases eG d.aM s<;>simp
def mvA(t:Tree)(f:Int)(s:Bytes)(to:Int)(nm:Bytes)(y:Int):List Node:=if y != 0 then dY (cK (cK t.ae f s) to nm) y else cK t.ae f s
def IA(o:Option Node):Option Node:=match o with
 |some y=>Fm y
 |none=>none
def Zt{t:Tree}{cE:Int->Nat}(h:cr t cE 0)(f:Int)(s:Bytes)(to:Int)(nm:Bytes)(y:Int):mG (mvA t f s to nm y):=by
 unfold mvA;split
 ·exact vW (ly (ly h.jo.jv f s) to nm) y
 ·exact ly h.jo.jv f s
def QF{t:Tree}{cE:Int->Nat}(h:cr t cE 0){f:Int}{s:Bytes}{to:Int}{nm:Bytes}{dF dT m:Node}{e:fp}(k:sx t cE f s to nm dF dT m e)(i:Int) :
  find (mvA t f s to nm (dB dT.aM nm)) i=if i=to then some { dT with aM:=ga (if to=f then ga dT.aM s else dT.aM) nm }
   else if i=f then some { dF with aM:=ga dF.aM s } else if i=dB dT.aM nm then IA (find t.ae i) else find t.ae i:=by
 have f1:=iZ h.jo.jv k.hF (s:=s);cases hfr:eG dT.aM nm with
 |none =>
  have hu:dB dT.aM nm=0:=by simp[dB,hfr]
  have hdr:ga (if to=f then ga dT.aM s else dT.aM) nm=(if to=f then ga dT.aM s else dT.aM):=by
   refine C5 ?_;split
   ·exact pr hfr
   ·exact hfr
  rw[hu,hdr];simp only[mvA,ak,af,↓reduceIte];rw[f1]
  by_cases i1:i=to
  ·rw[bc i1];subst i1
   by_cases i2:i=f
   ·subst i2;have:=k.hF; rw[k.hT] at this; cases this;simp only[↓reduceIte]
   ·simp only[i2,↓reduceIte]; exact k.hT
  ·rw[aH i1]
   by_cases i2:i=f
   ·simp only[i2,↓reduceIte]
   ·simp only[i2,↓reduceIte]
    by_cases i3:i=0
    ·subst i3; simp[h.zero,IA]
    ·simp only[i3,↓reduceIte]
 |some e2 =>
  have hu:dB dT.aM nm=e2.an:=by simp[dB,hfr]
  obtain⟨q1,y,q2,q3,q4,q5,q6⟩:=k.IV e2 hfr;have hy0:=(h.num _ _ q2).1;have hb:(e2.an != 0)=true:=by simp; omega
  rw[hu];simp only[mvA,hb,↓reduceIte];have a1:=ly h.jo.jv f s
  obtain⟨dT',hT',hd'⟩:∃dT',find (cK t.ae f s) to=some dT'/\({ dT' with aM:=ga dT'.aM nm }:Node)={ dT with aM:=ga (if to=f then ga dT.aM s else dT.aM) nm }:=by
   rw[f1];split
   ·rename_i hh;subst hh;have:=k.hF; rw[k.hT] at this; cases this;exact⟨_,rfl,rfl⟩
   ·exact⟨dT,k.hT,rfl⟩
  have f3:=iZ a1 hT' (s:=nm);have hy3:find (cK (cK t.ae f s) to nm) e2.an=some y:=by rw[f3,aH q6,f1,aH q5]; exact q2
  rw[pJ (ly a1 to nm) hy3,f3,f1,hd']
  by_cases i1:i=e2.an
  ·subst i1;simp only[↓reduceIte,q5,q6,q2,IA]
  ·simp only[i1,↓reduceIte]
def tE{t:Tree}{cE:Int->Nat}(h:cr t cE 0){f:Int}{s:Bytes}{to:Int}{nm:Bytes}{dF dT m:Node}{e:fp}(k:sx t cE f s to nm dF dT m e)(i:Int) :
  find (jQ t f s to nm e.an (dB dT.aM nm)).ae i=if i=to then some { dT with aM:=wA (ga (if to=f then ga dT.aM s else dT.aM) nm) ⟨nm,e.an,t.aj⟩ }
   else if i=f then some { dF with aM:=ga dF.aM s } else if i=e.an then some (if m.kind=2 then { m with up:=to } else m) else if i=dB dT.aM nm then IA (find t.ae i) else find t.ae i:=by
 have hA:=QF h k;have aA:=Zt h f s to nm (dB dT.aM nm);have hmn:aX t.ae e.an=m:=by simp[aX,k.hm]
 have hmi:m.an=e.an:=(bP k.hm).2;have hTi:dT.an=to:=(bP k.hT).2
 have hux:e.an≠dB dT.aM nm:=by
  cases hfr:eG dT.aM nm with
  |none=>simp only[dB,hfr]; have:=(h.num _ _ k.hm).1; omega
  |some e2=>simp only[dB,hfr]; exact fun hh=>(k.IV e2 hfr).1 hh.symm
 obtain⟨B,hB,aB,fB⟩:∃B,(if m.kind==2 then eu (mvA t f s to nm (dB dT.aM nm)) { m with up:=to } else mvA t f s to nm (dB dT.aM nm))=B/\mG B /\
   ∀i,find B i=if i=to then some { dT with aM:=ga (if to=f then ga dT.aM s else dT.aM) nm }
    else if i=f then some { dF with aM:=ga dF.aM s } else if i=e.an then some (if m.kind=2 then { m with up:=to } else m) else if i=dB dT.aM nm then IA (find t.ae i) else find t.ae i:=by
  refine⟨_,rfl,?_,?_⟩
  ·split
   ·exact kf aA _
   ·exact aA
  ·intro i;split
   ·rename_i hk;have hk':m.kind=2:=by simpa using hk
    rw[fJ aA,hA];simp only[hmi,hk',↓reduceIte]
    by_cases i1:i=e.an
    ·subst i1; simp only[↓reduceIte,k.ne,k.nf]
    ·simp only[i1,↓reduceIte]
   ·rename_i hk;have hk':¬m.kind=2:=by simpa using hk
    rw[hA];simp only[hk',↓reduceIte]
    by_cases i1:i=e.an
    ·subst i1; simp only[↓reduceIte,k.ne,k.nf,hux]; exact k.hm
    ·simp only[i1,↓reduceIte]
 have hmv:jQ t f s to nm e.an (dB dT.aM nm)=gG ⟨B,t.next,t.aj⟩ to nm e.an:=by
  rw[<-hB];unfold jQ mvA;simp only[hmn]
 rw[hmv];unfold gG;simp only;have hBt:find B to=some { dT with aM:=ga (if to=f then ga dT.aM s else dT.aM) nm }:=by rw[fB]; simp only[↓reduceIte]
 rw[fJ aB,hBt];simp only[bh,hTi]
 by_cases i1:i=to
 ·simp only[i1,↓reduceIte]
 ·simp only[i1,↓reduceIte];rw[fB];simp only[i1,↓reduceIte]
def LF{a b:List Node}(ha:mG a)(h:∀n,n∈a->∃m,find b n.an=some m):a.length<=b.length:=by
 have:=zY (a.map Node.an) (b.map Node.an) (by
  unfold List.Nodup;rw[iC];exact List.Pairwise.imp (fun hab=>by omega) ha) (by
  intro x hx;obtain⟨n,hn,rfl⟩:=dj.1 hx;obtain⟨m,hm⟩:=h n hn;exact dj.2 ⟨m,(bP hm).1,(bP hm).2⟩)
 simpa using this
def AP{l:List fp}(h:ph l){s:Bytes}{e:fp}:eG l s=some e↔e∈l/\e.name=s:=by
 refine⟨gu,fun⟨h1,h2⟩=>?_⟩
 cases hf:eG l s with
 |none =>
  have:=df.1 hf e h1;simp[h2] at this
 |some x =>
  obtain⟨x1,x2⟩:=gu hf;obtain⟨i,hi⟩:=bE h1;obtain⟨k,hk⟩:=bE x1;have hil:=(aq.1 hi).1;have hkl:=(aq.1 hk).1;have e1:l[i]=e:=by rw[ai hil] at hi; injection hi
  have e2:l[k]=x:=by rw[ai hkl] at hk; injection hk
  rcases gX i k with cz|heq|hgt
  ·have:=bS.1 h _ _ hil hkl cz;rw[e1,e2,h2,x2,nN] at this; cases this
  ·subst heq; rw[<-e1,<-e2]
  ·have:=bS.1 h _ _ hkl hil hgt;rw[e1,e2,h2,x2,nN] at this; cases this
def yK{l:List fp}(h:ph l){e:fp}(hf:eG l e.name=none)(s:Bytes):eG (wA l e) s=if s=e.name then some e else eG l s:=by
 have ha:=Ic h hf;split
 ·rename_i hs;exact(AP ha).2 ⟨(zV h hf).2 (.inl rfl),hs.symm⟩
 ·rename_i hs;cases hq:eG l s with
  |none =>
   cases hr:eG (wA l e) s with
   |none=>rfl
   |some x =>
    obtain⟨x1,x2⟩:=gu hr;rcases(zV h hf).1 x1 with rfl|x1
    ·exact absurd x2.symm hs
    ·rw[(AP h).2 ⟨x1,x2⟩] at hq; cases hq
  |some x =>
   obtain⟨x1,x2⟩:=gu hq;exact(AP ha).2 ⟨(zV h hf).2 (.inr x1),x2⟩
section
variable {t:Tree} {cE:Int->Nat} {f:Int} {s:Bytes} {to:Int} {nm:Bytes} {dF dT m:Node} {e:fp}
def sx.bL(h:cr t cE 0)(k:sx t cE f s to nm dF dT m e):ph (ga (if to=f then ga dT.aM s else dT.aM) nm)/\eG (ga (if to=f then ga dT.aM s else dT.aM) nm) nm=none:=by
 have hE:ph dT.aM:=h.jo.aM dT (bP k.hT).1;refine⟨va ?_ nm,rR _ _⟩;split
 ·exact va hE s
 ·exact hE
def sx.YE(h:cr t cE 0)(k:sx t cE f s to nm dF dT m e):dX (jQ t f s to nm e.an (dB dT.aM nm)).ae to nm=(e.an,0):=by
 have hf:=tE h k to;rw[bc rfl] at hf;obtain⟨b1,b2⟩:=k.bL h;rw[zR hf k.kT k.hn];simp only;rw[yK b1 (e:=⟨nm,e.an,t.aj⟩) b2];simp
def sx.Ox(h:cr t cE 0)(k:sx t cE f s to nm dF dT m e)(hs:eh s=true)(hne:¬(f=to/\s=nm)):dX (jQ t f s to nm e.an (dB dT.aM nm)).ae f s=(0,70):=by
 have hf:=tE h k f;obtain⟨b1,b2⟩:=k.bL h
 by_cases hft:f=to
 ·rw[bc hft] at hf;rw[zR hf k.kT hs];simp only;rw[yK b1 (e:=⟨nm,e.an,t.aj⟩) b2];have hsn:s≠nm:=fun hh=>hne ⟨hft,hh⟩
  simp only[hsn,↓reduceIte,hft.symm];rw[pr (rR _ _)]
 ·rw[aH hft,bc rfl] at hf;rw[zR hf k.kF hs];simp only;rw[rR]
def sx.len(h:cr t cE 0)(k:sx t cE f s to nm dF dT m e){dep':Int->Nat}(h':cr (jQ t f s to nm e.an (dB dT.aM nm)) dep' 0):(jQ t f s to nm e.an (dB dT.aM nm)).ae.length<=t.ae.length:=by
 refine LF h'.jo.jv (fun n hn=>?_)
 have hf:=(fC h'.jo.jv).2 ⟨hn,rfl⟩;rw[tE h k] at hf;split at hf
 ·rename_i hi; rw[hi]; exact⟨dT,k.hT⟩
 split at hf
 ·rename_i hi; rw[hi]; exact⟨dF,k.hF⟩
 split at hf
 ·rename_i hi; rw[hi]; exact⟨m,k.hm⟩
 split at hf
 ·cases hq:find t.ae n.an with
  |none=>rw[hq] at hf; cases hf
  |some y=>exact⟨y,rfl⟩
 ·exact⟨n,hf⟩
end
def Way(ae:List Node):Int->List Bytes->Int->Prop
 |i,[],j=>i=j
 |i,s::r,j=>∃d e,find ae i=some d/\d.kind=2/\eh s=true/\eG d.aM s=some e/\Way ae e.an r j
def pz{ae:List Node}:∀ {L:List Bytes} {i j:Int},nQ ae L i=(j,0)↔Way ae i L j
 | [],i,j=>by simp[nQ,Way]
 |s::r,i,j=>by
  unfold nQ Way;constructor
  ·intro h;split at h
   ·rename_i h0;injection h with _ h
    simp[h] at h0
   ·rename_i h0;obtain⟨d,e,h1,h2,h3,h4,h5⟩:=look_ok (by simpa using h0)
    rw[h5] at h;exact⟨d,e,h1,h2,h3,h4,pz.1 h⟩
  ·rintro⟨d,e,h1,h2,h3,h4,h5⟩;have hl:dX ae i s=(e.an,0):=by rw[zR h1 h2 h3,h4]
   rw[hl];simpa using pz.2 h5
def D6(ae:List Node):∀(A B:List Bytes)(i:Int),nQ ae (A++B) i=if (nQ ae A i).2 != 0 then (0,(nQ ae A i).2) else nQ ae B (nQ ae A i).1
 | [],B,i=>by simp[nQ]
 |s::A,B,i=>by
  simp only[aR,nQ];split
  ·rename_i h; simp only[h,aE]
  ·exact D6 ae A B _
def lk{ae:List Node}:∀ {A B:List Bytes} {i j:Int},Way ae i (A++B) j↔∃k,Way ae i A k/\Way ae k B j
 | [],B,i,j=>by simp[Way]
 |s::A,B,i,j=>by
  simp only[aR,Way];constructor
  ·rintro⟨d,e,h1,h2,h3,h4,h5⟩;obtain⟨k,k1,k2⟩:=lk.1 h5;exact⟨k,⟨d,e,h1,h2,h3,h4,k1⟩,k2⟩
  ·rintro⟨k,⟨d,e,h1,h2,h3,h4,k1⟩,k2⟩;exact⟨d,e,h1,h2,h3,h4,lk.2 ⟨k,k1,k2⟩⟩
def An{ae:List Node}{L:List Bytes}{i j k:Int}(h:Way ae i L j)(g:Way ae i L k):j=k:=by
 rw[<-pz] at h g;rw[h] at g; injection g
section
variable {t:Tree} {cE:Int->Nat}
def cr.step(h:cr t cE 0){i:Int}{d:Node}{e:fp}{s:Bytes}(hd:find t.ae i=some d)(he:eG d.aM s=some e):∃m,find t.ae e.an=some m/\(m.kind=2->m.up=i/\e.an≠1/\cE e.an=cE i+1)/\ep m=false:=by
 obtain⟨e1,_⟩:=gu he;obtain⟨_,_,h1,_,m,hm,hu⟩:=h.Au _ _ e hd e1;refine⟨m,hm,fun hk=>⟨hu hk,h1,?_⟩,?_⟩
 ·have:=(h.oZ _ _ hm hk h1).1;rw[hu hk] at this; exact this
 ·have hl:=h.cL _ _ hm;have:0<ue t.ae e.an:=uq.2 ⟨d,e,(bP hd).1,e1,rfl⟩;have h2:((m.cL==0)=false):=by simp; split at hl<;>omega
  simp[ep,h2]
def cr.uF(h:cr t cE 0):∀ {L:List Bytes} {i j:Int} {d n:Node},Way t.ae i L j->find t.ae i=some d->d.kind=2->find t.ae j=some n->n.kind=2->cE j=cE i+L.length
 | [],i,j,_,_,hw,_,_,_,_=>by cases hw; rfl
 |s::r,i,j,d,n,⟨d',e,h1,_,_,h4,h5⟩,_,_,hj,hk=>by
  obtain⟨m,hm,hu,_⟩:=h.step h1 h4
  have hmk:m.kind=2:=by
   cases r with
   |nil=>cases h5; rw[hm] at hj; injection hj with hj; rw[hj]; exact hk
   |cons s' r'=>obtain⟨d2,_,g1,g2,_⟩:=h5; rw[hm] at g1; injection g1 with g1; rw[g1]; exact g2
  have:=h.uF h5 hm hmk hj hk;have:=(hu hmk).2.2;simp only[au]; omega
def cr.Br(h:cr t cE 0){x:Int}:∀ {L:List Bytes} {i j:Int} {n:Node},Way t.ae i L j->gR t.ae i x=true->find t.ae j=some n->n.kind=2->gR t.ae j x=true
 | [],i,j,_,hw,hb,_,_=>by cases hw; exact hb
 |s::r,i,j,n,⟨d,e,h1,h2,_,h4,h5⟩,hb,hj,hk=>by
  obtain⟨m,hm,hu,_⟩:=h.step h1 h4
  have hmk:m.kind=2:=by
   cases r with
   |nil=>cases h5; rw[hm] at hj; injection hj with hj; rw[hj]; exact hk
   |cons s' r'=>obtain⟨d2,_,g1,g2,_⟩:=h5; rw[hm] at g1; injection g1 with g1; rw[g1]; exact g2
  refine h.Br h5 ?_ hj hk;rcases Int.decEq e.an x with hx|hx
  ·rw[h.oX hm hmk (hu hmk).2.1 hx,(hu hmk).1]; exact hb
  ·rw[hx]; exact cr.iY (t:=t) x
def cr.Cy(h:cr t cE 0){L:List Bytes}{i j:Int}{d:Node}(hw:Way t.ae i L j)(hi:find t.ae i=some d)(hd:ep d=false):∃m,find t.ae j=some m/\ep m=false:=by
 rcases List.eq_nil_or_concat L with rfl|⟨A,s,rfl⟩
 ·cases hw; exact⟨d,hi,hd⟩
 ·rw[List.concat_eq_append] at hw;obtain⟨k,_,d',e,h1,_,_,h4,h5⟩:=lk.1 hw;obtain⟨m,hm,_,ho⟩:=h.step h1 h4;cases h5;exact⟨m,hm,ho⟩
def ry{n:Node}(h:n.kind=2):ep n=false:=by simp[ep,h]
def cr.M9(h:cr t cE 0):∀(c:Nat){L L':List Bytes}{j:Int}{n:Node},L.length=c->Way t.ae 1 L j->Way t.ae 1 L' j->find t.ae j=some n->n.kind=2->L=L':=by
 obtain⟨r,r1,r2,_⟩:=h.root;intro c;induction c with
 |zero =>
  intro L L' j n hc w w' hj hk;have e1:=h.uF w r1 r2 hj hk;have e2:=h.uF w' r1 r2 hj hk;have:L'.length=0:=by omega
  rw[cG hc,cG this]
 |succ c ih =>
  intro L L' j n hc w w' hj hk;have e1:=h.uF w r1 r2 hj hk;have e2:=h.uF w' r1 r2 hj hk;rcases List.eq_nil_or_concat L with rfl|⟨A,s,rfl⟩
  ·simp at hc
  rcases List.eq_nil_or_concat L' with rfl|⟨A',s',rfl⟩
  ·simp at e1 e2 hc; omega
  rw[List.concat_eq_append] at *;obtain⟨k,w1,d,e,g1,g2,_,g4,g5⟩:=lk.1 w;obtain⟨k',w1',d',e',g1',g2',_,g4',g5'⟩:=lk.1 w';have g5:e.an=j:=g5;have g5':e'.an=j:=g5';obtain⟨m,hm,hu,_⟩:=h.step g1 g4;obtain⟨m',hm',hu',_⟩:=h.step g1' g4';rw[g5,hj] at hm; cases hm;rw[g5',hj] at hm'; cases hm';have hkk:k=k':=(hu hk).1.symm.trans (hu' hk).1;subst hkk;rw[g1] at g1'; cases g1';have hA:=ih (by simpa using hc) w1 w1' g1 g2
  obtain⟨m1,m2⟩:=gu g4;obtain⟨m3,m4⟩:=gu g4'
  suffices e=e' by rw[hA,<-m2,<-m4,this,List.concat_eq_append]
  -- one entry
  have hj1:j≠1:=g5▸(hu hk).2.1;have hl:=h.cL _ _ hj;rw[h.one _ _ hj hk hj1,aH (by have:=(h.num _ _ hj).1; omega)] at hl
  have hw:=zA h.jo.jv k j;have hd:aX t.ae k=d:=by simp[aX,g1]
  rw[hd] at hw;have h1:pP d.aM j<=1:=by omega
  unfold pP at h1;obtain⟨x,hx⟩:=bE m1;obtain⟨y,hy⟩:=bE m3;obtain⟨B,C,hBC⟩:=List.append_of_mem m1;rw[hBC] at h1 m3;simp only[List.countP_append,jV,g5,iX,aE] at h1;rcases bm.1 m3 with hm|hm
  ·have:0<B.countP (fun z=>z.an==j):=List.countP_pos_iff.2 ⟨e',hm,by simp[g5']⟩
   omega
  ·rcases bC.1 hm with hm|hm
   ·exact hm.symm
   ·have:0<C.countP (fun z=>z.an==j):=List.countP_pos_iff.2 ⟨e',hm,by simp[g5']⟩
    omega
def cr.M8(h:cr t cE 0){L:List Bytes}{j:Int}(hw:Way t.ae 1 L j):L.length<=12:=by
 obtain⟨r,r1,r2,_⟩:=h.root;rcases List.eq_nil_or_concat L with rfl|⟨A,s,rfl⟩
 ·simp
 ·rw[List.concat_eq_append] at hw ⊢;obtain⟨k,w1,d,e,g1,g2,_,g4,_⟩:=lk.1 hw;have e1:=h.uF w1 r1 r2 g1 g2;obtain⟨d1,d2⟩:=h.deep _ _ g1 g2
  have:cE k≠12:=fun hh=>by
   have:=(gu g4).1;rw[d2 hh] at this; cases this
  have:=h.zB;simp; omega
end
section
variable {t:Tree} {cE:Int->Nat} {f:Int} {s:Bytes} {to:Int} {nm:Bytes} {dF dT m:Node} {e:fp}
def sx.step(h:cr t cE 0)(k:sx t cE f s to nm dF dT m e){i:Int}{d:Node}{c:Bytes}{e':fp}(hd:find t.ae i=some d)(hk:d.kind=2)(he:eG d.aM c=some e')(h1:¬(i=f/\c=s))(h2:¬(i=to/\c=nm)):∃d',find (jQ t f s to nm e.an (dB dT.aM nm)).ae i=some d'/\d'.kind=2/\eG d'.aM c=some e':=by
 rw[tE h k];obtain⟨b1,b2⟩:=k.bL h
 by_cases i1:i=to
 ·subst i1;rw[k.hT] at hd; cases hd;refine⟨_,bc rfl,k.kT,?_⟩;have hc:c≠nm:=fun hh=>h2 ⟨rfl,hh⟩
  simp only;rw[yK b1 (e:=⟨nm,e.an,t.aj⟩) b2];simp only[hc,aw];rw[qx hc];split
  ·rename_i hif;have hcs:c≠s:=fun hh=>h1 ⟨hif,hh⟩
   rw[qx hcs]; exact he
  ·exact he
 rw[aH i1]
 by_cases i2:i=f
 ·subst i2;rw[k.hF] at hd; cases hd;have hcs:c≠s:=fun hh=>h1 ⟨rfl,hh⟩
  exact⟨_,bc rfl,k.kF,by simp only; rw[qx hcs]; exact he⟩
 rw[aH i2]
 by_cases i3:i=e.an
 ·subst i3;rw[k.hm] at hd; cases hd;exact⟨_,bc rfl,by simp[hk],by simp only[hk,aE]; exact he⟩
 rw[aH i3]
 by_cases i4:i=dB dT.aM nm
 ·exfalso;cases hfr:eG dT.aM nm with
  |none =>
   simp only[dB,hfr] at i4;have:=(h.num _ _ hd).1; omega
  |some e2 =>
   simp only[dB,hfr] at i4;obtain⟨_,y,y1,y2,_⟩:=k.IV e2 hfr;rw[i4,y1] at hd; cases hd;rw[y2] at he; cases he
 ·rw[aH i4];exact⟨d,hd,hk,he⟩
def sx.way(h:cr t cE 0)(k:sx t cE f s to nm dF dT m e):∀ {L:List Bytes} {i j:Int},Way t.ae i L j->(∀A c B i',L=A++c::B->Way t.ae i A i'->¬(i'=f/\c=s)/\¬(i'=to/\c=nm))->Way (jQ t f s to nm e.an (dB dT.aM nm)).ae i L j
 | [],_,_,hw,_=>hw
 |c::r,i,j,⟨d,e',h1,h2,h3,h4,h5⟩,hno=>by
  obtain⟨n1,n2⟩:=hno [] c r i rfl rfl;obtain⟨d',g1,g2,g4⟩:=k.step h h1 h2 h4 n1 n2;refine⟨d',e',g1,g2,h3,g4,k.way h h5 fun A c' B i' hL hA=>hno (c::A) c' B i' (by rw[hL]; rfl) ⟨d,e',h1,h2,h3,h4,hA⟩⟩
def sx.IW(k:sx t cE f s to nm dF dT m e){e2:fp}(he:eG dT.aM nm=some e2){B:List Bytes}{j:Int}(hw:Way t.ae e2.an B j):j=e2.an:=by
 cases B with
 |nil=>exact Eq.symm hw
 |cons b B =>
  obtain⟨d,e',h1,_,_,h4,_⟩:=hw;obtain⟨_,y,y1,y2,_⟩:=k.IV e2 he;rw[y1] at h1; cases h1;rw[y2] at h4; cases h4
def sx.V9(h:cr t cE 0)(k:sx t cE f s to nm dF dT m e){L:List Bytes}(hw:Way t.ae 1 L f):Way (jQ t f s to nm e.an (dB dT.aM nm)).ae 1 L f:=by
 refine k.way h hw fun A c B i' hL hA=>⟨?_,?_⟩
 ·rintro⟨rfl,rfl⟩;rw[hL] at hw;obtain⟨k',w1,w2⟩:=lk.1 hw;have:=An hA w1; subst this;have:=h.uF w2 k.hF k.kF k.hF k.kF;simp at this
 ·rintro⟨rfl,rfl⟩;rw[hL] at hw;obtain⟨k',w1,d,e2,g1,_,_,g4,g5⟩:=lk.1 hw;have:=An hA w1; subst this;rw[k.hT] at g1; cases g1;obtain⟨_,y,_,_,_,y5,_⟩:=k.IV e2 g4;exact y5 (k.IW g4 g5).symm
def sx.agU(h:cr t cE 0)(k:sx t cE f s to nm dF dT m e){L:List Bytes}(hw:Way t.ae 1 L to):Way (jQ t f s to nm e.an (dB dT.aM nm)).ae 1 L to:=by
 refine k.way h hw fun A c B i' hL hA=>⟨?_,?_⟩
 ·rintro⟨rfl,rfl⟩;rw[hL] at hw;obtain⟨k',w1,d,e2,g1,_,_,g4,g5⟩:=lk.1 hw;have:=An hA w1; subst this;rw[k.hF] at g1; cases g1;rw[k.he] at g4; cases g4;cases B with
  |nil=>exact k.ne g5
  |cons b B =>
   have hmk:m.kind=2:=by
    obtain⟨d,_,q1,q2,_⟩:=g5;rw[k.hm] at q1; injection q1 with q1; rw[q1]; exact q2
   have:=h.Br g5 (cr.iY (t:=t) e.an) k.hT k.kT;rw[k.loop hmk] at this; cases this
 ·rintro⟨rfl,rfl⟩;rw[hL] at hw;obtain⟨k',w1,d,e2,g1,_,_,g4,g5⟩:=lk.1 hw;have:=An hA w1; subst this;rw[k.hT] at g1; cases g1;obtain⟨_,y,_,_,_,_,y6⟩:=k.IV e2 g4;exact y6 (k.IW g4 g5).symm
def sx.agT(h:cr t cE 0)(k:sx t cE f s to nm dF dT m e)(hm:m.kind=2){L:List Bytes}{z:Int}(hw:Way t.ae e.an L z):Way (jQ t f s to nm e.an (dB dT.aM nm)).ae e.an L z/\z≠f/\z≠to/\z≠dB dT.aM nm:=by
 have hstep:=h.step k.hF k.he;obtain⟨m',hm',hu,_⟩:=hstep;rw[k.hm] at hm'; cases hm';obtain⟨_,hx1,hdx⟩:=hu hm
 have nf:∀ {A:List Bytes},¬Way t.ae e.an A f:=fun hA=>by
  have:=h.uF hA k.hm hm k.hF k.kF;omega
 have nt:∀ {A:List Bytes},¬Way t.ae e.an A to:=fun hA=>by
  have:=h.Br hA (cr.iY (t:=t) e.an) k.hT k.kT;rw[k.loop hm] at this; cases this
 refine⟨k.way h hw fun A c B i' hL hA=>⟨?_,?_⟩,?_,?_,?_⟩
 ·rintro⟨rfl,_⟩; exact nf hA
 ·rintro⟨rfl,_⟩; exact nt hA
 ·rintro rfl; exact nf hw
 ·rintro rfl; exact nt hw
 ·intro hz;cases hfr:eG dT.aM nm with
  |none =>
   simp only[dB,hfr] at hz;obtain⟨n,hn,_⟩:=h.Cy hw k.hm (ry hm);have:=(h.num _ _ hn).1; omega
  |some e2 =>
   simp only[dB,hfr] at hz;obtain⟨q1,y,y1,_,y3,_⟩:=k.IV e2 hfr;have yk:=y3.1 hm;rcases List.eq_nil_or_concat L with rfl|⟨A,c,rfl⟩
   ·exact q1 (hz.symm.trans (Eq.symm hw))
   ·rw[List.concat_eq_append] at hw;obtain⟨i',w1,d,e',g1,g2,_,g4,g5⟩:=lk.1 hw;have g5:e'.an=z:=g5;obtain⟨n,hn,hu2,_⟩:=h.step g1 g4;obtain⟨n',hn',hu3,_⟩:=h.step k.hT hfr;rw[g5,hz,y1] at hn; cases hn;rw[y1] at hn'; cases hn';have:i'=to:=(hu2 yk).1.symm.trans (hu3 yk).1;subst this;exact nt w1
end
section
attribute [local irreducible] eV fZ je gK eo kr ar aU cA bH
def Zq(l:List fp)(s:Bytes)(a b:Int):l.map fW++[.agg [.str s,aF a,aF b]]=(l++[fp.mk s a b]).map fW:=by simp[fW,fm]
def sY(an:Int):List Node->Nat->Int
 | [],_ => -1
 |n::r,i=>if n.an=an then i else sY an r (i+1)
def afE{t:Tree}{an:Int}(ht:t.ae.length<=100000){k:List K}{R:Int->Option (ag×aG)}
  (hx:∀e,kr (ar bN) [.tmp 4] 0 k ⟨.exit 0,e,[bT (aJ t)]⟩=R (-1)) (hr:∀(i:Nat),kr (ar bN) [.tmp 4] 0 k ⟨.ret,[(4,aF i)],[bT (aJ t)]⟩=R i) :
  ∀(l pre:List Node),t.ae=pre++l->eV (ar bN) [.tmp 4] 0 k (.loop [1,2,5] afj) [(1,aF an),(2,b9 0),(5,aF pre.length)] [bT (aJ t)]=R (sY an l pre.length):=by
 intro l;induction l with
 |nil =>
  intro pre h;rw[bt];simp only[E34,aJ,aY,gU h,EN,seval];exact hx _
 |cons n r ih =>
  intro pre h;rw[bt];have dQ:pre.length+1<=100000:=by rw[h] at ht; simp at ht; omega
  have hw:=vY pre n;simp only[E34,aJ,aY,gd h,fc h,aI,EN,seval];refine bp (fun hb=>?_) (fun hb=>?_)
  ·have hb:n.an=an:=by simpa using hb
   simp only[E34,EN,seval];rw[sY,bc hb];exact hr _
  ·have hb:¬n.an=an:=by simpa using hb
   simp only[E34,hw,EN,seval];rw[sY,aH hb];have:=ih (pre++[n]) (by rw[h]; simp)
   simp only[aD,au,av] at this ⊢;exact this
def c34(t:Tree)(an:Int)(ht:t.ae.length<=100000):ar bN 34 [bq t,aF an] []=some (aF (sY an t.ae 0),[]):=by
 refine az ?_;simp only[akk,E34,bq,EN,seval];exact afE (R:=fun z=>some (aF z,[])) ht (fun e=>by simp only[E34,EN,seval]) (fun i=>by simp only[E34,EN,seval]) t.ae [] rfl
def k34(ae:List Node)(next aj an:Int)(h:ae.length<=100000)(M:aG):aU (ar bN) 34 [.agg [aY ae,aF next,aF aj],aF an] M=some (aF (sY an ae 0),M) :=
 cO (c34 ⟨ae,next,aj⟩ an h) M
def Af(an:Int):∀(l:List Node)(i:Nat),(find l an=none/\sY an l i = -1)\/∃m n,l[m]?=some n/\find l an=some n/\sY an l i=((i+m:Nat):Int)
 | [],_ => .inl ⟨rfl,rfl⟩
 |n::r,i=>by
  unfold find sY
  by_cases h:n.an=an
  ·exact .inr ⟨0,n,rfl,by simp[h],by simp[h]⟩
  ·rcases Af an r (i+1) with ⟨h1,h2⟩|⟨m,n',h1,h2,h3⟩
   ·exact .inl ⟨by simp[h]; simpa[find] using h1,by simp[h,h2]⟩
   ·exact .inr ⟨m+1,n',by simpa using h1,by simp[h]; simpa[find] using h2,by simp[h,h3]; omega⟩
def c18(t:Tree)(an:Int)(ht:t.ae.length<=100000):ar bN 18 [bq t,aF an] []=some (.tuple [bG ((find t.ae an).getD Node.zero),.bool (find t.ae an).isSome],[]):=by
 refine az ?_;simp only[akb,E18,bq,aJ,k34,ht,EN,seval];rcases Af an t.ae 0 with ⟨h1,h2⟩|⟨m,n,h1,h2,h3⟩
 ·rw[h2];simp only[E18,h1,EN,seval];rfl
 ·rw[h3];simp only[E18,h1,h2,aY,aI,EN,seval];rfl
def zN(ae:List Node)(next aj an:Int)(h:ae.length<=100000)(M:aG):aU (ar bN) 18 [.agg [aY ae,aF next,aF aj],aF an] M=some (.tuple [bG ((find ae an).getD Node.zero),.bool (find ae an).isSome],M) :=
 cO (c18 ⟨ae,next,aj⟩ an h) M
def apc(t:Tree)(an:Int)(ht:t.ae.length<=100000):ar bN 179 [bq t,aF an] []=some (.tuple [bG (gr t.ae an).1,aF (gr t.ae an).2],[]):=by
 refine az ?_;simp only[abf,Wr,bq,aJ,zN,ht,bG,aI,EN,seval];unfold gr;cases hf:find t.ae an with
 |none=>simp only[Wr,Option.isSome,EN,seval]; first|done|rfl
 |some n =>
  simp only[Wr,Option.isSome,bh,EN,seval]
  repeat' ((first|apply bp|apply bR|apply dE)<;>intro hb<;>simp only[hb,EN,Wr,seval])
  all_goals simp_all [Node.zero]
def XF(ae:List Node)(next aj an:Int)(h:ae.length<=100000)(M:aG):aU (ar bN) 179 [.agg [aY ae,aF next,aF aj],aF an] M=some (.tuple [bG (gr ae an).1,aF (gr ae an).2],M) :=
 cO (apc ⟨ae,next,aj⟩ an h) M
def sS(s:Bytes):List fp->Nat->Int
 | [],_ => -1
 |n::r,i=>if n.name=s then i else sS s r (i+1)
def sV(s:Bytes):∀(l:List fp)(i:Nat),(eG l s=none/\sS s l i = -1)\/∃m n,l[m]?=some n/\eG l s=some n/\sS s l i=((i+m:Nat):Int)
 | [],_ => .inl ⟨rfl,rfl⟩
 |n::r,i=>by
  unfold eG sS
  by_cases h:n.name=s
  ·exact .inr ⟨0,n,rfl,by simp[h],by simp[h]⟩
  ·rcases sV s r (i+1) with ⟨h1,h2⟩|⟨m,n',h1,h2,h3⟩
   ·exact .inl ⟨by simp[h]; simpa[eG] using h1,by simp[h,h2]⟩
   ·exact .inr ⟨m+1,n',by simpa using h1,by simp[h]; simpa[eG] using h2,by simp[h,h3]; omega⟩
def YV{t:Node}{s:Bytes}(ht:t.aM.length<=100000){k:List K}{R:Int->Option (ag×aG)}
  (hx:∀e,kr (ar bN) [.tmp 4] 0 k ⟨.exit 0,e,[bT (aI t)]⟩=R (-1)) (hr:∀(i:Nat),kr (ar bN) [.tmp 4] 0 k ⟨.ret,[(4,aF i)],[bT (aI t)]⟩=R i) :
  ∀(l pre:List fp),t.aM=pre++l->eV (ar bN) [.tmp 4] 0 k (.loop [1,2,5] Ya) [(1,.str s),(2,b9 0),(5,aF pre.length)] [bT (aI t)]=R (sS s l pre.length):=by
 intro l;induction l with
 |nil =>
  intro pre h;rw[bt];simp only[JS,aI,ic,gU h,EN,seval];exact hx _
 |cons n r ih =>
  intro pre h;rw[bt];have dQ:pre.length+1<=100000:=by rw[h] at ht; simp at ht; omega
  have hw:=vY pre n;simp only[JS,aI,ic,gd h,fc h,fm,EN,seval];refine bp (fun hb=>?_) (fun hb=>?_)
  ·have hb:n.name=s:=by simpa using hb
   simp only[JS,EN,seval];rw[sS,bc hb];exact hr _
  ·have hb:¬n.name=s:=by simpa using hb
   simp only[JS,hw,EN,seval];rw[sS,aH hb];have:=ih (pre++[n]) (by rw[h]; simp)
   simp only[aD,au,av] at this ⊢;exact this
def apd(t:Node)(s:Bytes)(ht:t.aM.length<=100000):ar bN 180 [bG t,.str s] []=some (aF (sS s t.aM 0),[]):=by
 refine az ?_;simp only[abg,JS,bG,EN,seval];exact YV (R:=fun z=>some (aF z,[])) ht (fun e=>by simp only[JS,EN,seval]) (fun i=>by simp only[JS,EN,seval]) t.aM [] rfl
def ad7(a b c:Int)(d:Bytes)(e:List fp)(u:Int)(s:Bytes)(h:e.length<=100000)(M:aG):aU (ar bN) 180 [.agg [aF a,aF b,aF c,cR d,ic e,aF u],.str s] M=some (aF (sS s e 0),M) :=
 cO (apd ⟨a,b,c,d,e,u⟩ s h) M
def afJ{s:Bytes}(hs:s.length<=100000){k:List K}{R:Bool->Option (ag×aG)}
  (hx:∀e,kr (ar bN) [.tmp 2] 0 k ⟨.exit 0,e,[]⟩=R true) (hr:kr (ar bN) [.tmp 2] 0 k ⟨.ret,[(2,.bool false)],[]⟩=R false) :
  ∀(l pre:Bytes),s=pre++l->eV (ar bN) [.tmp 2] 0 k (.loop [0,3] afB) [(0,.str s),(3,aF pre.length)] []=R (l.all sk):=by
 intro l;induction l with
 |nil =>
  intro pre h;rw[bt];simp only[E97,gU h,EN,seval];exact hx _
 |cons n r ih =>
  intro pre h;rw[bt];have dQ:pre.length+1<=100000:=by rw[h] at hs; simp at hs; omega
  have hw:=vY pre n;have hi:=ih (pre++[n]) (by rw[h]; simp)
  simp only[aD,au,av] at hi;simp only[E97,gd h,fc h,EN,seval]
  repeat' ((first|apply bp|apply bR|apply dE)<;>intro hb<;>simp only[hb,EN,E97,fc h,hw,seval])
  all_goals try simp only[E97,EN,seval]
  all_goals first
   |(refine hr.trans ?_; congr 1; symm; simp_all [sk]; done)
   |(refine hi.trans ?_; congr 1; symm; simp_all [sk]; done)
def c97(s:Bytes)(hs:s.length<=100000):ar bN 97 [.str s] []=some (.bool (eh s),[]):=by
 refine az ?_;simp only[akG,E97,EN,seval];have hl:=fun k hx hr=>afJ (k:=k) (R:=fun b=>some (ag.bool b,[])) hs hx hr s [] rfl
 repeat' ((first|apply bp|apply bR|apply dE)<;>intro hb<;>simp only[hb,EN,E97,seval])
 all_goals first
  |(simp_all [eh]; done)
  |(refine(hl _ (fun e=>by simp only[E97,EN,seval]) (by simp only[E97,EN,seval])).trans ?_; simp_all [eh]; done)
def k97 s hs:=cP (c97 s hs)
def aog(t:Tree)(an:Int)(s:Bytes)(ht:Small t)(hs:s.length<=100000):ar bN 108 [bq t,aF an,.str s] []=some (.tuple [aF (dX t.ae an s).1,aF (dX t.ae an s).2],[]):=by
 refine az ?_;have hd:=tg ht an;simp only[aaO,JO,bq,aJ,XF,ht.ae,bG,aI,EN,seval];unfold dX;refine bp (fun hb=>?_) (fun hb=>?_)
 ·simp only[JO,EN,seval];simp_all
 ·simp only[JO,k97,hs,EN,seval];refine bp (fun hb'=>?_) (fun hb'=>?_)
  ·simp only[JO,EN,seval];simp_all
  ·simp only[JO,ad7,hd,EN,seval];rcases sV s (gr t.ae an).1.aM 0 with ⟨h1,h2⟩|⟨m,n,h1,h2,h3⟩
   ·rw[h2];simp only[JO,EN,seval];simp_all
   ·rw[h3];simp only[JO,h1,ic,fm,EN,seval];simp_all
def XB(ae:List Node)(next aj an:Int)(s:Bytes)(ht:Small ⟨ae,next,aj⟩)(hs:s.length<=100000)(M:aG):aU (ar bN) 108 [.agg [aY ae,aF next,aF aj],aF an,.str s] M =
  some (.tuple [aF (dX ae an s).1,aF (dX ae an s).2],M):=cO (aog ⟨ae,next,aj⟩ an s ht hs) M
def YT{t:Tree}{n:Node}(ht:t.ae.length<=100000){k:List K}{R:List Node->Bool->Option (ag×aG)}
  (hx:∀out done v e,out.length<=300000->kr (ar bN) [.dC 4 3] 0 k ⟨.exit 0,[(2,b9 0),(3,b9 1),(4,b9 2),(5,.slice (.own 3) (out.map bG)),(6,.bool done),(7,v),(12,e)],[bT (aJ t),bT (aI n),.cells zT,.tick 6 out.length]⟩=R out done) :
  ∀(l pre out:List Node)(done:Bool),t.ae=pre++l->out.length+2*l.length<=300000->eV (ar bN) [.dC 4 3] 0 k (.loop [2,3,4,5,6,7] X5) [(2,b9 0),(3,b9 1),(4,b9 2),(5,.slice (.own 3) (out.map bG)),(6,.bool done),(7,aF pre.length)] [bT (aJ t),bT (aI n),.cells zT,.tick 6 out.length]=R (nC n l out done).1 (nC n l out done).2:=by
 intro l;induction l with
 |nil =>
  intro pre out done h ho;rw[bt];simp only[JQ,aJ,aY,gU h,EN,seval];exact hx _ _ _ _ (by simp at ho; omega)
 |cons m r ih =>
  intro pre out done h ho;rw[bt];have dQ:pre.length+1<=100000:=by rw[h] at ht; simp at ht; omega
  have hw:=vY pre m;have hi:=fun out done ho=>ih (pre++[m]) out done (by rw[h]; simp) ho
  simp only[au] at ho;have r1:cu (out.length+1) 80=True:=rb;have r2:cu (out.length+1+1) 80=True:=rb;rw[nC];simp only[JQ,aJ,aY,gd h,fc h,aI,EN,seval]
  repeat' ((first|apply bp|apply bR|apply dE)<;>intro hb<;>simp only[hb,EN,JQ,fc h,hw,r1,r2,aI,seval])
  all_goals try simp only[JQ,fc h,hw,r1,r2,aI,EN,seval]
  all_goals first
   |(refine iq ?_ ((hi (out++[n]++[m]) true (by simp; omega)).trans ?_)
     ·simp only[bu,aP,a8,aD,au,av]; rfl
     ·clear hi ih hx hw h; simp_all; done)
   |(refine iq ?_ ((hi (out++[n]) true (by simp; omega)).trans ?_)
     ·simp only[bu,aP,a8,aD,au,av]; rfl
     ·clear hi ih hx hw h; simp_all; done)
   |(refine iq ?_ ((hi (out++[m]) done (by simp; omega)).trans ?_)
     ·simp only[bu,aP,a8,aD,au,av]; rfl
     ·clear hi ih hx hw h; simp_all; done)
   |(refine iq ?_ ((hi out done (by omega)).trans ?_)
     ·simp only[bu,aP,a8,aD,au,av]; rfl
     ·clear hi ih hx hw h; simp_all; done)
def ao8(t:Tree)(n:Node)(ht:t.ae.length<=100000):ar bN 175 [bq t,bG n] []=some (bq ⟨eu t.ae n,t.next,t.aj⟩,[]):=by
 refine az ?_;simp only[QX,JQ,bq,bG,EN,seval];refine YT (R:=fun out done=>some (bq ⟨out++(if done then [] else [n]),t.next,t.aj⟩,[])) ht (fun out done v e ho=>?_) t.ae [] [] false rfl (by simp; omega)
 have r1:cu (out.length+1) 80=True:=rb;cases done
 ·simp only[JQ,r1,bq,aJ,zT,aI,EN,seval];simp[aY,bG,aI]
 ·simp only[JQ,r1,bq,aJ,zT,aI,EN,seval]
  try simp[aY]
def GA(ae:List Node)(next aj a b c:Int)(d:Bytes)(e:List fp)(u:Int)(h:ae.length<=100000)(M:aG):aU (ar bN) 175 [.agg [aY ae,aF next,aF aj],.agg [aF a,aF b,aF c,cR d,ic e,aF u]] M =
  some (.agg [aY (eu ae ⟨a,b,c,d,e,u⟩),aF next,aF aj],M):=cO (ao8 ⟨ae,next,aj⟩ ⟨a,b,c,d,e,u⟩ h) M
def Y7{t:Tree}{an:Int}(ht:t.ae.length<=100000){k:List K}{R:List Node->Option (ag×aG)}
  (hx:∀out v e,out.length<=300000->kr (ar bN) [.dC 4 3] 0 k ⟨.exit 0,[(1,aF an),(2,b9 0),(4,b9 1),(5,.slice (.own 2) (out.map bG)),(6,v),(11,e)],[bT (aJ t),.cells zT,.tick 6 out.length]⟩=R out) :
  ∀(l pre out:List Node),t.ae=pre++l->out.length+l.length<=150000->eV (ar bN) [.dC 4 3] 0 k (.loop [1,2,4,5,6] Yr) [(1,aF an),(2,b9 0),(4,b9 1),(5,.slice (.own 2) (out.map bG)),(6,aF pre.length)] [bT (aJ t),.cells zT,.tick 6 out.length]=R (out++fG l an):=by
 intro l;induction l with
 |nil =>
  intro pre out h ho;rw[bt];simp only[PM,aJ,aY,gU h,EN,seval];refine(hx _ _ _ (by simp at ho; omega)).trans (by simp[fG])
 |cons m r ih =>
  intro pre out h ho;rw[bt];have dQ:pre.length+1<=100000:=by rw[h] at ht; simp at ht; omega
  have hw:=vY pre m;have hi:=fun out ho=>ih (pre++[m]) out (by rw[h]; simp) ho
  simp only[au] at ho;have r1:cu (out.length+1) 80=True:=rb;simp only[PM,aJ,aY,gd h,fc h,aI,EN,seval]
  repeat' ((first|apply bp|apply bR|apply dE)<;>intro hb<;>simp only[hb,EN,PM,fc h,hw,r1,aI,seval])
  all_goals first
   |(refine iq ?_ ((hi (out++[m]) (by simp; omega)).trans ?_)
     ·simp only[bu,aP,a8,aD,au,av]; rfl
     ·clear hi ih hx hw h; simp_all[fG]; done)
   |(refine iq ?_ ((hi out (by omega)).trans ?_)
     ·simp only[bu,aP,a8,aD,au,av]; rfl
     ·clear hi ih hx hw h; simp_all[fG]; done)
def apY(t:Tree)(an:Int)(ht:t.ae.length<=100000):ar bN 250 [bq t,aF an] []=some (bq ⟨fG t.ae an,t.next,t.aj⟩,[]):=by
 refine az ?_;simp only[Q5,PM,bq,EN,seval];refine(Y7 (R:=fun out=>some (bq ⟨out,t.next,t.aj⟩,[])) ht (fun out v e ho=>?_) t.ae [] [] rfl (by simp; omega)).trans (by simp[bq])
 simp only[PM,bq,aJ,zT,EN,seval]
 try simp[aY]
def alu(ae:List Node)(next aj an:Int)(h:ae.length<=100000)(M:aG):aU (ar bN) 250 [.agg [aY ae,aF next,aF aj],aF an] M =
  some (.agg [aY (fG ae an),aF next,aF aj],M):=cO (apY ⟨ae,next,aj⟩ an h) M
def YU{T:List ag}{n:Node}{s:Bytes}(hn:n.aM.length<=100000){k:List K}{R:List fp->Option (ag×aG)}
  (hx:∀out v e,out.length<=300000->kr (ar bN) [.dC 6 3] 0 k ⟨.exit 0,[(2,.str s),(3,b9 0),(6,b9 1),(7,b9 2),(9,.slice (.own 3) (out.map fW)),(10,v),(21,e)],[.cells T,.cells zT,bT (aI n),.tick 3 out.length]⟩=R out)
  (hT:∀B M,T.map (ag.kE B M)=T) :
  ∀(l pre out:List fp),n.aM=pre++l->out.length+l.length<=150000->eV (ar bN) [.dC 6 3] 0 k (.loop [2,3,6,7,9,10] X9) [(2,.str s),(3,b9 0),(6,b9 1),(7,b9 2),(9,.slice (.own 3) (out.map fW)),(10,aF pre.length)] [.cells T,.cells zT,bT (aI n),.tick 3 out.length]=R (out++ga l s):=by
 intro l;induction l with
 |nil =>
  intro pre out h ho;rw[bt];simp only[JR,aI,ic,gU h,EN,seval];refine(hx _ _ _ (by simp at ho; omega)).trans (by simp[ga])
 |cons m r ih =>
  intro pre out h ho;rw[bt];have dQ:pre.length+1<=100000:=by rw[h] at hn; simp at hn; omega
  have hw:=vY pre m;have hi:=fun out ho=>ih (pre++[m]) out (by rw[h]; simp) ho
  simp only[au] at ho;have r1:cu (out.length+1) 32=True:=rb;simp only[JR,aI,ic,gd h,fc h,fm,hT,zT,EN,seval]
  repeat' ((first|apply bp|apply bR|apply dE)<;>intro hb<;>simp only[hb,EN,JR,fc h,hw,r1,fm,hT,zT,seval])
  all_goals first
   |(refine iq ?_ ((hi (out++[m]) (by simp; omega)).trans ?_)
     ·simp only[bu,aP,a8,aD,au,av]; rfl
     ·clear hi ih hx hw h hT; simp_all[ga]; done)
   |(refine iq ?_ ((hi out (by omega)).trans ?_)
     ·simp only[bu,aP,a8,aD,au,av]; rfl
     ·clear hi ih hx hw h hT; simp_all[ga]; done)
def EK{t:Tree}(hs:Small t)(an:Int):((find t.ae an).getD Node.zero).aM.length<=100000:=by
 cases h:find t.ae an with
 |none=>simp[Node.zero]
 |some n=>exact hs.aM n (bP h).1
def apb(t:Tree)(an:Int)(s:Bytes)(ht:Small t):ar bN 178 [bq t,aF an,.str s] []=some (bq ⟨cK t.ae an s,t.next,t.aj⟩,[]):=by
 refine az ?_;have hd:=EK ht an;unfold cK;simp only[QY,JR,bq,aJ,zN,ht.ae,bG,EN,seval];generalize (find t.ae an).getD Node.zero=n at hd ⊢;simp only[JR,aI,EN,seval];refine(YU (R:=fun out=>some (bq ⟨eu t.ae { n with aM:=out },t.next,t.aj⟩,[])) hd (fun out v e ho=>?_) (fun B M=>by simp only[JR,EN,seval]) n.aM [] [] rfl (by simp; omega)).trans (by simp[bq,aJ])
 simp only[JR,zT,aI,GA,ht.ae,EN,seval];simp[bq,aJ]
def LX{X:Option (ag×aG)}{v:ag×aG}(h:∃r,r=v/\X=some r):X=some v:=by
 obtain⟨_,rfl,h⟩:=h;exact h
def ao4(a b:List fp)(ha:a.length<=100000):ar bN 171 [ic a,ic b] []=some (.bool (decide (a=b)),[]):=by
 refine az ?_;cases h0:(a.length:Int) != (b.length:Int)
 ·have hl:a.length=b.length:=by simp at h0; omega
  simp only[QV,PJ,h0,EW,seval];refine LX (gH (xs:=a) (by omega) (fun m (_:Unit)=>a.take m=b.take m) (fun _ i=>[(0,ic a),(1,ic b),(5,aF i)]) (fun _=>[]) (fun r=>r=(.bool (decide (a=b)),[])) (fun _ hI=>?_) (fun pre x post _ e hx cz hw h0 hm hI hi=>?_) () rfl)
  ·refine⟨_,rfl,?_⟩;rw[jM (Jr hl hI)];simp only[PJ,bw,EW,seval]
  ·have hp:=(aq.1 hx).1;obtain⟨y,hy⟩:∃y,b[pre.length]?=some y:=⟨_,ai (by omega)⟩
   cases h1:decide (x=y)
   ·have hd:decide (a=b)=false:=kc fun e=>of_decide_eq_false h1 (by rw[e,hy] at hx; injection hx with hx; exact hx.symm)
    refine⟨_,rfl,?_⟩;rw[hd];simp only[PJ,cz,hx,hy,h0,h1,fW,Qr,PZ,EW,seval]
   ·have i1:=hi () (FP hI hx (by rw[hy,fA h1]))
    simp only[PJ,cz,hx,hy,hw,h0,h1,fW,Qr,PZ,EW,seval];exact i1
 ·have hd:decide (a=b)=false:=kc fun e=>by rw[e] at h0; simp at h0
  rw[hd];simp only[QV,PJ,h0,EW,seval]
def ard a b ha:=cP (ao4 a b ha)
def c96(x y:Node)(hx:x.aM.length<=100000):ar bN 96 [.agg (aI x),.agg (aI y)] []=some (.bool (decide (x=y)),[]):=by
 rw[ach];have hk:=fun M=>ard x.aM y.aM hx M
 refine az ?_;simp only[akF,E96,bG,aI,EN,seval]
 repeat' ((first|apply bp|apply bR|apply dE)<;>intro hb<;>simp only[hb,EN,E96,hk,uX,seval])
 all_goals clear hk
 all_goals simp_all [bne]
def k96 x y hx:=cP (c96 x y hx)
def ao3(a b:List Node)(ha:a.length<=100000)(he:∀n,n∈a->n.aM.length<=100000):ar bN 170 [aY a,aY b] []=some (.bool (decide (a=b)),[]):=by
 refine az ?_;cases h0:(a.length:Int) != (b.length:Int)
 ·have hl:a.length=b.length:=by simp at h0; omega
  simp only[QU,PI,h0,EW,seval];refine LX (gH (xs:=a) (by omega) (fun m (_:Unit)=>a.take m=b.take m) (fun _ i=>[(0,aY a),(1,aY b),(5,aF i)]) (fun _=>[]) (fun r=>r=(.bool (decide (a=b)),[])) (fun _ hI=>?_) (fun pre x post _ e hx cz hw h0 hm hI hi=>?_) () rfl)
  ·refine⟨_,rfl,?_⟩;rw[jM (Jr hl hI)];simp only[PI,bw,EW,seval]
  ·have hp:=(aq.1 hx).1;obtain⟨y,hy⟩:∃y,b[pre.length]?=some y:=⟨_,ai (by omega)⟩
   have q:=fun M=>k96 x y (he x hm) M
   simp only[aI] at q;cases h1:decide (x=y)<;>rw[h1] at q
   ·have hd:decide (a=b)=false:=kc fun e=>of_decide_eq_false h1 (by rw[e,hy] at hx; injection hx with hx; exact hx.symm)
    refine⟨_,rfl,?_⟩;rw[hd];simp only[PI,cz,hx,hy,h0,q,bG,aI,EW,seval]
   ·have i1:=hi () (FP hI hx (by rw[hy,fA h1]))
    simp only[PI,cz,hx,hy,hw,h0,q,bG,aI,EW,seval];exact i1
 ·have hd:decide (a=b)=false:=kc fun e=>by rw[e] at h0; simp at h0
  rw[hd];simp only[QU,PI,h0,EW,seval]
def arc a b ha he:=cP (ao3 a b ha he)
def c95(a b:Tree)(ha:a.ae.length<=100000)(he:∀n,n∈a.ae->n.aM.length<=100000):ar bN 95 [bq a,bq b] []=some (.bool (decide (a=b)),[]):=by
 have hd:decide (a=b)=(a.next==b.next&&(a.aj==b.aj&&decide (a.ae=b.ae))):=by
  obtain⟨a1,a2,a3⟩:=a;obtain⟨b1,b2,b3⟩:=b;rw[eD]; simp; constructor
  ·rintro⟨h1,h2,h3⟩; exact⟨h2,h3,h1⟩
  ·rintro⟨h1,h2,h3⟩; exact⟨h3,h1,h2⟩
 rw[hd];have q:=fun M=>arc a.ae b.ae ha he M
 refine az ?_
 cases h1:a.next==b.next<;>cases h2:a.aj==b.aj <;>
  simp only[akE,E95,h1,h2,q,bq,aJ,c9,dw,dG,EW,seval]
def k95(a b:Tree)(ha:a.ae.length<=100000)(he:∀n,n∈a.ae->n.aM.length<=100000)(M:aG):aU (ar bN) 95 [.agg [aY a.ae,aF a.next,aF a.aj],.agg [aY b.ae,aF b.next,aF b.aj]] M=some (.bool (decide (a=b)),M):=cO (c95 a b ha he) M
end
def zK{l:List Node}(h:mG l){i j:Nat}{n m:Node}(hi:l[i]?=some n)(hj:l[j]?=some m)(e:n.an=m.an):i=j:=by
 obtain⟨i1,i2⟩:=aq.1 hi;obtain⟨j1,j2⟩:=aq.1 hj;have hp:=bS.1 h;rcases gX i j with cz|rfl|cz
 ·have:=hp i j i1 j1 cz; rw[i2,j2] at this; omega
 ·rfl
 ·have:=hp j i j1 i1 cz; rw[i2,j2] at this; omega
def xk{s:gh}(hs:mG s.now.ae)(hl:s.since.length=s.now.ae.length)(T:Int)(n:Node):(∃(j:Nat),s.now.ae[j]?=some n/\s.since[j]?=some (qU s T n))\/(find s.now.ae n.an≠some n/\qU s T n=T):=by
 unfold qU;rcases zp hs n.an with ⟨_,h2,h3,h4⟩|⟨_,h2,h3⟩
 ·by_cases e:n=aX s.now.ae n.an
  ·left;have hj:=(aq.1 h3).1;refine⟨_,by rw[h3,<-e],?_⟩
   rw[bc (by rw[h2]; simp[<-e])]
   rw[kx,ai (by omega)]; rfl
  ·right;rw[aH (by simp[e]),h4]
   exact⟨fun hh=>e (by injection hh with hh; exact hh.symm),rfl⟩
 ·right;rw[h3,aH (by rw[h2]; simp)]
  simp
def BR{t:Tree}{tk:List jm}{c:Int}:∀(l:List Node)(y:List Int)(n:Node)(x:Int),l.length=y.length->ja t tk c (l++[n]) (y++[x])=ja t tk c l y++ja t tk c [n] [x]
 | [],[],n,x,_=>by simp[ja]
 |a::l,b::y,n,x,h=>by simp only[aR,ja,BR l y n x (by simpa using h),fx]
def Ar(P:Int->Prop)(s u:gh):Prop:=u=s\/(∃t,Rt t/\u=ki s t)\/(∃i,u=(takeN s i).1)\/∃d,P d/\u=(nV s d).1
def ZL(s:gh)(t:Tree)(c:Int):List pj:=s.dz++ja t s.cf c s.now.ae s.since
section
attribute [local irreducible] eV fZ je gK eo kr ar aU cA bH
def aoq(l:List jm)(a b:Int)(hn:l.length<=100000):ar bN 120 [kO l,aF a,aF b] []=some (.bool (vx l a b),[]):=by
 refine az ?_;simp only[aaQ,acF,EW,seval];refine tD (xs:=l) (by omega) (fun post (_:Unit)=>post.any (tW a b)) (fun _ i=>[(0,kO l),(1,aF a),(2,aF b),(7,aF i)]) (fun _=>[]) (fun z=>some (ag.bool z,([]:aG))) (fun _=>?_) (fun pre x post _ e hx cz hw h0 hm hi=>?_) ()
 ·simp only[acF,bw,List.any_nil,EW,seval]
 ·have i1:=hi ();rw[lr,tW]
  cases h1:decide (a<=x.at')<;>cases h2:decide (x.at'<b) <;>
   simp only[acF,cz,hx,hw,h0,h1,h2,j6,gS,dG,c9,dw,dA,dp,EW,seval]<;>exact i1
def ak0 l a b hn:=cP (aoq l a b hn)
abbrev Jo(s:gh)(t:Tree):aG:=[.cells (bo s),.cells [aY t.ae,.int .i64 t.next,.int .i64 t.aj],.cells [.slice .c0 [],.int .i64 0,.int .i64 0,.int .i64 0,.slice .c0 [],.slice .c0 [],.slice .c0 [],.int .i64 0]]
abbrev Jn(c:Int):Env:=[(2,.ptr 0 0),(3,.ptr 1 0),(4,.ptr 2 0),(5,.int .i64 c)]
section
variable {s:gh} {t:Tree} {Q:ag×aG->Prop} {c:Int}
def Zj(hs:Rt s.now)(ht:Rt t)(hl:s.since.length=s.now.ae.length)(hk:s.cf.length<=16)(hp:s.dz.length<=90000){k:List K}
  (hx:∀z,∃r,Q r/\kr (ar bN) [.dC 4 8] 0 k ⟨.exit 0,Jn c++(6,.slice (.own 3) ((ZL s t c).map kI))::z,Jo s t++[.tick 8 (ZL s t c).length]⟩=some r) :
  ∃r,Q r/\eV (ar bN) [.dC 4 8] 0 k (.loop [2,3,4,5,6,7] aft) (Jn c++[(6,.slice (.own 3) (s.dz.map kI)),(7,aF 0)]) (Jo s t++[.tick 8 s.dz.length])=some r:=by
 have h200:=hs.sz.ae;refine gH (xs:=s.now.ae) (by omega) (fun m (P:List pj)=>P.length<=s.dz.length+m/\P=s.dz++ja t s.cf c (s.now.ae.take m) (s.since.take m)) (fun P i=>Jn c++[(6,.slice (.own 3) (P.map kI)),(7,aF i)]) (fun P=>Jo s t++[.tick 8 P.length]) Q (fun P hP=>?_) (fun pre x post P e hx' cz hw h0 hm hP hi=>?_) s.dz ⟨aC _,by simp[ja]⟩
 ·have hP:=hP.2;rw[bW,<-hl,bW] at hP;have hP:ZL s t c=P:=hP.symm;simp only[hP,Jo,Jn,bo,aR,aZ] at hx ⊢;simp only[Pu,bw,EW,seval];exact hx _
 ·have hlx:=(aq.1 hx').1;obtain⟨y,hy⟩:∃y,s.since[pre.length]?=some y:=⟨_,ai (by omega)⟩
  have qg:=fun M=>zN t.ae t.next t.aj x.an (by have:=ht.sz.ae; omega) M
  have hc:ja t s.cf c [x] [y]=if (!(find t.ae x.an).isSome || !decide (x=(find t.ae x.an).getD Node.zero))&&vx s.cf y c then [⟨y,c,x⟩] else []:=by
   rw[ja,ja,cZ]
   ·rcases zp ht.jo.jv x.an with ⟨_,h2,_,h4⟩|⟨_,h2,h4⟩
    ·have e1:decide (Wh t.ae x.an<0)=false:=by rw[h2]; simp
     rw[e1,h4]; rfl
    ·rw[h2,h4]; simp
   ·rintro _ _ _ _ ⟨⟩
  have hi:=hi (P++ja t s.cf c [x] [y]) ⟨by
   have:=(Bb t s.cf c [x] [y]).1;simp only[aD,au,av] at this ⊢; omega,by
   rw[cC,cC,hx',hy];simp only[lZ];rw[BR _ _ _ _ (by simp; omega),<-fx,<-hP.2]⟩
  rw[hc] at hi;generalize (find t.ae x.an).getD Node.zero=n at qg hi;generalize (find t.ae x.an).isSome=b at qg hi;have qs:=fun M=>k96 x n (by have:=(hs.PD hm).1; omega) M
  have qw:=fun M=>ak0 s.cf y c (by omega) M
  generalize decide (x=n)=d at qs hi;generalize vx s.cf y c=w at qw hi;have r1:cu (P.length+1) 96=True:=rb;simp only[Jo,Jn,bo,aR,aZ,aI] at hi qs ⊢;cases b<;>cases d<;>cases w<;>simp only[c8,fg,dS,eT,gq,dG,c9,dw,af,aE,aw,cZ,bu,aP,a8,aD,au,av,aL,kI,mL,aI] at hi<;>simp only[Pu,cz,hx',hy,hw,h0,qg,qs,qw,r1,bG,aI,mb,EW,seval]<;>exact hi
def Zk(hs:Rt s.now)(hl:s.since.length=s.now.ae.length){P:List pj}{S:List Int}{i:Nat}{n:Node}(hn:t.ae[i]?=some n){k:List K}
  (hx:∀z,∃r,Q r/\kr (ar bN) [.dC 4 8] 0 k ⟨.exit 4,Jn c++(6,.slice (.own 3) (P.map kI))::(11,.slice (.own 4) (S.map mb))::(12,aF i)::(13,aF (qU s c n))::z,Jo s t++[.tick 8 P.length,.tick 1 S.length]⟩=some r) :
  ∃r,Q r/\eV (ar bN) [.dC 4 8] 0 k (.loop [2,3,4,5,6,11,12,13,14] afu) (Jn c++[(6,.slice (.own 3) (P.map kI)),(11,.slice (.own 4) (S.map mb)),(12,aF i),(13,aF c),(14,aF 0)]) (Jo s t++[.tick 8 P.length,.tick 1 S.length])=some r:=by
 have h200:=hs.sz.ae;have b1:((i:Int)<0)=False:=by simp
 refine gH (xs:=s.now.ae) (by omega) (fun m (x:Int)=>(x=c/\∀(j:Nat),j<m->s.now.ae[j]?≠some n)\/∃j:Nat,j<m/\s.now.ae[j]?=some n/\s.since[j]?=some x) (fun(x:Int) j=>Jn c++[(6,.slice (.own 3) (P.map kI)),(11,.slice (.own 4) (S.map mb)),(12,aF i),(13,aF x),(14,aF j)]) (fun _=>Jo s t++[.tick 8 P.length,.tick 1 S.length]) Q (fun x hI=>?_) (fun pre m post x e hx' cz hw h0 hm hI hi=>?_) c (.inl ⟨rfl,fun j hj=>by omega⟩)
 ·have he:x=qU s c n:=by
   rcases xk hs.jo.jv hl c n with ⟨j,j1,j2⟩|⟨j1,j2⟩<;>rcases hI with ⟨h1,h2⟩|⟨i,h1,h2,h3⟩
   ·exact absurd j1 (h2 j (aq.1 j1).1)
   ·have:=zK hs.jo.jv j1 h2 rfl;subst this;rw[j2] at h3; injection h3 with h3; exact h3.symm
   ·rw[h1,j2]
   ·exact absurd ((fC hs.jo.jv).2 ⟨aQ h2,rfl⟩) j1
  subst he;simp only[Jo,Jn,bo,aR,aZ] at hx ⊢;simp only[Pu,bw,EW,seval];exact hx _
 ·have hlx:=(aq.1 hx').1;obtain⟨y,hy⟩:∃y,s.since[pre.length]?=some y:=⟨_,ai (by omega)⟩
  have qs:=fun M=>k96 m n (by have:=(hs.PD hm).1; omega) M
  have i1:m≠n->_:=fun hne=>hi x (by
   rcases hI with ⟨h1,h2⟩|⟨j,h1,h2⟩
   ·refine .inl ⟨h1,fun j hj=>?_⟩
    by_cases e:j=pre.length
    ·rw[e,hx']; exact fun hh=>hne (by injection hh)
    ·exact h2 j (by omega)
   ·exact .inr ⟨j,by omega,h2⟩)
  have i2:m=n->_:=fun he=>hi y (.inr ⟨pre.length,by omega,by rw[hx',he],hy⟩)
  simp only[Jo,Jn,bo,aR,aZ,aI] at i1 i2 qs ⊢
  by_cases hd:m=n
  ·rw[jM hd] at qs;simp only[Pu,cz,hx',hy,hn,b1,hw,h0,qs,bG,aI,mb,EW,seval];exact i2 hd
  ·rw[kc hd] at qs;simp only[Pu,cz,hx',hy,hn,b1,hw,h0,qs,bG,aI,mb,EW,seval];exact i1 hd
def Zl(hs:Rt s.now)(ht:Rt t)(hl:s.since.length=s.now.ae.length){P:List pj}{k:List K}
  (hx:∀z,∃r,Q r/\kr (ar bN) [.dC 4 8] 0 k ⟨.exit 2,Jn c++(6,.slice (.own 3) (P.map kI))::(11,.slice (.own 4) ((t.ae.map (qU s c)).map mb))::z,Jo s t++[.tick 8 P.length,.tick 1 (t.ae.map (qU s c)).length]⟩=some r) :
  ∃r,Q r/\eV (ar bN) [.dC 4 8] 0 k (.loop [2,3,4,5,6,11,12] afv) (Jn c++[(6,.slice (.own 3) (P.map kI)),(11,.slice (.own 4) []),(12,aF 0)]) (Jo s t++[.tick 8 P.length,.tick 1 0])=some r:=by
 have h200:=ht.sz.ae;refine gH (xs:=t.ae) (by omega) (fun m (S:List Int)=>S=(t.ae.take m).map (qU s c)) (fun S i=>Jn c++[(6,.slice (.own 3) (P.map kI)),(11,.slice (.own 4) (S.map mb)),(12,aF i)]) (fun S=>Jo s t++[.tick 8 P.length,.tick 1 S.length]) Q (fun S hS=>?_) (fun pre n post S e hx' cz hw h0 hm hS hi=>?_) [] rfl
 ·rw[bW] at hS;simp only[<-hS,Jo,Jn,bo,aR,aZ] at hx ⊢;simp only[Pu,bw,EW,seval];exact hx _
 ·have hlx:=(aq.1 hx').1;have hSl:S.length=pre.length:=by rw[hS]; simp; omega
  have lb:=fun {k} h2=>Zk (s:=s) (t:=t) (Q:=Q) (c:=c) hs hl (P:=P) (S:=S) hx' (k:=k) h2
  have r1:cu (S.length+1) 8=True:=rb;have i1:=hi (S++[qU s c n]) (by rw[cC,hx',hS]; simp)
  simp only[Jo,Jn,bo,aR,aZ,bu,aP,a8,aD,au,av,aL,mb] at lb i1 ⊢;simp only[Pu,cz,EW,seval];refine lb (fun z=>?_)
  simp only[Pu,hw,r1,ud,mb,EW,seval];exact i1
end
def c56(s:gh)(t:Tree)(hs:Rt s.now)(ht:Rt t)(hl:s.since.length=s.now.ae.length)(hk:s.cf.length<=16)(hp:s.dz.length<=90000):ar bN 56 [.agg (bo s),bq t] []=some (.agg (bo (ki s t)),[]):=by
 have key:∃r:ag×aG,r=(.agg (bo (ki s t)),[])/\eV (ar bN) N3.results 0 [] N3.body (fe 0 [.agg (bo s),bq t]) []=some r:=by
  have h200:=hs.sz.ae;have qs:=fun M=>k95 s.now t (by omega) (fun n hn=>by have:=(hs.PD hn).1; omega) M
  unfold ki;cases hd:decide (s.now=t)<;>rw[hd] at qs
  ·have la:=fun {k Q} hx=>Zj (s:=s) (t:=t) (Q:=Q) (c:=IntKind.i64.wrap (s.tick+1)) hs ht hl hk hp (k:=k) hx
   have r1:cu s.dz.length 96=True:=rb;simp only[Jo,Jn,bo,aR,aZ] at la;simp only[N3,Pu,bo,bq,aJ,qs,r1,EW,seval];refine la (fun z=>?_)
   have lc:=fun {k Q} hx=>Zl (s:=s) (t:=t) (Q:=Q) (c:=IntKind.i64.wrap (s.tick+1)) hs ht hl (P:=ZL s t (IntKind.i64.wrap (s.tick+1))) (k:=k) hx
   simp only[Jo,Jn,bo,aR,aZ] at lc;simp only[Pu,EW,seval];refine lc (fun z=>?_)
   simp only[Pu,af,aw,EW,seval];exact⟨_,rfl,rfl⟩
  ·simp only[N3,Pu,bo,bq,aJ,qs,aE,EW,seval];exact⟨_,rfl,rfl⟩
 obtain⟨_,rfl,h3⟩:=key;exact az h3
def aol(s:gh)(an:Int)(hs:s.now.ae.length<=100000)(hk:s.cf.length<=16):∃i e,ar bN 114 [.agg (bo s),aF an] []=some (.tuple [.agg (bo (takeN s an).1),aF i,aF e],[]):=by
 have qg:=fun M=>zN s.now.ae s.now.next s.now.aj an hs M
 unfold takeN aX;generalize (find s.now.ae an).getD Node.zero=n at qg;cases h1:(find s.now.ae an).isSome<;>rw[h1] at qg
 ·refine⟨0,70,az ?_⟩;simp only[Da,PF,bo,bG,aI,qg,fg,aE,EW,seval]
 cases h2:n.kind != 2
 case true =>
  refine⟨0,73,az ?_⟩;simp only[Da,PF,bo,bG,aI,qg,h2,c8,af,aE,aw,EW,seval]
 simp only[pk];cases h3:decide (16<=(s.cf.length:Int))
 case true =>
  refine⟨0,76,az ?_⟩;simp only[Da,PF,bo,bG,aI,qg,h2,h3,c8,dA,af,aE,aw,EW,seval]
 cases h4:decide (1099511627776<=s.next)
 case true =>
  refine⟨0,76,az ?_⟩;simp only[Da,PF,bo,bG,aI,qg,h2,h3,h4,c8,dS,af,aE,aw,EW,seval]
 have h16:s.cf.length<16:=by simp at h3; omega
 have r1:cu s.cf.length 24=True:=rb;have r2:cu (s.cf.length+1) 24=True:=rb;refine⟨s.next,0,az ?_⟩
 simp only[Da,PF,bo,bG,aI,qg,h2,h3,h4,r1,r2,bu,j6,c8,eH,af,aw,EW,seval];rw[show kO (s.cf++[⟨s.next,an,s.tick⟩]) = hZ (s.cf.map j6++[.agg [aF s.next,aF an,aF s.tick]]) by simp[j6,gS]]
end
end Go.Proofs.YtahkjijkflobhaaGreatDoor
namespace Go.Abs
open Go
def LW{C:eK}{fn:List sv}{bL:Nat}{k:List K}{live:List Nat}{body:cB}{α σ ρ:Type}{xs:List α}(hn:xs.length<=1000000)(I:Nat->σ->Prop)(go:List α->σ->ρ)(E:σ->Int->Env)(M:σ->aG)(R:ρ->Option (ag×aG))
  (hend:∀s,I xs.length s->eV C fn bL (.loop live (M s).length body::k) body (lQ (E s xs.length) live) (M s)=R (go [] s))
  (hstep:∀(pre:List α)(x:α)(post:List α)(s:σ),xs=pre++x::post->xs[pre.length]?=some x->((pre.length:Int)<xs.length)=True->IntKind.i64.wrap ((pre.length:Int)+1)=(pre.length:Int)+1->((pre.length:Int)<0)=False->x∈xs->I pre.length s ->
   (∀s',I (pre.length+1) s'->eV C fn bL k (.loop live body) (E s' ((pre.length:Int)+1)) (M s')=R (go post s'))->eV C fn bL (.loop live (M s).length body::k) body (lQ (E s pre.length) live) (M s)=R (go (x::post) s)) :
  ∀s,I 0 s->eV C fn bL k (.loop live body) (E s 0) (M s)=R (go xs s):=by
 have key:∀(l pre:List α)(s:σ),xs=pre++l->I pre.length s->eV C fn bL k (.loop live body) (E s pre.length) (M s)=R (go l s):=by
  intro l;induction l with
  |nil =>
   intro pre s h hI;have e:pre.length=xs.length:=by rw[h]; simp
   rw[bt,e];exact hend s (by rw[<-e]; exact hI)
  |cons x r ih =>
   intro pre s h hI;rw[bt];have hl:pre.length+1<=1000000:=by rw[h] at hn; simp at hn; omega
   refine hstep pre x r s h (by rw[h]; simp) (by rw[h]; simp; omega) (gn (by omega) (by omega)) (by simp) (by rw[h]; simp) hI fun s' hI'=>?_
   have:=ih (pre++[x]) s' (by rw[h]; simp) (by simpa using hI')
   simpa using this
 intro s hI;exact key xs [] s rfl hI
end Go.Abs
namespace Go.Proofs.YtahkjijkflobhaaGreatDoor
open Go Go.Abs
def zc:Bytes->Bytes->List Bytes->Option (List Bytes)
 | [],cur,out=>if !eh cur||(out.length:Int)==12 then none else some (out++[cur])
 |b::r,cur,out=>if (b.toNat:Int) != 47 then zc r (cur++[b]) out else if !eh cur||(out.length:Int)==12 then none else zc r [] (out++[cur])
def jT(s:Bytes):List Bytes×Int:=if s==[47] then ([],0) else match s with
 | []=>([],60)
 |b::r=>if (b.toNat:Int) != 47 then ([],60) else match zc r [] [] with
  |none=>([],60)
  |some l=>(l,0)
section
attribute [local irreducible] eV fZ je gK eo kr ar aU cA bH
def afF{s:Bytes}(hs:s.length<=100000){k:List K}{R:Option (List Bytes)->Option (ag×aG)}
  (hx:∀(l:List Bytes) z,kr (ar bN) [.tmp 2,.tmp 3] 0 k ⟨.exit 0,(0,.str s)::(4,.slice (.own 0) (l.map .str))::z,[.tick 1 l.length]⟩=R (some l))
  (hr:∀n,kr (ar bN) [.tmp 2,.tmp 3] 0 k ⟨.ret,[(2,.slice .c0 []),(3,aF 60)],[.tick 1 n]⟩=R none) :
  ∀(rest:Bytes)(n m:Nat)(cur:Bytes)(out:List Bytes),s.drop m=rest->m+rest.length=s.length->n<=m->(s.take m).drop n=cur->out.length<=12 ->
   eV (ar bN) [.tmp 2,.tmp 3] 0 k (.loop [0,4,5,6] afk) [(0,.str s),(4,.slice (.own 0) (out.map .str)),(5,aF n),(6,aF m)] [.tick 1 out.length]=R (zc rest cur out):=by
 intro rest;induction rest with
 |nil =>
  intro n m cur out h1 h2 h3 h4 h5;simp only[av,dk] at h2;rw[bt];have e1:((m:Int)<=(s.length:Int))=True:=vG;have e2:((m:Int)<(s.length:Int))=False:=oyf;have e3:((n:Int)<=(m:Int))=True:=vG;have w1:IntKind.i64.wrap ((m:Int)+1)=(m:Int)+1:=gn (by omega) (by omega)
  have e4:((m:Int)+1<=(s.length:Int))=False:=oyf;have hc:cur.length<=100000:=by rw[<-h4]; simp; omega
  have q:=fun M=>k97 cur hc M
  have r1:cu (out.length+1) 16=True:=rb;have i1:=hx (out++[cur]);simp only[bu,aP,a8,aD,au,av,aL] at i1;rw[zc]
  cases h6:eh cur<;>rw[h6] at q<;>cases h7:(out.length:Int)==12 <;>
   simp only[Pt,e1,e2,e3,h4,q,h7,dA,dp,dS,eT,aE,af,aw,EW,seval]<;>first|exact hr _|skip
  simp only[Pt,r1,w1,EW,seval];rw[bt];simp only[Pt,e4,EW,seval];exact i1 _
 |cons b r ih =>
  intro n m cur out h1 h2 h3 h4 h5;simp only[au] at h2;rw[bt];have e1:((m:Int)<=(s.length:Int))=True:=vG;have e2:((m:Int)<(s.length:Int))=True:=vG;have e3:((n:Int)<=(m:Int))=True:=vG;have w1:IntKind.i64.wrap ((m:Int)+1)=((m+1:Nat):Int):=by rw[gn (by omega) (by omega)]; rfl
  have hc:cur.length<=100000:=by rw[<-h4]; simp; omega
  have hb:s[m]?=some b:=by
   have:(s.drop m)[0]?=some b:=by rw[h1]; rfl
   simpa using this
  have hd:s.drop (m+1)=r:=by rw[<-List.drop_drop,h1]; rfl
  have hm:=(aq.1 hb).1
  have ht:(s.take (m+1)).drop n=cur++[b]:=by
   rw[cC,hb,lZ,List.drop_append_of_le_length (by simp; omega),h4]
  have q:=fun M=>k97 cur hc M
  have r1:cu (out.length+1) 16=True:=rb;have i1:=ih n (m+1) (cur++[b]) out hd (by omega) (by omega) ht h5
  have i2:=fun h=>ih (m+1) (m+1) [] (out++[cur]) hd (by omega) (by omega) (by simp) h
  simp only[bu,aP,a8,aD,au,av,aL] at i2;rw[zc];cases h8:(b.toNat:Int) != 47
  ·cases h6:eh cur<;>rw[h6] at q<;>cases h7:(out.length:Int)==12 <;>
    simp only[Pt,e1,e2,e3,h4,hb,h8,q,h7,dA,dp,dS,eT,aE,af,aw,EW,seval]<;>first|exact hr _|skip
   have h9:out.length+1<=12:=by simp at h7; omega
   simp only[Pt,r1,w1,EW,seval];exact i2 h9
  ·simp only[Pt,e1,e2,hb,h8,w1,aE,EW,seval];exact i1
def c35(s:Bytes)(hs:s.length<=100000):ar bN 35 [.str s] []=some (.tuple [dh (jT s).1,aF (jT s).2],[]):=by
 refine az ?_;unfold jT;cases h0:s==[47]
 ·cases s with
  |nil=>simp only[N2,Pt,h0,af,aw,EW,seval]; rfl
  |cons b r =>
   have h1:((b::r)==[])=false:=rfl;cases h8:(b.toNat:Int) != 47
   ·have hl:=fun {k R} hx hr=>afF hs (k:=k) (R:=R) hx hr r 1 1 [] [] rfl (by simp; omega) (by omega) (by simp) (by simp)
    simp only[a8,av] at hl;simp only[N2,Pt,h0,h1,h8,af,aw,EW,seval];refine hl (R:=fun o=>some (.tuple [dh (match o with|none=>(([]:List Bytes),(60:Int))|some l=>(l,0)).1,aF (match o with|none=>(([]:List Bytes),(60:Int))|some l=>(l,0)).2],[])) (fun l z=>?_) (fun n=>?_)
    ·simp only[Pt,EW,seval]
    ·simp only[Pt,EW,seval]; rfl
   ·simp only[N2,Pt,h0,h1,h8,af,aw,aE,EW,seval]; rfl
 ·simp only[N2,Pt,h0,aE,EW,seval]; rfl
def k35 s hs:=cP (c35 s hs)
def uN(l:List Bytes)(s:Bytes):Bytes:=l.foldl (fun s x=>s++[47]++x) s
def Dp(l:List Bytes):Bytes:=if (l.length:Int)==0 then [47] else uN l []
def yM:∀(l:List Bytes)(s:Bytes),(∀x,x∈l->x.length<=32)->(uN l s).length<=s.length+33*l.length
 | [],s,_=>by simp[uN]
 |x::l,s,h=>by
  have h1:=yM l (s++[47]++x) fun y hy=>h y (aO _ hy)
  have h2:=h x aV;simp only[uN,dZ,aD,au,av] at h1 ⊢;omega
def c36(l:List Bytes)(hl:l.length<=100)(h:∀x,x∈l->x.length<=32):ar bN 36 [dh l] []=some (.str (Dp l),[]):=by
 refine az ?_;unfold Dp;cases h0:(l.length:Int)==0<;>simp only[akl,E36,h0,af,aw,aE,EW,seval]
 have key:∀ {k:List K} {R:Bytes->Option (ag×aG)} (hx:∀s z,kr (ar bN) [.tmp 2] 0 k ⟨.exit 0,(0,dh l)::(3,.str s)::z,[]⟩=R s) (rest pre:List Bytes) (s:Bytes),l=pre++rest->s.length<=33*pre.length->eV (ar bN) [.tmp 2] 0 k (.loop [0,3,4] afl) [(0,dh l),(3,.str s),(4,aF pre.length)] []=R (uN rest s):=by
  intro k R hx rest;induction rest with
  |nil =>
   intro pre s e _;rw[bt];simp only[E36,gU e,uN,mo,EW,seval];exact hx _ _
  |cons x r ih =>
   intro pre s e hs;rw[bt];have hxl:=h x (by rw[e]; simp)
   have hp:pre.length+1<=100:=by rw[e] at hl; simp at hl; omega
   have hw:=vY pre x;have i1:=ih (pre++[x]) (s++[47]++x) (by rw[e]; simp) (by simp; omega)
   have m1:(IntKind.i64.max<((s.length+1:Nat):Int))=False:=max_lt _ (by omega)
   have m2:(IntKind.i64.max<((s.length+1+x.length:Nat):Int))=False:=max_lt _ (by omega)
   simp only[aD,au,av,aL] at i1;simp only[uN,dZ] at i1 ⊢;simp only[E36,gd e,fc e,hw,m1,m2,EW,seval];exact i1
 exact key (R:=fun s=>some (.str s,[])) (fun s z=>by simp only[E36,EW,seval]) l [] [] rfl (by simp)
def k36 l hl h:=cP (c36 l hl h)
def ZX:∀(rest cur:Bytes)(out l:List Bytes),zc rest cur out=some l->(∀x,x∈out->eh x=true)->out.length<=12->(∀x,x∈l->eh x=true)/\l.length<=12:=by
 have key:∀(cur:Bytes)(out:List Bytes),¬(!eh cur||(out.length:Int)==12)=true->(∀x,x∈out->eh x=true)->out.length<=12->(∀x,x∈out++[cur]->eh x=true)/\(out++[cur]).length<=12:=by
  intro cur out h1 h2 h3;simp only[cN,gW,eM,lu,Bool.not_eq_false] at h1;refine⟨fun x hx=>?_,by simp; omega⟩
  rcases bm.1 hx with hx|hx
  ·exact h2 x hx
  ·rw[bM.1 hx]; exact h1.1
 intro rest;induction rest with
 |nil =>
  intro cur out l h h1 h2;rw[zc] at h;split at h
  ·cases h
  ·rename_i hc;cases h;exact key cur out hc h1 h2
 |cons b r ih =>
  intro cur out l h h1 h2;rw[zc] at h;split at h
  ·exact ih _ _ _ h h1 h2
  split at h
  ·cases h
  ·rename_i hc;obtain⟨k1,k2⟩:=key cur out hc h1 h2;exact ih _ _ _ h k1 k2
def px(s:Bytes):(∀x,x∈(jT s).1->eh x=true)/\(jT s).1.length<=12:=by
 unfold jT;split
 ·simp
 split
 ·simp
 split
 ·simp
 split
 ·simp
 ·rename_i h;exact ZX _ _ _ _ h (by simp) (by simp)
def BJ(s:Bytes):Bytes×Bytes×Int:=if (jT s).2 != 0||(((jT s).1.length:Int)==0) then ([],[],60) else ((jT s).1.getLast?.getD [],Dp (jT s).1.dropLast,0)
def ao5(s:Bytes)(hs:s.length<=100000):ar bN 172 [.str s] []=some (.tuple [.str (BJ s).1,.str (BJ s).2.1,aF (BJ s).2.2],[]):=by
 refine az ?_;have q:=fun M=>k35 s hs M
 obtain⟨o1,o2⟩:=px s;unfold BJ;generalize jT s=X at q o1 o2;obtain⟨l,e⟩:=X;simp only at q o1 o2 ⊢;cases h1:e != 0
 ·cases h2:(l.length:Int)==0
  ·obtain⟨A,x,rfl⟩:∃A x,l=A++[x]:=by
    refine⟨l.dropLast,l.getLast (by rintro rfl; simp at h2),(List.dropLast_concat_getLast _).symm⟩
   have qj:=fun M=>k36 A (by simp at o2; omega) (fun y hy=>lU (o1 y (by simp[hy]))) M
   simp only[aD,au,av,aL] at h2 o2;have w1:IntKind.i64.wrap (((A.length+1:Nat):Int)-1)=(A.length:Int):=by rw[gn (by omega) (by omega)]; omega
   have a1:(A++[x])[A.length]?=some x:=by simp
   have a2:((A.length:Int)<((A.length+1:Nat):Int))=True:=vG;have a3:((A.length:Int)<=((A.length+1:Nat):Int))=True:=vG;have a4:((A.length:Int)<0)=False:=by simp
   have a5:(A++[x]).take A.length=A:=by simp
   simp only[L6,acO,q,h1,h2,w1,a2,a3,a4,a1,<-fj,a5,qj,eH,eT,af,aw,List.getLast?_append,List.getLast?_singleton,List.dropLast_concat,bh,Option.or_some,Option.some_or,EW,seval]
  ·simp only[L6,acO,q,h1,h2,dS,dp,aE,EW,seval]
 ·simp only[L6,acO,q,h1,dA,aE,EW,seval]
def Am(ae:List Node):List Bytes->Int->Int×Int
 | [],a=>(a,0)
 |x::r,a=>if (dX ae a x).2 != 0 then (0,(dX ae a x).2) else Am ae r (dX ae a x).1
def B4(ae:List Node)(s:Bytes):Int×Int:=if (jT s).2 != 0 then (0,(jT s).2) else Am ae (jT s).1 1
def aoc(t:Tree)(s:Bytes)(ht:Small t)(hs:s.length<=100000):ar bN 102 [bq t,.str s] []=some (.tuple [aF (B4 t.ae s).1,aF (B4 t.ae s).2],[]):=by
 refine az ?_;have q:=fun M=>k35 s hs M
 obtain⟨o1,o2⟩:=px s;unfold B4;generalize jT s=X at q o1 o2;obtain⟨l,e⟩:=X;simp only at q o1 o2 ⊢;cases h1:e != 0<;>simp only[aaK,acD,bq,aJ,q,h1,af,aw,aE,EW,seval]
 refine tD (xs:=l) (by omega) (Am t.ae) (fun a i=>[(2,b9 0),(6,dh l),(8,aF a),(9,aF i)]) (fun _=>[bT [aY t.ae,aF t.next,aF t.aj]]) (fun p=>some (.tuple [aF p.1,aF p.2],([]:aG))) (fun a=>?_) (fun pre x post a h hx cz hw h0 hm hi=>?_) 1
 ·simp only[acD,bw,Am,EW,seval]
 ·have ql:=fun M=>XB t.ae t.next t.aj a x ht (by have:=lU (o1 x hm); omega) M
  rw[Am];have i1:=hi (dX t.ae a x).1;generalize dX t.ae a x=u at ql i1;cases h2:u.2 != 0<;>simp only[acD,cz,hx,hw,ql,h2,af,aw,aE,EW,seval]
  exact i1
def adY(ae:List Node)(next aj:Int)(s:Bytes)(ht:Small ⟨ae,next,aj⟩)(hs:s.length<=100000)(M:aG):aU (ar bN) 102 [.agg [aY ae,aF next,aF aj],.str s] M=some (.tuple [aF (B4 ae s).1,aF (B4 ae s).2],M):=cO (aoc ⟨ae,next,aj⟩ s ht hs) M
end
end Go.Proofs.YtahkjijkflobhaaGreatDoor
namespace Go.Proofs.YtahkjijkflobhaaGreatDoor
open Go Go.Abs
def qT(q:cF):List cF->Bool->List cF
 | [],d=>if d then [] else [q]
 |x::r,d=>(if !d&&decide (q.an<=x.an) then [q] else [])++((if x.an != q.an then [x] else [])++qT q r (d||decide (q.an<=x.an)))
def y8(q:cF):∀l,qT q l true=l.filter fun x=>x.an != q.an
 | []=>rfl
 |x::r=>by
  rw[qT,dA,y8 q r,eF];cases x.an != q.an<;>rfl
theorem Lm(q x:cF)(r:List cF):qT q (x::r) false=if q.an<=x.an then q::(x::r).filter fun x=>x.an != q.an else x::qT q r false:=by
 rw[qT]
 by_cases h:q.an<=x.an
 ·rw[bc h,jM h,dp,y8,eF];cases x.an != q.an<;>rfl
 grind
theorem FI(q:cF):∀l,oz l->oz (qT q l false)/\(∀y,y∈qT q l false->y=q\/y∈l)/\(qT q l false).length<=l.length+1/\((∃x,x∈l/\x.an=q.an)->(qT q l false).length<=l.length)
 | [],_=>⟨List.pairwise_singleton _ _,fun y hy => .inl (by grind [qT]),aC _,fun⟨x,h,_⟩=>by grind⟩
 |x::r,h=>by
  have hc:=cv.1 h;obtain⟨i1,i2,i3,i4⟩:=FI q r hc.2;rw[Lm]
  grind [List.pairwise_cons]
section
attribute [local irreducible] eV fZ je gK eo kr ar aU cA bH
def apj(t:Tree)(an:Int)(ht:t.ae.length<=100000):ar bN 186 [bq t,aF an] []=some (.bool ((find t.ae an).isSome&&(aX t.ae an).kind==2),[]):=by
 refine az ?_;have q:=fun M=>zN t.ae t.next t.aj an ht M
 have hz:(find t.ae an).getD Node.zero=aX t.ae an:=rfl;rw[hz] at q;generalize aX t.ae an=n at q
 cases h1:(find t.ae an).isSome<;>rw[h1] at q<;>cases h2:n.kind==2 <;>
  simp only[abm,ann,bq,aJ,q,h2,bG,aI,dG,EW,seval]
def alc(ae:List Node)(next aj an:Int)(h:ae.length<=100000)(M:aG):aU (ar bN) 186 [.agg [aY ae,aF next,aF aj],aF an] M=some (.bool ((find ae an).isSome&&(aX ae an).kind==2),M) :=
 cO (apj ⟨ae,next,aj⟩ _ h) M
def Plc(ae:List Node)(an n:Int):Prop:=(n = -1/\∀y,y∈ae->y.an≠an)\/∃(i:Nat) (y:Node),ae[i]?=some y/\y.an=an/\n=i
def aqe(t:Tree)(an:Int)(ht:t.ae.length<=100000):∃n:Int,ar bN 288 [bq t,aF an] []=some (aF n,[])/\Plc t.ae an n:=by
 have key:∃r:ag×aG,(∃n:Int,r=(aF n,[])/\Plc t.ae an n)/\eV (ar bN) Mh.results 0 [] Mh.body (fe 0 [bq t,aF an]) []=some r:=by
  simp only[Mh,acZ,bq,aJ,EW,seval];refine gH (xs:=t.ae) (by omega) (fun m (_:Unit)=>∀y,y∈t.ae.take m->y.an≠an) (fun _ i=>[(1,aF an),(2,b9 0),(5,aF i)]) (fun _=>[bT [aY t.ae,aF t.next,aF t.aj]]) _ (fun _ hq=>?_) (fun pre x post _ e hx cz hw h0 hm hq hi=>?_) () (fun y hy=>by simp at hy)
  ·simp only[acZ,bw,EW,seval];exact⟨_,⟨-1,rfl,.inl ⟨rfl,by rwa[bW] at hq⟩⟩,rfl⟩
  ·have htk:t.ae.take (pre.length+1)=t.ae.take pre.length++[x]:=by rw[cC,hx]; rfl
   have i1:=fun h=>hi () (fun y hy=>by
    rw[htk] at hy;exact(bm.1 hy).elim (hq y) fun hy=>by rw[bM.1 hy]; exact h)
   cases h1:x.an==an<;>simp only[acZ,cz,hx,hw,h1,bG,aI,EW,seval]
   ·exact i1 (by simpa using h1)
   ·exact⟨_,⟨_,rfl,.inr ⟨_,x,hx,by simpa using h1,rfl⟩⟩,rfl⟩
 obtain⟨_,⟨n,rfl,h1⟩,h3⟩:=key;exact⟨n,az h3,h1⟩
theorem ajs(l:List cF)(an:Int)(hn:l.length<=100000):∃n:Int,ar bN 188 [cY l,aF an] []=some (aF n,[])/\(0<=n↔∃x,x∈l/\x.an=an):=by
 have key:∃r:ag×aG,(∃n:Int,r=(aF n,[])/\(0<=n↔∃x,x∈l/\x.an=an))/\eV (ar bN) L8.results 0 [] L8.body (fe 0 [cY l,aF an]) []=some r:=by
  simp only[L8,acR,EW,seval];refine gH (xs:=l) (by omega) (fun m (_:Unit)=>∀y,y∈l.take m->y.an≠an) (fun _ i=>[(0,cY l),(1,aF an),(5,aF i)]) (fun _=>[]) _ (fun _ hq=>?_) (fun pre x post _ e hx cz hw h0 hm hq hi=>?_) () (fun y hy=>by simp at hy)
  ·simp only[acR,bw,EW,seval];rw[bW] at hq
   grind
  ·have htk:l.take (pre.length+1)=l.take pre.length++[x]:=by rw[cC,hx]; rfl
   have i1:=fun h=>hi () (fun y hy=>by
    rw[htk] at hy;exact(bm.1 hy).elim (hq y) fun hy=>by rw[bM.1 hy]; exact h)
   cases h1:x.an==an<;>simp only[acR,cz,hx,hw,h1,dU,il,EW,seval]
   ·exact i1 (by simpa using h1)
   grind
 obtain⟨_,⟨n,rfl,h1⟩,h3⟩:=key;exact⟨n,az h3,h1⟩
abbrev BL(n:Nat):={ m:List Bool // m.length=n }
def Wf(ae:List Node)(m0:List Bool)(P:List fp->Prop)(s:Bool×List Bool):Prop:=(s.1=false->s.2=m0/\∀L,P L->∀e,e∈L->Mk ae m0 e.an)/\(s.1=true->nT m0<nT s.2)
abbrev Et(t:Tree)(m:List Bool):aG:=[.cells [aY t.ae,.int .i64 t.next,.int .i64 t.aj],.arr 1 0 (m.map ag.bool)]
section
variable {t:Tree} {an by':Int} {Q:ag×aG->Prop}
theorem UB(ht:t.ae.length<=100000)(hasc:mG t.ae){m0:List Bool}{P:List fp->Prop}{i:Nat}{x:Node}(hxi:t.ae[i]?=some x)(hxe:x.aM.length<=100000){k:List K}
  (hx:∀(s:Bool×BL t.ae.length) z,Wf t.ae m0 (fun L=>P L\/L=x.aM) (s.1,s.2.1)->∃r,Q r/\kr (ar bN) [.tmp 4] 0 k ⟨.exit 4,(1,aF an)::(2,b9 0)::(5,.cS 1 0 1 0 t.ae.length)::(6,aF by')::(7,.bool s.1)::(8,aF i)::z,Et t s.2.1⟩=some r) (s:Bool×BL t.ae.length) (hs0:Wf t.ae m0 P (s.1,s.2.1)) :
  ∃r,Q r/\eV (ar bN) [.tmp 4] 0 k (.loop [1,2,5,6,7,8,9] Yt) [(1,aF an),(2,b9 0),(5,.cS 1 0 1 0 t.ae.length),(6,aF by'),(7,.bool s.1),(8,aF i),(9,aF 0)] (Et t s.2.1)=some r:=by
 have b1:((i:Int)<0)=False:=by simp
 refine gH (xs:=x.aM) (by omega) (fun j (s:Bool×BL t.ae.length)=>Wf t.ae m0 (fun L=>P L\/L=x.aM.take j) (s.1,s.2.1)) (fun(s:Bool×BL t.ae.length) j=>[(1,aF an),(2,b9 0),(5,.cS 1 0 1 0 t.ae.length),(6,aF by'),(7,.bool s.1),(8,aF i),(9,aF j)]) (fun s=>Et t s.2.1) Q (fun s hs=>?_) (fun pre e post s h hx' cz hw h0 hm hs hi=>?_) s ⟨fun h=>⟨(hs0.1 h).1,fun L hL=>hL.elim ((hs0.1 h).2 L) fun hL e he=>by rw[hL] at he; simp at he⟩,hs0.2⟩
 ·simp only[B6,bw,hxi,bG,aI,EW,seval];rw[bW] at hs;exact hx s _ hs
 ·obtain⟨n,q,hn⟩:=aqe t e.an ht;have qp:=cP q;simp only[bq,aJ] at qp;have hm2:=s.2.2;have htk:x.aM.take (pre.length+1)=x.aM.take pre.length++[e]:=by rw[cC,hx']; rfl
  have same:(s.1=false->Mk t.ae m0 e.an)->Wf t.ae m0 (fun L=>P L\/L=x.aM.take (pre.length+1)) (s.1,s.2.1):=fun hk=>⟨fun h=>⟨(hs.1 h).1,fun L hL e' he=>by
   rcases hL with hL|hL
   ·exact(hs.1 h).2 L (.inl hL) e' he
   ·rw[hL,htk] at he;rcases bm.1 he with he|he
    ·exact(hs.1 h).2 _ (.inr rfl) e' he
    ·rw[bM.1 he]; exact hk h⟩,hs.2⟩
  rcases hn with ⟨rfl,hno⟩|⟨a,y,hay,hye,rfl⟩
  ·have i1:=hi s (same fun _ a y h1 h2=>absurd h2 (hno y (aQ h1)))
   simp only[B6,cz,hx',hw,hxi,qp,bG,aI,fW,fm,EW,seval];exact i1
  ·have ha:=(aq.1 hay).1;have a0:((a:Int)<0)=False:=by simp
   have a1:((a:Int)<(t.ae.length:Int))=True:=by grind
   have a2:(a<t.ae.length)=True:=vG;have a3:(0<=(a:Int))=True:=by simp
   have a4:(a<s.2.1.length)=True:=vG;obtain⟨b,hb⟩:∃b,s.2.1[a]?=some b:=⟨_,ai (by omega)⟩
   cases b
   ·have i1:=hi (true,⟨s.2.1.set a true,by simp[hm2]⟩) ⟨fun h=>(by cases h),fun _=>by
     simp only[afM hb];cases h1:s.1 with
     |false=>have:=(hs.1 h1).1; simp only at this; rw[this]; omega
     |true=>have:=hs.2 h1; simp only at this; omega⟩
    simp only[B6,cz,hx',hw,hxi,qp,a1,a3,hb,FJ,bK,bG,aI,fW,fm,EW,seval];omega
   ·have i1:=hi s (same fun h1 a' y' g1 g2=>by
     have:=ac5 hasc g1 hay (by rw[g2,hye])
     have he:=(hs.1 h1).1;simp only at he;rw[this,<-he]; exact hb)
    simp only[B6,cz,hx',hw,hxi,qp,a1,a3,hb,bK,bG,aI,fW,fm,EW,seval];exact i1
theorem UC(ht:t.ae.length<=100000)(he:∀n,n∈t.ae->n.aM.length<=100000)(hasc:mG t.ae){m0:List Bool}{k:List K}
  (hx:∀(s:Bool×BL t.ae.length) z,Wf t.ae m0 (fun L=>∃(i:Nat) (x:Node),t.ae[i]?=some x/\(x.an=an\/m0[i]?=some true)/\L=x.aM) (s.1,s.2.1)->∃r,Q r/\kr (ar bN) [.tmp 4] 0 k ⟨.exit 2,(1,aF an)::(2,b9 0)::(5,.cS 1 0 1 0 t.ae.length)::(6,aF by')::(7,.bool s.1)::z,Et t s.2.1⟩=some r) (s:Bool×BL t.ae.length) (hs0:Wf t.ae m0 (fun _=>False) (s.1,s.2.1)) :
  ∃r,Q r/\eV (ar bN) [.tmp 4] 0 k (.loop [1,2,5,6,7,8] Yu) [(1,aF an),(2,b9 0),(5,.cS 1 0 1 0 t.ae.length),(6,aF by'),(7,.bool s.1),(8,aF 0)] (Et t s.2.1)=some r:=by
 refine gH (xs:=t.ae) (by omega) (fun j (s:Bool×BL t.ae.length)=>Wf t.ae m0 (fun L=>∃(i:Nat) (x:Node),i<j/\t.ae[i]?=some x/\(x.an=an\/m0[i]?=some true)/\L=x.aM) (s.1,s.2.1)) (fun(s:Bool×BL t.ae.length) j=>[(1,aF an),(2,b9 0),(5,.cS 1 0 1 0 t.ae.length),(6,aF by'),(7,.bool s.1),(8,aF j)]) (fun s=>Et t s.2.1) Q (fun s hs=>?_) (fun pre x post s h hx' cz hw h0 hm hs hi=>?_) s ⟨fun h=>⟨(hs0.1 h).1,fun L ⟨i,x,hi,_⟩=>by omega⟩,hs0.2⟩
 ·simp only[B6,bw,EW,seval];exact hx s _ ⟨fun h=>⟨(hs.1 h).1,fun L ⟨i,x,h1,h2,h3⟩=>(hs.1 h).2 L ⟨i,x,(aq.1 h1).1,h1,h2,h3⟩⟩,hs.2⟩
 ·have hl:=(aq.1 hx').1;have hm2:=s.2.2;have a4:(pre.length<s.2.1.length)=True:=vG;have a2:(pre.length<t.ae.length)=True:=vG;obtain⟨b,hb⟩:∃b,s.2.1[pre.length]?=some b:=⟨_,ai (by omega)⟩
  have la:=fun {k} hx2=>UB (t:=t) (an:=an) (by':=by') (Q:=Q) ht hasc hx' (he x hm) (k:=k) hx2 s hs
  have fin:∀(s':Bool×BL t.ae.length),Wf t.ae m0 (fun L=>(∃(i:Nat) (x:Node),i<pre.length/\t.ae[i]?=some x/\(x.an=an\/m0[i]?=some true)/\L=x.aM)\/L=x.aM) (s'.1,s'.2.1)->Wf t.ae m0 (fun L=>∃(i:Nat) (x:Node),i<pre.length+1/\t.ae[i]?=some x/\(x.an=an\/m0[i]?=some true)/\L=x.aM) (s'.1,s'.2.1):=fun s' h'=>⟨fun h=>⟨(h'.1 h).1,fun L ⟨i,x',h1,h2,h3,h4⟩=>(h'.1 h).2 L (by
   grind)⟩,h'.2⟩
  have skip:b=false->x.an≠an->Wf t.ae m0 (fun L=>∃(i:Nat) (x:Node),i<pre.length+1/\t.ae[i]?=some x/\(x.an=an\/m0[i]?=some true)/\L=x.aM) (s.1,s.2.1):=fun hbf hne=>⟨fun h=>⟨(hs.1 h).1,fun L ⟨i,x',h1,h2,h3,h4⟩=>(hs.1 h).2 L (by
   by_cases hip:i=pre.length
   ·exfalso;have e0:=(hs.1 h).1
    grind
   ·exact⟨i,x',by omega,h2,h3,h4⟩)⟩,hs.2⟩
  cases b<;>cases h1:x.an != an <;>
   simp only[B6,cz,hx',hw,hb,h1,bK,bG,aI,EW,seval]
  all_goals first
   |exact hi s (skip rfl (by simpa using h1))
   |(refine la (fun s' z hs'=>?_)
     have i1:=hi s' (fin s' hs');simp only[B6,hw,EW,seval];exact i1)
theorem UD(ht:t.ae.length<=100000)(he:∀n,n∈t.ae->n.aM.length<=100000)(hasc:mG t.ae){k:List K}
  (hx:∀(m:BL t.ae.length) z,Clo t.ae an m.1->∃r,Q r/\kr (ar bN) [.tmp 4] 0 k ⟨.exit 0,(1,aF an)::(2,b9 0)::(5,.cS 1 0 1 0 t.ae.length)::z,Et t m.1⟩=some r)
  (hr:∀(m:BL t.ae.length),Clo t.ae an m.1->∃r,Q r/\kr (ar bN) [.tmp 4] 0 k ⟨.ret,[(4,.cS 1 0 1 0 t.ae.length)],Et t m.1⟩=some r) (m:BL t.ae.length) :
  ∃r,Q r/\eV (ar bN) [.tmp 4] 0 k (.loop [1,2,5,6] Yv) [(1,aF an),(2,b9 0),(5,.cS 1 0 1 0 t.ae.length),(6,aF 0)] (Et t m.1)=some r:=by
 refine gH (xs:=t.ae) (by omega) (fun j (m:BL t.ae.length)=>j<=nT m.1) (fun(_:BL t.ae.length) j=>[(1,aF an),(2,b9 0),(5,.cS 1 0 1 0 t.ae.length),(6,aF j)]) (fun m=>Et t m.1) Q (fun m hm=>?_) (fun pre x post m h hx' cz hw h0 hm hj hi=>?_) m (cV _)
 ·simp only[B6,bw,EW,seval];refine hx m _ fun i x h1 _ e _ a y h3 _=>?_
  have h4:nT m.1=m.1.length:=Nat.le_antisymm (mH) (by rw[m.2]; exact hm)
  have ha:=(aq.1 h3).1;have h5:=List.countP_eq_length.1 h4 (m.1[a]'(by rw[m.2]; exact ha)) (iU _)
  grind
 ·have lb:=fun {k} hx2=>UC (t:=t) (an:=an) (by':=pre.length) (Q:=Q) ht he hasc (m0:=m.1) (k:=k) hx2 (false,m) ⟨fun _=>⟨rfl,fun _ h=>h.elim⟩,fun h=>by cases h⟩
  simp only[B6,cz,EW,seval];refine lb (fun s z hs=>?_)
  obtain⟨b,m'⟩:=s;cases b<;>simp only[B6,hw,EW,seval]
  ·obtain⟨e0,hc⟩:=hs.1 rfl;simp only at e0;exact hr m' (by rw[e0]; exact fun i x h1 h2 e he=>hc x.aM ⟨i,x,h1,h2,rfl⟩ e he)
  ·have:=hs.2 rfl;simp only at this;exact hi m' (by omega)
end
theorem apZ(t:Tree)(an:Int)(ht:t.ae.length<=100000)(he:∀n,n∈t.ae->n.aM.length<=100000)(hasc:mG t.ae):∃m:List Bool,ar bN 251 [bq t,aF an] []=some (hZ (m.map ag.bool),[])/\m.length=t.ae.length/\Clo t.ae an m:=by
 have key:∃r:ag×aG,(∃m:List Bool,r=(hZ (m.map ag.bool),[])/\m.length=t.ae.length/\Clo t.ae an m)/\eV (ar bN) H0.results 0 [] H0.body (fe 0 [bq t,aF an]) []=some r:=by
  have r1:cu t.ae.length 8=True:=rb
  have hrep:List.replicate t.ae.length (ag.agg [ag.bool false]).norm=(List.replicate t.ae.length false).map ag.bool:=by
   rw[gJ]; rfl
  have lc:=fun {k Q} hx hr=>UD (t:=t) (an:=an) (Q:=Q) ht he hasc (k:=k) hx hr ⟨List.replicate t.ae.length false,by simp⟩
  simp only[H0,B6,bq,aJ,r1,hrep,EW,seval];refine lc (fun m z hc=>?_) (fun m hc=>?_) <;>
  ·have hm:=m.2;have htk:(m.1.map ag.bool).take t.ae.length=m.1.map ag.bool:=bQ (by grind)
   simp only[B6,htk,EW,seval];exact⟨_,⟨m.1,rfl,hm,hc⟩,rfl⟩
 obtain⟨_,⟨m,rfl,h1⟩,h3⟩:=key;exact⟨m,az h3,h1⟩
def JE{A:List Node}{B:List Bool}(h:A.length=B.length)(n:Node)(b:Bool):G9 (A++[n]) (B++[b])=G9 A B+if b then n.data.length else 0:=by
 unfold G9;rw[List.zip_append h];simp
def VZ:∀(A:List Node)(B:List Bool),(∀n,n∈A->n.data.length<=4096)->G9 A B<=4096*A.length
 | [],_,_=>by simp[G9]
 |n::A,[],_=>by simp[G9]
 |n::A,b::B,h=>by
  have h1:=VZ A B fun x hx=>h x (aO _ hx)
  have h2:=h n aV;simp only[G9,List.zip_cons_cons,aP,mX,au] at h1 ⊢;split<;>omega
def ajr(t:Tree)(an:Int)(hr:Rt t):∃a b:Int,ar bN 187 [bq t,aF an] []=some (.tuple [aF a,aF b],[])/\(jU t.ae an).1<=a/\(jU t.ae an).2<=b:=by
 have h200:=hr.sz.ae
 have key:∃r:ag×aG,(∃a b:Int,r=(.tuple [aF a,aF b],[])/\(jU t.ae an).1<=a/\(jU t.ae an).2<=b)/\eV (ar bN) L7.results 0 [] L7.body (fe 0 [bq t,aF an]) []=some r:=by
  obtain⟨m,q,hm,hc⟩:=apZ t an (by omega) (fun n hn=>by have:=(hr.PD hn).1; omega) hr.jo.jv
  have qu:=cP q;have qd:=fun M=>alc t.ae t.next t.aj an (by omega) M
  have hu:=Qd hr hm hc;cases hb:((find t.ae an).isSome&&(aX t.ae an).kind==2)<;>rw[hb] at qd<;>simp only[bq,aJ] at qu<;>simp only[L7,acQ,bq,aJ,qd,qu,EW,seval]
  ·have h0:jU t.ae an=(0,0):=by unfold jU; rw[hb]; rfl
   exact⟨_,⟨_,_,rfl,by rw[h0]; exact cp 0,by rw[h0]; exact cp 0⟩,rfl⟩
  refine gH (xs:=m) (by omega) (fun j (s:Int×Int)=>s.1=nT (m.take j)/\s.2=G9 (t.ae.take j) (m.take j)) (fun s i=>[(2,b9 0),(7,hZ (m.map ag.bool)),(8,aF s.1),(9,aF s.2),(10,aF i)]) (fun _=>[bT [aY t.ae,aF t.next,aF t.aj]]) _ (fun s hs=>?_) (fun pre x post s e hx cz hw h0 _ hs hi=>?_) (0,0) (by simp[nT,G9])
  ·rw[bW,hm,bW] at hs;simp only[acQ,bw,EW,seval];exact⟨_,⟨_,_,rfl,by rw[hs.1]; exact hu.1,by rw[hs.2]; exact hu.2⟩,rfl⟩
  ·have hl:=(aq.1 hx).1;obtain⟨n,hn⟩:∃n,t.ae[pre.length]?=some n:=⟨_,ai (by omega)⟩
   have t1:m.take (pre.length+1)=m.take pre.length++[x]:=by rw[cC,hx]; rfl
   have t2:t.ae.take (pre.length+1)=t.ae.take pre.length++[n]:=by rw[cC,hn]; rfl
   have t3:(t.ae.take pre.length).length=(m.take pre.length).length:=by simp; omega
   have hnd:=(hr.PD (aQ hn)).2;have b1:nT (m.take pre.length)<=200:=aW mH (by simp; omega)
   have b2:=VZ (t.ae.take pre.length) (m.take pre.length) fun y hy=>(hr.PD (dI hy)).2
   have b3:(t.ae.take pre.length).length<=200:=by simp; omega
   cases x<;>simp only[acQ,cz,hx,hw,h0,hn,bG,aI,EW,seval]
   ·exact hi s (by rw[t1,t2,JE t3,hs.1,hs.2]; simp[nT])
   ·have w1:IntKind.i64.wrap (s.1+1)=s.1+1:=gn (by omega) (by omega)
    have w2:IntKind.i64.wrap (s.2+(n.data.length:Int))=s.2+(n.data.length:Int):=gn (by omega) (by omega)
    simp only[w1,w2];exact hi (s.1+1,s.2+(n.data.length:Int)) (by rw[t1,t2,JE t3,hs.1,hs.2]; simp[nT])
 obtain⟨_,⟨a,b,rfl,h1⟩,h3⟩:=key;exact⟨a,b,az h3,h1⟩
def aqd{t:Tree}{cE:Int->Nat}(h:cr t cE 0){l:List cF}(hq:oz l)(hl:l.length<=100000){an:Int}{n:Node}(hi0:find t.ae an=some n)(hk0:n.kind=2):ar bN 287 [bq t,cY l,aF an] []=some (aF (jN t.ae l an),[]):=by
 have ht:=h.ae;have hdl:=h.C2 hi0 hk0
 have key:∃r:ag×aG,r=(aF (jN t.ae l an),[])/\eV (ar bN) Mg.results 0 [] Mg.body (fe 0 [bq t,cY l,aF an]) []=some r:=by
  simp only[Mg,acY,bq,aJ,EW,seval];refine gH (xs:=List.replicate (t.ae.length+1) ()) (by simp; omega) (fun j (a:Int)=>∃y,find t.ae a=some y/\y.kind=2/\cE a+j=cE an/\jN t.ae l a=jN t.ae l an) (fun a i=>[(1,cY l),(3,b9 0),(7,aF a),(8,aF i)]) (fun _=>[bT [aY t.ae,aF t.next,aF t.aj]]) _ (fun a ha=>?_) (fun pre x post a e hx cz hw h0 _ ha hi=>?_) an ⟨n,hi0,hk0,by omega,rfl⟩
  ·obtain⟨_,_,_,h1,_⟩:=ha;simp at h1; omega
  ·obtain⟨y,y1,y2,y3,y4⟩:=ha
   have e1:((pre.length:Int)<=(t.ae.length:Int))=True:=by
    have:=of_eq_true cz;rw[kj] at this;simp only[fq,jc]; omega
   obtain⟨n,q,hn⟩:=ajs l a hl;have qf:=cP q;have qg:=fun M=>zN t.ae t.next t.aj a (by omega) M
   have hup:=Kw h l y1 y2;have hqi:=(Xz hq a).trans hn.symm;rw[y1] at qg;simp only[bh,bG,aI] at qg;cases h1:decide (0<=n)
   ·have h1':Fh l a=false:=by
     cases hc:Fh l a with
     |false=>rfl
     |true=>exact absurd (hqi.1 hc) (by simpa using h1)
    rw[h1'] at hup;cases h2:a==1<;>simp only[acY,e1,hw,qf,qg,h1,h2,EW,seval]
    ·have h2':a≠1:=by simpa using h2
     obtain⟨d1,p,p1,p2⟩:=h.oZ _ _ y1 y2 h2';refine hi _ ⟨p,p1,p2,by omega,?_⟩
     rw[<-y4,hup]; simp[h2']
    ·refine⟨_,?_,rfl⟩;rw[<-y4,hup]; simp[show a=1 by simpa using h2]
   ·have h1':Fh l a=true:=hqi.2 (by simpa using h1)
    rw[h1'] at hup;simp only[acY,e1,hw,qf,qg,h1,EW,seval];refine⟨_,?_,rfl⟩;rw[<-y4,hup]; rfl
 obtain⟨_,rfl,h3⟩:=key;exact az h3
def YI{l:List cF}(hl:l.length<=16){q:cF}{t:Tree}{k:List K}{R:List cF->Option (ag×aG)}
  (hx:∀(out:List cF) (d:Bool) z,out.length<=40->kr (ar bN) [.tmp 10,.tmp 11] 0 k ⟨.exit 0,(1,cY l)::(2,aF q.an)::(3,aF q.ae)::(4,aF q.bytes)::(17,.slice (.own 2) (out.map dU))::(18,.bool d)::z,[bT (aJ t),bT (aI (aX t.ae q.an)),.tick 3 out.length]⟩=R (out++qT q [] d)) :
  ∀(s:List cF×Bool),s.1.length<=0->eV (ar bN) [.tmp 10,.tmp 11] 0 k (.loop [1,2,3,4,17,18,19] XT) [(1,cY l),(2,aF q.an),(3,aF q.ae),(4,aF q.bytes),(17,.slice (.own 2) (s.1.map dU)),(18,.bool s.2),(19,aF 0)] [bT (aJ t),bT (aI (aX t.ae q.an)),.tick 3 s.1.length]=R (s.1++qT q l s.2):=by
 refine LW (xs:=l) (by omega) (fun m (s:List cF×Bool)=>s.1.length<=2*m) (fun post s=>s.1++qT q post s.2) (fun s i=>[(1,cY l),(2,aF q.an),(3,aF q.ae),(4,aF q.bytes),(17,.slice (.own 2) (s.1.map dU)),(18,.bool s.2),(19,aF i)]) (fun s=>[bT (aJ t),bT (aI (aX t.ae q.an)),.tick 3 s.1.length]) R (fun s hI=>?_) (fun pre x post s e hx' cz hw h0 hm hI hi=>?_)
 ·simp only[aJ,aI] at hx ⊢;simp only[CB,bw,EW,seval];exact hx s.1 s.2 _ (by omega)
 ·have hp:=(aq.1 hx').1;obtain⟨out,d⟩:=s;simp only at hI;have r1:cu (out.length+1) 24=True:=rb;have r2:cu (out.length+1+1) 24=True:=rb;rw[qT];simp only[aJ,aI] at hi ⊢;have i1:=hi (out++[q]++[x],true) (by simp; omega)
  have i2:=hi (out++[q],true) (by simp; omega)
  have i3:=hi (out++[x],d) (by simp; omega)
  have i4:=hi (out,d) (by simp only; omega)
  simp only[bu,aP,a8,aD,au,av,aL,fx,aR,aZ,dU,il] at i1 i2 i3 i4
  cases d<;>cases h1:decide (q.an<=x.an)<;>cases h2:x.an != q.an <;>
   simp only[CB,cz,hx',hw,h0,h1,h2,r1,r2,dU,il,c9,dw,dA,dp,dS,eT,af,aE,aw,fx,EW,seval]<;>first|exact i4|exact i3|exact i2|exact i1
def aok(t:Tree)(l:List cF)(an ae bytes:Int)(hr:Rt t)(hq:oz l)(hn:l.length<=16) :
  ∃m e,ar bN 113 [bq t,cY l,aF an,aF ae,aF bytes] []=some (.tuple [cY m,aF e],[])/\oz m/\m.length<=16/\∀y,y∈m->y∈l\/∃n,find t.ae y.an=some n/\n.kind=2:=by
 have ht:t.ae.length<=100000:=by have:=hr.sz.ae; omega
 obtain⟨a,b,qa,_⟩:=ajr t an hr;obtain⟨n,qn,hf⟩:=ajs l an (by omega)
 have qu:=cP qa;have qf:=cP qn;have qg:=fun M=>zN t.ae t.next t.aj an ht M
 have qd:=fun M=>alc t.ae t.next t.aj an ht M
 have hz:(find t.ae an).getD Node.zero=aX t.ae an:=rfl;rw[hz] at qg;simp only[bq,aJ] at qu;have hl:=fun {k R} hx=>YI (l:=l) hn (q:=⟨an,ae,bytes⟩) (t:=t) (k:=k) (R:=R) hx ([],decide (ae<0)) (aC 0)
 simp only[aJ,aI,a8,av] at hl
 have hneg:decide (ae<0) = !decide (0<=ae):=by
  rw[eD]; simp
 have sh:(0<=ae->n<0->l.length<16)->oz (qT ⟨an,ae,bytes⟩ l (decide (ae<0)))/\(qT ⟨an,ae,bytes⟩ l (decide (ae<0))).length<=16/\∀y,y∈qT ⟨an,ae,bytes⟩ l (decide (ae<0))->y∈l\/y.an=an:=by
  intro hh;rcases Int.lt_or_le ae 0 with h|h
  ·rw[jM h,y8];exact⟨hq.filter _,aW (bU _ _) hn,fun y hy => .inl (cm.1 hy).1⟩
  ·rw[kc (Int.not_lt.2 h)];obtain⟨g1,g2,g3,g4⟩:=FI ⟨an,ae,bytes⟩ l hq;refine⟨g1,?_,fun y hy=>(g2 y hy).elim (fun e => .inr (by rw[e])) .inl⟩
   rcases Int.lt_or_le n 0 with h'|h'
   ·have:=hh h h'; omega
   ·exact aW (g4 (hf.1 h')) hn
 cases h1:(find t.ae an).isSome<;>rw[h1] at qg qd
 ·refine⟨l,70,az ?_,hq,hn,fun _ => .inl⟩
  simp only[yl,CB,bq,aJ,bG,aI,qg,EW,seval]
 cases h2:(aX t.ae an).kind==2<;>rw[h2] at qd<;>simp only[j9,dG] at qd
 ·refine⟨l,73,az ?_,hq,hn,fun _ => .inl⟩
  simp only[yl,CB,bq,aJ,bG,aI,qg,qd,EW,seval]
 cases h3:decide (0<=ae)
 case' true =>
  cases h4:decide (ae<a)
  case true =>
   refine⟨l,90,az ?_,hq,hn,fun _ => .inl⟩
   simp only[yl,CB,bq,aJ,bG,aI,qg,qd,qu,qf,h3,hneg,h4,EW,seval]
  cases h5:decide (bytes<b)
  case true =>
   refine⟨l,90,az ?_,hq,hn,fun _ => .inl⟩
   simp only[yl,CB,bq,aJ,bG,aI,qg,qd,qu,qf,h3,hneg,h4,h5,EW,seval]
  cases h6:decide (n<0)
  case' true =>
   cases h7:decide (16<=(l.length:Int))
   case true =>
    refine⟨l,76,az ?_,hq,hn,fun _ => .inl⟩
    simp only[yl,CB,bq,aJ,bG,aI,qg,qd,qu,qf,h3,hneg,h4,h5,h6,h7,EW,seval]
 all_goals
  obtain⟨s1,s2,s3⟩:=sh (by intro g1 g2; simp only[bg,dP] at *; omega)
  refine⟨_,0,az ?_,s1,s2,fun y hy=>(s3 y hy).elim .inl fun e => .inr ⟨aX t.ae an,by rw[e]; cases hf':find t.ae an<;>simp_all [aX],by simpa using h2⟩⟩
  rw[hneg,h3] at hl
  first
   |simp only[yl,CB,bq,aJ,bG,aI,qg,qd,qu,qf,h3,hneg,h4,h5,h6,h7,EW,seval]
   |simp only[yl,CB,bq,aJ,bG,aI,qg,qd,qu,qf,h3,hneg,h4,h5,h6,EW,seval]
   |simp only[yl,CB,bq,aJ,bG,aI,qg,qd,qu,qf,h3,hneg,EW,seval]
  refine(hl (R:=fun m=>some (.tuple [cY m,aF 0],([]:aG))) (fun out d z ho=>?_)).trans (by first|rfl|(rw[hneg,h3]; rfl))
  have r1:cu (out.length+1) 24=True:=rb;cases d<;>simp only[CB,r1,qT,dU,il,bu,af,aE,aw,EW,seval]
  all_goals simp[dU,il]
end
def pf(c h:Int):List eB->Nat->Int
 | [],_ => -1
 |x::r,i=>if x.cH==c&&x.handle==h then i else pf c h r (i+1)
def yZ(l:List eB)(c h:Int):Int:=pf c h l 0
def rG(c h:Int):∀(l:List eB)(i:Nat),(pf c h l i = -1/\∀x,x∈l->(x.cH==c&&x.handle==h)=false) \/
  ∃(m:Nat) (x:eB),pf c h l i=((i+m:Nat):Int)/\l[m]?=some x/\(x.cH==c&&x.handle==h)=true
 | [],i => .inl ⟨rfl,by simp⟩
 |x::r,i=>by
  rw[pf];cases hx:x.cH==c&&x.handle==h
  ·rcases rG c h r (i+1) with ⟨h1,h2⟩|⟨m,y,h1,h2,h3⟩
   ·exact .inl ⟨by simpa using h1,fun y hy=>by rcases bC.1 hy with rfl|hy; exact hx; exact h2 y hy⟩
   ·exact .inr ⟨m+1,y,by simp only[af,aw,h1]; congr 1; omega,by simpa using h2,h3⟩
  ·exact .inr ⟨0,x,by simp,rfl,hx⟩
def H9(l:List eB)(an:Int):Int:=((l.countP fun x=>x.an==an:Nat):Int)
def wh(c h:Int)(x:eB):Bool:=decide (x.cH<c)||(x.cH==c&&decide (x.handle<h))
def rY(t:Tree)(l:List eB)(c h an:Int):List eB×Int :=
 if decide (c<0)||(decide (16<=c)||(decide (h<0)||decide (99<h))) then (l,1)
 else if !(find t.ae an).isSome||ep (aX t.ae an) then (l,70)
 else if (aX t.ae an).kind==2 then (l,72)
 else if decide (0<=yZ l c h) then (l,71)
 else if decide (64<=(l.length:Int)) then (l,76)
 else (l.take (kV (wh c h) l)++⟨c,h,an⟩::l.drop (kV (wh c h) l),0)
def Ou(c h:Int):(fun x=>decide (gF x c h<0))=wh c h:=by
 funext x;rw[eD];simp only[wh,bg,o8,cN,bn,eM]
def Vb{t:Tree}{l:List eB}(hl:tq l)(hn:l.length<=64)(c g an:Int):tq (rY t l c g an).1/\(rY t l c g an).1.length<=64:=by
 have h0:=IY (t:=t) hl hn c g an;unfold rY;split
 ·exact⟨hl,hn⟩
 rename_i h1;split
 ·exact⟨hl,hn⟩
 rename_i h2;split
 ·exact⟨hl,hn⟩
 rename_i h3;split
 ·exact⟨hl,hn⟩
 rename_i h4;split
 ·exact⟨hl,hn⟩
 rename_i h5
 have k1:¬(!zO c g)=true:=by
  simp only[cN,bg,lu,zO,gW,Bool.and_eq_false_iff,dP,Classical.not_not] at h1 ⊢;omega
 have k2:¬qy (fun x=>gF x c g==0) l (kV (fun x=>decide (gF x c g<0)) l)=true:=by
  intro hk;unfold qy at hk;split at hk
  ·rename_i z hz
   have hz':(z.cH==c&&z.handle==g)=true:=by
    have:=(Dh z c g).1 (by simpa using hk)
    simp[this.1,this.2]
   rcases rG c g l 0 with ⟨_,h6⟩|⟨m,_,h6,_⟩
   ·have:=h6 z (aQ hz);rw[hz'] at this; cases this
   ·apply h4;unfold yZ;rw[h6];simp
  ·cases hk
 unfold sq at h0;rw[aH k1,aH h2,aH h3,aH k2,aH h5,Ou] at h0;exact h0
def OU{t:Tree}(ht:∀i n,find t.ae i=some n->n.kind=1\/n.kind=2)(l:List eB)(c g an:Int){y:eB}(hy:y∈(rY t l c g an).1):y∈l\/(∃n,find t.ae y.an=some n/\n.kind=1)/\zO y.cH y.handle=true:=by
 unfold rY at hy;split at hy
 ·exact .inl hy
 rename_i h1;split at hy
 ·exact .inl hy
 rename_i h2;split at hy
 ·exact .inl hy
 rename_i h3;split at hy
 ·exact .inl hy
 split at hy
 ·exact .inl hy
 rcases bm.1 hy with hy|hy
 ·exact .inl (dI hy)
 rcases bC.1 hy with rfl|hy
 ·right;simp only[cN,lu,gW,Bool.not_eq_false] at h2;obtain⟨n,hn⟩:=ct.1 h2.1;refine⟨⟨n,hn,?_⟩,?_⟩
  case refine_2 =>
   simp only[cN,bg,lu] at h1;simp only[zO,bn,bg];omega
  have hnn:aX t.ae an=n:=by simp[aX,hn]
  rw[hnn] at h3;rcases ht _ _ hn with h|h
  ·exact h
  ·simp[h] at h3
 ·exact .inl (dr hy)
def OV(t:Tree)(l:List eB)(c g an:Int){y:eB}(hy:y∈l):y∈(rY t l c g an).1:=by
 unfold rY;split
 ·exact hy
 split
 ·exact hy
 split
 ·exact hy
 split
 ·exact hy
 split
 ·exact hy
 simp only;generalize (kV _ l)=k;rw[<-cD k l] at hy;rcases bm.1 hy with hy|hy
 ·exact dq _ hy
 ·exact eL _ (aO _ hy)
section
attribute [local irreducible] eV fZ je gK eo kr ar aU cA bH
def api(l:List eB)(c h:Int)(hn:l.length<=100000):ar bN 185 [fO l,aF c,aF h] []=some (aF (yZ l c h),[]):=by
 refine az ?_;have e0:yZ l c h=pf c h l (l.length-l.length):=by rw[Nat.sub_self]; rfl
 rw[e0];simp only[abl,acP,EW,seval];refine tD (xs:=l) (by omega) (fun post (_:Unit)=>pf c h post (l.length-post.length)) (fun _ i=>[(0,fO l),(1,aF c),(2,aF h),(7,aF i)]) (fun _=>[]) (fun n=>some (aF n,([]:aG))) (fun _=>?_) (fun pre x post _ e hx cz hw h0 hm hi=>?_) ()
 ·simp only[acP,bw,pf,EW,seval]
 ·have i1:=hi ();have e1:l.length-(x::post).length=pre.length:=by rw[e]; simp
  have e2:l.length-post.length=pre.length+1:=by rw[e]; simp; omega
  rw[e2] at i1;rw[e1,pf];cases h1:x.cH==c<;>cases h2:x.handle==h<;>simp only[acP,cz,hx,hw,h0,h1,h2,gx,iA,dG,c9,dw,af,aw,aE,EW,seval]<;>exact i1
def ad8 l c h hn:=cP (api l c h hn)
def apk(l:List eB)(an:Int)(hn:l.length<=100000):ar bN 189 [fO l,aF an] []=some (aF (H9 l an),[]):=by
 refine az ?_;simp only[abn,Ws,EW,seval];refine(LW (xs:=l) (by omega) (fun m n=>n<=m) (fun post (n:Nat)=>((n+post.countP fun x=>x.an==an:Nat):Int)) (fun n i=>[(0,fO l),(1,aF an),(5,aF n),(6,aF i)]) (fun _=>[]) (fun n=>some (aF n,([]:aG))) (fun n _=>?_) (fun pre x post n e hx cz hw h0 hm hI hi=>?_) 0 (by omega)).trans (by simp[H9])
 ·simp only[Ws,bw,List.countP_nil,EW,seval]
 ·have i1:=hi n (by omega)
  have i2:=hi (n+1) (by omega)
  have hl:=(aq.1 hx).1;have w1:IntKind.i64.wrap ((n:Int)+1)=((n+1:Nat):Int):=by rw[gn (by omega) (by omega)]; rfl
  cases h1:x.an==an
  ·simp only[jV,h1,af,aw,dk] at i1 ⊢;simp only[Ws,cz,hx,hw,h0,h1,gx,iA,EW,seval];exact i1
  ·have e2:n+(List.countP (fun x=>x.an==an) (x::post))=n+1+List.countP (fun x=>x.an==an) post:=by simp only[jV,h1,aE]; omega
   simp only[e2];simp only[Ws,cz,hx,hw,w1,h0,h1,gx,iA,EW,seval];exact i2
def arf l an hn:=cP (apk l an hn)
def aph(t:Tree)(an:Int)(ht:t.ae.length<=100000):ar bN 184 [bq t,aF an] []=some (.bool ((find t.ae an).isSome&&ep (aX t.ae an)),[]):=by
 refine az ?_;have q:=fun M=>zN t.ae t.next t.aj an ht M
 have hz:(find t.ae an).getD Node.zero=aX t.ae an:=rfl;rw[hz] at q;unfold ep;generalize aX t.ae an=n at q
 cases h1:(find t.ae an).isSome<;>rw[h1] at q<;>cases h2:n.kind==1<;>cases h3:n.cL==0 <;>
  simp only[abk,anm,bq,aJ,q,h2,h3,bG,aI,dG,c9,dw,EW,seval]
def alb(ae:List Node)(next aj an:Int)(h:ae.length<=100000)(M:aG):aU (ar bN) 184 [.agg [aY ae,aF next,aF aj],aF an] M=some (.bool ((find ae an).isSome&&ep (aX ae an)),M) :=
 cO (aph ⟨ae,next,aj⟩ an h) M
def ad6(ae:List Node)(next aj an:Int)(s:Bytes)(ht:Small ⟨ae,next,aj⟩)(M:aG):aU (ar bN) 178 [.agg [aY ae,aF next,aF aj],aF an,.str s] M =
  some (.agg [aY (cK ae an s),aF next,aF aj],M):=cO (apb ⟨ae,next,aj⟩ an s ht) M
def YR{T:List ag}{n:Node}{e:fp}(hn:n.aM.length<=100000){k:List K}{R:List fp->Bool->Option (ag×aG)}
  (hx:∀out done v q,out.length<=300000->kr (ar bN) [.dC 8 3] 0 k ⟨.exit 0,[(2,.str e.name),(4,b9 0),(8,b9 1),(9,b9 2),(11,b9 3),(12,.slice (.own 4) (out.map fW)),(13,.bool done),(14,v),(30,q)],[.cells T,.cells zT,bT (aI n),bT (fm e),.tick 3 out.length]⟩=R out done)
  (hT:∀B M,T.map (ag.kE B M)=T) :
  ∀(l pre out:List fp)(done:Bool),n.aM=pre++l->out.length+2*l.length<=300000->eV (ar bN) [.dC 8 3] 0 k (.loop [2,4,8,9,11,12,13,14] X4) [(2,.str e.name),(4,b9 0),(8,b9 1),(9,b9 2),(11,b9 3),(12,.slice (.own 4) (out.map fW)),(13,.bool done),(14,aF pre.length)] [.cells T,.cells zT,bT (aI n),bT (fm e),.tick 3 out.length]=R (vk e l out done).1 (vk e l out done).2:=by
 intro l;induction l with
 |nil =>
  intro pre out done h ho;rw[bt];simp only[F6,aI,ic,gU h,EN,seval];exact hx _ _ _ _ (by simp at ho; omega)
 |cons m r ih =>
  intro pre out done h ho;rw[bt];have dQ:pre.length+1<=100000:=by rw[h] at hn; simp at hn; omega
  have hw:=vY pre m;have hi:=fun out done ho=>ih (pre++[m]) out done (by rw[h]; simp) ho
  simp only[au] at ho;have r1:cu (out.length+1) 32=True:=rb;have r2:cu (out.length+1+1) 32=True:=rb;have hg:(!(strLt m.name e.name||m.name==e.name))=gtB m.name e.name:=rfl
  rw[vk];simp only[F6,hg,aI,ic,gd h,fc h,fm,hT,zT,EN,seval]
  repeat' ((first|apply bp|apply bR|apply dE)<;>intro hb<;>simp only[hb,EN,F6,fc h,hw,r1,r2,fm,hT,zT,hg,seval])
  all_goals try simp only[F6,fc h,hw,r1,r2,fm,hT,zT,hg,EN,seval]
  all_goals first
   |(refine iq ?_ ((hi (out++[e]++[m]) true (by simp; omega)).trans ?_)
     ·simp only[bu,aP,a8,aD,au,av]; rfl
     ·clear hi ih hx hw h hT hg; simp_all; done)
   |(refine iq ?_ ((hi (out++[m]) done (by simp; omega)).trans ?_)
     ·simp only[bu,aP,a8,aD,au,av]; rfl
     ·clear hi ih hx hw h hT hg; simp_all; done)
def ao7(t:Tree)(an:Int)(s:Bytes)(of:Int)(ht:Small t):ar bN 174 [bq t,aF an,.str s,aF of] []=some (bq (gG t an s of),[]):=by
 refine az ?_;have hd:=EK ht an;unfold gG;simp only[QW,F6,bq,aJ,zN,ht.ae,bG,EN,seval];generalize (find t.ae an).getD Node.zero=n at hd ⊢;simp only[F6,aI,EN,seval];refine(YR (e:=⟨s,of,t.aj⟩) (R:=fun out done=>some (bq ⟨eu t.ae { n with aM:=out++(if done then [] else [⟨s,of,t.aj⟩]) },t.next,kR (t.aj+1)⟩,[])) hd (fun out done v e ho=>?_) (fun B M=>by simp only[F6,EN,seval]) n.aM [] [] false rfl (by simp; omega)).trans (by simp[bq,aJ,wA])
 have r1:cu (out.length+1) 32=True:=rb;cases done
 ·simp only[F6,zT,aI,fm,r1,Zq,GA,ht.ae,EN,seval];simp[bq,aJ]
 ·simp only[F6,zT,aI,fm,r1,GA,ht.ae,EN,seval];simp[bq,aJ]
def XE(ae:List Node)(next aj an:Int)(s:Bytes)(of:Int)(ht:Small ⟨ae,next,aj⟩)(M:aG):aU (ar bN) 174 [.agg [aY ae,aF next,aF aj],aF an,.str s,aF of] M =
  some (bq (gG ⟨ae,next,aj⟩ an s of),M):=cO (ao7 ⟨ae,next,aj⟩ an s of ht) M
def YW{t:Tree}(ht:t.ae.length<=100000){k:List K}{R:Nat->Option (ag×aG)}
  (hx:∀(d:Nat) v q,kr (ar bN) [.tmp 4] 0 k ⟨.exit 0,[(1,v),(2,b9 0),(5,aF d),(13,q)],[bT (aJ t)]⟩=R d) :
  ∀(m:Nat)(an:Int)(d:Nat),d+m=201->eV (ar bN) [.tmp 4] 0 k (.loop [1,2,5] Yb) [(1,aF an),(2,b9 0),(5,aF d)] [bT (aJ t)]=R (vM t.ae m an d):=by
 intro m;induction m with
 |zero =>
  intro an d hd;rw[bt];have hd':((d:Int)<=200)=False:=by simp; omega
  simp only[JT,EN,seval]
  repeat' ((first|apply bp|apply bR|apply dE)<;>intro hb<;>simp only[hb,EN,JT,hd',seval])
  all_goals exact hx _ _ _
 |succ m ih =>
  intro an d hd;rw[bt];have hd':((d:Int)<=200)=True:=by simp; omega
  have hw:IntKind.i64.wrap ((d:Int)+1)=((d+1:Nat):Int):=by rw[gn (by omega) (by omega)]; rfl
  have hi:=fun an=>ih an (d+1) (by omega)
  rw[vM];simp only[JT,EN,seval];refine bR (fun hb=>?_) (fun hb=>?_)
  ·simp only[JT,hb,hd',hw,aJ,zN,ht,bG,aI,EN,seval];have h1:¬an=1:=by simpa using hb
   rw[aH h1];exact hi _
  ·simp only[JT,hb,hd',hw,aJ,zN,ht,bG,aI,EN,seval];have h1:an=1:=by simpa using hb
   rw[bc h1];exact hx _ _ _
def apf(t:Tree)(an:Int)(ht:t.ae.length<=100000):ar bN 182 [bq t,aF an] []=some (aF (o7 t.ae an),[]):=by
 refine az ?_;simp only[abi,JT,bq,EN,seval];exact YW (R:=fun(d:Nat)=>some (aF d,[])) ht (fun d v q=>by simp only[JT,EN,seval]) 201 an 0 rfl
def Oj(ae:List Node)(next aj an:Int)(h:ae.length<=100000)(M:aG):aU (ar bN) 182 [.agg [aY ae,aF next,aF aj],aF an] M=some (aF (o7 ae an),M) :=
 cO (apf ⟨ae,next,aj⟩ an h) M
def apU(t:Tree)(n:Node)(ht:Small t):ar bN 246 [bq t,bG n] []=some (.bool (Dc t n),[]):=by
 refine az ?_;simp only[abT,ahs,bq,aJ,bG,aI,Oj,ht.ae,EN,seval];unfold Dc
 repeat' ((first|apply bp|apply bR|apply dE)<;>intro hb<;>simp only[hb,EN,ahs,Oj,ht.ae,seval])
 all_goals simp_all
def art(ae:List Node)(next aj a b c:Int)(d:Bytes)(e:List fp)(u:Int)(h:Small ⟨ae,next,aj⟩)(M:aG):aU (ar bN) 246 [.agg [aY ae,aF next,aF aj],.agg [aF a,aF b,aF c,cR d,ic e,aF u]] M =
  some (.bool (Dc ⟨ae,next,aj⟩ ⟨a,b,c,d,e,u⟩),M):=cO (apU ⟨ae,next,aj⟩ ⟨a,b,c,d,e,u⟩ h) M
def ao6(t:Tree)(an:Int)(s:Bytes)(ht:Small t)(hs:s.length<=100000):ar bN 173 [bq t,aF an,.str s] []=some (aF (nW t an s),[]):=by
 refine az ?_;have hd:=tg ht an;have ht':Small ⟨t.ae,t.next,t.aj⟩:=ht
 simp only[abd,F5,bq,aJ,XF,ht.ae,bG,aI,EN,seval];unfold nW;refine bp (fun hb=>?_) (fun hb=>?_)
 ·simp only[F5,EN,seval];simp_all
 ·simp only[F5,k97,hs,EN,seval];refine bp (fun hb'=>?_) (fun hb'=>?_)
  ·simp only[F5,EN,seval];simp_all
  ·simp only[F5,ad7,hd,EN,seval];rcases sV s (gr t.ae an).1.aM 0 with ⟨h1,h2⟩|⟨m,n,h1,h2,h3⟩
   ·rw[h2];simp only[F5,art,ht',EN,seval];refine bp (fun hb''=>?_) (fun hb''=>?_)
    ·simp only[F5,EN,seval];simp_all
    ·simp only[F5,EN,seval];simp_all
   ·rw[h3];simp only[F5,EN,seval];simp_all
def ad4(ae:List Node)(next aj an:Int)(s:Bytes)(ht:Small ⟨ae,next,aj⟩)(hs:s.length<=100000)(M:aG):aU (ar bN) 173 [.agg [aY ae,aF next,aF aj],aF an,.str s] M =
  some (aF (nW ⟨ae,next,aj⟩ an s),M):=cO (ao6 ⟨ae,next,aj⟩ an s ht hs) M
def ak8(ae:List Node)(next aj a b c u:Int)(h:ae.length<=100000)(M:aG):aU (ar bN) 175 [.agg [aY ae,aF next,aF aj],.agg [aF a,aF b,aF c,hZ [],hZ [],aF u]] M =
  some (.agg [aY (eu ae ⟨a,b,c,[],[],u⟩),aF next,aF aj],M):=GA ae next aj a b c [] [] u h M
def Pb{t:Tree}(hz:Sz 1000 t)(k u next aj a c:Int):Small ⟨eu t.ae ⟨a,k,c,[],[],u⟩,next,aj⟩:=(hz.with (by simp) (by simp) next aj).small (by omega)
set_option maxHeartbeats 1000000 in
def aoe(t:Tree)(an:Int)(s:Bytes)(kind:Int)(hz:Sz 1000 t)(hs:s.length<=100000):ar bN 106 [bq t,aF an,.str s,aF kind] []=some (.tuple [bq (rl t an s kind).1,aF (rl t an s kind).2.1,aF (rl t an s kind).2.2],[]):=by
 obtain⟨ae,next,aj⟩:=t
 refine az ?_;have ht:Small ⟨ae,next,aj⟩:=hz.small (by omega)
 have hn:ae.length<=100000:=ht.ae;have hw:=fun k u next' cookie' a c=>Pb hz k u next' cookie' a c
 simp only[aaM,ahc,bq,aJ,ad4,ht,hs,EN,seval]
 repeat' ((first|apply bp|apply bR|apply dE)<;>intro hb<;>simp only[hb,EN,ahc,ad4,ht,hs,hn,ak8,XE,hw,bq,aJ,seval])
 all_goals (clear hw; simp_all only[rl,bq,aJ,pE,↓reduceIte,reduceCtorEq,ak]; done)
def afG{t:Tree}{of:Int}(ht:t.ae.length<=100000){k:List K}{R:Bool->Option (ag×aG)}
  (hx:∀e,kr (ar bN) [.tmp 6] 0 k ⟨.exit 0,e,[bT (aJ t)]⟩=R false) (hr:∀b,kr (ar bN) [.tmp 6] 0 k ⟨.ret,[(6,.bool b)],[bT (aJ t)]⟩=R b) :
  ∀(m:Nat)(an:Int)(d:Nat),d+m=t.ae.length+1->eV (ar bN) [.tmp 6] 0 k (.loop [1,2,3,7] afm) [(1,aF an),(2,aF of),(3,b9 0),(7,aF d)] [bT (aJ t)]=R (mw t.ae of m an):=by
 intro m;induction m with
 |zero =>
  intro an d hd;rw[bt];have hd':((d:Int)<=(t.ae.length:Int))=False:=by simp; omega
  simp only[WC,aJ,aY,hd',EN,seval];exact hx _
 |succ m ih =>
  intro an d hd;rw[bt];have hd':((d:Int)<=(t.ae.length:Int))=True:=by simp; omega
  have hw:IntKind.i64.wrap ((d:Int)+1)=((d+1:Nat):Int):=by rw[gn (by omega) (by omega)]; rfl
  have hi:=fun an=>ih an (d+1) (by omega)
  rw[mw];simp only[WC,aJ,aY,hd',EN,seval];refine bp (fun hb=>?_) (fun hb=>?_)
  ·have h1:an=of:=by simpa using hb
   simp only[WC,EN,seval];rw[bc h1];exact hr _
  ·have h1:¬an=of:=by simpa using hb
   simp only[WC,EN,seval];rw[aH h1];refine bp (fun hb=>?_) (fun hb=>?_)
   ·have h1:an=1:=by simpa using hb
    simp only[WC,EN,seval];rw[bc h1];exact hr _
   ·have h1:¬an=1:=by simpa using hb
    simp only[WC,hw,zN,ht,bG,aI,EN,seval];rw[aH h1];exact hi _
def c39(t:Tree)(an of:Int)(ht:t.ae.length<=100000):ar bN 39 [bq t,aF an,aF of] []=some (.bool (gR t.ae an of),[]):=by
 refine az ?_;simp only[ako,WC,bq,EN,seval];exact afG (R:=fun b=>some (.bool b,[])) ht (fun e=>by simp only[WC,EN,seval]) (fun b=>by simp only[WC,EN,seval]) (t.ae.length+1) an 0 (by omega)
def k39(ae:List Node)(next aj an of:Int)(h:ae.length<=100000)(M:aG):aU (ar bN) 39 [.agg [aY ae,aF next,aF aj],aF an,aF of] M=some (.bool (gR ae an of),M) :=
 cO (c39 ⟨ae,next,aj⟩ an of h) M
def aqT(ae:List Node)(next aj an:Int)(s:Bytes)(kind:Int)(hz:Sz 1000 ⟨ae,next,aj⟩)(hs:s.length<=100000)(M:aG):aU (ar bN) 106 [.agg [aY ae,aF next,aF aj],aF an,.str s,aF kind] M =
  some (.tuple [bq (rl ⟨ae,next,aj⟩ an s kind).1,aF (rl ⟨ae,next,aj⟩ an s kind).2.1,aF (rl ⟨ae,next,aj⟩ an s kind).2.2],M):=cO (aoe ⟨ae,next,aj⟩ an s kind hz hs) M
def aod(t:Tree)(an to:Int)(s:Bytes)(hz:Sz 1000 t)(hs:s.length<=100000):ar bN 104 [bq t,aF an,aF to,.str s] []=some (.tuple [bq (Cd t an to s).1,aF (Cd t an to s).2],[]):=by
 obtain⟨ae,next,aj⟩:=t
 refine az ?_;have ht:Small ⟨ae,next,aj⟩:=hz.small (by omega)
 have hn:ae.length<=100000:=ht.ae;have hf:=hz.find an;have hw':∀l,Small ⟨eu ae { aX ae an with cL:=l },next,aj⟩:=fun l=>(hz.with (n:={ aX ae an with cL:=l }) (iG hf.1) hf.2 next aj).small (by omega)
 simp only[aaL,ahb,bq,aJ,zN,hn,bG,aI,EN,seval]
 repeat' ((first|apply bp|apply bR|apply dE)<;>intro hb<;>simp only[hb,EN,ahb,ad4,ht,hs,hn,GA,XE,hw',bq,aJ,seval])
 all_goals (clear hw' hf; simp_all only[Cd,bq,aJ,pE,↓reduceIte,reduceCtorEq,ak]; done)
def aqS(ae:List Node)(next aj an to:Int)(s:Bytes)(hz:Sz 1000 ⟨ae,next,aj⟩)(hs:s.length<=100000)(M:aG):aU (ar bN) 104 [.agg [aY ae,aF next,aF aj],aF an,aF to,.str s] M =
  some (.tuple [bq (Cd ⟨ae,next,aj⟩ an to s).1,aF (Cd ⟨ae,next,aj⟩ an to s).2],M):=cO (aod ⟨ae,next,aj⟩ an to s hz hs) M
def apa(t:Tree)(an:Int)(ht:Small t):ar bN 177 [bq t,aF an] []=some (bq ⟨dY t.ae an,t.next,t.aj⟩,[]):=by
 obtain⟨ae,next,aj⟩:=t
 refine az ?_;have hn:ae.length<=100000:=ht.ae;simp only[abe,ahm,bq,aJ,zN,hn,bG,aI,EN,seval]
 repeat' ((first|apply bp|apply bR|apply dE)<;>intro hb<;>simp only[hb,EN,ahm,hn,GA,alu,bq,aJ,seval])
 all_goals (simp_all only[dY,bq,aJ,pE,↓reduceIte,reduceCtorEq,ak]; done)
def ad5(ae:List Node)(next aj an:Int)(ht:Small ⟨ae,next,aj⟩)(M:aG):aU (ar bN) 177 [.agg [aY ae,aF next,aF aj],aF an] M =
  some (.agg [aY (dY ae an),aF next,aF aj],M):=cO (apa ⟨ae,next,aj⟩ an ht) M
def aof(t:Tree)(an:Int)(s:Bytes)(hz:Sz 1000 t)(hs:s.length<=100000):ar bN 107 [bq t,aF an,.str s] []=some (.tuple [bq (Aj t an s).1,aF (Aj t an s).2.1,aF (Aj t an s).2.2],[]):=by
 obtain⟨ae,next,aj⟩:=t
 refine az ?_;have ht:Small ⟨ae,next,aj⟩:=hz.small (by omega)
 have hn:ae.length<=100000:=ht.ae;have hl:Small ⟨cK ae an s,next,aj⟩:=(hz.left an s next aj).small (by omega)
 simp only[aaN,ahd,bq,aJ,XB,ht,hs,bG,aI,EN,seval]
 repeat' ((first|apply bp|apply bR|apply dE)<;>intro hb<;>simp only[hb,EN,ahd,hn,ht,hs,zN,ad6,ad5,hl,bG,aI,bq,aJ,seval])
 all_goals (simp_all only[Aj,bq,aJ,pE,↓reduceIte,reduceCtorEq,ak]; done)
def aqU(ae:List Node)(next aj an:Int)(s:Bytes)(hz:Sz 1000 ⟨ae,next,aj⟩)(hs:s.length<=100000)(M:aG):aU (ar bN) 107 [.agg [aY ae,aF next,aF aj],aF an,.str s] M =
  some (.tuple [bq (Aj ⟨ae,next,aj⟩ an s).1,aF (Aj ⟨ae,next,aj⟩ an s).2.1,aF (Aj ⟨ae,next,aj⟩ an s).2.2],M):=cO (aof ⟨ae,next,aj⟩ an s hz hs) M
def ape(t:Tree)(x:Node)(y:Int)(ht:Small t):ar bN 181 [bq t,bG x,aF y] []=some (aF (uK t.ae x.kind y),[]):=by
 obtain⟨ae,next,aj⟩:=t
 refine az ?_;have hn:ae.length<=100000:=ht.ae;simp only[abh,ahn,bq,aJ,zN,hn,bG,aI,EN,seval]
 repeat' ((first|apply bp|apply bR|apply dE)<;>intro hb<;>simp only[hb,EN,ahn,seval])
 all_goals (simp_all only[uK,pE,↓reduceIte,reduceCtorEq,ak]; done)
def ak9(ae:List Node)(next aj a b c:Int)(d:Bytes)(e:List fp)(u y:Int)(ht:Small ⟨ae,next,aj⟩)(M:aG):aU (ar bN) 181 [.agg [aY ae,aF next,aF aj],.agg [aF a,aF b,aF c,cR d,ic e,aF u],aF y] M =
  some (aF (uK ae b y),M):=cO (ape ⟨ae,next,aj⟩ ⟨a,b,c,d,e,u⟩ y ht) M
def aoo(t:Tree)(an:Int)(data:Bytes)(ht:Small t)(hd:data.length<=100000):ar bN 118 [bq t,aF an,cR data] []=some (.tuple [bq (rf t an data).1,aF (rf t an data).2],[]):=by
 obtain⟨ae,next,aj⟩:=t
 refine az ?_;have hn:ae.length<=100000:=ht.ae;have r1:cu data.length 1=True:=rb;simp only[QL,ahg,bq,aJ,zN,hn,bG,aI,EN,seval]
 repeat' ((first|apply bp|apply bR|apply dE)<;>intro hb<;>simp only[hb,EN,ahg,hn,r1,GA,bq,aJ,seval])
 all_goals (simp_all only[rf,bq,aJ,pE,↓reduceIte,reduceCtorEq,ak]; done)
def akZ(ae:List Node)(next aj an:Int)(data:Bytes)(ht:Small ⟨ae,next,aj⟩)(hd:data.length<=100000)(M:aG):aU (ar bN) 118 [.agg [aY ae,aF next,aF aj],aF an,cR data] M =
  some (.tuple [bq (rf ⟨ae,next,aj⟩ an data).1,aF (rf ⟨ae,next,aj⟩ an data).2],M):=cO (aoo ⟨ae,next,aj⟩ an data ht hd) M
def apm(t:Tree)(an:Int)(ht:Small t):ar bN 190 [bq t,aF an] []=some (.tuple [bq (jO t an).1,aF (jO t an).2],[]):=by
 obtain⟨ae,next,aj⟩:=t
 refine az ?_;have hn:ae.length<=100000:=ht.ae;simp only[abo,aho,bq,aJ,zN,hn,bG,aI,EN,seval]
 repeat' ((first|apply bp|apply bR|apply dE)<;>intro hb<;>simp only[hb,EN,aho,hn,alu,bq,aJ,seval])
 all_goals (simp_all only[jO,bq,aJ,pE,↓reduceIte,reduceCtorEq,ak]; done)
def ald(ae:List Node)(next aj an:Int)(ht:Small ⟨ae,next,aj⟩)(M:aG):aU (ar bN) 190 [.agg [aY ae,aF next,aF aj],aF an] M =
  some (.tuple [bq (jO ⟨ae,next,aj⟩ an).1,aF (jO ⟨ae,next,aj⟩ an).2],M):=cO (apm ⟨ae,next,aj⟩ an ht) M
def c48:ar bN 48 [] []=some (bq wC,[]):=by
 refine az ?_;simp only[akr,E48,EN,seval];rfl
def k48:=cP c48
def YX{ae:List Node}{next aj an at' d:Int}(ht:ae.length<=100000){k:List K}{R:Int->Option (ag×aG)}
  (hx:∀most v q,kr (ar bN) [.tmp 6] 0 k ⟨.exit 0,[(1,aF an),(2,aF at'),(3,b9 0),(7,aF most),(8,aF d),(9,v),(19,q)],[bT (aJ ⟨ae,next,aj⟩)]⟩=R most) :
  ∀(l pre:List Node)(most:Int),ae=pre++l->eV (ar bN) [.tmp 6] 0 k (.loop [1,2,3,7,8,9] Yc) [(1,aF an),(2,aF at'),(3,b9 0),(7,aF most),(8,aF d),(9,aF pre.length)] [bT (aJ ⟨ae,next,aj⟩)]=R (vP ae an at' d l most):=by
 intro l;induction l with
 |nil =>
  intro pre most h;rw[bt];simp only[PK,aJ,gU h,EN,seval];exact hx _ _ _
 |cons n r ih =>
  intro pre most h;rw[bt];have dQ:pre.length+1<=100000:=by rw[h] at ht; simp at ht; omega
  have hw:=vY pre n;have hi:=fun most=>ih (pre++[n]) most (by rw[h]; simp)
  rw[vP];simp only[aJ] at hi;generalize hst:rU ae an at' d n most=m1;simp only[PK,aJ,gd h,fc h,aI,EN,seval]
  repeat' ((first|apply bp|apply bR|apply dE)<;>intro hb<;>simp only[hb,EN,PK,hw,k39,Oj,ht,aI,seval])
  all_goals refine iq ?_ (hi m1)
  all_goals congr 1
  all_goals (subst hst; clear hi ih hx hw h ht; simp_all only[rU,kR,gt_iff_lt,aD,au,av,aL,pE,↓reduceIte,reduceCtorEq,ak]; done)
def apg(t:Tree)(an at':Int)(ht:t.ae.length<=100000):ar bN 183 [bq t,aF an,aF at'] []=some (aF (BF t.ae an at'),[]):=by
 obtain⟨ae,next,aj⟩:=t
 have ht:ae.length<=100000:=ht;refine az ?_;simp only[abj,PK,bq,aJ,Oj,ht,EN,seval];exact YX (R:=fun z=>some (aF z,[])) ht (fun most v q=>by simp only[PK,EN,seval]) ae [] 0 rfl
def ala(ae:List Node)(next aj an at':Int)(h:ae.length<=100000)(M:aG):aU (ar bN) 183 [.agg [aY ae,aF next,aF aj],aF an,aF at'] M=some (aF (BF ae an at'),M) :=
 cO (apg ⟨ae,next,aj⟩ an at' h) M
set_option maxHeartbeats 2000000 in
def aoh(t:Tree)(jw:Int)(s:Bytes)(to:Int)(nm:Bytes)(hz:Sz 1000 t)(hs:s.length<=100000)(ha:nm.length<=100000):ar bN 109 [bq t,aF jw,.str s,aF to,.str nm] [] =
  some (.tuple [bq (wE t jw s to nm).1,aF (wE t jw s to nm).2.1,aF (wE t jw s to nm).2.2],[]):=by
 obtain⟨ae,next,aj⟩:=t
 have ht:Small ⟨ae,next,aj⟩:=hz.small (by omega)
 have hn:ae.length<=100000:=ht.ae;have hd:(gr ae to).1.aM.length<=100000:=tg ht to;have z1:Sz 1001 ⟨cK ae jw s,next,aj⟩:=hz.left jw s next aj
 have z2:Sz 1002 ⟨cK (cK ae jw s) to nm,next,aj⟩:=z1.left to nm next aj
 have z3:∀y,Sz 1003 ⟨dY (cK (cK ae jw s) to nm) y,next,aj⟩:=fun y=>z2.unnamed y next aj
 have hx:=hz.find (dX ae jw s).1;have z4:∀y,Sz 1004 ⟨eu (dY (cK (cK ae jw s) to nm) y) { aX ae (dX ae jw s).1 with up:=to },next,aj⟩:=fun y=>(z3 y).with (n:={ aX ae (dX ae jw s).1 with up:=to }) (aW hx.1 (by omega)) hx.2 next aj
 have z5:Sz 1002 ⟨eu (cK ae jw s) { aX ae (dX ae jw s).1 with up:=to },next,aj⟩:=z1.with (n:={ aX ae (dX ae jw s).1 with up:=to }) (aW hx.1 (by omega)) hx.2 next aj
 have s1:=z1.small (by omega)
 have s2:=z2.small (by omega)
 have s3:=fun y=>(z3 y).small (by omega)
 have s4:=fun y=>(z4 y).small (by omega)
 have s5:=z5.small (by omega)
 have n1:(cK ae jw s).length<=100000:=s1.ae;have n3:∀y,(dY (cK (cK ae jw s) to nm) y).length<=100000:=fun y=>(s3 y).ae
 clear z1 z2 z3 z4 z5 hx;refine az ?_;simp only[aaP,CA,bq,aJ,XB,ht,hs,EN,seval];refine bp (fun hb0=>?_) (fun hb0=>?_)
 ·simp only[CA,hb0,EN,seval];clear s1 s2 s3 s4 s5 n1 n3;simp_all only[wE,bq,aJ,pE,↓reduceIte,reduceCtorEq,ak]
 simp only[CA,hb0,XF,hn,bG,aI,EN,seval];refine bp (fun hb1=>?_) (fun hb1=>?_)
 ·simp only[CA,hb1,EN,seval];clear s1 s2 s3 s4 s5 n1 n3;simp_all only[wE,bq,aJ,pE,↓reduceIte,reduceCtorEq,ak]
 simp only[CA,hb1,k97,ha,EN,seval];refine bp (fun hb2=>?_) (fun hb2=>?_)
 ·simp only[CA,hb2,EN,seval];clear s1 s2 s3 s4 s5 n1 n3;simp_all only[wE,bq,aJ,pE,↓reduceIte,reduceCtorEq,ak]
 simp only[CA,hb2,ad7,hd,EN,seval];rcases sV nm (gr ae to).1.aM 0 with ⟨h1,h2⟩|⟨m,n,h1,h2,h3⟩
 ·have hu:dB (gr ae to).1.aM nm=0:=by simp[dB,h1]
  rw[h2];simp only[CA,EN,seval]
  repeat' ((first|apply bp|apply bR|apply dE)<;>intro hb<;>simp only[hb,EN,CA,zN,hn,ht,bG,aI,k39,ak9,Oj,ala,ad6,ad5,GA,XE,s1,s2,s3,s4,s5,n1,n3,bq,aJ,seval])
  all_goals (clear s1 s2 s3 s4 s5 n1 n3 h2; simp_all only[wE,jQ,manyN,hu,bq,aJ,pE,↓reduceIte,reduceCtorEq,ak]; done)
 ·have hu:dB (gr ae to).1.aM nm=n.an:=by simp[dB,h2]
  rw[h3];simp only[CA,h1,fm,EN,seval]
  repeat' ((first|apply bp|apply bR|apply dE)<;>intro hb<;>simp only[hb,EN,CA,zN,hn,ht,bG,aI,k39,ak9,Oj,ala,ad6,ad5,GA,XE,s1,s2,s3,s4,s5,n1,n3,bq,aJ,seval])
  all_goals (clear s1 s2 s3 s4 s5 n1 n3 h3; simp_all only[wE,jQ,manyN,hu,bq,aJ,pE,↓reduceIte,reduceCtorEq,ak]; done)
def aqV(ae:List Node)(next aj jw:Int)(s:Bytes)(to:Int)(nm:Bytes)(hz:Sz 1000 ⟨ae,next,aj⟩)(hs:s.length<=100000)(ha:nm.length<=100000)(M:aG):aU (ar bN) 109 [.agg [aY ae,aF next,aF aj],aF jw,.str s,aF to,.str nm] M =
  some (.tuple [bq (wE ⟨ae,next,aj⟩ jw s to nm).1,aF (wE ⟨ae,next,aj⟩ jw s to nm).2.1,aF (wE ⟨ae,next,aj⟩ jw s to nm).2.2],M):=cO (aoh ⟨ae,next,aj⟩ jw s to nm hz hs ha) M
def UF{α:Type}(lt:α->Bool)(x:α)(l:List α):kV lt (x::l)=if lt x then kV lt l+1 else 0:=by
 unfold kV;rw[hV];split<;>simp
def YH{l:List eB}(hn:l.length<=100000){c h an:Int}{t:Tree}{n:Node}{i:Nat}{k:List K}{R:Option (ag×aG)}
  (hx:∀z,kr (ar bN) [.tmp 10,.tmp 11] 0 k ⟨.exit 0,(1,fO l)::(2,aF c)::(3,aF h)::(4,aF an)::(14,aF i)::z,[bT (aJ t),bT (aI n)]⟩=R) :
  ∀(rest pre:List eB),l=pre++rest->pre.length+kV (wh c h) rest=i->eV (ar bN) [.tmp 10,.tmp 11] 0 k (.loop [1,2,3,4,14] XR) [(1,fO l),(2,aF c),(3,aF h),(4,aF an),(14,aF pre.length)] [bT (aJ t),bT (aI n)]=R:=by
 simp only[aJ,aI] at hx ⊢;intro rest;induction rest with
 |nil =>
  intro pre e hi;obtain rfl:pre.length=i:=by simpa[kV] using hi
  rw[bt];simp only[F3,gU e,EW,seval];exact hx _
 |cons x r ih =>
  intro pre e hi;rw[bt];have dQ:pre.length+1<=100000:=by rw[e] at hn; simp at hn; omega
  have hw:=vY pre x;have i1:=ih (pre++[x]) (by rw[e]; simp)
  have h0:((pre.length:Int)<0)=False:=by simp
  simp only[aD,au,av,aL] at i1;rw[UF] at hi;cases hl:wh c h x<;>rw[hl] at hi
  ·obtain rfl:pre.length=i:=by simpa using hi
   unfold wh at hl;cases h1:decide (x.cH<c)<;>cases h2:x.cH==c<;>cases h3:decide (x.handle<h)<;>rw[h1,h2,h3] at hl<;>first|(cases hl; done)|skip
   all_goals
    simp only[F3,gd e,fc e,hw,h0,h1,h2,h3,gx,iA,dS,dA,eT,dp,dG,c9,dw,aE,af,aw,EW,seval];exact hx _
  ·have i1:=i1 (by simp at hi; omega)
   unfold wh at hl;cases h1:decide (x.cH<c)<;>cases h2:x.cH==c<;>cases h3:decide (x.handle<h)<;>rw[h1,h2,h3] at hl<;>first|(cases hl; done)|skip
   all_goals
    simp only[F3,gd e,fc e,hw,h0,h1,h2,h3,gx,iA,dS,dA,eT,dp,dG,c9,dw,aE,af,aw,EW,seval];exact i1
def aoj(t:Tree)(l:List eB)(c h an:Int)(ht:t.ae.length<=100000)(hn:l.length<=100000):ar bN 112 [bq t,fO l,aF c,aF h,aF an] []=some (.tuple [fO (rY t l c h an).1,aF (rY t l c h an).2],[]):=by
 refine az ?_;have qg:=fun M=>zN t.ae t.next t.aj an ht M
 have qo:=fun M=>alb t.ae t.next t.aj an ht M
 have qp:=fun M=>ad8 l c h hn M
 have hz:(find t.ae an).getD Node.zero=aX t.ae an:=rfl;rw[hz] at qg
 obtain⟨A,B,hl,hA⟩:∃A B,l=A++B/\kV (wh c h) l=A.length:=⟨l.take (kV (wh c h) l),l.drop (kV (wh c h) l),by simp,by
  rw[gi];have:kV (wh c h) l<=l.length:=by unfold kV; exact(List.takeWhile_prefix _).length_le
  omega⟩
 have hlo:=fun {k R} hx=>YH (t:=t) (n:=aX t.ae an) (c:=c) (h:=h) (an:=an) (i:=A.length) hn (k:=k) (R:=R) hx l [] rfl (by simpa using hA)
 unfold rY;rw[hA];have a1:l.take A.length=A:=by rw[hl]; simp
 have a2:l.drop A.length=B:=by rw[hl]; simp
 have a3:((A.length:Int)<=(l.length:Int))=True:=by rw[hl]; simp; omega
 have hal:A.length+B.length<=100000:=by rw[hl] at hn; simpa using hn
 have r1:cu A.length 24=True:=rb;have r2:cu (A.length+1) 24=True:=rb;have r3:cu (A.length+1+B.length) 24=True:=rb;generalize aX t.ae an=n at qg qo hlo;generalize (find t.ae an).isSome=is at qg qo;generalize yZ l c h=p at qp
 cases h1:decide (c<0)<;>cases h2:decide (16<=c)<;>cases h3:decide (h<0)<;>cases h4:decide (99<h) <;>
  simp only[QJ,F3,bq,aJ,qg,h1,h2,h3,h4,bG,aI,dS,dA,eT,dp,eH,aE,af,aw,EW,seval]
 cases is<;>cases h5:ep n<;>rw[h5] at qo<;>simp only[j9,gq,dG,c9,dw] at qo <;>
  simp only[F3,qo,dS,dA,eT,dp,eH,aE,af,aw,EW,seval]
 cases h6:n.kind==2<;>simp only[F3,h6,aE,af,aw,EW,seval]
 cases h7:decide (0<=p)<;>simp only[F3,qp,h7,aE,af,aw,EW,seval]
 cases h8:decide (64<=(l.length:Int))<;>simp only[F3,h8,aE,af,aw,EW,seval]
 simp only[av,aL,aJ,aI] at hlo;refine hlo (fun z=>?_)
 rw[a1,a2];have a1':(l.map gx).take A.length=A.map gx:=by rw[<-fj,a1]
 have a2':(l.map gx).drop A.length=B.map gx:=by rw[<-ju,a2]
 have a5:(l.map gx).take l.length=l.map gx:=by rw[<-fj,bW]
 simp only[F3,a1',a2',a3,a5,r1,r2,r3,cp,EW,seval];simp[gx,iA]
def aqW(ae:List Node)(next aj:Int)(l:List eB)(c h an:Int)(ht:ae.length<=100000)(hn:l.length<=100000)(M:aG):aU (ar bN) 112 [.agg [aY ae,aF next,aF aj],fO l,aF c,aF h,aF an] M=some (.tuple [fO (rY ⟨ae,next,aj⟩ l c h an).1,aF (rY ⟨ae,next,aj⟩ l c h an).2],M):=cO (aoj ⟨ae,next,aj⟩ l c h an ht hn) M
structure Ax(t:Tree)(l:List eB)(u:Tree)(m:List eB):Prop where
 rt:Rt u
 jv:tq m
 len:m.length<=64
 mem:∀y,y∈m->y∈l/\(tj t.ae y.an->tj u.ae y.an)
 Ve:(∀n,n∈t.ae->ep n=true->mP l n.an=true)->∀n,n∈u.ae->ep n=true->mP m n.an=true
 dir:∀i,Wi t.ae i->Wi u.ae i
 one:∀Q,OD t Q->OD u Q
 use:∀q,kW u q=kW t q
def Ax.refl{t:Tree}{l:List eB}(ht:Rt t)(hl:tq l)(hn:l.length<=64):Ax t l t l:=⟨ht,hl,hn,fun _ hy=>⟨hy,id⟩,id,fun _=>id,fun _=>id,fun _=>rfl⟩
theorem Ax.trans{t u v:Tree}{l m k:List eB}(h:Ax t l u m)(g:Ax u m v k):Ax t l v k:=⟨g.rt,g.jv,g.len,fun y hy=>⟨(h.mem y (g.mem y hy).1).1,fun hf=>(g.mem y hy).2 ((h.mem y (g.mem y hy).1).2 hf)⟩,fun ho=>g.Ve (h.Ve ho),fun i hi=>g.dir i (h.dir i hi),fun Q hQ=>g.one Q (h.one Q hQ),fun q=>(g.use q).trans (h.use q)⟩
def xL{l:List eB}{y:eB}(h:y∈l){i:Int}(e:y.an=i):mP l i=true:=gN.2 ⟨y,h,by simp[e]⟩
def of_held{l:List eB}{i:Int}(h:mP l i=true):∃y,y∈l/\y.an=i:=by
 obtain⟨y,h1,h2⟩:=gN.1 h;exact⟨y,h1,by simpa using h2⟩
def ZW{t u:Tree}{l A B:List eB}{x:eB}(ht:Rt t)(hl:tq l)(hn:l.length<=64)(he:l=A++x::B)(hu:u=t/\(((find t.ae x.an).isSome&&ep (aX t.ae x.an))=true->mP (A++B) x.an=true)\/u=(jO t x.an).1/\mP (A++B) x.an=false):Ax t l u (A++B):=by
 subst he;have hsub:(A++B).Sublist (A++x::B):=List.Sublist.append (List.Sublist.refl _) (List.sublist_cons_self _ _);have dQ:(A++B).length<=64:=aW hsub.length_le hn
 have hor:∀y,y∈A++x::B->y=x\/y∈A++B:=fun y hy=>by
  rcases bm.1 hy with h|h
  ·exact .inr (dq _ h)
  ·rcases bC.1 h with h|h
   ·exact .inl h
   ·exact .inr (eL _ h)
 rcases hu with ⟨rfl,hb⟩|⟨rfl,hb⟩
 ·exact⟨ht,hl.sublist hsub,dQ,fun y hy=>⟨hsub.mem hy,id⟩,fun h n hm ho=>by
   obtain⟨y,h1,h2⟩:=of_held (h n hm ho);rcases hor y h1 with rfl|h3
   ·rw[<-h2];refine hb ?_;have:=(fC ht.jo.jv).2 ⟨hm,h2.symm⟩;simp[aX,this,ho]
   ·exact xL h3 h2,fun _=>id,fun _=>id,fun _=>rfl⟩
 ·have hf:=ht.free x.an;have hff:=ve ht x.an;refine⟨hf,hl.sublist hsub,dQ,fun y hy=>⟨hsub.mem hy,fun hi=>Ik ht x.an hi fun e=>by rw[xL hy e] at hb; cases hb⟩,fun h n hm ho=>?_,fun i hi=>?_,Zw ht x.an,fun q=>by simp only[kW,Pm ht]⟩
  ·have h1:=(fC hf.jo.jv).2 ⟨hm,rfl⟩;rw[hff] at h1;split at h1
   ·cases h1
   rename_i hc;obtain⟨y,g1,g2⟩:=of_held (h n (bP h1).1 ho);rcases hor y g1 with rfl|h3
   ·exact absurd ⟨g2.symm,n,by rw[g2]; exact h1,ho⟩ hc
   ·exact xL h3 g2
  ·obtain⟨n,h1,h2⟩:=hi;refine⟨n,?_,h2⟩;rw[hff,aH,h1];rintro⟨rfl,m,g1,g2⟩;rw[h1] at g1; cases g1;simp[ep,h2] at g2
def ajl(t:Tree)(l:List eB)(c h:Int)(ht:Rt t)(hl:tq l)(hn:l.length<=64):∃u m e,ar bN 115 [bq t,fO l,aF c,aF h] []=some (.tuple [bq u,fO m,aF e],[])/\Ax t l u m:=by
 have qp:=fun M=>ad8 l c h (by omega) M
 have hnl:=ht.sz.ae;rcases rG c h l 0 with ⟨hp,_⟩|⟨m,x,hp,hx,_⟩<;>rw[show pf c h l 0=yZ l c h from rfl] at hp
 ·rw[hp] at qp;refine⟨t,l,80,az ?_,Ax.refl ht hl hn⟩;simp only[ES,Wn,bq,aJ,qp,EW,seval]
 ·rw[hp,aL] at qp;have hm:=(aq.1 hx).1;have h1:((m:Int)<0)=False:=by simp
  have h2:((m:Int)<(l.length:Int))=True:=vG;have w1:IntKind.i64.wrap ((m:Int)+1)=((m+1:Nat):Int):=by rw[gn (by omega) (by omega)]; rfl
  have h3:((m:Int)<=(l.length:Int))=True:=vG;have h4:(((m+1:Nat):Int)<=(l.length:Int))=True:=vG;obtain⟨A,B,e1,e2⟩:∃A B,l.take m=A/\l.drop (m+1)=B:=⟨_,_,rfl,rfl⟩
  have he:l=A++x::B:=by
   have hxe:x=l[m]:=(aq.1 hx).2.symm;rw[<-e1,<-e2,hxe,List.getElem_cons_drop hm,cD]
  have sh:=fun u hu=>ZW (u:=u) ht hl hn he hu
  have hab:A.length+B.length<=64:=by rw[he] at hn; simp at hn; omega
  have qo:=fun M=>alb t.ae t.next t.aj x.an (by omega) M
  have qh:=fun M=>arf (A++B) x.an (by simp; omega) M
  have qf:=fun M=>ald t.ae t.next t.aj x.an ht.small M
  have hD:mP (A++B) x.an = !(H9 (A++B) x.an==0):=by
   rw[eD];unfold mP H9;rw[gN,<-List.countP_pos_iff (p:=fun z:eB=>z.an==x.an)]
   simp only[gW,jL];omega
  rw[hD] at sh;have a1:(l.map gx).take m=A.map gx:=by rw[<-fj,e1]
  have a2:(l.map gx).drop (m+1)=B.map gx:=by rw[<-ju,e2]
  have a5:(l.map gx).take l.length=l.map gx:=by rw[<-fj,bW]
  have r1:cu A.length 24=True:=rb;have r2:cu (A.length+B.length) 24=True:=rb;generalize ((find t.ae x.an).isSome&&ep (aX t.ae x.an))=b at qo sh;generalize jO t x.an=v at qf sh;have eAB:fO (A++B) = hZ (A.map gx++B.map gx):=congrArg (ag.slice .sh) bu;rw[eAB] at qh;cases b
  ·refine⟨t,A++B,0,az ?_,sh t (.inl ⟨rfl,fun h=>by cases h⟩)⟩
   rw[eAB];simp only[ES,Wn,bq,aJ,qp,qo,h1,h2,h3,h4,w1,hx,a1,a2,a5,r1,r2,gx,iA,bu,cp,EW,seval]
  ·cases h5:H9 (A++B) x.an==0<;>rw[h5] at sh
   ·refine⟨t,A++B,0,az ?_,sh t (.inl ⟨rfl,fun _=>rfl⟩)⟩
    rw[eAB];simp only[ES,Wn,bq,aJ,qp,qo,qh,h1,h2,h3,h4,h5,w1,hx,a1,a2,a5,r1,r2,gx,iA,bu,cp,EW,seval]
   ·refine⟨v.1,A++B,0,az ?_,sh v.1 (.inr ⟨rfl,rfl⟩)⟩;rw[eAB];simp only[ES,Wn,bq,aJ,qp,qo,qh,qf,h1,h2,h3,h4,h5,w1,hx,a1,a2,a5,r1,r2,gx,iA,bu,cp,EW,seval]
def c55(t:Tree)(l:List eB)(c:Int)(ht:Rt t)(hl:tq l)(hn:l.length<=64):∃u m,ar bN 55 [bq t,fO l,aF c] []=some (.tuple [bq u,fO m],[])/\Ax t l u m:=by
 have key:∃r:ag×aG,(∃u m,r=(.tuple [bq u,fO m],[])/\Ax t l u m)/\eV (ar bN) Xq.results 0 [] Xq.body (fe 0 [bq t,fO l,aF c]) []=some r:=by
  simp only[Xq,E55,bq,aJ,EW,seval];refine gH (xs:=List.replicate 100 ()) (by simp) (fun _ (s:Tree×List eB)=>Ax t l s.1 s.2) (fun s i=>[(1,fO s.2),(2,aF c),(3,b9 0),(6,b9 1),(8,aF i)]) (fun s=>[bT [aY s.1.ae,aF s.1.next,aF s.1.aj],bT [.slice .c0 [],aF 0,aF 0]]) _ (fun s hs=>?_) (fun pre x post s e hx cz hw h0 _ hs hi=>?_) (t,l) (Ax.refl ht hl hn)
  ·have e1:(((100:Nat):Int)<=99)=False:=by simp
   simp only[E55,e1,kj,EW,seval];exact⟨_,⟨s.1,s.2,rfl,hs⟩,rfl⟩
  ·have e1:((pre.length:Int)<=99)=True:=by
    have:=of_eq_true cz;rw[kj] at this;simp only[fq,jc]; omega
   obtain⟨u,m,e,q,hq⟩:=ajl s.1 s.2 c pre.length hs.rt hs.jv hs.len;have qc:=cP q;simp only[bq,aJ] at qc;have i1:=hi (u,m) (hs.trans hq);simp only[E55,e1,hw,qc,EW,seval];exact i1
 obtain⟨_,⟨u,m,rfl,h1⟩,h3⟩:=key;exact⟨u,m,az h3,h1⟩
def aom(l:List eB)(c h:Int)(hn:l.length<=64):∃i e,ar bN 116 [fO l,aF c,aF h] []=some (.tuple [aF i,aF e],[]):=by
 have qp:=fun M=>ad8 l c h (by omega) M
 rcases rG c h l 0 with ⟨hp,_⟩|⟨m,x,hp,hx,_⟩<;>rw[show pf c h l 0=yZ l c h from rfl] at hp
 ·rw[hp] at qp;refine⟨0,80,az ?_⟩;simp only[QK,ahf,qp,EW,seval]
 ·rw[hp,aL] at qp;have hm:=(aq.1 hx).1;have h1:((m:Int)<0)=False:=by simp
  have h2:((m:Int)<(l.length:Int))=True:=vG;refine⟨x.an,0,az ?_⟩;simp only[QK,ahf,qp,h1,h2,hx,gx,iA,EW,seval]
def apV(l:List eB)(an:Int)(hn:l.length<=100000):ar bN 247 [fO l,aF an] []=some (.bool (l.any fun x=>x.an==an),[]):=by
 refine az ?_;simp only[abU,acV,EW,seval];refine tD (xs:=l) (by omega) (fun post (_:Unit)=>post.any fun x=>x.an==an) (fun _ i=>[(0,fO l),(1,aF an),(5,aF i)]) (fun _=>[]) (fun z=>some (ag.bool z,([]:aG))) (fun _=>?_) (fun pre x post _ e hx cz hw h0 hm hi=>?_) ()
 ·simp[acV,bw,List.any_nil,EW]
 ·have i1:=hi ();rw[lr];cases h1:x.an==an<;>simp only[acV,cz,hx,hw,h1,gx,iA,dA,dp,EW,seval]<;>exact i1
def aru(l:List eB)(an:Int)(hn:l.length<=100000)(M:aG):aU (ar bN) 247 [fO l,aF an] M=some (.bool (l.any fun x=>x.an==an),M):=cO (apV l _ hn) M
theorem apX(t:Tree)(l:List cF)(hr:Rt t)(hl:l.length<=100000):∃b:Bool,ar bN 249 [bq t,cY l] []=some (.bool b,[])/\(b=false->∀y,y∈l->kW t y=false):=by
 have key:∃r:ag×aG,(∃b:Bool,r=(.bool b,[])/\(b=false->∀y,y∈l->kW t y=false))/\eV (ar bN) Md.results 0 [] Md.body (fe 0 [bq t,cY l]) []=some r:=by
  simp only[Md,acW,bq,aJ,EW,seval];refine gH (xs:=l) (by omega) (fun m (_:Unit)=>∀y,y∈l.take m->kW t y=false) (fun _ i=>[(1,cY l),(2,b9 0),(5,aF i)]) (fun _=>[bT [aY t.ae,aF t.next,aF t.aj]]) _ (fun _ ho=>?_) (fun pre x post _ e hx cz hw h0 _ ho hi=>?_) () (fun y hy=>by grind)
  ·simp only[acW,bw,EW,seval];rw[bW] at ho;simp_all
  ·obtain⟨a,b,q,u1,u2⟩:=ajr t x.an hr;have qu:=cP q;simp only[bq,aJ] at qu;have htk:l.take (pre.length+1)=l.take pre.length++[x]:=by rw[cC,hx]; rfl
   have i1:=fun h=>hi () (fun y hy=>by
    rw[htk] at hy;exact(bm.1 hy).elim (ho y) fun hy=>by rw[bM.1 hy]; omega)
   cases h1:decide (x.ae<a)<;>cases h2:decide (x.bytes<b)<;>simp only[acW,cz,hx,hw,qu,h1,h2,dU,il,EW,seval]<;>first|exact⟨_,⟨_,rfl,fun h=>by cases h⟩,rfl⟩|exact i1 (by simp only[dP] at h1 h2; simp only[kW,lX,bn,bg]; omega)
 obtain⟨_,⟨b,rfl,h1⟩,h3⟩:=key;exact⟨b,az h3,h1⟩
section
variable {t:Tree} {l:List cF} {Q:ag×aG->Prop}
def Fst(t:Tree)(l:List cF)(v:Int)(S:Node->fp->Prop)(a:Int):Prop:=(∀d e,S d e->e.an=v->jN t.ae l d.an=a)/\(a<0->∀d e,S d e->e.an≠v)
abbrev Wm(t:Tree):aG:=[.cells [aY t.ae,.int .i64 t.next,.int .i64 t.aj]]
theorem Uz{cE:Int->Nat}(h:cr t cE 0)(hq:oz l)(hl:l.length<=100000){S:Node->fp->Prop}{i j:Nat}{x d:Node}(hi':t.ae[i]?=some x)(hdm:d∈t.ae)(hd:d.aM.length<=100000){k:List K}
  (hx:∀(a:Int) z,Fst t l x.an (fun d' e'=>S d' e'\/(d'=d/\e'∈d.aM)) a->∃r,Q r/\kr (ar bN) [.tmp 4] 0 k ⟨.exit 4,(1,cY l)::(2,b9 0)::(5,aF i)::(6,aF a)::(7,aF j)::(8,b9 1)::z,Wm t++[bT (aI d)]⟩=some r)
  (hr:∀M,∃r,Q r/\kr (ar bN) [.tmp 4] 0 k ⟨.ret,[(4,.bool false)],M⟩=some r) (a:Int) (ha:Fst t l x.an S a) :
  ∃r,Q r/\eV (ar bN) [.tmp 4] 0 k (.loop [1,2,5,6,7,8,9] Yp) [(1,cY l),(2,b9 0),(5,aF i),(6,aF a),(7,aF j),(8,b9 1),(9,aF 0)] (Wm t++[bT (aI d)])=some r:=by
 have b1:((i:Int)<0)=False:=by simp
 refine gH (xs:=d.aM) (by omega) (fun m (a:Int)=>Fst t l x.an (fun d' e'=>S d' e'\/(d'=d/\e'∈d.aM.take m)) a) (fun(a:Int) n=>[(1,cY l),(2,b9 0),(5,aF i),(6,aF a),(7,aF j),(8,b9 1),(9,aF n)]) (fun _=>Wm t++[bT (aI d)]) Q (fun a ha=>?_) (fun pre e post a hp hx' cz hw h0 hm ha hi=>?_) a ⟨fun d' e' h1 h2=>h1.elim (fun h1=>ha.1 d' e' h1 h2) fun h1=>by simp at h1,fun h0 d' e' h1=>h1.elim (ha.2 h0 d' e') fun h1=>by simp at h1⟩
 ·simp only[Wm,aI,aR,aZ] at hx ⊢;simp only[Eb,bw,EW,seval];rw[bW] at ha;exact hx a _ ha
 ·have hfd:=(fC h.jo.jv).2 ⟨hdm,rfl⟩
  have hkd:d.kind=2:=by
   rcases h.kind _ _ hfd with h1|h1
   ·rw[(h.file _ _ hfd h1).1] at hm; cases hm
   ·exact h1
  have qd:=fun M=>cO (aqd h hq hl hfd hkd) M
  have hge:0<=jN t.ae l d.an:=HJ h l 13 d.an d hfd hkd;have htk:d.aM.take (pre.length+1)=d.aM.take pre.length++[e]:=by rw[cC,hx']; rfl
  generalize hu:jN t.ae l d.an=u at qd hge;simp only[bq,aJ] at qd
  have i1:=fun hne:e.an≠x.an=>hi a ⟨fun d' e' h1 h2=>ha.1 d' e' (h1.imp id fun h1=>⟨h1.1,by
    have h1:=h1.2;rw[htk] at h1
    grind⟩) h2,fun h0 d' e' h1 h2=>ha.2 h0 d' e' (h1.imp id fun h1=>⟨h1.1,by
    have h1:=h1.2;rw[htk] at h1;rcases bm.1 h1 with h1|h1
    ·exact h1
    grind⟩) h2⟩
  have i2:=fun hau:a<0\/u=a=>hi u ⟨fun d' e' h1 h2=>by
    have tL:∀d' e',(S d' e'\/(d'=d/\e'∈d.aM.take pre.length))->e'.an=x.an->jN t.ae l d'.an=u:=fun d' e' g1 g2=>by
     rcases hau with h0|h0
     ·exact absurd g2 (ha.2 h0 d' e' g1)
     ·rw[h0]; exact ha.1 d' e' g1 g2
    rcases h1 with h1|⟨rfl,h1⟩
    ·exact tL d' e' (.inl h1) h2
    ·exact hu,fun h0=>by omega⟩
  simp only[Wm,aI,aR,aZ] at i1 i2 ⊢;cases h1:e.an != x.an
  ·cases h2:decide (0<=a)<;>cases h3:u != a<;>simp only[Eb,cz,hx',hw,hi',qd,h1,h2,h3,bG,aI,fW,fm,EW,seval]<;>first|exact hr _|exact i2 (by simp only[dP] at h2; omega)|exact i2 (.inr (by simpa using h3))
  ·simp only[Eb,cz,hx',hw,hi',h1,bG,aI,fW,fm,EW,seval];exact i1 (by simpa using h1)
theorem UA{cE:Int->Nat}(h:cr t cE 0)(hq:oz l)(he:∀n,n∈t.ae->n.aM.length<=100000)(hl:l.length<=100000){i:Nat}{x:Node}(hi':t.ae[i]?=some x){k:List K}
  (hx:∀z,(∃a,Fst t l x.an (fun d' e'=>d'∈t.ae/\e'∈d'.aM) a)->∃r,Q r/\kr (ar bN) [.tmp 4] 0 k ⟨.exit 2,(1,cY l)::(2,b9 0)::(5,aF i)::z,Wm t⟩=some r)
  (hr:∀M,∃r,Q r/\kr (ar bN) [.tmp 4] 0 k ⟨.ret,[(4,.bool false)],M⟩=some r) (a:Int) (ha:Fst t l x.an (fun _ _=>False) a) :
  ∃r,Q r/\eV (ar bN) [.tmp 4] 0 k (.loop [1,2,5,6,7] Yq) [(1,cY l),(2,b9 0),(5,aF i),(6,aF a),(7,aF 0)] (Wm t)=some r:=by
 have h200:=h.ae;refine gH (xs:=t.ae) (by omega) (fun m (a:Int)=>Fst t l x.an (fun d' e'=>d'∈t.ae.take m/\e'∈d'.aM) a) (fun(a:Int) n=>[(1,cY l),(2,b9 0),(5,aF i),(6,aF a),(7,aF n)]) (fun _=>Wm t) Q (fun a ha=>?_) (fun pre d post a hp hx' cz hw h0 hm ha hi=>?_) a ⟨fun d' e' h1=>by simp at h1,fun h0 d' e' h1=>by simp at h1⟩
 ·simp only[Eb,bw,EW,seval];rw[bW] at ha;exact hx _ ⟨a,ha⟩
 ·have la:=fun {k} h2 h3=>Uz (t:=t) (l:=l) (Q:=Q) h hq hl (j:=pre.length) hi' hm (he d hm) (k:=k) h2 h3 a ha
  have htk:t.ae.take (pre.length+1)=t.ae.take pre.length++[d]:=by rw[cC,hx']; rfl
  simp only[Wm,aI,aR,aZ] at la ⊢;simp only[Eb,cz,hx',bG,aI,EW,seval];refine la (fun a z ha'=>?_) (fun M=>?_)
  ·have sub:∀d' e',(d'∈t.ae.take (pre.length+1)/\e'∈d'.aM)->((d'∈t.ae.take pre.length/\e'∈d'.aM)\/(d'=d/\e'∈d.aM)):=fun d' e' ⟨g1,g2⟩=>by
    rw[htk] at g1
    grind
   have i1:=hi a ⟨fun d' e' g=>ha'.1 d' e' (sub d' e' g),fun h0 d' e' g=>ha'.2 h0 d' e' (sub d' e' g)⟩
   simp only[Eb,hw,EW,seval];exact i1
  ·simp only[EW,seval];exact hr _
end
theorem apW(t:Tree)(l:List cF)(hr:Rt t)(hq:oz l)(hl:l.length<=100000):∃b:Bool,ar bN 248 [bq t,cY l] []=some (.bool b,[])/\(b=true->OD t l):=by
 have he:∀n,n∈t.ae->n.aM.length<=100000:=fun n hn=>by have:=(hr.PD hn).1; omega
 have h200:=hr.sz.ae;obtain⟨cE,h⟩:=hr
 have key:∃r:ag×aG,(∃b:Bool,r=(.bool b,[])/\(b=true->OD t l))/\eV (ar bN) Mc.results 0 [] Mc.body (fe 0 [bq t,cY l]) []=some r:=by
  simp only[Mc,Eb,bq,aJ,EW,seval];refine gH (xs:=t.ae) (by omega) (fun m (_:Unit)=>∀x,x∈t.ae.take m->x.kind=1->∃a,Fst t l x.an (fun d' e'=>d'∈t.ae/\e'∈d'.aM) a) (fun _ i=>[(1,cY l),(2,b9 0),(5,aF i)]) (fun _=>Wm t) _ (fun _ ho=>?_) (fun pre x post _ e hx cz hw h0 _ ho hi=>?_) () (fun y hy=>by simp at hy)
  ·simp only[Eb,bw,EW,seval];rw[bW] at ho;refine⟨_,⟨_,rfl,fun _ d1 e1 d2 e2 x h1 h2 h3 h4 h5 h6 h7=>?_⟩,rfl⟩
   obtain⟨x1,x2⟩:=bP h6;obtain⟨a,ha⟩:=ho x x1 h7;rw[ha.1 d1 e1 ⟨h1,h2⟩ x2.symm,ha.1 d2 e2 ⟨h3,h4⟩ (h5.symm.trans x2.symm)]
  ·have htk:t.ae.take (pre.length+1)=t.ae.take pre.length++[x]:=by rw[cC,hx]; rfl
   have lb:=fun {k Q} h2 h3=>UA (t:=t) (l:=l) (Q:=Q) h hq he hl hx (k:=k) h2 h3 (-1) ⟨fun _ _ h=>h.elim,fun _ _ _ h=>h.elim⟩
   have i1:=fun hh:x.kind=1->∃a,Fst t l x.an (fun d' e'=>d'∈t.ae/\e'∈d'.aM) a=>hi () (fun y hy=>by
    rw[htk] at hy;exact(bm.1 hy).elim (ho y) fun hy=>by rw[bM.1 hy]; exact hh)
   cases h1:x.kind != 1<;>simp only[Eb,cz,hx,hw,h1,bG,aI,EW,seval]
   ·refine lb (fun z hz=>?_) (fun M=>?_)
    ·simp only[Eb,hw,EW,seval];exact i1 fun _=>hz
    ·simp only[EW,seval];simp
   ·exact i1 fun hk=>absurd hk (by grind)
 obtain⟨_,⟨b,rfl,h1⟩,h3⟩:=key;exact⟨b,az h3,h1⟩
section
variable {f:aa} {t:Tree} {q:List cF} {Q:ag×aG->Prop}
abbrev stM(f:aa)(t:Tree):aG:=[.cells (ck f),.cells [aY t.ae,.int .i64 t.next,.int .i64 t.aj],.cells sn]
abbrev G8(q:List cF):Env:=[(2,cY q),(3,.ptr 0 0),(4,.ptr 1 0),(6,.ptr 2 0)]
def Uo(ht:Rt t)(hh:f.holds.length<=64){k:List K}
  (hx:∀(F:List Int) z,F.length<=1000->(∀i,i∈F->∀y,y∈f.holds->y.an≠i)->(∀n,n∈t.ae->ep n=true->mP f.holds n.an=false->n.an∈F)->∃r,Q r/\kr (ar bN) [.dC 6 10,.tmp 7] 0 k ⟨.exit 0,G8 q++(8,.slice (.own 3) (F.map mb))::z,stM f t++[.tick 1 F.length]⟩=some r) :
  ∃r,Q r/\eV (ar bN) [.dC 6 10,.tmp 7] 0 k (.loop [2,3,4,6,8,9] X6) (G8 q++[(8,.slice (.own 3) []),(9,aF 0)]) (stM f t++[.tick 1 0])=some r:=by
 have h200:=ht.sz.ae;refine gH (xs:=t.ae) (by omega) (fun m (F:List Int)=>F.length<=m/\(∀i,i∈F->∀y,y∈f.holds->y.an≠i)/\∀n,n∈t.ae.take m->ep n=true->mP f.holds n.an=false->n.an∈F) (fun F i=>G8 q++[(8,.slice (.own 3) (F.map mb)),(9,aF i)]) (fun F=>stM f t++[.tick 1 F.length]) Q (fun F hF=>?_) (fun pre x post F e hx' cz hw h0 hm hF hi=>?_) [] ⟨aC _,fun i h=>(by cases h),fun n h=>(by simp at h)⟩
 ·simp only[stM,G8,ck,sn,aR,aZ] at hx ⊢;simp only[D9,bw,EW,seval];exact hx F _ (by omega) hF.2.1 (by have:=hF.2.2; rwa[bW] at this)
 ·have hp:=(aq.1 hx').1;have htk:t.ae.take (pre.length+1)=t.ae.take pre.length++[x]:=by rw[cC,hx']; rfl
  have i1:=fun hb:(ep x=true->mP f.holds x.an=false->False)=>hi F ⟨by omega,hF.2.1,fun n h=>by
   rw[htk] at h;rcases bm.1 h with h|h
   ·exact hF.2.2 n h
   ·rw[bM.1 h]; exact fun a b=>(hb a b).elim⟩
  have i2:=fun hb:(f.holds.any fun y=>y.an==x.an)=false=>hi (F++[x.an]) ⟨by simp; omega,fun i h y hy=>by
   rcases bm.1 h with h|h
   ·exact hF.2.1 i h y hy
   ·rw[bM.1 h];simpa using List.any_eq_false.1 hb y hy,fun n h o1 o2=>by
   rw[htk] at h;rcases bm.1 h with h|h
   ·exact dq _ (hF.2.2 n h o1 o2)
   ·rw[bM.1 h]; simp⟩
  unfold mP ep at i1;have qh:=fun M=>aru f.holds x.an (by omega) M
  generalize (f.holds.any fun y=>y.an==x.an)=b at qh i1 i2
  have r1:cu (F.length+1) 8=True:=rb;simp only[stM,G8,ck,sn,aR,aZ,bu,aP,a8,aD,au,av,aL,mb] at i1 i2 ⊢;cases h1:x.kind==1<;>cases h2:x.cL==0<;>cases b<;>simp only[D9,cz,hx',hw,h0,h1,h2,qh,r1,ud,bG,aI,mb,EW,seval]<;>first|exact i1 (by simp[h1,h2])|exact i2 rfl
structure wK(f:aa)(t0:Tree)(F:List Int)(t:Tree):Prop where
 rt:Rt t
 ov:∀y,y∈f.holds->tj t0.ae y.an->tj t.ae y.an
 sub:∀i n,find t.ae i=some n->find t0.ae i=some n
 gone:∀i,i∈F->∀n,find t.ae i=some n->ep n=false
def wK.file{f:aa}{t0:Tree}{F:List Int}{t:Tree}(h:wK f t0 F t){i:Int}(hi:tj t.ae i):tj t0.ae i:=by
 obtain⟨n,h1,h2⟩:=hi;exact⟨n,h.sub _ _ h1,h2⟩
def wK.step{f:aa}{t0:Tree}{F:List Int}{t:Tree}(h:wK f t0 F t){x:Int}(hx:∀y,y∈f.holds->y.an≠x):wK f t0 (F++[x]) (jO t x).1:=by
 have hf:=ve h.rt x;refine⟨h.rt.free x,fun y hy hi=>Ik h.rt x (h.ov y hy hi) (hx y hy),fun i n hn=>?_,fun i hi n hn=>?_⟩
 ·rw[hf] at hn;split at hn
  ·cases hn
  ·exact h.sub _ _ hn
 ·rw[hf] at hn;split at hn
  ·cases hn
  ·rename_i hc;rcases bm.1 hi with hi|hi
   ·exact h.gone i hi n hn
   ·rw[bM.1 hi] at hc hn;cases ho:ep n with
    |false=>rfl
    |true=>exact absurd ⟨rfl,n,hn,ho⟩ hc
def wK.held{f:aa}{t0:Tree}{F:List Int}{t:Tree}(h:wK f t0 F t)(ha:∀n,n∈t0.ae->ep n=true->mP f.holds n.an=false->n.an∈F)(_:Rt t0):∀n,n∈t.ae->ep n=true->mP f.holds n.an=true:=by
 intro n hn ho;have h1:=(fC h.rt.jo.jv).2 ⟨hn,rfl⟩;cases hh:mP f.holds n.an with
 |true=>rfl
 |false =>
  have:=h.gone _ (ha n (bP (h.sub _ _ h1)).1 ho hh) n h1;rw[ho] at this; cases this
def Uq{F:List Int}(hF:F.length<=1000)(hno:∀i,i∈F->∀y,y∈f.holds->y.an≠i){t0:Tree}{k:List K}
  (hx:∀(t:Tree) z,wK f t0 F t->∃r,Q r/\kr (ar bN) [.dC 6 10,.tmp 7] 0 k ⟨.exit 2,G8 q++(8,.slice (.own 3) (F.map mb))::z,stM f t++[.tick 1 F.length]⟩=some r) (ht:wK f t0 [] t) :
  ∃r,Q r/\eV (ar bN) [.dC 6 10,.tmp 7] 0 k (.loop [2,3,4,6,8,11] X7) (G8 q++[(8,.slice (.own 3) (F.map mb)),(11,aF 0)]) (stM f t++[.tick 1 F.length])=some r:=by
 refine gH (xs:=F) (by omega) (fun m (t:Tree)=>wK f t0 (F.take m) t) (fun _ i=>G8 q++[(8,.slice (.own 3) (F.map mb)),(11,aF i)]) (fun t=>stM f t++[.tick 1 F.length]) Q (fun t ht=>?_) (fun pre x post t e hx' cz hw h0 hm ht hi=>?_) t (by simpa using ht)
 ·simp only[stM,G8,ck,sn,aR,aZ] at hx ⊢;simp only[D9,bw,EW,seval];exact hx t _ (by rwa[bW] at ht)
 ·have i1:=hi _ (show wK f t0 (F.take (pre.length+1)) (jO t x).1 by rw[cC,hx']; exact ht.step (hno x hm))
  have qf:=fun M=>ald t.ae t.next t.aj x ht.rt.small M
  generalize jO t x=v at qf i1;simp only[bq,aJ] at qf;simp only[stM,G8,ck,sn,aR,aZ] at i1 ⊢;simp only[D9,cz,hx',hw,h0,qf,mb,EW,seval];exact i1
def Ur(ht:Rt t)(hq:oz q)(hn:q.length<=16){F:List Int}{k:List K}
  (hx:∀(L:List cF) z,oz L->L.length<=16->(∀y,y∈L->y∈q/\(find t.ae y.an).isSome=true)->∃r,Q r/\kr (ar bN) [.dC 6 10,.tmp 7] 0 k ⟨.exit 4,G8 q++(14,.slice (.own 4) (L.map dU))::z,stM f t++[.tick 1 F.length,.tick 3 L.length]⟩=some r) :
  ∃r,Q r/\eV (ar bN) [.dC 6 10,.tmp 7] 0 k (.loop [2,3,4,6,14,15] X8) (G8 q++[(14,.slice (.own 4) []),(15,aF 0)]) (stM f t++[.tick 1 F.length,.tick 3 0])=some r:=by
 have h200:=ht.sz.ae;refine gH (xs:=q) (by omega) (fun m (L:List cF)=>L.Sublist (q.take m)/\∀y,y∈L->(find t.ae y.an).isSome=true) (fun L i=>G8 q++[(14,.slice (.own 4) (L.map dU)),(15,aF i)]) (fun L=>stM f t++[.tick 1 F.length,.tick 3 L.length]) Q (fun L hL=>?_) (fun pre x post L e hx' cz hw h0 hm hL hi=>?_) [] ⟨List.nil_sublist _,fun y h=>by cases h⟩
 ·rw[bW] at hL;simp only[stM,G8,ck,sn,aR,aZ] at hx ⊢;simp only[D9,bw,EW,seval];exact hx L _ (hq.sublist hL.1) (aW hL.1.length_le hn) (fun y hy=>⟨hL.1.mem hy,hL.2 y hy⟩)
 ·have ht1:q.take (pre.length+1)=q.take pre.length++[x]:=by rw[cC,hx']; rfl
  have i1:=hi L ⟨by rw[ht1]; exact hL.1.trans (List.sublist_append_left _ _),hL.2⟩
  have i2:=fun hs=>hi (L++[x]) ⟨by rw[ht1]; exact hL.1.append (List.Sublist.refl _),fun y h=>(bm.1 h).elim (hL.2 y) fun h=>by rw[bM.1 h]; exact hs⟩
  have hLl:L.length<=16:=aW hL.1.length_le (by simp; omega)
  have qg:=fun M=>zN t.ae t.next t.aj x.an (by omega) M
  generalize (find t.ae x.an).getD Node.zero=n at qg;generalize (find t.ae x.an).isSome=b at qg i2;have r1:cu (L.length+1) 24=True:=rb;simp only[stM,G8,ck,sn,aR,aZ,bu,aP,a8,aD,au,av,aL,dU,il] at i1 i2 ⊢;cases b<;>simp only[D9,cz,hx',hw,h0,qg,r1,bG,aI,dU,il,EW,seval]<;>first|exact i1|exact i2 rfl
end
structure JM(f:aa):Prop where
 file:∀y,y∈f.holds->tj f.s.now.ae y.an
 Ve:∀n,n∈f.s.now.ae->ep n=true->mP f.holds n.an=true
 quo:∀q,q∈f.cq->Wi f.s.now.ae q.an
 one:OD f.s.now f.cq
 over:∀q,q∈f.cq->kW f.s.now q=false
 key:∀y,y∈f.holds->zO y.cH y.handle=true
def vv(s:gh)(t:Tree):(ki s t).now=t:=by
 unfold ki;split
 ·rename_i h; exact fA h
 ·rfl
def GU{f:aa}{t:Tree}{H:List eB}{Q:List cF}(hH:∀y,y∈H->y∈f.holds/\(tj f.s.now.ae y.an->tj t.ae y.an))(hO:∀n,n∈t.ae->ep n=true->mP H n.an=true)(hQ:∀q,q∈Q->Wi t.ae q.an)(h1:OD t Q)(h2:∀q,q∈Q->kW t q=false)(h:JM f):JM ⟨ki f.s t,H,Q⟩:=by
 refine⟨fun y hy=>?_,fun n hn=>?_,fun q hq=>?_,?_,fun q hq=>?_,fun y hy=>h.key y (hH y hy).1⟩<;>simp only[vv] at *
 ·exact(hH y hy).2 (h.file y (hH y hy).1)
 ·exact hO n hn
 ·exact hQ q hq
 ·exact h1
 ·exact h2 q hq
def Kp(f g:aa):Prop:=(JM f->JM g)/\Ar (fun _=>True) f.s g.s
def Dv{f:aa}:Kp f f:=⟨id,.inl rfl⟩
def ao9{K:Nat}(f:aa)(t:Tree)(q:List cF)(hf:FB K f)(hK:K<=89000)(ht:Rt t)(hq:oz q)(hn:q.length<=16)(hkp:∀y,y∈f.holds->tj f.s.now.ae y.an->tj t.ae y.an)(hqd:JM f->∀y,y∈q->¬tj t.ae y.an):∃g e,ar bN 176 [.agg (ck f),bq t,cY q] []=some (.tuple [.agg (ck g),aF e],[])/\FB (K+200) g/\Kp f g:=by
 have key:∃r:ag×aG,(∃g e,r=(.tuple [.agg (ck g),aF e],[])/\FB (K+200) g/\Kp f g)/\eV (ar bN) HW.results 0 [] HW.body (fe 0 [.agg (ck f),bq t,cY q]) []=some r:=by
  have la:=fun {k Q} hx=>Uo (f:=f) (t:=t) (q:=q) (Q:=Q) ht hf.ok.dQ (k:=k) hx
  simp only[stM,G8,ck,sn,aR,aZ] at la;simp only[HW,D9,ck,bq,aJ,EW,seval];refine la (fun F z hF hno hall=>?_)
  have lb:=fun {k Q} hx=>Uq (f:=f) (t:=t) (q:=q) (Q:=Q) hF hno (t0:=t) (k:=k) hx ⟨ht,fun _ _ h=>h,fun _ _ h=>h,fun i h=>by cases h⟩
  simp only[stM,G8,ck,sn,aR,aZ] at lb;simp only[D9,EW,seval];refine lb (fun t' z hfr=>?_)
  have ht':=hfr.rt;have hor:=hfr.held hall ht;have lc:=fun {k Q} hx=>Ur (f:=f) (t:=t') (q:=q) (Q:=Q) ht' hq hn (F:=F) (k:=k) hx
  simp only[stM,G8,ck,sn,aR,aZ] at lc;simp only[D9,EW,seval];refine lc (fun L z hL hLn hLq=>?_)
  have h200:=ht'.sz.ae;obtain⟨b1,q1,k1⟩:=apW t' L ht' hL (by omega)
  obtain⟨b2,q2,k2⟩:=apX t' L ht' (by omega)
  have q3:=c56 f.s t' hf.ok.rt ht' hf.ok.len hf.ok.cf hf.ok.dz;have g1:=cP q1;have g2:=cP q2;have g3:=cP q3;simp only[bq,aJ,bo] at g1 g2 g3;have hfin:=hf.put hK ht' hf.ok.holds hf.ok.dQ hL hLn
  have hho:b1=true->b2=false->JM f->JM ⟨ki f.s t',f.holds,L⟩:=fun c1 c2 h=>GU (fun y hy=>⟨hy,fun hf=>hfr.ov y hy (hkp y hy hf)⟩) hor (fun y hy=>by
   obtain⟨h1,h2⟩:=hLq y hy;obtain⟨n,h2⟩:=ct.1 h2;exact ht'.Wi h2 (fun hf=>hqd h y h1 (hfr.file hf))) (k1 c1) (k2 c2) h
  cases b1<;>cases b2<;>simp only[D9,g1,g2,g3,EW,seval]
  ·exact⟨_,⟨f,91,rfl,hf.mono (by omega),Dv⟩,rfl⟩
  ·exact⟨_,⟨f,91,rfl,hf.mono (by omega),Dv⟩,rfl⟩
  ·exact⟨_,⟨_,0,rfl,hfin,hho rfl rfl,.inr (.inl ⟨t',ht',rfl⟩)⟩,rfl⟩
  ·exact⟨_,⟨f,90,rfl,hf.mono (by omega),Dv⟩,rfl⟩
 obtain⟨_,⟨g,e,rfl,h1⟩,h3⟩:=key;exact⟨g,e,az h3,h1⟩
end
def Om(s:Bytes):(BJ s).1.length<=100000/\(BJ s).2.1.length<=100000:=by
 obtain⟨o1,o2⟩:=px s;unfold BJ;split
 ·exact⟨by simp,by simp⟩
 ·generalize (jT s).1=l at o1 o2;constructor
  ·simp only;cases h:l.getLast? with
   |none=>simp
   |some x=>have:=lU (o1 x (List.mem_of_getLast? h)); simp only[bh]; omega
  ·simp only[Dp];split
   ·simp
   ·have h1:=yM l.dropLast [] (fun x hx=>lU (o1 x (List.Sublist.mem hx (List.dropLast_sublist _))))
    simp only[av,List.length_dropLast] at h1;omega
section
attribute [local irreducible] eV fZ je gK eo kr ar aU cA bH
def c49(e:Int):ar bN 49 [aF e] []=some (.agg (cQ (gk e)),[]):=by
 refine az ?_;simp only[aks,E49,EW,seval];rfl
def k49 e:=cP (c49 e)
def ajk(n:Node):∃a:Int,ar bN 110 [bG n] []=some (aF a,[]):=by
 cases h1:n.kind==2
 ·refine⟨n.data.length,az ?_⟩;simp only[QI,ahe,bG,aI,h1,EW,seval]
 ·refine⟨n.aM.length,az ?_⟩;simp only[QI,ahe,bG,aI,h1,EW,seval]
def ajj(t:Tree)(s:Bytes)(ht:Small t)(hs:s.length<=100000):∃d nm e,ar bN 103 [bq t,.str s] []=some (.tuple [aF d,.str nm,aF e],[])/\nm.length<=100000:=by
 have ql:=fun M=>cO (ao5 s hs) M
 obtain⟨h1,h2⟩:=Om s;generalize BJ s=v at ql h1 h2;have qw:=fun M=>adY t.ae t.next t.aj v.2.1 ht h2 M
 generalize B4 t.ae v.2.1=w at qw;cases h3:v.2.2 != 0
 ·refine⟨w.1,v.1,w.2,az ?_,h1⟩;simp only[QH,aha,bq,aJ,ql,qw,h3,EW,seval]
 ·refine⟨0,[],v.2.2,az ?_,by simp⟩
  simp only[QH,aha,bq,aJ,ql,h3,EW,seval]
def FB.wo{K:Nat}{f:aa}(h:FB K f){u:gh}(e1:u.now=f.s.now)(e2:u.since=f.s.since)(e3:∀p,p∈u.dz->p∈f.s.dz)(e4:u.dz.length<=f.s.dz.length)(e5:u.cf.length<=16):FB (K+200) ⟨u,f.holds,f.cq⟩/\(JM f->JM ⟨u,f.holds,f.cq⟩) :=
 ⟨⟨⟨by simp only[e1]; exact h.ok.rt,by simp only[e1,e2]; exact h.ok.len,aW e4 h.ok.dz,fun p hp=>h.ok.Cf p (e3 p hp),e5,h.ok.holds,h.ok.dQ,h.ok.cq,h.ok.rB⟩,by have:=h.past; simp only; omega⟩,fun g=>⟨by simp only[e1]; exact g.file,by simp only[e1]; exact g.Ve,by simp only[e1]; exact g.quo,by simp only[e1]; exact g.one,by simp only[e1]; exact g.over,g.key⟩⟩
def yh(K:Nat)(f:aa)(F:Nat)(vs:List ag):Prop:=∃g a,ar bN F vs []=some (.tuple [.agg (ck g),.agg (cQ a)],[])/\FB (K+200) g/\Kp f g
def Kc{K:Nat}(f:aa)(t:Tree)(q:List cF)(e:Int)(a:Eu)(hf:FB K f)(hK:K<=89000)(ht:Rt t)(hq:oz q)(hn:q.length<=16)(hkp:∀y,y∈f.holds->tj f.s.now.ae y.an->tj t.ae y.an)(hqd:JM f->∀y,y∈q->¬tj t.ae y.an):yh K f 105 [.agg (ck f),bq t,cY q,aF e,.agg (cQ a)]:=by
 obtain⟨g,e',qs,hg⟩:=ao9 f t q hf hK ht hq hn hkp hqd;have q1:=cP qs;have q2:=k49;simp only[bq,aJ,ck,cQ] at q1 q2;cases h1:e != 0
 ·cases h2:e' != 0
  ·refine⟨g,a,az ?_,hg⟩;simp only[L0,acE,bq,aJ,ck,cQ,q1,q2,h1,h2,EW,seval]
  ·refine⟨f,gk e',az ?_,hf.mono (by omega),Dv⟩
   simp only[L0,acE,bq,aJ,ck,cQ,q1,q2,h1,h2,EW,seval]
 ·refine⟨f,gk e,az ?_,hf.mono (by omega),Dv⟩
  simp only[L0,acE,bq,aJ,ck,cQ,q1,q2,h1,EW,seval]
def c50{K:Nat}(f:aa)(o:jk)(hf:FB K f)(hK:K<=89000)(ho:wL o):yh K f 50 [.agg (ck f),.agg (eA o)]:=by
 have hr:=hf.ok.rt;have hz:Sz 1000 f.s.now:=⟨by have:=hr.sz.ae; omega,fun n hn=>by have:=hr.sz.aM n hn; omega,hr.sz.data⟩
 have hp:o.da.length<=100000:=by have:=ho.da; omega
 have hto:o.tZ.length<=100000:=by have:=ho.tZ; omega
 obtain⟨d,nm,e1,qa,hnm⟩:=ajj f.s.now o.da hr.small hp;obtain⟨d',nm',e2,qb,hnm'⟩:=ajj f.s.now o.tZ hr.small hto;have q1:=cP qa;have q2:=cP qb;have q3:=fun M=>adY f.s.now.ae f.s.now.next f.s.now.aj o.da hr.small hp M
 generalize B4 f.s.now.ae o.da=w at q3;have q4:=k49;simp only[bq,aJ,ck,cQ] at q1 q2 q4;have back:FB (K+200) f:=hf.mono (by omega)
 cases h0:o.kind==3
 ·cases h1:e1 != 0
  ·cases h2:o.kind==2
   ·cases h3:o.kind==4
    ·cases h4:e2 != 0
     ·have q5:=fun M=>aqV f.s.now.ae f.s.now.next f.s.now.aj d nm d' nm' hz hnm hnm' M
      have q6:=fun M=>XB f.s.now.ae f.s.now.next f.s.now.aj d nm hr.small hnm M
      have hv:=hr.mv d nm d' nm';have hkf:=XJ hr d nm d' nm';have hrf:=amG hr d nm d' nm';generalize wE f.s.now d nm d' nm'=v at q5 hv hkf hrf;generalize dX f.s.now.ae d nm=u at q6;obtain⟨g,a,qd,hg⟩:=Kc f v.1 f.cq v.2.2 ⟨0,u.1,0,0,0,[],[]⟩ hf hK hv hf.ok.cq hf.ok.rB (fun y _ h=>hkf.2 _ h) (fun h y hy hi=>(h.quo y hy).no (hrf _ hi))
      have q7:=cP qd;simp only[bq,aJ,ck,cQ,dh,cR,a8] at q5 q6 q7;refine⟨g,a,az ?_,hg⟩;simp only[Gu,E50,ck,eA,cQ,h0,h1,h2,h3,h4,q1,q2,q5,q6,q7,EW,seval]
     ·refine⟨f,gk e2,az ?_,back,Dv⟩;simp only[Gu,E50,ck,eA,cQ,h0,h1,h2,h3,h4,q1,q2,q4,EW,seval]
    ·have q5:=fun M=>aqU f.s.now.ae f.s.now.next f.s.now.aj d nm hz hnm M
     have hv:=hr.un d nm;have hkf:=XK hr d nm;have hrf:=amH hr d nm;generalize Aj f.s.now d nm=v at q5 hv hkf hrf;obtain⟨g,a,qd,hg⟩:=Kc f v.1 f.cq v.2.2 ⟨0,v.2.1,0,0,0,[],[]⟩ hf hK hv hf.ok.cq hf.ok.rB (fun y _ h=>hkf.2 _ h) (fun h y hy hi=>(h.quo y hy).no (hrf _ hi))
     have q7:=cP qd;simp only[bq,aJ,ck,cQ,dh,cR,a8] at q5 q7;refine⟨g,a,az ?_,hg⟩;simp only[Gu,E50,ck,eA,cQ,h0,h1,h2,h3,q1,q5,q7,EW,seval]
   ·have q5:=fun M=>aqT f.s.now.ae f.s.now.next f.s.now.aj d nm o.n hz hnm M
    have hv:=hr.add d nm o.n;have hkf:=Rx hr d nm o.n;have hrf:=agA hr d nm o.n;generalize rl f.s.now d nm o.n=v at q5 hv hkf hrf;obtain⟨g,a,qd,hg⟩:=Kc f v.1 f.cq v.2.2 ⟨0,v.2.1,o.n,0,0,[],[]⟩ hf hK hv hf.ok.cq hf.ok.rB (fun y _ h=>hkf.2 _ h) (fun h y hy hi=>(h.quo y hy).no (hrf _ hi))
    have q7:=cP qd;simp only[bq,aJ,ck,cQ,dh,cR,a8] at q5 q7;refine⟨g,a,az ?_,hg⟩;simp only[Gu,E50,ck,eA,cQ,h0,h1,h2,q1,q5,q7,EW,seval]
  ·refine⟨f,gk e1,az ?_,back,Dv⟩;simp only[Gu,E50,ck,eA,cQ,h0,h1,q1,q4,EW,seval]
 ·cases h1:w.2 != 0
  ·cases h2:e2 != 0
   ·have q5:=fun M=>aqS f.s.now.ae f.s.now.next f.s.now.aj w.1 d' nm' hz hnm' M
    have hv:=hr.ln w.1 d' nm';have hkf:=XI hr w.1 d' nm';have hrf:=amF hr w.1 d' nm';generalize Cd f.s.now w.1 d' nm'=v at q5 hv hkf hrf;obtain⟨g,a,qd,hg⟩:=Kc f v.1 f.cq v.2 ⟨0,w.1,0,0,0,[],[]⟩ hf hK hv hf.ok.cq hf.ok.rB (fun y _ h=>hkf.2 _ h) (fun h y hy hi=>(h.quo y hy).no (hrf _ hi))
    have q7:=cP qd;simp only[bq,aJ,ck,cQ,dh,cR,a8] at q5 q7;refine⟨g,a,az ?_,hg⟩;simp only[Gu,E50,ck,eA,cQ,h0,h1,h2,q2,q3,q5,q7,EW,seval]
   ·refine⟨f,gk e2,az ?_,back,Dv⟩;simp only[Gu,E50,ck,eA,cQ,h0,h1,h2,q2,q3,q4,EW,seval]
  ·refine⟨f,gk w.2,az ?_,back,Dv⟩;simp only[Gu,E50,ck,eA,cQ,h0,h1,q3,q4,EW,seval]
section
variable {t:Tree} {n:Node} {many:Int} {Q:ag×aG->Prop}
abbrev liM(t:Tree)(n:Node)(out:List fp):aG:=[.cells [aY t.ae,.int .i64 t.next,.int .i64 t.aj],.cells [.int .i64 n.an,.int .i64 n.kind,.int .i64 n.cL,cR n.data,ic n.aM,.int .i64 n.up],.tick 3 out.length]
def IG(hn:n.aM.length<=100000){jw:Int}{out:List fp}{k:List K}
  (hx:∀(b:Int) z,(b = -1\/∃i:Nat,i<n.aM.length/\b=i)->∃r,Q r/\kr (ar bN) [.tmp 8,.tmp 9,.tmp 10] 0 k ⟨.exit 2,(2,aF jw)::(3,aF many)::(11,b9 1)::(13,.slice (.own 2) (out.map fW))::(14,aF b)::z,liM t n out⟩=some r) :
  ∃r,Q r/\eV (ar bN) [.tmp 8,.tmp 9,.tmp 10] 0 k (.loop [2,3,11,13,14,15] XP) [(2,aF jw),(3,aF many),(11,b9 1),(13,.slice (.own 2) (out.map fW)),(14,aF (-1)),(15,aF 0)] (liM t n out)=some r:=by
 refine gH (xs:=n.aM) (by omega) (fun _ (b:Int)=>b = -1\/∃i:Nat,i<n.aM.length/\b=i) (fun b i=>[(2,aF jw),(3,aF many),(11,b9 1),(13,.slice (.own 2) (out.map fW)),(14,aF b),(15,aF i)]) (fun _=>liM t n out) Q (fun b hb=>?_) (fun pre e post b h hx' cz hw h0 hm hb hi=>?_) (-1) (.inl rfl)
 ·simp only[yy,bw,EW,seval];exact hx b _ hb
 ·have hp:=(aq.1 hx').1;have i1:=hi b hb;have i2:=hi pre.length (.inr ⟨_,hp,rfl⟩);rcases hb with rfl|⟨a,ha,rfl⟩
  ·cases h1:decide (jw<=e.aj)<;>simp only[yy,cz,hx',hw,h0,h1,fW,fm,EW,seval]<;>first|exact i1|exact i2
  ·have a0:((a:Int)<0)=False:=by simp
   have a1:((a:Int)<(n.aM.length:Int))=True:=vG;obtain⟨y,hy⟩:∃y,n.aM[a]?=some y:=⟨_,ai ha⟩;cases h1:decide (jw<=e.aj)<;>cases h2:decide (e.aj<y.aj)<;>simp only[yy,cz,hx',hw,h0,a0,a1,hy,h1,h2,fW,fm,EW,seval]<;>first|exact i1|exact i2
def Ug(hn:n.aM.length<=100000){m:Nat}(hm:1<=m)(hm':m<=64){k:List K}
  (hr:∀(out:List fp)(x:Int),out.length<=64->∃r,Q r/\kr (ar bN) [.tmp 8,.tmp 9,.tmp 10] 0 k ⟨.ret,[(8,.slice (.own 2) (out.map fW)),(9,aF x),(10,aF 0)],liM t n out⟩=some r) :
  ∀(d:Nat)(jw:Int)(out:List fp),out.length+d=m->∃r,Q r/\eV (ar bN) [.tmp 8,.tmp 9,.tmp 10] 0 k (.loop [2,3,11,13] XQ) [(2,aF jw),(3,aF m),(11,b9 1),(13,.slice (.own 2) (out.map fW))] (liM t n out)=some r:=by
 intro d;induction d with
 |zero =>
  intro jw out hd;rw[bt];have la:=fun {k} hx=>IG (t:=t) (n:=n) (many:=m) (Q:=Q) hn (jw:=jw) (out:=out) (k:=k) hx
  simp only[yy,EW,seval];refine la (fun b z hb=>?_)
  rcases hb with rfl|⟨a,ha,rfl⟩
  ·simp only[yy,EW,seval];exact hr out 0 (by omega)
  ·have a0:((a:Int)<0)=False:=by simp
   have e1:((out.length:Int)==(m:Int))=true:=by simp; omega
   have w1:IntKind.i64.wrap ((m:Int)-1)=((m-1:Nat):Int):=by rw[gn (by omega) (by omega)]; omega
   have e2:(((m-1:Nat):Int)<(out.length:Int))=True:=vG;have e3:(((m-1:Nat):Int)<0)=False:=by simp
   obtain⟨y,hy⟩:∃y,out[m-1]?=some y:=⟨_,ai (by omega)⟩
   simp only[yy,a0,e1,w1,e2,e3,hy,fW,fm,EW,seval];exact hr out _ (by omega)
 |succ d ih =>
  intro jw out hd;rw[bt];have la:=fun {k} hx=>IG (t:=t) (n:=n) (many:=m) (Q:=Q) hn (jw:=jw) (out:=out) (k:=k) hx
  simp only[yy,EW,seval];refine la (fun b z hb=>?_)
  rcases hb with rfl|⟨a,ha,rfl⟩
  ·simp only[yy,EW,seval];exact hr out 0 (by omega)
  ·have a0:((a:Int)<0)=False:=by simp
   have a1:((a:Int)<(n.aM.length:Int))=True:=vG;obtain⟨y,hy⟩:∃y,n.aM[a]?=some y:=⟨_,ai ha⟩;have e1:((out.length:Int)==(m:Int))=false:=by simp; omega
   have r1:cu (out.length+1) 32=True:=rb;have i1:=fun jw=>ih jw (out++[y]) (by simp; omega)
   simp only[liM,bu,aP,a8,aD,au,av,aL,fW,fm] at i1 ⊢;simp only[yy,a0,a1,e1,r1,hy,fW,fm,EW,seval];exact i1 _
end
def aoi(t:Tree)(an jw many:Int)(ht:Rt t):∃out x e,ar bN 111 [bq t,aF an,aF jw,aF many] []=some (.tuple [ic out,aF x,aF e],[])/\out.length<=64:=by
 have key:∃r:ag×aG,(∃out x e,r=(.tuple [ic out,aF x,aF e],[])/\out.length<=64)/\eV (ar bN) zE.results 0 [] zE.body (fe 0 [bq t,aF an,aF jw,aF many]) []=some r:=by
  have qd:=fun M=>XF t.ae t.next t.aj an (by have:=ht.sz.ae; omega) M
  have hd:(gr t.ae an).1.aM.length<=100000:=by obtain⟨cE,g⟩:=ht; have:=(xH g an).2; omega
  generalize gr t.ae an=v at qd hd;cases h1:decide (jw<0)
  case true =>
   simp only[zE,yy,bq,aJ,h1,EW,seval];exact⟨_,⟨[],0,1,rfl,by simp⟩,rfl⟩
  cases h2:decide (many<1)
  case true =>
   simp only[zE,yy,bq,aJ,h1,h2,EW,seval];exact⟨_,⟨[],0,1,rfl,by simp⟩,rfl⟩
  cases h3:decide (64<many)
  case true =>
   simp only[zE,yy,bq,aJ,h1,h2,h3,EW,seval];exact⟨_,⟨[],0,1,rfl,by simp⟩,rfl⟩
  cases h4:v.2 != 0
  case true =>
   simp only[zE,yy,bq,aJ,bG,aI,qd,h1,h2,h3,h4,EW,seval];exact⟨_,⟨[],0,v.2,rfl,by simp⟩,rfl⟩
  simp only[dP] at h2 h3;obtain⟨m,rfl⟩:∃m:Nat,many=m:=⟨many.toNat,by omega⟩
  have g2:decide ((m:Int)<1)=false:=by simp; omega
  have g3:decide (64<(m:Int))=false:=by simp; omega
  have lb:=fun {k Q} hr=>Ug (t:=t) (n:=v.1) (Q:=Q) hd (m:=m) (by omega) (by omega) (k:=k) hr m jw [] (by simp)
  simp only[liM,a8,av] at lb;simp only[zE,yy,bq,aJ,bG,aI,qd,h1,g2,g3,h4,EW,seval];refine lb (fun out x ho=>?_)
  simp only[yy,EW,seval];exact⟨_,⟨out,x,0,rfl,ho⟩,rfl⟩
 obtain⟨_,⟨out,x,e,rfl,h1⟩,h3⟩:=key;exact⟨out,x,e,az h3,h1⟩
section
variable {f:aa} {o:jk} {n:Node} {Q:ag×aG->Prop}
abbrev wkM(f:aa)(o:jk)(n:Node):aG:=[.cells (ck f),.cells (eA o),.cells sn,.cells qe,.cells (aJ f.s.now),.cells (aI n)]
def afH{l:List fp}(hl:l.length<=64){nx:Int}{k:List K}
  (hx:∀(S:List Bytes) z,∃r,Q r/\kr (ar bN) [.dC 4 10,.dC 5 7] 0 k ⟨.exit 1,(2,b9 0)::(4,b9 2)::(5,b9 3)::(11,ic l)::(12,aF nx)::(14,.slice (.own 6) (S.map ag.str))::z,wkM f o n++[.tick 1 S.length]⟩=some r) :
  ∃r,Q r/\eV (ar bN) [.dC 4 10,.dC 5 7] 0 k (.loop [2,4,5,11,12,14,15] afn) [(2,b9 0),(4,b9 2),(5,b9 3),(11,ic l),(12,aF nx),(14,.slice (.own 6) []),(15,aF 0)] (wkM f o n++[.tick 1 0])=some r:=by
 refine gH (xs:=l) (by omega) (fun m (S:List Bytes)=>S.length<=m) (fun S i=>[(2,b9 0),(4,b9 2),(5,b9 3),(11,ic l),(12,aF nx),(14,.slice (.own 6) (S.map ag.str)),(15,aF i)]) (fun S=>wkM f o n++[.tick 1 S.length]) Q (fun S hS=>?_) (fun pre e post S h hx' cz hw h0 hm hS hi=>?_) [] (aC _)
 ·simp only[wkM,ck,eA,sn,qe,aJ,aI,aR,aZ] at hx ⊢;simp only[Np,bw,EW,seval];exact hx S _
 ·have hp:=(aq.1 hx').1;have i1:=hi (S++[e.name]) (by simp; omega)
  have r1:cu (S.length+1) 16=True:=rb;simp only[wkM,ck,eA,sn,qe,aJ,aI,aR,aZ,bu,aP,a8,aD,au,av,aL] at i1 ⊢;simp only[Np,cz,hx',hw,h0,r1,fW,fm,EW,seval];exact i1
end
def c51{K:Nat}(f:aa)(o:jk)(hf:FB K f)(hK:K<=89000)(ho:wL o):yh K f 51 [.agg (ck f),.agg (eA o)]:=by
 have hr:=hf.ok.rt;have h200:=hr.sz.ae;have hp:o.da.length<=100000:=by have:=ho.da; omega
 have q3:=fun M=>adY f.s.now.ae f.s.now.next f.s.now.aj o.da hr.small hp M
 generalize B4 f.s.now.ae o.da=w at q3;have qg:=fun M=>zN f.s.now.ae f.s.now.next f.s.now.aj w.1 (by omega) M
 generalize (find f.s.now.ae w.1).getD Node.zero=n at qg;have q4:=k49;simp only[cQ,gk,dh,cR,a8,bG,aI] at q4 qg;have back:FB (K+200) f:=hf.mono (by omega)
 cases h0:w.2 != 0
 case true =>
  refine⟨f,gk w.2,az ?_,back,Dv⟩;simp only[zF,Np,ck,eA,cQ,gk,dh,cR,h0,q3,q4,EW,seval]
 cases h1:o.kind==1
 case true =>
  refine⟨f,⟨0,w.1,n.kind,0,0,[],[]⟩,az ?_,back,Dv⟩;simp only[zF,Np,ck,eA,cQ,gk,dh,cR,h0,h1,q3,qg,EW,seval]
 cases h2:o.kind==7
 case true =>
  obtain⟨a,qa⟩:=ajk n;have q5:=cP qa;simp only[bG,aI] at q5;refine⟨f,⟨0,w.1,n.kind,n.cL,a,[],[]⟩,az ?_,back,Dv⟩;simp only[zF,Np,ck,eA,cQ,gk,dh,cR,h0,h1,h2,q3,qg,q5,EW,seval]
 cases h3:o.kind==6
 case true =>
  obtain⟨l,nx,e,qa,hl⟩:=aoi f.s.now w.1 o.n o.m hr;have q5:=cP qa;simp only[bq,aJ] at q5;cases h4:e != 0
  case true =>
   refine⟨f,gk e,az ?_,back,Dv⟩;simp only[zF,Np,ck,eA,cQ,gk,dh,cR,h0,h1,h2,h3,h4,q3,q4,q5,qg,EW,seval]
  have key:∃r:ag×aG,(∃a,r=(.tuple [.agg (ck f),.agg (cQ a)],[]))/\eV (ar bN) zF.results 0 [] zF.body (fe 0 [.agg (ck f),.agg (eA o)]) []=some r:=by
   have la:=fun {k Q} hx=>afH (f:=f) (o:=o) (n:=n) (Q:=Q) hl (nx:=nx) (k:=k) hx
   simp only[wkM,ck,eA,sn,qe,aJ,aI,aR,aZ] at la;simp only[zF,Np,ck,eA,cQ,gk,dh,cR,h0,h1,h2,h3,h4,q3,q5,qg,EW,seval];refine la (fun S z=>?_)
   simp only[Np,EW,seval];exact⟨_,⟨⟨0,0,0,nx,0,S,[]⟩,rfl⟩,rfl⟩
  obtain⟨_,⟨a,rfl⟩,h5⟩:=key;exact⟨f,a,az h5,back,Dv⟩
 cases h4:o.kind==8
 case true =>
  have q5:=fun M=>aqW f.s.now.ae f.s.now.next f.s.now.aj f.holds o.cH o.handle w.1 (by omega) (by have:=hf.ok.dQ; omega) M
  obtain⟨g1,g2⟩:=Vb (t:=f.s.now) hf.ok.holds hf.ok.dQ o.cH o.handle w.1;have g4:∀y,y∈f.holds->y∈(rY ⟨f.s.now.ae,f.s.now.next,f.s.now.aj⟩ f.holds o.cH o.handle w.1).1:=fun y hy=>OV f.s.now f.holds o.cH o.handle w.1 hy
  have g3:∀y,y∈(rY ⟨f.s.now.ae,f.s.now.next,f.s.now.aj⟩ f.holds o.cH o.handle w.1).1->y∈f.holds\/tj f.s.now.ae y.an/\zO y.cH y.handle=true:=fun y hy=>OU (t:=f.s.now) (by obtain⟨cE,g⟩:=hr; exact g.kind) f.holds o.cH o.handle w.1 hy
  change tq (rY ⟨f.s.now.ae,f.s.now.next,f.s.now.aj⟩ f.holds o.cH o.handle w.1).1 at g1
  change(rY ⟨f.s.now.ae,f.s.now.next,f.s.now.aj⟩ f.holds o.cH o.handle w.1).1.length<=64 at g2
  generalize rY ⟨f.s.now.ae,f.s.now.next,f.s.now.aj⟩ f.holds o.cH o.handle w.1=v at q5 g1 g2 g3 g4
  cases h5:v.2 != 0
  ·refine⟨⟨f.s,v.1,f.cq⟩,⟨0,w.1,0,0,0,[],[]⟩,az ?_,hf.set g1 g2,fun h=>⟨fun y hy=>(g3 y hy).elim (h.file y) And.left,fun n hn ho=>by
    obtain⟨y,h1,h2⟩:=of_held (h.Ve n hn ho);exact xL (g4 y h1) h2,h.quo,h.one,h.over,fun y hy=>(g3 y hy).elim (h.key y) And.right⟩,.inl rfl⟩
   simp only[zF,Np,ck,eA,cQ,gk,dh,cR,h0,h1,h2,h3,h4,h5,q3,q5,qg,EW,seval]
  ·refine⟨f,gk v.2,az ?_,back,Dv⟩;simp only[zF,Np,ck,eA,cQ,gk,dh,cR,h0,h1,h2,h3,h4,h5,q3,q4,q5,qg,EW,seval]
 cases h5:o.kind==13
 case true =>
  obtain⟨l,e,qa,hl,hl',hlm⟩:=aok f.s.now f.cq w.1 o.n o.m hr hf.ok.cq hf.ok.rB;have q5:=cP qa;obtain⟨g,a,qd,hg⟩:=Kc f f.s.now l e ⟨0,w.1,0,0,0,[],[]⟩ hf hK hr hl hl' (fun _ _ h=>h) (fun h y hy hi=>(hlm y hy).elim (fun hq=>(h.quo y hq).no (.inl hi)) fun hd=>Wi.no hd (.inl hi))
  have q7:=cP qd;simp only[bq,aJ,ck,cQ,dh,cR,a8] at q5 q7;refine⟨g,a,az ?_,hg⟩;simp only[zF,Np,ck,eA,cQ,gk,dh,cR,h0,h1,h2,h3,h4,h5,q3,q5,q7,qg,EW,seval]
 obtain⟨i,e,qa⟩:=aol f.s w.1 (by omega) hf.ok.cf
 have q5:=cP qa;simp only[bo] at q5;cases h6:e != 0
 ·have hts:(takeN f.s w.1).1.now=f.s.now/\(takeN f.s w.1).1.since=f.s.since/\(takeN f.s w.1).1.dz=f.s.dz/\(takeN f.s w.1).1.cf.length<=16:=by
   have:=hf.ok.cf;unfold takeN;split
   ·exact⟨rfl,rfl,rfl,this⟩
   split
   ·exact⟨rfl,rfl,rfl,this⟩
   split
   ·exact⟨rfl,rfl,rfl,this⟩
   ·rename_i hl;simp only[cN,bg,lu] at hl;exact⟨rfl,rfl,rfl,by simp; omega⟩
  obtain⟨t1,t2⟩:=hf.wo hts.1 hts.2.1 (fun p hp=>by rw[hts.2.2.1] at hp; exact hp) (by rw[hts.2.2.1]; exact aC _) hts.2.2.2
  refine⟨⟨(takeN f.s w.1).1,f.holds,f.cq⟩,⟨0,0,0,i,0,[],[]⟩,az ?_,t1,t2,.inr (.inr (.inl ⟨_,rfl⟩))⟩;simp only[zF,Np,ck,eA,cQ,gk,dh,cR,h0,h1,h2,h3,h4,h5,h6,q3,q5,qg,EW,seval]
 ·refine⟨f,gk e,az ?_,back,Dv⟩;simp only[zF,Np,ck,eA,cQ,gk,dh,cR,h0,h1,h2,h3,h4,h5,h6,q3,q4,q5,qg,EW,seval]
section
variable {data:Bytes} {jw:Nat} {Q:ag×aG->Prop}
def Uh(hf:jw+data.length<=100000){k:List K}
  (hx:∀(v:Nat) (out:Bytes) z,jw+data.length<=out.length->out.length<=100000->∃r,Q r/\kr (ar bN) [.tmp 6] 0 k ⟨.exit 0,(1,aF jw)::(2,cR data)::(7,.cS 0 v 1 0 out.length)::z,[.arr 1 v (out.map pU)]⟩=some r) :
  ∀(d v:Nat)(out:Bytes),jw+data.length-out.length=d->out.length<=100000->∃r,Q r/\eV (ar bN) [.tmp 6] 0 k (.loop [1,2,7] GF) [(1,aF jw),(2,cR data),(7,.cS 0 v 1 0 out.length)] [.arr 1 v (out.map pU)]=some r:=by
 have w1:IntKind.i64.wrap ((jw:Int)+(data.length:Int))=((jw+data.length:Nat):Int):=by rw[gn (by omega) (by omega)]; rfl
 intro d;induction d with
 |zero =>
  intro v out h1 h2;rw[bt];have e1:((out.length:Int)<((jw+data.length:Nat):Int))=False:=oyf;simp only[Ha,w1,e1,bK,EW,seval];exact hx v out _ (by omega) h2
 |succ d ih =>
  intro v out h1 h2;rw[bt];have e1:((out.length:Int)<((jw+data.length:Nat):Int))=True:=vG;have r1:cu (out.length+1) 1=True:=rb;have u0:pU 0 = .int .u8 0:=rfl;have i1:=ih (v+1) (out++[0]) (by simp; omega) (by simp; omega)
  simp only[bu,aP,a8,aD,au,av,aL,u0] at i1;simp only[Ha,w1,e1,r1,bK,EW,seval];exact i1
def Ui(hf:jw+data.length<=100000){v L:Nat}(hL:jw+data.length<=L){k:List K}
  (hx:∀(out:Bytes) z,out.length=L->∃r,Q r/\kr (ar bN) [.tmp 6] 0 k ⟨.exit 2,(1,aF jw)::(2,cR data)::(7,.cS 0 v 1 0 L)::z,[.arr 1 v (out.map pU)]⟩=some r) {out:Bytes} (ho:out.length=L) :
  ∃r,Q r/\eV (ar bN) [.tmp 6] 0 k (.loop [1,2,7,8] XU) [(1,aF jw),(2,cR data),(7,.cS 0 v 1 0 L),(8,aF 0)] [.arr 1 v (out.map pU)]=some r:=by
 refine gH (xs:=data) (by omega) (fun _ (out:Bytes)=>out.length=L) (fun _ i=>[(1,aF jw),(2,cR data),(7,.cS 0 v 1 0 L),(8,aF i)]) (fun out=>[.arr 1 v (out.map pU)]) Q (fun out ho=>?_) (fun pre x post out e hx' cz hw h0 hm ho hi=>?_) out ho
 ·simp only[Ha,bw,EW,seval];exact hx out _ ho
 ·have hp:=(aq.1 hx').1;have w1:IntKind.i64.wrap ((jw:Int)+(pre.length:Int))=((jw+pre.length:Nat):Int):=by rw[gn (by omega) (by omega)]; rfl
  have e1:(((jw+pre.length:Nat):Int)<(L:Int))=True:=vG;have e2:(((jw+pre.length:Nat):Int)<0)=False:=oyf;have sU:∀(ds:List UInt8)(b:Nat)(d x:UInt8),jj (ds.map pU) b (putCells (.int .u8 d.toNat) 0 [.int .u8 x.toNat])=(ds.set b x).map pU:=ZV;have e3:(jw+pre.length<out.length)=True:=vG;have e4:(jw+pre.length<L)=True:=vG;obtain⟨d,hb⟩:∃d,out[jw+pre.length]?=some d:=⟨_,ai (by omega)⟩
  have i1:=hi (out.set (jw+pre.length) x) (by simp[ho])
  simp only[Ha,cz,hx',hw,h0,w1,e1,e2,e3,e4,hb,ho,sU,pU,bK,EW,seval];exact i1
end
def aon(file:Bytes)(jw:Nat)(data:Bytes)(hf:file.length<=100000)(hr:jw+data.length<=100000):∃out:Bytes,ar bN 117 [cR file,aF jw,cR data] []=some (cR out,[])/\out.length<=100000:=by
 have key:∃r:ag×aG,(∃out:Bytes,r=(cR out,[])/\out.length<=100000)/\eV (ar bN) ET.results 0 [] ET.body (fe 0 [cR file,aF jw,cR data]) []=some r:=by
  have r1:cu file.length 1=True:=rb;cases h1:(data.length:Int)==0
  ·have la:=fun {k Q} hx=>Uh (data:=data) (jw:=jw) (Q:=Q) hr (k:=k) hx _ 0 file rfl (by omega)
   have hk:∀ {k:List K} {a b c d:ag} {M:aG},eV (ar bN) [.tmp 6] 0 k (.loop [1,2,7] GF) [(1,a),(2,b),(7,c),(14,d)] M=eV (ar bN) [.tmp 6] 0 k (.loop [1,2,7] GF) [(1,a),(2,b),(7,c)] M:=by
    intros; rw[bt,bt]; rfl
   simp only[ET,Ha,h1,r1,EW,seval];rw[hk];refine la (fun v out z h2 h3=>?_)
   have lb:=fun {k Q} hx=>Ui (data:=data) (jw:=jw) (Q:=Q) hr (v:=v) h2 (k:=k) hx (out:=out) rfl
   simp only[Ha,EW,seval];refine lb (fun out' z h4=>?_)
   have htk:(out'.map pU).take out.length=out'.map pU:=bQ (by simp[h4])
   simp only[Ha,h4,htk,bK,EW,seval];exact⟨_,⟨out',rfl,by omega⟩,rfl⟩
  ·have htk:(file.map pU).take file.length=file.map pU:=bQ (by simp)
   simp only[ET,Ha,h1,r1,htk,bK,EW,seval];exact⟨_,⟨file,rfl,by omega⟩,rfl⟩
 obtain⟨_,⟨out,rfl,h1⟩,h3⟩:=key;exact⟨out,az h3,h1⟩
def c52{K:Nat}(f:aa)(o:jk)(hf:FB K f)(hK:K<=89000)(ho:wL o):yh K f 52 [.agg (ck f),.agg (eA o)]:=by
 have hr:=hf.ok.rt;have h200:=hr.sz.ae;have hod:=ho.data;have q4:=k49;simp only[cQ,gk,dh,cR,a8] at q4;have back:FB (K+200) f:=hf.mono (by omega)
 cases h0:o.kind==9
 case true =>
  obtain⟨u,l,e,qa,g⟩:=ajl f.s.now f.holds o.cH o.handle hr hf.ok.holds hf.ok.dQ;have qp:=c56 f.s u hr g.rt hf.ok.len hf.ok.cf hf.ok.dz;have q1:=cP qa;have q2:=cP qp;simp only[bq,aJ,bo] at q1 q2;cases h1:e != 0
  ·refine⟨⟨ki f.s u,l,f.cq⟩,gk 0,az ?_,hf.put hK g.rt g.jv g.len hf.ok.cq hf.ok.rB,fun h=>GU g.mem (g.Ve h.Ve) (fun q hq=>g.dir _ (h.quo q hq)) (g.one _ h.one) (fun q hq=>by rw[g.use]; exact h.over q hq) h,.inr (.inl ⟨u,g.rt,rfl⟩)⟩
   simp only[Cb,PO,ck,eA,cQ,gk,dh,cR,h0,h1,q1,q2,EW,seval]
  ·refine⟨f,gk e,az ?_,back,Dv⟩;simp only[Cb,PO,ck,eA,cQ,gk,dh,cR,h0,h1,q1,q4,EW,seval]
 obtain⟨x,e,qa⟩:=aom f.holds o.cH o.handle hf.ok.dQ;have q1:=cP qa;cases h1:e != 0
 case true =>
  refine⟨f,gk e,az ?_,back,Dv⟩;simp only[Cb,PO,ck,eA,cQ,gk,dh,cR,h0,h1,q1,q4,EW,seval]
 have qg:=fun M=>zN f.s.now.ae f.s.now.next f.s.now.aj x (by omega) M
 have hz:(find f.s.now.ae x).getD Node.zero=aX f.s.now.ae x:=rfl;rw[hz] at qg;obtain⟨s1,s2⟩:=xb hf.ok x;generalize aX f.s.now.ae x=n at qg s1 s2;simp only[bG,aI] at qg;have bad:∀e,ar bN 52 [.agg (ck f),.agg (eA o)] []=some (.tuple [.agg (ck f),.agg (cQ (gk e))],[])->yh K f 52 [.agg (ck f),.agg (eA o)]:=fun e h=>⟨f,gk e,h,back,Dv⟩
 cases h2:decide (o.n<0)
 case true =>
  refine bad 1 (az ?_);simp only[Cb,PO,ck,eA,cQ,gk,dh,cR,h0,h1,h2,q1,q4,qg,EW,seval]
 have hn0:0<=o.n:=by simpa using h2
 obtain⟨m1,m2⟩:=zW hn0 n.data.length;generalize yb o.n n.data.length=mn at m1 m2;have t1:((mn:Int)<=(n.data.length:Int))=True:=vG;have ta:(n.data.map pU).take n.data.length=n.data.map pU:=bQ (by simp)
 cases h3:o.kind==10
 case true =>
  have h3':(o.kind==11)=false:=by simp at h3 ⊢; omega
  cases h4:decide (o.m<0)
  case true =>
   refine bad 1 (az ?_);simp only[Cb,PO,ck,eA,cQ,gk,dh,cR,h0,h1,h2,h3,h3',h4,q1,q4,qg,EW,seval]
  cases h5:decide (4096<o.m)
  case true =>
   refine bad 1 (az ?_);simp only[Cb,PO,ck,eA,cQ,gk,dh,cR,h0,h1,h2,h3,h3',h4,h5,q1,q4,qg,EW,seval]
  simp only[dP] at h4 h5;have g4:decide (o.m<0)=false:=by simp; omega
  have g5:decide (4096<o.m)=false:=by simp; omega
  have w1:IntKind.i64.wrap ((mn:Int)+o.m)=(mn:Int)+o.m:=gn (by omega) (by omega)
  obtain⟨p1,p2⟩:=zW (a:=(mn:Int)+o.m) (by omega) n.data.length
  have p3:mn<=yb ((mn:Int)+o.m) n.data.length:=by
   have:=p1; split at this<;>omega
  generalize yb ((mn:Int)+o.m) n.data.length=mx at p1 p2 p3;have t2:((mx:Int)<=(n.data.length:Int))=True:=vG;have t3:((mn:Int)<=(mx:Int))=True:=vG;refine⟨f,⟨0,x,0,0,0,[],(n.data.take mx).drop mn⟩,az ?_,back,Dv⟩;simp only[Cb,PO,ck,eA,cQ,gk,dh,cR,h0,h1,h2,h3,h3',g4,g5,q1,qg,m1,p1,w1,t1,t2,t3,ta,fF,ju,EW,seval]
 cases h6:o.kind==11
 case true =>
  cases h7:decide (4096<o.n)
  case true =>
   refine bad 1 (az ?_);simp only[Cb,PO,ck,eA,cQ,gk,dh,cR,h0,h1,h2,h3,h6,h7,q1,q4,qg,EW,seval]
  have h7':¬4096<o.n:=by simpa using h7
  obtain⟨m,hm⟩:∃m:Nat,o.n=m:=⟨o.n.toNat,by omega⟩
  rw[hm] at h2 h7;have w1:IntKind.i64.wrap ((m:Int)+(o.data.length:Int))=(m:Int)+(o.data.length:Int):=gn (by omega) (by omega)
  cases h8:decide (4096<(m:Int)+(o.data.length:Int))
  case true =>
   refine bad 2 (az ?_);simp only[Cb,PO,ck,eA,cQ,gk,dh,cR,hm,h0,h1,h2,h3,h6,h7,h8,w1,q1,q4,qg,EW,seval]
  obtain⟨d,ql,hd⟩:=aon n.data m o.data (by omega) (by omega)
  have q5:=cP ql;have h8':¬4096<(m:Int)+(o.data.length:Int):=by simpa using h8
  have q6:=fun M=>akZ f.s.now.ae f.s.now.next f.s.now.aj x d hr.small hd M
  have hv:=hr.put x d;have hkf:=Iq hr x d;have hrf:=VF hr x d;generalize rf f.s.now x d=v at q6 hv hkf hrf;obtain⟨g,a,qd,hg⟩:=Kc f v.1 f.cq v.2 ⟨0,x,0,0,d.length,[],[]⟩ hf hK hv hf.ok.cq hf.ok.rB (fun y _ h=>hkf.2 _ h) (fun h y hy hi=>(h.quo y hy).no (hrf _ hi))
  have q7:=cP qd;simp only[bq,aJ,ck,cQ,dh,cR,a8] at q5 q6 q7;refine⟨g,a,az ?_,hg⟩;simp only[Cb,PO,ck,eA,cQ,gk,dh,cR,hm,h0,h1,h2,h3,h6,h7,h8,w1,q1,q5,q6,q7,qg,EW,seval]
 have tl1:(List.take mn (n.data.map pU)).length=mn:=by simp; omega
 have tl2:(List.take mn n.data).length=mn:=by simp; omega
 have q6:=fun M=>akZ f.s.now.ae f.s.now.next f.s.now.aj x (n.data.take mn) hr.small (by simp; omega) M
 have hv:=hr.put x (n.data.take mn);have hkf:=Iq hr x (n.data.take mn);have hrf:=VF hr x (n.data.take mn);generalize rf f.s.now x (n.data.take mn)=v at q6 hv hkf hrf;obtain⟨g,a,qd,hg⟩:=Kc f v.1 f.cq v.2 ⟨0,x,0,0,(n.data.take mn).length,[],[]⟩ hf hK hv hf.ok.cq hf.ok.rB (fun y _ h=>hkf.2 _ h) (fun h y hy hi=>(h.quo y hy).no (hrf _ hi))
 have q7:=cP qd;simp only[bq,aJ,ck,cQ,dh,cR,a8,fj,tl2] at q6 q7;refine⟨g,a,az ?_,hg⟩;simp only[Cb,PO,tl1,ck,eA,cQ,gk,dh,cR,h0,h1,h2,h3,h6,q1,q6,q7,qg,m1,t1,fF,EW,seval]
section
variable {s:gh} {Q:ag×aG->Prop} {id:Int}
abbrev Pw(s:gh):aG:=[.cells (bo s),.cells [.slice .c0 [],.int .i64 0,.int .i64 0,.int .i64 0,.slice .c0 [],.slice .c0 [],.slice .c0 [],.int .i64 0]]
def Zh(hk:s.cf.length<=16){k:List K}
  (hx:∀z,∃r,Q r/\kr (ar bN) [.dC 4 8,.tmp 5] 0 k ⟨.exit 0,(1,aF id)::(2,b9 0)::(4,b9 1)::(6,.slice (.own 2) ((s.cf.filter (kJ id)).map j6))::z,Pw s++[.tick 3 (s.cf.filter (kJ id)).length]⟩=some r) :
  ∃r,Q r/\eV (ar bN) [.dC 4 8,.tmp 5] 0 k (.loop [1,2,4,6,7] afr) [(1,aF id),(2,b9 0),(4,b9 1),(6,.slice (.own 2) []),(7,aF 0)] (Pw s++[.tick 3 0])=some r:=by
 refine gH (xs:=s.cf) (by omega) (fun m (ts:List jm)=>ts=(s.cf.take m).filter (kJ id)) (fun ts i=>[(1,aF id),(2,b9 0),(4,b9 1),(6,.slice (.own 2) (ts.map j6)),(7,aF i)]) (fun ts=>Pw s++[.tick 3 ts.length]) Q (fun ts hK=>?_) (fun pre x post ts e hx' cz hw h0 hm hK hi=>?_) [] rfl
 ·rw[bW] at hK;subst hK;simp only[Pw,bo,aR,aZ] at hx ⊢;simp only[E54,bw,EW,seval];exact hx _
 ·have hp:=(aq.1 hx').1;have hl:ts.length<=16:=by rw[hK]; exact aW (bU _ _) (by simp; omega)
  have i1:=hi (ts++if x.id != id then [x] else []) (by rw[cC,hx',lY,<-hK]; simp only[lZ,eF,lG,kJ]<;>rfl)
  have r1:cu (ts.length+1) 24=True:=rb;simp only[Pw,bo,aR,aZ] at i1 ⊢;cases h1:x.id != id<;>simp only[h1,af,aE,aw,cZ,bu,aP,a8,aD,au,av,aL,j6,gS] at i1<;>simp only[E54,cz,hx',hw,h0,h1,r1,j6,gS,EW,seval]<;>exact i1
def Zi(hp:s.dz.length<=90000){ts:List jm}(hk:ts.length<=16){k:List K}
  (hx:∀z,∃r,Q r/\kr (ar bN) [.dC 4 8,.tmp 5] 0 k ⟨.exit 2,(2,b9 0)::(4,b9 1)::(6,.slice (.own 2) (ts.map j6))::(8,.slice (.own 3) ((s.dz.filter (ri ts)).map kI))::z,Pw s++[.tick 3 ts.length,.tick 8 (s.dz.filter (ri ts)).length]⟩=some r) :
  ∃r,Q r/\eV (ar bN) [.dC 4 8,.tmp 5] 0 k (.loop [2,4,6,8,9] afs) [(2,b9 0),(4,b9 1),(6,.slice (.own 2) (ts.map j6)),(8,.slice (.own 3) []),(9,aF 0)] (Pw s++[.tick 3 ts.length,.tick 8 0])=some r:=by
 refine gH (xs:=s.dz) (by omega) (fun m (P:List pj)=>P=(s.dz.take m).filter (ri ts)) (fun P i=>[(2,b9 0),(4,b9 1),(6,.slice (.own 2) (ts.map j6)),(8,.slice (.own 3) (P.map kI)),(9,aF i)]) (fun P=>Pw s++[.tick 3 ts.length,.tick 8 P.length]) Q (fun P hP=>?_) (fun pre x post P e hx' cz hw h0 hm hP hi=>?_) [] rfl
 ·rw[bW] at hP;subst hP;simp only[Pw,bo,aR,aZ] at hx ⊢;simp only[E54,bw,EW,seval];exact hx _
 ·have hp':=(aq.1 hx').1;have hl:P.length<=90000:=by rw[hP]; exact aW (bU _ _) (by simp; omega)
  have i1:=hi (P++if vx ts x.jw x.pT then [x] else []) (by rw[cC,hx',lY,<-hP]; simp only[lZ,eF,lG,ri]<;>rfl)
  have qw:=fun M=>ak0 ts x.jw x.pT (by omega) M
  generalize vx ts x.jw x.pT=w at qw i1;have r1:cu (P.length+1) 96=True:=rb;simp only[Pw,bo,aR,aZ] at i1 ⊢;cases w<;>simp only[af,aE,aw,cZ,bu,aP,a8,aD,au,av,aL,kI,mL,aI] at i1<;>simp only[E54,cz,hx',hw,h0,qw,r1,kI,mL,aI,EW,seval]<;>exact i1
end
def c54(s:gh)(id:Int)(hk:s.cf.length<=16)(hp:s.dz.length<=90000):∃e,ar bN 54 [.agg (bo s),aF id] []=some (.tuple [.agg (bo (nV s id).1),aF e],[]):=by
 have key:∃r:ag×aG,(∃e,r=(.tuple [.agg (bo (nV s id).1),aF e],[]))/\eV (ar bN) Q8.results 0 [] Q8.body (fe 0 [.agg (bo s),aF id]) []=some r:=by
  have la:=fun {k Q} hx=>Zh (s:=s) (Q:=Q) (id:=id) hk (k:=k) hx
  simp only[Pw,bo,aR,aZ] at la;simp only[Q8,E54,bo,EW,seval];refine la (fun z=>?_)
  unfold nV;have hK:(s.cf.filter (kJ id)).length<=16:=aW (bU _ _) hk;generalize s.cf.filter (kJ id)=ts at hK ⊢;cases h1:(ts.length:Int)==(s.cf.length:Int)
  ·have lb:=fun {k Q} hx=>Zi (s:=s) (Q:=Q) hp (ts:=ts) hK (k:=k) hx
   simp only[Pw,bo,aR,aZ] at lb;simp only[E54,h1,af,aw,EW,seval];refine lb (fun z=>?_)
   simp only[E54,EW,seval];exact⟨_,⟨0,rfl⟩,rfl⟩
  ·simp only[E54,h1,aE,EW,seval];exact⟨_,⟨100,rfl⟩,rfl⟩
 obtain⟨_,⟨e,rfl⟩,h3⟩:=key;exact⟨e,az h3⟩
def ap0(l:List Node)(n:Node)(hn:l.length<=100000):∃m,ar bN 252 [aY l,bG n] []=some (aY m,[])/\m.length=l.length+1/\∀x,x∈m->x=n\/x∈l:=by
 have key:∃r:ag×aG,(∃m,r=(aY m,[])/\m.length=l.length+1/\∀x,x∈m->x=n\/x∈l)/\eV (ar bN) H2.results 0 [] H2.body (fe 0 [aY l,bG n]) []=some r:=by
  simp only[H2,Wz,bG,aI,EW,seval]
  have fin:∀(i:Nat),i<=l.length->∃m:List Node,m.length=l.length+1/\(∀x,x∈m->x=n\/x∈l)/\l.take i++n::l.drop i=m:=fun i hi=>⟨_,by simp; omega,fun x hx=>by
   rcases bm.1 hx with hx|hx
   ·exact .inr (dI hx)
   ·rcases bC.1 hx with hx|hx
    ·exact .inl hx
    ·exact .inr (dr hx),rfl⟩
  refine gH (xs:=l) (by omega) (fun _ (_:Unit)=>True) (fun _ i=>[(0,aY l),(3,b9 0),(5,aF i)]) (fun _=>[bT [aF n.an,aF n.kind,aF n.cL,cR n.data,ic n.aM,aF n.up]]) _ (fun _ _=>?_) (fun pre x post _ e hx cz hw h0 hm _ hi=>?_) () trivial
  ·obtain⟨m,m1,m2,m3⟩:=fin l.length (aC _);have r1:cu l.length 80=True:=rb;have r2:cu (l.length+1) 80=True:=rb;have a1:(l.map bG).take l.length=l.map bG:=by rw[<-fj,bW]
   have a2:(l.map bG).drop l.length=[]:=by rw[<-ju,List.drop_length]; rfl
   simp only[Wz,bw,cp,a1,a2,r1,r2,EW,seval];refine⟨_,⟨m,rfl,m1,m2⟩,?_⟩;rw[<-m3]; simp[bG,aI]
  ·have hp:=(aq.1 hx).1;obtain⟨m,m1,m2,m3⟩:=fin pre.length (by omega)
   have i1:=hi () trivial;have r1:cu pre.length 80=True:=rb;have r2:cu (pre.length+1) 80=True:=rb;obtain⟨B,hB⟩:∃B,x::post=B:=⟨_,rfl⟩;have t1:l.take pre.length=pre:=by rw[e]; simp
   have t2:l.drop pre.length=B:=by rw[e,<-hB]; simp
   have t3:pre.length+B.length=l.length:=by rw[e,<-hB]; simp
   have r3:cu (pre.length+1+B.length) 80=True:=rb;have a1:(l.map bG).take pre.length=pre.map bG:=by rw[<-fj,t1]
   have a2:(l.map bG).drop pre.length=B.map bG:=by rw[<-ju,t2]
   have a3:((pre.length:Int)<=(l.length:Int))=True:=vG;have a4:(l.map bG).take l.length=l.map bG:=by rw[<-fj,bW]
   cases h1:decide (x.an<=n.an)<;>simp only[Wz,cz,hx,hw,h0,h1,bG,aI,EW,seval]
   ·simp only[Wz,a1,a2,a3,a4,r1,r2,r3,cp,EW,seval];refine⟨_,⟨m,rfl,m1,m2⟩,?_⟩;rw[<-m3,t1,t2]; simp[bG,aI]
   ·exact i1
 obtain⟨_,⟨m,rfl,h1⟩,h3⟩:=key;exact⟨m,az h3,h1⟩
end
def V3:List Node->List Bool->Nat
 |n::r,b::m=>(if b then 0 else n.aM.length)+V3 r m
 |_,_=>0
def M6:∀(l:List Node)(m:List Bool)(i:Nat)(n:Node),l[i]?=some n->m[i]?=some false->V3 l (m.set i true)+n.aM.length=V3 l m
 | [],m,i,n,h,_=>by simp at h
 |x::l,[],i,n,_,h=>by simp at h
 |x::l,b::m,0,n,h,h'=>by simp at h h'; subst h; subst h'; simp[V3]; omega
 |x::l,b::m,i+1,n,h,h'=>by
  have:=M6 l m i n (by simpa using h) (by simpa using h')
  simp only[List.set_cons_succ,V3]; omega
def V4:∀(l:List Node)(m:List Bool),(∀n,n∈l->n.aM.length<=64)->V3 l m<=64*l.length
 | [],m,_=>by simp[V3]
 |x::l,[],_=>by simp[V3]
 |x::l,b::m,h=>by
  have h1:=V4 l m fun n hn=>h n (aO _ hn)
  have h2:=h x aV;simp only[V3,au]; split<;>omega
section
attribute [local irreducible] eV fZ je gK eo kr ar aU cA bH
section
variable {l:List Node} {Q:ag×aG->Prop}
abbrev Jw(l:List Node)(m:List Bool)(all:List Int):aG:=[.arr 1 0 (m.map ag.bool),.cells [aY l,.int .i64 0,.int .i64 0],.tick 1 all.length]
abbrev VT(n:Node):dy := .cells [.int .i64 n.an,.int .i64 n.kind,.int .i64 n.cL,cR n.data,ic n.aM,.int .i64 n.up]
def Us(hl:l.length<=100000){m:List Bool}{all:List Int}{i:Nat}{A B:List Node}{n:Node}(hs:l=A++n::B)(hA:∀x,x∈A->x.an≠n.an){k:List K}
  (hx:∀z,∃r,Q r/\kr (ar bN) [.tmp 4,.tmp 5] 0 k ⟨.exit 2,(0,aY l)::(6,.cS 0 0 1 0 l.length)::(7,b9 1)::(8,.slice (.own 2) (all.map mb))::(9,aF i)::(10,b9 3)::(12,aF A.length)::z,Jw l m all++[VT n]⟩=some r) :
  ∀(d j:Nat),j+d=A.length->∃r,Q r/\eV (ar bN) [.tmp 4,.tmp 5] 0 k (.loop [0,6,7,8,9,10,12] Yd) [(0,aY l),(6,.cS 0 0 1 0 l.length),(7,b9 1),(8,.slice (.own 2) (all.map mb)),(9,aF i),(10,b9 3),(12,aF j)] (Jw l m all++[VT n])=some r:=by
 have hl2:l.length=A.length+(B.length+1):=by rw[hs]; simp
 intro d;induction d with
 |zero =>
  intro j hj;obtain rfl:j=A.length:=by omega
  rw[bt];have b0:((A.length:Int)<0)=False:=by simp
  have hn:l[A.length]?=some n:=by rw[hs]; simp
  have e1:(n.an != n.an)=false:=by simp
  simp only[Jw,VT,aR,aZ] at hx ⊢;simp only[Av,b0,hn,e1,bG,aI,EW,seval];exact hx _
 |succ d ih =>
  intro j hj;rw[bt];have b0:((j:Int)<0)=False:=by simp
  obtain⟨x,hx1⟩:∃x,A[j]?=some x:=⟨_,ai (by omega)⟩
  have hn:l[j]?=some x:=by rw[hs,bB (by omega)]; exact hx1
  have e1:(x.an != n.an)=true:=by simpa using hA x (aQ hx1)
  have w1:IntKind.i64.wrap ((j:Int)+1)=((j+1:Nat):Int):=by rw[gn (by omega) (by omega)]; rfl
  have i1:=ih (j+1) (by omega)
  simp only[Jw,VT,aR,aZ] at i1 ⊢;simp only[Av,b0,hn,e1,w1,bG,aI,EW,seval];exact i1
def Ut{m:List Bool}{all:List Int}{i:Nat}{n:Node}(hn:n.aM.length<=64)(ha:all.length<=10000000){k:List K}
  (hx:∀(S:List Int) z,S.length=all.length+n.aM.length->∃r,Q r/\kr (ar bN) [.tmp 4,.tmp 5] 0 k ⟨.exit 4,(0,aY l)::(6,.cS 0 0 1 0 l.length)::(7,b9 1)::(8,.slice (.own 2) (S.map mb))::(9,aF i)::z,Jw l m S++[VT n]⟩=some r) :
  ∃r,Q r/\eV (ar bN) [.tmp 4,.tmp 5] 0 k (.loop [0,6,7,8,9,10,13] Ye) [(0,aY l),(6,.cS 0 0 1 0 l.length),(7,b9 1),(8,.slice (.own 2) (all.map mb)),(9,aF i),(10,b9 3),(13,aF 0)] (Jw l m all++[VT n])=some r:=by
 refine gH (xs:=n.aM) (by omega) (fun c (S:List Int)=>S.length=all.length+c) (fun S j=>[(0,aY l),(6,.cS 0 0 1 0 l.length),(7,b9 1),(8,.slice (.own 2) (S.map mb)),(9,aF i),(10,b9 3),(13,aF j)]) (fun S=>Jw l m S++[VT n]) Q (fun S hS=>?_) (fun pre e post S h hx' cz hw h0 hm hS hi=>?_) all rfl
 ·have:=fun z=>hx S ((10,b9 3)::z) hS
  simp only[Jw,VT,aR,aZ] at this ⊢;simp only[Av,bw,EW,seval];exact this _
 ·have hp:=(aq.1 hx').1;have i1:=hi (S++[e.an]) (by simp; omega)
  have r1:cu (S.length+1) 8=True:=by
   simp only[fq,jc]; unfold cu; omega
  simp only[Jw,VT,aR,aZ,bu,aP,a8,aD,au,av,aL,mb] at i1 ⊢;simp only[Av,cz,hx',hw,h0,r1,ud,fW,fm,EW,seval];exact i1
def Uu(hl:l.length<=100000)(he:∀n,n∈l->n.aM.length<=64){k:List K}
  (hx:∀(m:List Bool) z M,m.length=l.length->∃r,Q r/\kr (ar bN) [.tmp 4,.tmp 5] 0 k ⟨.exit 0,(0,aY l)::(6,.cS 0 0 1 0 l.length)::z,.arr 1 0 (m.map ag.bool)::M⟩=some r)
  (hr:∀(m:List Bool) M,m.length=l.length->∃r,Q r/\kr (ar bN) [.tmp 4,.tmp 5] 0 k ⟨.ret,[(4,.cS 0 0 1 0 l.length),(5,.bool false)],.arr 1 0 (m.map ag.bool)::M⟩=some r) :
  ∀(d:Nat)(m:List Bool)(all:List Int)(i:Nat),m.length=l.length->i<=all.length->all.length+V3 l m<=7000000->all.length+V3 l m-i=d->∃r,Q r/\eV (ar bN) [.tmp 4,.tmp 5] 0 k (.loop [0,6,7,8,9] Yf) [(0,aY l),(6,.cS 0 0 1 0 l.length),(7,b9 1),(8,.slice (.own 2) (all.map mb)),(9,aF i)] (Jw l m all)=some r:=by
 intro d;induction d using Nat.strongRecOn with
 |_ d ih =>
  intro m all i hm hi hb hd;rw[bt];rcases bD i all.length with h1|h1
  ·have e1:((i:Int)<(all.length:Int))=True:=vG;have e0:((i:Int)<0)=False:=by simp
   have w1:IntKind.i64.wrap ((i:Int)+1)=((i+1:Nat):Int):=by rw[gn (by omega) (by omega)]; rfl
   obtain⟨x,hx1⟩:∃x,all[i]?=some x:=⟨_,ai h1⟩;have qg:=fun M=>zN l 0 0 x hl M
   cases hf:find l x with
   |none =>
    rw[hf] at qg;simp only[iW,eJ,bG,aI,Node.zero,a8] at qg;simp only[Jw,aR,aZ] at hr ⊢;simp only[Av,e1,e0,hx1,qg,mb,EW,seval];exact hr m _ hm
   |some n =>
    rw[hf] at qg;simp only[bh,bZ,bG,aI] at qg;obtain⟨_,A,B,hs,hA⟩:=List.find?_eq_some_iff_append.1 hf;have hnm:n∈l:=by rw[hs]; simp
    have hne:=he n hnm
    have hA':∀y,y∈A->y.an≠n.an:=fun y hy hyn=>by
     have h2:=hA y hy;have h3:=(List.find?_eq_some_iff_append.1 hf).1;simp at h2 h3; omega
    have la:=fun {k} hx=>Us (l:=l) (Q:=Q) hl (m:=m) (all:=all) (i:=i) hs hA' (k:=k) hx A.length 0 (by omega)
    simp only[Jw,VT,aR,aZ] at la ⊢;simp only[Av,e1,e0,hx1,qg,mb,EW,seval];refine la (fun z=>?_)
    have hAl:A.length<l.length:=by rw[hs]; simp
    have a0:((A.length:Int)<0)=False:=by simp
    have a1:((A.length:Int)<(l.length:Int))=True:=vG;have a2:(A.length<l.length)=True:=vG;have a3:(A.length<m.length)=True:=vG;have hln:l[A.length]?=some n:=by rw[hs]; simp
    obtain⟨b,hmb⟩:∃b,m[A.length]?=some b:=⟨_,ai (by omega)⟩
    cases b
    ·have hu:=M6 l m A.length n hln hmb;have lb:=fun {k} hx=>Ut (l:=l) (Q:=Q) (m:=m.set A.length true) (all:=all) (i:=i) (n:=n) hne (by omega) (k:=k) hx
     simp only[Jw,VT,aR,aZ] at lb;simp only[Av,a0,a1,a2,a3,hmb,hm,FJ,bK,EW,seval];refine lb (fun S z hS=>?_)
     have i1:=ih _ (by omega) (m.set A.length true) S (i+1) (by simp[hm]) (by omega) (by omega) rfl
     simp only[Jw] at i1;simp only[Av,w1,EW,seval];exact i1
    ·have i1:=ih _ (by omega) m all (i+1) hm (by omega) hb rfl
     simp only[Jw] at i1;simp only[Av,a0,a1,a2,a3,hmb,hm,w1,bK,EW,seval];exact i1
  ·have e1:((i:Int)<(all.length:Int))=False:=oyf;simp only[Jw,aR,aZ] at hx ⊢;simp only[Av,e1,EW,seval];exact hx m _ _ hm
end
def apo(l:List Node)(an:Int)(hl:l.length<=100000)(he:∀n,n∈l->n.aM.length<=64):∃(m:List Bool) (b:Bool),ar bN 192 [aY l,aF an] []=some (.tuple [hZ (m.map ag.bool),.bool b],[])/\m.length=l.length:=by
 have key:∃r:ag×aG,(∃(m:List Bool) (b:Bool),r=(.tuple [hZ (m.map ag.bool),.bool b],[])/\m.length=l.length)/\eV (ar bN) HX.results 0 [] HX.body (fe 0 [aY l,aF an]) []=some r:=by
  have r1:cu l.length 8=True:=rb
  have hrep:List.replicate l.length (ag.agg [ag.bool false]).norm=(List.replicate l.length false).map ag.bool:=by
   rw[gJ]; rfl
  have hu:=V4 l (List.replicate l.length false) he;have lc:=fun {k Q} hx hr=>Uu (l:=l) (Q:=Q) hl he (k:=k) hx hr _ (List.replicate l.length false) [an] 0 (by simp) (by simp) (by simp; omega) rfl
  simp only[Jw,aP,a8,au,av,mb] at lc;simp only[HX,Av,r1,hrep,EW,seval];refine lc (fun m z M hm=>?_) (fun m M hm=>?_)
  ·have htk:(m.map ag.bool).take l.length=m.map ag.bool:=bQ (by simp[hm])
   simp only[Av,hm,htk,bK,EW,seval];exact⟨_,⟨m,true,rfl,hm⟩,rfl⟩
  ·have htk:(m.map ag.bool).take l.length=m.map ag.bool:=bQ (by simp[hm])
   simp only[Av,hm,htk,bK,EW,seval];exact⟨_,⟨m,false,rfl,hm⟩,rfl⟩
 obtain⟨_,⟨m,b,rfl,h1⟩,h3⟩:=key;exact⟨m,b,az h3,h1⟩
section
variable {s:gh} {a:Int} {Q:ag×aG->Prop}
def Bu(c:Nat)(x:ag×List Node):Prop:=(x.1 = .slice .c0 []/\x.2=[]\/x.1=aY x.2)/\x.2.length<=c/\∀n,n∈x.2->Gb n
def Bu.akX{c:Nat}{x:ag×List Node}(h:Bu c x)(hc:c<=100000){n:Node}(hn:Gb n):∃m,(∀M,aU (ar bN) 252 [x.1.gb,.agg (aI n)] M=some (aY m,M))/\Bu (c+1) (aY m,m):=by
 obtain⟨v,l⟩:=x;obtain⟨h1,h2,h3⟩:=h;simp only at h1 h2 h3;obtain⟨m,q,g1,g2⟩:=ap0 l n (by omega)
 have hv:v.gb=aY l:=by
  rcases h1 with ⟨rfl,rfl⟩|rfl<;>rfl
 refine⟨m,fun M=>?_,.inr rfl,by simp only; omega,fun y hy=>?_⟩
 ·simp only[hv];exact cO q M
 ·rcases g2 y hy with rfl|hy
  ·exact hn
  ·exact h3 y hy
def Bu.mono{c d:Nat}{x:ag×List Node}(h:Bu c x)(hd:c<=d):Bu d x:=⟨h.1,aW h.2.1 hd,h.2.2⟩
def apn(s:gh)(a:Int)(hs:Rt s.now)(hl:s.since.length=s.now.ae.length)(hp:s.dz.length<=90000)(he:∀p,p∈s.dz->Gb p.node):∃l,ar bN 191 [.agg (bo s),aF a] []=some (aY l,[])/\l.length<=90200/\∀n,n∈l->Gb n:=by
 have key:∃r:ag×aG,(∃l,r=(aY l,[])/\l.length<=90200/\∀n,n∈l->Gb n)/\eV (ar bN) L9.results 0 [] L9.body (fe 0 [.agg (bo s),aF a]) []=some r:=by
  have h200:=hs.sz.ae;simp only[L9,Nl,bo,EW,seval];refine gH (xs:=s.now.ae) (by omega) (fun m (x:ag×List Node)=>Bu m x) (fun x i=>[(1,aF a),(2,b9 0),(5,x.1),(6,aF i)]) (fun _=>[bT (bo s)]) _ (fun x hI=>?_) (fun pre n post x e hx cz hw h0 hm hI hi=>?_) (.slice .c0 [],[]) ⟨.inl ⟨rfl,rfl⟩,aC _,fun n h=>by cases h⟩
  ·simp only[bo];simp only[Nl,bw,EW,seval];refine gH (xs:=s.dz) (by omega) (fun m (x:ag×List Node)=>Bu (s.now.ae.length+m) x) (fun x i=>[(1,aF a),(2,b9 0),(5,x.1),(7,aF i)]) (fun _=>[bT (bo s)]) _ (fun x hI=>?_) (fun pre p post x e hx cz hw h0 hm hI hi=>?_) x hI
   ·obtain⟨v,l⟩:=x;obtain⟨h1,h2,h3⟩:=hI;simp only at h2 h3;rcases h1 with ⟨h1,h4⟩|h1<;>simp only at h1
    ·simp only at h4;subst h1; subst h4;simp only[bo];simp only[Nl,bw,EW,seval];exact⟨_,⟨[],rfl,by simp,h3⟩,rfl⟩
    ·subst h1;simp only[bo];simp only[Nl,bw,EW,seval];exact⟨_,⟨l,rfl,by omega,h3⟩,rfl⟩
   ·have hpl:=(aq.1 hx).1;obtain⟨m,q,g⟩:=hI.akX (by omega) (he p hm)
    have i1:=hi x (hI.mono (by omega))
    have i2:=hi _ g;obtain⟨v,l⟩:=x;rcases hI.1 with ⟨h3,h4⟩|h3<;>simp only at h3<;>first|(simp only at h4; subst h3; subst h4)|subst h3
    all_goals
     first
      |(change ∀M,aU (ar bN) 252 [hZ [],.agg (aI p.node)] M=_ at q)
      |(change ∀M,aU (ar bN) 252 [aY l,.agg (aI p.node)] M=_ at q)
     simp only[bo,aI] at i1 i2 q ⊢;cases h1:decide (p.jw<=a)<;>cases h2:decide (a<p.pT)<;>simp only[Nl,cz,hx,hw,h0,h1,h2,q,kI,mL,aI,EW,seval]<;>first|exact i1|exact i2
  ·have hpl:=(aq.1 hx).1;have hl1:((pre.length:Int)<(s.since.length:Int))=True:=vG;obtain⟨y,hy⟩:∃y,s.since[pre.length]?=some y:=⟨_,ai (by omega)⟩
   obtain⟨m,q,g⟩:=hI.akX (by omega) (hs.PD hm)
   have i1:=hi x (hI.mono (by omega))
   have i2:=hi _ g;obtain⟨v,l⟩:=x;rcases hI.1 with ⟨h3,h4⟩|h3<;>simp only at h3<;>first|(simp only at h4; subst h3; subst h4)|subst h3
   all_goals
    first
     |(change ∀M,aU (ar bN) 252 [hZ [],.agg (aI n)] M=_ at q)
     |(change ∀M,aU (ar bN) 252 [aY l,.agg (aI n)] M=_ at q)
    simp only[bo,aI] at i1 i2 q ⊢;cases h1:decide (y<=a)<;>simp only[Nl,cz,hx,hw,h0,hl1,hy,h1,q,bG,aI,mb,EW,seval]<;>first|exact i1|exact i2
 obtain⟨_,⟨l,rfl,h1⟩,h3⟩:=key;exact⟨l,az h3,h1⟩
def c119(s:gh)(id:Int)(hs:Rt s.now)(hl:s.since.length=s.now.ae.length)(hp:s.dz.length<=90000)(he:∀p,p∈s.dz->Gb p.node)(hk:s.cf.length<=16):∃i l e,ar bN 119 [.agg (bo s),aF id] []=some (.tuple [aF i,aY l,aF e],[])/\l.length<=90200/\∀n,n∈l->Gb n:=by
 have key:∃r:ag×aG,(∃i l e,r=(.tuple [aF i,aY l,aF e],[])/\l.length<=90200/\∀n,n∈l->Gb n)/\eV (ar bN) HT.results 0 [] HT.body (fe 0 [.agg (bo s),aF id]) []=some r:=by
  simp only[HT,PG,bo,EW,seval];refine gH (xs:=s.cf) (by omega) (fun _ (_:Unit)=>True) (fun _ i=>[(1,aF id),(2,b9 0),(7,aF i)]) (fun _=>[bT (bo s)]) _ (fun _ _=>?_) (fun pre x post _ e hx cz hw h0 hm _ hi=>?_) () trivial
  ·simp only[bo];simp only[PG,bw,EW,seval];exact⟨_,⟨0,[],100,rfl,by simp,fun n h=>by cases h⟩,rfl⟩
  ·have hpl:=(aq.1 hx).1;obtain⟨l,q1,g1,g2⟩:=apn s x.at' hs hl hp he;obtain⟨m,b,q2,g3⟩:=apo l x.an (by omega) (fun n hn=>(g2 n hn).1)
   have k1:=cP q1;have k2:=cP q2;have i1:=hi () trivial;have e1:((pre.length:Int)<(s.cf.length:Int))=True:=vG;simp only[bo] at i1 k1 ⊢;cases h1:x.id != id<;>simp only[PG,cz,hx,hw,h0,h1,k1,k2,j6,gS,EW,seval]
   ·refine gH (xs:=l) (by omega) (fun c (S:List Node)=>S.length<=c/\∀n,n∈S->n∈l) (fun S i=>[(2,b9 0),(7,aF pre.length),(8,aY l),(9,hZ (m.map ag.bool)),(11,.slice (.own 1) (S.map bG)),(12,aF i)]) (fun S=>[bT (bo s),.tick 6 S.length]) _ (fun S hS=>?_) (fun pre2 n post2 S e2 hx2 hlt2 hw2 h02 hm2 hS hi2=>?_) [] ⟨aC _,fun n h=>by cases h⟩
    ·simp only[bo];simp only[PG,bw,e1,hx,h0,j6,gS,EW,seval];exact⟨_,⟨_,S,0,rfl,by omega,fun n hn=>g2 n (hS.2 n hn)⟩,rfl⟩
    ·have hpl2:=(aq.1 hx2).1;obtain⟨c,hc⟩:∃c,m[pre2.length]?=some c:=⟨_,ai (by omega)⟩
     have j1:=hi2 S ⟨by omega,hS.2⟩
     have j2:=hi2 (S++[n]) ⟨by simp; omega,fun y hy=>by
      rcases bm.1 hy with hy|hy
      ·exact hS.2 y hy
      ·rw[bM.1 hy]; exact hm2⟩
     have r1:cu (S.length+1) 80=True:=rb;simp only[bo,bu,aP,a8,aD,au,av,aL,bG,aI] at j1 j2 ⊢;cases c<;>simp only[PG,hlt2,hx2,hw2,h02,hc,r1,bG,aI,EW,seval]<;>first|exact j1|exact j2
   ·exact i1
 obtain⟨_,⟨i,l,e,rfl,h1⟩,h3⟩:=key;exact⟨i,l,e,az h3,h1⟩
end
section
variable {f:aa} {o:jk} {l:List Node} {names:List Bytes} {Q:ag×aG->Prop}
abbrev ZK(n:Node):List ag:=[.int .i64 n.an,.int .i64 n.kind,.int .i64 n.cL,cR n.data,ic n.aM,.int .i64 n.up]
abbrev I6(f:aa)(o:jk)(l:List Node)(n:Node):aG:=[.cells (ck f),.cells (eA o),.cells qe,.cells [aY l,.int .i64 0,.int .i64 0],.cells (ZK n)]
def Ze{n:Node}(hn:n.aM.length<=64){i:Nat}{w:Bytes}(hw':names[i]?=some w){k:List K}
  (hx:∀(x:Int) z,∃r,Q r/\kr (ar bN) [.dC 4 7] 0 k ⟨.exit 2,(4,b9 2)::(8,dh names)::(9,b9 3)::(10,b9 4)::(12,aF i)::(13,aF x)::z,I6 f o l n⟩=some r) :
  ∃r,Q r/\eV (ar bN) [.dC 4 7] 0 k (.loop [4,8,9,10,12,13,14] afo) [(4,b9 2),(8,dh names),(9,b9 3),(10,b9 4),(12,aF i),(13,aF 0),(14,aF 0)] (I6 f o l n)=some r:=by
 have b1:((i:Int)<0)=False:=by simp
 refine gH (xs:=n.aM) (by omega) (fun _ _=>True) (fun(x:Int) j=>[(4,b9 2),(8,dh names),(9,b9 3),(10,b9 4),(12,aF i),(13,aF x),(14,aF j)]) (fun _=>I6 f o l n) Q (fun x _=>?_) (fun pre e post x h hx' cz hw h0 hm _ hi=>?_) 0 trivial
 ·simp only[I6,ZK,ck,eA,qe] at hx ⊢;simp only[JX,bw,EW,seval];exact hx x _
 ·have i1:=hi x trivial;have i2:=hi e.an trivial;simp only[I6,ZK,ck,eA,qe] at i1 i2 ⊢;cases h1:e.name==w<;>simp only[JX,cz,hx',hw,h0,hw',b1,h1,fW,fm,EW,seval]<;>first|exact i1|exact i2
def Zf(hl:l.length<=100000)(he:∀n,n∈l->Gb n)(hn:names.length<=12){k:List K}
  (hx:∀(n:Node) z,Gb n->∃r,Q r/\kr (ar bN) [.dC 4 7] 0 k ⟨.exit 0,(4,b9 2)::(8,dh names)::(9,b9 3)::(10,b9 4)::z,I6 f o l n⟩=some r)
  (hr:∀(a:Int) M,∃r,Q r/\kr (ar bN) [.dC 4 7] 0 k ⟨.ret,[(4,b9 2)],bT (ck f) :: bT (eA o) :: bT (cQ (gk a))::M⟩=some r) {n:Node} (hno:Gb n) :
  ∃r,Q r/\eV (ar bN) [.dC 4 7] 0 k (.loop [4,8,9,10,12] afp) [(4,b9 2),(8,dh names),(9,b9 3),(10,b9 4),(12,aF 0)] (I6 f o l n)=some r:=by
 have q4:=k49;simp only[cQ,gk] at q4 hr;refine gH (xs:=names) (by omega) (fun _ (n:Node)=>Gb n) (fun _ i=>[(4,b9 2),(8,dh names),(9,b9 3),(10,b9 4),(12,aF i)]) (fun n=>I6 f o l n) Q (fun n hno=>?_) (fun pre w post n h hx' cz hw h0 hm hno hi=>?_) n hno
 ·simp only[I6,ZK,ck,eA,qe] at hx ⊢;simp only[JX,bw,EW,seval];exact hx n _ hno
 ·have la:=fun {k} hx=>Ze (f:=f) (o:=o) (l:=l) (Q:=Q) hno.1 hx' (k:=k) hx
  simp only[I6,ZK,ck,eA,qe] at la hi hr ⊢;cases h1:n.kind != 2
  ·simp only[JX,cz,h1,EW,seval];refine la (fun x z=>?_)
   have qg:=fun M=>zN l 0 0 x hl M
   cases hf:find l x with
   |none =>
    rw[hf] at qg;simp only[iW,eJ,bG,aI,Node.zero,a8] at qg;simp only[JX,qg,q4,EW,seval];exact hr 70 _
   |some m =>
    rw[hf] at qg;simp only[bh,bZ,bG,aI] at qg;have i1:=hi m (he m (fI hf));simp only[JX,qg,hw,EW,seval];exact i1
  ·simp only[JX,cz,h1,q4,EW,seval];exact hr 73 _
def Zg{n:Node}(hn:n.aM.length<=64){k:List K}
  (hx:∀(S:List Bytes) z,∃r,Q r/\kr (ar bN) [.dC 4 7] 0 k ⟨.exit 4,(4,b9 2)::(10,b9 4)::(17,.slice (.own 5) (S.map ag.str))::z,I6 f o l n++[.tick 1 S.length]⟩=some r) :
  ∃r,Q r/\eV (ar bN) [.dC 4 7] 0 k (.loop [4,10,17,18] afq) [(4,b9 2),(10,b9 4),(17,.slice (.own 5) []),(18,aF 0)] (I6 f o l n++[.tick 1 0])=some r:=by
 refine gH (xs:=n.aM) (by omega) (fun m (S:List Bytes)=>S.length<=m) (fun S i=>[(4,b9 2),(10,b9 4),(17,.slice (.own 5) (S.map ag.str)),(18,aF i)]) (fun S=>I6 f o l n++[.tick 1 S.length]) Q (fun S hS=>?_) (fun pre e post S h hx' cz hw h0 hm hS hi=>?_) [] (aC _)
 ·simp only[I6,ZK,ck,eA,qe,aR,aZ] at hx ⊢;simp only[JX,bw,EW,seval];exact hx S _
 ·have hp:=(aq.1 hx').1;have i1:=hi (S++[e.name]) (by simp; omega)
  have r1:cu (S.length+1) 16=True:=rb;simp only[I6,ZK,ck,eA,qe,aR,aZ,bu,aP,a8,aD,au,av,aL] at i1 ⊢;simp only[JX,cz,hx',hw,h0,r1,fW,fm,EW,seval];exact i1
end
def c53{K:Nat}(f:aa)(o:jk)(hf:FB K f)(hK:K<=89000)(ho:wL o):∃a,ar bN 53 [.agg (ck f),.agg (eA o)] []=some (.agg (cQ a),[]):=by
 have key:∃r:ag×aG,(∃a,r=(.agg (cQ a),[]))/\eV (ar bN) KK.results 0 [] KK.body (fe 0 [.agg (ck f),.agg (eA o)]) []=some r:=by
  obtain⟨i,l,e,qa,h1,h2⟩:=c119 f.s o.n hf.ok.rt hf.ok.len hf.ok.dz hf.ok.Cf hf.ok.cf;have q1:=cP qa;have q2:=fun M=>k35 o.da (by have:=ho.da; omega) M
  obtain⟨_,o2⟩:=px o.da;generalize jT o.da=v at q2 o2;have q4:=k49;simp only[bo,cQ,gk] at q1 q4;cases h3:e != 0
  case true =>
   simp only[KK,JX,ck,eA,q1,q4,h3,EW,seval];exact⟨_,⟨gk e,rfl⟩,rfl⟩
  cases h4:v.2 != 0
  case true =>
   simp only[KK,JX,ck,eA,q1,q2,q4,h3,h4,EW,seval];exact⟨_,⟨gk v.2,rfl⟩,rfl⟩
  have qg:=fun M=>zN l 0 0 i (by omega) M
  have hz:Gb ((find l i).getD Node.zero):=by
   cases hf:find l i with
   |none=>exact⟨by simp[Node.zero],by simp[Node.zero]⟩
   |some m=>exact h2 m (fI hf)
  generalize (find l i).getD Node.zero=n at qg hz;have lb:=fun {k Q} hx hr=>Zf (f:=f) (o:=o) (l:=l) (names:=v.1) (Q:=Q) (by omega) h2 o2 (k:=k) hx hr hz
  simp only[I6,ZK,ck,eA,qe,bG,aI] at lb qg;simp only[KK,JX,ck,eA,bG,aI,q1,q2,qg,h3,h4,EW,seval];refine lb (fun n z hn=>?_) (fun a M=>?_)
  ·have lc:=fun {k Q} hx=>Zg (f:=f) (o:=o) (l:=l) (Q:=Q) hn.1 (k:=k) hx
   simp only[I6,ZK,ck,eA,qe,aR,aZ] at lc;simp only[JX,EW,seval];refine lc (fun S z=>?_)
   obtain⟨b,qs⟩:=ajk n;have q5:=cP qs;simp only[bG,aI] at q5;simp only[JX,q5,EW,seval];exact⟨_,⟨⟨0,n.an,n.kind,n.cL,b,S,n.data⟩,rfl⟩,rfl⟩
  ·simp only[JX,cQ,EW,seval];exact⟨_,⟨gk a,rfl⟩,rfl⟩
 obtain⟨_,⟨a,rfl⟩,h3⟩:=key;exact⟨a,az h3⟩
def c24{K:Nat}(f:aa)(o:jk)(hf:FB K f)(hK:K<=89000)(ho:wL o):yh K f 24 [.agg (ck f),.agg (eA o)]:=by
 have q4:=k49;simp only[cQ,gk,dh,cR,a8] at q4;have back:FB (K+200) f:=hf.mono (by omega)
 have bad:ar bN 24 [.agg (ck f),.agg (eA o)] []=some (.tuple [.agg (ck f),.agg (cQ (gk 1))],[])->yh K f 24 [.agg (ck f),.agg (eA o)]:=fun h=>⟨f,gk 1,h,back,Dv⟩
 cases c1:decide (o.cH<0)
 case true =>
  refine bad (az ?_);simp only[uf,Ea,ck,eA,cQ,gk,dh,cR,c1,q4,EW,seval]
 cases c2:decide (16<=o.cH)
 case true =>
  refine bad (az ?_);simp only[uf,Ea,ck,eA,cQ,gk,dh,cR,c1,c2,q4,EW,seval]
 obtain⟨g1,a1,r1,f1⟩:=c50 f o hf hK ho;obtain⟨g2,a2,r2,f2⟩:=c51 f o hf hK ho;obtain⟨g3,a3,r3,f3⟩:=c52 f o hf hK ho;have q1:=cP r1;have q2:=cP r2;have q3:=cP r3;simp only[ck,eA,cQ] at q1 q2 q3;have byN:ar bN 24 [.agg (ck f),.agg (eA o)] []=some (.tuple [.agg (ck g1),.agg (cQ a1)],[])->yh K f 24 [.agg (ck f),.agg (eA o)]:=fun h=>⟨g1,a1,h,f1⟩
 have byW:ar bN 24 [.agg (ck f),.agg (eA o)] []=some (.tuple [.agg (ck g2),.agg (cQ a2)],[])->yh K f 24 [.agg (ck f),.agg (eA o)]:=fun h=>⟨g2,a2,h,f2⟩
 have byH:ar bN 24 [.agg (ck f),.agg (eA o)] []=some (.tuple [.agg (ck g3),.agg (cQ a3)],[])->yh K f 24 [.agg (ck f),.agg (eA o)]:=fun h=>⟨g3,a3,h,f3⟩
 cases k2:o.kind==2
 case true =>
  refine byN (az ?_);simp only[uf,Ea,ck,eA,cQ,gk,dh,cR,c1,c2,k2,q1,EW,seval]
 cases k3:o.kind==3
 case true =>
  refine byN (az ?_);simp only[uf,Ea,ck,eA,cQ,gk,dh,cR,c1,c2,k2,k3,q1,EW,seval]
 cases k4:o.kind==4
 case true =>
  refine byN (az ?_);simp only[uf,Ea,ck,eA,cQ,gk,dh,cR,c1,c2,k2,k3,k4,q1,EW,seval]
 cases k5:o.kind==5
 case true =>
  refine byN (az ?_);simp only[uf,Ea,ck,eA,cQ,gk,dh,cR,c1,c2,k2,k3,k4,k5,q1,EW,seval]
 cases k1:o.kind==1
 case true =>
  refine byW (az ?_);simp only[uf,Ea,ck,eA,cQ,gk,dh,cR,c1,c2,k2,k3,k4,k5,k1,q2,EW,seval]
 cases k6:o.kind==6
 case true =>
  refine byW (az ?_);simp only[uf,Ea,ck,eA,cQ,gk,dh,cR,c1,c2,k2,k3,k4,k5,k1,k6,q2,EW,seval]
 cases k7:o.kind==7
 case true =>
  refine byW (az ?_);simp only[uf,Ea,ck,eA,cQ,gk,dh,cR,c1,c2,k2,k3,k4,k5,k1,k6,k7,q2,EW,seval]
 cases k8:o.kind==8
 case true =>
  refine byW (az ?_);simp only[uf,Ea,ck,eA,cQ,gk,dh,cR,c1,c2,k2,k3,k4,k5,k1,k6,k7,k8,q2,EW,seval]
 cases k13:o.kind==13
 case true =>
  refine byW (az ?_);simp only[uf,Ea,ck,eA,cQ,gk,dh,cR,c1,c2,k2,k3,k4,k5,k1,k6,k7,k8,k13,q2,EW,seval]
 cases uU:o.kind==14
 case true =>
  refine byW (az ?_);simp only[uf,Ea,ck,eA,cQ,gk,dh,cR,c1,c2,k2,k3,k4,k5,k1,k6,k7,k8,k13,uU,q2,EW,seval]
 cases k9:o.kind==9
 case true =>
  refine byH (az ?_);simp only[uf,Ea,ck,eA,cQ,gk,dh,cR,c1,c2,k2,k3,k4,k5,k1,k6,k7,k8,k13,uU,k9,q3,EW,seval]
 cases k10:o.kind==10
 case true =>
  refine byH (az ?_);simp only[uf,Ea,ck,eA,cQ,gk,dh,cR,c1,c2,k2,k3,k4,k5,k1,k6,k7,k8,k13,uU,k9,k10,q3,EW,seval]
 cases Pz:o.kind==11
 case true =>
  refine byH (az ?_);simp only[uf,Ea,ck,eA,cQ,gk,dh,cR,c1,c2,k2,k3,k4,k5,k1,k6,k7,k8,k13,uU,k9,k10,Pz,q3,EW,seval]
 cases k12:o.kind==12
 case true =>
  refine byH (az ?_);simp only[uf,Ea,ck,eA,cQ,gk,dh,cR,c1,c2,k2,k3,k4,k5,k1,k6,k7,k8,k13,uU,k9,k10,Pz,k12,q3,EW,seval]
 cases k15:o.kind==15
 case true =>
  obtain⟨a,r5⟩:=c53 f o hf hK ho;have q5:=cP r5;simp only[ck,eA,cQ] at q5;refine⟨f,a,az ?_,back,Dv⟩;simp only[uf,Ea,ck,eA,cQ,gk,dh,cR,c1,c2,k2,k3,k4,k5,k1,k6,k7,k8,k13,uU,k9,k10,Pz,k12,k15,q5,EW,seval]
 cases k16:o.kind==16
 case true =>
  obtain⟨e,r5⟩:=c54 f.s o.n hf.ok.cf hf.ok.dz;have q5:=cP r5;simp only[bo] at q5;cases h1:e != 0
  ·obtain⟨t1,t2⟩:=hf.wo (u:=(nV f.s o.n).1) (by unfold nV; split<;>rfl) (by unfold nV; split<;>rfl) (fun p hp=>by
    unfold nV at hp;split at hp
    ·exact hp
    ·exact(cm.1 hp).1) (by unfold nV; split<;>first|exact aC _|exact bU _ _) (by
    have:=hf.ok.cf;unfold nV; split<;>first|exact this|exact aW (bU _ _) this)
   refine⟨⟨(nV f.s o.n).1,f.holds,f.cq⟩,gk 0,az ?_,t1,t2,.inr (.inr (.inr ⟨_,trivial,rfl⟩))⟩;simp only[uf,Ea,ck,eA,cQ,gk,dh,cR,c1,c2,k2,k3,k4,k5,k1,k6,k7,k8,k13,uU,k9,k10,Pz,k12,k15,k16,q5,h1,EW,seval]
  ·refine⟨f,gk e,az ?_,back,Dv⟩;simp only[uf,Ea,ck,eA,cQ,gk,dh,cR,c1,c2,k2,k3,k4,k5,k1,k6,k7,k8,k13,uU,k9,k10,Pz,k12,k15,k16,q4,q5,h1,EW,seval]
 cases k17:o.kind==17
 case true =>
  obtain⟨u,l,r5,g⟩:=c55 f.s.now f.holds o.cH hf.ok.rt hf.ok.holds hf.ok.dQ;have r6:=c56 f.s u hf.ok.rt g.rt hf.ok.len hf.ok.cf hf.ok.dz;have q5:=cP r5;have q6:=cP r6;simp only[bq,aJ,bo] at q5 q6;refine⟨⟨ki f.s u,l,f.cq⟩,gk 0,az ?_,hf.put hK g.rt g.jv g.len hf.ok.cq hf.ok.rB,fun h=>GU g.mem (g.Ve h.Ve) (fun q hq=>g.dir _ (h.quo q hq)) (g.one _ h.one) (fun q hq=>by rw[g.use]; exact h.over q hq) h,.inr (.inl ⟨u,g.rt,rfl⟩)⟩
  simp only[uf,Ea,ck,eA,cQ,gk,dh,cR,c1,c2,k2,k3,k4,k5,k1,k6,k7,k8,k13,uU,k9,k10,Pz,k12,k15,k16,k17,q5,q6,EW,seval]
 refine bad (az ?_);simp only[uf,Ea,ck,eA,cQ,gk,dh,cR,c1,c2,k2,k3,k4,k5,k1,k6,k7,k8,k13,uU,k9,k10,Pz,k12,k15,k16,k17,q4,EW,seval]
def k24{K:Nat}(f:aa)(o:jk)(hf:FB K f)(hK:K<=89000)(ho:wL o):∃g a,(∀M,aU (ar bN) 24 [.agg (ck f),.agg (eA o)] M=some (.tuple [.agg (ck g),.agg (cQ a)],M))/\FB (K+200) g/\Kp f g:=by
 obtain⟨g,a,h,hg⟩:=c24 f o hf hK ho;exact⟨g,a,fun M=>cO h M,hg⟩
def Qt(x y:jm):ko [.i,.i,.i] (gS x) (gS y)=some (decide (x=y)):=by
 cases x; cases y;simp only[gS,Xg,eX];rw[eD];simp
def Gg(x:jm):(gS x).all ag.iP=true:=rfl
def Qs(x y:eB):ko [.i,.i,.i] (iA x) (iA y)=some (decide (x=y)):=by
 cases x; cases y;simp only[iA,Xg,eX];rw[eD];simp
def Gf(x:eB):(iA x).all ag.iP=true:=rfl
def LV(x y:cF):ko [.i,.i,.i] (il x) (il y)=some (decide (x=y)):=by
 cases x; cases y;simp only[il,Xg,eX];rw[eD];simp
def CH(x:cF):(il x).all ag.iP=true:=rfl
def c47(t:Tree)(ht:t.ae.length<=100000):ar bN 47 [bq t] []=some (.agg (bo ⟨t,0,List.replicate t.ae.length 0,[],[],1⟩),[]):=by
 refine az ?_;have r1:cu t.ae.length 8=True:=rb;have hrep:List.replicate t.ae.length (ag.agg [aF 0]).norm=(List.replicate t.ae.length (0:Int)).map mb:=by rw[gJ]; rfl
 simp only[akq,E47,bq,aJ,r1,hrep,EW,seval];rfl
def c23:ar bN 23 [] []=some (.agg (ck f0),[]):=by
 have q1:=k48;have q2:∀M,aU (ar bN) 47 [.agg (aJ wC)] M=some (.agg (bo f0.s),M):=fun M=>cO (c47 wC (by decide)) M
 simp only[bq,aJ,bo] at q1 q2;refine az ?_;simp only[akf,E23,q1,q2,EW,seval];rfl
def c33(s:gh)(hs:Rt s.now)(hp:s.dz.length<=90000)(hl:s.since.length<=100000)(hk:s.cf.length<=16)(he:∀p,p∈s.dz->Gb p.node):ar bN 33 [.agg (bo s),.agg (bo s)] []=some (.bool true,[]):=by
 refine az ?_;have h200:=hs.sz.ae;have qs:=fun M=>k95 s.now s.now (by omega) (fun n hn=>by have:=(hs.PD hn).1; omega) M
 rw[jM rfl] at qs;simp only[Db,Ew,bo,qs,ak,EW,seval];refine tD (xs:=s.since) (by omega) (fun _ (_:Unit)=>()) (fun _ i=>[(2,b9 0),(3,b9 1),(5,aF i)]) (fun _=>[bT (bo s),bT (bo s)]) (fun _=>some (ag.bool true,([]:aG))) (fun _=>?_) (fun pre x post _ e hx cz hw h0 hm hi=>?_) ()
 ·simp only[bo];simp only[Ew,bw,EW,seval];refine tD (xs:=s.dz) (by omega) (fun _ (_:Unit)=>()) (fun _ i=>[(2,b9 0),(3,b9 1),(6,aF i)]) (fun _=>[bT (bo s),bT (bo s)]) (fun _=>some (ag.bool true,([]:aG))) (fun _=>?_) (fun pre x post _ e hx cz hw h0 hm hi=>?_) ()
  ·simp only[bo];simp only[Ew,bw,EW,seval];refine tD (xs:=s.cf) (by omega) (fun _ (_:Unit)=>()) (fun _ i=>[(2,b9 0),(3,b9 1),(9,aF i)]) (fun _=>[bT (bo s),bT (bo s)]) (fun _=>some (ag.bool true,([]:aG))) (fun _=>?_) (fun pre x post _ e hx cz hw h0 hm hi=>?_) ()
   ·simp only[bo];simp only[Ew,bw,EW,seval]
   ·have i1:=hi ();simp only[bo] at i1 ⊢;simp only[Ew,cz,hx,hw,h0,Qt,Gg,j6,EW,seval];exact i1
  ·have i1:=hi ();have qn:=fun M=>k96 x.node x.node (by have:=(he x hm).1; omega) M
   rw[jM rfl] at qn;simp only[bo,aI] at i1 qn ⊢;simp only[Ew,cz,hx,hw,h0,qn,ak,kI,mL,aI,EW,seval];exact i1
 ·have i1:=hi ();simp only[bo] at i1 ⊢;simp only[Ew,cz,hx,hw,h0,ak,mb,EW,seval];exact i1
def c16(f:aa)(hf:uo f):ar bN 16 [.agg (ck f),.agg (ck f)] []=some (.bool true,[]):=by
 refine az ?_;have h200:=hf.rt.sz.ae;have h1:=hf.dQ;have h2:=hf.rB;have qs:=fun M=>cO (c33 f.s hf.rt hf.dz (by have:=hf.len; omega) hf.cf hf.Cf) M
 simp only[bo] at qs;simp only[HV,Ni,ck,qs,ak,EW,seval];refine tD (xs:=f.holds) (by omega) (fun _ (_:Unit)=>()) (fun _ i=>[(2,b9 0),(3,b9 1),(5,aF i)]) (fun _=>[bT (ck f),bT (ck f)]) (fun _=>some (ag.bool true,([]:aG))) (fun _=>?_) (fun pre x post _ e hx cz hw h0 hm hi=>?_) ()
 ·simp only[ck];simp only[Ni,bw,EW,seval];refine tD (xs:=f.cq) (by omega) (fun _ (_:Unit)=>()) (fun _ i=>[(2,b9 0),(3,b9 1),(6,aF i)]) (fun _=>[bT (ck f),bT (ck f)]) (fun _=>some (ag.bool true,([]:aG))) (fun _=>?_) (fun pre x post _ e hx cz hw h0 hm hi=>?_) ()
  ·simp only[ck];simp only[Ni,bw,EW,seval]
  ·have i1:=hi ();simp only[ck] at i1 ⊢;simp only[Ni,cz,hx,hw,h0,LV,CH,dU,EW,seval];exact i1
 ·have i1:=hi ();simp only[ck] at i1 ⊢;simp only[Ni,cz,hx,hw,h0,Qs,Gf,gx,EW,seval];exact i1
def k16 f hf:=cP (c16 f hf)
inductive Chn:Nat->aa->Prop
 |new:Chn 0 f0
 |step {K:Nat} {f g:aa}:Chn K f->FB K f->Ar (fun _=>True) f.s g.s->Chn (K+200) g
def c13(xs:List jk)(hn:xs.length<=50)(ho:∀o,o∈xs->wL o):∃f,ar bN 13 [C6 xs] []=some (.agg (ck f),[])/\FB 10000 f/\JM f/\∃K,K<=10000/\Chn K f:=by
 have key:∃r:ag×aG,(∃f,r=(.agg (ck f),[])/\FB 10000 f/\JM f/\∃K,K<=10000/\Chn K f)/\eV (ar bN) Xp.results 0 [] Xp.body (fe 0 [C6 xs]) []=some r:=by
  have q1:=cP c23;simp only[ck] at q1;simp only[Xp,E13,q1,uT,EW,seval]
  refine gH (xs:=xs) (by omega) (fun m (f:aa)=>FB (200*m) f/\JM f/\Chn (200*m) f) (fun _ i=>[(0,C6 xs),(2,b9 0),(3,b9 1),(4,aF i)]) (fun f=>[.cells sn,bT (ck f)]) _ (fun f hf=>?_) (fun pre o post f e hx cz hw h0 hm hf hi=>?_) f0 ⟨fb0,⟨fun y hy=>(by cases hy),fun n hn ho=>(by revert n; decide),fun y hy=>(by cases hy),fun d1 e1 d2 e2 x h1 h2=>(by
   have key:∀d,d∈f0.s.now.ae->d.aM=[]:=by decide
   rw[key d1 h1] at h2; cases h2),fun y hy=>(by cases hy),fun y hy=>(by cases hy)⟩,.new⟩
  ·simp only[ck,sn];simp only[E13,bw,uT,EW,seval];exact⟨_,⟨f,rfl,hf.1.mono (by omega),hf.2.1,_,by omega,hf.2.2⟩,rfl⟩
  ·have hp:=(aq.1 hx).1;obtain⟨g,a,q2,hg,hh⟩:=k24 f o hf.1 (by omega) (ho o hm)
   have i1:=hi g ⟨by rw[Nat.mul_add]; exact hg,hh.1 hf.2.1,by rw[Nat.mul_add]; exact .step hf.2.2 hf.1 hh.2⟩
   simp only[ck,eA,cQ,sn] at q2 i1 ⊢;simp only[E13,cz,hx,hw,h0,q2,eA,uT,EW,seval];exact i1
 obtain⟨_,⟨f,rfl,h1⟩,h3⟩:=key;exact⟨f,az h3,h1⟩
end
end Go.Proofs.YtahkjijkflobhaaGreatDoor
namespace Go.Abs
open Go
def ow{α:Type}(p:Prop)[Decidable p](x:Option α):Option α:=if p then x else none
def acm{α:Type}(p:Prop)[Decidable p](x:Option α):ow p x=cA p x:=by
 unfold ow;split
 ·rename_i h; exact(dV h).symm
 ·rename_i h; rw[eq_false h]; exact(BP x).symm
def Lw(xs:List ag)(sz:Nat):Bool:=xs.all fun x=>x.cells.length==sz
def Z7(xs:List ag)(sz:Nat):(Lw xs sz=true)=wid xs sz:=by
 simp[Lw,wid]
instance (n b:Nat):Decidable (cu n b):=inferInstanceAs (Decidable (n*b<=2 ^ 44))
def sb(f:ag->ag->Bool):List ag->List ag->Bool
 | [],[]=>true
 |a::r,b::s=>f a b&&sb f r s
 |_,_=>false
def DT{f:ag->ag->Bool}(hf:∀a b,f a b=true->a=b):∀ {a b:List ag},sb f a b=true->a=b
 | [],[],_=>rfl
 |a::r,b::s,h=>by
  simp only[sb,bn] at h;rw[hf a b h.1,DT hf h.2]
 | [],_::_,h=>by cases h
 |_::_,[],h=>by cases h
def sr:Nat->ag->ag->Bool
 |n+1,x,y=>match x,y with
  | .bool a,.bool b=>a==b
  | .int k a,.int l b=>decide (k=l)&&decide (a=b)
  | .str a,.str b=>decide (a=b)
  | .slice t a,.slice u b=>decide (t=u)&&sb (sr n) a b
  | .agg a,.agg b=>sb (sr n) a b
  | .tuple a,.tuple b=>sb (sr n) a b
  | .ptr a b,.ptr c d=>decide (a=c)&&decide (b=d)
  | .iQ a,.iQ b=>sb (sr n) a b
  | .func f a,.func g b=>decide (f=g)&&sb (sr n) a b
  | .ia a,.ia b=>decide (a=b)
  | .jn a,.jn b=>decide (a=b)
  | .jA a b,.jA c d=>sb (sr n) a c&&sb (sr n) b d
  | .cS a b c d e,.cS a' b' c' d' e'=>decide (a=a')&&decide (b=b')&&decide (c=c')&&decide (d=d')&&decide (e=e')
  | .iJ a b c d,.iJ a' b' c' d'=>decide (a=a')&&decide (b=b')&&decide (c=c')&&decide (d=d')
  | .pR f a,.pR g b=>decide (f=g)&&sb (sr n) a b
  | .jF a b e,.jF c d f=>decide (a=c)&&decide (b=d)&&decide (e=f)
  | .any,.any=>true
  |_,_=>false
 |0,_,_=>false
def Jq:∀(n:Nat)(a b:ag),sr n a b=true->a=b
 |0,_,_,h=>by cases h
 |n+1,x,y,h=>by
  have hl:∀ {a b:List ag},sb (sr n) a b=true->a=b:=fun h=>DT (Jq n) h
  simp only[sr] at h
  split at h<;>(try simp only[bn,bg,eM] at h)<;>first
   |(cases h; done)
   |(rw[h])
   |(rw[hl h])
   |(rw[h.1,hl h.2])
   |(rw[h.1,h.2])
   |(rw[hl h.1,hl h.2])
   |(obtain⟨⟨⟨⟨h1,h2⟩,h3⟩,h4⟩,h5⟩:=h; rw[h1,h2,h3,h4,h5])
   |(obtain⟨⟨⟨h1,h2⟩,h3⟩,h4⟩:=h; rw[h1,h2,h3,h4])
   |(obtain⟨⟨h1,h2⟩,h3⟩:=h; rw[h1,h2,h3])
   |(obtain⟨⟨h1,h2⟩,h3,h4⟩:=h; rw[h1,h2,h3,h4])
   |rfl
noncomputable def rop(call:eK)(br:Env)(M:aG):kg->Option (ag×aG)
 | .xl x lo hi =>
  match x.ev br with
  | .str s=>bH (fF br s.length hi) fun h=>bH (fF br 0 lo) fun l =>
   ow (0<=h/\h<=s.length/\0<=l/\l<=h) (some (.str ((s.take h.toNat).drop l.toNat),M))
  |_=>none
 | .zb sz x lo hi mx =>
  match x.ev br with
  | .slice _ xs=>ow (Lw xs sz=true) <| bH (fF br xs.length hi) fun h=>bH (fF br 0 lo) fun l =>
   match mx with
   |none=>ow (0<=h/\h<=xs.length/\0<=l/\l<=h) (some (.slice .sh ((xs.take h.toNat).drop l.toNat),M))
   |some m=>match m.ev br with
    | .int _ m=>ow (0<=m/\m<=xs.length/\0<=h/\h<=m/\0<=l/\l<=h)
      (yX (m==0) (some (.slice .c0 [],M)) (some (.slice .sh ((xs.take h.toNat).drop l.toNat),M)))
    |_=>none
  | .cS id v sz' al ah=>ow (sz'=sz) <| bH (fF br (ah-al) hi) fun h=>bH (fF br 0 lo) fun l =>
   match mx with
   |none=>ow (0<=h/\h<=(ah-al:Nat)/\0<=l/\l<=h) (yX (l==h) (some (.slice .sh [],M)) (some (.cS id v sz (al+l.toNat) (al+h.toNat),M)))
   |some m=>match m.ev br with
    | .int _ m=>ow (0<=m/\m<=(ah-al:Nat)/\0<=h/\h<=m/\0<=l/\l<=h)
      (yX (m==0) (some (.slice .c0 [],M)) (yX (l==h) (some (.slice .sh [],M)) (some (.cS id v sz (al+l.toNat) (al+h.toNat),M))))
    |_=>none
  |_=>none
 | .vi sz x i =>
  match x.ev br,i.ev br with
  | .slice _ xs,.int _ n=>ow (0<=n) (bH (xs[n.toNat]?) fun e=>if e.cells.length=sz then some (.iQ e.cells,M) else none)
  | .cS id v sz' lo hi,.int _ n=>ow (0<=n/\n<(hi-lo:Nat)/\sz'=sz) (some (.iJ id v (lo+n.toNat) 0,M))
  |_,_=>none
 | .w5 x i =>
  match x.ev br,i.ev br with
  | .str s,.int _ n=>ow (0<=n) (bH (s[n.toNat]?) fun b=>some (.int .u8 b.toNat,M))
  |_,_=>none
 | .append sz bytes x y =>
  match x.ev br,y.ev br with
  | .slice tk xs,.slice _ ys =>
   ow (cu (xs.length+ys.length) bytes/\Lw xs sz=true/\Lw ys sz=true) (
    match tk with
    | .c0=>match xs with|[]=>some (.slice (.own M.length) ys,M++[.tick sz ys.length])|_=>none
    | .own k=>match nth M k with
     |some (.tick sz' n)=>ow (sz'=sz/\n=xs.length) (some (.slice (.own k) (xs++ys),jj M k (.tick sz (xs.length+ys.length))))
     |_=>none
    | .sh=>none)
  | .cS id ver sz' lo hi,.slice _ ys=>match nth M id with
   |some (.arr sz0 v xs)=>ow (v=ver/\sz'=sz/\lo=0/\hi=xs.length/\cu (xs.length+ys.length) bytes/\Lw xs sz=true/\Lw ys sz=true/\0<ys.length)
     (some (.cS id (ver+1) sz 0 (xs.length+ys.length),jj M id (.arr sz0 (ver+1) (xs++ys))))
   |_=>none
  |_,_=>none
 | .wZ n sz x i =>
  match x.ev br,i.ev br with
  | .iQ cs,.int _ m=>ow (0<=m/\m<n/\n*sz<=cs.length) (some (.iQ (cs.drop (m.toNat*sz)),M))
  | .ptr id off,.int _ m=>ow (0<=m/\m<n) (some (.ptr id (off+m.toNat*sz),M))
  |_,_=>none
 |o=>ef call br M o
def GX{call:eK}{br:Env}{M:aG}{o:kg}{x:ag×aG}(h:rop call br M o=some x):ef call br M o=some x:=by
 have:rop call br M o=ef call br M o:=by
  cases o<;>first|rfl|(simp only[rop,ef,acm,Z7]; rfl)
 rw[<-this]; exact h
def Ri(br:Env):kg->Bool
 | .mv _ | .own .. | .pick .. | .pH _ | .box _ | .build .. | .lits .. | .Dz .. | .kU .. | .ij _ | .W0 _ | .bin .. | .Xf .. | .eqB .. | .not _ | .neg _ | .conv .. | .same _ | .fn .. | .iT .. | .AO .. | .AN ..
 | .CQ .. | .wZ .. | .look .. | .w5 .. | .extract .. | .Oq _ | .Dx _ | .yV .. | .b2s _ | .vi .. | .xl .. => true
 |_=>false
def Gw{call:eK}{br:Env}{M:aG}{o:kg}{x:ag×aG}(h:Ri br o=true)(hx:ef call br M o=some x):M <+: x.2:=by
 have hm:∀ {v:ag} {x:ag×aG},some (v,M)=some x->M <+: x.2:=fun h=>by cases h; exact jW _
 have ha:∀ {v:ag} {l:aG} {x:ag×aG},some (v,M++l)=some x->M <+: x.2:=fun h=>by cases h; exact List.prefix_append _ _
 have ho:∀ {p:Prop} {y:Option (ag×aG)} {x:ag×aG},cA p y=some x->y=some x:=fun {p} {y} {x} h=>by
  by_cases hp:p
  ·rwa[dV hp] at h
  ·rw[eq_false hp,BP] at h; cases h
 cases o<;>first|(cases h; done)|skip
 all_goals (simp only[ef] at hx)
 all_goals (repeat' (first|exact hm hx|exact ha hx|(replace hx:=ho hx)|(have hx':=bl hx; clear hx; obtain⟨_,_,hx⟩:=hx')|(have hx':=jR hx; clear hx; rcases hx' with ⟨_,hx⟩|⟨_,hx⟩)|(split at hx)|(cases hx; done)))
def VN(br:Env)(o:kg)(sep:List Nat):Bool:=match o with
 | .store _ a _=>match a.ev br with
  | .ptr id _ => !sep.isEmpty&&sep.all fun z=>match iB br z with | .ptr i _=>i != id|_=>false
  |_=>false
 |_=>false
def IU{M:aG}{i j:Nat}{b:dy}(h:j≠i):nth (jj M i b) j=nth M j:=by
 induction M generalizing i j with
 |nil=>rfl
 |cons a r ih =>
  cases i with
  |zero=>cases j with
   |zero=>exact absurd rfl h
   |succ j=>rfl
  |succ i=>cases j with
   |zero=>rfl
   |succ j=>simp only[jj,nth]; exact ih (fun e=>h (by rw[e]))
def Jt{call:eK}{br:Env}{M:aG}{o:kg}{sep:List Nat}{x:ag×aG}(h:VN br o sep=true)(hx:ef call br M o=some x):sep≠[]/\xj br M x.2 sep:=by
 unfold VN at h;split at h
 ·rename_i n a y;split at h
  ·rename_i id off ha;simp only[bn,bI] at h;refine⟨fun e=>by rw[e] at h; simp at h,?_⟩
   simp only[ef,ha] at hx;split at hx
   ·rename_i cs hcs;obtain⟨new,_,hx⟩:=bl hx;split at hx
    ·cases hx;have h2:=h.2;clear h;induction sep with
     |nil=>trivial
     |cons z r ih =>
      refine⟨?_,ih fun w hw=>h2 w (aO _ hw)⟩
      have hz:=h2 z aV;split
      ·rename_i i o hi;rw[hi] at hz;exact IU (by simpa using hz)
      ·rename_i hi;split at hz
       ·rename_i i o hi'; exact absurd hi' (hi i o)
       ·cases hz
    ·cases hx
   ·cases hx
  ·cases h
 ·cases h
def VL:dy->dy->Bool
 | .cells a,.cells b=>sb (sr 9) a b
 | .tick a b,.tick c d=>decide (a=c)&&decide (b=d)
 | .map a b,.map c d=>sb (sr 9) a c&&sb (sr 9) b d
 | .mC a b,.mC c d=>decide (a=c)&&decide (b=d)
 | .arr a b c,.arr d e f=>decide (a=d)&&decide (b=e)&&sb (sr 9) c f
 |_,_=>false
def VM{a b:dy}(h:VL a b=true):a=b:=by
 have hl:∀ {a b:List ag},sb (sr 9) a b=true->a=b:=fun h=>DT (Jq 9) h
 unfold VL at h
 split at h<;>(try simp only[bn,bg] at h)<;>first
  |(cases h; done)
  |(rw[hl h])
  |(rw[h.1,h.2])
  |(rw[hl h.1,hl h.2])
  |(obtain⟨⟨h1,h2⟩,h3⟩:=h; rw[h1,h2,hl h3])
def MI:aG->aG->Bool
 | [],_=>true
 |a::r,b::s=>VL a b&&MI r s
 |_::_,[]=>false
def I7:∀ {a b:aG},MI a b=true->a <+: b
 | [],_,_=>List.nil_prefix
 |a::r,b::s,h=>by
  simp only[MI,bn] at h;rw[VM h.1];exact(List.prefix_cons_inj _).2 (I7 h.2)
 |_::_,[],h=>by cases h
noncomputable def MS(call:eK)(o:cT)(br:Env)(M:aG):Option (ag×aG) :=
 match o.wk with
 |true=>ow (o.op.eb br=[]) (rop call br M o.op)
 |false=>match o.grow with
  |false=>rop call br M o.op
  |true=>match Ri br o.op||VN br o.op o.sep with
   |true=>rop call br M o.op
   |false=>bH (rop call br M o.op) fun x=>yX (MI M x.2) (some x) none
def Jp{call:eK}{o:cT}{br:Env}{M:aG}{x:ag×aG}(h:MS call o br M=some x):oq call o br M=some x:=by
 unfold MS at h;unfold oq;split at h
 ·rename_i hn;simp only[hn];rw[acm] at h;obtain⟨h1,h2⟩:=db h;rw[dV h1];exact GX h2
 ·rename_i hn;simp only[hn];split at h
  ·rename_i hg;simp only[hg];exact GX h
  ·rename_i hg;simp only[hg];split at h
   ·rename_i hb;replace h:=GX h;rw[h,bV];refine dV ?_;rcases cN .. ▸ hb with hb|hb
    ·exact .inl (Gw hb h)
    ·exact .inr (Jt hb h)
   ·obtain⟨y,hy,h⟩:=bl h;replace hy:=GX hy;rcases jR h with ⟨hp,h⟩|⟨_,h⟩
    ·cases h;rw[hy,bV];exact dV (.inl (I7 hp))
    ·cases h
noncomputable def vU(call:eK):List cT->Env->aG->Option Out
 | [],br,M=>some ⟨.normal,br,M⟩
 |o::r,br,M =>
  match o.guard with
  |none=>bH (MS call o br M) fun x=>BU o.lets x (vU call r (pD br o.dst x.1) x.2)
  |some (t,want)=>match iB br t with
   | .bool b=>yX (b==want) (bH (MS call o br M) fun x=>BU o.lets x (vU call r (pD br o.dst x.1) x.2))
    (vU call r (pD br o.dst (.tuple [])) M)
   | .tuple []=>vU call r (pD br o.dst (.tuple [])) M
   |_=>none
def Vj{c:Bool}{x:ag×aG}{k k':Option Out}{o:Out}(hk:∀o,k=some o->k'=some o)(h:BU c x k=some o):BU c x k'=some o:=by
 rcases GP h with ⟨h1,h2⟩|⟨v,h0,h1,rfl⟩
 ·rw[GQ h1]; exact hk o h2
 ·exact GR h0 h1
def tV{call:eK}:∀ {ops:List cT} {br:Env} {M:aG} {x:Out},vU call ops br M=some x->fR call ops br M=some x
 | [],_,_,_,h=>h
 |o::r,br,M,x,h=>by
  rw[vU] at h;rw[fR];split at h
  ·rename_i hg;simp only[hg];obtain⟨a,ha,h⟩:=bl h;rw[Jp ha,bV];exact Vj (fun x=>tV) h
  ·rename_i t want hg;simp only[hg];split at h
   ·rename_i b hb;simp only[hb];rcases jR h with ⟨hw,h⟩|⟨hw,h⟩
    ·obtain⟨a,ha,h⟩:=bl h;rw[hw,xd,Jp ha,bV];exact Vj (fun x=>tV) h
    ·rw[hw,p6];exact tV h
   ·rename_i hb;simp only[hb];exact tV h
   ·cases h
noncomputable def vw(call:eK)(fuel:Nat):cB->Env->aG->Option Out
 | .skip,br,M=>some ⟨.normal,br,M⟩
 | .region ops _ live,br,M=>bH (vU call ops br M) fun o=>some (o.ov live)
 | .seq a b,br,M=>bH (vw call fuel a br M) fun o=>uL o (vw call fuel b)
 | .cond c x y,br,M=>match c.ev br with
  | .bool t=>yX t (vw call fuel x br M) (vw call fuel y br M)
  |_=>none
 | .block id c,br,M=>bH (vw call fuel c br M) fun o=>some (wm id o)
 | .loop live c,br,M=>iter (vw call fuel c) live fuel br M
 | .exit id,br,M=>some ⟨.exit id,br,M⟩
 | .ret,br,M=>some ⟨.ret,br,M⟩
def tQ{call:eK}{fuel:Nat}:∀(c:cB){br:Env}{M:aG}{x:Out},vw call fuel c br M=some x->eW call c br M=some x
 | .skip,_,_,_,h=>h
 | .exit _,_,_,_,h=>h
 | .ret,_,_,_,h=>h
 | .region ops d live,br,M,x,h=>by
  simp only[eW,vw] at *;obtain⟨a,ha,h⟩:=bl h;rw[tV ha]; exact h
 | .seq a b,br,M,x,h=>by
  simp only[eW,vw] at *;obtain⟨o,ho,h⟩:=bl h;rw[tQ a ho];exact vh (fun br M x=>tQ b) h
 | .cond c a b,br,M,x,h=>by
  simp only[eW,vw] at *;split
  ·rename_i t ht;simp only[ht] at h;rcases jR h with ⟨rfl,h⟩|⟨rfl,h⟩
   ·exact tQ a h
   ·exact tQ b h
  ·rename_i ht;split at h
   ·rename_i t ht'; exact absurd ht' (ht t)
   ·cases h
 | .block id c,br,M,x,h=>by
  simp only[eW,vw] at *;obtain⟨o,ho,h⟩:=bl h;rw[tQ c ho]; exact h
 | .loop live c,br,M,x,h=>by
  simp only[eW,vw] at *;exact o9 (fun n x=>vR live n) (xN (fun br M x=>tQ c) live fuel h)
noncomputable def I9(T:zg)(loops:Nat):Nat->eK
 |0,_,_,_=>none
 |n+1,f,args,M=>match T.nc f with
  |some g=>g args M
  |none=>match T.code f with
   |none=>none
   |some fn=>if args.length=fn.nparams then bH (vw (I9 T loops n) loops fn.body (fe 0 args) M) (finish fn.results M.length) else none
def aan(S T:zg):Prop:=S.code=T.code/\(∀f,(S.nc f).isSome=(T.nc f).isSome)/\∀f g,S.nc f=some g->∃g',T.nc f=some g'/\∀a M x,g a M=some x->g' a M=some x
def Ja{S T:zg}(h:aan S T)(loops:Nat):∀n,vI (I9 S loops n) (jz T n)
 |0,_,_,_,_,h=>by cases h
 |n+1,f,a,M,x,hx=>by
  rw[I9] at hx;rw[jz];split at hx
  ·rename_i g hg;obtain⟨g',h1,h2⟩:=h.2.2 f g hg;simp only[h1];exact h2 a M x hx
  ·rename_i hg
   have:T.nc f=none:=by
    have:=h.2.1 f;rw[hg] at this;cases hT:T.nc f with
    |none=>rfl
    |some g=>rw[hT] at this; cases this
   simp only[this,<-h.1];split at hx
   ·cases hx
   ·rename_i fn hf;simp only[hf];split at hx
    ·rename_i hl;rw[bc hl];obtain⟨o,ho,hx⟩:=bl hx;rw[jG (Ja h loops n) _ (tQ _ ho),bV];exact hx
    ·cases hx
def Jb{S T:zg}(h:aan S T){loops n f:Nat}{a:List ag}{M:aG}{x:ag×aG}(hx:I9 S loops n f a M=some x):ar T f a M=some x :=
 o9 (fun n x h=>rj T n f a M x h) (Ja h loops n f a M x hx)
end Go.Abs
namespace Go.Abs
open Go
noncomputable def Vx(sz p g:Nat):List ag->aG->Option (ag×aG)
 | [.slice _ xs,.func g' cs],M=>match xs,cs with
  | [],[]=>if g'=g then some (.tuple [],M) else none
  |_,_=>none
 | [.cS id ver sz' lo hi,.func g' cs],M=>match nth M id,cs with
  |some (.arr sz0 v xs),[]=>if (decide (v=ver/\sz'=sz/\lo=0/\hi<=xs.length/\g'=g/\hi<=1099511627776)&&((xs.take hi).all (fun x=>(RA p x).isSome)&&decide ((xs.take hi).map (sR p)).Nodup))=true then
    some (.tuple [],jj M id (.arr sz0 v (qV p (xs.take hi)++xs.drop hi))) else none
  |_,_=>none
 |_,_=>none
def Vy(sz p g:Nat)(a:List ag)(M:aG)(x:ag×aG)(h:Vx sz p g a M=some x):uB sz p g a M=some x:=by
 unfold Vx at h;unfold uB;split at h
 ·exact h
 ·split at h
  ·rename_i e;dsimp only;rw[e];split at h
   ·rename_i hc;simp only[bn,bg,bI] at hc;obtain⟨⟨h1,h2,h3,h4,h5,h6⟩,h7,h8⟩:=hc;dsimp only;rw[cA,bc ⟨h1,h2,h3,h4,h5,h6,h7,h8⟩];exact h
   ·cases h
  ·cases h
 ·cases h
end Go.Abs
namespace Go.Proofs.YtahkjijkflobhaaGreatDoor
open Go Go.Abs
noncomputable def Z1:zg:=⟨code,fun f=>if f=158 then some (Vx 6 0 159) else (nc f).map fun _ _ _=>none⟩
def Bi{loops n f:Nat}{a:List ag}{M:aG}{x:ag×aG}(hx:I9 Z1 loops n f a M=some x):ar bN f a M=some x:=by
 refine Jb (S:=Z1) (T:=bN) ⟨rfl,fun f=>?_,fun f g h=>?_⟩ hx
 ·simp only[Z1,bN];split
  ·rename_i h; subst h; rfl
  ·rw[Option.isSome_map]
 ·simp only[Z1] at h;split at h
  ·rename_i hf;cases h; subst hf;exact⟨_,rfl,Vy 6 0 159⟩
  ·obtain⟨g',h1,h2⟩:=aN.1 h;subst h2;exact⟨g',h1,fun _ _ _ h=>by cases h⟩
def yq(k:Int)(p:Bytes)(n h:Int):jk:=⟨k,0,p,[],n,0,h,[]⟩
def hA:=lN f0 (yq 2 [47,100] 2 0)
def hB:=lN hA.1 (yq 2 [47,100,47,102] 1 0)
def hC:=lN hB.1 (yq 8 [47,100,47,102] 0 4)
def hD:=lN hC.1 ⟨11,0,[],[],1,0,4,[7,8]⟩
def hE:=lN hD.1 (yq 14 [47,100] 0 0)
def hG:=lN hE.1 (yq 4 [47,100,47,102] 0 0)
def hH:=lN hG.1 ⟨10,0,[],[],0,9,4,[]⟩
def hI:=lN hG.1 (yq 15 [47,102] 1 0)
def hJ:=lN hG.1 (yq 1 [47,100,47,102] 0 0)
def hK:=lN hG.1 ⟨13,0,[47],[],1,10,0,[]⟩
def hL:=lN hK.1 (yq 2 [47,101] 2 0)
def hM:=lN hL.1 (yq 9 [] 0 4)
def hN:=lN hM.1 (yq 99 [] 0 0)
def facts:hA.2.an=2/\hB.2.an=3/\hC.2.err=0/\hD.2.m=3/\hE.2.err=0/\hE.2.n=1/\hG.2.an=3/\hH.2.data=[0,7,8]/\hI.2.an=3/\hI.2.data=[0,7,8]/\hJ.2.err=70/\hK.2.err=0/\hL.2.err=90/\hM.2.err=0/\hN.2.err=1/\hM.1.s.now.ae.length=2:=by
 refine⟨?_,?_,?_,?_,?_,?_,?_,?_,?_,?_,?_,?_,?_,?_,?_,?_⟩<;>kernel_rfl
def ZQ:ar bN 15 [.agg (ck hM.1)] []=some (.bool true,[]):=Bi (loops:=20) (n:=20) (by kernel_rfl)
def ZR:ar bN 15 [.agg [hZ [],aF 0,aF 0,aF 0,hZ [],hZ [],hZ [],aF 0,hZ [],hZ []]] []=some (.bool false,[]):=Bi (loops:=20) (n:=20) (by kernel_rfl)
def agH:ar bN 22 [.agg (ck hM.1),.agg (ck f0)] []=some (.bool false,[]):=Bi (loops:=20) (n:=20) (by kernel_rfl)
end Go.Proofs.YtahkjijkflobhaaGreatDoor
