import Derived.KernelRfl
import Derived.Test.YtahkjijkflobhaaGreatDoorFsrE
set_option linter.unusedSimpArgs false
set_option linter.unusedVariables false
set_option linter.unusedSectionVars false
set_option linter.defProp false
open Go.Proofs.Tryz
namespace Go.Proofs.YtahkjijkflobhaaGreatDoor
open Go Go.Abs
abbrev Iz(n:Node):Prop:=n.aL.length<=64/\n.data.length<=4096
structure FB(k:Nat)(f:aa):Prop where
 ok:sR f
 past:f.s.dw.length<=k
def FB.mono{k m:Nat}{f:aa}(h:FB k f)(hm:k<=m):FB m f:=⟨h.ok,aV h.past hm⟩
def Rt.Vj{t:Tree}(h:Rt t){n:Node}(hn:n∈t.ae):Iz n:=by
 obtain⟨cz,h⟩:=h;have hi:find t.ae n.aq=some n:=(eD h.ja.jd).2 ⟨hn,rfl⟩;refine⟨(h.v8 _ _ hi).2,?_⟩;rcases h.kind _ _ hi with h1|h1
 ·exact(h.file _ _ hi h1).2.2
 ·rw[h.dir _ _ hi h1]; simp
def Ak(t:Tree)(tk:List j5)(c:Int):∀(l:List Node)(y:List Int),(iZ t tk c l y).length<=l.length/\∀p,p∈iZ t tk c l y->p.node∈l
 | [],y=>⟨by simp[iZ],fun p h=>by simp[iZ] at h⟩
 |n::r,[]=>⟨by simp[iZ],fun p h=>by simp[iZ] at h⟩
 |n::r,x::y=>by
  obtain⟨h1,h2⟩:=Ak t tk c r y;rw[iZ];refine⟨?_,fun p hp=>?_⟩
  ·rw[aD,au];split<;>simp<;>omega
  ·rcases bB.1 hp with hp|hp
   ·split at hp
    ·rw[bP.1 hp]; exact bj
    ·cases hp
   ·exact aX _ (h2 p hp)
def FB.put{k:Nat}{f:aa}(h:FB k f)(hk:k<=89000){t:Tree}(ht:Rt t){H:List dZ}(hH:sd H)(hl:H.length<=64){Q:List cv}(hQ:ov Q)(hq:Q.length<=16):FB (k+200) ⟨mu f.s t,H,Q⟩:=by
 have hf:=h.ok;have hp:=h.past;unfold mu;split
 ·exact⟨⟨hf.rt,hf.len,hf.dw,hf.Br,hf.cp,hH,hl,hQ,hq⟩,by simp only; omega⟩
 ·obtain⟨h1,h2⟩:=Ak t f.s.cp (lK (f.s.tick+1)) f.s.now.ae f.s.since;have h3:=hf.rt.sz.ae;have h4:(f.s.dw++iZ t f.s.cp (lK (f.s.tick+1)) f.s.now.ae f.s.since).length<=k+200:=by rw[aD]; omega
  refine⟨⟨ht,by simp,by simp only; omega,fun p hp=>?_,hf.cp,hH,hl,hQ,hq⟩,h4⟩
  rcases bB.1 hp with hp|hp
  ·exact hf.Br p hp
  ·exact hf.rt.Vj (h2 p hp)
def FB.settle{k:Nat}{f:aa}(h:FB k f)(hk:k<=89000){t:Tree}(ht:Rt t){Q:List cv}(hQ:ov Q)(hq:Q.length<=16):FB (k+200) (iw f t Q).1:=by
 unfold iw;split
 ·exact h.mono (by omega)
 split
 ·exact h.mono (by omega)
 ·exact h.put hk (uH _ _ _ ht) h.ok.holds h.ok.dR (D9 hQ) (aV (Af _ _) hq)
def HE{t:Tree}{l:List dZ}(hl:sd l)(hn:l.length<=64)(c g aq:Int):sd (tn t l c g aq).1/\(tn t l c g aq).1.length<=64:=by
 have hlow:=CE hl c g;unfold tn;split
 ·exact⟨hl,hn⟩
 split
 ·exact⟨hl,hn⟩
 split
 ·exact⟨hl,hn⟩
 split
 ·exact⟨hl,hn⟩
 split
 ·exact⟨hl,hn⟩
 ·rename_i hi dR;simp only[ba] at dR
  have hat:∀(i:Nat)(y:dZ),l[i]?=some y->decide (gb y c g<0)=false->vl ⟨c,g,aq⟩ y:=by
   intro i y hy hge;have h1:=hlow.le
   by_cases he:i=kx (fun x=>decide (gb x c g<0)) l
   ·subst he;have hne:¬(y.cD=c/\y.handle=g):=fun hh=>hi (by unfold qy; rw[hy]; simpa using(yc y c g).2 hh)
    have cn:=pB y c g;simp only[dq,cn] at hge;unfold vl; simp only;omega
   ·have cn:=pB y c g;simp only[dq,cn] at hge
    have hgt:kx (fun x=>decide (gb x c g<0)) l<i:=by
     rcases bF (kx (fun x=>decide (gb x c g<0)) l) i with h|h
     ·exact h
     ·exact absurd ((hlow.lt i y hy).2 (by omega)) (by simp only[ba,cn]; exact hge)
    have hi':=(ak.1 hy).1;have hz:l[kx (fun x=>decide (gb x c g<0)) l]?=some l[kx (fun x=>decide (gb x c g<0)) l]:=ai (by omega)
    have hp:vl l[kx (fun x=>decide (gb x c g<0)) l] y:=by
     have:=(bV.1 hl) _ i (by omega) hi' hgt
     rw[<-(ak.1 hy).2]; exact this
    generalize l[kx (fun x=>decide (gb x c g<0)) l]=z at hz hp
    have hzl:¬gb z c g<0:=fun h=>by
     have:=(hlow.lt _ z hz).1 (by simpa using h)
     omega
    rw[pB] at hzl;unfold vl at hp ⊢; simp only;omega
  refine⟨K3 hl hlow (fun y hy h=>?_) (fun y hy h=>?_) (fun a b d h1 h2=>?_),by simp; have:=hlow.le; omega⟩
  ·simp only[ba,pB] at h; unfold vl; simp only; omega
  ·obtain⟨i,hy'⟩:=bJ hy;exact hat i y hy' h
  ·unfold vl at *; omega
def B2{t:Tree}{l:List dZ}(hl:sd l)(c g:Int):sd (kU t l c g).2.1:=by
 unfold kU;split
 ·exact hl
 ·exact hl.sublist List.eraseP_sublist
def z8(c:Int):∀(r l:List dZ)(t:Tree),sd l->l.length<=64->sd (pA c r t l).2/\(pA c r t l).2.length<=64
 | [],l,t,h1,h2=>⟨h1,h2⟩
 |x::r,l,t,h1,h2=>by
  rw[pA];split
  ·exact z8 c r _ _ (B2 h1 _ _) (aV (x5 _ _ _ _) h2)
  ·exact z8 c r l t h1 h2
def FB.set{k:Nat}{f:aa}(h:FB k f){H:List dZ}(hH:sd H)(hl:H.length<=64):FB (k+200) ⟨f.s,H,f.cL⟩ :=
 ⟨⟨h.ok.rt,h.ok.len,h.ok.dw,h.ok.Br,h.ok.cp,hH,hl,h.ok.cL,h.ok.qv⟩,by have:=h.past; simp only; omega⟩
def FB.abg{k:Nat}{f:aa}(h:FB k f)(hk:k<=89000)(o:jz)(aq:Int)(d:Bytes):FB (k+200) (oh f o aq d).1:=by
 have hr:=h.settle hk (h.ok.rt.put aq d) h.ok.cL h.ok.qv;unfold oh;simp only[];split
 ·exact h.mono (by omega)
 split<;>exact hr
def rH{α:Type}{P:α->Prop}{c:Prop}[Decidable c]{a b:α}(ha:P a)(hb:P b):P (if c then a else b):=by
 split
 ·exact ha
 ·exact hb
def FP{P:Wk->Prop}{f:aa}{o:jz}(h55:P (wv f o))(h56:P (wy f o))(h57:P (wq f o))(h58:P (p7 f o))(h59:P (pV f o))(h60:P (yZ f o))(h61:P (wM f o))(h62:P (wE f o))(h63:P (sZ f o))(h64:P (zu f o))(h65:P (tE f o))(h66:P (B5 f o))(h67:P (th f o))(h68:P (wQ f o))(h69:P (zh f o))(h70:P (wc f o))(h71:P (ue f o))(h0:P (f,fJ,0))(K:Nat):P (qO K f o) :=
 rH h55 (rH h56 (rH h57 (rH h58 (rH h59 (rH h60 (rH h61 (rH h62 (rH h63 (rH h64 (rH h65 (rH h66 (rH h67 (rH h68 (rH h69 (rH h70 (rH h71 (h0)))))))))))))))))
def Vd{k:Nat}{f:aa}(h:FB k f)(hk:k<=89000)(K:Nat)(o:jz):FB (k+200) (qO K f o).1:=by
 have h0:FB (k+200) f:=h.mono (by omega)
 have hp {t:Tree} (ht:Rt t):=h.settle hk ht h.ok.cL h.ok.qv;refine FP (P:=fun r=>FB (k+200) r.1) ?_ ?_ ?_ ?_ ?_ ?_ ?_ ?_ ?_ ?_ ?_ ?_ ?_ ?_ ?_ ?_ ?_ ?_ K
 ·unfold wv; split<;>exact h0
 ·have hr:=hp (h.ok.rt.add (ig f.s.now o.c8).1 (ig f.s.now o.c8).2.1 o.n);unfold wy; simp only[];split
  ·exact h0
  split
  ·exact h0
  split<;>exact hr
 ·have hr:=hp (h.ok.rt.ln (aY f.s.now.ae (jn f.s.now o.c8).1).aq (ig f.s.now o.r9).1 (ig f.s.now o.r9).2.1);unfold wq; simp only[];split
  ·exact h0
  split
  ·exact h0
  split
  ·exact h0
  split<;>exact hr
 ·have hr:=hp (h.ok.rt.un (ig f.s.now o.c8).1 (ig f.s.now o.c8).2.1);unfold p7; simp only[];split
  ·exact h0
  split
  ·exact h0
  split<;>exact hr
 ·have hr:=hp (h.ok.rt.mv (ig f.s.now o.c8).1 (ig f.s.now o.c8).2.1 (ig f.s.now o.r9).1 (ig f.s.now o.r9).2.1);unfold pV; simp only[];split
  ·exact h0
  split
  ·exact h0
  split
  ·exact h0
  split
  ·exact h0
  split<;>exact hr
 ·unfold yZ; simp only[];split
  ·exact h0
  split<;>exact h0
 ·unfold wM; simp only[]; split<;>exact h0
 ·obtain⟨g1,g2⟩:=HE (t:=f.s.now) h.ok.holds h.ok.dR o.cD o.handle (aY f.s.now.ae (jn f.s.now o.c8).1).aq;unfold wE; simp only[];split
  ·exact h0
  split
  ·exact h0
  ·exact h.set g1 g2
 ·have hr:=h.put hk (h.ok.rt.close f.holds o.cD o.handle) (B2 (t:=f.s.now) h.ok.holds o.cD o.handle) (aV (x5 _ _ _ _) h.ok.dR) h.ok.cL h.ok.qv;unfold sZ; simp only[];split
  ·exact h0
  ·exact hr
 ·unfold zu;split
  ·exact h0
  split<;>exact h0
 ·unfold tE;split
  ·exact h0
  split
  ·exact h0
  split
  ·exact h0
  ·exact h.abg hk o _ _
 ·unfold B5;split
  ·exact h0
  ·exact h.abg hk o _ _
 ·obtain⟨g1,g2⟩:=Et (t:=f.s.now) h.ok.cL h.ok.qv (aY f.s.now.ae (jn f.s.now o.c8).1).aq o.n o.m;have hr:=h.settle hk h.ok.rt g1 g2;unfold th; simp only[];split
  ·exact h0
  split
  ·exact h0
  split<;>exact hr
 ·unfold wQ; simp only[];split
  ·exact h0
  split
  ·exact h0
  ·rename_i hh;unfold takeN at hh ⊢;split
   ·exact h0
   split
   ·exact h0
   split
   ·exact h0
   ·rename_i dR;refine⟨⟨h.ok.rt,h.ok.len,h.ok.dw,h.ok.Br,?_,h.ok.holds,h.ok.dR,h.ok.cL,h.ok.qv⟩,by have:=h.past; simp only; omega⟩
    simp only[dj,ba,mL] at dR;simp; omega
 ·unfold zh; simp only[];split
  ·exact h0
  split
  ·exact h0
  split<;>exact h0
 ·unfold wc; simp only[];split
  ·exact h0
  ·unfold nN;split
   ·exact h0
   ·refine⟨⟨h.ok.rt,h.ok.len,aV (bZ _ _) h.ok.dw,fun p hp=>h.ok.Br p (cr.1 hp).1,aV (bZ _ _) h.ok.cp,h.ok.holds,h.ok.dR,h.ok.cL,h.ok.qv⟩,?_⟩
    have:=h.past;have h2:=bZ (tz (f.s.cp.filter (nR o.n))) f.s.dw;simp only; omega
 ·obtain⟨g1,g2⟩:=z8 o.cD f.holds f.holds f.s.now h.ok.holds h.ok.dR;exact h.put hk (h.ok.rt.gone o.cD f.holds f.holds) g1 g2 h.ok.cL h.ok.qv
 ·exact h0
def uf{k:Nat}{f:aa}(h:FB k f)(hk:k<=89000)(o:jz):FB (k+200) (vz f o).1:=by
 unfold vz;split
 ·exact h.mono (by omega)
 ·split
  ·split
   ·exact Vd h hk _ o
   ·exact h.mono (by omega)
  ·exact h.mono (by omega)
def Mc{t:Tree}{cz:Int->Nat}(h:cF t cz 0){q:Int}:∀(m:Nat)(i:Int)(n:Node),find t.ae i=some n->n.kind=2->cz i=m->hU t.ae i q=true->∃d,find t.ae q=some d/\d.kind=2:=by
 intro m;induction m with
 |zero =>
  intro i n hi hk hm hb
  by_cases ho:i=q
  ·subst ho; exact⟨n,hi,hk⟩
  by_cases h1:i=1
  ·subst h1; rw[cF.nz (fun hh=>ho hh.symm)] at hb; cases hb
  ·have:=(h.n9 _ _ hi hk h1).1; omega
 |succ m ih =>
  intro i n hi hk hm hb
  by_cases ho:i=q
  ·subst ho; exact⟨n,hi,hk⟩
  have h1:i≠1:=fun hh=>by subst hh; have:=h.yL; omega
  rw[h.po hi hk h1 ho] at hb;obtain⟨a,p,hp,hpk⟩:=h.n9 _ _ hi hk h1;exact ih _ p hp hpk (by omega) hb
def sj{t:Tree}{cz:Int->Nat}(h:cF t cz 0){q:Int}(hq:∀d,find t.ae q=some d->d.kind≠2):jm t.ae q=(0,0)/\Ms (rC t.ae q)=0/\FR t.ae (rC t.ae q)=0:=by
 have hin:∀x,¬Vf t.ae q x:=by
  rintro x ⟨d,e,hd,hk,hb,_,_⟩;obtain⟨p,p1,p2⟩:=Mc h _ _ d ((eD h.ja.jd).2 ⟨hd,rfl⟩) hk rfl hb;exact hq p p1 p2
 obtain⟨p,p1,p2⟩:=wa t.ae q;have hf:t.ae.filter p=[]:=List.filter_eq_nil_iff.2 fun n _ hn=>hin _ ((p2 n).1 hn)
 refine⟨?_,by rw[p1,B3,hf]; rfl,by rw[p1,FM,hf]; rfl⟩
 unfold jm;rw[aQ];intro hc;rw[bm,eG] at hc;obtain⟨d,hd⟩:=ct.1 hc.1;exact hq d hd (by simpa[aY,hd] using hc.2)
def zx{t:Tree}(h:Rt t)(q:Int):jm t.ae q=((Ms (rC t.ae q):Int),(FR t.ae (rC t.ae q):Int)):=by
 obtain⟨cz,h⟩:=h
 by_cases hq:∃d,find t.ae q=some d/\d.kind=2
 ·obtain⟨d,h1,h2⟩:=hq;exact Fa h h1 h2
 ·obtain⟨h1,h2,h3⟩:=sj h (q:=q) fun d hd hk=>hq ⟨d,hd,hk⟩
  rw[h1,h2,h3]; rfl
def NT{t:Tree}(h:Rt t)(i q:Int):jm (jU t i).1.ae q=jm t.ae q:=by
 obtain⟨cz,h⟩:=h;have h':=DR h i
 have hcase:(jU t i).1=t\/(∃m,find t.ae i=some m/\m.kind=1/\qk t.ae i=0/\(jU t i).1=⟨fz t.ae i,t.next,t.aj⟩):=by
  unfold jU;split
  ·exact .inl rfl
  split
  ·exact .inl rfl
  split
  ·exact .inl rfl
  ·rename_i h1 h2 h3;right;cases hi:find t.ae i with
   |none=>simp[hi] at h1
   |some m =>
    simp only[aY,hi,bn,eG,ba] at h2 h3;have hl:=h.dz _ _ hi;have hm:=(h.num _ _ hi).1;rw[aQ (by omega)] at hl
    exact⟨m,rfl,(h.kind _ _ hi).resolve_right h2,by omega,rfl⟩
 rcases hcase with e|⟨m,hm,hmk,hc,e⟩
 ·rw[e]
 rw[e] at h' ⊢;have hff:=kW h.ja.jd i
 have hne:∀j n,find t.ae j=some n->n.kind=2->j≠i:=by
  rintro j n hj hk rfl;rw[hm] at hj; cases hj;omega
 have fd:∀j n,find t.ae j=some n->n.kind=2->find (fz t.ae i) j=some n:=fun j n hj hk=>by rw[hff,aQ (hne j n hj hk),hj]
 have bel:∀(m:Nat)(j:Int)(n:Node),find t.ae j=some n->n.kind=2->cz j=m->hU (fz t.ae i) j q=hU t.ae j q:=by
  intro m;induction m with
  |zero =>
   intro j n hj hk hd
   by_cases ho:j=q
   ·subst ho;exact(cF.ka (t:=⟨fz t.ae i,t.next,t.aj⟩) j).trans (cF.ka j).symm
   by_cases h1:j=1
   ·subst h1;exact(cF.nz (t:=⟨fz t.ae i,t.next,t.aj⟩) fun hh=>ho hh.symm).trans (cF.nz fun hh=>ho hh.symm).symm
   ·have:=(h.n9 _ _ hj hk h1).1; omega
  |succ m ih =>
   intro j n hj hk hd
   by_cases ho:j=q
   ·subst ho;exact(cF.ka (t:=⟨fz t.ae i,t.next,t.aj⟩) j).trans (cF.ka j).symm
   have h1:j≠1:=fun hh=>by subst hh; have:=h.yL; omega
   obtain⟨a,p,hp,hpk⟩:=h.n9 _ _ hj hk h1;have b1:=h'.po (fd j n hj hk) hk h1 ho;rw[h.po hj hk h1 ho];exact b1.trans (ih _ p hp hpk (by omega))
 by_cases hq:∃d,find t.ae q=some d/\d.kind=2
 ·obtain⟨d,d1,d2⟩:=hq;obtain⟨K,k1,k2,k3,k4⟩:=zy h d1 d2;obtain⟨L,l1,l2,l3,l4⟩:=zy h' (fd q d d1 d2) d2
  have hin:∀x,Vf (fz t.ae i) q x↔Vf t.ae q x:=fun x=>by
   constructor
   ·rintro⟨d,e,hd,hk,hb,he,hx⟩;have hd':find (fz t.ae i) d.aq=some d:=(eD h'.ja.jd).2 ⟨hd,rfl⟩;rw[hff] at hd';split at hd'
    ·cases hd'
    ·exact⟨d,e,(bR hd').1,hk,by rw[<-bel _ _ d hd' hk rfl]; exact hb,he,hx⟩
   ·rintro⟨d,e,hd,hk,hb,he,hx⟩;have hd':find t.ae d.aq=some d:=(eD h.ja.jd).2 ⟨hd,rfl⟩;exact⟨d,e,(bR (fd _ _ hd' hk)).1,hk,by rw[bel _ _ d hd' hk rfl]; exact hb,he,hx⟩
  have hp:L.Perm K:=(List.perm_ext_iff_of_nodup l1 k1).2 fun x=>by rw[l2,k2]; exact hin x
  have hs:wP (fz t.ae i) L=wP t.ae K:=by
   unfold wP;rw[<-(hp.map (Wd t.ae)).sum_nat];congr 1;refine dx fun x hx=>?_
   obtain⟨d,e,hd,_,_,he,hxe⟩:=(k2 x).1 (hp.mem_iff.1 hx)
   have hxi:x≠i:=fun hh=>by
    have:=si.2 ⟨d,e,hd,he,hxe.trans hh⟩;omega
   simp only[Wd,aY,hff,aQ hxi]
  rw[k4,l4,hp.length_eq,hs]
 ·rw[(sj h fun d hd hk=>hq ⟨d,hd,hk⟩).1]
  refine(sj h' fun d hd hk=>?_).1
  have hd:find (fz t.ae i) q=some d:=hd;rw[hff] at hd;split at hd
  ·cases hd
  ·exact hq ⟨d,hd,hk⟩
def t0:Tree:=⟨[⟨1,2,0,[],[],1⟩],2,1⟩
def f0:aa:=⟨⟨t0,0,[0],[],[],1⟩,[],[]⟩
section
attribute [local irreducible] eW fQ lh gK dW kr ar aM cq bI
def c38:ar bK 38 [] []=some (.agg (aI t0),[]):=by
 refine aw ?_;simp only[ajU,E38,EW,seval];rfl
def k38:=cP c38
def k37(M:aH):aM (ar bK) 37 [.agg [aN t0.ae,aE t0.next,aE t0.aj]] M=some (.agg (bl f0.s),M):=cO (c37 t0 (by decide)) M
def c20:ar bK 20 [] []=some (.agg (cG f0),[]):=by
 refine aw ?_;have q:=k38;simp only[aI] at q;simp only[ajF,E20,q,k37,bl,EW,seval];rfl
def k20:=cP c20
end
def rt0:Rt t0:=⟨_,TD⟩
def fb0:FB 0 f0:=by
 refine⟨⟨rt0,rfl,?_,?_,?_,List.Pairwise.nil,?_,List.Pairwise.nil,?_⟩,?_⟩<;>simp[f0]
end Go.Proofs.YtahkjijkflobhaaGreatDoor
namespace Go.Abs
open Go
def lM{C:eB}{fn:List sb}{bQ:Nat}{k:List K}{live:List Nat}{body:cA}{α σ ρ:Type}{xs:List α}(hn:xs.length<=1000000)(go:List α->σ->ρ)(E:σ->Int->Env)(M:σ->aH)(R:ρ->Option (ag×aH))
  (hend:∀s,eW C fn bQ (.loop live (M s).length body::k) body (lF (E s xs.length) live) (M s)=R (go [] s))
  (hstep:∀(pre:List α)(x:α)(post:List α)(s:σ),xs=pre++x::post->xs[pre.length]?=some x->((pre.length:Int)<xs.length)=True->IntKind.i64.wrap ((pre.length:Int)+1)=(pre.length:Int)+1->((pre.length:Int)<0)=False->x∈xs ->
   (∀s',eW C fn bQ k (.loop live body) (E s' ((pre.length:Int)+1)) (M s')=R (go post s'))->eW C fn bQ (.loop live (M s).length body::k) body (lF (E s pre.length) live) (M s)=R (go (x::post) s)) :
  ∀s,eW C fn bQ k (.loop live body) (E s 0) (M s)=R (go xs s):=by
 have key:∀(l pre:List α)(s:σ),xs=pre++l->eW C fn bQ k (.loop live body) (E s pre.length) (M s)=R (go l s):=by
  intro l;induction l with
  |nil =>
   intro pre s h;rw[bt,show pre.length=xs.length by rw[h]; simp]
   exact hend s
  |cons x r ih =>
   intro pre s h;rw[bt];have hl:pre.length+1<=1000000:=by rw[h] at hn; simp at hn; omega
   refine hstep pre x r s h (by rw[h]; simp) (by rw[h]; simp; omega) (fW (by omega) (by omega)) (by simp) (by rw[h]; simp) fun s'=>?_
   have:=ih (pre++[x]) s' (by rw[h]; simp)
   simpa using this
 intro s;exact key xs [] s rfl
def iu{C:eB}{fn:List sb}{bQ:Nat}{k:List K}{live:List Nat}{body:cA}{α σ:Type}{xs:List α}(hn:xs.length<=1000000)(I:Nat->σ->Prop)(E:σ->Int->Env)(M:σ->aH)(Q:ag×aH->Prop)
  (hend:∀s,I xs.length s->∃r,Q r/\eW C fn bQ (.loop live (M s).length body::k) body (lF (E s xs.length) live) (M s)=some r)
  (hstep:∀(pre:List α)(x:α)(post:List α)(s:σ),xs=pre++x::post->xs[pre.length]?=some x->((pre.length:Int)<xs.length)=True->IntKind.i64.wrap ((pre.length:Int)+1)=(pre.length:Int)+1->((pre.length:Int)<0)=False->x∈xs->I pre.length s ->
   (∀s',I (pre.length+1) s'->∃r,Q r/\eW C fn bQ k (.loop live body) (E s' ((pre.length:Int)+1)) (M s')=some r)->∃r,Q r/\eW C fn bQ (.loop live (M s).length body::k) body (lF (E s pre.length) live) (M s)=some r) :
  ∀s,I 0 s->∃r,Q r/\eW C fn bQ k (.loop live body) (E s 0) (M s)=some r:=by
 have key:∀(l pre:List α)(s:σ),xs=pre++l->I pre.length s->∃r,Q r/\eW C fn bQ k (.loop live body) (E s pre.length) (M s)=some r:=by
  intro l;induction l with
  |nil =>
   intro pre s h hI;have e:pre.length=xs.length:=by rw[h]; simp
   rw[bt,e];exact hend s (by rw[<-e]; exact hI)
  |cons x r ih =>
   intro pre s h hI;rw[bt];have hl:pre.length+1<=1000000:=by rw[h] at hn; simp at hn; omega
   refine hstep pre x r s h (by rw[h]; simp) (by rw[h]; simp; omega) (fW (by omega) (by omega)) (by simp) (by rw[h]; simp) hI fun s' hI'=>?_
   have:=ih (pre++[x]) s' (by rw[h]; simp) (by simpa using hI')
   simpa using this
 intro s hI;exact key xs [] s rfl hI
def EC{α:Type}{a b:List α}{m:Nat}(h:a.take m=b.take m){x:α}(hx:a[m]?=some x)(hy:b[m]?=some x):a.take (m+1)=b.take (m+1):=by
 rw[cB,cB,h,hx,hy]
def H0{α:Type}{a b:List α}(hl:a.length=b.length)(h:a.take a.length=b.take a.length):a=b:=by
 rw[cg,hl,cg] at h; exact h
def Ex(ds:List Bool)(b:Nat)(d:Bool):jk (ds.map ag.bool) b (putCells (.bool d) 0 [.bool true])=(ds.set b true).map ag.bool:=by
 have:putCells (.bool d) 0 [.bool true] = .bool true:=rfl;rw[this,gq,kI]
def Y1(ds:List UInt8)(b:Nat)(d x:UInt8):jk (ds.map pE) b (putCells (pE d) 0 [pE x])=(ds.set b x).map pE:=by
 have:putCells (pE d) 0 [pE x]=pE x:=rfl;rw[this,gq,kI]
end Go.Abs
namespace Go.Proofs.YtahkjijkflobhaaGreatDoor
open Go Go.Abs
abbrev Jg(l:List jz):ag := .slice .sh (l.map N7)
def Mj(n:jz):(N7 n).cells=ep n:=rfl
def S5(n:jz):(ep n).length=8:=rfl
def Zh(l:List jz):wid (l.map N7) 8=True:=sF N7 _ (fun _=>rfl) l
def tkO(n:jz):List.take 8 (ep n)=ep n:=rfl
def shO(n:jz):List.map ag.shut (ep n)=ep n:=rfl
set_option linter.defProp false in
def Ot:=bM @Mj (bM @S5 (bM @Zh (bM @tkO (@shO))))
def y9(o:jz):Bool:=decide (5000<(o.data.length:Int))||(decide (1000<(o.c8.length:Int))||decide (1000<(o.r9.length:Int)))
def Cn(l:List jz):Bool:=if decide (50<(l.length:Int)) then true else l.any y9
def Li{o:jz}(h:y9 o=false):yy o:=by
 simp only[y9,kB,dq] at h;exact⟨by omega,by omega,by omega⟩
def P4{l:List jz}(h:Cn l=false):l.length<=50/\∀o,o∈l->yy o:=by
 unfold Cn at h;split at h
 ·cases h
 ·rename_i h0;simp only[ba] at h0;exact⟨by omega,fun o ho=>Li (by simpa using List.any_eq_false.1 h o ho)⟩
section
attribute [local irreducible] eW fQ lh gK dW kr ar aM cq bI
def c12(o:jz):ar bK 12 [N7 o] []=some (.bool (y9 o),[]):=by
 refine aw ?_;unfold y9
 cases h1:decide (5000<(o.data.length:Int))<;>cases h2:decide (1000<(o.c8.length:Int))<;>cases h3:decide (1000<(o.r9.length:Int)) <;>
  simp only[ajz,E12,N7,ep,h1,h2,h3,ei,dH,fu,cY,EW,seval]
def WG(o:jz)(M:aH):aM (ar bK) 12 [.agg (ep o)] M=some (.bool (y9 o),M):=cO (c12 o) M
def c11(xs:List jz):ar bK 11 [Jg xs] []=some (.bool (Cn xs),[]):=by
 refine aw ?_;unfold Cn;cases h0:decide (50<(xs.length:Int))<;>simp only[ajy,E11,h0,aG,af,az,Ot,EW,seval]
 have hn:xs.length<=50:=by simp at h0; omega
 refine lM (xs:=xs) (by omega) (fun l (_:Unit)=>l.any y9) (fun _ i=>[(0,Jg xs),(3,aE i)]) (fun _=>[]) (fun b=>some (ag.bool b,([]:aH))) (fun _=>?_) (fun pre x post _ h hx cn hw h0 hm hi=>?_) ()
 ·simp only[E11,bp,List.any_nil,Ot,EW,seval]
 ·have q:=fun M=>WG x M
  have i1:=hi ();cases hl:y9 x<;>rw[hl] at q<;>simp only[E11,cn,hx,hw,q,hl,kY,dH,cY,Ot,EW,seval]
  exact i1
def WE xs:=cP (c11 xs)
def lE{f:Nat}{vs:List ag}{M:aH}{x:ag×aH}(h:aM (ar bK) f vs M=some x):aM (ar tJ) f vs M=some x:=lD (lS h)
def Bo f o hf ho:=cP (c14 f o hf ho)
end
section
open Go.ChangeShapes Go.WideShapes Go.ChangeAt Go.RowKit Go.Deep
def laidOut:laidOutB Tryz.prog=true:=by kernel_rfl
section
variable {H:Type} {enc:TypeId×Value->H}
def xL{W W':World}(hb:Below W.heap.size W W'):∀ {ts:List TypeId} {vs:List Value} {ds:List (DataW H)} {p:List MemPlace},DataW.TrodAll enc Tryz.prog W 0 (fun _=>true) true ts vs ds p ->
  (∀t,t∈ts->Tryz.prog.readableRec t=true/\t<Tryz.prog.types.size)->(∀x∈p,x.block<W.heap.size)->DataW.TrodAll enc Tryz.prog W' 0 (fun b=>decide (b<W.heap.size)) true ts vs ds p
 | [],vs,ds,p,h,_,_=>by
  obtain⟨rfl,rfl,rfl⟩:=trodAll_nil h;exact trodAll_mk0
 |t::ts,vs,ds,p,h,ht,hp=>by
  obtain⟨v,vs',d,ds',p1,q,rfl,rfl,rfl,h1,h2⟩:=trodAll_cons h
  exact trodAll_cons_mk (Below.trod laidOut (ht t bj).1 (ht t bj).2 h1 hb (fun x hx=>hp x (ew _ hx)))
   (xL hb h2 (fun t ht'=>ht t (aX _ ht')) (fun x hx=>hp x (gu _ hx)))
abbrev Dk(w:World):Nat->Nat->Prop:=ng WC [] w
def UN{w:World}{b off:Nat}(h:b<w.heap.size):Dk w b off:=⟨h,fun id hid=>absurd hid (j8 _),fun hx=>hx⟩
def lk(b off i:Nat):(⟨b,off,none⟩:Addr).add i=⟨b,off+i,none⟩:=by
 unfold Addr.add;split
 ·rename_i h; rw[h]; rfl
 ·rfl
def yX{w:World}{fuel t:Nat}{v:Value}{x:DataW H×List MemPlace}(ht:Tryz.prog.underlying t=some (.int .i64))(h:DataW.trod enc Tryz.prog w 0 (fun _=>true) true fuel t [v]=some x):∃n:Int,fF w (Dk w) (.int .i64 n) v:=by
 obtain⟨n,q,_,_⟩:=DataW.trod_int ht h;cases q;exact⟨n,.int _ _⟩
def agd{w:World}{fuel t:Nat}{v:Value}{x:DataW H×List MemPlace}(ht:Tryz.prog.underlying t=some (.int .u8))(h:DataW.trod enc Tryz.prog w 0 (fun _=>true) true fuel t [v]=some x):∃b:UInt8,fF w (Dk w) (pE b) v:=by
 obtain⟨n,q,_,wf⟩:=DataW.trod_int ht h;cases q;have h3:IntKind.u8.min<=n/\n<=IntKind.u8.max:=by simpa[Lit.wf] using wf
 have e1:IntKind.u8.min=0:=by decide
 have e2:IntKind.u8.max=255:=by decide
 have e:n=((UInt8.ofNat n.toNat).toNat:Int):=by rw[UInt8.toNat_ofNat']; omega
 refine⟨UInt8.ofNat n.toNat,?_⟩;unfold pE;rw[<-e];exact .int _ _
def LL{w:World}{fuel t:Nat}{v:Value}{x:DataW H×List MemPlace}(ht:Tryz.prog.underlying t=some .string)(h:DataW.trod enc Tryz.prog w 0 (fun _=>true) true fuel t [v]=some x):∃s:Bytes,fF w (Dk w) (.str s) v:=by
 obtain⟨s,q,_,_⟩:=DataW.trod_string ht h;cases q;refine⟨s.data.toList,?_⟩;have:Go.Abs.bs s.data.toList=s:=by apply ByteArray.ext; simp[Go.Abs.bs]
 have h:=fF.str (w:=w) (ia:=Dk w) s.data.toList;rw[this] at h;exact h
def AJ{α:Type}(P:Nat->α->Prop):∀(n:Nat),(∀i,i<n->∃a,P i a)->∃l:List α,l.length=n/\∀i a,l[i]?=some a->P i a
 |0,_=>⟨[],rfl,fun i a h=>by cases i<;>cases h⟩
 |n+1,h=>by
  obtain⟨l,hl,hp⟩:=AJ P n (fun i hi=>h i (by omega))
  obtain⟨a,ha⟩:=h n (by omega)
  refine⟨l++[a],by simp[hl],fun i b hb=>?_⟩
  rcases bF i n with hi|hi
  ·rw[bA (by omega)] at hb
   exact hp i b hb
  ·rw[bz (by omega)] at hb
   have:i=n:=by
    have:=(ak.1 hb).1;simp at this; omega
   subst this;simp[hl] at hb;subst hb; exact ha
def nI(w:World)(l:List ag)(cs:List Value):Prop:=l.length=cs.length/\∀(k:Nat)(c:ag)(v:Value),l[k]?=some c->cs[k]?=some v->fF w (Dk w) c v
def nI.one{w:World}{c:ag}{v:Value}(h:fF w (Dk w) c v):nI w [c] [v]:=⟨rfl,fun k c' v' h1 h2=>by
 match k with
 |0=>cases h1; cases h2; exact h
 |k+1=>cases h1⟩
def nI.app{w:World}{a b:List ag}{cs ds:List Value}(h:nI w a cs)(g:nI w b ds):nI w (a++b) (cs++ds):=⟨by simp[h.1,g.1],fun k c v h1 h2=>by
 rcases bF k a.length with hk|hk
 ·rw[bA hk] at h1;rw[bA (by rw[<-h.1]; exact hk)] at h2
  exact h.2 k c v h1 h2
 ·rw[bz hk] at h1;rw[bz (by rw[<-h.1]; exact hk),<-h.1] at h2
  exact g.2 _ c v h1 h2⟩
def nI.nil{w:World}:nI w [] []:=⟨rfl,fun k c v h1 _=>by cases h1⟩
def ali:DataW H->Nat
 | .slice es _=>es.length
 |_=>0
def HV{α:Type}{w:World}{fuel t e m:Nat}{v:Value}{x:DataW H×List MemPlace}{eC:α->List ag}{mk:α->ag}(ht:Tryz.prog.underlying t=some (.slice e))(hm:Tryz.prog.cellsOf e=m)(hm0:0<m)
  (hmk:∀a,(mk a).cells=eC a) (dR:∀a,(eC a).length=m)
  (he:∀(n:Nat)(cs:List Value)(y:DataW H×List MemPlace),cs.length=m->DataW.trod enc Tryz.prog w 0 (fun _=>true) true n e cs=some y->∃a,nI w (eC a) cs)
  (h:DataW.trod enc Tryz.prog w 0 (fun _=>true) true fuel t [v]=some x) :
  ∃l:List α,fF w (Dk w) (.slice .sh (l.map mk)) v/\l.length=ali x.1:=by
 rcases open_slice ht h with ⟨hcs,hxx⟩|⟨a,len,cap,mm,n,D,Pl,hcs,_,hl,_,hmm,hxx,hi⟩
 ·cases hcs;exact⟨[],fF.nil _ _ _,by rw[hxx]; rfl⟩
 ·cases hcs;simp only[aG] at hmm;obtain⟨b,off,spot⟩:=a;rw[hm] at hi
  have each:∀i,i<len->∃s:α,∃cs',w.cells? 0 ((⟨b,off,spot⟩:Addr).add (i*m)) m=some cs'/\cs'.length=m/\nI w (eC s) cs':=by
   intro i hi';obtain⟨cs',hcl,ht⟩:=hi i (by omega)
   have hln:cs'.length=m:=(World.cells?_some hcl).2.1;obtain⟨s,hr⟩:=he _ _ _ hln ht;exact⟨s,cs',hcl,hln,hr⟩
  obtain⟨l,hll,hlp⟩:=AJ _ len each;refine⟨l,?_,by rw[hxx]; simp[ali,hll]⟩
  have hsp:len≠0->spot=none:=fun h0=>by
   obtain⟨s,cs',hcl,h6,_⟩:=each 0 (by omega)
   obtain⟨_,_,hat⟩:=World.cells?_some hcl;have:=hat 0 hm0;have h3:cs'[0]?=some (cs'[0]'(by omega)):=ai (by omega)
   rw[h3] at this;simpa[Addr.add] using World.cell?_spot this
  have cell:∀(i:Nat)(s:α)(k:Nat)(c:ag),l[i]?=some s->(eC s)[k]?=some c->∃u,w.cell? ⟨b,off+(i*m+k),none⟩=some u/\fF w (Dk w) c u:=fun i s k c hs hk=>by
   obtain⟨cs',hcl,h6,hr⟩:=hlp i s hs;have hil:i<len:=by have:=(ak.1 hs).1; omega
   obtain rfl:=hsp (by omega)
   obtain⟨_,_,hat⟩:=World.cells?_some hcl;have hk6:k<m:=by have:=(ak.1 hk).1; rw[dR] at this; exact this
   have h1:=hat k hk6;have h3:cs'[k]?=some (cs'[k]'(by omega)):=ai (by omega)
   rw[lk,lk,h3] at h1;exact⟨_,by rw[<-Nat.add_assoc]; exact h1,hr.2 k c _ hk h3⟩
  refine .slice _ _ _ _ b off m (fun q=>(w.cell? ⟨b,off+q,none⟩).getD undef) (by simp[hll]) hl (fun hne=>?_) ?_ ?_ ?_
  ·obtain rfl:=hsp (fun h0=>hne (by rw[h0] at hll; rw[ck.1 hll]; rfl))
   rfl
  ·intro x hx;obtain⟨s,_,rfl⟩:=cE.1 hx;rw[hmk,dR]
  ·intro i x k c hx hk;rw[bd] at hx;obtain⟨s,hs,rfl⟩:=aR.1 hx;rw[hmk] at hk;obtain⟨u,h1,_⟩:=cell i s k c hs hk;refine⟨by rw[h1]; rfl,UN (Ku h1)⟩
  ·intro i x k c hx hk;rw[bd] at hx;obtain⟨s,hs,rfl⟩:=aR.1 hx;rw[hmk] at hk;obtain⟨u,h1,h2⟩:=cell i s k c hs hk
   show fF w _ c ((w.cell? _).getD undef)
   rw[h1];exact h2
def Mf{w:World}{fuel t e:Nat}{v:Value}{x:DataW H×List MemPlace}(ht:Tryz.prog.underlying t=some (.slice e))(he:Tryz.prog.underlying e=some (.int .u8))(hc:Tryz.prog.cellsOf e=1)(h:DataW.trod enc Tryz.prog w 0 (fun _=>true) true fuel t [v]=some x) :
  ∃d:Bytes,fF w (Dk w) (.slice .sh (d.map pE)) v:=by
 obtain⟨l,h,_⟩:=HV (eC:=fun b=>[pE b]) (mk:=pE) ht hc (by omega) (fun _=>rfl) (fun _=>rfl) (fun n cs y hl hy=>by
  match cs,hl with
  | [c],_ =>
   obtain⟨b,hb⟩:=agd he hy;exact⟨b,.one hb⟩) h
 exact⟨l,h⟩
set_option maxRecDepth 100000 in
def NV{w:World}{t:Nat}{fs:Array Field}{r:Reach}{b:Nat}{v:Value}{d:DataW H}{ps:List MemPlace}{P:List Value->Prop}(ht:Tryz.prog.underlying t=some (.struct fs))(h:DataW.Trod enc Tryz.prog w 0 (fun _=>true) true t v d ps)(hv:Value.okWide Tryz.prog w r b t v)
  (K:∀(n:Nat)(cs:List Value)(y:DataW H×List MemPlace),DataW.trod enc Tryz.prog w 0 (fun _=>true) true n t cs=some y->P cs):∃cs:Array Value,v = .agg cs/\P cs.toList:=by
 obtain⟨cs,rfl,_⟩:=okWide_struct ht hv;obtain⟨fuel,hf⟩:=h;have hcs:(Value.agg cs).cells.toList=cs.toList:=rfl;rw[hcs] at hf;exact⟨cs,rfl,K _ _ _ hf⟩
def VG{w:World}{l:List ag}{cs:Array Value}(h:nI w l cs.toList):fY WC [] w (.agg l) (.agg cs) :=
 .agg (by rw[h.1]; simp) (fun i c v hc hv => .plain (h.2 i c v hc (by simpa using hv)))
def Kd{T:yz}(hT:oQ Tryz.prog (ar T)){f:Nat}{args:List ag}(h:ar T f args []=some (.bool true,[]))(w:World)(hG:rT WC [] w)(vs:Array Value)(hl:args.length=vs.size)(hv:∀(i:Nat)(c:ag)(v:Value),args[i]?=some c->vs[i]?=some v->fY WC [] w c v) :
  Calls Tryz.prog f vs w fun e w'=>e = .returned (.bool true)/\Below w.heap.size w w':=by
 refine((hT f args [] _ h).2 WC w vs (arK w) hG hl hv).mono ?_;intro e w' hce;obtain⟨v,rfl,j',_,hx,hr⟩:=hce.ret rfl;obtain rfl:=hr.jg;exact⟨rfl,hx.os,hx.tape,hx.output,hx.size,fun k hk=>(hx.uo k hk fun i hi=>absurd hi (j8 _)).1⟩
def Zw{w:World}{n t k:Nat}{cs:List Value}{v:Value}{y:DataW H×List MemPlace}(hc:Tryz.prog.cellsOf t=1)(hk:cs[k]?=some v)(h:DataW.trod enc Tryz.prog w 0 (fun _=>true) true n t ((cs.drop k).take (Tryz.prog.cellsOf t))=some y):DataW.trod enc Tryz.prog w 0 (fun _=>true) true n t [v]=some y:=by
 rw[hc] at h
 have:(cs.drop k).take 1=[v]:=by
  have:=(ak.1 hk);obtain⟨h1,h2⟩:=this;rw[df h1,h2]; rfl
 rw[this] at h;exact h
def Ie:Tryz.prog.underlying 3=some (.int .i64):=by kernel_rfl
def abL:Tryz.prog.underlying 9=some .string:=by kernel_rfl
def arN:Tryz.prog.underlying 5=some (.int .u8):=by kernel_rfl
def Za:Tryz.prog.underlying 23=some (.slice 5):=by kernel_rfl
def Gm:Tryz.prog.cellsOf 3=1:=by kernel_rfl
def Zx:Tryz.prog.cellsOf 9=1:=by kernel_rfl
def apW:Tryz.prog.cellsOf 5=1:=by kernel_rfl
def VZ:Tryz.prog.cellsOf 23=1:=by kernel_rfl
def arq:Tryz.prog.cellsOf 25=8:=by kernel_rfl
def abK:Tryz.prog.underlying 22=some (.slice 25):=by kernel_rfl
set_option maxRecDepth 100000 in
def T0{w:World}{fuel:Nat}{cs:List Value}{x:DataW H×List MemPlace}(h:DataW.trod enc Tryz.prog w 0 (fun _=>true) true fuel 25 cs=some x):∃o:jz,nI w (ep o) cs:=by
 obtain⟨xs,n,_,_,hl,hxl,hf⟩:=DataW.trod_struct underlying25 h;have h0:cs.length=8:=by rw[hl]; kernel_rfl
 match cs,h0 with
 | [v0,v1,v2,v3,v4,v5,v6,v7],_ =>
  match xs,hxl with
  | [y0,y1,y2,y3,y4,y5,y6,y7],_ =>
   obtain⟨a0,r0⟩:=yX Ie (Zw (k:=0) Gm rfl (hf 0 _ rfl));obtain⟨a1,r1⟩:=yX Ie (Zw (k:=1) Gm rfl (hf 1 _ rfl));obtain⟨a2,r2⟩:=LL abL (Zw (k:=2) Zx rfl (hf 2 _ rfl));obtain⟨a3,r3⟩:=LL abL (Zw (k:=3) Zx rfl (hf 3 _ rfl));obtain⟨a4,r4⟩:=yX Ie (Zw (k:=4) Gm rfl (hf 4 _ rfl));obtain⟨a5,r5⟩:=yX Ie (Zw (k:=5) Gm rfl (hf 5 _ rfl));obtain⟨a6,r6⟩:=yX Ie (Zw (k:=6) Gm rfl (hf 6 _ rfl));obtain⟨a7,r7⟩:=Mf Za arN apW (Zw (k:=7) VZ rfl (hf 7 _ rfl));exact⟨⟨a0,a1,a2,a3,a4,a5,a6,a7⟩,.app (.one r0) (.app (.one r1) (.app (.one r2) (.app (.one r3) (.app (.one r4) (.app (.one r5) (.app (.one r6) (.one r7)))))))⟩
set_option maxRecDepth 100000 in
def aft{w:World}{r:Reach}{b:Nat}{v:Value}{d:DataW H}{ps:List MemPlace}(h:DataW.Trod enc Tryz.prog w 0 (fun _=>true) true 25 v d ps)(hv:Value.okWide Tryz.prog w r b 25 v):∃o:jz,fY WC [] w (.agg (ep o)) v:=by
 obtain⟨cs,rfl,o,hr⟩:=NV underlying25 h hv (fun n cs y hy=>T0 hy)
 exact⟨o,VG hr⟩
set_option maxRecDepth 100000 in
def YO{w:World}{r:Reach}{b:Nat}{v:Value}{d:DataW H}{ps:List MemPlace}(h:DataW.Trod enc Tryz.prog w 0 (fun _=>true) true 22 v d ps)(hv:Value.okWide Tryz.prog w r b 22 v):∃l:List jz,fY WC [] w (Jg l) v:=by
 obtain⟨a,len,cap,rfl⟩:=okWide_slice abK hv;obtain⟨fuel,hf⟩:=h;obtain⟨l,h2,_⟩:=HV (eC:=ep) (mk:=N7) abK arq (by omega) (fun _=>rfl) (fun _=>rfl) (fun n cs y _ hy=>T0 hy) hf
 exact⟨l,.plain h2⟩
end
def agc{α:Type}{a:Array α}{l:List α}(h:a.toList=l):a=l.toArray:=by rw[<-h]
end
def rb(ae:List Node)(i:Int):Prop:=∃n,find ae i=some n/\n.kind=1
def Zr(ae:List Node):Prop:=lL ae/\¬rb ae 0
def KF(a b:List Node):Prop:=Zr b/\∀i,rb a i->rb b i
theorem KF.trans{a b c:List Node}(h:KF a b)(k:KF b c):KF a c:=⟨k.1,fun i hi=>k.2 i (h.2 i hi)⟩
def Rt.zr{t:Tree}(h:Rt t):Zr t.ae:=by
 obtain⟨cz,g⟩:=h;exact⟨g.ja.jd,fun⟨n,h1,_⟩=>by have:=(g.num _ _ h1).1; omega⟩
theorem KF.refl{a:List Node}(h:Zr a):KF a a:=⟨h,fun _ hi=>hi⟩
def Ct{ae:List Node}(h:lL ae){n:Node}(hn:rb ae n.aq->n.kind=1){i:Int}(hi:rb ae i):rb (ef ae n) i:=by
 unfold rb;rw[fC h];split
 ·rename_i e; exact⟨n,rfl,hn (e▸hi)⟩
 ·exact hi
def Zr.edit{ae:List Node}(h:Zr ae)(d:Int){n:Node}(h1:n.aq=(aY ae d).aq)(h2:n.kind=(aY ae d).kind):KF ae (ef ae n):=by
 have key:∀i,rb ae i->i=n.aq->n.kind=1:=by
  intro i hi e;cases hd:find ae d with
  |none =>
   have:aY ae d=Node.zero:=by simp[aY,hd]
   rw[h1,this] at e;subst e;exact absurd hi h.2
  |some m =>
   have:aY ae d=m:=by simp[aY,hd]
   rw[this] at h1 h2;have hm:=(bR hd).2;obtain⟨x,g1,g2⟩:=hi;rw[e,h1,hm,hd] at g1;injection g1 with g1
   rw[h2,g1]; exact g2
 refine⟨⟨kd h.1 n,fun⟨x,g1,g2⟩=>?_⟩,fun i hi=>Ct h.1 (fun hf=>key _ hf rfl) hi⟩
 rw[fC h.1] at g1;split at g1
 ·rename_i e;injection g1 with g1
  subst g1;cases hd:find ae d with
  |none =>
   have:aY ae d=Node.zero:=by simp[aY,hd]
   rw[h2,this] at g2;cases g2
  |some m =>
   have:aY ae d=m:=by simp[aY,hd]
   rw[this] at h1 h2;have hm:=(bR hd).2;exact h.2 ⟨m,by rw[e,h1,hm]; exact hd,by rw[<-h2]; exact g2⟩
 ·exact h.2 ⟨x,g1,g2⟩
def Zr.AO{ae:List Node}(h:Zr ae)(d:Int){n:Node}(h1:n.aq=(aY ae d).aq)(h2:n.kind=(aY ae d).kind){i:Int}(hi:rb (ef ae n) i):rb ae i:=by
 obtain⟨x,g1,g2⟩:=hi;rw[fC h.1] at g1;split at g1
 ·rename_i e;injection g1 with g1
  subst g1;cases hd:find ae d with
  |none =>
   have:aY ae d=Node.zero:=by simp[aY,hd]
   rw[h2,this] at g2;cases g2
  |some m =>
   have:aY ae d=m:=by simp[aY,hd]
   rw[this] at h1 h2;exact⟨m,by rw[e,h1,(bR hd).2]; exact hd,by rw[<-h2]; exact g2⟩
 ·exact⟨x,g1,g2⟩
def Zr.Db{ae:List Node}(h:Zr ae)(k:Int){i:Int}(hi:rb (eF ae k) i):rb ae i:=by
 unfold eF at hi;split at hi
 ·obtain⟨x,g1,g2⟩:=hi;rw[kW h.1] at g1;split at g1
  ·cases g1
  ·exact⟨x,g1,g2⟩
 ·exact h.AO k (by rfl) (by rfl) hi
def Zr.tZ{ae:List Node}(h:Zr ae)(k:Int):Zr (fz ae k)/\∀i,rb ae i->i≠k->rb (fz ae k) i:=by
 refine⟨⟨p8 h.1 k,fun⟨x,g1,g2⟩=>?_⟩,fun i hi hk=>?_⟩
 ·rw[kW h.1] at g1;split at g1
  ·cases g1
  ·exact h.2 ⟨x,g1,g2⟩
 ·unfold rb;rw[kW h.1,aQ hk]; exact hi
def Zr.unnamed{ae:List Node}(h:Zr ae)(k:Int):KF ae (eF ae k):=by
 unfold eF;split
 ·rename_i hk;obtain⟨g1,g2⟩:=h.tZ k;refine⟨g1,fun i hi=>g2 i hi ?_⟩
  rintro rfl;obtain⟨n,h1,h2⟩:=hi;simp[aY,h1,h2] at hk
 ·exact h.edit k rfl rfl
def Cs{t:Tree}(h:Rt t)(k:Int){i:Int}(hi:rb t.ae i)(hk:i≠k):rb (jU t k).1.ae i:=by
 unfold jU
 repeat' split
 all_goals first|exact hi|exact(h.zr.tZ k).2 i hi hk
def Zr.left{ae:List Node}(h:Zr ae)(d:Int)(s:Bytes):KF ae (cV ae d s):=h.edit d rfl rfl
def Zr.mC{t:Tree}(h:Zr t.ae)(d:Int)(s:Bytes)(o:Int):KF t.ae (gz t d s o).ae:=h.edit d rfl rfl
def Hj{t:Tree}(h:Rt t)(d:Int)(s:Bytes)(k:Int):KF t.ae (qR t d s k).1.ae:=by
 have hz:=h.zr;unfold qR;split
 ·exact KF.refl hz
 split
 ·exact KF.refl hz
 split
 ·exact KF.refl hz
 ·obtain⟨cz,g⟩:=h;have h0:¬rb t.ae t.next:=fun⟨n,h1,_⟩=>by have:=(g.num _ _ h1).2; omega
  have h1:1<=t.next:=by
   obtain⟨r,g1,_⟩:=g.root;have:=(g.num _ _ g1).2; omega
  have hw:KF t.ae (ef t.ae ⟨t.next,k,1,[],[],if k==2 then d else 0⟩):=by
   refine⟨⟨kd hz.1 _,fun⟨x,g1,g2⟩=>?_⟩,fun i hi=>Ct hz.1 (fun hf=>absurd hf h0) hi⟩
   rw[fC hz.1,aQ (show ¬((0:Int)=t.next) by omega)] at g1
   exact hz.2 ⟨x,g1,g2⟩
  exact hw.trans (Zr.mC (t:=⟨_,lK (t.next+1),t.aj⟩) hw.1 d s t.next)
def K8{t:Tree}(h:Rt t)(i d:Int)(s:Bytes):KF t.ae (Bp t i d s).1.ae:=by
 have hz:=h.zr;unfold Bp;split
 ·exact KF.refl hz
 split
 ·exact KF.refl hz
 split
 ·exact KF.refl hz
 ·have hw:KF t.ae (ef t.ae { aY t.ae i with dz:=lK ((aY t.ae i).dz+1) }):=hz.edit i rfl rfl
  exact hw.trans (Zr.mC (t:=⟨_,t.next,t.aj⟩) hw.1 d s i)
def La{t:Tree}(h:Rt t)(d:Int)(s:Bytes):KF t.ae (AA t d s).1.ae:=by
 have hz:=h.zr;unfold AA;split
 ·exact KF.refl hz
 split
 ·exact KF.refl hz
 ·exact(hz.left d s).trans ((hz.left d s).1.unnamed _)
def Cz{t:Tree}(h:Rt t)(i:Int)(d:Bytes):KF t.ae (qt t i d).1.ae:=by
 have hz:=h.zr;unfold qt;split
 ·exact KF.refl hz
 split
 ·exact KF.refl hz
 split
 ·exact KF.refl hz
 ·exact hz.edit i rfl rfl
def K9{t:Tree}(h:Rt t)(d:Int)(s:Bytes)(to:Int)(nm:Bytes):KF t.ae (vO t d s to nm).1.ae:=by
 have hz:=h.zr;unfold vO;split
 ·exact KF.refl hz
 split
 ·exact KF.refl hz
 split
 ·exact KF.refl hz
 split
 ·exact KF.refl hz
 split
 ·exact KF.refl hz
 split
 ·exact KF.refl hz
 split
 ·exact KF.refl hz
 ·generalize (eE t.ae d s).1=x;generalize eZ (gA t.ae to).1.aL nm=y;unfold pd;have h1:=hz.left d s
  have h2:KF t.ae (if y != 0 then eF (cV (cV t.ae d s) to nm) y else cV t.ae d s):=by
   split
   ·exact h1.trans ((h1.1.left to nm).trans ((h1.1.left to nm).1.unnamed y))
   ·exact h1
  split
  ·rename_i hk
   have hx:∃m,find t.ae x=some m/\aY t.ae x=m:=by
    cases hf:find t.ae x with
    |none=>simp[aY,hf,Node.zero] at hk
    |some m=>exact⟨m,rfl,by simp[aY,hf]⟩
   obtain⟨m,m1,m2⟩:=hx;rw[m2] at hk ⊢;have hmi:=(bR m1).2;have hmk:m.kind=2:=by simpa using hk
   have hb:∀i,rb (if y != 0 then eF (cV (cV t.ae d s) to nm) y else cV t.ae d s) i->rb t.ae i:=by
    intro i hi;split at hi
    ·exact hz.AO d (by rfl) (by rfl) (h1.1.AO to (by rfl) (by rfl) ((h1.1.left to nm).1.Db y hi))
    ·exact hz.AO d (by rfl) (by rfl) hi
   generalize (if y != 0 then eF (cV (cV t.ae d s) to nm) y else cV t.ae d s)=B at h2 hb
   have hw:KF B (ef B { m with up:=to }):=by
    refine⟨⟨kd h2.1.1 _,fun⟨z,g1,g2⟩=>?_⟩,fun i hi=>Ct h2.1.1 (fun hf=>?_) hi⟩
    ·rw[fC h2.1.1] at g1;split at g1
     ·injection g1 with g1
      rw[<-g1] at g2;simp only at g2;omega
     ·exact h2.1.2 ⟨z,g1,g2⟩
    ·simp only at hf;rw[hmi] at hf;obtain⟨z,g1,g2⟩:=hb _ hf;rw[m1] at g1; injection g1 with g1
     rw[<-g1] at g2;omega
   exact(h2.trans hw).trans (Zr.mC (t:=⟨_,t.next,t.aj⟩) hw.1 to nm x)
  ·exact h2.trans (Zr.mC (t:=⟨_,t.next,t.aj⟩) h2.1 to nm x)
def Mk(ae:List Node)(m:List Bool)(v:Int):Prop:=∀(a:Nat)(y:Node),ae[a]?=some y->y.aq=v->m[a]?=some true
def Clo(ae:List Node)(aq:Int)(m:List Bool):Prop:=∀(i:Nat)(x:Node),ae[i]?=some x->(x.aq=aq\/m[i]?=some true)->∀e,e∈x.aL->Mk ae m e.aq
def nT(m:List Bool):Nat:=m.countP id
def afd{m:List Bool}{a:Nat}(h:m[a]?=some false):nT (m.set a true)=nT m+1:=by
 have ha:=(ak.1 h).1;have hv:=(ak.1 h).2;unfold nT;rw[List.countP_set ha];simp[hv]
def ack{ae:List Node}(h:lL ae){a b:Nat}{x y:Node}(hx:ae[a]?=some x)(hy:ae[b]?=some y)(e:x.aq=y.aq):a=b:=by
 obtain⟨ha,rfl⟩:=ak.1 hx;obtain⟨hb,rfl⟩:=ak.1 hy;rcases gW a b with h1|h1|h1
 ·have:=bV.1 h _ _ ha hb h1; omega
 ·exact h1
 ·have:=bV.1 h _ _ hb ha h1; omega
def ac0{t:Tree}{cz:Int->Nat}(h:cF t cz 0){aq:Int}{m:List Bool}(hc:Clo t.ae aq m){v:Int}(hv:Vf t.ae aq v):Mk t.ae m v:=by
 have step:∀ {d:Node},d∈t.ae->(d.aq=aq\/Mk t.ae m d.aq)->∀e,e∈d.aL->Mk t.ae m e.aq:=fun hd ho e he=>by
  obtain⟨a,ha⟩:=bJ hd;exact hc a _ ha (ho.imp id fun hk=>hk a _ ha rfl) e he
 have key:∀(c:Nat)(i:Int)(n:Node),find t.ae i=some n->n.kind=2->cz i=c->hU t.ae i aq=true->i=aq\/Mk t.ae m i:=by
  intro c;induction c with
  |zero =>
   intro i n hi hk hd hb
   by_cases ho:i=aq
   ·exact .inl ho
   ·by_cases h1:i=1
    ·subst h1;rw[cF.nz (fun hh=>ho hh.symm)] at hb; cases hb
    ·have:=(h.n9 _ _ hi hk h1).1; omega
  |succ c ih =>
   intro i n hi hk hd hb
   by_cases ho:i=aq
   ·exact .inl ho
   ·right;have h1:i≠1:=fun hh=>by subst hh; have:=h.yL; omega
    rw[h.po hi hk h1 ho] at hb;obtain⟨a,q,hq,hqk⟩:=h.n9 _ _ hi hk h1;obtain⟨p,e',p1,p2,p3,p4⟩:=h.named hi hk h1 (by have:=(h.num _ _ hi).1; omega)
    have hp:=ih n.up p p1 p2 (by omega) hb
    have:=step (bR p1).1 (by rw[(bR p1).2]; exact hp) e' p3
    rwa[p4] at this
 obtain⟨d,e,hd,hk,hb,he,rfl⟩:=hv;exact step hd (key _ _ d ((eD h.ja.jd).2 ⟨hd,rfl⟩) hk rfl hb) e he
def af7{ae:List Node}:∀ {a b:List Bool},a.length=ae.length->b.length=ae.length->(∀i:Nat,a[i]?=some true->b[i]?=some true)->nT a<=nT b/\FR ae a<=FR ae b:=by
 induction ae with
 |nil =>
  intro a b ha hb _;rw[dG ha,dG hb];exact⟨aC _,aC _⟩
 |cons n r ih =>
  intro a b ha hb hab;cases a with
  |nil=>cases ha
  |cons x a =>
  cases b with
  |nil=>cases hb
  |cons y b =>
  obtain⟨h1,h2⟩:=ih (a:=a) (b:=b) (by simpa using ha) (by simpa using hb) fun i hi=>by simpa using hab (i+1) (by simpa using hi)
  have h0:x=true->y=true:=fun e=>by simpa using hab 0 (by simp[e])
  simp only[nT,FR] at h1 h2 ⊢;simp only[kK,List.zip_cons_cons,aP,mJ,id] at h1 h2 ⊢;cases x<;>cases y<;>simp at h0 ⊢ <;> omega
def OX{t:Tree}(hr:Rt t){aq:Int}{m:List Bool}(hm:m.length=t.ae.length)(hc:Clo t.ae aq m):(jm t.ae aq).1<=nT m/\(jm t.ae aq).2<=FR t.ae m:=by
 rw[zx hr];obtain⟨cz,h⟩:=hr;obtain⟨q,h1,h2⟩:=wa t.ae aq
 have:=af7 (ae:=t.ae) (a:=rC t.ae aq) (b:=m) (by rw[h1]; simp) hm fun i hi=>by
  rw[h1,bd] at hi;obtain⟨n,hn,hq⟩:=aR.1 hi;exact ac0 h hc ((h2 n).1 hq) i n hn rfl
 unfold nT at this ⊢;unfold Ms;simp only;omega
def WA{l:List cv}(h:ov l)(aq:Int):D7 l aq=true↔∃x,x∈l/\x.aq=aq:=by
 have hl:=xe h aq;unfold D7 qy
 have hc:∀a b:Int,(om a b==0)=true↔a=b:=fun a b=>by
  unfold om;simp only[ba,eG];split
  ·constructor<;>intro<;>omega
  split
  ·constructor<;>intro<;>omega
  ·constructor<;>intro<;>omega
 have cn:∀a b:Int,decide (om a b<0)=true↔a<b:=fun a b=>by
  unfold om;simp only[ba];split
  ·constructor<;>intro<;>omega
  split
  ·constructor<;>intro<;>omega
  ·constructor<;>intro<;>omega
 constructor
 ·intro hq;split at hq
  ·rename_i x hx;exact⟨x,aO hx,(hc _ _).1 hq⟩
  ·cases hq
 ·rintro⟨x,hx,rfl⟩;obtain⟨i,hi⟩:=bJ hx;have h1:=hl.lt i x hi;rw[cn] at h1
  have hge:vL l x.aq<=i:=by
   rcases bF i (vL l x.aq) with h2|h2
   ·have:=h1.2 h2; omega
   ·exact h2
  have hil:=(ak.1 hi).1;have hb:l[vL l x.aq]?=some (l[vL l x.aq]'(by omega)):=ai _
  rw[hb];simp only;rw[hc];rcases bF (vL l x.aq) i with h2|h2
  ·have h3:=hl.lt _ _ hb;rw[cn] at h3;have h4:=bV.1 h _ _ (by omega) hil h2
   have h5:=(ak.1 hi).2;rw[h5] at h4;have:=h3.1 h4;omega
  ·have:vL l x.aq=i:=by omega
   have h5:=(ak.1 hi).2;simp only[this,h5]
def B7{t:Tree}{cz:Int->Nat}(h:cF t cz 0)(l:List cv):∀(f g:Nat)(i:Int)(n:Node),find t.ae i=some n->n.kind=2->cz i<f->cz i<g->rD t.ae l f i=rD t.ae l g i
 |0,_,_,_,_,_,hf,_=>by omega
 |_+1,0,_,_,_,_,_,hg=>by omega
 |f+1,g+1,i,n,hi,hk,hf,hg=>by
  rw[rD,rD];split
  ·rfl
  split
  ·rename_i h1;obtain⟨a,p,p1,p2⟩:=h.n9 _ _ hi hk (by simpa using h1)
   have hn:aY t.ae i=n:=by simp[aY,hi]
   rw[hn];exact B7 h l f g n.up p p1 p2 (by omega) (by omega)
  ·rfl
def Je{t:Tree}{cz:Int->Nat}(h:cF t cz 0)(l:List cv){i:Int}{n:Node}(hi:find t.ae i=some n)(hk:n.kind=2):jM t.ae l i=if D7 l i then i else if i=1 then 0 else jM t.ae l n.up:=by
 have hn:aY t.ae i=n:=by simp[aY,hi]
 unfold jM
 conv=>lhs; rw[rD]
 rw[hn]
 by_cases h1:i=1
 ·simp[h1]
 ·obtain⟨a,p,p1,p2⟩:=h.n9 _ _ hi hk h1;have hd:=(h.deep _ _ hi hk).1;have h1':(i != 1)=true:=by simpa using h1
  rw[h1'];simp only[aG,h1,az];rw[B7 h l 12 13 n.up p p1 p2 (by omega) (by omega)]
def Gx{t:Tree}{cz:Int->Nat}(h:cF t cz 0)(l:List cv):∀(f:Nat)(i:Int)(n:Node),find t.ae i=some n->n.kind=2->0<=rD t.ae l f i
 |0,_,_,_,_=>cZ 0
 |f+1,i,n,hi,hk=>by
  rw[rD];split
  ·have:=(h.num _ _ hi).1; omega
  split
  ·rename_i h1;obtain⟨_,p,p1,p2⟩:=h.n9 _ _ hi hk (by simpa using h1)
   have hn:aY t.ae i=n:=by simp[aY,hi]
   rw[hn];exact Gx h l f n.up p p1 p2
  ·exact cZ 0
def OD(t:Tree)(l:List cv):Prop:=∀d1 e1 d2 e2 x,d1∈t.ae->e1∈d1.aL->d2∈t.ae->e2∈d2.aL->e1.aq=e2.aq->find t.ae e1.aq=some x->x.kind=1->jM t.ae l d1.aq=jM t.ae l d2.aq
def wb{t u:Tree}{cz:Int->Nat}(h:cF t cz 0)(hk:∀i n,find t.ae i=some n->n.kind=2->(aY u.ae i).up=n.up)(l:List cv):∀(f:Nat)(i:Int)(n:Node),find t.ae i=some n->n.kind=2->rD u.ae l f i=rD t.ae l f i
 |0,_,_,_,_=>rfl
 |f+1,i,n,hi,hk2=>by
  have h1:aY t.ae i=n:=by simp[aY,hi]
  rw[rD,rD,h1,hk _ _ hi hk2];split
  ·rfl
  split
  ·rename_i hne;obtain⟨_,p,p1,p2⟩:=h.n9 _ _ hi hk2 (by simpa using hne)
   exact wb h hk l f n.up p p1 p2
  ·rfl
def cF.Jd{t:Tree}{cz:Int->Nat}(h:cF t cz 0){d:Node}{e:fg}(hd:d∈t.ae)(he:e∈d.aL):find t.ae d.aq=some d/\d.kind=2:=by
 have hf:=(eD h.ja.jd).2 ⟨hd,rfl⟩;refine⟨hf,?_⟩;rcases h.kind _ _ hf with h1|h1
 ·rw[(h.file _ _ hf h1).1] at he; cases he
 ·exact h1
def K5(ae:List Node)(i:Int):Prop:=∃n,find ae i=some n/\n.kind=2
def RF(a b:List Node):Prop:=∀i,rb b i->rb a i\/find a i=none
def K5.no{a:List Node}{i:Int}(h:K5 a i)(hf:rb a i\/find a i=none):False:=by
 obtain⟨n,h1,h2⟩:=h;rcases hf with ⟨m,g1,g2⟩|h3
 ·rw[h1] at g1; cases g1; omega
 ·rw[h1] at h3; cases h3
def Rt.K5{t:Tree}(h:Rt t){i:Int}{n:Node}(hn:find t.ae i=some n)(hf:¬rb t.ae i):K5 t.ae i:=by
 obtain⟨cz,g⟩:=h;rcases g.kind _ _ hn with hk|hk
 ·exact absurd ⟨n,hn,hk⟩ hf
 ·exact⟨n,hn,hk⟩
def Zr.AZ{ae:List Node}(h:Zr ae)(d:Int)(s:Bytes){i:Int}(hi:rb (cV ae d s) i):rb ae i:=h.AO d (by rfl) (by rfl) hi
def Zr.yM{t:Tree}(h:Zr t.ae)(d:Int)(s:Bytes)(o:Int){i:Int}(hi:rb (gz t d s o).ae i):rb t.ae i:=h.AO d (by rfl) (by rfl) hi
def UI{t:Tree}(h:Rt t)(d:Int)(s:Bytes)(k:Int):RF t.ae (qR t d s k).1.ae:=by
 have hz:=h.zr;intro i hi;unfold qR at hi;split at hi
 ·exact .inl hi
 split at hi
 ·exact .inl hi
 split at hi
 ·exact .inl hi
 ·obtain⟨cz,g⟩:=h
  have h0:find t.ae t.next=none:=by
   cases hf:find t.ae t.next with
   |none=>rfl
   |some n=>have:=(g.num _ _ hf).2; omega
  have h1:1<=t.next:=by
   obtain⟨r,g1,_⟩:=g.root;have:=(g.num _ _ g1).2; omega
  have hw:Zr (ef t.ae ⟨t.next,k,1,[],[],if k==2 then d else 0⟩):=by
   refine⟨kd hz.1 _,fun⟨x,g1,g2⟩=>?_⟩
   rw[fC hz.1,aQ (show ¬((0:Int)=t.next) by omega)] at g1
   exact hz.2 ⟨x,g1,g2⟩
  obtain⟨x,g1,g2⟩:=Zr.yM (t:=⟨_,lK (t.next+1),t.aj⟩) hw d s t.next hi
  have g1:find (ef t.ae ⟨t.next,k,1,[],[],if k==2 then d else 0⟩) i=some x:=g1
  rw[fC hz.1] at g1
  by_cases e:i=t.next
  ·right; rw[e]; exact h0
  ·rw[aQ e] at g1; exact .inl ⟨x,g1,g2⟩
def abH{t:Tree}(h:Rt t)(j d:Int)(s:Bytes):RF t.ae (Bp t j d s).1.ae:=by
 have hz:=h.zr;intro i hi;unfold Bp at hi;split at hi
 ·exact .inl hi
 split at hi
 ·exact .inl hi
 split at hi
 ·exact .inl hi
 ·have hw:KF t.ae (ef t.ae { aY t.ae j with dz:=lK ((aY t.ae j).dz+1) }):=hz.edit j rfl rfl
  exact .inl (hz.AO j (by rfl) (by rfl) (Zr.yM (t:=⟨_,t.next,t.aj⟩) hw.1 d s j hi))
def abJ{t:Tree}(h:Rt t)(d:Int)(s:Bytes):RF t.ae (AA t d s).1.ae:=by
 have hz:=h.zr;intro i hi;unfold AA at hi;split at hi
 ·exact .inl hi
 split at hi
 ·exact .inl hi
 ·exact .inl (hz.AZ d s ((hz.left d s).1.Db _ hi))
def J5{t:Tree}(h:Rt t)(j:Int)(d:Bytes):RF t.ae (qt t j d).1.ae:=by
 have hz:=h.zr;intro i hi;unfold qt at hi;split at hi
 ·exact .inl hi
 split at hi
 ·exact .inl hi
 split at hi
 ·exact .inl hi
 ·exact .inl (hz.AO j (by rfl) (by rfl) hi)
def abI{t:Tree}(h:Rt t)(d:Int)(s:Bytes)(to:Int)(nm:Bytes):RF t.ae (vO t d s to nm).1.ae:=by
 have hz:=h.zr;intro i hi;left;unfold vO at hi;split at hi
 ·exact hi
 split at hi
 ·exact hi
 split at hi
 ·exact hi
 split at hi
 ·exact hi
 split at hi
 ·exact hi
 split at hi
 ·exact hi
 split at hi
 ·exact hi
 ·generalize (eE t.ae d s).1=x at hi;generalize eZ (gA t.ae to).1.aL nm=y at hi;unfold pd at hi;have h1:=hz.left d s
  have hb:∀i,rb (if y != 0 then eF (cV (cV t.ae d s) to nm) y else cV t.ae d s) i->rb t.ae i:=by
   intro i hi;split at hi
   ·exact hz.AZ d s (h1.1.AZ to nm ((h1.1.left to nm).1.Db y hi))
   ·exact hz.AZ d s hi
  have h2:Zr (if y != 0 then eF (cV (cV t.ae d s) to nm) y else cV t.ae d s):=by
   split
   ·exact((h1.1.left to nm).1.unnamed y).1
   ·exact h1.1
  refine hb i ?_;generalize (if y != 0 then eF (cV (cV t.ae d s) to nm) y else cV t.ae d s)=B at h2 hi
  split at hi
  ·rename_i hk;have hk2:(aY t.ae x).kind=2:=by simpa using hk
   have hw:∀j,rb (ef B { aY t.ae x with up:=to }) j->rb B j:=by
    rintro j ⟨z,g1,g2⟩;rw[fC h2.1] at g1;split at g1
    ·injection g1 with g1
     rw[<-g1] at g2;simp only at g2;omega
    ·exact⟨z,g1,g2⟩
   exact hw _ (Zr.yM (t:=⟨_,t.next,t.aj⟩) ⟨kd h2.1 _,fun hf=>h2.2 (hw _ hf)⟩ to nm x hi)
  ·exact Zr.yM (t:=⟨_,t.next,t.aj⟩) h2 to nm x hi
def w8{t:Tree}(h:Rt t)(k i:Int):find (jU t k).1.ae i=if i=k/\∃n,find t.ae k=some n/\fO n=true then none else find t.ae i:=by
 have hz:=h.zr;obtain⟨cz,g⟩:=h;unfold jU;cases hf:find t.ae k with
 |none=>simp
 |some n =>
  have hn:aY t.ae k=n:=by simp[aY,hf]
  have hl:=g.dz _ _ hf;simp only[bW,di,af,az,hn];rcases g.kind _ _ hf with hk|hk
  ·have h1:(n.kind==2)=false:=by simp[hk]
   simp only[h1,af,az];split
   ·rename_i h2;have h2':0<n.dz:=by simpa using h2
    have:fO n=false:=by simp[fO,hk]; omega
    simp[this]
   ·rename_i h2;have h2':¬0<n.dz:=by simpa using h2
    have h3:0<=n.dz:=by rw[hl]; split<;>omega
    have:fO n=true:=by simp[fO,hk]; omega
    rw[kW hz.1];simp[this]
  ·have h1:(n.kind==2)=true:=by simp[hk]
   have:fO n=false:=by simp[fO,hk]
   simp[h1,this]
def YB{t:Tree}(hr:Rt t)(k:Int)(l:List cv)(ho:OD t l):OD (jU t k).1 l:=by
 have hf:=w8 hr k;have hu:=(hr.free k).ja.jd;obtain⟨cz,h⟩:=hr
 have back:∀ {d:Node},d∈(jU t k).1.ae->d∈t.ae:=fun hd=>by
  have h1:=(eD hu).2 ⟨hd,rfl⟩;rw[hf] at h1;split at h1
  ·cases h1
  ·exact(bR h1).1
 have oq:∀i n,find t.ae i=some n->n.kind=2->(aY (jU t k).1.ae i).up=n.up:=fun i n h1 h2=>by
  unfold aY;rw[hf,aQ,h1]
  ·rfl
  rintro⟨rfl,m,g1,g2⟩;rw[h1] at g1; cases g1;simp[fO,h2] at g2
 intro d1 e1 d2 e2 x h1 h2 h3 h4 h5 h6 h7;obtain⟨a1,a2⟩:=h.Jd (back h1) h2;obtain⟨b1,b2⟩:=h.Jd (back h3) h4
 have hx:find t.ae e1.aq=some x:=by
  rw[hf] at h6;split at h6
  ·cases h6
  ·exact h6
 unfold jM;rw[wb h oq l 13 _ _ a1 a2,wb h oq l 13 _ _ b1 b2];exact ho d1 e1 d2 e2 x (back h1) h2 (back h3) h4 h5 hx h7
def mvA(t:Tree)(f:Int)(s:Bytes)(to:Int)(nm:Bytes)(y:Int):List Node:=if y != 0 then eF (cV (cV t.ae f s) to nm) y else cV t.ae f s
def Hs(o:Option Node):Option Node:=match o with
 |some y=>Hr y
 |none=>none
def Yy{t:Tree}{cz:Int->Nat}(h:cF t cz 0)(f:Int)(s:Bytes)(to:Int)(nm:Bytes)(y:Int):lL (mvA t f s to nm y):=by
 unfold mvA;split
 ·exact vr (lR (lR h.ja.jd f s) to nm) y
 ·exact lR h.ja.jd f s
def Pp{t:Tree}{cz:Int->Nat}(h:cF t cz 0){f:Int}{s:Bytes}{to:Int}{nm:Bytes}{dF dT m:Node}{e:fg}(k:Dj t cz f s to nm dF dT m e)(i:Int) :
  find (mvA t f s to nm (eZ dT.aL nm)) i=if i=to then some { dT with aL:=fU (if to=f then fU dT.aL s else dT.aL) nm }
   else if i=f then some { dF with aL:=fU dF.aL s } else if i=eZ dT.aL nm then Hs (find t.ae i) else find t.ae i:=by
 have f1:=jo h.ja.jd k.hF (s:=s);cases hfr:fb dT.aL nm with
 |none =>
  have hu:eZ dT.aL nm=0:=by simp[eZ,hfr]
  have hdr:fU (if to=f then fU dT.aL s else dT.aL) nm=(if to=f then fU dT.aL s else dT.aL):=by
   refine B9 ?_;split
   ·exact qZ hfr
   ·exact hfr
  rw[hu,hdr];simp only[mvA,an,af,↓reduceIte];rw[f1]
  by_cases i1:i=to
  ·rw[bh i1];subst i1
   by_cases i2:i=f
   ·subst i2;have:=k.hF; rw[k.hT] at this; cases this;simp only[↓reduceIte]
   ·simp only[i2,↓reduceIte]; exact k.hT
  ·rw[aQ i1]
   by_cases i2:i=f
   ·simp only[i2,↓reduceIte]
   ·simp only[i2,↓reduceIte]
    by_cases i3:i=0
    ·subst i3; simp[h.zero,Hs]
    ·simp only[i3,↓reduceIte]
 |some e2 =>
  have hu:eZ dT.aL nm=e2.aq:=by simp[eZ,hfr]
  obtain⟨q1,y,q2,q3,q4,q5,q6⟩:=k.YC e2 hfr;have hy0:=(h.num _ _ q2).1;have hb:(e2.aq != 0)=true:=by simp; omega
  rw[hu];simp only[mvA,hb,↓reduceIte];have a1:=lR h.ja.jd f s
  obtain⟨dT',hT',hd'⟩:∃dT',find (cV t.ae f s) to=some dT'/\({ dT' with aL:=fU dT'.aL nm }:Node)={ dT with aL:=fU (if to=f then fU dT.aL s else dT.aL) nm }:=by
   rw[f1];split
   ·rename_i hh;subst hh;have:=k.hF; rw[k.hT] at this; cases this;exact⟨_,rfl,rfl⟩
   ·exact⟨dT,k.hT,rfl⟩
  have f3:=jo a1 hT' (s:=nm);have hy3:find (cV (cV t.ae f s) to nm) e2.aq=some y:=by rw[f3,aQ q6,f1,aQ q5]; exact q2
  rw[rj (lR a1 to nm) hy3,f3,f1,hd']
  by_cases i1:i=e2.aq
  ·subst i1;simp only[↓reduceIte,q5,q6,q2,Hs]
  ·simp only[i1,↓reduceIte]
def Cc{t:Tree}{cz:Int->Nat}(h:cF t cz 0){f:Int}{s:Bytes}{to:Int}{nm:Bytes}{dF dT m:Node}{e:fg}(k:Dj t cz f s to nm dF dT m e)(i:Int) :
  find (pd t f s to nm e.aq (eZ dT.aL nm)).ae i=if i=to then some { dT with aL:=vK (fU (if to=f then fU dT.aL s else dT.aL) nm) ⟨nm,e.aq,t.aj⟩ }
   else if i=f then some { dF with aL:=fU dF.aL s } else if i=e.aq then some (if m.kind=2 then { m with up:=to } else m) else if i=eZ dT.aL nm then Hs (find t.ae i) else find t.ae i:=by
 have hA:=Pp h k;have aA:=Yy h f s to nm (eZ dT.aL nm);have hmn:aY t.ae e.aq=m:=by simp[aY,k.hm]
 have hmi:m.aq=e.aq:=(bR k.hm).2;have hTi:dT.aq=to:=(bR k.hT).2
 have hux:e.aq≠eZ dT.aL nm:=by
  cases hfr:fb dT.aL nm with
  |none=>simp only[eZ,hfr]; have:=(h.num _ _ k.hm).1; omega
  |some e2=>simp only[eZ,hfr]; exact fun hh=>(k.YC e2 hfr).1 hh.symm
 obtain⟨B,hB,aB,fB⟩:∃B,(if m.kind==2 then ef (mvA t f s to nm (eZ dT.aL nm)) { m with up:=to } else mvA t f s to nm (eZ dT.aL nm))=B/\lL B /\
   ∀i,find B i=if i=to then some { dT with aL:=fU (if to=f then fU dT.aL s else dT.aL) nm }
    else if i=f then some { dF with aL:=fU dF.aL s } else if i=e.aq then some (if m.kind=2 then { m with up:=to } else m) else if i=eZ dT.aL nm then Hs (find t.ae i) else find t.ae i:=by
  refine⟨_,rfl,?_,?_⟩
  ·split
   ·exact kd aA _
   ·exact aA
  ·intro i;split
   ·rename_i hk;have hk':m.kind=2:=by simpa using hk
    rw[fC aA,hA];simp only[hmi,hk',↓reduceIte]
    by_cases i1:i=e.aq
    ·subst i1; simp only[↓reduceIte,k.ne,k.nf]
    ·simp only[i1,↓reduceIte]
   ·rename_i hk;have hk':¬m.kind=2:=by simpa using hk
    rw[hA];simp only[hk',↓reduceIte]
    by_cases i1:i=e.aq
    ·subst i1; simp only[↓reduceIte,k.ne,k.nf,hux]; exact k.hm
    ·simp only[i1,↓reduceIte]
 have hmv:pd t f s to nm e.aq (eZ dT.aL nm)=gz ⟨B,t.next,t.aj⟩ to nm e.aq:=by
  rw[<-hB];unfold pd mvA;simp only[hmn]
 rw[hmv];unfold gz;simp only;have hBt:find B to=some { dT with aL:=fU (if to=f then fU dT.aL s else dT.aL) nm }:=by rw[fB]; simp only[↓reduceIte]
 rw[fC aB,hBt];simp only[bn,hTi]
 by_cases i1:i=to
 ·simp only[i1,↓reduceIte]
 ·simp only[i1,↓reduceIte];rw[fB];simp only[i1,↓reduceIte]
def VL{a b:List Node}(ha:lL a)(h:∀n,n∈a->∃m,find b n.aq=some m):a.length<=b.length:=by
 have:=ze (a.map Node.aq) (b.map Node.aq) (by
  unfold List.Nodup;rw[iy];exact List.Pairwise.imp (fun hab=>by omega) ha) (by
  intro x hx;obtain⟨n,hn,rfl⟩:=cE.1 hx;obtain⟨m,hm⟩:=h n hn;exact cE.2 ⟨m,(bR hm).1,(bR hm).2⟩)
 simpa using this
def zY{l:List fg}(h:ou l){s:Bytes}{e:fg}:fb l s=some e↔e∈l/\e.name=s:=by
 refine⟨gY,fun⟨h1,h2⟩=>?_⟩
 cases hf:fb l s with
 |none =>
  have:=dQ.1 hf e h1;simp[h2] at this
 |some x =>
  obtain⟨x1,x2⟩:=gY hf;obtain⟨i,hi⟩:=bJ h1;obtain⟨k,hk⟩:=bJ x1;have hil:=(ak.1 hi).1;have hkl:=(ak.1 hk).1;have e1:l[i]=e:=by rw[ai hil] at hi; injection hi
  have e2:l[k]=x:=by rw[ai hkl] at hk; injection hk
  rcases gW i k with cn|heq|hgt
  ·have:=bV.1 h _ _ hil hkl cn;rw[e1,e2,h2,x2,nF] at this; cases this
  ·subst heq; rw[<-e1,<-e2]
  ·have:=bV.1 h _ _ hkl hil hgt;rw[e1,e2,h2,x2,nF] at this; cases this
def Jq{l:List fg}(h:ou l){e:fg}(hf:fb l e.name=none)(s:Bytes):fb (vK l e) s=if s=e.name then some e else fb l s:=by
 have ha:=G8 h hf;split
 ·rename_i hs;exact(zY ha).2 ⟨(za h hf).2 (.inl rfl),hs.symm⟩
 ·rename_i hs;cases hq:fb l s with
  |none =>
   cases hr:fb (vK l e) s with
   |none=>rfl
   |some x =>
    obtain⟨x1,x2⟩:=gY hr;rcases(za h hf).1 x1 with rfl|x1
    ·exact absurd x2.symm hs
    ·rw[(zY h).2 ⟨x1,x2⟩] at hq; cases hq
  |some x =>
   obtain⟨x1,x2⟩:=gY hq;exact(zY ha).2 ⟨(za h hf).2 (.inr x1),x2⟩
section
variable {t:Tree} {cz:Int->Nat} {f:Int} {s:Bytes} {to:Int} {nm:Bytes} {dF dT m:Node} {e:fg}
def Dj.bQ(h:cF t cz 0)(k:Dj t cz f s to nm dF dT m e):ou (fU (if to=f then fU dT.aL s else dT.aL) nm)/\fb (fU (if to=f then fU dT.aL s else dT.aL) nm) nm=none:=by
 have hE:ou dT.aL:=h.ja.aL dT (bR k.hT).1;refine⟨uE ?_ nm,wh _ _⟩;split
 ·exact uE hE s
 ·exact hE
def Dj.len(h:cF t cz 0)(k:Dj t cz f s to nm dF dT m e){dep':Int->Nat}(h':cF (pd t f s to nm e.aq (eZ dT.aL nm)) dep' 0):(pd t f s to nm e.aq (eZ dT.aL nm)).ae.length<=t.ae.length:=by
 refine VL h'.ja.jd (fun n hn=>?_)
 have hf:=(eD h'.ja.jd).2 ⟨hn,rfl⟩;rw[Cc h k] at hf;split at hf
 ·rename_i hi; rw[hi]; exact⟨dT,k.hT⟩
 split at hf
 ·rename_i hi; rw[hi]; exact⟨dF,k.hF⟩
 split at hf
 ·rename_i hi; rw[hi]; exact⟨m,k.hm⟩
 split at hf
 ·cases hq:find t.ae n.aq with
  |none=>rw[hq] at hf; cases hf
  |some y=>exact⟨y,rfl⟩
 ·exact⟨n,hf⟩
end
structure F3(u t:Tree):Prop where
 dir:∀i n,find u.ae i=some n->n.kind=2->∃m,find t.ae i=some m/\m.kind=2/\m.up=n.up/\∀e,e∈n.aL->e∈m.aL
 all:∀i n,find u.ae i=some n->∃m,find t.ae i=some m/\m.kind=n.kind/\m.data=n.data
section
variable {u t:Tree} {cz:Int->Nat}
def F3.below(h:F3 u t)(hu:cF u cz 0)(ht:cF t cz 0)(of:Int):∀(c:Nat)(i:Int)(n:Node),find u.ae i=some n->n.kind=2->cz i=c->hU u.ae i of=hU t.ae i of:=by
 intro c;induction c with
 |zero =>
  intro i n hi hk hd
  by_cases ho:i=of
  ·subst ho; rw[cF.ka (t:=u),cF.ka (t:=t)]
  ·by_cases h1:i=1
   ·subst h1;rw[cF.nz (t:=u) (fun e=>ho e.symm),cF.nz (t:=t) (fun e=>ho e.symm)]
   ·have:=(hu.n9 _ _ hi hk h1).1; omega
 |succ c ih =>
  intro i n hi hk hd
  by_cases ho:i=of
  ·subst ho; rw[cF.ka (t:=u),cF.ka (t:=t)]
  ·have h1:i≠1:=fun hh=>by subst hh; have:=hu.yL; omega
   obtain⟨m,m1,m2,m3,_⟩:=h.dir _ _ hi hk;obtain⟨a,p,p1,p2⟩:=hu.n9 _ _ hi hk h1;rw[hu.po hi hk h1 ho,ht.po m1 m2 h1 ho,m3];exact ih n.up p p1 p2 (by omega)
def F3.inB(h:F3 u t)(hu:cF u cz 0)(ht:cF t cz 0){q v:Int}(hv:Vf u.ae q v):Vf t.ae q v:=by
 obtain⟨d,e,h1,h2,h3,h4,h5⟩:=hv;have hd:=(eD hu.ja.jd).2 ⟨h1,rfl⟩;obtain⟨m,m1,m2,m3,m4⟩:=h.dir _ _ hd h2;refine⟨m,e,(bR m1).1,m2,?_,m4 e h4,h5⟩;rw[(bR m1).2,<-h.below hu ht q _ _ d hd h2 rfl];exact h3
def LN{f:Int->Nat}:∀(l k:List Int),l.Nodup->(∀x,x∈l->x∈k)->(l.map f).sum<=(k.map f).sum
 | [],_,_,_=>by simp
 |x::l,k,hn,hs=>by
  obtain⟨A,B,rfl⟩:=List.append_of_mem (hs x bj);obtain⟨h1,h2⟩:=lr.1 hn
  have ih:=LN (f:=f) l (A++B) h2 fun y hy=>by
   have:=hs y (aX _ hy);rcases bB.1 this with h|h
   ·exact ew _ h
   ·rcases bC.1 h with h|h
    ·subst h; exact absurd hy h1
    ·exact gu _ h
  simp only[aP,mJ,bu,List.sum_append] at ih ⊢;omega
def F3.used(h:F3 u t)(hu:cF u cz 0)(ht:cF t cz 0)(q:Int):(jm u.ae q).1<=(jm t.ae q).1/\(jm u.ae q).2<=(jm t.ae q).2:=by
 by_cases hq:∃d,find u.ae q=some d/\d.kind=2
 ·obtain⟨d,d1,d2⟩:=hq;obtain⟨m,m1,m2,_,_⟩:=h.dir _ _ d1 d2;obtain⟨K,k1,k2,k3,k4⟩:=zy hu d1 d2;obtain⟨L,l1,l2,l3,l4⟩:=zy ht m1 m2;rw[k4,l4];have hs:∀x,x∈K->x∈L:=fun x hx=>(l2 x).2 (h.inB hu ht ((k2 x).1 hx))
  have s1:=ze K L k1 hs;have s2:=LN (f:=Wd t.ae) K L k1 hs
  have s3:K.map (Wd u.ae)=K.map (Wd t.ae):=dx fun x hx=>by
   obtain⟨n,hn⟩:=ct.1 (k3 x hx);obtain⟨n',hn',_,hd⟩:=h.all _ _ hn;simp[Wd,aY,hn,hn',hd]
  unfold wP;rw[s3];simp only;omega
 ·obtain⟨h1,_,_⟩:=sj hu (q:=q) fun d hd hk=>hq ⟨d,hd,hk⟩
  rw[h1,zx ⟨cz,ht⟩];simp only;omega
def F3.over(h:F3 u t)(hu:cF u cz 0)(ht:cF t cz 0){q:cv}(ho:kP t q=false):kP u q=false:=by
 have:=h.used hu ht q.aq;simp only[kP,jY,bm,ba] at ho ⊢;omega
def Dm(t:Tree)(l:List cv)(m:AM Int):Prop:=∀k v,dA m k=some v->∃d e,d∈t.ae/\e∈d.aL/\e.aq=k/\jM t.ae l d.aq=v
def Gy(ht:cF t cz 0){l:List cv}(ho:OD t l){d:Node}(hd:d∈t.ae):∀(es:List fg)(m:AM Int),(∀e,e∈es->e∈d.aL)->Dm t l m->∃m',pO t.ae (jM t.ae l d.aq) es m=some m'/\Dm t l m'
 | [],m,_,hm=>⟨m,rfl,hm⟩
 |e::es,m,hs,hm=>by
  rw[pO];have he:=hs e bj;split
  ·rename_i hc;exfalso;simp only[bm,mj,ne_eq,eG] at hc;obtain⟨⟨c1,c2⟩,c3⟩:=hc;obtain⟨v,hv⟩:=ct.1 c2;obtain⟨d',e',a1,a2,a3,a4⟩:=hm _ _ hv;obtain⟨_,_,_,_,x,hx,_⟩:=ht.x9 _ _ e (ht.Jd hd he).1 he
   have hxk:x.kind=1:=by
    have:aY t.ae e.aq=x:=by simp[aY,hx]
    rw[this] at c1; exact c1
   have:=ho d' e' d e x a1 a2 hd he a3 (by rw[a3]; exact hx) hxk
   rw[hv] at c3;simp only[bn] at c3;rw[a4] at this;exact c3 this
  ·refine Gy ht ho hd es _ (fun x hx=>hs x (aX _ hx)) fun k v hk=>?_
   rw[gN] at hk;split at hk
   ·rename_i hke;injection hk with hk
    exact⟨d,e,hd,he,hke.symm,hk⟩
   ·exact hm k v hk
def zQ(ht:cF t cz 0){l:List cv}(ho:OD t l):∀(ns:List Node)(m:AM Int),(∀d,d∈ns->d∈t.ae)->Dm t l m->oU t.ae l ns m=true
 | [],_,_,_=>rfl
 |d::ns,m,hs,hm=>by
  rw[oU];split
  ·exact zQ ht ho ns m (fun x hx=>hs x (aX _ hx)) hm
  ·obtain⟨m',h1,h2⟩:=Gy ht ho (hs d bj) d.aL m (fun _ h=>h) hm
   rw[h1];exact zQ ht ho ns m' (fun x hx=>hs x (aX _ hx)) h2
def afg(ht:cF t cz 0){l:List cv}(ho:OD t l):oX t l=true :=
 zQ ht ho t.ae [] (fun _ h=>h) fun k v h=>by cases h
end
def KO(c h:Int)(f g:aa):Prop:=g.holds.find? (pf c h)=f.holds.find? (pf c h)/\∀y,y∈f.holds->y∈g.holds->rb f.s.now.ae y.aq->rb g.s.now.ae y.aq
theorem KO.refl(c h:Int)(f:aa):KO c h f f:=⟨rfl,fun _ _ _ h=>h⟩
def wi{l:List dZ}{y:dZ}(hy:y∈l):∀(r:List Int)(t:Tree),Rt t->rb t.ae y.aq->rb (nC l r t).ae y.aq
 | [],t,_,h=>h
 |i::r,t,ht,h=>by
  rw[nC];split
  ·rename_i hh;refine wi hy r _ (ht.free i) (Cs ht i h ?_);rintro rfl;have:nj l y.aq=true:=fZ.2 ⟨y,hy,by simp⟩
   rw[this] at hh; cases hh
  ·exact wi hy r t ht h
section
variable {t:Tree} {cz:Int->Nat}
def cF.step(h:cF t cz 0){i:Int}{d:Node}{e:fg}{s:Bytes}(hd:find t.ae i=some d)(he:fb d.aL s=some e):∃m,find t.ae e.aq=some m/\(m.kind=2->m.up=i/\e.aq≠1/\cz e.aq=cz i+1)/\fO m=false:=by
 obtain⟨e1,_⟩:=gY he;obtain⟨_,_,h1,_,m,hm,hu⟩:=h.x9 _ _ e hd e1;refine⟨m,hm,fun hk=>⟨hu hk,h1,?_⟩,?_⟩
 ·have:=(h.n9 _ _ hm hk h1).1;rw[hu hk] at this; exact this
 ·have hl:=h.dz _ _ hm;have:0<qk t.ae e.aq:=si.2 ⟨d,e,(bR hd).1,e1,rfl⟩;have h2:((m.dz==0)=false):=by simp; split at hl<;>omega
  simp[fO,h2]
end
section
variable {t:Tree} {cz:Int->Nat} {f:Int} {s:Bytes} {to:Int} {nm:Bytes} {dF dT m:Node} {e:fg}
def Dj.step(h:cF t cz 0)(k:Dj t cz f s to nm dF dT m e){i:Int}{d:Node}{c:Bytes}{e':fg}(hd:find t.ae i=some d)(hk:d.kind=2)(he:fb d.aL c=some e')(h1:¬(i=f/\c=s))(h2:¬(i=to/\c=nm)):∃d',find (pd t f s to nm e.aq (eZ dT.aL nm)).ae i=some d'/\d'.kind=2/\fb d'.aL c=some e':=by
 rw[Cc h k];obtain⟨b1,b2⟩:=k.bQ h
 by_cases i1:i=to
 ·subst i1;rw[k.hT] at hd; cases hd;refine⟨_,bh rfl,k.kT,?_⟩;have hc:c≠nm:=fun hh=>h2 ⟨rfl,hh⟩
  simp only;rw[Jq b1 (e:=⟨nm,e.aq,t.aj⟩) b2];simp only[hc,az];rw[pR hc];split
  ·rename_i hif;have hcs:c≠s:=fun hh=>h1 ⟨hif,hh⟩
   rw[pR hcs]; exact he
  ·exact he
 rw[aQ i1]
 by_cases i2:i=f
 ·subst i2;rw[k.hF] at hd; cases hd;have hcs:c≠s:=fun hh=>h1 ⟨rfl,hh⟩
  exact⟨_,bh rfl,k.kF,by simp only; rw[pR hcs]; exact he⟩
 rw[aQ i2]
 by_cases i3:i=e.aq
 ·subst i3;rw[k.hm] at hd; cases hd;exact⟨_,bh rfl,by simp[hk],by simp only[hk,aG]; exact he⟩
 rw[aQ i3]
 by_cases i4:i=eZ dT.aL nm
 ·exfalso;cases hfr:fb dT.aL nm with
  |none =>
   simp only[eZ,hfr] at i4;have:=(h.num _ _ hd).1; omega
  |some e2 =>
   simp only[eZ,hfr] at i4;obtain⟨_,y,y1,y2,_⟩:=k.YC e2 hfr;rw[i4,y1] at hd; cases hd;rw[y2] at he; cases he
 ·rw[aQ i4];exact⟨d,hd,hk,he⟩
end
section
attribute [local irreducible] eW fQ lh gK dW kr ar aM cq bI
def Yx(l:List fg)(s:Bytes)(a b:Int):l.map fH++[.agg [.str s,aE a,aE b]]=(l++[fg.mk s a b]).map fH:=by simp[fH,fa]
def sw(aq:Int):List Node->Nat->Int
 | [],_ => -1
 |n::r,i=>if n.aq=aq then i else sw aq r (i+1)
def ae5{t:Tree}{aq:Int}(ht:t.ae.length<=100000){k:List K}{R:Int->Option (ag×aH)}
  (hx:∀e,kr (ar bK) [.tmp 4] 0 k ⟨.exit 0,e,[bO (aI t)]⟩=R (-1)) (hr:∀(i:Nat),kr (ar bK) [.tmp 4] 0 k ⟨.ret,[(4,aE i)],[bO (aI t)]⟩=R i) :
  ∀(l pre:List Node),t.ae=pre++l->eW (ar bK) [.tmp 4] 0 k (.loop [1,2,5] aeK) [(1,aE aq),(2,bX 0),(5,aE pre.length)] [bO (aI t)]=R (sw aq l pre.length):=by
 intro l;induction l with
 |nil =>
  intro pre h;rw[bt];simp only[E34,aI,aN,gM h,EN,seval];exact hx _
 |cons n r ih =>
  intro pre h;rw[bt];have dR:pre.length+1<=100000:=by rw[h] at ht; simp at ht; omega
  have hw:=vu pre n;simp only[E34,aI,aN,fV h,fc h,aF,EN,seval];refine bq (fun hb=>?_) (fun hb=>?_)
  ·have hb:n.aq=aq:=by simpa using hb
   simp only[E34,EN,seval];rw[sw,bh hb];exact hr _
  ·have hb:¬n.aq=aq:=by simpa using hb
   simp only[E34,hw,EN,seval];rw[sw,aQ hb];have:=ih (pre++[n]) (by rw[h]; simp)
   simp only[aD,au,av] at this ⊢;exact this
def c34(t:Tree)(aq:Int)(ht:t.ae.length<=100000):ar bK 34 [bo t,aE aq] []=some (aE (sw aq t.ae 0),[]):=by
 refine aw ?_;simp only[ajR,E34,bo,EN,seval];exact ae5 (R:=fun z=>some (aE z,[])) ht (fun e=>by simp only[E34,EN,seval]) (fun i=>by simp only[E34,EN,seval]) t.ae [] rfl
def k34(ae:List Node)(next aj aq:Int)(h:ae.length<=100000)(M:aH):aM (ar bK) 34 [.agg [aN ae,aE next,aE aj],aE aq] M=some (aE (sw aq ae 0),M) :=
 cO (c34 ⟨ae,next,aj⟩ aq h) M
def zq(aq:Int):∀(l:List Node)(i:Nat),(find l aq=none/\sw aq l i = -1)\/∃m n,l[m]?=some n/\find l aq=some n/\sw aq l i=((i+m:Nat):Int)
 | [],_ => .inl ⟨rfl,rfl⟩
 |n::r,i=>by
  unfold find sw
  by_cases h:n.aq=aq
  ·exact .inr ⟨0,n,rfl,by simp[h],by simp[h]⟩
  ·rcases zq aq r (i+1) with ⟨h1,h2⟩|⟨m,n',h1,h2,h3⟩
   ·exact .inl ⟨by simp[h]; simpa[find] using h1,by simp[h,h2]⟩
   ·exact .inr ⟨m+1,n',by simpa using h1,by simp[h]; simpa[find] using h2,by simp[h,h3]; omega⟩
def c18(t:Tree)(aq:Int)(ht:t.ae.length<=100000):ar bK 18 [bo t,aE aq] []=some (.tuple [bD ((find t.ae aq).getD Node.zero),.bool (find t.ae aq).isSome],[]):=by
 refine aw ?_;simp only[ajE,E18,bo,aI,k34,ht,EN,seval];rcases zq aq t.ae 0 with ⟨h1,h2⟩|⟨m,n,h1,h2,h3⟩
 ·rw[h2];simp only[E18,h1,EN,seval];rfl
 ·rw[h3];simp only[E18,h1,h2,aN,aF,EN,seval];rfl
def Ae(ae:List Node)(next aj aq:Int)(h:ae.length<=100000)(M:aH):aM (ar bK) 18 [.agg [aN ae,aE next,aE aj],aE aq] M=some (.tuple [bD ((find ae aq).getD Node.zero),.bool (find ae aq).isSome],M) :=
 cO (c18 ⟨ae,next,aj⟩ aq h) M
def aoO(t:Tree)(aq:Int)(ht:t.ae.length<=100000):ar bK 179 [bo t,aE aq] []=some (.tuple [bD (gA t.ae aq).1,aE (gA t.ae aq).2],[]):=by
 refine aw ?_;simp only[aap,Vq,bo,aI,Ae,ht,bD,aF,EN,seval];unfold gA;cases hf:find t.ae aq with
 |none=>simp only[Vq,Option.isSome,EN,seval]; first|done|rfl
 |some n =>
  simp only[Vq,Option.isSome,bn,EN,seval]
  repeat' ((first|apply bq|apply bU|apply dE)<;>intro hb<;>simp only[hb,EN,Vq,seval])
  all_goals simp_all [Node.zero]
def WJ(ae:List Node)(next aj aq:Int)(h:ae.length<=100000)(M:aH):aM (ar bK) 179 [.agg [aN ae,aE next,aE aj],aE aq] M=some (.tuple [bD (gA ae aq).1,aE (gA ae aq).2],M) :=
 cO (aoO ⟨ae,next,aj⟩ aq h) M
def su(s:Bytes):List fg->Nat->Int
 | [],_ => -1
 |n::r,i=>if n.name=s then i else su s r (i+1)
def sv(s:Bytes):∀(l:List fg)(i:Nat),(fb l s=none/\su s l i = -1)\/∃m n,l[m]?=some n/\fb l s=some n/\su s l i=((i+m:Nat):Int)
 | [],_ => .inl ⟨rfl,rfl⟩
 |n::r,i=>by
  unfold fb su
  by_cases h:n.name=s
  ·exact .inr ⟨0,n,rfl,by simp[h],by simp[h]⟩
  ·rcases sv s r (i+1) with ⟨h1,h2⟩|⟨m,n',h1,h2,h3⟩
   ·exact .inl ⟨by simp[h]; simpa[fb] using h1,by simp[h,h2]⟩
   ·exact .inr ⟨m+1,n',by simpa using h1,by simp[h]; simpa[fb] using h2,by simp[h,h3]; omega⟩
def X1{t:Node}{s:Bytes}(ht:t.aL.length<=100000){k:List K}{R:Int->Option (ag×aH)}
  (hx:∀e,kr (ar bK) [.tmp 4] 0 k ⟨.exit 0,e,[bO (aF t)]⟩=R (-1)) (hr:∀(i:Nat),kr (ar bK) [.tmp 4] 0 k ⟨.ret,[(4,aE i)],[bO (aF t)]⟩=R i) :
  ∀(l pre:List fg),t.aL=pre++l->eW (ar bK) [.tmp 4] 0 k (.loop [1,2,5] Xk) [(1,.str s),(2,bX 0),(5,aE pre.length)] [bO (aF t)]=R (su s l pre.length):=by
 intro l;induction l with
 |nil =>
  intro pre h;rw[bt];simp only[Iq,aF,gS,gM h,EN,seval];exact hx _
 |cons n r ih =>
  intro pre h;rw[bt];have dR:pre.length+1<=100000:=by rw[h] at ht; simp at ht; omega
  have hw:=vu pre n;simp only[Iq,aF,gS,fV h,fc h,fa,EN,seval];refine bq (fun hb=>?_) (fun hb=>?_)
  ·have hb:n.name=s:=by simpa using hb
   simp only[Iq,EN,seval];rw[su,bh hb];exact hr _
  ·have hb:¬n.name=s:=by simpa using hb
   simp only[Iq,hw,EN,seval];rw[su,aQ hb];have:=ih (pre++[n]) (by rw[h]; simp)
   simp only[aD,au,av] at this ⊢;exact this
def aoP(t:Node)(s:Bytes)(ht:t.aL.length<=100000):ar bK 180 [bD t,.str s] []=some (aE (su s t.aL 0),[]):=by
 refine aw ?_;simp only[aaq,Iq,bD,EN,seval];exact X1 (R:=fun z=>some (aE z,[])) ht (fun e=>by simp only[Iq,EN,seval]) (fun i=>by simp only[Iq,EN,seval]) t.aL [] rfl
def adq(a b c:Int)(d:Bytes)(e:List fg)(u:Int)(s:Bytes)(h:e.length<=100000)(M:aH):aM (ar bK) 180 [.agg [aE a,aE b,aE c,cX d,gS e,aE u],.str s] M=some (aE (su s e 0),M) :=
 cO (aoP ⟨a,b,c,d,e,u⟩ s h) M
def afa{s:Bytes}(hs:s.length<=100000){k:List K}{R:Bool->Option (ag×aH)}
  (hx:∀e,kr (ar bK) [.tmp 2] 0 k ⟨.exit 0,e,[]⟩=R true) (hr:kr (ar bK) [.tmp 2] 0 k ⟨.ret,[(2,.bool false)],[]⟩=R false) :
  ∀(l pre:Bytes),s=pre++l->eW (ar bK) [.tmp 2] 0 k (.loop [0,3] ae2) [(0,.str s),(3,aE pre.length)] []=R (l.all rX):=by
 intro l;induction l with
 |nil =>
  intro pre h;rw[bt];simp only[Zo,gM h,EN,seval];exact hx _
 |cons n r ih =>
  intro pre h;rw[bt];have dR:pre.length+1<=100000:=by rw[h] at hs; simp at hs; omega
  have hw:=vu pre n;have hi:=ih (pre++[n]) (by rw[h]; simp)
  simp only[aD,au,av] at hi;simp only[Zo,fV h,fc h,EN,seval]
  repeat' ((first|apply bq|apply bU|apply dE)<;>intro hb<;>simp only[hb,EN,Zo,fc h,hw,seval])
  all_goals try simp only[Zo,EN,seval]
  all_goals first
   |(refine hr.trans ?_; congr 1; symm; simp_all [rX]; done)
   |(refine hi.trans ?_; congr 1; symm; simp_all [rX]; done)
def c97(s:Bytes)(hs:s.length<=100000):ar bK 97 [.str s] []=some (.bool (fD s),[]):=by
 refine aw ?_;simp only[aki,Zo,EN,seval];have hl:=fun k hx hr=>afa (k:=k) (R:=fun b=>some (ag.bool b,[])) hs hx hr s [] rfl
 repeat' ((first|apply bq|apply bU|apply dE)<;>intro hb<;>simp only[hb,EN,Zo,seval])
 all_goals first
  |(simp_all [fD]; done)
  |(refine(hl _ (fun e=>by simp only[Zo,EN,seval]) (by simp only[Zo,EN,seval])).trans ?_; simp_all [fD]; done)
def k97 s hs:=cP (c97 s hs)
def anQ(t:Tree)(aq:Int)(s:Bytes)(ht:Small t)(hs:s.length<=100000):ar bK 108 [bo t,aE aq,.str s] []=some (.tuple [aE (eE t.ae aq s).1,aE (eE t.ae aq s).2],[]):=by
 refine aw ?_;have hd:=sJ ht aq;simp only[ZU,Ik,bo,aI,WJ,ht.ae,bD,aF,EN,seval];unfold eE;refine bq (fun hb=>?_) (fun hb=>?_)
 ·simp only[Ik,EN,seval];simp_all
 ·simp only[Ik,k97,hs,EN,seval];refine bq (fun hb'=>?_) (fun hb'=>?_)
  ·simp only[Ik,EN,seval];simp_all
  ·simp only[Ik,adq,hd,EN,seval];rcases sv s (gA t.ae aq).1.aL 0 with ⟨h1,h2⟩|⟨m,n,h1,h2,h3⟩
   ·rw[h2];simp only[Ik,EN,seval];simp_all
   ·rw[h3];simp only[Ik,h1,gS,fa,EN,seval];simp_all
def WD(ae:List Node)(next aj aq:Int)(s:Bytes)(ht:Small ⟨ae,next,aj⟩)(hs:s.length<=100000)(M:aH):aM (ar bK) 108 [.agg [aN ae,aE next,aE aj],aE aq,.str s] M =
  some (.tuple [aE (eE ae aq s).1,aE (eE ae aq s).2],M):=cO (anQ ⟨ae,next,aj⟩ aq s ht hs) M
def XZ{t:Tree}{n:Node}(ht:t.ae.length<=100000){k:List K}{R:List Node->Bool->Option (ag×aH)}
  (hx:∀out done v e,out.length<=300000->kr (ar bK) [.dB 4 3] 0 k ⟨.exit 0,[(2,bX 0),(3,bX 1),(4,bX 2),(5,.slice (.own 3) (out.map bD)),(6,.bool done),(7,v),(12,e)],[bO (aI t),bO (aF n),.cells zT,.tick 6 out.length]⟩=R out done) :
  ∀(l pre out:List Node)(done:Bool),t.ae=pre++l->out.length+2*l.length<=300000->eW (ar bK) [.dB 4 3] 0 k (.loop [2,3,4,5,6,7] Xf) [(2,bX 0),(3,bX 1),(4,bX 2),(5,.slice (.own 3) (out.map bD)),(6,.bool done),(7,aE pre.length)] [bO (aI t),bO (aF n),.cells zT,.tick 6 out.length]=R (nq n l out done).1 (nq n l out done).2:=by
 intro l;induction l with
 |nil =>
  intro pre out done h ho;rw[bt];simp only[Im,aI,aN,gM h,EN,seval];exact hx _ _ _ _ (by simp at ho; omega)
 |cons m r ih =>
  intro pre out done h ho;rw[bt];have dR:pre.length+1<=100000:=by rw[h] at ht; simp at ht; omega
  have hw:=vu pre m;have hi:=fun out done ho=>ih (pre++[m]) out done (by rw[h]; simp) ho
  simp only[au] at ho;have r1:cu (out.length+1) 80=True:=qm;have r2:cu (out.length+1+1) 80=True:=qm;rw[nq];simp only[Im,aI,aN,fV h,fc h,aF,EN,seval]
  repeat' ((first|apply bq|apply bU|apply dE)<;>intro hb<;>simp only[hb,EN,Im,fc h,hw,r1,r2,aF,seval])
  all_goals try simp only[Im,fc h,hw,r1,r2,aF,EN,seval]
  all_goals first
   |(refine ik ?_ ((hi (out++[n]++[m]) true (by simp; omega)).trans ?_)
     ·simp only[bu,aP,bc,aD,au,av]; rfl
     ·clear hi ih hx hw h; simp_all; done)
   |(refine ik ?_ ((hi (out++[n]) true (by simp; omega)).trans ?_)
     ·simp only[bu,aP,bc,aD,au,av]; rfl
     ·clear hi ih hx hw h; simp_all; done)
   |(refine ik ?_ ((hi (out++[m]) done (by simp; omega)).trans ?_)
     ·simp only[bu,aP,bc,aD,au,av]; rfl
     ·clear hi ih hx hw h; simp_all; done)
   |(refine ik ?_ ((hi out done (by omega)).trans ?_)
     ·simp only[bu,aP,bc,aD,au,av]; rfl
     ·clear hi ih hx hw h; simp_all; done)
def aoK(t:Tree)(n:Node)(ht:t.ae.length<=100000):ar bK 175 [bo t,bD n] []=some (bo ⟨ef t.ae n,t.next,t.aj⟩,[]):=by
 refine aw ?_;simp only[PI,Im,bo,bD,EN,seval];refine XZ (R:=fun out done=>some (bo ⟨out++(if done then [] else [n]),t.next,t.aj⟩,[])) ht (fun out done v e ho=>?_) t.ae [] [] false rfl (by simp; omega)
 have r1:cu (out.length+1) 80=True:=qm;cases done
 ·simp only[Im,r1,bo,aI,zT,aF,EN,seval];simp[aN,bD,aF]
 ·simp only[Im,r1,bo,aI,zT,aF,EN,seval]
  try simp[aN]
def Fk(ae:List Node)(next aj a b c:Int)(d:Bytes)(e:List fg)(u:Int)(h:ae.length<=100000)(M:aH):aM (ar bK) 175 [.agg [aN ae,aE next,aE aj],.agg [aE a,aE b,aE c,cX d,gS e,aE u]] M =
  some (.agg [aN (ef ae ⟨a,b,c,d,e,u⟩),aE next,aE aj],M):=cO (aoK ⟨ae,next,aj⟩ ⟨a,b,c,d,e,u⟩ h) M
def Yd{t:Tree}{aq:Int}(ht:t.ae.length<=100000){k:List K}{R:List Node->Option (ag×aH)}
  (hx:∀out v e,out.length<=300000->kr (ar bK) [.dB 4 3] 0 k ⟨.exit 0,[(1,aE aq),(2,bX 0),(4,bX 1),(5,.slice (.own 2) (out.map bD)),(6,v),(11,e)],[bO (aI t),.cells zT,.tick 6 out.length]⟩=R out) :
  ∀(l pre out:List Node),t.ae=pre++l->out.length+l.length<=150000->eW (ar bK) [.dB 4 3] 0 k (.loop [1,2,4,5,6] XB) [(1,aE aq),(2,bX 0),(4,bX 1),(5,.slice (.own 2) (out.map bD)),(6,aE pre.length)] [bO (aI t),.cells zT,.tick 6 out.length]=R (out++fz l aq):=by
 intro l;induction l with
 |nil =>
  intro pre out h ho;rw[bt];simp only[On,aI,aN,gM h,EN,seval];refine(hx _ _ _ (by simp at ho; omega)).trans (by simp[fz])
 |cons m r ih =>
  intro pre out h ho;rw[bt];have dR:pre.length+1<=100000:=by rw[h] at ht; simp at ht; omega
  have hw:=vu pre m;have hi:=fun out ho=>ih (pre++[m]) out (by rw[h]; simp) ho
  simp only[au] at ho;have r1:cu (out.length+1) 80=True:=qm;simp only[On,aI,aN,fV h,fc h,aF,EN,seval]
  repeat' ((first|apply bq|apply bU|apply dE)<;>intro hb<;>simp only[hb,EN,On,fc h,hw,r1,aF,seval])
  all_goals first
   |(refine ik ?_ ((hi (out++[m]) (by simp; omega)).trans ?_)
     ·simp only[bu,aP,bc,aD,au,av]; rfl
     ·clear hi ih hx hw h; simp_all[fz]; done)
   |(refine ik ?_ ((hi out (by omega)).trans ?_)
     ·simp only[bu,aP,bc,aD,au,av]; rfl
     ·clear hi ih hx hw h; simp_all[fz]; done)
def apB(t:Tree)(aq:Int)(ht:t.ae.length<=100000):ar bK 250 [bo t,aE aq] []=some (bo ⟨fz t.ae aq,t.next,t.aj⟩,[]):=by
 refine aw ?_;simp only[PS,On,bo,EN,seval];refine(Yd (R:=fun out=>some (bo ⟨out,t.next,t.aj⟩,[])) ht (fun out v e ho=>?_) t.ae [] [] rfl (by simp; omega)).trans (by simp[bo])
 simp only[On,bo,aI,zT,EN,seval]
 try simp[aN]
def ak6(ae:List Node)(next aj aq:Int)(h:ae.length<=100000)(M:aH):aM (ar bK) 250 [.agg [aN ae,aE next,aE aj],aE aq] M =
  some (.agg [aN (fz ae aq),aE next,aE aj],M):=cO (apB ⟨ae,next,aj⟩ aq h) M
def X0{T:List ag}{n:Node}{s:Bytes}(hn:n.aL.length<=100000){k:List K}{R:List fg->Option (ag×aH)}
  (hx:∀out v e,out.length<=300000->kr (ar bK) [.dB 6 3] 0 k ⟨.exit 0,[(2,.str s),(3,bX 0),(6,bX 1),(7,bX 2),(9,.slice (.own 3) (out.map fH)),(10,v),(21,e)],[.cells T,.cells zT,bO (aF n),.tick 3 out.length]⟩=R out)
  (hT:∀B M,T.map (ag.kC B M)=T) :
  ∀(l pre out:List fg),n.aL=pre++l->out.length+l.length<=150000->eW (ar bK) [.dB 6 3] 0 k (.loop [2,3,6,7,9,10] Xj) [(2,.str s),(3,bX 0),(6,bX 1),(7,bX 2),(9,.slice (.own 3) (out.map fH)),(10,aE pre.length)] [.cells T,.cells zT,bO (aF n),.tick 3 out.length]=R (out++fU l s):=by
 intro l;induction l with
 |nil =>
  intro pre out h ho;rw[bt];simp only[Ip,aF,gS,gM h,EN,seval];refine(hx _ _ _ (by simp at ho; omega)).trans (by simp[fU])
 |cons m r ih =>
  intro pre out h ho;rw[bt];have dR:pre.length+1<=100000:=by rw[h] at hn; simp at hn; omega
  have hw:=vu pre m;have hi:=fun out ho=>ih (pre++[m]) out (by rw[h]; simp) ho
  simp only[au] at ho;have r1:cu (out.length+1) 32=True:=qm;simp only[Ip,aF,gS,fV h,fc h,fa,hT,zT,EN,seval]
  repeat' ((first|apply bq|apply bU|apply dE)<;>intro hb<;>simp only[hb,EN,Ip,fc h,hw,r1,fa,hT,zT,seval])
  all_goals first
   |(refine ik ?_ ((hi (out++[m]) (by simp; omega)).trans ?_)
     ·simp only[bu,aP,bc,aD,au,av]; rfl
     ·clear hi ih hx hw h hT; simp_all[fU]; done)
   |(refine ik ?_ ((hi out (by omega)).trans ?_)
     ·simp only[bu,aP,bc,aD,au,av]; rfl
     ·clear hi ih hx hw h hT; simp_all[fU]; done)
def DK{t:Tree}(hs:Small t)(aq:Int):((find t.ae aq).getD Node.zero).aL.length<=100000:=by
 cases h:find t.ae aq with
 |none=>simp[Node.zero]
 |some n=>exact hs.aL n (bR h).1
def aoN(t:Tree)(aq:Int)(s:Bytes)(ht:Small t):ar bK 178 [bo t,aE aq,.str s] []=some (bo ⟨cV t.ae aq s,t.next,t.aj⟩,[]):=by
 refine aw ?_;have hd:=DK ht aq;unfold cV;simp only[PJ,Ip,bo,aI,Ae,ht.ae,bD,EN,seval];generalize (find t.ae aq).getD Node.zero=n at hd ⊢;simp only[Ip,aF,EN,seval];refine(X0 (R:=fun out=>some (bo ⟨ef t.ae { n with aL:=out },t.next,t.aj⟩,[])) hd (fun out v e ho=>?_) (fun B M=>by simp only[Ip,EN,seval]) n.aL [] [] rfl (by simp; omega)).trans (by simp[bo,aI])
 simp only[Ip,zT,aF,Fk,ht.ae,EN,seval];simp[bo,aI]
def Ph{X:Option (ag×aH)}{v:ag×aH}(h:∃r,r=v/\X=some r):X=some v:=by
 obtain⟨_,rfl,h⟩:=h;exact h
def aoG(a b:List fg)(ha:a.length<=100000):ar bK 171 [gS a,gS b] []=some (.bool (decide (a=b)),[]):=by
 refine aw ?_;cases h0:(a.length:Int) != (b.length:Int)
 ·have hl:a.length=b.length:=by simp at h0; omega
  simp only[PG,Oj,h0,EW,seval];refine Ph (iu (xs:=a) (by omega) (fun m (_:Unit)=>a.take m=b.take m) (fun _ i=>[(0,gS a),(1,gS b),(5,aE i)]) (fun _=>[]) (fun r=>r=(.bool (decide (a=b)),[])) (fun _ hI=>?_) (fun pre x post _ e hx cn hw h0 hm hI hi=>?_) () rfl)
  ·refine⟨_,rfl,?_⟩;rw[gR (H0 hl hI)];simp only[Oj,bp,EW,seval]
  ·have hp:=(ak.1 hx).1;obtain⟨y,hy⟩:∃y,b[pre.length]?=some y:=⟨_,ai (by omega)⟩
   cases h1:decide (x=y)
   ·have hd:decide (a=b)=false:=bG fun e=>of_decide_eq_false h1 (by rw[e,hy] at hx; injection hx with hx; exact hx.symm)
    refine⟨_,rfl,?_⟩;rw[hd];simp only[Oj,cn,hx,hy,h0,h1,fH,Pa,OE,EW,seval]
   ·have i1:=hi () (EC hI hx (by rw[hy,iB h1]))
    simp only[Oj,cn,hx,hy,hw,h0,h1,fH,Pa,OE,EW,seval];exact i1
 ·have hd:decide (a=b)=false:=bG fun e=>by rw[e] at h0; simp at h0
  rw[hd];simp only[PG,Oj,h0,EW,seval]
def aqE a b ha:=cP (aoG a b ha)
def c96(x y:Node)(hx:x.aL.length<=100000):ar bK 96 [.agg (aF x),.agg (aF y)] []=some (.bool (decide (x=y)),[]):=by
 rw[abo];have hk:=fun M=>aqE x.aL y.aL hx M
 refine aw ?_;simp only[akh,E96,bD,aF,EN,seval]
 repeat' ((first|apply bq|apply bU|apply dE)<;>intro hb<;>simp only[hb,EN,E96,hk,uw,seval])
 all_goals clear hk
 all_goals simp_all [bne]
def k96 x y hx:=cP (c96 x y hx)
def aoF(a b:List Node)(ha:a.length<=100000)(he:∀n,n∈a->n.aL.length<=100000):ar bK 170 [aN a,aN b] []=some (.bool (decide (a=b)),[]):=by
 refine aw ?_;cases h0:(a.length:Int) != (b.length:Int)
 ·have hl:a.length=b.length:=by simp at h0; omega
  simp only[PF,Oi,h0,EW,seval];refine Ph (iu (xs:=a) (by omega) (fun m (_:Unit)=>a.take m=b.take m) (fun _ i=>[(0,aN a),(1,aN b),(5,aE i)]) (fun _=>[]) (fun r=>r=(.bool (decide (a=b)),[])) (fun _ hI=>?_) (fun pre x post _ e hx cn hw h0 hm hI hi=>?_) () rfl)
  ·refine⟨_,rfl,?_⟩;rw[gR (H0 hl hI)];simp only[Oi,bp,EW,seval]
  ·have hp:=(ak.1 hx).1;obtain⟨y,hy⟩:∃y,b[pre.length]?=some y:=⟨_,ai (by omega)⟩
   have q:=fun M=>k96 x y (he x hm) M
   simp only[aF] at q;cases h1:decide (x=y)<;>rw[h1] at q
   ·have hd:decide (a=b)=false:=bG fun e=>of_decide_eq_false h1 (by rw[e,hy] at hx; injection hx with hx; exact hx.symm)
    refine⟨_,rfl,?_⟩;rw[hd];simp only[Oi,cn,hx,hy,h0,q,bD,aF,EW,seval]
   ·have i1:=hi () (EC hI hx (by rw[hy,iB h1]))
    simp only[Oi,cn,hx,hy,hw,h0,q,bD,aF,EW,seval];exact i1
 ·have hd:decide (a=b)=false:=bG fun e=>by rw[e] at h0; simp at h0
  rw[hd];simp only[PF,Oi,h0,EW,seval]
def aqD a b ha he:=cP (aoF a b ha he)
def c95(a b:Tree)(ha:a.ae.length<=100000)(he:∀n,n∈a.ae->n.aL.length<=100000):ar bK 95 [bo a,bo b] []=some (.bool (decide (a=b)),[]):=by
 have hd:decide (a=b)=(a.next==b.next&&(a.aj==b.aj&&decide (a.ae=b.ae))):=by
  obtain⟨a1,a2,a3⟩:=a;obtain⟨b1,b2,b3⟩:=b;rw[eJ]; simp; constructor
  ·rintro⟨h1,h2,h3⟩; exact⟨h2,h3,h1⟩
  ·rintro⟨h1,h2,h3⟩; exact⟨h3,h1,h2⟩
 rw[hd];have q:=fun M=>aqD a.ae b.ae ha he M
 refine aw ?_
 cases h1:a.next==b.next<;>cases h2:a.aj==b.aj <;>
  simp only[akg,E95,h1,h2,q,bo,aI,dD,dy,dP,EW,seval]
def k95(a b:Tree)(ha:a.ae.length<=100000)(he:∀n,n∈a.ae->n.aL.length<=100000)(M:aH):aM (ar bK) 95 [.agg [aN a.ae,aE a.next,aE a.aj],.agg [aN b.ae,aE b.next,aE b.aj]] M=some (.bool (decide (a=b)),M):=cO (c95 a b ha he) M
end
def yV{l:List Node}(h:lL l){i j:Nat}{n m:Node}(hi:l[i]?=some n)(hj:l[j]?=some m)(e:n.aq=m.aq):i=j:=by
 obtain⟨i1,i2⟩:=ak.1 hi;obtain⟨j1,j2⟩:=ak.1 hj;have hp:=bV.1 h;rcases gW i j with cn|rfl|cn
 ·have:=hp i j i1 j1 cn; rw[i2,j2] at this; omega
 ·rfl
 ·have:=hp j i j1 i1 cn; rw[i2,j2] at this; omega
def wJ{s:ga}(hs:lL s.now.ae)(hl:s.since.length=s.now.ae.length)(T:Int)(n:Node):(∃(j:Nat),s.now.ae[j]?=some n/\s.since[j]?=some (pY s T n))\/(find s.now.ae n.aq≠some n/\pY s T n=T):=by
 unfold pY;rcases vg hs n.aq with ⟨_,h2,h3,h4⟩|⟨_,h2,h3⟩
 ·by_cases e:n=aY s.now.ae n.aq
  ·left;have hj:=(ak.1 h3).1;refine⟨_,by rw[h3,<-e],?_⟩
   rw[bh (by rw[h2]; simp[<-e])]
   rw[ko,ai (by omega)]; rfl
  ·right;rw[aQ (by simp[e]),h4]
   exact⟨fun hh=>e (by injection hh with hh; exact hh.symm),rfl⟩
 ·right;rw[h3,aQ (by rw[h2]; simp)]
  simp
def A5{t:Tree}{tk:List j5}{c:Int}:∀(l:List Node)(y:List Int)(n:Node)(x:Int),l.length=y.length->iZ t tk c (l++[n]) (y++[x])=iZ t tk c l y++iZ t tk c [n] [x]
 | [],[],n,x,_=>by simp[iZ]
 |a::l,b::y,n,x,h=>by simp only[aU,iZ,A5 l y n x (by simpa using h),fm]
def zD(P:Int->Prop)(s u:ga):Prop:=u=s\/(∃t,Rt t/\u=mu s t)\/(∃i,u=(takeN s i).1)\/∃d,P d/\u=(nN s d).1
def YT(s:ga)(t:Tree)(c:Int):List mP:=s.dw++iZ t s.cp c s.now.ae s.since
section
attribute [local irreducible] eW fQ lh gK dW kr ar aM cq bI
def an0(l:List j5)(a b:Int)(hn:l.length<=100000):ar bK 120 [kc l,aE a,aE b] []=some (.bool (uU l a b),[]):=by
 refine aw ?_;simp only[ZW,abP,EW,seval];refine lM (xs:=l) (by omega) (fun post (_:Unit)=>post.any (tx a b)) (fun _ i=>[(0,kc l),(1,aE a),(2,aE b),(7,aE i)]) (fun _=>[]) (fun z=>some (ag.bool z,([]:aH))) (fun _=>?_) (fun pre x post _ e hx cn hw h0 hm hi=>?_) ()
 ·simp only[abP,bp,List.any_nil,EW,seval]
 ·have i1:=hi ();rw[kY,tx]
  cases h1:decide (a<=x.at')<;>cases h2:decide (x.at'<b) <;>
   simp only[abP,cn,hx,hw,h0,h1,h2,jN,gv,dP,dD,dy,dH,cY,EW,seval]<;>exact i1
def akE l a b hn:=cP (an0 l a b hn)
abbrev HX(s:ga)(t:Tree):aH:=[.cells (bl s),.cells [aN t.ae,.int .i64 t.next,.int .i64 t.aj],.cells [.slice .c0 [],.int .i64 0,.int .i64 0,.int .i64 0,.slice .c0 [],.slice .c0 [],.slice .c0 [],.int .i64 0]]
abbrev HW(c:Int):Env:=[(2,.ptr 0 0),(3,.ptr 1 0),(4,.ptr 2 0),(5,.int .i64 c)]
section
variable {s:ga} {t:Tree} {Q:ag×aH->Prop} {c:Int}
def Yp(hs:Rt s.now)(ht:Rt t)(hl:s.since.length=s.now.ae.length)(hk:s.cp.length<=16)(hp:s.dw.length<=90000){k:List K}
  (hx:∀z,∃r,Q r/\kr (ar bK) [.dB 4 8] 0 k ⟨.exit 0,HW c++(6,.slice (.own 3) ((YT s t c).map iC))::z,HX s t++[.tick 8 (YT s t c).length]⟩=some r) :
  ∃r,Q r/\eW (ar bK) [.dB 4 8] 0 k (.loop [2,3,4,5,6,7] aeU) (HW c++[(6,.slice (.own 3) (s.dw.map iC)),(7,aE 0)]) (HX s t++[.tick 8 s.dw.length])=some r:=by
 have h200:=hs.sz.ae;refine iu (xs:=s.now.ae) (by omega) (fun m (P:List mP)=>P.length<=s.dw.length+m/\P=s.dw++iZ t s.cp c (s.now.ae.take m) (s.since.take m)) (fun P i=>HW c++[(6,.slice (.own 3) (P.map iC)),(7,aE i)]) (fun P=>HX s t++[.tick 8 P.length]) Q (fun P hP=>?_) (fun pre x post P e hx' cn hw h0 hm hP hi=>?_) s.dw ⟨aC _,by simp[iZ]⟩
 ·have hP:=hP.2;rw[cg,<-hl,cg] at hP;have hP:YT s t c=P:=hP.symm;simp only[hP,HX,HW,bl,aU,aW] at hx ⊢;simp only[N3,bp,EW,seval];exact hx _
 ·have hlx:=(ak.1 hx').1;obtain⟨y,hy⟩:∃y,s.since[pre.length]?=some y:=⟨_,ai (by omega)⟩
  have qg:=fun M=>Ae t.ae t.next t.aj x.aq (by have:=ht.sz.ae; omega) M
  have hc:iZ t s.cp c [x] [y]=if (!(find t.ae x.aq).isSome || !decide (x=(find t.ae x.aq).getD Node.zero))&&uU s.cp y c then [⟨y,c,x⟩] else []:=by
   rw[iZ,iZ,cW]
   ·rcases vg ht.ja.jd x.aq with ⟨_,h2,_,h4⟩|⟨_,h2,h4⟩
    ·have e1:decide (N4 t.ae x.aq<0)=false:=by rw[h2]; simp
     rw[e1,h4]; rfl
    ·rw[h2,h4]; simp
   ·rintro _ _ _ _ ⟨⟩
  have hi:=hi (P++iZ t s.cp c [x] [y]) ⟨by
   have:=(Ak t s.cp c [x] [y]).1;simp only[aD,au,av] at this ⊢; omega,by
   rw[cB,cB,hx',hy];simp only[lI];rw[A5 _ _ _ _ (by simp; omega),<-fm,<-hP.2]⟩
  rw[hc] at hi;generalize (find t.ae x.aq).getD Node.zero=n at qg hi;generalize (find t.ae x.aq).isSome=b at qg hi;have qs:=fun M=>k96 x n (by have:=(hs.Vj hm).1; omega) M
  have qw:=fun M=>akE s.cp y c (by omega) M
  generalize decide (x=n)=d at qs hi;generalize uU s.cp y c=w at qw hi;have r1:cu (P.length+1) 96=True:=qm;simp only[HX,HW,bl,aU,aW,aF] at hi qs ⊢;cases b<;>cases d<;>cases w<;>simp only[di,ft,ei,fu,gJ,dP,dD,dy,af,aG,az,cW,bu,aP,bc,aD,au,av,aK,iC,fL,aF] at hi<;>simp only[N3,cn,hx',hy,hw,h0,qg,qs,qw,r1,bD,aF,kv,EW,seval]<;>exact hi
def Yq(hs:Rt s.now)(hl:s.since.length=s.now.ae.length){P:List mP}{S:List Int}{i:Nat}{n:Node}(hn:t.ae[i]?=some n){k:List K}
  (hx:∀z,∃r,Q r/\kr (ar bK) [.dB 4 8] 0 k ⟨.exit 4,HW c++(6,.slice (.own 3) (P.map iC))::(11,.slice (.own 4) (S.map kv))::(12,aE i)::(13,aE (pY s c n))::z,HX s t++[.tick 8 P.length,.tick 1 S.length]⟩=some r) :
  ∃r,Q r/\eW (ar bK) [.dB 4 8] 0 k (.loop [2,3,4,5,6,11,12,13,14] aeV) (HW c++[(6,.slice (.own 3) (P.map iC)),(11,.slice (.own 4) (S.map kv)),(12,aE i),(13,aE c),(14,aE 0)]) (HX s t++[.tick 8 P.length,.tick 1 S.length])=some r:=by
 have h200:=hs.sz.ae;have b1:((i:Int)<0)=False:=by simp
 refine iu (xs:=s.now.ae) (by omega) (fun m (x:Int)=>(x=c/\∀(j:Nat),j<m->s.now.ae[j]?≠some n)\/∃j:Nat,j<m/\s.now.ae[j]?=some n/\s.since[j]?=some x) (fun(x:Int) j=>HW c++[(6,.slice (.own 3) (P.map iC)),(11,.slice (.own 4) (S.map kv)),(12,aE i),(13,aE x),(14,aE j)]) (fun _=>HX s t++[.tick 8 P.length,.tick 1 S.length]) Q (fun x hI=>?_) (fun pre m post x e hx' cn hw h0 hm hI hi=>?_) c (.inl ⟨rfl,fun j hj=>by omega⟩)
 ·have he:x=pY s c n:=by
   rcases wJ hs.ja.jd hl c n with ⟨j,j1,j2⟩|⟨j1,j2⟩<;>rcases hI with ⟨h1,h2⟩|⟨i,h1,h2,h3⟩
   ·exact absurd j1 (h2 j (ak.1 j1).1)
   ·have:=yV hs.ja.jd j1 h2 rfl;subst this;rw[j2] at h3; injection h3 with h3; exact h3.symm
   ·rw[h1,j2]
   ·exact absurd ((eD hs.ja.jd).2 ⟨aO h2,rfl⟩) j1
  subst he;simp only[HX,HW,bl,aU,aW] at hx ⊢;simp only[N3,bp,EW,seval];exact hx _
 ·have hlx:=(ak.1 hx').1;obtain⟨y,hy⟩:∃y,s.since[pre.length]?=some y:=⟨_,ai (by omega)⟩
  have qs:=fun M=>k96 m n (by have:=(hs.Vj hm).1; omega) M
  have i1:m≠n->_:=fun hne=>hi x (by
   rcases hI with ⟨h1,h2⟩|⟨j,h1,h2⟩
   ·refine .inl ⟨h1,fun j hj=>?_⟩
    by_cases e:j=pre.length
    ·rw[e,hx']; exact fun hh=>hne (by injection hh)
    ·exact h2 j (by omega)
   ·exact .inr ⟨j,by omega,h2⟩)
  have i2:m=n->_:=fun he=>hi y (.inr ⟨pre.length,by omega,by rw[hx',he],hy⟩)
  simp only[HX,HW,bl,aU,aW,aF] at i1 i2 qs ⊢
  by_cases hd:m=n
  ·rw[gR hd] at qs;simp only[N3,cn,hx',hy,hn,b1,hw,h0,qs,bD,aF,kv,EW,seval];exact i2 hd
  ·rw[bG hd] at qs;simp only[N3,cn,hx',hy,hn,b1,hw,h0,qs,bD,aF,kv,EW,seval];exact i1 hd
def Yr(hs:Rt s.now)(ht:Rt t)(hl:s.since.length=s.now.ae.length){P:List mP}{k:List K}
  (hx:∀z,∃r,Q r/\kr (ar bK) [.dB 4 8] 0 k ⟨.exit 2,HW c++(6,.slice (.own 3) (P.map iC))::(11,.slice (.own 4) ((t.ae.map (pY s c)).map kv))::z,HX s t++[.tick 8 P.length,.tick 1 (t.ae.map (pY s c)).length]⟩=some r) :
  ∃r,Q r/\eW (ar bK) [.dB 4 8] 0 k (.loop [2,3,4,5,6,11,12] aeW) (HW c++[(6,.slice (.own 3) (P.map iC)),(11,.slice (.own 4) []),(12,aE 0)]) (HX s t++[.tick 8 P.length,.tick 1 0])=some r:=by
 have h200:=ht.sz.ae;refine iu (xs:=t.ae) (by omega) (fun m (S:List Int)=>S=(t.ae.take m).map (pY s c)) (fun S i=>HW c++[(6,.slice (.own 3) (P.map iC)),(11,.slice (.own 4) (S.map kv)),(12,aE i)]) (fun S=>HX s t++[.tick 8 P.length,.tick 1 S.length]) Q (fun S hS=>?_) (fun pre n post S e hx' cn hw h0 hm hS hi=>?_) [] rfl
 ·rw[cg] at hS;simp only[<-hS,HX,HW,bl,aU,aW] at hx ⊢;simp only[N3,bp,EW,seval];exact hx _
 ·have hlx:=(ak.1 hx').1;have hSl:S.length=pre.length:=by rw[hS]; simp; omega
  have lb:=fun {k} h2=>Yq (s:=s) (t:=t) (Q:=Q) (c:=c) hs hl (P:=P) (S:=S) hx' (k:=k) h2
  have r1:cu (S.length+1) 8=True:=qm;have i1:=hi (S++[pY s c n]) (by rw[cB,hx',hS]; simp)
  simp only[HX,HW,bl,aU,aW,bu,aP,bc,aD,au,av,aK,kv] at lb i1 ⊢;simp only[N3,cn,EW,seval];refine lb (fun z=>?_)
  simp only[N3,hw,r1,rS,kv,EW,seval];exact i1
end
def c56(s:ga)(t:Tree)(hs:Rt s.now)(ht:Rt t)(hl:s.since.length=s.now.ae.length)(hk:s.cp.length<=16)(hp:s.dw.length<=90000):ar bK 56 [.agg (bl s),bo t] []=some (.agg (bl (mu s t)),[]):=by
 have key:∃r:ag×aH,r=(.agg (bl (mu s t)),[])/\eW (ar bK) MH.results 0 [] MH.body (fq 0 [.agg (bl s),bo t]) []=some r:=by
  have h200:=hs.sz.ae;have qs:=fun M=>k95 s.now t (by omega) (fun n hn=>by have:=(hs.Vj hn).1; omega) M
  unfold mu;cases hd:decide (s.now=t)<;>rw[hd] at qs
  ·have la:=fun {k Q} hx=>Yp (s:=s) (t:=t) (Q:=Q) (c:=IntKind.i64.wrap (s.tick+1)) hs ht hl hk hp (k:=k) hx
   have r1:cu s.dw.length 96=True:=qm;simp only[HX,HW,bl,aU,aW] at la;simp only[MH,N3,bl,bo,aI,qs,r1,EW,seval];refine la (fun z=>?_)
   have lc:=fun {k Q} hx=>Yr (s:=s) (t:=t) (Q:=Q) (c:=IntKind.i64.wrap (s.tick+1)) hs ht hl (P:=YT s t (IntKind.i64.wrap (s.tick+1))) (k:=k) hx
   simp only[HX,HW,bl,aU,aW] at lc;simp only[N3,EW,seval];refine lc (fun z=>?_)
   simp only[N3,af,az,EW,seval];exact⟨_,rfl,rfl⟩
  ·simp only[MH,N3,bl,bo,aI,qs,aG,EW,seval];exact⟨_,rfl,rfl⟩
 obtain⟨_,rfl,h3⟩:=key;exact aw h3
def anV(s:ga)(aq:Int)(hs:s.now.ae.length<=100000)(hk:s.cp.length<=16):∃i e,ar bK 114 [.agg (bl s),aE aq] []=some (.tuple [.agg (bl (takeN s aq).1),aE i,aE e],[]):=by
 have qg:=fun M=>Ae s.now.ae s.now.next s.now.aj aq hs M
 unfold takeN aY;generalize (find s.now.ae aq).getD Node.zero=n at qg;cases h1:(find s.now.ae aq).isSome<;>rw[h1] at qg
 ·refine⟨0,70,aw ?_⟩;simp only[Ce,Od,bl,bD,aF,qg,ft,aG,EW,seval]
 cases h2:n.kind != 2
 case true =>
  refine⟨0,73,aw ?_⟩;simp only[Ce,Od,bl,bD,aF,qg,h2,di,af,aG,az,EW,seval]
 simp only[o4];cases h3:decide (16<=(s.cp.length:Int))
 case true =>
  refine⟨0,76,aw ?_⟩;simp only[Ce,Od,bl,bD,aF,qg,h2,h3,di,dH,af,aG,az,EW,seval]
 cases h4:decide (1099511627776<=s.next)
 case true =>
  refine⟨0,76,aw ?_⟩;simp only[Ce,Od,bl,bD,aF,qg,h2,h3,h4,di,ei,af,aG,az,EW,seval]
 have h16:s.cp.length<16:=by simp at h3; omega
 have r1:cu s.cp.length 24=True:=qm;have r2:cu (s.cp.length+1) 24=True:=qm;refine⟨s.next,0,aw ?_⟩
 simp only[Ce,Od,bl,bD,aF,qg,h2,h3,h4,r1,r2,bu,jN,di,eR,af,az,EW,seval];rw[show kc (s.cp++[⟨s.next,aq,s.tick⟩]) = gH (s.cp.map jN++[.agg [aE s.next,aE aq,aE s.tick]]) by simp[jN,gv]]
end
end Go.Proofs.YtahkjijkflobhaaGreatDoor
namespace Go.Abs
open Go
def KC{C:eB}{fn:List sb}{bQ:Nat}{k:List K}{live:List Nat}{body:cA}{α σ ρ:Type}{xs:List α}(hn:xs.length<=1000000)(I:Nat->σ->Prop)(go:List α->σ->ρ)(E:σ->Int->Env)(M:σ->aH)(R:ρ->Option (ag×aH))
  (hend:∀s,I xs.length s->eW C fn bQ (.loop live (M s).length body::k) body (lF (E s xs.length) live) (M s)=R (go [] s))
  (hstep:∀(pre:List α)(x:α)(post:List α)(s:σ),xs=pre++x::post->xs[pre.length]?=some x->((pre.length:Int)<xs.length)=True->IntKind.i64.wrap ((pre.length:Int)+1)=(pre.length:Int)+1->((pre.length:Int)<0)=False->x∈xs->I pre.length s ->
   (∀s',I (pre.length+1) s'->eW C fn bQ k (.loop live body) (E s' ((pre.length:Int)+1)) (M s')=R (go post s'))->eW C fn bQ (.loop live (M s).length body::k) body (lF (E s pre.length) live) (M s)=R (go (x::post) s)) :
  ∀s,I 0 s->eW C fn bQ k (.loop live body) (E s 0) (M s)=R (go xs s):=by
 have key:∀(l pre:List α)(s:σ),xs=pre++l->I pre.length s->eW C fn bQ k (.loop live body) (E s pre.length) (M s)=R (go l s):=by
  intro l;induction l with
  |nil =>
   intro pre s h hI;have e:pre.length=xs.length:=by rw[h]; simp
   rw[bt,e];exact hend s (by rw[<-e]; exact hI)
  |cons x r ih =>
   intro pre s h hI;rw[bt];have hl:pre.length+1<=1000000:=by rw[h] at hn; simp at hn; omega
   refine hstep pre x r s h (by rw[h]; simp) (by rw[h]; simp; omega) (fW (by omega) (by omega)) (by simp) (by rw[h]; simp) hI fun s' hI'=>?_
   have:=ih (pre++[x]) s' (by rw[h]; simp) (by simpa using hI')
   simpa using this
 intro s hI;exact key xs [] s rfl hI
end Go.Abs
namespace Go.Proofs.YtahkjijkflobhaaGreatDoor
open Go Go.Abs
def FL:Bytes->Bytes->List Bytes->Option (List Bytes)
 | [],cur,out=>if !fD cur||(out.length:Int)==12 then none else some (out++[cur])
 |b::r,cur,out=>if (b.toNat:Int) != 47 then FL r (cur++[b]) out else if !fD cur||(out.length:Int)==12 then none else FL r [] (out++[cur])
def mo(s:Bytes):List Bytes×Int:=if s==[47] then ([],0) else match s with
 | []=>([],60)
 |b::r=>if (b.toNat:Int) != 47 then ([],60) else match FL r [] [] with
  |none=>([],60)
  |some l=>(l,0)
section
attribute [local irreducible] eW fQ lh gK dW kr ar aM cq bI
def ae6{s:Bytes}(hs:s.length<=100000){k:List K}{R:Option (List Bytes)->Option (ag×aH)}
  (hx:∀(l:List Bytes) z,kr (ar bK) [.tmp 2,.tmp 3] 0 k ⟨.exit 0,(0,.str s)::(4,.slice (.own 0) (l.map .str))::z,[.tick 1 l.length]⟩=R (some l))
  (hr:∀n,kr (ar bK) [.tmp 2,.tmp 3] 0 k ⟨.ret,[(2,.slice .c0 []),(3,aE 60)],[.tick 1 n]⟩=R none) :
  ∀(rest:Bytes)(n m:Nat)(cur:Bytes)(out:List Bytes),s.drop m=rest->m+rest.length=s.length->n<=m->(s.take m).drop n=cur->out.length<=12 ->
   eW (ar bK) [.tmp 2,.tmp 3] 0 k (.loop [0,4,5,6] aeL) [(0,.str s),(4,.slice (.own 0) (out.map .str)),(5,aE n),(6,aE m)] [.tick 1 out.length]=R (FL rest cur out):=by
 intro rest;induction rest with
 |nil =>
  intro n m cur out h1 h2 h3 h4 h5;simp only[av,dg] at h2;rw[bt];have e1:((m:Int)<=(s.length:Int))=True:=uq;have e2:((m:Int)<(s.length:Int))=False:=oyf;have e3:((n:Int)<=(m:Int))=True:=uq;have w1:IntKind.i64.wrap ((m:Int)+1)=(m:Int)+1:=fW (by omega) (by omega)
  have e4:((m:Int)+1<=(s.length:Int))=False:=oyf;have hc:cur.length<=100000:=by rw[<-h4]; simp; omega
  have q:=fun M=>k97 cur hc M
  have r1:cu (out.length+1) 16=True:=qm;have i1:=hx (out++[cur]);simp only[bu,aP,bc,aD,au,av,aK] at i1;rw[FL]
  cases h6:fD cur<;>rw[h6] at q<;>cases h7:(out.length:Int)==12 <;>
   simp only[N2,e1,e2,e3,h4,q,h7,dH,cY,ei,fu,aG,af,az,EW,seval]<;>first|exact hr _|skip
  simp only[N2,r1,w1,EW,seval];rw[bt];simp only[N2,e4,EW,seval];exact i1 _
 |cons b r ih =>
  intro n m cur out h1 h2 h3 h4 h5;simp only[au] at h2;rw[bt];have e1:((m:Int)<=(s.length:Int))=True:=uq;have e2:((m:Int)<(s.length:Int))=True:=uq;have e3:((n:Int)<=(m:Int))=True:=uq;have w1:IntKind.i64.wrap ((m:Int)+1)=((m+1:Nat):Int):=by rw[fW (by omega) (by omega)]; rfl
  have hc:cur.length<=100000:=by rw[<-h4]; simp; omega
  have hb:s[m]?=some b:=by
   have:(s.drop m)[0]?=some b:=by rw[h1]; rfl
   simpa using this
  have hd:s.drop (m+1)=r:=by rw[<-List.drop_drop,h1]; rfl
  have hm:=(ak.1 hb).1
  have ht:(s.take (m+1)).drop n=cur++[b]:=by
   rw[cB,hb,lI,List.drop_append_of_le_length (by simp; omega),h4]
  have q:=fun M=>k97 cur hc M
  have r1:cu (out.length+1) 16=True:=qm;have i1:=ih n (m+1) (cur++[b]) out hd (by omega) (by omega) ht h5
  have i2:=fun h=>ih (m+1) (m+1) [] (out++[cur]) hd (by omega) (by omega) (by simp) h
  simp only[bu,aP,bc,aD,au,av,aK] at i2;rw[FL];cases h8:(b.toNat:Int) != 47
  ·cases h6:fD cur<;>rw[h6] at q<;>cases h7:(out.length:Int)==12 <;>
    simp only[N2,e1,e2,e3,h4,hb,h8,q,h7,dH,cY,ei,fu,aG,af,az,EW,seval]<;>first|exact hr _|skip
   have h9:out.length+1<=12:=by simp at h7; omega
   simp only[N2,r1,w1,EW,seval];exact i2 h9
  ·simp only[N2,e1,e2,hb,h8,w1,aG,EW,seval];exact i1
def c35(s:Bytes)(hs:s.length<=100000):ar bK 35 [.str s] []=some (.tuple [c9 (mo s).1,aE (mo s).2],[]):=by
 refine aw ?_;unfold mo;cases h0:s==[47]
 ·cases s with
  |nil=>simp only[MG,N2,h0,af,az,EW,seval]; rfl
  |cons b r =>
   have h1:((b::r)==[])=false:=rfl;cases h8:(b.toNat:Int) != 47
   ·have hl:=fun {k R} hx hr=>ae6 hs (k:=k) (R:=R) hx hr r 1 1 [] [] rfl (by simp; omega) (by omega) (by simp) (by simp)
    simp only[bc,av] at hl;simp only[MG,N2,h0,h1,h8,af,az,EW,seval];refine hl (R:=fun o=>some (.tuple [c9 (match o with|none=>(([]:List Bytes),(60:Int))|some l=>(l,0)).1,aE (match o with|none=>(([]:List Bytes),(60:Int))|some l=>(l,0)).2],[])) (fun l z=>?_) (fun n=>?_)
    ·simp only[N2,EW,seval]
    ·simp only[N2,EW,seval]; rfl
   ·simp only[MG,N2,h0,h1,h8,af,az,aG,EW,seval]; rfl
 ·simp only[MG,N2,h0,aG,EW,seval]; rfl
def k35 s hs:=cP (c35 s hs)
def uj(l:List Bytes)(s:Bytes):Bytes:=l.foldl (fun s x=>s++[47]++x) s
def D8(l:List Bytes):Bytes:=if (l.length:Int)==0 then [47] else uj l []
def Cu:∀(l:List Bytes)(s:Bytes),(∀x,x∈l->x.length<=32)->(uj l s).length<=s.length+33*l.length
 | [],s,_=>by simp[uj]
 |x::l,s,h=>by
  have h1:=Cu l (s++[47]++x) fun y hy=>h y (aX _ hy)
  have h2:=h x bj;simp only[uj,cK,aD,au,av] at h1 ⊢;omega
def c36(l:List Bytes)(hl:l.length<=100)(h:∀x,x∈l->x.length<=32):ar bK 36 [c9 l] []=some (.str (D8 l),[]):=by
 refine aw ?_;unfold D8;cases h0:(l.length:Int)==0<;>simp only[ajS,E36,h0,af,az,aG,EW,seval]
 have key:∀ {k:List K} {R:Bytes->Option (ag×aH)} (hx:∀s z,kr (ar bK) [.tmp 2] 0 k ⟨.exit 0,(0,c9 l)::(3,.str s)::z,[]⟩=R s) (rest pre:List Bytes) (s:Bytes),l=pre++rest->s.length<=33*pre.length->eW (ar bK) [.tmp 2] 0 k (.loop [0,3,4] aeM) [(0,c9 l),(3,.str s),(4,aE pre.length)] []=R (uj rest s):=by
  intro k R hx rest;induction rest with
  |nil =>
   intro pre s e _;rw[bt];simp only[E36,gM e,uj,jH,EW,seval];exact hx _ _
  |cons x r ih =>
   intro pre s e hs;rw[bt];have hxl:=h x (by rw[e]; simp)
   have hp:pre.length+1<=100:=by rw[e] at hl; simp at hl; omega
   have hw:=vu pre x;have i1:=ih (pre++[x]) (s++[47]++x) (by rw[e]; simp) (by simp; omega)
   have m1:(IntKind.i64.max<((s.length+1:Nat):Int))=False:=max_lt _ (by omega)
   have m2:(IntKind.i64.max<((s.length+1+x.length:Nat):Int))=False:=max_lt _ (by omega)
   simp only[aD,au,av,aK] at i1;simp only[uj,cK] at i1 ⊢;simp only[E36,fV e,fc e,hw,m1,m2,EW,seval];exact i1
 exact key (R:=fun s=>some (.str s,[])) (fun s z=>by simp only[E36,EW,seval]) l [] [] rfl (by simp)
def k36 l hl h:=cP (c36 l hl h)
def Y2:∀(rest cur:Bytes)(out l:List Bytes),FL rest cur out=some l->(∀x,x∈out->fD x=true)->out.length<=12->(∀x,x∈l->fD x=true)/\l.length<=12:=by
 have key:∀(cur:Bytes)(out:List Bytes),¬(!fD cur||(out.length:Int)==12)=true->(∀x,x∈out->fD x=true)->out.length<=12->(∀x,x∈out++[cur]->fD x=true)/\(out++[cur]).length<=12:=by
  intro cur out h1 h2 h3;simp only[dj,gV,eG,mL,Bool.not_eq_false] at h1;refine⟨fun x hx=>?_,by simp; omega⟩
  rcases bB.1 hx with hx|hx
  ·exact h2 x hx
  ·rw[bP.1 hx]; exact h1.1
 intro rest;induction rest with
 |nil =>
  intro cur out l h h1 h2;rw[FL] at h;split at h
  ·cases h
  ·rename_i hc;cases h;exact key cur out hc h1 h2
 |cons b r ih =>
  intro cur out l h h1 h2;rw[FL] at h;split at h
  ·exact ih _ _ _ h h1 h2
  split at h
  ·cases h
  ·rename_i hc;obtain⟨k1,k2⟩:=key cur out hc h1 h2;exact ih _ _ _ h k1 k2
def sO(s:Bytes):(∀x,x∈(mo s).1->fD x=true)/\(mo s).1.length<=12:=by
 unfold mo;split
 ·simp
 split
 ·simp
 split
 ·simp
 split
 ·simp
 ·rename_i h;exact Y2 _ _ _ _ h (by simp) (by simp)
def AX(s:Bytes):Bytes×Bytes×Int:=if (mo s).2 != 0||(((mo s).1.length:Int)==0) then ([],[],60) else ((mo s).1.getLast?.getD [],D8 (mo s).1.dropLast,0)
def aoH(s:Bytes)(hs:s.length<=100000):ar bK 172 [.str s] []=some (.tuple [.str (AX s).1,.str (AX s).2.1,aE (AX s).2.2],[]):=by
 refine aw ?_;have q:=fun M=>k35 s hs M
 obtain⟨o1,o2⟩:=sO s;unfold AX;generalize mo s=X at q o1 o2;obtain⟨l,e⟩:=X;simp only at q o1 o2 ⊢;cases h1:e != 0
 ·cases h2:(l.length:Int)==0
  ·obtain⟨A,x,rfl⟩:∃A x,l=A++[x]:=by
    refine⟨l.dropLast,l.getLast (by rintro rfl; simp at h2),(List.dropLast_concat_getLast _).symm⟩
   have qj:=fun M=>k36 A (by simp at o2; omega) (fun y hy=>nD (o1 y (by simp[hy]))) M
   simp only[aD,au,av,aK] at h2 o2;have w1:IntKind.i64.wrap (((A.length+1:Nat):Int)-1)=(A.length:Int):=by rw[fW (by omega) (by omega)]; omega
   have a1:(A++[x])[A.length]?=some x:=by simp
   have a2:((A.length:Int)<((A.length+1:Nat):Int))=True:=uq;have a3:((A.length:Int)<=((A.length+1:Nat):Int))=True:=uq;have a4:((A.length:Int)<0)=False:=by simp
   have a5:(A++[x]).take A.length=A:=by simp
   simp only[KL,ab1,q,h1,h2,w1,a2,a3,a4,a1,<-eO,a5,qj,eR,fu,af,az,List.getLast?_append,List.getLast?_singleton,List.dropLast_concat,bn,Option.or_some,Option.some_or,EW,seval]
  ·simp only[KL,ab1,q,h1,h2,ei,cY,aG,EW,seval]
 ·simp only[KL,ab1,q,h1,dH,aG,EW,seval]
def zz(ae:List Node):List Bytes->Int->Int×Int
 | [],a=>(a,0)
 |x::r,a=>if (eE ae a x).2 != 0 then (0,(eE ae a x).2) else zz ae r (eE ae a x).1
def Bg(ae:List Node)(s:Bytes):Int×Int:=if (mo s).2 != 0 then (0,(mo s).2) else zz ae (mo s).1 1
def anM(t:Tree)(s:Bytes)(ht:Small t)(hs:s.length<=100000):ar bK 102 [bo t,.str s] []=some (.tuple [aE (Bg t.ae s).1,aE (Bg t.ae s).2],[]):=by
 refine aw ?_;have q:=fun M=>k35 s hs M
 obtain⟨o1,o2⟩:=sO s;unfold Bg;generalize mo s=X at q o1 o2;obtain⟨l,e⟩:=X;simp only at q o1 o2 ⊢;cases h1:e != 0<;>simp only[ZP,abN,bo,aI,q,h1,af,az,aG,EW,seval]
 refine lM (xs:=l) (by omega) (zz t.ae) (fun a i=>[(2,bX 0),(6,c9 l),(8,aE a),(9,aE i)]) (fun _=>[bO [aN t.ae,aE t.next,aE t.aj]]) (fun p=>some (.tuple [aE p.1,aE p.2],([]:aH))) (fun a=>?_) (fun pre x post a h hx cn hw h0 hm hi=>?_) 1
 ·simp only[abN,bp,zz,EW,seval]
 ·have ql:=fun M=>WD t.ae t.next t.aj a x ht (by have:=nD (o1 x hm); omega) M
  rw[zz];have i1:=hi (eE t.ae a x).1;generalize eE t.ae a x=u at ql i1;cases h2:u.2 != 0<;>simp only[abN,cn,hx,hw,ql,h2,af,az,aG,EW,seval]
  exact i1
def adg(ae:List Node)(next aj:Int)(s:Bytes)(ht:Small ⟨ae,next,aj⟩)(hs:s.length<=100000)(M:aH):aM (ar bK) 102 [.agg [aN ae,aE next,aE aj],.str s] M=some (.tuple [aE (Bg ae s).1,aE (Bg ae s).2],M):=cO (anM ⟨ae,next,aj⟩ s ht hs) M
end
end Go.Proofs.YtahkjijkflobhaaGreatDoor
namespace Go.Proofs.YtahkjijkflobhaaGreatDoor
open Go Go.Abs
def pX(q:cv):List cv->Bool->List cv
 | [],d=>if d then [] else [q]
 |x::r,d=>(if !d&&decide (q.aq<=x.aq) then [q] else [])++((if x.aq != q.aq then [x] else [])++pX q r (d||decide (q.aq<=x.aq)))
def yo(q:cv):∀l,pX q l true=l.filter fun x=>x.aq != q.aq
 | []=>rfl
 |x::r=>by
  rw[pX,dH,yo q r,eu];cases x.aq != q.aq<;>rfl
theorem J8(q x:cv)(r:List cv):pX q (x::r) false=if q.aq<=x.aq then q::(x::r).filter fun x=>x.aq != q.aq else x::pX q r false:=by
 rw[pX]
 by_cases h:q.aq<=x.aq
 ·rw[bh h,gR h,cY,yo,eu];cases x.aq != q.aq<;>rfl
 grind
theorem Ew(q:cv):∀l,ov l->ov (pX q l false)/\(∀y,y∈pX q l false->y=q\/y∈l)/\(pX q l false).length<=l.length+1/\((∃x,x∈l/\x.aq=q.aq)->(pX q l false).length<=l.length)
 | [],_=>⟨List.pairwise_singleton _ _,fun y hy => .inl (by grind [pX]),aC _,fun⟨x,h,_⟩=>by grind⟩
 |x::r,h=>by
  have hc:=cd.1 h;obtain⟨i1,i2,i3,i4⟩:=Ew q r hc.2;rw[J8]
  grind [List.pairwise_cons]
section
attribute [local irreducible] eW fQ lh gK dW kr ar aM cq bI
def aoV(t:Tree)(aq:Int)(ht:t.ae.length<=100000):ar bK 186 [bo t,aE aq] []=some (.bool ((find t.ae aq).isSome&&(aY t.ae aq).kind==2),[]):=by
 refine aw ?_;have q:=fun M=>Ae t.ae t.next t.aj aq ht M
 have hz:(find t.ae aq).getD Node.zero=aY t.ae aq:=rfl;rw[hz] at q;generalize aY t.ae aq=n at q
 cases h1:(find t.ae aq).isSome<;>rw[h1] at q<;>cases h2:n.kind==2 <;>
  simp only[aaw,am2,bo,aI,q,h2,bD,aF,dP,EW,seval]
def akQ(ae:List Node)(next aj aq:Int)(h:ae.length<=100000)(M:aH):aM (ar bK) 186 [.agg [aN ae,aE next,aE aj],aE aq] M=some (.bool ((find ae aq).isSome&&(aY ae aq).kind==2),M) :=
 cO (aoV ⟨ae,next,aj⟩ _ h) M
def Plc(ae:List Node)(aq n:Int):Prop:=(n = -1/\∀y,y∈ae->y.aq≠aq)\/∃(i:Nat) (y:Node),ae[i]?=some y/\y.aq=aq/\n=i
def apR(t:Tree)(aq:Int)(ht:t.ae.length<=100000):∃n:Int,ar bK 288 [bo t,aE aq] []=some (aE n,[])/\Plc t.ae aq n:=by
 have key:∃r:ag×aH,(∃n:Int,r=(aE n,[])/\Plc t.ae aq n)/\eW (ar bK) KX.results 0 [] KX.body (fq 0 [bo t,aE aq]) []=some r:=by
  simp only[KX,ace,bo,aI,EW,seval];refine iu (xs:=t.ae) (by omega) (fun m (_:Unit)=>∀y,y∈t.ae.take m->y.aq≠aq) (fun _ i=>[(1,aE aq),(2,bX 0),(5,aE i)]) (fun _=>[bO [aN t.ae,aE t.next,aE t.aj]]) _ (fun _ hq=>?_) (fun pre x post _ e hx cn hw h0 hm hq hi=>?_) () (fun y hy=>by simp at hy)
  ·simp only[ace,bp,EW,seval];exact⟨_,⟨-1,rfl,.inl ⟨rfl,by rwa[cg] at hq⟩⟩,rfl⟩
  ·have htk:t.ae.take (pre.length+1)=t.ae.take pre.length++[x]:=by rw[cB,hx]; rfl
   have i1:=fun h=>hi () (fun y hy=>by
    rw[htk] at hy;exact(bB.1 hy).elim (hq y) fun hy=>by rw[bP.1 hy]; exact h)
   cases h1:x.aq==aq<;>simp only[ace,cn,hx,hw,h1,bD,aF,EW,seval]
   ·exact i1 (by simpa using h1)
   ·exact⟨_,⟨_,rfl,.inr ⟨_,x,hx,by simpa using h1,rfl⟩⟩,rfl⟩
 obtain⟨_,⟨n,rfl,h1⟩,h3⟩:=key;exact⟨n,aw h3,h1⟩
theorem aiX(l:List cv)(aq:Int)(hn:l.length<=100000):∃n:Int,ar bK 188 [cJ l,aE aq] []=some (aE n,[])/\(0<=n↔∃x,x∈l/\x.aq=aq):=by
 have key:∃r:ag×aH,(∃n:Int,r=(aE n,[])/\(0<=n↔∃x,x∈l/\x.aq=aq))/\eW (ar bK) KN.results 0 [] KN.body (fq 0 [cJ l,aE aq]) []=some r:=by
  simp only[KN,ab4,EW,seval];refine iu (xs:=l) (by omega) (fun m (_:Unit)=>∀y,y∈l.take m->y.aq≠aq) (fun _ i=>[(0,cJ l),(1,aE aq),(5,aE i)]) (fun _=>[]) _ (fun _ hq=>?_) (fun pre x post _ e hx cn hw h0 hm hq hi=>?_) () (fun y hy=>by simp at hy)
  ·simp only[ab4,bp,EW,seval];rw[cg] at hq
   grind
  ·have htk:l.take (pre.length+1)=l.take pre.length++[x]:=by rw[cB,hx]; rfl
   have i1:=fun h=>hi () (fun y hy=>by
    rw[htk] at hy;exact(bB.1 hy).elim (hq y) fun hy=>by rw[bP.1 hy]; exact h)
   cases h1:x.aq==aq<;>simp only[ab4,cn,hx,hw,h1,dM,gU,EW,seval]
   ·exact i1 (by simpa using h1)
   grind
 obtain⟨_,⟨n,rfl,h1⟩,h3⟩:=key;exact⟨n,aw h3,h1⟩
abbrev BL(n:Nat):={ m:List Bool // m.length=n }
def Vg(ae:List Node)(m0:List Bool)(P:List fg->Prop)(s:Bool×List Bool):Prop:=(s.1=false->s.2=m0/\∀L,P L->∀e,e∈L->Mk ae m0 e.aq)/\(s.1=true->nT m0<nT s.2)
abbrev Dx(t:Tree)(m:List Bool):aH:=[.cells [aN t.ae,.int .i64 t.next,.int .i64 t.aj],.arr 1 0 (m.map ag.bool)]
section
variable {t:Tree} {aq by':Int} {Q:ag×aH->Prop}
theorem Tt(ht:t.ae.length<=100000)(hasc:lL t.ae){m0:List Bool}{P:List fg->Prop}{i:Nat}{x:Node}(hxi:t.ae[i]?=some x)(hxe:x.aL.length<=100000){k:List K}
  (hx:∀(s:Bool×BL t.ae.length) z,Vg t.ae m0 (fun L=>P L\/L=x.aL) (s.1,s.2.1)->∃r,Q r/\kr (ar bK) [.tmp 4] 0 k ⟨.exit 4,(1,aE aq)::(2,bX 0)::(5,.cN 1 0 1 0 t.ae.length)::(6,aE by')::(7,.bool s.1)::(8,aE i)::z,Dx t s.2.1⟩=some r) (s:Bool×BL t.ae.length) (hs0:Vg t.ae m0 P (s.1,s.2.1)) :
  ∃r,Q r/\eW (ar bK) [.tmp 4] 0 k (.loop [1,2,5,6,7,8,9] XC) [(1,aE aq),(2,bX 0),(5,.cN 1 0 1 0 t.ae.length),(6,aE by'),(7,.bool s.1),(8,aE i),(9,aE 0)] (Dx t s.2.1)=some r:=by
 have b1:((i:Int)<0)=False:=by simp
 refine iu (xs:=x.aL) (by omega) (fun j (s:Bool×BL t.ae.length)=>Vg t.ae m0 (fun L=>P L\/L=x.aL.take j) (s.1,s.2.1)) (fun(s:Bool×BL t.ae.length) j=>[(1,aE aq),(2,bX 0),(5,.cN 1 0 1 0 t.ae.length),(6,aE by'),(7,.bool s.1),(8,aE i),(9,aE j)]) (fun s=>Dx t s.2.1) Q (fun s hs=>?_) (fun pre e post s h hx' cn hw h0 hm hs hi=>?_) s ⟨fun h=>⟨(hs0.1 h).1,fun L hL=>hL.elim ((hs0.1 h).2 L) fun hL e he=>by rw[hL] at he; simp at he⟩,hs0.2⟩
 ·simp only[Bi,bp,hxi,bD,aF,EW,seval];rw[cg] at hs;exact hx s _ hs
 ·obtain⟨n,q,hn⟩:=apR t e.aq ht;have qp:=cP q;simp only[bo,aI] at qp;have hm2:=s.2.2;have htk:x.aL.take (pre.length+1)=x.aL.take pre.length++[e]:=by rw[cB,hx']; rfl
  have same:(s.1=false->Mk t.ae m0 e.aq)->Vg t.ae m0 (fun L=>P L\/L=x.aL.take (pre.length+1)) (s.1,s.2.1):=fun hk=>⟨fun h=>⟨(hs.1 h).1,fun L hL e' he=>by
   rcases hL with hL|hL
   ·exact(hs.1 h).2 L (.inl hL) e' he
   ·rw[hL,htk] at he;rcases bB.1 he with he|he
    ·exact(hs.1 h).2 _ (.inr rfl) e' he
    ·rw[bP.1 he]; exact hk h⟩,hs.2⟩
  rcases hn with ⟨rfl,hno⟩|⟨a,y,hay,hye,rfl⟩
  ·have i1:=hi s (same fun _ a y h1 h2=>absurd h2 (hno y (aO h1)))
   simp only[Bi,cn,hx',hw,hxi,qp,bD,aF,fH,fa,EW,seval];exact i1
  ·have ha:=(ak.1 hay).1;have a0:((a:Int)<0)=False:=by simp
   have a1:((a:Int)<(t.ae.length:Int))=True:=by grind
   have a2:(a<t.ae.length)=True:=uq;have a3:(0<=(a:Int))=True:=by simp
   have a4:(a<s.2.1.length)=True:=uq;obtain⟨b,hb⟩:∃b,s.2.1[a]?=some b:=⟨_,ai (by omega)⟩
   cases b
   ·have i1:=hi (true,⟨s.2.1.set a true,by simp[hm2]⟩) ⟨fun h=>(by cases h),fun _=>by
     simp only[afd hb];cases h1:s.1 with
     |false=>have:=(hs.1 h1).1; simp only at this; rw[this]; omega
     |true=>have:=hs.2 h1; simp only at this; omega⟩
    simp only[Bi,cn,hx',hw,hxi,qp,a1,a3,hb,Ex,bN,bD,aF,fH,fa,EW,seval];omega
   ·have i1:=hi s (same fun h1 a' y' g1 g2=>by
     have:=ack hasc g1 hay (by rw[g2,hye])
     have he:=(hs.1 h1).1;simp only at he;rw[this,<-he]; exact hb)
    simp only[Bi,cn,hx',hw,hxi,qp,a1,a3,hb,bN,bD,aF,fH,fa,EW,seval];exact i1
theorem Tu(ht:t.ae.length<=100000)(he:∀n,n∈t.ae->n.aL.length<=100000)(hasc:lL t.ae){m0:List Bool}{k:List K}
  (hx:∀(s:Bool×BL t.ae.length) z,Vg t.ae m0 (fun L=>∃(i:Nat) (x:Node),t.ae[i]?=some x/\(x.aq=aq\/m0[i]?=some true)/\L=x.aL) (s.1,s.2.1)->∃r,Q r/\kr (ar bK) [.tmp 4] 0 k ⟨.exit 2,(1,aE aq)::(2,bX 0)::(5,.cN 1 0 1 0 t.ae.length)::(6,aE by')::(7,.bool s.1)::z,Dx t s.2.1⟩=some r) (s:Bool×BL t.ae.length) (hs0:Vg t.ae m0 (fun _=>False) (s.1,s.2.1)) :
  ∃r,Q r/\eW (ar bK) [.tmp 4] 0 k (.loop [1,2,5,6,7,8] XD) [(1,aE aq),(2,bX 0),(5,.cN 1 0 1 0 t.ae.length),(6,aE by'),(7,.bool s.1),(8,aE 0)] (Dx t s.2.1)=some r:=by
 refine iu (xs:=t.ae) (by omega) (fun j (s:Bool×BL t.ae.length)=>Vg t.ae m0 (fun L=>∃(i:Nat) (x:Node),i<j/\t.ae[i]?=some x/\(x.aq=aq\/m0[i]?=some true)/\L=x.aL) (s.1,s.2.1)) (fun(s:Bool×BL t.ae.length) j=>[(1,aE aq),(2,bX 0),(5,.cN 1 0 1 0 t.ae.length),(6,aE by'),(7,.bool s.1),(8,aE j)]) (fun s=>Dx t s.2.1) Q (fun s hs=>?_) (fun pre x post s h hx' cn hw h0 hm hs hi=>?_) s ⟨fun h=>⟨(hs0.1 h).1,fun L ⟨i,x,hi,_⟩=>by omega⟩,hs0.2⟩
 ·simp only[Bi,bp,EW,seval];exact hx s _ ⟨fun h=>⟨(hs.1 h).1,fun L ⟨i,x,h1,h2,h3⟩=>(hs.1 h).2 L ⟨i,x,(ak.1 h1).1,h1,h2,h3⟩⟩,hs.2⟩
 ·have hl:=(ak.1 hx').1;have hm2:=s.2.2;have a4:(pre.length<s.2.1.length)=True:=uq;have a2:(pre.length<t.ae.length)=True:=uq;obtain⟨b,hb⟩:∃b,s.2.1[pre.length]?=some b:=⟨_,ai (by omega)⟩
  have la:=fun {k} hx2=>Tt (t:=t) (aq:=aq) (by':=by') (Q:=Q) ht hasc hx' (he x hm) (k:=k) hx2 s hs
  have fin:∀(s':Bool×BL t.ae.length),Vg t.ae m0 (fun L=>(∃(i:Nat) (x:Node),i<pre.length/\t.ae[i]?=some x/\(x.aq=aq\/m0[i]?=some true)/\L=x.aL)\/L=x.aL) (s'.1,s'.2.1)->Vg t.ae m0 (fun L=>∃(i:Nat) (x:Node),i<pre.length+1/\t.ae[i]?=some x/\(x.aq=aq\/m0[i]?=some true)/\L=x.aL) (s'.1,s'.2.1):=fun s' h'=>⟨fun h=>⟨(h'.1 h).1,fun L ⟨i,x',h1,h2,h3,h4⟩=>(h'.1 h).2 L (by
   grind)⟩,h'.2⟩
  have skip:b=false->x.aq≠aq->Vg t.ae m0 (fun L=>∃(i:Nat) (x:Node),i<pre.length+1/\t.ae[i]?=some x/\(x.aq=aq\/m0[i]?=some true)/\L=x.aL) (s.1,s.2.1):=fun hbf hne=>⟨fun h=>⟨(hs.1 h).1,fun L ⟨i,x',h1,h2,h3,h4⟩=>(hs.1 h).2 L (by
   by_cases hip:i=pre.length
   ·exfalso;have e0:=(hs.1 h).1
    grind
   ·exact⟨i,x',by omega,h2,h3,h4⟩)⟩,hs.2⟩
  cases b<;>cases h1:x.aq != aq <;>
   simp only[Bi,cn,hx',hw,hb,h1,bN,bD,aF,EW,seval]
  all_goals first
   |exact hi s (skip rfl (by simpa using h1))
   |(refine la (fun s' z hs'=>?_)
     have i1:=hi s' (fin s' hs');simp only[Bi,hw,EW,seval];exact i1)
theorem Tv(ht:t.ae.length<=100000)(he:∀n,n∈t.ae->n.aL.length<=100000)(hasc:lL t.ae){k:List K}
  (hx:∀(m:BL t.ae.length) z,Clo t.ae aq m.1->∃r,Q r/\kr (ar bK) [.tmp 4] 0 k ⟨.exit 0,(1,aE aq)::(2,bX 0)::(5,.cN 1 0 1 0 t.ae.length)::z,Dx t m.1⟩=some r)
  (hr:∀(m:BL t.ae.length),Clo t.ae aq m.1->∃r,Q r/\kr (ar bK) [.tmp 4] 0 k ⟨.ret,[(4,.cN 1 0 1 0 t.ae.length)],Dx t m.1⟩=some r) (m:BL t.ae.length) :
  ∃r,Q r/\eW (ar bK) [.tmp 4] 0 k (.loop [1,2,5,6] XE) [(1,aE aq),(2,bX 0),(5,.cN 1 0 1 0 t.ae.length),(6,aE 0)] (Dx t m.1)=some r:=by
 refine iu (xs:=t.ae) (by omega) (fun j (m:BL t.ae.length)=>j<=nT m.1) (fun(_:BL t.ae.length) j=>[(1,aE aq),(2,bX 0),(5,.cN 1 0 1 0 t.ae.length),(6,aE j)]) (fun m=>Dx t m.1) Q (fun m hm=>?_) (fun pre x post m h hx' cn hw h0 hm hj hi=>?_) m (cS _)
 ·simp only[Bi,bp,EW,seval];refine hx m _ fun i x h1 _ e _ a y h3 _=>?_
  have h4:nT m.1=m.1.length:=Nat.le_antisymm (mh) (by rw[m.2]; exact hm)
  have ha:=(ak.1 h3).1;have h5:=List.countP_eq_length.1 h4 (m.1[a]'(by rw[m.2]; exact ha)) (iV _)
  grind
 ·have lb:=fun {k} hx2=>Tu (t:=t) (aq:=aq) (by':=pre.length) (Q:=Q) ht he hasc (m0:=m.1) (k:=k) hx2 (false,m) ⟨fun _=>⟨rfl,fun _ h=>h.elim⟩,fun h=>by cases h⟩
  simp only[Bi,cn,EW,seval];refine lb (fun s z hs=>?_)
  obtain⟨b,m'⟩:=s;cases b<;>simp only[Bi,hw,EW,seval]
  ·obtain⟨e0,hc⟩:=hs.1 rfl;simp only at e0;exact hr m' (by rw[e0]; exact fun i x h1 h2 e he=>hc x.aL ⟨i,x,h1,h2,rfl⟩ e he)
  ·have:=hs.2 rfl;simp only at this;exact hi m' (by omega)
end
theorem apC(t:Tree)(aq:Int)(ht:t.ae.length<=100000)(he:∀n,n∈t.ae->n.aL.length<=100000)(hasc:lL t.ae):∃m:List Bool,ar bK 251 [bo t,aE aq] []=some (gH (m.map ag.bool),[])/\m.length=t.ae.length/\Clo t.ae aq m:=by
 have key:∃r:ag×aH,(∃m:List Bool,r=(gH (m.map ag.bool),[])/\m.length=t.ae.length/\Clo t.ae aq m)/\eW (ar bK) GR.results 0 [] GR.body (fq 0 [bo t,aE aq]) []=some r:=by
  have r1:cu t.ae.length 8=True:=qm
  have hrep:List.replicate t.ae.length (ag.agg [ag.bool false]).norm=(List.replicate t.ae.length false).map ag.bool:=by
   rw[gF]; rfl
  have lc:=fun {k Q} hx hr=>Tv (t:=t) (aq:=aq) (Q:=Q) ht he hasc (k:=k) hx hr ⟨List.replicate t.ae.length false,by simp⟩
  simp only[GR,Bi,bo,aI,r1,hrep,EW,seval];refine lc (fun m z hc=>?_) (fun m hc=>?_) <;>
  ·have hm:=m.2;have htk:(m.1.map ag.bool).take t.ae.length=m.1.map ag.bool:=bS (by grind)
   simp only[Bi,htk,EW,seval];exact⟨_,⟨m.1,rfl,hm,hc⟩,rfl⟩
 obtain⟨_,⟨m,rfl,h1⟩,h3⟩:=key;exact⟨m,aw h3,h1⟩
def Ib{A:List Node}{B:List Bool}(h:A.length=B.length)(n:Node)(b:Bool):FR (A++[n]) (B++[b])=FR A B+if b then n.data.length else 0:=by
 unfold FR;rw[List.zip_append h];simp
def U3:∀(A:List Node)(B:List Bool),(∀n,n∈A->n.data.length<=4096)->FR A B<=4096*A.length
 | [],_,_=>by simp[FR]
 |n::A,[],_=>by simp[FR]
 |n::A,b::B,h=>by
  have h1:=U3 A B fun x hx=>h x (aX _ hx)
  have h2:=h n bj;simp only[FR,List.zip_cons_cons,aP,mJ,au] at h1 ⊢;split<;>omega
def aiW(t:Tree)(aq:Int)(hr:Rt t):∃a b:Int,ar bK 187 [bo t,aE aq] []=some (.tuple [aE a,aE b],[])/\(jm t.ae aq).1<=a/\(jm t.ae aq).2<=b:=by
 have h200:=hr.sz.ae
 have key:∃r:ag×aH,(∃a b:Int,r=(.tuple [aE a,aE b],[])/\(jm t.ae aq).1<=a/\(jm t.ae aq).2<=b)/\eW (ar bK) KM.results 0 [] KM.body (fq 0 [bo t,aE aq]) []=some r:=by
  obtain⟨m,q,hm,hc⟩:=apC t aq (by omega) (fun n hn=>by have:=(hr.Vj hn).1; omega) hr.ja.jd
  have qu:=cP q;have qd:=fun M=>akQ t.ae t.next t.aj aq (by omega) M
  have hu:=OX hr hm hc;cases hb:((find t.ae aq).isSome&&(aY t.ae aq).kind==2)<;>rw[hb] at qd<;>simp only[bo,aI] at qu<;>simp only[KM,ab3,bo,aI,qd,qu,EW,seval]
  ·have h0:jm t.ae aq=(0,0):=by unfold jm; rw[hb]; rfl
   exact⟨_,⟨_,_,rfl,by rw[h0]; exact cZ 0,by rw[h0]; exact cZ 0⟩,rfl⟩
  refine iu (xs:=m) (by omega) (fun j (s:Int×Int)=>s.1=nT (m.take j)/\s.2=FR (t.ae.take j) (m.take j)) (fun s i=>[(2,bX 0),(7,gH (m.map ag.bool)),(8,aE s.1),(9,aE s.2),(10,aE i)]) (fun _=>[bO [aN t.ae,aE t.next,aE t.aj]]) _ (fun s hs=>?_) (fun pre x post s e hx cn hw h0 _ hs hi=>?_) (0,0) (by simp[nT,FR])
  ·rw[cg,hm,cg] at hs;simp only[ab3,bp,EW,seval];exact⟨_,⟨_,_,rfl,by rw[hs.1]; exact hu.1,by rw[hs.2]; exact hu.2⟩,rfl⟩
  ·have hl:=(ak.1 hx).1;obtain⟨n,hn⟩:∃n,t.ae[pre.length]?=some n:=⟨_,ai (by omega)⟩
   have t1:m.take (pre.length+1)=m.take pre.length++[x]:=by rw[cB,hx]; rfl
   have t2:t.ae.take (pre.length+1)=t.ae.take pre.length++[n]:=by rw[cB,hn]; rfl
   have t3:(t.ae.take pre.length).length=(m.take pre.length).length:=by simp; omega
   have hnd:=(hr.Vj (aO hn)).2;have b1:nT (m.take pre.length)<=200:=aV mh (by simp; omega)
   have b2:=U3 (t.ae.take pre.length) (m.take pre.length) fun y hy=>(hr.Vj (dI hy)).2
   have b3:(t.ae.take pre.length).length<=200:=by simp; omega
   cases x<;>simp only[ab3,cn,hx,hw,h0,hn,bD,aF,EW,seval]
   ·exact hi s (by rw[t1,t2,Ib t3,hs.1,hs.2]; simp[nT])
   ·have w1:IntKind.i64.wrap (s.1+1)=s.1+1:=fW (by omega) (by omega)
    have w2:IntKind.i64.wrap (s.2+(n.data.length:Int))=s.2+(n.data.length:Int):=fW (by omega) (by omega)
    simp only[w1,w2];exact hi (s.1+1,s.2+(n.data.length:Int)) (by rw[t1,t2,Ib t3,hs.1,hs.2]; simp[nT])
 obtain⟨_,⟨a,b,rfl,h1⟩,h3⟩:=key;exact⟨a,b,aw h3,h1⟩
def apQ{t:Tree}{cz:Int->Nat}(h:cF t cz 0){l:List cv}(hq:ov l)(hl:l.length<=100000){aq:Int}{n:Node}(hi0:find t.ae aq=some n)(hk0:n.kind=2):ar bK 287 [bo t,cJ l,aE aq] []=some (aE (jM t.ae l aq),[]):=by
 have ht:=h.ae;have hdl:=h.zO hi0 hk0
 have key:∃r:ag×aH,r=(aE (jM t.ae l aq),[])/\eW (ar bK) KW.results 0 [] KW.body (fq 0 [bo t,cJ l,aE aq]) []=some r:=by
  simp only[KW,acd,bo,aI,EW,seval];refine iu (xs:=List.replicate (t.ae.length+1) ()) (by simp; omega) (fun j (a:Int)=>∃y,find t.ae a=some y/\y.kind=2/\cz a+j=cz aq/\jM t.ae l a=jM t.ae l aq) (fun a i=>[(1,cJ l),(3,bX 0),(7,aE a),(8,aE i)]) (fun _=>[bO [aN t.ae,aE t.next,aE t.aj]]) _ (fun a ha=>?_) (fun pre x post a e hx cn hw h0 _ ha hi=>?_) aq ⟨n,hi0,hk0,by omega,rfl⟩
  ·obtain⟨_,_,_,h1,_⟩:=ha;simp at h1; omega
  ·obtain⟨y,y1,y2,y3,y4⟩:=ha
   have e1:((pre.length:Int)<=(t.ae.length:Int))=True:=by
    have:=of_eq_true cn;rw[kh] at this;simp only[eH,im]; omega
   obtain⟨n,q,hn⟩:=aiX l a hl;have qf:=cP q;have qg:=fun M=>Ae t.ae t.next t.aj a (by omega) M
   have hup:=Je h l y1 y2;have hqi:=(WA hq a).trans hn.symm;rw[y1] at qg;simp only[bn,bD,aF] at qg;cases h1:decide (0<=n)
   ·have h1':D7 l a=false:=by
     cases hc:D7 l a with
     |false=>rfl
     |true=>exact absurd (hqi.1 hc) (by simpa using h1)
    rw[h1'] at hup;cases h2:a==1<;>simp only[acd,e1,hw,qf,qg,h1,h2,EW,seval]
    ·have h2':a≠1:=by simpa using h2
     obtain⟨d1,p,p1,p2⟩:=h.n9 _ _ y1 y2 h2';refine hi _ ⟨p,p1,p2,by omega,?_⟩
     rw[<-y4,hup]; simp[h2']
    ·refine⟨_,?_,rfl⟩;rw[<-y4,hup]; simp[show a=1 by simpa using h2]
   ·have h1':D7 l a=true:=hqi.2 (by simpa using h1)
    rw[h1'] at hup;simp only[acd,e1,hw,qf,qg,h1,EW,seval];refine⟨_,?_,rfl⟩;rw[<-y4,hup]; rfl
 obtain⟨_,rfl,h3⟩:=key;exact aw h3
def XO{l:List cv}(hl:l.length<=16){q:cv}{t:Tree}{k:List K}{R:List cv->Option (ag×aH)}
  (hx:∀(out:List cv) (d:Bool) z,out.length<=40->kr (ar bK) [.tmp 10,.tmp 11] 0 k ⟨.exit 0,(1,cJ l)::(2,aE q.aq)::(3,aE q.ae)::(4,aE q.bytes)::(17,.slice (.own 2) (out.map dM))::(18,.bool d)::z,[bO (aI t),bO (aF (aY t.ae q.aq)),.tick 3 out.length]⟩=R (out++pX q [] d)) :
  ∀(s:List cv×Bool),s.1.length<=0->eW (ar bK) [.tmp 10,.tmp 11] 0 k (.loop [1,2,3,4,17,18,19] WY) [(1,cJ l),(2,aE q.aq),(3,aE q.ae),(4,aE q.bytes),(17,.slice (.own 2) (s.1.map dM)),(18,.bool s.2),(19,aE 0)] [bO (aI t),bO (aF (aY t.ae q.aq)),.tick 3 s.1.length]=R (s.1++pX q l s.2):=by
 refine KC (xs:=l) (by omega) (fun m (s:List cv×Bool)=>s.1.length<=2*m) (fun post s=>s.1++pX q post s.2) (fun s i=>[(1,cJ l),(2,aE q.aq),(3,aE q.ae),(4,aE q.bytes),(17,.slice (.own 2) (s.1.map dM)),(18,.bool s.2),(19,aE i)]) (fun s=>[bO (aI t),bO (aF (aY t.ae q.aq)),.tick 3 s.1.length]) R (fun s hI=>?_) (fun pre x post s e hx' cn hw h0 hm hI hi=>?_)
 ·simp only[aI,aF] at hx ⊢;simp only[BI,bp,EW,seval];exact hx s.1 s.2 _ (by omega)
 ·have hp:=(ak.1 hx').1;obtain⟨out,d⟩:=s;simp only at hI;have r1:cu (out.length+1) 24=True:=qm;have r2:cu (out.length+1+1) 24=True:=qm;rw[pX];simp only[aI,aF] at hi ⊢;have i1:=hi (out++[q]++[x],true) (by simp; omega)
  have i2:=hi (out++[q],true) (by simp; omega)
  have i3:=hi (out++[x],d) (by simp; omega)
  have i4:=hi (out,d) (by simp only; omega)
  simp only[bu,aP,bc,aD,au,av,aK,fm,aU,aW,dM,gU] at i1 i2 i3 i4
  cases d<;>cases h1:decide (q.aq<=x.aq)<;>cases h2:x.aq != q.aq <;>
   simp only[BI,cn,hx',hw,h0,h1,h2,r1,r2,dM,gU,dD,dy,dH,cY,ei,fu,af,aG,az,fm,EW,seval]<;>first|exact i4|exact i3|exact i2|exact i1
def anU(t:Tree)(l:List cv)(aq ae bytes:Int)(hr:Rt t)(hq:ov l)(hn:l.length<=16) :
  ∃m e,ar bK 113 [bo t,cJ l,aE aq,aE ae,aE bytes] []=some (.tuple [cJ m,aE e],[])/\ov m/\m.length<=16/\∀y,y∈m->y∈l\/∃n,find t.ae y.aq=some n/\n.kind=2:=by
 have ht:t.ae.length<=100000:=by have:=hr.sz.ae; omega
 obtain⟨a,b,qa,_⟩:=aiW t aq hr;obtain⟨n,qn,hf⟩:=aiX l aq (by omega)
 have qu:=cP qa;have qf:=cP qn;have qg:=fun M=>Ae t.ae t.next t.aj aq ht M
 have qd:=fun M=>akQ t.ae t.next t.aj aq ht M
 have hz:(find t.ae aq).getD Node.zero=aY t.ae aq:=rfl;rw[hz] at qg;simp only[bo,aI] at qu;have hl:=fun {k R} hx=>XO (l:=l) hn (q:=⟨aq,ae,bytes⟩) (t:=t) (k:=k) (R:=R) hx ([],decide (ae<0)) (aC 0)
 simp only[aI,aF,bc,av] at hl
 have hneg:decide (ae<0) = !decide (0<=ae):=by
  rw[eJ]; simp
 have sh:(0<=ae->n<0->l.length<16)->ov (pX ⟨aq,ae,bytes⟩ l (decide (ae<0)))/\(pX ⟨aq,ae,bytes⟩ l (decide (ae<0))).length<=16/\∀y,y∈pX ⟨aq,ae,bytes⟩ l (decide (ae<0))->y∈l\/y.aq=aq:=by
  intro hh;rcases Int.lt_or_le ae 0 with h|h
  ·rw[gR h,yo];exact⟨hq.filter _,aV (bZ _ _) hn,fun y hy => .inl (cr.1 hy).1⟩
  ·rw[bG (Int.not_lt.2 h)];obtain⟨g1,g2,g3,g4⟩:=Ew ⟨aq,ae,bytes⟩ l hq;refine⟨g1,?_,fun y hy=>(g2 y hy).elim (fun e => .inr (by rw[e])) .inl⟩
   rcases Int.lt_or_le n 0 with h'|h'
   ·have:=hh h h'; omega
   ·exact aV (g4 (hf.1 h')) hn
 cases h1:(find t.ae aq).isSome<;>rw[h1] at qg qd
 ·refine⟨l,70,aw ?_,hq,hn,fun _ => .inl⟩
  simp only[xF,BI,bo,aI,bD,aF,qg,EW,seval]
 cases h2:(aY t.ae aq).kind==2<;>rw[h2] at qd<;>simp only[j7,dP] at qd
 ·refine⟨l,73,aw ?_,hq,hn,fun _ => .inl⟩
  simp only[xF,BI,bo,aI,bD,aF,qg,qd,EW,seval]
 cases h3:decide (0<=ae)
 case' true =>
  cases h4:decide (ae<a)
  case true =>
   refine⟨l,90,aw ?_,hq,hn,fun _ => .inl⟩
   simp only[xF,BI,bo,aI,bD,aF,qg,qd,qu,qf,h3,hneg,h4,EW,seval]
  cases h5:decide (bytes<b)
  case true =>
   refine⟨l,90,aw ?_,hq,hn,fun _ => .inl⟩
   simp only[xF,BI,bo,aI,bD,aF,qg,qd,qu,qf,h3,hneg,h4,h5,EW,seval]
  cases h6:decide (n<0)
  case' true =>
   cases h7:decide (16<=(l.length:Int))
   case true =>
    refine⟨l,76,aw ?_,hq,hn,fun _ => .inl⟩
    simp only[xF,BI,bo,aI,bD,aF,qg,qd,qu,qf,h3,hneg,h4,h5,h6,h7,EW,seval]
 all_goals
  obtain⟨s1,s2,s3⟩:=sh (by intro g1 g2; simp only[ba,dq] at *; omega)
  refine⟨_,0,aw ?_,s1,s2,fun y hy=>(s3 y hy).elim .inl fun e => .inr ⟨aY t.ae aq,by rw[e]; cases hf':find t.ae aq<;>simp_all [aY],by simpa using h2⟩⟩
  rw[hneg,h3] at hl
  first
   |simp only[xF,BI,bo,aI,bD,aF,qg,qd,qu,qf,h3,hneg,h4,h5,h6,h7,EW,seval]
   |simp only[xF,BI,bo,aI,bD,aF,qg,qd,qu,qf,h3,hneg,h4,h5,h6,EW,seval]
   |simp only[xF,BI,bo,aI,bD,aF,qg,qd,qu,qf,h3,hneg,EW,seval]
  refine(hl (R:=fun m=>some (.tuple [cJ m,aE 0],([]:aH))) (fun out d z ho=>?_)).trans (by first|rfl|(rw[hneg,h3]; rfl))
  have r1:cu (out.length+1) 24=True:=qm;cases d<;>simp only[BI,r1,pX,dM,gU,bu,af,aG,az,EW,seval]
  all_goals simp[dM,gU]
end
def oY(c h:Int):List dZ->Nat->Int
 | [],_ => -1
 |x::r,i=>if x.cD==c&&x.handle==h then i else oY c h r (i+1)
def yn(l:List dZ)(c h:Int):Int:=oY c h l 0
def rp(c h:Int):∀(l:List dZ)(i:Nat),(oY c h l i = -1/\∀x,x∈l->(x.cD==c&&x.handle==h)=false) \/
  ∃(m:Nat) (x:dZ),oY c h l i=((i+m:Nat):Int)/\l[m]?=some x/\(x.cD==c&&x.handle==h)=true
 | [],i => .inl ⟨rfl,by simp⟩
 |x::r,i=>by
  rw[oY];cases hx:x.cD==c&&x.handle==h
  ·rcases rp c h r (i+1) with ⟨h1,h2⟩|⟨m,y,h1,h2,h3⟩
   ·exact .inl ⟨by simpa using h1,fun y hy=>by rcases bC.1 hy with rfl|hy; exact hx; exact h2 y hy⟩
   ·exact .inr ⟨m+1,y,by simp only[af,az,h1]; congr 1; omega,by simpa using h2,h3⟩
  ·exact .inr ⟨0,x,by simp,rfl,hx⟩
def G5(l:List dZ)(aq:Int):Int:=((l.countP fun x=>x.aq==aq:Nat):Int)
def vC(c h:Int)(x:dZ):Bool:=decide (x.cD<c)||(x.cD==c&&decide (x.handle<h))
def rL(t:Tree)(l:List dZ)(c h aq:Int):List dZ×Int :=
 if decide (c<0)||(decide (16<=c)||(decide (h<0)||decide (99<h))) then (l,1)
 else if !(find t.ae aq).isSome||fO (aY t.ae aq) then (l,70)
 else if (aY t.ae aq).kind==2 then (l,72)
 else if decide (0<=yn l c h) then (l,71)
 else if decide (64<=(l.length:Int)) then (l,76)
 else (l.take (kx (vC c h) l)++⟨c,h,aq⟩::l.drop (kx (vC c h) l),0)
def M6(c h:Int):(fun x=>decide (gb x c h<0))=vC c h:=by
 funext x;rw[eJ];simp only[vC,ba,pB,dj,bm,eG]
def T3{t:Tree}{l:List dZ}(hl:sd l)(hn:l.length<=64)(c g aq:Int):sd (rL t l c g aq).1/\(rL t l c g aq).1.length<=64:=by
 have h0:=HE (t:=t) hl hn c g aq;unfold rL;split
 ·exact⟨hl,hn⟩
 rename_i h1;split
 ·exact⟨hl,hn⟩
 rename_i h2;split
 ·exact⟨hl,hn⟩
 rename_i h3;split
 ·exact⟨hl,hn⟩
 rename_i h4;split
 ·exact⟨hl,hn⟩
 rename_i h5
 have k1:¬(!yY c g)=true:=by
  simp only[dj,ba,mL,yY,gV,Bool.and_eq_false_iff,dq,Classical.not_not] at h1 ⊢;omega
 have k2:¬qy (fun x=>gb x c g==0) l (kx (fun x=>decide (gb x c g<0)) l)=true:=by
  intro hk;unfold qy at hk;split at hk
  ·rename_i z hz
   have hz':(z.cD==c&&z.handle==g)=true:=by
    have:=(yc z c g).1 (by simpa using hk)
    simp[this.1,this.2]
   rcases rp c g l 0 with ⟨_,h6⟩|⟨m,_,h6,_⟩
   ·have:=h6 z (aO hz);rw[hz'] at this; cases this
   ·apply h4;unfold yn;rw[h6];simp
  ·cases hk
 unfold tn at h0;rw[aQ k1,aQ h2,aQ h3,aQ k2,aQ h5,M6] at h0;exact h0
def Nt{t:Tree}(ht:∀i n,find t.ae i=some n->n.kind=1\/n.kind=2)(l:List dZ)(c g aq:Int){y:dZ}(hy:y∈(rL t l c g aq).1):y∈l\/(∃n,find t.ae y.aq=some n/\n.kind=1)/\yY y.cD y.handle=true:=by
 unfold rL at hy;split at hy
 ·exact .inl hy
 rename_i h1;split at hy
 ·exact .inl hy
 rename_i h2;split at hy
 ·exact .inl hy
 rename_i h3;split at hy
 ·exact .inl hy
 split at hy
 ·exact .inl hy
 rcases bB.1 hy with hy|hy
 ·exact .inl (dI hy)
 rcases bC.1 hy with rfl|hy
 ·right;simp only[dj,mL,gV,Bool.not_eq_false] at h2;obtain⟨n,hn⟩:=ct.1 h2.1;refine⟨⟨n,hn,?_⟩,?_⟩
  case refine_2 =>
   simp only[dj,ba,mL] at h1;simp only[yY,bm,ba];omega
  have hnn:aY t.ae aq=n:=by simp[aY,hn]
  rw[hnn] at h3;rcases ht _ _ hn with h|h
  ·exact h
  ·simp[h] at h3
 ·exact .inl (dk hy)
def Nu(t:Tree)(l:List dZ)(c g aq:Int){y:dZ}(hy:y∈l):y∈(rL t l c g aq).1:=by
 unfold rL;split
 ·exact hy
 split
 ·exact hy
 split
 ·exact hy
 split
 ·exact hy
 split
 ·exact hy
 simp only;generalize (kx _ l)=k;rw[<-cC k l] at hy;rcases bB.1 hy with hy|hy
 ·exact ew _ hy
 ·exact gu _ (aX _ hy)
section
attribute [local irreducible] eW fQ lh gK dW kr ar aM cq bI
def aoU(l:List dZ)(c h:Int)(hn:l.length<=100000):ar bK 185 [eo l,aE c,aE h] []=some (aE (yn l c h),[]):=by
 refine aw ?_;have e0:yn l c h=oY c h l (l.length-l.length):=by rw[Nat.sub_self]; rfl
 rw[e0];simp only[aav,ab2,EW,seval];refine lM (xs:=l) (by omega) (fun post (_:Unit)=>oY c h post (l.length-post.length)) (fun _ i=>[(0,eo l),(1,aE c),(2,aE h),(7,aE i)]) (fun _=>[]) (fun n=>some (aE n,([]:aH))) (fun _=>?_) (fun pre x post _ e hx cn hw h0 hm hi=>?_) ()
 ·simp only[ab2,bp,oY,EW,seval]
 ·have i1:=hi ();have e1:l.length-(x::post).length=pre.length:=by rw[e]; simp
  have e2:l.length-post.length=pre.length+1:=by rw[e]; simp; omega
  rw[e2] at i1;rw[e1,oY];cases h1:x.cD==c<;>cases h2:x.handle==h<;>simp only[ab2,cn,hx,hw,h0,h1,h2,gm,hV,dP,dD,dy,af,az,aG,EW,seval]<;>exact i1
def adr l c h hn:=cP (aoU l c h hn)
def aoW(l:List dZ)(aq:Int)(hn:l.length<=100000):ar bK 189 [eo l,aE aq] []=some (aE (G5 l aq),[]):=by
 refine aw ?_;simp only[aax,Vr,EW,seval];refine(KC (xs:=l) (by omega) (fun m n=>n<=m) (fun post (n:Nat)=>((n+post.countP fun x=>x.aq==aq:Nat):Int)) (fun n i=>[(0,eo l),(1,aE aq),(5,aE n),(6,aE i)]) (fun _=>[]) (fun n=>some (aE n,([]:aH))) (fun n _=>?_) (fun pre x post n e hx cn hw h0 hm hI hi=>?_) 0 (by omega)).trans (by simp[G5])
 ·simp only[Vr,bp,List.countP_nil,EW,seval]
 ·have i1:=hi n (by omega)
  have i2:=hi (n+1) (by omega)
  have hl:=(ak.1 hx).1;have w1:IntKind.i64.wrap ((n:Int)+1)=((n+1:Nat):Int):=by rw[fW (by omega) (by omega)]; rfl
  cases h1:x.aq==aq
  ·simp only[kK,h1,af,az,dg] at i1 ⊢;simp only[Vr,cn,hx,hw,h0,h1,gm,hV,EW,seval];exact i1
  ·have e2:n+(List.countP (fun x=>x.aq==aq) (x::post))=n+1+List.countP (fun x=>x.aq==aq) post:=by simp only[kK,h1,aG]; omega
   simp only[e2];simp only[Vr,cn,hx,hw,w1,h0,h1,gm,hV,EW,seval];exact i2
def aqF l aq hn:=cP (aoW l aq hn)
def aoT(t:Tree)(aq:Int)(ht:t.ae.length<=100000):ar bK 184 [bo t,aE aq] []=some (.bool ((find t.ae aq).isSome&&fO (aY t.ae aq)),[]):=by
 refine aw ?_;have q:=fun M=>Ae t.ae t.next t.aj aq ht M
 have hz:(find t.ae aq).getD Node.zero=aY t.ae aq:=rfl;rw[hz] at q;unfold fO;generalize aY t.ae aq=n at q
 cases h1:(find t.ae aq).isSome<;>rw[h1] at q<;>cases h2:n.kind==1<;>cases h3:n.dz==0 <;>
  simp only[aau,am1,bo,aI,q,h2,h3,bD,aF,dP,dD,dy,EW,seval]
def akP(ae:List Node)(next aj aq:Int)(h:ae.length<=100000)(M:aH):aM (ar bK) 184 [.agg [aN ae,aE next,aE aj],aE aq] M=some (.bool ((find ae aq).isSome&&fO (aY ae aq)),M) :=
 cO (aoT ⟨ae,next,aj⟩ aq h) M
def adp(ae:List Node)(next aj aq:Int)(s:Bytes)(ht:Small ⟨ae,next,aj⟩)(M:aH):aM (ar bK) 178 [.agg [aN ae,aE next,aE aj],aE aq,.str s] M =
  some (.agg [aN (cV ae aq s),aE next,aE aj],M):=cO (aoN ⟨ae,next,aj⟩ aq s ht) M
def XY{T:List ag}{n:Node}{e:fg}(hn:n.aL.length<=100000){k:List K}{R:List fg->Bool->Option (ag×aH)}
  (hx:∀out done v q,out.length<=300000->kr (ar bK) [.dB 8 3] 0 k ⟨.exit 0,[(2,.str e.name),(4,bX 0),(8,bX 1),(9,bX 2),(11,bX 3),(12,.slice (.own 4) (out.map fH)),(13,.bool done),(14,v),(30,q)],[.cells T,.cells zT,bO (aF n),bO (fa e),.tick 3 out.length]⟩=R out done)
  (hT:∀B M,T.map (ag.kC B M)=T) :
  ∀(l pre out:List fg)(done:Bool),n.aL=pre++l->out.length+2*l.length<=300000->eW (ar bK) [.dB 8 3] 0 k (.loop [2,4,8,9,11,12,13,14] Xe) [(2,.str e.name),(4,bX 0),(8,bX 1),(9,bX 2),(11,bX 3),(12,.slice (.own 4) (out.map fH)),(13,.bool done),(14,aE pre.length)] [.cells T,.cells zT,bO (aF n),bO (fa e),.tick 3 out.length]=R (uL e l out done).1 (uL e l out done).2:=by
 intro l;induction l with
 |nil =>
  intro pre out done h ho;rw[bt];simp only[EU,aF,gS,gM h,EN,seval];exact hx _ _ _ _ (by simp at ho; omega)
 |cons m r ih =>
  intro pre out done h ho;rw[bt];have dR:pre.length+1<=100000:=by rw[h] at hn; simp at hn; omega
  have hw:=vu pre m;have hi:=fun out done ho=>ih (pre++[m]) out done (by rw[h]; simp) ho
  simp only[au] at ho;have r1:cu (out.length+1) 32=True:=qm;have r2:cu (out.length+1+1) 32=True:=qm;have hg:(!(strLt m.name e.name||m.name==e.name))=gtB m.name e.name:=rfl
  rw[uL];simp only[EU,hg,aF,gS,fV h,fc h,fa,hT,zT,EN,seval]
  repeat' ((first|apply bq|apply bU|apply dE)<;>intro hb<;>simp only[hb,EN,EU,fc h,hw,r1,r2,fa,hT,zT,hg,seval])
  all_goals try simp only[EU,fc h,hw,r1,r2,fa,hT,zT,hg,EN,seval]
  all_goals first
   |(refine ik ?_ ((hi (out++[e]++[m]) true (by simp; omega)).trans ?_)
     ·simp only[bu,aP,bc,aD,au,av]; rfl
     ·clear hi ih hx hw h hT hg; simp_all; done)
   |(refine ik ?_ ((hi (out++[m]) done (by simp; omega)).trans ?_)
     ·simp only[bu,aP,bc,aD,au,av]; rfl
     ·clear hi ih hx hw h hT hg; simp_all; done)
def aoJ(t:Tree)(aq:Int)(s:Bytes)(of:Int)(ht:Small t):ar bK 174 [bo t,aE aq,.str s,aE of] []=some (bo (gz t aq s of),[]):=by
 refine aw ?_;have hd:=DK ht aq;unfold gz;simp only[PH,EU,bo,aI,Ae,ht.ae,bD,EN,seval];generalize (find t.ae aq).getD Node.zero=n at hd ⊢;simp only[EU,aF,EN,seval];refine(XY (e:=⟨s,of,t.aj⟩) (R:=fun out done=>some (bo ⟨ef t.ae { n with aL:=out++(if done then [] else [⟨s,of,t.aj⟩]) },t.next,lK (t.aj+1)⟩,[])) hd (fun out done v e ho=>?_) (fun B M=>by simp only[EU,EN,seval]) n.aL [] [] false rfl (by simp; omega)).trans (by simp[bo,aI,vK])
 have r1:cu (out.length+1) 32=True:=qm;cases done
 ·simp only[EU,zT,aF,fa,r1,Yx,Fk,ht.ae,EN,seval];simp[bo,aI]
 ·simp only[EU,zT,aF,fa,r1,Fk,ht.ae,EN,seval];simp[bo,aI]
def WI(ae:List Node)(next aj aq:Int)(s:Bytes)(of:Int)(ht:Small ⟨ae,next,aj⟩)(M:aH):aM (ar bK) 174 [.agg [aN ae,aE next,aE aj],aE aq,.str s,aE of] M =
  some (bo (gz ⟨ae,next,aj⟩ aq s of),M):=cO (aoJ ⟨ae,next,aj⟩ aq s of ht) M
def X2{t:Tree}(ht:t.ae.length<=100000){k:List K}{R:Nat->Option (ag×aH)}
  (hx:∀(d:Nat) v q,kr (ar bK) [.tmp 4] 0 k ⟨.exit 0,[(1,v),(2,bX 0),(5,aE d),(13,q)],[bO (aI t)]⟩=R d) :
  ∀(m:Nat)(aq:Int)(d:Nat),d+m=201->eW (ar bK) [.tmp 4] 0 k (.loop [1,2,5] Xl) [(1,aE aq),(2,bX 0),(5,aE d)] [bO (aI t)]=R (vi t.ae m aq d):=by
 intro m;induction m with
 |zero =>
  intro aq d hd;rw[bt];have hd':((d:Int)<=200)=False:=by simp; omega
  simp only[Ir,EN,seval]
  repeat' ((first|apply bq|apply bU|apply dE)<;>intro hb<;>simp only[hb,EN,Ir,hd',seval])
  all_goals exact hx _ _ _
 |succ m ih =>
  intro aq d hd;rw[bt];have hd':((d:Int)<=200)=True:=by simp; omega
  have hw:IntKind.i64.wrap ((d:Int)+1)=((d+1:Nat):Int):=by rw[fW (by omega) (by omega)]; rfl
  have hi:=fun aq=>ih aq (d+1) (by omega)
  rw[vi];simp only[Ir,EN,seval];refine bU (fun hb=>?_) (fun hb=>?_)
  ·simp only[Ir,hb,hd',hw,aI,Ae,ht,bD,aF,EN,seval];have h1:¬aq=1:=by simpa using hb
   rw[aQ h1];exact hi _
  ·simp only[Ir,hb,hd',hw,aI,Ae,ht,bD,aF,EN,seval];have h1:aq=1:=by simpa using hb
   rw[bh h1];exact hx _ _ _
def aoR(t:Tree)(aq:Int)(ht:t.ae.length<=100000):ar bK 182 [bo t,aE aq] []=some (aE (oT t.ae aq),[]):=by
 refine aw ?_;simp only[aas,Ir,bo,EN,seval];exact X2 (R:=fun(d:Nat)=>some (aE d,[])) ht (fun d v q=>by simp only[Ir,EN,seval]) 201 aq 0 rfl
def MX(ae:List Node)(next aj aq:Int)(h:ae.length<=100000)(M:aH):aM (ar bK) 182 [.agg [aN ae,aE next,aE aj],aE aq] M=some (aE (oT ae aq),M) :=
 cO (aoR ⟨ae,next,aj⟩ aq h) M
def apx(t:Tree)(n:Node)(ht:Small t):ar bK 246 [bo t,bD n] []=some (.bool (Cj t n),[]):=by
 refine aw ?_;simp only[aa1,agQ,bo,aI,bD,aF,MX,ht.ae,EN,seval];unfold Cj
 repeat' ((first|apply bq|apply bU|apply dE)<;>intro hb<;>simp only[hb,EN,agQ,MX,ht.ae,seval])
 all_goals simp_all
def aqQ(ae:List Node)(next aj a b c:Int)(d:Bytes)(e:List fg)(u:Int)(h:Small ⟨ae,next,aj⟩)(M:aH):aM (ar bK) 246 [.agg [aN ae,aE next,aE aj],.agg [aE a,aE b,aE c,cX d,gS e,aE u]] M =
  some (.bool (Cj ⟨ae,next,aj⟩ ⟨a,b,c,d,e,u⟩),M):=cO (apx ⟨ae,next,aj⟩ ⟨a,b,c,d,e,u⟩ h) M
def aoI(t:Tree)(aq:Int)(s:Bytes)(ht:Small t)(hs:s.length<=100000):ar bK 173 [bo t,aE aq,.str s] []=some (aE (nP t aq s),[]):=by
 refine aw ?_;have hd:=sJ ht aq;have ht':Small ⟨t.ae,t.next,t.aj⟩:=ht
 simp only[aan,ET,bo,aI,WJ,ht.ae,bD,aF,EN,seval];unfold nP;refine bq (fun hb=>?_) (fun hb=>?_)
 ·simp only[ET,EN,seval];simp_all
 ·simp only[ET,k97,hs,EN,seval];refine bq (fun hb'=>?_) (fun hb'=>?_)
  ·simp only[ET,EN,seval];simp_all
  ·simp only[ET,adq,hd,EN,seval];rcases sv s (gA t.ae aq).1.aL 0 with ⟨h1,h2⟩|⟨m,n,h1,h2,h3⟩
   ·rw[h2];simp only[ET,aqQ,ht',EN,seval];refine bq (fun hb''=>?_) (fun hb''=>?_)
    ·simp only[ET,EN,seval];simp_all
    ·simp only[ET,EN,seval];simp_all
   ·rw[h3];simp only[ET,EN,seval];simp_all
def adn(ae:List Node)(next aj aq:Int)(s:Bytes)(ht:Small ⟨ae,next,aj⟩)(hs:s.length<=100000)(M:aH):aM (ar bK) 173 [.agg [aN ae,aE next,aE aj],aE aq,.str s] M =
  some (aE (nP ⟨ae,next,aj⟩ aq s),M):=cO (aoI ⟨ae,next,aj⟩ aq s ht hs) M
def akM(ae:List Node)(next aj a b c u:Int)(h:ae.length<=100000)(M:aH):aM (ar bK) 175 [.agg [aN ae,aE next,aE aj],.agg [aE a,aE b,aE c,gH [],gH [],aE u]] M =
  some (.agg [aN (ef ae ⟨a,b,c,[],[],u⟩),aE next,aE aj],M):=Fk ae next aj a b c [] [] u h M
def NK{t:Tree}(hz:Sz 1000 t)(k u next aj a c:Int):Small ⟨ef t.ae ⟨a,k,c,[],[],u⟩,next,aj⟩:=(hz.with (by simp) (by simp) next aj).small (by omega)
set_option maxHeartbeats 1000000 in
def anO(t:Tree)(aq:Int)(s:Bytes)(kind:Int)(hz:Sz 1000 t)(hs:s.length<=100000):ar bK 106 [bo t,aE aq,.str s,aE kind] []=some (.tuple [bo (qR t aq s kind).1,aE (qR t aq s kind).2.1,aE (qR t aq s kind).2.2],[]):=by
 obtain⟨ae,next,aj⟩:=t
 refine aw ?_;have ht:Small ⟨ae,next,aj⟩:=hz.small (by omega)
 have hn:ae.length<=100000:=ht.ae;have hw:=fun k u next' cookie' a c=>NK hz k u next' cookie' a c
 simp only[ZR,agz,bo,aI,adn,ht,hs,EN,seval]
 repeat' ((first|apply bq|apply bU|apply dE)<;>intro hb<;>simp only[hb,EN,agz,adn,ht,hs,hn,akM,WI,hw,bo,aI,seval])
 all_goals (clear hw; simp_all only[qR,bo,aI,pj,↓reduceIte,reduceCtorEq,an]; done)
def ae7{t:Tree}{of:Int}(ht:t.ae.length<=100000){k:List K}{R:Bool->Option (ag×aH)}
  (hx:∀e,kr (ar bK) [.tmp 6] 0 k ⟨.exit 0,e,[bO (aI t)]⟩=R false) (hr:∀b,kr (ar bK) [.tmp 6] 0 k ⟨.ret,[(6,.bool b)],[bO (aI t)]⟩=R b) :
  ∀(m:Nat)(aq:Int)(d:Nat),d+m=t.ae.length+1->eW (ar bK) [.tmp 6] 0 k (.loop [1,2,3,7] aeN) [(1,aE aq),(2,aE of),(3,bX 0),(7,aE d)] [bO (aI t)]=R (lZ t.ae of m aq):=by
 intro m;induction m with
 |zero =>
  intro aq d hd;rw[bt];have hd':((d:Int)<=(t.ae.length:Int))=False:=by simp; omega
  simp only[VC,aI,aN,hd',EN,seval];exact hx _
 |succ m ih =>
  intro aq d hd;rw[bt];have hd':((d:Int)<=(t.ae.length:Int))=True:=by simp; omega
  have hw:IntKind.i64.wrap ((d:Int)+1)=((d+1:Nat):Int):=by rw[fW (by omega) (by omega)]; rfl
  have hi:=fun aq=>ih aq (d+1) (by omega)
  rw[lZ];simp only[VC,aI,aN,hd',EN,seval];refine bq (fun hb=>?_) (fun hb=>?_)
  ·have h1:aq=of:=by simpa using hb
   simp only[VC,EN,seval];rw[bh h1];exact hr _
  ·have h1:¬aq=of:=by simpa using hb
   simp only[VC,EN,seval];rw[aQ h1];refine bq (fun hb=>?_) (fun hb=>?_)
   ·have h1:aq=1:=by simpa using hb
    simp only[VC,EN,seval];rw[bh h1];exact hr _
   ·have h1:¬aq=1:=by simpa using hb
    simp only[VC,hw,Ae,ht,bD,aF,EN,seval];rw[aQ h1];exact hi _
def c39(t:Tree)(aq of:Int)(ht:t.ae.length<=100000):ar bK 39 [bo t,aE aq,aE of] []=some (.bool (hU t.ae aq of),[]):=by
 refine aw ?_;simp only[ajV,VC,bo,EN,seval];exact ae7 (R:=fun b=>some (.bool b,[])) ht (fun e=>by simp only[VC,EN,seval]) (fun b=>by simp only[VC,EN,seval]) (t.ae.length+1) aq 0 (by omega)
def k39(ae:List Node)(next aj aq of:Int)(h:ae.length<=100000)(M:aH):aM (ar bK) 39 [.agg [aN ae,aE next,aE aj],aE aq,aE of] M=some (.bool (hU ae aq of),M) :=
 cO (c39 ⟨ae,next,aj⟩ aq of h) M
def aqj(ae:List Node)(next aj aq:Int)(s:Bytes)(kind:Int)(hz:Sz 1000 ⟨ae,next,aj⟩)(hs:s.length<=100000)(M:aH):aM (ar bK) 106 [.agg [aN ae,aE next,aE aj],aE aq,.str s,aE kind] M =
  some (.tuple [bo (qR ⟨ae,next,aj⟩ aq s kind).1,aE (qR ⟨ae,next,aj⟩ aq s kind).2.1,aE (qR ⟨ae,next,aj⟩ aq s kind).2.2],M):=cO (anO ⟨ae,next,aj⟩ aq s kind hz hs) M
def anN(t:Tree)(aq to:Int)(s:Bytes)(hz:Sz 1000 t)(hs:s.length<=100000):ar bK 104 [bo t,aE aq,aE to,.str s] []=some (.tuple [bo (Bp t aq to s).1,aE (Bp t aq to s).2],[]):=by
 obtain⟨ae,next,aj⟩:=t
 refine aw ?_;have ht:Small ⟨ae,next,aj⟩:=hz.small (by omega)
 have hn:ae.length<=100000:=ht.ae;have hf:=hz.find aq;have hw':∀l,Small ⟨ef ae { aY ae aq with dz:=l },next,aj⟩:=fun l=>(hz.with (n:={ aY ae aq with dz:=l }) (iA hf.1) hf.2 next aj).small (by omega)
 simp only[ZQ,agy,bo,aI,Ae,hn,bD,aF,EN,seval]
 repeat' ((first|apply bq|apply bU|apply dE)<;>intro hb<;>simp only[hb,EN,agy,adn,ht,hs,hn,Fk,WI,hw',bo,aI,seval])
 all_goals (clear hw' hf; simp_all only[Bp,bo,aI,pj,↓reduceIte,reduceCtorEq,an]; done)
def aqi(ae:List Node)(next aj aq to:Int)(s:Bytes)(hz:Sz 1000 ⟨ae,next,aj⟩)(hs:s.length<=100000)(M:aH):aM (ar bK) 104 [.agg [aN ae,aE next,aE aj],aE aq,aE to,.str s] M =
  some (.tuple [bo (Bp ⟨ae,next,aj⟩ aq to s).1,aE (Bp ⟨ae,next,aj⟩ aq to s).2],M):=cO (anN ⟨ae,next,aj⟩ aq to s hz hs) M
def aoM(t:Tree)(aq:Int)(ht:Small t):ar bK 177 [bo t,aE aq] []=some (bo ⟨eF t.ae aq,t.next,t.aj⟩,[]):=by
 obtain⟨ae,next,aj⟩:=t
 refine aw ?_;have hn:ae.length<=100000:=ht.ae;simp only[aao,agK,bo,aI,Ae,hn,bD,aF,EN,seval]
 repeat' ((first|apply bq|apply bU|apply dE)<;>intro hb<;>simp only[hb,EN,agK,hn,Fk,ak6,bo,aI,seval])
 all_goals (simp_all only[eF,bo,aI,pj,↓reduceIte,reduceCtorEq,an]; done)
def ado(ae:List Node)(next aj aq:Int)(ht:Small ⟨ae,next,aj⟩)(M:aH):aM (ar bK) 177 [.agg [aN ae,aE next,aE aj],aE aq] M =
  some (.agg [aN (eF ae aq),aE next,aE aj],M):=cO (aoM ⟨ae,next,aj⟩ aq ht) M
def anP(t:Tree)(aq:Int)(s:Bytes)(hz:Sz 1000 t)(hs:s.length<=100000):ar bK 107 [bo t,aE aq,.str s] []=some (.tuple [bo (AA t aq s).1,aE (AA t aq s).2.1,aE (AA t aq s).2.2],[]):=by
 obtain⟨ae,next,aj⟩:=t
 refine aw ?_;have ht:Small ⟨ae,next,aj⟩:=hz.small (by omega)
 have hn:ae.length<=100000:=ht.ae;have hl:Small ⟨cV ae aq s,next,aj⟩:=(hz.left aq s next aj).small (by omega)
 simp only[ZT,agA,bo,aI,WD,ht,hs,bD,aF,EN,seval]
 repeat' ((first|apply bq|apply bU|apply dE)<;>intro hb<;>simp only[hb,EN,agA,hn,ht,hs,Ae,adp,ado,hl,bD,aF,bo,aI,seval])
 all_goals (simp_all only[AA,bo,aI,pj,↓reduceIte,reduceCtorEq,an]; done)
def aqk(ae:List Node)(next aj aq:Int)(s:Bytes)(hz:Sz 1000 ⟨ae,next,aj⟩)(hs:s.length<=100000)(M:aH):aM (ar bK) 107 [.agg [aN ae,aE next,aE aj],aE aq,.str s] M =
  some (.tuple [bo (AA ⟨ae,next,aj⟩ aq s).1,aE (AA ⟨ae,next,aj⟩ aq s).2.1,aE (AA ⟨ae,next,aj⟩ aq s).2.2],M):=cO (anP ⟨ae,next,aj⟩ aq s hz hs) M
def aoQ(t:Tree)(x:Node)(y:Int)(ht:Small t):ar bK 181 [bo t,bD x,aE y] []=some (aE (ud t.ae x.kind y),[]):=by
 obtain⟨ae,next,aj⟩:=t
 refine aw ?_;have hn:ae.length<=100000:=ht.ae;simp only[aar,agL,bo,aI,Ae,hn,bD,aF,EN,seval]
 repeat' ((first|apply bq|apply bU|apply dE)<;>intro hb<;>simp only[hb,EN,agL,seval])
 all_goals (simp_all only[ud,pj,↓reduceIte,reduceCtorEq,an]; done)
def akN(ae:List Node)(next aj a b c:Int)(d:Bytes)(e:List fg)(u y:Int)(ht:Small ⟨ae,next,aj⟩)(M:aH):aM (ar bK) 181 [.agg [aN ae,aE next,aE aj],.agg [aE a,aE b,aE c,cX d,gS e,aE u],aE y] M =
  some (aE (ud ae b y),M):=cO (aoQ ⟨ae,next,aj⟩ ⟨a,b,c,d,e,u⟩ y ht) M
def anZ(t:Tree)(aq:Int)(data:Bytes)(ht:Small t)(hd:data.length<=100000):ar bK 118 [bo t,aE aq,cX data] []=some (.tuple [bo (qt t aq data).1,aE (qt t aq data).2],[]):=by
 obtain⟨ae,next,aj⟩:=t
 refine aw ?_;have hn:ae.length<=100000:=ht.ae;have r1:cu data.length 1=True:=qm;simp only[Pv,agD,bo,aI,Ae,hn,bD,aF,EN,seval]
 repeat' ((first|apply bq|apply bU|apply dE)<;>intro hb<;>simp only[hb,EN,agD,hn,r1,Fk,bo,aI,seval])
 all_goals (simp_all only[qt,bo,aI,pj,↓reduceIte,reduceCtorEq,an]; done)
def akD(ae:List Node)(next aj aq:Int)(data:Bytes)(ht:Small ⟨ae,next,aj⟩)(hd:data.length<=100000)(M:aH):aM (ar bK) 118 [.agg [aN ae,aE next,aE aj],aE aq,cX data] M =
  some (.tuple [bo (qt ⟨ae,next,aj⟩ aq data).1,aE (qt ⟨ae,next,aj⟩ aq data).2],M):=cO (anZ ⟨ae,next,aj⟩ aq data ht hd) M
def aoX(t:Tree)(aq:Int)(ht:Small t):ar bK 190 [bo t,aE aq] []=some (.tuple [bo (jU t aq).1,aE (jU t aq).2],[]):=by
 obtain⟨ae,next,aj⟩:=t
 refine aw ?_;have hn:ae.length<=100000:=ht.ae;simp only[aay,agM,bo,aI,Ae,hn,bD,aF,EN,seval]
 repeat' ((first|apply bq|apply bU|apply dE)<;>intro hb<;>simp only[hb,EN,agM,hn,ak6,bo,aI,seval])
 all_goals (simp_all only[jU,bo,aI,pj,↓reduceIte,reduceCtorEq,an]; done)
def akR(ae:List Node)(next aj aq:Int)(ht:Small ⟨ae,next,aj⟩)(M:aH):aM (ar bK) 190 [.agg [aN ae,aE next,aE aj],aE aq] M =
  some (.tuple [bo (jU ⟨ae,next,aj⟩ aq).1,aE (jU ⟨ae,next,aj⟩ aq).2],M):=cO (aoX ⟨ae,next,aj⟩ aq ht) M
def c48:ar bK 48 [] []=some (bo vM,[]):=by
 refine aw ?_;simp only[ajY,E48,EN,seval];rfl
def k48:=cP c48
def X3{ae:List Node}{next aj aq at' d:Int}(ht:ae.length<=100000){k:List K}{R:Int->Option (ag×aH)}
  (hx:∀most v q,kr (ar bK) [.tmp 6] 0 k ⟨.exit 0,[(1,aE aq),(2,aE at'),(3,bX 0),(7,aE most),(8,aE d),(9,v),(19,q)],[bO (aI ⟨ae,next,aj⟩)]⟩=R most) :
  ∀(l pre:List Node)(most:Int),ae=pre++l->eW (ar bK) [.tmp 6] 0 k (.loop [1,2,3,7,8,9] Xm) [(1,aE aq),(2,aE at'),(3,bX 0),(7,aE most),(8,aE d),(9,aE pre.length)] [bO (aI ⟨ae,next,aj⟩)]=R (vk ae aq at' d l most):=by
 intro l;induction l with
 |nil =>
  intro pre most h;rw[bt];simp only[Ol,aI,gM h,EN,seval];exact hx _ _ _
 |cons n r ih =>
  intro pre most h;rw[bt];have dR:pre.length+1<=100000:=by rw[h] at ht; simp at ht; omega
  have hw:=vu pre n;have hi:=fun most=>ih (pre++[n]) most (by rw[h]; simp)
  rw[vk];simp only[aI] at hi;generalize hst:rG ae aq at' d n most=m1;simp only[Ol,aI,fV h,fc h,aF,EN,seval]
  repeat' ((first|apply bq|apply bU|apply dE)<;>intro hb<;>simp only[hb,EN,Ol,hw,k39,MX,ht,aF,seval])
  all_goals refine ik ?_ (hi m1)
  all_goals congr 1
  all_goals (subst hst; clear hi ih hx hw h ht; simp_all only[rG,lK,gt_iff_lt,aD,au,av,aK,pj,↓reduceIte,reduceCtorEq,an]; done)
def aoS(t:Tree)(aq at':Int)(ht:t.ae.length<=100000):ar bK 183 [bo t,aE aq,aE at'] []=some (aE (AR t.ae aq at'),[]):=by
 obtain⟨ae,next,aj⟩:=t
 have ht:ae.length<=100000:=ht;refine aw ?_;simp only[aat,Ol,bo,aI,MX,ht,EN,seval];exact X3 (R:=fun z=>some (aE z,[])) ht (fun most v q=>by simp only[Ol,EN,seval]) ae [] 0 rfl
def akO(ae:List Node)(next aj aq at':Int)(h:ae.length<=100000)(M:aH):aM (ar bK) 183 [.agg [aN ae,aE next,aE aj],aE aq,aE at'] M=some (aE (AR ae aq at'),M) :=
 cO (aoS ⟨ae,next,aj⟩ aq at' h) M
set_option maxHeartbeats 2000000 in
def anR(t:Tree)(jh:Int)(s:Bytes)(to:Int)(nm:Bytes)(hz:Sz 1000 t)(hs:s.length<=100000)(ha:nm.length<=100000):ar bK 109 [bo t,aE jh,.str s,aE to,.str nm] [] =
  some (.tuple [bo (vO t jh s to nm).1,aE (vO t jh s to nm).2.1,aE (vO t jh s to nm).2.2],[]):=by
 obtain⟨ae,next,aj⟩:=t
 have ht:Small ⟨ae,next,aj⟩:=hz.small (by omega)
 have hn:ae.length<=100000:=ht.ae;have hd:(gA ae to).1.aL.length<=100000:=sJ ht to;have z1:Sz 1001 ⟨cV ae jh s,next,aj⟩:=hz.left jh s next aj
 have z2:Sz 1002 ⟨cV (cV ae jh s) to nm,next,aj⟩:=z1.left to nm next aj
 have z3:∀y,Sz 1003 ⟨eF (cV (cV ae jh s) to nm) y,next,aj⟩:=fun y=>z2.unnamed y next aj
 have hx:=hz.find (eE ae jh s).1;have z4:∀y,Sz 1004 ⟨ef (eF (cV (cV ae jh s) to nm) y) { aY ae (eE ae jh s).1 with up:=to },next,aj⟩:=fun y=>(z3 y).with (n:={ aY ae (eE ae jh s).1 with up:=to }) (aV hx.1 (by omega)) hx.2 next aj
 have z5:Sz 1002 ⟨ef (cV ae jh s) { aY ae (eE ae jh s).1 with up:=to },next,aj⟩:=z1.with (n:={ aY ae (eE ae jh s).1 with up:=to }) (aV hx.1 (by omega)) hx.2 next aj
 have s1:=z1.small (by omega)
 have s2:=z2.small (by omega)
 have s3:=fun y=>(z3 y).small (by omega)
 have s4:=fun y=>(z4 y).small (by omega)
 have s5:=z5.small (by omega)
 have n1:(cV ae jh s).length<=100000:=s1.ae;have n3:∀y,(eF (cV (cV ae jh s) to nm) y).length<=100000:=fun y=>(s3 y).ae
 clear z1 z2 z3 z4 z5 hx;refine aw ?_;simp only[ZV,BH,bo,aI,WD,ht,hs,EN,seval];refine bq (fun hb0=>?_) (fun hb0=>?_)
 ·simp only[BH,hb0,EN,seval];clear s1 s2 s3 s4 s5 n1 n3;simp_all only[vO,bo,aI,pj,↓reduceIte,reduceCtorEq,an]
 simp only[BH,hb0,WJ,hn,bD,aF,EN,seval];refine bq (fun hb1=>?_) (fun hb1=>?_)
 ·simp only[BH,hb1,EN,seval];clear s1 s2 s3 s4 s5 n1 n3;simp_all only[vO,bo,aI,pj,↓reduceIte,reduceCtorEq,an]
 simp only[BH,hb1,k97,ha,EN,seval];refine bq (fun hb2=>?_) (fun hb2=>?_)
 ·simp only[BH,hb2,EN,seval];clear s1 s2 s3 s4 s5 n1 n3;simp_all only[vO,bo,aI,pj,↓reduceIte,reduceCtorEq,an]
 simp only[BH,hb2,adq,hd,EN,seval];rcases sv nm (gA ae to).1.aL 0 with ⟨h1,h2⟩|⟨m,n,h1,h2,h3⟩
 ·have hu:eZ (gA ae to).1.aL nm=0:=by simp[eZ,h1]
  rw[h2];simp only[BH,EN,seval]
  repeat' ((first|apply bq|apply bU|apply dE)<;>intro hb<;>simp only[hb,EN,BH,Ae,hn,ht,bD,aF,k39,akN,MX,akO,adp,ado,Fk,WI,s1,s2,s3,s4,s5,n1,n3,bo,aI,seval])
  all_goals (clear s1 s2 s3 s4 s5 n1 n3 h2; simp_all only[vO,pd,manyN,hu,bo,aI,pj,↓reduceIte,reduceCtorEq,an]; done)
 ·have hu:eZ (gA ae to).1.aL nm=n.aq:=by simp[eZ,h2]
  rw[h3];simp only[BH,h1,fa,EN,seval]
  repeat' ((first|apply bq|apply bU|apply dE)<;>intro hb<;>simp only[hb,EN,BH,Ae,hn,ht,bD,aF,k39,akN,MX,akO,adp,ado,Fk,WI,s1,s2,s3,s4,s5,n1,n3,bo,aI,seval])
  all_goals (clear s1 s2 s3 s4 s5 n1 n3 h3; simp_all only[vO,pd,manyN,hu,bo,aI,pj,↓reduceIte,reduceCtorEq,an]; done)
def aql(ae:List Node)(next aj jh:Int)(s:Bytes)(to:Int)(nm:Bytes)(hz:Sz 1000 ⟨ae,next,aj⟩)(hs:s.length<=100000)(ha:nm.length<=100000)(M:aH):aM (ar bK) 109 [.agg [aN ae,aE next,aE aj],aE jh,.str s,aE to,.str nm] M =
  some (.tuple [bo (vO ⟨ae,next,aj⟩ jh s to nm).1,aE (vO ⟨ae,next,aj⟩ jh s to nm).2.1,aE (vO ⟨ae,next,aj⟩ jh s to nm).2.2],M):=cO (anR ⟨ae,next,aj⟩ jh s to nm hz hs ha) M
def Tx{α:Type}(lt:α->Bool)(x:α)(l:List α):kx lt (x::l)=if lt x then kx lt l+1 else 0:=by
 unfold kx;rw[gZ];split<;>simp
def XN{l:List dZ}(hn:l.length<=100000){c h aq:Int}{t:Tree}{n:Node}{i:Nat}{k:List K}{R:Option (ag×aH)}
  (hx:∀z,kr (ar bK) [.tmp 10,.tmp 11] 0 k ⟨.exit 0,(1,eo l)::(2,aE c)::(3,aE h)::(4,aE aq)::(14,aE i)::z,[bO (aI t),bO (aF n)]⟩=R) :
  ∀(rest pre:List dZ),l=pre++rest->pre.length+kx (vC c h) rest=i->eW (ar bK) [.tmp 10,.tmp 11] 0 k (.loop [1,2,3,4,14] WX) [(1,eo l),(2,aE c),(3,aE h),(4,aE aq),(14,aE pre.length)] [bO (aI t),bO (aF n)]=R:=by
 simp only[aI,aF] at hx ⊢;intro rest;induction rest with
 |nil =>
  intro pre e hi;obtain rfl:pre.length=i:=by simpa[kx] using hi
  rw[bt];simp only[ER,gM e,EW,seval];exact hx _
 |cons x r ih =>
  intro pre e hi;rw[bt];have dR:pre.length+1<=100000:=by rw[e] at hn; simp at hn; omega
  have hw:=vu pre x;have i1:=ih (pre++[x]) (by rw[e]; simp)
  have h0:((pre.length:Int)<0)=False:=by simp
  simp only[aD,au,av,aK] at i1;rw[Tx] at hi;cases hl:vC c h x<;>rw[hl] at hi
  ·obtain rfl:pre.length=i:=by simpa using hi
   unfold vC at hl;cases h1:decide (x.cD<c)<;>cases h2:x.cD==c<;>cases h3:decide (x.handle<h)<;>rw[h1,h2,h3] at hl<;>first|(cases hl; done)|skip
   all_goals
    simp only[ER,fV e,fc e,hw,h0,h1,h2,h3,gm,hV,ei,dH,fu,cY,dP,dD,dy,aG,af,az,EW,seval];exact hx _
  ·have i1:=i1 (by simp at hi; omega)
   unfold vC at hl;cases h1:decide (x.cD<c)<;>cases h2:x.cD==c<;>cases h3:decide (x.handle<h)<;>rw[h1,h2,h3] at hl<;>first|(cases hl; done)|skip
   all_goals
    simp only[ER,fV e,fc e,hw,h0,h1,h2,h3,gm,hV,ei,dH,fu,cY,dP,dD,dy,aG,af,az,EW,seval];exact i1
def anT(t:Tree)(l:List dZ)(c h aq:Int)(ht:t.ae.length<=100000)(hn:l.length<=100000):ar bK 112 [bo t,eo l,aE c,aE h,aE aq] []=some (.tuple [eo (rL t l c h aq).1,aE (rL t l c h aq).2],[]):=by
 refine aw ?_;have qg:=fun M=>Ae t.ae t.next t.aj aq ht M
 have qo:=fun M=>akP t.ae t.next t.aj aq ht M
 have qp:=fun M=>adr l c h hn M
 have hz:(find t.ae aq).getD Node.zero=aY t.ae aq:=rfl;rw[hz] at qg
 obtain⟨A,B,hl,hA⟩:∃A B,l=A++B/\kx (vC c h) l=A.length:=⟨l.take (kx (vC c h) l),l.drop (kx (vC c h) l),by simp,by
  rw[il];have:kx (vC c h) l<=l.length:=by unfold kx; exact(List.takeWhile_prefix _).length_le
  omega⟩
 have hlo:=fun {k R} hx=>XN (t:=t) (n:=aY t.ae aq) (c:=c) (h:=h) (aq:=aq) (i:=A.length) hn (k:=k) (R:=R) hx l [] rfl (by simpa using hA)
 unfold rL;rw[hA];have a1:l.take A.length=A:=by rw[hl]; simp
 have a2:l.drop A.length=B:=by rw[hl]; simp
 have a3:((A.length:Int)<=(l.length:Int))=True:=by rw[hl]; simp; omega
 have hal:A.length+B.length<=100000:=by rw[hl] at hn; simpa using hn
 have r1:cu A.length 24=True:=qm;have r2:cu (A.length+1) 24=True:=qm;have r3:cu (A.length+1+B.length) 24=True:=qm;generalize aY t.ae aq=n at qg qo hlo;generalize (find t.ae aq).isSome=is at qg qo;generalize yn l c h=p at qp
 cases h1:decide (c<0)<;>cases h2:decide (16<=c)<;>cases h3:decide (h<0)<;>cases h4:decide (99<h) <;>
  simp only[Pt,ER,bo,aI,qg,h1,h2,h3,h4,bD,aF,ei,dH,fu,cY,eR,aG,af,az,EW,seval]
 cases is<;>cases h5:fO n<;>rw[h5] at qo<;>simp only[j7,gJ,dP,dD,dy] at qo <;>
  simp only[ER,qo,ei,dH,fu,cY,eR,aG,af,az,EW,seval]
 cases h6:n.kind==2<;>simp only[ER,h6,aG,af,az,EW,seval]
 cases h7:decide (0<=p)<;>simp only[ER,qp,h7,aG,af,az,EW,seval]
 cases h8:decide (64<=(l.length:Int))<;>simp only[ER,h8,aG,af,az,EW,seval]
 simp only[av,aK,aI,aF] at hlo;refine hlo (fun z=>?_)
 rw[a1,a2];have a1':(l.map gm).take A.length=A.map gm:=by rw[<-eO,a1]
 have a2':(l.map gm).drop A.length=B.map gm:=by rw[<-jw,a2]
 have a5:(l.map gm).take l.length=l.map gm:=by rw[<-eO,cg]
 simp only[ER,a1',a2',a3,a5,r1,r2,r3,cZ,EW,seval];simp[gm,hV]
def aqm(ae:List Node)(next aj:Int)(l:List dZ)(c h aq:Int)(ht:ae.length<=100000)(hn:l.length<=100000)(M:aH):aM (ar bK) 112 [.agg [aN ae,aE next,aE aj],eo l,aE c,aE h,aE aq] M=some (.tuple [eo (rL ⟨ae,next,aj⟩ l c h aq).1,aE (rL ⟨ae,next,aj⟩ l c h aq).2],M):=cO (anT ⟨ae,next,aj⟩ l c h aq ht hn) M
structure vd(t:Tree)(l:List dZ)(u:Tree)(m:List dZ):Prop where
 rt:Rt u
 jd:sd m
 len:m.length<=64
 mem:∀y,y∈m->y∈l/\(rb t.ae y.aq->rb u.ae y.aq)
 Lu:(∀n,n∈t.ae->fO n=true->nj l n.aq=true)->∀n,n∈u.ae->fO n=true->nj m n.aq=true
 dir:∀i,K5 t.ae i->K5 u.ae i
 one:∀Q,OD t Q->OD u Q
 use:∀q,kP u q=kP t q
theorem vd.refl{t:Tree}{l:List dZ}(ht:Rt t)(hl:sd l)(hn:l.length<=64):vd t l t l:=⟨ht,hl,hn,fun _ hy=>⟨hy,id⟩,id,fun _=>id,fun _=>id,fun _=>rfl⟩
theorem vd.trans{t u v:Tree}{l m k:List dZ}(h:vd t l u m)(g:vd u m v k):vd t l v k:=⟨g.rt,g.jd,g.len,fun y hy=>⟨(h.mem y (g.mem y hy).1).1,fun hf=>(g.mem y hy).2 ((h.mem y (g.mem y hy).1).2 hf)⟩,fun ho=>g.Lu (h.Lu ho),fun i hi=>g.dir i (h.dir i hi),fun Q hQ=>g.one Q (h.one Q hQ),fun q=>(g.use q).trans (h.use q)⟩
theorem yU{l:List dZ}{y:dZ}(h:y∈l){i:Int}(e:y.aq=i):nj l i=true:=fZ.2 ⟨y,h,by simp[e]⟩
def of_held{l:List dZ}{i:Int}(h:nj l i=true):∃y,y∈l/\y.aq=i:=by
 obtain⟨y,h1,h2⟩:=fZ.1 h;exact⟨y,h1,by simpa using h2⟩
theorem LI{t u:Tree}{l A B:List dZ}{x:dZ}(ht:Rt t)(hl:sd l)(hn:l.length<=64)(he:l=A++x::B)(hu:u=t/\(((find t.ae x.aq).isSome&&fO (aY t.ae x.aq))=true->nj (A++B) x.aq=true)\/u=(jU t x.aq).1/\nj (A++B) x.aq=false):vd t l u (A++B):=by
 subst he;have hsub:(A++B).Sublist (A++x::B):=List.Sublist.append (List.Sublist.refl _) (List.sublist_cons_self _ _);have dR:(A++B).length<=64:=aV hsub.length_le hn
 have hor:∀y,y∈A++x::B->y=x\/y∈A++B:=fun y hy=>by
  rcases bB.1 hy with h|h
  ·exact .inr (ew _ h)
  ·rcases bC.1 h with h|h
   ·exact .inl h
   ·exact .inr (gu _ h)
 rcases hu with ⟨rfl,hb⟩|⟨rfl,hb⟩
 ·exact⟨ht,hl.sublist hsub,dR,fun y hy=>⟨hsub.mem hy,id⟩,fun h n hm ho=>by
   obtain⟨y,h1,h2⟩:=of_held (h n hm ho);rcases hor y h1 with rfl|h3
   ·rw[<-h2];refine hb ?_;have:=(eD ht.ja.jd).2 ⟨hm,h2.symm⟩;simp[aY,this,ho]
   ·exact yU h3 h2,fun _=>id,fun _=>id,fun _=>rfl⟩
 ·have hf:=ht.free x.aq;have hff:=w8 ht x.aq;refine⟨hf,hl.sublist hsub,dR,fun y hy=>⟨hsub.mem hy,fun hi=>Cs ht x.aq hi fun e=>by rw[yU hy e] at hb; cases hb⟩,fun h n hm ho=>?_,fun i hi=>?_,YB ht x.aq,fun q=>by simp only[kP,NT ht]⟩
  ·have h1:=(eD hf.ja.jd).2 ⟨hm,rfl⟩;rw[hff] at h1;split at h1
   ·cases h1
   rename_i hc;obtain⟨y,g1,g2⟩:=of_held (h n (bR h1).1 ho);rcases hor y g1 with rfl|h3
   ·exact absurd ⟨g2.symm,n,by rw[g2]; exact h1,ho⟩ hc
   ·exact yU h3 g2
  ·obtain⟨n,h1,h2⟩:=hi;refine⟨n,?_,h2⟩;rw[hff,aQ,h1];rintro⟨rfl,m,g1,g2⟩;rw[h1] at g1; cases g1;simp[fO,h2] at g2
def aiP(t:Tree)(l:List dZ)(c h:Int)(ht:Rt t)(hl:sd l)(hn:l.length<=64):∃u m e,ar bK 115 [bo t,eo l,aE c,aE h] []=some (.tuple [bo u,eo m,aE e],[])/\vd t l u m:=by
 have qp:=fun M=>adr l c h (by omega) M
 have hnl:=ht.sz.ae;rcases rp c h l 0 with ⟨hp,_⟩|⟨m,x,hp,hx,_⟩<;>rw[show oY c h l 0=yn l c h from rfl] at hp
 ·rw[hp] at qp;refine⟨t,l,80,aw ?_,vd.refl ht hl hn⟩;simp only[DP,Vl,bo,aI,qp,EW,seval]
 ·rw[hp,aK] at qp;have hm:=(ak.1 hx).1;have h1:((m:Int)<0)=False:=by simp
  have h2:((m:Int)<(l.length:Int))=True:=uq;have w1:IntKind.i64.wrap ((m:Int)+1)=((m+1:Nat):Int):=by rw[fW (by omega) (by omega)]; rfl
  have h3:((m:Int)<=(l.length:Int))=True:=uq;have h4:(((m+1:Nat):Int)<=(l.length:Int))=True:=uq;obtain⟨A,B,e1,e2⟩:∃A B,l.take m=A/\l.drop (m+1)=B:=⟨_,_,rfl,rfl⟩
  have he:l=A++x::B:=by
   have hxe:x=l[m]:=(ak.1 hx).2.symm;rw[<-e1,<-e2,hxe,List.getElem_cons_drop hm,cC]
  have sh:=fun u hu=>LI (u:=u) ht hl hn he hu
  have hab:A.length+B.length<=64:=by rw[he] at hn; simp at hn; omega
  have qo:=fun M=>akP t.ae t.next t.aj x.aq (by omega) M
  have qh:=fun M=>aqF (A++B) x.aq (by simp; omega) M
  have qf:=fun M=>akR t.ae t.next t.aj x.aq ht.small M
  have hD:nj (A++B) x.aq = !(G5 (A++B) x.aq==0):=by
   rw[eJ];unfold nj G5;rw[fZ,<-List.countP_pos_iff (p:=fun z:dZ=>z.aq==x.aq)]
   simp only[gV,jL];omega
  rw[hD] at sh;have a1:(l.map gm).take m=A.map gm:=by rw[<-eO,e1]
  have a2:(l.map gm).drop (m+1)=B.map gm:=by rw[<-jw,e2]
  have a5:(l.map gm).take l.length=l.map gm:=by rw[<-eO,cg]
  have r1:cu A.length 24=True:=qm;have r2:cu (A.length+B.length) 24=True:=qm;generalize ((find t.ae x.aq).isSome&&fO (aY t.ae x.aq))=b at qo sh;generalize jU t x.aq=v at qf sh;have eAB:eo (A++B) = gH (A.map gm++B.map gm):=congrArg (ag.slice .sh) bu;rw[eAB] at qh;cases b
  ·refine⟨t,A++B,0,aw ?_,sh t (.inl ⟨rfl,fun h=>by cases h⟩)⟩
   rw[eAB];simp only[DP,Vl,bo,aI,qp,qo,h1,h2,h3,h4,w1,hx,a1,a2,a5,r1,r2,gm,hV,bu,cZ,EW,seval]
  ·cases h5:G5 (A++B) x.aq==0<;>rw[h5] at sh
   ·refine⟨t,A++B,0,aw ?_,sh t (.inl ⟨rfl,fun _=>rfl⟩)⟩
    rw[eAB];simp only[DP,Vl,bo,aI,qp,qo,qh,h1,h2,h3,h4,h5,w1,hx,a1,a2,a5,r1,r2,gm,hV,bu,cZ,EW,seval]
   ·refine⟨v.1,A++B,0,aw ?_,sh v.1 (.inr ⟨rfl,rfl⟩)⟩;rw[eAB];simp only[DP,Vl,bo,aI,qp,qo,qh,qf,h1,h2,h3,h4,h5,w1,hx,a1,a2,a5,r1,r2,gm,hV,bu,cZ,EW,seval]
def c55(t:Tree)(l:List dZ)(c:Int)(ht:Rt t)(hl:sd l)(hn:l.length<=64):∃u m,ar bK 55 [bo t,eo l,aE c] []=some (.tuple [bo u,eo m],[])/\vd t l u m:=by
 have key:∃r:ag×aH,(∃u m,r=(.tuple [bo u,eo m],[])/\vd t l u m)/\eW (ar bK) Wq.results 0 [] Wq.body (fq 0 [bo t,eo l,aE c]) []=some r:=by
  simp only[Wq,E55,bo,aI,EW,seval];refine iu (xs:=List.replicate 100 ()) (by simp) (fun _ (s:Tree×List dZ)=>vd t l s.1 s.2) (fun s i=>[(1,eo s.2),(2,aE c),(3,bX 0),(6,bX 1),(8,aE i)]) (fun s=>[bO [aN s.1.ae,aE s.1.next,aE s.1.aj],bO [.slice .c0 [],aE 0,aE 0]]) _ (fun s hs=>?_) (fun pre x post s e hx cn hw h0 _ hs hi=>?_) (t,l) (vd.refl ht hl hn)
  ·have e1:(((100:Nat):Int)<=99)=False:=by simp
   simp only[E55,e1,kh,EW,seval];exact⟨_,⟨s.1,s.2,rfl,hs⟩,rfl⟩
  ·have e1:((pre.length:Int)<=99)=True:=by
    have:=of_eq_true cn;rw[kh] at this;simp only[eH,im]; omega
   obtain⟨u,m,e,q,hq⟩:=aiP s.1 s.2 c pre.length hs.rt hs.jd hs.len;have qc:=cP q;simp only[bo,aI] at qc;have i1:=hi (u,m) (hs.trans hq);simp only[E55,e1,hw,qc,EW,seval];exact i1
 obtain⟨_,⟨u,m,rfl,h1⟩,h3⟩:=key;exact⟨u,m,aw h3,h1⟩
def anW(l:List dZ)(c h:Int)(hn:l.length<=64):∃i e,ar bK 116 [eo l,aE c,aE h] []=some (.tuple [aE i,aE e],[]):=by
 have qp:=fun M=>adr l c h (by omega) M
 rcases rp c h l 0 with ⟨hp,_⟩|⟨m,x,hp,hx,_⟩<;>rw[show oY c h l 0=yn l c h from rfl] at hp
 ·rw[hp] at qp;refine⟨0,80,aw ?_⟩;simp only[Pu,agC,qp,EW,seval]
 ·rw[hp,aK] at qp;have hm:=(ak.1 hx).1;have h1:((m:Int)<0)=False:=by simp
  have h2:((m:Int)<(l.length:Int))=True:=uq;refine⟨x.aq,0,aw ?_⟩;simp only[Pu,agC,qp,h1,h2,hx,gm,hV,EW,seval]
def apy(l:List dZ)(aq:Int)(hn:l.length<=100000):ar bK 247 [eo l,aE aq] []=some (.bool (l.any fun x=>x.aq==aq),[]):=by
 refine aw ?_;simp only[aa2,ab9,EW,seval];refine lM (xs:=l) (by omega) (fun post (_:Unit)=>post.any fun x=>x.aq==aq) (fun _ i=>[(0,eo l),(1,aE aq),(5,aE i)]) (fun _=>[]) (fun z=>some (ag.bool z,([]:aH))) (fun _=>?_) (fun pre x post _ e hx cn hw h0 hm hi=>?_) ()
 ·simp[ab9,bp,List.any_nil,EW]
 ·have i1:=hi ();rw[kY];cases h1:x.aq==aq<;>simp only[ab9,cn,hx,hw,h1,gm,hV,dH,cY,EW,seval]<;>exact i1
def aqR(l:List dZ)(aq:Int)(hn:l.length<=100000)(M:aH):aM (ar bK) 247 [eo l,aE aq] M=some (.bool (l.any fun x=>x.aq==aq),M):=cO (apy l _ hn) M
theorem apA(t:Tree)(l:List cv)(hr:Rt t)(hl:l.length<=100000):∃b:Bool,ar bK 249 [bo t,cJ l] []=some (.bool b,[])/\(b=false->∀y,y∈l->kP t y=false):=by
 have key:∃r:ag×aH,(∃b:Bool,r=(.bool b,[])/\(b=false->∀y,y∈l->kP t y=false))/\eW (ar bK) KU.results 0 [] KU.body (fq 0 [bo t,cJ l]) []=some r:=by
  simp only[KU,aca,bo,aI,EW,seval];refine iu (xs:=l) (by omega) (fun m (_:Unit)=>∀y,y∈l.take m->kP t y=false) (fun _ i=>[(1,cJ l),(2,bX 0),(5,aE i)]) (fun _=>[bO [aN t.ae,aE t.next,aE t.aj]]) _ (fun _ ho=>?_) (fun pre x post _ e hx cn hw h0 _ ho hi=>?_) () (fun y hy=>by grind)
  ·simp only[aca,bp,EW,seval];rw[cg] at ho;simp_all
  ·obtain⟨a,b,q,u1,u2⟩:=aiW t x.aq hr;have qu:=cP q;simp only[bo,aI] at qu;have htk:l.take (pre.length+1)=l.take pre.length++[x]:=by rw[cB,hx]; rfl
   have i1:=fun h=>hi () (fun y hy=>by
    rw[htk] at hy;exact(bB.1 hy).elim (ho y) fun hy=>by rw[bP.1 hy]; omega)
   cases h1:decide (x.ae<a)<;>cases h2:decide (x.bytes<b)<;>simp only[aca,cn,hx,hw,qu,h1,h2,dM,gU,EW,seval]<;>first|exact⟨_,⟨_,rfl,fun h=>by cases h⟩,rfl⟩|exact i1 (by simp only[dq] at h1 h2; simp only[kP,jY,bm,ba]; omega)
 obtain⟨_,⟨b,rfl,h1⟩,h3⟩:=key;exact⟨b,aw h3,h1⟩
section
variable {t:Tree} {l:List cv} {Q:ag×aH->Prop}
def Zq(t:Tree)(l:List cv)(v:Int)(S:Node->fg->Prop)(a:Int):Prop:=(∀d e,S d e->e.aq=v->jM t.ae l d.aq=a)/\(a<0->∀d e,S d e->e.aq≠v)
abbrev Vk(t:Tree):aH:=[.cells [aN t.ae,.int .i64 t.next,.int .i64 t.aj]]
theorem Tr{cz:Int->Nat}(h:cF t cz 0)(hq:ov l)(hl:l.length<=100000){S:Node->fg->Prop}{i j:Nat}{x d:Node}(hi':t.ae[i]?=some x)(hdm:d∈t.ae)(hd:d.aL.length<=100000){k:List K}
  (hx:∀(a:Int) z,Zq t l x.aq (fun d' e'=>S d' e'\/(d'=d/\e'∈d.aL)) a->∃r,Q r/\kr (ar bK) [.tmp 4] 0 k ⟨.exit 4,(1,cJ l)::(2,bX 0)::(5,aE i)::(6,aE a)::(7,aE j)::(8,bX 1)::z,Vk t++[bO (aF d)]⟩=some r)
  (hr:∀M,∃r,Q r/\kr (ar bK) [.tmp 4] 0 k ⟨.ret,[(4,.bool false)],M⟩=some r) (a:Int) (ha:Zq t l x.aq S a) :
  ∃r,Q r/\eW (ar bK) [.tmp 4] 0 k (.loop [1,2,5,6,7,8,9] Xz) [(1,cJ l),(2,bX 0),(5,aE i),(6,aE a),(7,aE j),(8,bX 1),(9,aE 0)] (Vk t++[bO (aF d)])=some r:=by
 have b1:((i:Int)<0)=False:=by simp
 refine iu (xs:=d.aL) (by omega) (fun m (a:Int)=>Zq t l x.aq (fun d' e'=>S d' e'\/(d'=d/\e'∈d.aL.take m)) a) (fun(a:Int) n=>[(1,cJ l),(2,bX 0),(5,aE i),(6,aE a),(7,aE j),(8,bX 1),(9,aE n)]) (fun _=>Vk t++[bO (aF d)]) Q (fun a ha=>?_) (fun pre e post a hp hx' cn hw h0 hm ha hi=>?_) a ⟨fun d' e' h1 h2=>h1.elim (fun h1=>ha.1 d' e' h1 h2) fun h1=>by simp at h1,fun h0 d' e' h1=>h1.elim (ha.2 h0 d' e') fun h1=>by simp at h1⟩
 ·simp only[Vk,aF,aU,aW] at hx ⊢;simp only[Dh,bp,EW,seval];rw[cg] at ha;exact hx a _ ha
 ·have hfd:=(eD h.ja.jd).2 ⟨hdm,rfl⟩
  have hkd:d.kind=2:=by
   rcases h.kind _ _ hfd with h1|h1
   ·rw[(h.file _ _ hfd h1).1] at hm; cases hm
   ·exact h1
  have qd:=fun M=>cO (apQ h hq hl hfd hkd) M
  have hge:0<=jM t.ae l d.aq:=Gx h l 13 d.aq d hfd hkd;have htk:d.aL.take (pre.length+1)=d.aL.take pre.length++[e]:=by rw[cB,hx']; rfl
  generalize hu:jM t.ae l d.aq=u at qd hge;simp only[bo,aI] at qd
  have i1:=fun hne:e.aq≠x.aq=>hi a ⟨fun d' e' h1 h2=>ha.1 d' e' (h1.imp id fun h1=>⟨h1.1,by
    have h1:=h1.2;rw[htk] at h1
    grind⟩) h2,fun h0 d' e' h1 h2=>ha.2 h0 d' e' (h1.imp id fun h1=>⟨h1.1,by
    have h1:=h1.2;rw[htk] at h1;rcases bB.1 h1 with h1|h1
    ·exact h1
    grind⟩) h2⟩
  have i2:=fun hau:a<0\/u=a=>hi u ⟨fun d' e' h1 h2=>by
    have uo:∀d' e',(S d' e'\/(d'=d/\e'∈d.aL.take pre.length))->e'.aq=x.aq->jM t.ae l d'.aq=u:=fun d' e' g1 g2=>by
     rcases hau with h0|h0
     ·exact absurd g2 (ha.2 h0 d' e' g1)
     ·rw[h0]; exact ha.1 d' e' g1 g2
    rcases h1 with h1|⟨rfl,h1⟩
    ·exact uo d' e' (.inl h1) h2
    ·exact hu,fun h0=>by omega⟩
  simp only[Vk,aF,aU,aW] at i1 i2 ⊢;cases h1:e.aq != x.aq
  ·cases h2:decide (0<=a)<;>cases h3:u != a<;>simp only[Dh,cn,hx',hw,hi',qd,h1,h2,h3,bD,aF,fH,fa,EW,seval]<;>first|exact hr _|exact i2 (by simp only[dq] at h2; omega)|exact i2 (.inr (by simpa using h3))
  ·simp only[Dh,cn,hx',hw,hi',h1,bD,aF,fH,fa,EW,seval];exact i1 (by simpa using h1)
theorem Ts{cz:Int->Nat}(h:cF t cz 0)(hq:ov l)(he:∀n,n∈t.ae->n.aL.length<=100000)(hl:l.length<=100000){i:Nat}{x:Node}(hi':t.ae[i]?=some x){k:List K}
  (hx:∀z,(∃a,Zq t l x.aq (fun d' e'=>d'∈t.ae/\e'∈d'.aL) a)->∃r,Q r/\kr (ar bK) [.tmp 4] 0 k ⟨.exit 2,(1,cJ l)::(2,bX 0)::(5,aE i)::z,Vk t⟩=some r)
  (hr:∀M,∃r,Q r/\kr (ar bK) [.tmp 4] 0 k ⟨.ret,[(4,.bool false)],M⟩=some r) (a:Int) (ha:Zq t l x.aq (fun _ _=>False) a) :
  ∃r,Q r/\eW (ar bK) [.tmp 4] 0 k (.loop [1,2,5,6,7] XA) [(1,cJ l),(2,bX 0),(5,aE i),(6,aE a),(7,aE 0)] (Vk t)=some r:=by
 have h200:=h.ae;refine iu (xs:=t.ae) (by omega) (fun m (a:Int)=>Zq t l x.aq (fun d' e'=>d'∈t.ae.take m/\e'∈d'.aL) a) (fun(a:Int) n=>[(1,cJ l),(2,bX 0),(5,aE i),(6,aE a),(7,aE n)]) (fun _=>Vk t) Q (fun a ha=>?_) (fun pre d post a hp hx' cn hw h0 hm ha hi=>?_) a ⟨fun d' e' h1=>by simp at h1,fun h0 d' e' h1=>by simp at h1⟩
 ·simp only[Dh,bp,EW,seval];rw[cg] at ha;exact hx _ ⟨a,ha⟩
 ·have la:=fun {k} h2 h3=>Tr (t:=t) (l:=l) (Q:=Q) h hq hl (j:=pre.length) hi' hm (he d hm) (k:=k) h2 h3 a ha
  have htk:t.ae.take (pre.length+1)=t.ae.take pre.length++[d]:=by rw[cB,hx']; rfl
  simp only[Vk,aF,aU,aW] at la ⊢;simp only[Dh,cn,hx',bD,aF,EW,seval];refine la (fun a z ha'=>?_) (fun M=>?_)
  ·have sub:∀d' e',(d'∈t.ae.take (pre.length+1)/\e'∈d'.aL)->((d'∈t.ae.take pre.length/\e'∈d'.aL)\/(d'=d/\e'∈d.aL)):=fun d' e' ⟨g1,g2⟩=>by
    rw[htk] at g1
    grind
   have i1:=hi a ⟨fun d' e' g=>ha'.1 d' e' (sub d' e' g),fun h0 d' e' g=>ha'.2 h0 d' e' (sub d' e' g)⟩
   simp only[Dh,hw,EW,seval];exact i1
  ·simp only[EW,seval];exact hr _
end
theorem apz(t:Tree)(l:List cv)(hr:Rt t)(hq:ov l)(hl:l.length<=100000):∃b:Bool,ar bK 248 [bo t,cJ l] []=some (.bool b,[])/\(b=true->OD t l):=by
 have he:∀n,n∈t.ae->n.aL.length<=100000:=fun n hn=>by have:=(hr.Vj hn).1; omega
 have h200:=hr.sz.ae;obtain⟨cz,h⟩:=hr
 have key:∃r:ag×aH,(∃b:Bool,r=(.bool b,[])/\(b=true->OD t l))/\eW (ar bK) KT.results 0 [] KT.body (fq 0 [bo t,cJ l]) []=some r:=by
  simp only[KT,Dh,bo,aI,EW,seval];refine iu (xs:=t.ae) (by omega) (fun m (_:Unit)=>∀x,x∈t.ae.take m->x.kind=1->∃a,Zq t l x.aq (fun d' e'=>d'∈t.ae/\e'∈d'.aL) a) (fun _ i=>[(1,cJ l),(2,bX 0),(5,aE i)]) (fun _=>Vk t) _ (fun _ ho=>?_) (fun pre x post _ e hx cn hw h0 _ ho hi=>?_) () (fun y hy=>by simp at hy)
  ·simp only[Dh,bp,EW,seval];rw[cg] at ho;refine⟨_,⟨_,rfl,fun _ d1 e1 d2 e2 x h1 h2 h3 h4 h5 h6 h7=>?_⟩,rfl⟩
   obtain⟨x1,x2⟩:=bR h6;obtain⟨a,ha⟩:=ho x x1 h7;rw[ha.1 d1 e1 ⟨h1,h2⟩ x2.symm,ha.1 d2 e2 ⟨h3,h4⟩ (h5.symm.trans x2.symm)]
  ·have htk:t.ae.take (pre.length+1)=t.ae.take pre.length++[x]:=by rw[cB,hx]; rfl
   have lb:=fun {k Q} h2 h3=>Ts (t:=t) (l:=l) (Q:=Q) h hq he hl hx (k:=k) h2 h3 (-1) ⟨fun _ _ h=>h.elim,fun _ _ _ h=>h.elim⟩
   have i1:=fun hh:x.kind=1->∃a,Zq t l x.aq (fun d' e'=>d'∈t.ae/\e'∈d'.aL) a=>hi () (fun y hy=>by
    rw[htk] at hy;exact(bB.1 hy).elim (ho y) fun hy=>by rw[bP.1 hy]; exact hh)
   cases h1:x.kind != 1<;>simp only[Dh,cn,hx,hw,h1,bD,aF,EW,seval]
   ·refine lb (fun z hz=>?_) (fun M=>?_)
    ·simp only[Dh,hw,EW,seval];exact i1 fun _=>hz
    ·simp only[EW,seval];simp
   ·exact i1 fun hk=>absurd hk (by grind)
 obtain⟨_,⟨b,rfl,h1⟩,h3⟩:=key;exact⟨b,aw h3,h1⟩
section
variable {f:aa} {t:Tree} {q:List cv} {Q:ag×aH->Prop}
abbrev stM(f:aa)(t:Tree):aH:=[.cells (cG f),.cells [aN t.ae,.int .i64 t.next,.int .i64 t.aj],.cells rZ]
abbrev FQ(q:List cv):Env:=[(2,cJ q),(3,.ptr 0 0),(4,.ptr 1 0),(6,.ptr 2 0)]
def Tf(ht:Rt t)(hh:f.holds.length<=64){k:List K}
  (hx:∀(F:List Int) z,F.length<=1000->(∀i,i∈F->∀y,y∈f.holds->y.aq≠i)->(∀n,n∈t.ae->fO n=true->nj f.holds n.aq=false->n.aq∈F)->∃r,Q r/\kr (ar bK) [.dB 6 10,.tmp 7] 0 k ⟨.exit 0,FQ q++(8,.slice (.own 3) (F.map kv))::z,stM f t++[.tick 1 F.length]⟩=some r) :
  ∃r,Q r/\eW (ar bK) [.dB 6 10,.tmp 7] 0 k (.loop [2,3,4,6,8,9] Xg) (FQ q++[(8,.slice (.own 3) []),(9,aE 0)]) (stM f t++[.tick 1 0])=some r:=by
 have h200:=ht.sz.ae;refine iu (xs:=t.ae) (by omega) (fun m (F:List Int)=>F.length<=m/\(∀i,i∈F->∀y,y∈f.holds->y.aq≠i)/\∀n,n∈t.ae.take m->fO n=true->nj f.holds n.aq=false->n.aq∈F) (fun F i=>FQ q++[(8,.slice (.own 3) (F.map kv)),(9,aE i)]) (fun F=>stM f t++[.tick 1 F.length]) Q (fun F hF=>?_) (fun pre x post F e hx' cn hw h0 hm hF hi=>?_) [] ⟨aC _,fun i h=>(by cases h),fun n h=>(by simp at h)⟩
 ·simp only[stM,FQ,cG,rZ,aU,aW] at hx ⊢;simp only[Df,bp,EW,seval];exact hx F _ (by omega) hF.2.1 (by have:=hF.2.2; rwa[cg] at this)
 ·have hp:=(ak.1 hx').1;have htk:t.ae.take (pre.length+1)=t.ae.take pre.length++[x]:=by rw[cB,hx']; rfl
  have i1:=fun hb:(fO x=true->nj f.holds x.aq=false->False)=>hi F ⟨by omega,hF.2.1,fun n h=>by
   rw[htk] at h;rcases bB.1 h with h|h
   ·exact hF.2.2 n h
   ·rw[bP.1 h]; exact fun a b=>(hb a b).elim⟩
  have i2:=fun hb:(f.holds.any fun y=>y.aq==x.aq)=false=>hi (F++[x.aq]) ⟨by simp; omega,fun i h y hy=>by
   rcases bB.1 h with h|h
   ·exact hF.2.1 i h y hy
   ·rw[bP.1 h];simpa using List.any_eq_false.1 hb y hy,fun n h o1 o2=>by
   rw[htk] at h;rcases bB.1 h with h|h
   ·exact ew _ (hF.2.2 n h o1 o2)
   ·rw[bP.1 h]; simp⟩
  unfold nj fO at i1;have qh:=fun M=>aqR f.holds x.aq (by omega) M
  generalize (f.holds.any fun y=>y.aq==x.aq)=b at qh i1 i2
  have r1:cu (F.length+1) 8=True:=qm;simp only[stM,FQ,cG,rZ,aU,aW,bu,aP,bc,aD,au,av,aK,kv] at i1 i2 ⊢;cases h1:x.kind==1<;>cases h2:x.dz==0<;>cases b<;>simp only[Df,cn,hx',hw,h0,h1,h2,qh,r1,rS,bD,aF,kv,EW,seval]<;>first|exact i1 (by simp[h1,h2])|exact i2 rfl
structure vU(f:aa)(t0:Tree)(F:List Int)(t:Tree):Prop where
 rt:Rt t
 oq:∀y,y∈f.holds->rb t0.ae y.aq->rb t.ae y.aq
 sub:∀i n,find t.ae i=some n->find t0.ae i=some n
 gone:∀i,i∈F->∀n,find t.ae i=some n->fO n=false
def vU.file{f:aa}{t0:Tree}{F:List Int}{t:Tree}(h:vU f t0 F t){i:Int}(hi:rb t.ae i):rb t0.ae i:=by
 obtain⟨n,h1,h2⟩:=hi;exact⟨n,h.sub _ _ h1,h2⟩
def vU.step{f:aa}{t0:Tree}{F:List Int}{t:Tree}(h:vU f t0 F t){x:Int}(hx:∀y,y∈f.holds->y.aq≠x):vU f t0 (F++[x]) (jU t x).1:=by
 have hf:=w8 h.rt x;refine⟨h.rt.free x,fun y hy hi=>Cs h.rt x (h.oq y hy hi) (hx y hy),fun i n hn=>?_,fun i hi n hn=>?_⟩
 ·rw[hf] at hn;split at hn
  ·cases hn
  ·exact h.sub _ _ hn
 ·rw[hf] at hn;split at hn
  ·cases hn
  ·rename_i hc;rcases bB.1 hi with hi|hi
   ·exact h.gone i hi n hn
   ·rw[bP.1 hi] at hc hn;cases ho:fO n with
    |false=>rfl
    |true=>exact absurd ⟨rfl,n,hn,ho⟩ hc
def vU.held{f:aa}{t0:Tree}{F:List Int}{t:Tree}(h:vU f t0 F t)(ha:∀n,n∈t0.ae->fO n=true->nj f.holds n.aq=false->n.aq∈F)(_:Rt t0):∀n,n∈t.ae->fO n=true->nj f.holds n.aq=true:=by
 intro n hn ho;have h1:=(eD h.rt.ja.jd).2 ⟨hn,rfl⟩;cases hh:nj f.holds n.aq with
 |true=>rfl
 |false =>
  have:=h.gone _ (ha n (bR (h.sub _ _ h1)).1 ho hh) n h1;rw[ho] at this; cases this
def Tg{F:List Int}(hF:F.length<=1000)(hno:∀i,i∈F->∀y,y∈f.holds->y.aq≠i){t0:Tree}{k:List K}
  (hx:∀(t:Tree) z,vU f t0 F t->∃r,Q r/\kr (ar bK) [.dB 6 10,.tmp 7] 0 k ⟨.exit 2,FQ q++(8,.slice (.own 3) (F.map kv))::z,stM f t++[.tick 1 F.length]⟩=some r) (ht:vU f t0 [] t) :
  ∃r,Q r/\eW (ar bK) [.dB 6 10,.tmp 7] 0 k (.loop [2,3,4,6,8,11] Xh) (FQ q++[(8,.slice (.own 3) (F.map kv)),(11,aE 0)]) (stM f t++[.tick 1 F.length])=some r:=by
 refine iu (xs:=F) (by omega) (fun m (t:Tree)=>vU f t0 (F.take m) t) (fun _ i=>FQ q++[(8,.slice (.own 3) (F.map kv)),(11,aE i)]) (fun t=>stM f t++[.tick 1 F.length]) Q (fun t ht=>?_) (fun pre x post t e hx' cn hw h0 hm ht hi=>?_) t (by simpa using ht)
 ·simp only[stM,FQ,cG,rZ,aU,aW] at hx ⊢;simp only[Df,bp,EW,seval];exact hx t _ (by rwa[cg] at ht)
 ·have i1:=hi _ (show vU f t0 (F.take (pre.length+1)) (jU t x).1 by rw[cB,hx']; exact ht.step (hno x hm))
  have qf:=fun M=>akR t.ae t.next t.aj x ht.rt.small M
  generalize jU t x=v at qf i1;simp only[bo,aI] at qf;simp only[stM,FQ,cG,rZ,aU,aW] at i1 ⊢;simp only[Df,cn,hx',hw,h0,qf,kv,EW,seval];exact i1
def Th(ht:Rt t)(hq:ov q)(hn:q.length<=16){F:List Int}{k:List K}
  (hx:∀(L:List cv) z,ov L->L.length<=16->(∀y,y∈L->y∈q/\(find t.ae y.aq).isSome=true)->∃r,Q r/\kr (ar bK) [.dB 6 10,.tmp 7] 0 k ⟨.exit 4,FQ q++(14,.slice (.own 4) (L.map dM))::z,stM f t++[.tick 1 F.length,.tick 3 L.length]⟩=some r) :
  ∃r,Q r/\eW (ar bK) [.dB 6 10,.tmp 7] 0 k (.loop [2,3,4,6,14,15] Xi) (FQ q++[(14,.slice (.own 4) []),(15,aE 0)]) (stM f t++[.tick 1 F.length,.tick 3 0])=some r:=by
 have h200:=ht.sz.ae;refine iu (xs:=q) (by omega) (fun m (L:List cv)=>L.Sublist (q.take m)/\∀y,y∈L->(find t.ae y.aq).isSome=true) (fun L i=>FQ q++[(14,.slice (.own 4) (L.map dM)),(15,aE i)]) (fun L=>stM f t++[.tick 1 F.length,.tick 3 L.length]) Q (fun L hL=>?_) (fun pre x post L e hx' cn hw h0 hm hL hi=>?_) [] ⟨List.nil_sublist _,fun y h=>by cases h⟩
 ·rw[cg] at hL;simp only[stM,FQ,cG,rZ,aU,aW] at hx ⊢;simp only[Df,bp,EW,seval];exact hx L _ (hq.sublist hL.1) (aV hL.1.length_le hn) (fun y hy=>⟨hL.1.mem hy,hL.2 y hy⟩)
 ·have ht1:q.take (pre.length+1)=q.take pre.length++[x]:=by rw[cB,hx']; rfl
  have i1:=hi L ⟨by rw[ht1]; exact hL.1.trans (List.sublist_append_left _ _),hL.2⟩
  have i2:=fun hs=>hi (L++[x]) ⟨by rw[ht1]; exact hL.1.append (List.Sublist.refl _),fun y h=>(bB.1 h).elim (hL.2 y) fun h=>by rw[bP.1 h]; exact hs⟩
  have hLl:L.length<=16:=aV hL.1.length_le (by simp; omega)
  have qg:=fun M=>Ae t.ae t.next t.aj x.aq (by omega) M
  generalize (find t.ae x.aq).getD Node.zero=n at qg;generalize (find t.ae x.aq).isSome=b at qg i2;have r1:cu (L.length+1) 24=True:=qm;simp only[stM,FQ,cG,rZ,aU,aW,bu,aP,bc,aD,au,av,aK,dM,gU] at i1 i2 ⊢;cases b<;>simp only[Df,cn,hx',hw,h0,qg,r1,bD,aF,dM,gU,EW,seval]<;>first|exact i1|exact i2 rfl
end
structure yx(f:aa):Prop where
 file:∀y,y∈f.holds->rb f.s.now.ae y.aq
 Lu:∀n,n∈f.s.now.ae->fO n=true->nj f.holds n.aq=true
 quo:∀q,q∈f.cL->K5 f.s.now.ae q.aq
 one:OD f.s.now f.cL
 over:∀q,q∈f.cL->kP f.s.now q=false
 key:∀y,y∈f.holds->yY y.cD y.handle=true
def ND(s:ga)(t:Tree):(mu s t).now=t:=by
 unfold mu;split
 ·rename_i h; exact iB h
 ·rfl
def zt{f:aa}{t:Tree}{H:List dZ}{Q:List cv}(hH:∀y,y∈H->y∈f.holds/\(rb f.s.now.ae y.aq->rb t.ae y.aq))(hO:∀n,n∈t.ae->fO n=true->nj H n.aq=true)(hQ:∀q,q∈Q->K5 t.ae q.aq)(h1:OD t Q)(h2:∀q,q∈Q->kP t q=false)(h:yx f):yx ⟨mu f.s t,H,Q⟩:=by
 refine⟨fun y hy=>?_,fun n hn=>?_,fun q hq=>?_,?_,fun q hq=>?_,fun y hy=>h.key y (hH y hy).1⟩<;>simp only[ND] at *
 ·exact(hH y hy).2 (h.file y (hH y hy).1)
 ·exact hO n hn
 ·exact hQ q hq
 ·exact h1
 ·exact h2 q hq
def Kp(f g:aa):Prop:=(yx f->yx g)/\zD (fun _=>True) f.s g.s
def CB{f:aa}:Kp f f:=⟨id,.inl rfl⟩
def aoL{K:Nat}(f:aa)(t:Tree)(q:List cv)(hf:FB K f)(hK:K<=89000)(ht:Rt t)(hq:ov q)(hn:q.length<=16)(hkp:∀y,y∈f.holds->rb f.s.now.ae y.aq->rb t.ae y.aq)(hqd:yx f->∀y,y∈q->¬rb t.ae y.aq):∃g e,ar bK 176 [.agg (cG f),bo t,cJ q] []=some (.tuple [.agg (cG g),aE e],[])/\FB (K+200) g/\Kp f g:=by
 have key:∃r:ag×aH,(∃g e,r=(.tuple [.agg (cG g),aE e],[])/\FB (K+200) g/\Kp f g)/\eW (ar bK) GM.results 0 [] GM.body (fq 0 [.agg (cG f),bo t,cJ q]) []=some r:=by
  have la:=fun {k Q} hx=>Tf (f:=f) (t:=t) (q:=q) (Q:=Q) ht hf.ok.dR (k:=k) hx
  simp only[stM,FQ,cG,rZ,aU,aW] at la;simp only[GM,Df,cG,bo,aI,EW,seval];refine la (fun F z hF hno hall=>?_)
  have lb:=fun {k Q} hx=>Tg (f:=f) (t:=t) (q:=q) (Q:=Q) hF hno (t0:=t) (k:=k) hx ⟨ht,fun _ _ h=>h,fun _ _ h=>h,fun i h=>by cases h⟩
  simp only[stM,FQ,cG,rZ,aU,aW] at lb;simp only[Df,EW,seval];refine lb (fun t' z hfr=>?_)
  have ht':=hfr.rt;have hor:=hfr.held hall ht;have lc:=fun {k Q} hx=>Th (f:=f) (t:=t') (q:=q) (Q:=Q) ht' hq hn (F:=F) (k:=k) hx
  simp only[stM,FQ,cG,rZ,aU,aW] at lc;simp only[Df,EW,seval];refine lc (fun L z hL hLn hLq=>?_)
  have h200:=ht'.sz.ae;obtain⟨b1,q1,k1⟩:=apz t' L ht' hL (by omega)
  obtain⟨b2,q2,k2⟩:=apA t' L ht' (by omega)
  have q3:=c56 f.s t' hf.ok.rt ht' hf.ok.len hf.ok.cp hf.ok.dw;have g1:=cP q1;have g2:=cP q2;have g3:=cP q3;simp only[bo,aI,bl] at g1 g2 g3;have hfin:=hf.put hK ht' hf.ok.holds hf.ok.dR hL hLn
  have hho:b1=true->b2=false->yx f->yx ⟨mu f.s t',f.holds,L⟩:=fun c1 c2 h=>zt (fun y hy=>⟨hy,fun hf=>hfr.oq y hy (hkp y hy hf)⟩) hor (fun y hy=>by
   obtain⟨h1,h2⟩:=hLq y hy;obtain⟨n,h2⟩:=ct.1 h2;exact ht'.K5 h2 (fun hf=>hqd h y h1 (hfr.file hf))) (k1 c1) (k2 c2) h
  cases b1<;>cases b2<;>simp only[Df,g1,g2,g3,EW,seval]
  ·exact⟨_,⟨f,91,rfl,hf.mono (by omega),CB⟩,rfl⟩
  ·exact⟨_,⟨f,91,rfl,hf.mono (by omega),CB⟩,rfl⟩
  ·exact⟨_,⟨_,0,rfl,hfin,hho rfl rfl,.inr (.inl ⟨t',ht',rfl⟩)⟩,rfl⟩
  ·exact⟨_,⟨f,90,rfl,hf.mono (by omega),CB⟩,rfl⟩
 obtain⟨_,⟨g,e,rfl,h1⟩,h3⟩:=key;exact⟨g,e,aw h3,h1⟩
end
def MZ(s:Bytes):(AX s).1.length<=100000/\(AX s).2.1.length<=100000:=by
 obtain⟨o1,o2⟩:=sO s;unfold AX;split
 ·exact⟨by simp,by simp⟩
 ·generalize (mo s).1=l at o1 o2;constructor
  ·simp only;cases h:l.getLast? with
   |none=>simp
   |some x=>have:=nD (o1 x (List.mem_of_getLast? h)); simp only[bn]; omega
  ·simp only[D8];split
   ·simp
   ·have h1:=Cu l.dropLast [] (fun x hx=>nD (o1 x (List.Sublist.mem hx (List.dropLast_sublist _))))
    simp only[av,List.length_dropLast] at h1;omega
section
attribute [local irreducible] eW fQ lh gK dW kr ar aM cq bI
def c49(e:Int):ar bK 49 [aE e] []=some (.agg (dr (gw e)),[]):=by
 refine aw ?_;simp only[ajZ,E49,EW,seval];rfl
def k49 e:=cP (c49 e)
def aiO(n:Node):∃a:Int,ar bK 110 [bD n] []=some (aE a,[]):=by
 cases h1:n.kind==2
 ·refine⟨n.data.length,aw ?_⟩;simp only[Ps,agB,bD,aF,h1,EW,seval]
 ·refine⟨n.aL.length,aw ?_⟩;simp only[Ps,agB,bD,aF,h1,EW,seval]
def aiN(t:Tree)(s:Bytes)(ht:Small t)(hs:s.length<=100000):∃d nm e,ar bK 103 [bo t,.str s] []=some (.tuple [aE d,.str nm,aE e],[])/\nm.length<=100000:=by
 have ql:=fun M=>cO (aoH s hs) M
 obtain⟨h1,h2⟩:=MZ s;generalize AX s=v at ql h1 h2;have qw:=fun M=>adg t.ae t.next t.aj v.2.1 ht h2 M
 generalize Bg t.ae v.2.1=w at qw;cases h3:v.2.2 != 0
 ·refine⟨w.1,v.1,w.2,aw ?_,h1⟩;simp only[Pr,agx,bo,aI,ql,qw,h3,EW,seval]
 ·refine⟨0,[],v.2.2,aw ?_,by simp⟩
  simp only[Pr,agx,bo,aI,ql,h3,EW,seval]
def FB.vF{K:Nat}{f:aa}(h:FB K f){u:ga}(e1:u.now=f.s.now)(e2:u.since=f.s.since)(e3:∀p,p∈u.dw->p∈f.s.dw)(e4:u.dw.length<=f.s.dw.length)(e5:u.cp.length<=16):FB (K+200) ⟨u,f.holds,f.cL⟩/\(yx f->yx ⟨u,f.holds,f.cL⟩) :=
 ⟨⟨⟨by simp only[e1]; exact h.ok.rt,by simp only[e1,e2]; exact h.ok.len,aV e4 h.ok.dw,fun p hp=>h.ok.Br p (e3 p hp),e5,h.ok.holds,h.ok.dR,h.ok.cL,h.ok.qv⟩,by have:=h.past; simp only; omega⟩,fun g=>⟨by simp only[e1]; exact g.file,by simp only[e1]; exact g.Lu,by simp only[e1]; exact g.quo,by simp only[e1]; exact g.one,by simp only[e1]; exact g.over,g.key⟩⟩
def xD(K:Nat)(f:aa)(F:Nat)(vs:List ag):Prop:=∃g a,ar bK F vs []=some (.tuple [.agg (cG g),.agg (dr a)],[])/\FB (K+200) g/\Kp f g
def IT{K:Nat}(f:aa)(t:Tree)(q:List cv)(e:Int)(a:LU)(hf:FB K f)(hK:K<=89000)(ht:Rt t)(hq:ov q)(hn:q.length<=16)(hkp:∀y,y∈f.holds->rb f.s.now.ae y.aq->rb t.ae y.aq)(hqd:yx f->∀y,y∈q->¬rb t.ae y.aq):xD K f 105 [.agg (cG f),bo t,cJ q,aE e,.agg (dr a)]:=by
 obtain⟨g,e',qs,hg⟩:=aoL f t q hf hK ht hq hn hkp hqd;have q1:=cP qs;have q2:=k49;simp only[bo,aI,cG,dr] at q1 q2;cases h1:e != 0
 ·cases h2:e' != 0
  ·refine⟨g,a,aw ?_,hg⟩;simp only[KE,abO,bo,aI,cG,dr,q1,q2,h1,h2,EW,seval]
  ·refine⟨f,gw e',aw ?_,hf.mono (by omega),CB⟩
   simp only[KE,abO,bo,aI,cG,dr,q1,q2,h1,h2,EW,seval]
 ·refine⟨f,gw e,aw ?_,hf.mono (by omega),CB⟩
  simp only[KE,abO,bo,aI,cG,dr,q1,q2,h1,EW,seval]
def c50{K:Nat}(f:aa)(o:jz)(hf:FB K f)(hK:K<=89000)(ho:yy o):xD K f 50 [.agg (cG f),.agg (ep o)]:=by
 have hr:=hf.ok.rt;have hz:Sz 1000 f.s.now:=⟨by have:=hr.sz.ae; omega,fun n hn=>by have:=hr.sz.aL n hn; omega,hr.sz.data⟩
 have hp:o.c8.length<=100000:=by have:=ho.c8; omega
 have hto:o.r9.length<=100000:=by have:=ho.r9; omega
 obtain⟨d,nm,e1,qa,hnm⟩:=aiN f.s.now o.c8 hr.small hp;obtain⟨d',nm',e2,qb,hnm'⟩:=aiN f.s.now o.r9 hr.small hto;have q1:=cP qa;have q2:=cP qb;have q3:=fun M=>adg f.s.now.ae f.s.now.next f.s.now.aj o.c8 hr.small hp M
 generalize Bg f.s.now.ae o.c8=w at q3;have q4:=k49;simp only[bo,aI,cG,dr] at q1 q2 q4;have back:FB (K+200) f:=hf.mono (by omega)
 cases h0:o.kind==3
 ·cases h1:e1 != 0
  ·cases h2:o.kind==2
   ·cases h3:o.kind==4
    ·cases h4:e2 != 0
     ·have q5:=fun M=>aql f.s.now.ae f.s.now.next f.s.now.aj d nm d' nm' hz hnm hnm' M
      have q6:=fun M=>WD f.s.now.ae f.s.now.next f.s.now.aj d nm hr.small hnm M
      have hv:=hr.mv d nm d' nm';have hkf:=K9 hr d nm d' nm';have hrf:=abI hr d nm d' nm';generalize vO f.s.now d nm d' nm'=v at q5 hv hkf hrf;generalize eE f.s.now.ae d nm=u at q6;obtain⟨g,a,qd,hg⟩:=IT f v.1 f.cL v.2.2 ⟨0,u.1,0,0,0,[],[]⟩ hf hK hv hf.ok.cL hf.ok.qv (fun y _ h=>hkf.2 _ h) (fun h y hy hi=>(h.quo y hy).no (hrf _ hi))
      have q7:=cP qd;simp only[bo,aI,cG,dr,c9,cX,bc] at q5 q6 q7;refine⟨g,a,aw ?_,hg⟩;simp only[Fg,Zl,cG,ep,dr,h0,h1,h2,h3,h4,q1,q2,q5,q6,q7,EW,seval]
     ·refine⟨f,gw e2,aw ?_,back,CB⟩;simp only[Fg,Zl,cG,ep,dr,h0,h1,h2,h3,h4,q1,q2,q4,EW,seval]
    ·have q5:=fun M=>aqk f.s.now.ae f.s.now.next f.s.now.aj d nm hz hnm M
     have hv:=hr.un d nm;have hkf:=La hr d nm;have hrf:=abJ hr d nm;generalize AA f.s.now d nm=v at q5 hv hkf hrf;obtain⟨g,a,qd,hg⟩:=IT f v.1 f.cL v.2.2 ⟨0,v.2.1,0,0,0,[],[]⟩ hf hK hv hf.ok.cL hf.ok.qv (fun y _ h=>hkf.2 _ h) (fun h y hy hi=>(h.quo y hy).no (hrf _ hi))
     have q7:=cP qd;simp only[bo,aI,cG,dr,c9,cX,bc] at q5 q7;refine⟨g,a,aw ?_,hg⟩;simp only[Fg,Zl,cG,ep,dr,h0,h1,h2,h3,q1,q5,q7,EW,seval]
   ·have q5:=fun M=>aqj f.s.now.ae f.s.now.next f.s.now.aj d nm o.n hz hnm M
    have hv:=hr.add d nm o.n;have hkf:=Hj hr d nm o.n;have hrf:=UI hr d nm o.n;generalize qR f.s.now d nm o.n=v at q5 hv hkf hrf;obtain⟨g,a,qd,hg⟩:=IT f v.1 f.cL v.2.2 ⟨0,v.2.1,o.n,0,0,[],[]⟩ hf hK hv hf.ok.cL hf.ok.qv (fun y _ h=>hkf.2 _ h) (fun h y hy hi=>(h.quo y hy).no (hrf _ hi))
    have q7:=cP qd;simp only[bo,aI,cG,dr,c9,cX,bc] at q5 q7;refine⟨g,a,aw ?_,hg⟩;simp only[Fg,Zl,cG,ep,dr,h0,h1,h2,q1,q5,q7,EW,seval]
  ·refine⟨f,gw e1,aw ?_,back,CB⟩;simp only[Fg,Zl,cG,ep,dr,h0,h1,q1,q4,EW,seval]
 ·cases h1:w.2 != 0
  ·cases h2:e2 != 0
   ·have q5:=fun M=>aqi f.s.now.ae f.s.now.next f.s.now.aj w.1 d' nm' hz hnm' M
    have hv:=hr.ln w.1 d' nm';have hkf:=K8 hr w.1 d' nm';have hrf:=abH hr w.1 d' nm';generalize Bp f.s.now w.1 d' nm'=v at q5 hv hkf hrf;obtain⟨g,a,qd,hg⟩:=IT f v.1 f.cL v.2 ⟨0,w.1,0,0,0,[],[]⟩ hf hK hv hf.ok.cL hf.ok.qv (fun y _ h=>hkf.2 _ h) (fun h y hy hi=>(h.quo y hy).no (hrf _ hi))
    have q7:=cP qd;simp only[bo,aI,cG,dr,c9,cX,bc] at q5 q7;refine⟨g,a,aw ?_,hg⟩;simp only[Fg,Zl,cG,ep,dr,h0,h1,h2,q2,q3,q5,q7,EW,seval]
   ·refine⟨f,gw e2,aw ?_,back,CB⟩;simp only[Fg,Zl,cG,ep,dr,h0,h1,h2,q2,q3,q4,EW,seval]
  ·refine⟨f,gw w.2,aw ?_,back,CB⟩;simp only[Fg,Zl,cG,ep,dr,h0,h1,q3,q4,EW,seval]
section
variable {t:Tree} {n:Node} {many:Int} {Q:ag×aH->Prop}
abbrev liM(t:Tree)(n:Node)(out:List fg):aH:=[.cells [aN t.ae,.int .i64 t.next,.int .i64 t.aj],.cells [.int .i64 n.aq,.int .i64 n.kind,.int .i64 n.dz,cX n.data,gS n.aL,.int .i64 n.up],.tick 3 out.length]
def Hv(hn:n.aL.length<=100000){jh:Int}{out:List fg}{k:List K}
  (hx:∀(b:Int) z,(b = -1\/∃i:Nat,i<n.aL.length/\b=i)->∃r,Q r/\kr (ar bK) [.tmp 8,.tmp 9,.tmp 10] 0 k ⟨.exit 2,(2,aE jh)::(3,aE many)::(11,bX 1)::(13,.slice (.own 2) (out.map fH))::(14,aE b)::z,liM t n out⟩=some r) :
  ∃r,Q r/\eW (ar bK) [.tmp 8,.tmp 9,.tmp 10] 0 k (.loop [2,3,11,13,14,15] WV) [(2,aE jh),(3,aE many),(11,bX 1),(13,.slice (.own 2) (out.map fH)),(14,aE (-1)),(15,aE 0)] (liM t n out)=some r:=by
 refine iu (xs:=n.aL) (by omega) (fun _ (b:Int)=>b = -1\/∃i:Nat,i<n.aL.length/\b=i) (fun b i=>[(2,aE jh),(3,aE many),(11,bX 1),(13,.slice (.own 2) (out.map fH)),(14,aE b),(15,aE i)]) (fun _=>liM t n out) Q (fun b hb=>?_) (fun pre e post b h hx' cn hw h0 hm hb hi=>?_) (-1) (.inl rfl)
 ·simp only[xT,bp,EW,seval];exact hx b _ hb
 ·have hp:=(ak.1 hx').1;have i1:=hi b hb;have i2:=hi pre.length (.inr ⟨_,hp,rfl⟩);rcases hb with rfl|⟨a,ha,rfl⟩
  ·cases h1:decide (jh<=e.aj)<;>simp only[xT,cn,hx',hw,h0,h1,fH,fa,EW,seval]<;>first|exact i1|exact i2
  ·have a0:((a:Int)<0)=False:=by simp
   have a1:((a:Int)<(n.aL.length:Int))=True:=uq;obtain⟨y,hy⟩:∃y,n.aL[a]?=some y:=⟨_,ai ha⟩;cases h1:decide (jh<=e.aj)<;>cases h2:decide (e.aj<y.aj)<;>simp only[xT,cn,hx',hw,h0,a0,a1,hy,h1,h2,fH,fa,EW,seval]<;>first|exact i1|exact i2
def S7(hn:n.aL.length<=100000){m:Nat}(hm:1<=m)(hm':m<=64){k:List K}
  (hr:∀(out:List fg)(x:Int),out.length<=64->∃r,Q r/\kr (ar bK) [.tmp 8,.tmp 9,.tmp 10] 0 k ⟨.ret,[(8,.slice (.own 2) (out.map fH)),(9,aE x),(10,aE 0)],liM t n out⟩=some r) :
  ∀(d:Nat)(jh:Int)(out:List fg),out.length+d=m->∃r,Q r/\eW (ar bK) [.tmp 8,.tmp 9,.tmp 10] 0 k (.loop [2,3,11,13] WW) [(2,aE jh),(3,aE m),(11,bX 1),(13,.slice (.own 2) (out.map fH))] (liM t n out)=some r:=by
 intro d;induction d with
 |zero =>
  intro jh out hd;rw[bt];have la:=fun {k} hx=>Hv (t:=t) (n:=n) (many:=m) (Q:=Q) hn (jh:=jh) (out:=out) (k:=k) hx
  simp only[xT,EW,seval];refine la (fun b z hb=>?_)
  rcases hb with rfl|⟨a,ha,rfl⟩
  ·simp only[xT,EW,seval];exact hr out 0 (by omega)
  ·have a0:((a:Int)<0)=False:=by simp
   have e1:((out.length:Int)==(m:Int))=true:=by simp; omega
   have w1:IntKind.i64.wrap ((m:Int)-1)=((m-1:Nat):Int):=by rw[fW (by omega) (by omega)]; omega
   have e2:(((m-1:Nat):Int)<(out.length:Int))=True:=uq;have e3:(((m-1:Nat):Int)<0)=False:=by simp
   obtain⟨y,hy⟩:∃y,out[m-1]?=some y:=⟨_,ai (by omega)⟩
   simp only[xT,a0,e1,w1,e2,e3,hy,fH,fa,EW,seval];exact hr out _ (by omega)
 |succ d ih =>
  intro jh out hd;rw[bt];have la:=fun {k} hx=>Hv (t:=t) (n:=n) (many:=m) (Q:=Q) hn (jh:=jh) (out:=out) (k:=k) hx
  simp only[xT,EW,seval];refine la (fun b z hb=>?_)
  rcases hb with rfl|⟨a,ha,rfl⟩
  ·simp only[xT,EW,seval];exact hr out 0 (by omega)
  ·have a0:((a:Int)<0)=False:=by simp
   have a1:((a:Int)<(n.aL.length:Int))=True:=uq;obtain⟨y,hy⟩:∃y,n.aL[a]?=some y:=⟨_,ai ha⟩;have e1:((out.length:Int)==(m:Int))=false:=by simp; omega
   have r1:cu (out.length+1) 32=True:=qm;have i1:=fun jh=>ih jh (out++[y]) (by simp; omega)
   simp only[liM,bu,aP,bc,aD,au,av,aK,fH,fa] at i1 ⊢;simp only[xT,a0,a1,e1,r1,hy,fH,fa,EW,seval];exact i1 _
end
def anS(t:Tree)(aq jh many:Int)(ht:Rt t):∃out x e,ar bK 111 [bo t,aE aq,aE jh,aE many] []=some (.tuple [gS out,aE x,aE e],[])/\out.length<=64:=by
 have key:∃r:ag×aH,(∃out x e,r=(.tuple [gS out,aE x,aE e],[])/\out.length<=64)/\eW (ar bK) yO.results 0 [] yO.body (fq 0 [bo t,aE aq,aE jh,aE many]) []=some r:=by
  have qd:=fun M=>WJ t.ae t.next t.aj aq (by have:=ht.sz.ae; omega) M
  have hd:(gA t.ae aq).1.aL.length<=100000:=by obtain⟨cz,g⟩:=ht; have:=(zP g aq).2; omega
  generalize gA t.ae aq=v at qd hd;cases h1:decide (jh<0)
  case true =>
   simp only[yO,xT,bo,aI,h1,EW,seval];exact⟨_,⟨[],0,1,rfl,by simp⟩,rfl⟩
  cases h2:decide (many<1)
  case true =>
   simp only[yO,xT,bo,aI,h1,h2,EW,seval];exact⟨_,⟨[],0,1,rfl,by simp⟩,rfl⟩
  cases h3:decide (64<many)
  case true =>
   simp only[yO,xT,bo,aI,h1,h2,h3,EW,seval];exact⟨_,⟨[],0,1,rfl,by simp⟩,rfl⟩
  cases h4:v.2 != 0
  case true =>
   simp only[yO,xT,bo,aI,bD,aF,qd,h1,h2,h3,h4,EW,seval];exact⟨_,⟨[],0,v.2,rfl,by simp⟩,rfl⟩
  simp only[dq] at h2 h3;obtain⟨m,rfl⟩:∃m:Nat,many=m:=⟨many.toNat,by omega⟩
  have g2:decide ((m:Int)<1)=false:=by simp; omega
  have g3:decide (64<(m:Int))=false:=by simp; omega
  have lb:=fun {k Q} hr=>S7 (t:=t) (n:=v.1) (Q:=Q) hd (m:=m) (by omega) (by omega) (k:=k) hr m jh [] (by simp)
  simp only[liM,bc,av] at lb;simp only[yO,xT,bo,aI,bD,aF,qd,h1,g2,g3,h4,EW,seval];refine lb (fun out x ho=>?_)
  simp only[xT,EW,seval];exact⟨_,⟨out,x,0,rfl,ho⟩,rfl⟩
 obtain⟨_,⟨out,x,e,rfl,h1⟩,h3⟩:=key;exact⟨out,x,e,aw h3,h1⟩
section
variable {f:aa} {o:jz} {n:Node} {Q:ag×aH->Prop}
abbrev wkM(f:aa)(o:jz)(n:Node):aH:=[.cells (cG f),.cells (ep o),.cells rZ,.cells pJ,.cells (aI f.s.now),.cells (aF n)]
def ae8{l:List fg}(hl:l.length<=64){nx:Int}{k:List K}
  (hx:∀(S:List Bytes) z,∃r,Q r/\kr (ar bK) [.dB 4 10,.dB 5 7] 0 k ⟨.exit 1,(2,bX 0)::(4,bX 2)::(5,bX 3)::(11,gS l)::(12,aE nx)::(14,.slice (.own 6) (S.map ag.str))::z,wkM f o n++[.tick 1 S.length]⟩=some r) :
  ∃r,Q r/\eW (ar bK) [.dB 4 10,.dB 5 7] 0 k (.loop [2,4,5,11,12,14,15] aeO) [(2,bX 0),(4,bX 2),(5,bX 3),(11,gS l),(12,aE nx),(14,.slice (.own 6) []),(15,aE 0)] (wkM f o n++[.tick 1 0])=some r:=by
 refine iu (xs:=l) (by omega) (fun m (S:List Bytes)=>S.length<=m) (fun S i=>[(2,bX 0),(4,bX 2),(5,bX 3),(11,gS l),(12,aE nx),(14,.slice (.own 6) (S.map ag.str)),(15,aE i)]) (fun S=>wkM f o n++[.tick 1 S.length]) Q (fun S hS=>?_) (fun pre e post S h hx' cn hw h0 hm hS hi=>?_) [] (aC _)
 ·simp only[wkM,cG,ep,rZ,pJ,aI,aF,aU,aW] at hx ⊢;simp only[L3,bp,EW,seval];exact hx S _
 ·have hp:=(ak.1 hx').1;have i1:=hi (S++[e.name]) (by simp; omega)
  have r1:cu (S.length+1) 16=True:=qm;simp only[wkM,cG,ep,rZ,pJ,aI,aF,aU,aW,bu,aP,bc,aD,au,av,aK] at i1 ⊢;simp only[L3,cn,hx',hw,h0,r1,fH,fa,EW,seval];exact i1
end
def c51{K:Nat}(f:aa)(o:jz)(hf:FB K f)(hK:K<=89000)(ho:yy o):xD K f 51 [.agg (cG f),.agg (ep o)]:=by
 have hr:=hf.ok.rt;have h200:=hr.sz.ae;have hp:o.c8.length<=100000:=by have:=ho.c8; omega
 have q3:=fun M=>adg f.s.now.ae f.s.now.next f.s.now.aj o.c8 hr.small hp M
 generalize Bg f.s.now.ae o.c8=w at q3;have qg:=fun M=>Ae f.s.now.ae f.s.now.next f.s.now.aj w.1 (by omega) M
 generalize (find f.s.now.ae w.1).getD Node.zero=n at qg;have q4:=k49;simp only[dr,gw,c9,cX,bc,bD,aF] at q4 qg;have back:FB (K+200) f:=hf.mono (by omega)
 cases h0:w.2 != 0
 case true =>
  refine⟨f,gw w.2,aw ?_,back,CB⟩;simp only[yP,L3,cG,ep,dr,gw,c9,cX,h0,q3,q4,EW,seval]
 cases h1:o.kind==1
 case true =>
  refine⟨f,⟨0,w.1,n.kind,0,0,[],[]⟩,aw ?_,back,CB⟩;simp only[yP,L3,cG,ep,dr,gw,c9,cX,h0,h1,q3,qg,EW,seval]
 cases h2:o.kind==7
 case true =>
  obtain⟨a,qa⟩:=aiO n;have q5:=cP qa;simp only[bD,aF] at q5;refine⟨f,⟨0,w.1,n.kind,n.dz,a,[],[]⟩,aw ?_,back,CB⟩;simp only[yP,L3,cG,ep,dr,gw,c9,cX,h0,h1,h2,q3,qg,q5,EW,seval]
 cases h3:o.kind==6
 case true =>
  obtain⟨l,nx,e,qa,hl⟩:=anS f.s.now w.1 o.n o.m hr;have q5:=cP qa;simp only[bo,aI] at q5;cases h4:e != 0
  case true =>
   refine⟨f,gw e,aw ?_,back,CB⟩;simp only[yP,L3,cG,ep,dr,gw,c9,cX,h0,h1,h2,h3,h4,q3,q4,q5,qg,EW,seval]
  have key:∃r:ag×aH,(∃a,r=(.tuple [.agg (cG f),.agg (dr a)],[]))/\eW (ar bK) yP.results 0 [] yP.body (fq 0 [.agg (cG f),.agg (ep o)]) []=some r:=by
   have la:=fun {k Q} hx=>ae8 (f:=f) (o:=o) (n:=n) (Q:=Q) hl (nx:=nx) (k:=k) hx
   simp only[wkM,cG,ep,rZ,pJ,aI,aF,aU,aW] at la;simp only[yP,L3,cG,ep,dr,gw,c9,cX,h0,h1,h2,h3,h4,q3,q5,qg,EW,seval];refine la (fun S z=>?_)
   simp only[L3,EW,seval];exact⟨_,⟨⟨0,0,0,nx,0,S,[]⟩,rfl⟩,rfl⟩
  obtain⟨_,⟨a,rfl⟩,h5⟩:=key;exact⟨f,a,aw h5,back,CB⟩
 cases h4:o.kind==8
 case true =>
  have q5:=fun M=>aqm f.s.now.ae f.s.now.next f.s.now.aj f.holds o.cD o.handle w.1 (by omega) (by have:=hf.ok.dR; omega) M
  obtain⟨g1,g2⟩:=T3 (t:=f.s.now) hf.ok.holds hf.ok.dR o.cD o.handle w.1;have g4:∀y,y∈f.holds->y∈(rL ⟨f.s.now.ae,f.s.now.next,f.s.now.aj⟩ f.holds o.cD o.handle w.1).1:=fun y hy=>Nu f.s.now f.holds o.cD o.handle w.1 hy
  have g3:∀y,y∈(rL ⟨f.s.now.ae,f.s.now.next,f.s.now.aj⟩ f.holds o.cD o.handle w.1).1->y∈f.holds\/rb f.s.now.ae y.aq/\yY y.cD y.handle=true:=fun y hy=>Nt (t:=f.s.now) (by obtain⟨cz,g⟩:=hr; exact g.kind) f.holds o.cD o.handle w.1 hy
  change sd (rL ⟨f.s.now.ae,f.s.now.next,f.s.now.aj⟩ f.holds o.cD o.handle w.1).1 at g1
  change(rL ⟨f.s.now.ae,f.s.now.next,f.s.now.aj⟩ f.holds o.cD o.handle w.1).1.length<=64 at g2
  generalize rL ⟨f.s.now.ae,f.s.now.next,f.s.now.aj⟩ f.holds o.cD o.handle w.1=v at q5 g1 g2 g3 g4
  cases h5:v.2 != 0
  ·refine⟨⟨f.s,v.1,f.cL⟩,⟨0,w.1,0,0,0,[],[]⟩,aw ?_,hf.set g1 g2,fun h=>⟨fun y hy=>(g3 y hy).elim (h.file y) And.left,fun n hn ho=>by
    obtain⟨y,h1,h2⟩:=of_held (h.Lu n hn ho);exact yU (g4 y h1) h2,h.quo,h.one,h.over,fun y hy=>(g3 y hy).elim (h.key y) And.right⟩,.inl rfl⟩
   simp only[yP,L3,cG,ep,dr,gw,c9,cX,h0,h1,h2,h3,h4,h5,q3,q5,qg,EW,seval]
  ·refine⟨f,gw v.2,aw ?_,back,CB⟩;simp only[yP,L3,cG,ep,dr,gw,c9,cX,h0,h1,h2,h3,h4,h5,q3,q4,q5,qg,EW,seval]
 cases h5:o.kind==13
 case true =>
  obtain⟨l,e,qa,hl,hl',hlm⟩:=anU f.s.now f.cL w.1 o.n o.m hr hf.ok.cL hf.ok.qv;have q5:=cP qa;obtain⟨g,a,qd,hg⟩:=IT f f.s.now l e ⟨0,w.1,0,0,0,[],[]⟩ hf hK hr hl hl' (fun _ _ h=>h) (fun h y hy hi=>(hlm y hy).elim (fun hq=>(h.quo y hq).no (.inl hi)) fun hd=>K5.no hd (.inl hi))
  have q7:=cP qd;simp only[bo,aI,cG,dr,c9,cX,bc] at q5 q7;refine⟨g,a,aw ?_,hg⟩;simp only[yP,L3,cG,ep,dr,gw,c9,cX,h0,h1,h2,h3,h4,h5,q3,q5,q7,qg,EW,seval]
 obtain⟨i,e,qa⟩:=anV f.s w.1 (by omega) hf.ok.cp
 have q5:=cP qa;simp only[bl] at q5;cases h6:e != 0
 ·have hts:(takeN f.s w.1).1.now=f.s.now/\(takeN f.s w.1).1.since=f.s.since/\(takeN f.s w.1).1.dw=f.s.dw/\(takeN f.s w.1).1.cp.length<=16:=by
   have:=hf.ok.cp;unfold takeN;split
   ·exact⟨rfl,rfl,rfl,this⟩
   split
   ·exact⟨rfl,rfl,rfl,this⟩
   split
   ·exact⟨rfl,rfl,rfl,this⟩
   ·rename_i hl;simp only[dj,ba,mL] at hl;exact⟨rfl,rfl,rfl,by simp; omega⟩
  obtain⟨t1,t2⟩:=hf.vF hts.1 hts.2.1 (fun p hp=>by rw[hts.2.2.1] at hp; exact hp) (by rw[hts.2.2.1]; exact aC _) hts.2.2.2
  refine⟨⟨(takeN f.s w.1).1,f.holds,f.cL⟩,⟨0,0,0,i,0,[],[]⟩,aw ?_,t1,t2,.inr (.inr (.inl ⟨_,rfl⟩))⟩;simp only[yP,L3,cG,ep,dr,gw,c9,cX,h0,h1,h2,h3,h4,h5,h6,q3,q5,qg,EW,seval]
 ·refine⟨f,gw e,aw ?_,back,CB⟩;simp only[yP,L3,cG,ep,dr,gw,c9,cX,h0,h1,h2,h3,h4,h5,h6,q3,q4,q5,qg,EW,seval]
section
variable {data:Bytes} {jh:Nat} {Q:ag×aH->Prop}
def S8(hf:jh+data.length<=100000){k:List K}
  (hx:∀(v:Nat) (out:Bytes) z,jh+data.length<=out.length->out.length<=100000->∃r,Q r/\kr (ar bK) [.tmp 6] 0 k ⟨.exit 0,(1,aE jh)::(2,cX data)::(7,.cN 0 v 1 0 out.length)::z,[.arr 1 v (out.map pE)]⟩=some r) :
  ∀(d v:Nat)(out:Bytes),jh+data.length-out.length=d->out.length<=100000->∃r,Q r/\eW (ar bK) [.tmp 6] 0 k (.loop [1,2,7] Fp) [(1,aE jh),(2,cX data),(7,.cN 0 v 1 0 out.length)] [.arr 1 v (out.map pE)]=some r:=by
 have w1:IntKind.i64.wrap ((jh:Int)+(data.length:Int))=((jh+data.length:Nat):Int):=by rw[fW (by omega) (by omega)]; rfl
 intro d;induction d with
 |zero =>
  intro v out h1 h2;rw[bt];have e1:((out.length:Int)<((jh+data.length:Nat):Int))=False:=oyf;simp only[FT,w1,e1,bN,EW,seval];exact hx v out _ (by omega) h2
 |succ d ih =>
  intro v out h1 h2;rw[bt];have e1:((out.length:Int)<((jh+data.length:Nat):Int))=True:=uq;have r1:cu (out.length+1) 1=True:=qm;have u0:pE 0 = .int .u8 0:=rfl;have i1:=ih (v+1) (out++[0]) (by simp; omega) (by simp; omega)
  simp only[bu,aP,bc,aD,au,av,aK,u0] at i1;simp only[FT,w1,e1,r1,bN,EW,seval];exact i1
def S9(hf:jh+data.length<=100000){v L:Nat}(hL:jh+data.length<=L){k:List K}
  (hx:∀(out:Bytes) z,out.length=L->∃r,Q r/\kr (ar bK) [.tmp 6] 0 k ⟨.exit 2,(1,aE jh)::(2,cX data)::(7,.cN 0 v 1 0 L)::z,[.arr 1 v (out.map pE)]⟩=some r) {out:Bytes} (ho:out.length=L) :
  ∃r,Q r/\eW (ar bK) [.tmp 6] 0 k (.loop [1,2,7,8] WZ) [(1,aE jh),(2,cX data),(7,.cN 0 v 1 0 L),(8,aE 0)] [.arr 1 v (out.map pE)]=some r:=by
 refine iu (xs:=data) (by omega) (fun _ (out:Bytes)=>out.length=L) (fun _ i=>[(1,aE jh),(2,cX data),(7,.cN 0 v 1 0 L),(8,aE i)]) (fun out=>[.arr 1 v (out.map pE)]) Q (fun out ho=>?_) (fun pre x post out e hx' cn hw h0 hm ho hi=>?_) out ho
 ·simp only[FT,bp,EW,seval];exact hx out _ ho
 ·have hp:=(ak.1 hx').1;have w1:IntKind.i64.wrap ((jh:Int)+(pre.length:Int))=((jh+pre.length:Nat):Int):=by rw[fW (by omega) (by omega)]; rfl
  have e1:(((jh+pre.length:Nat):Int)<(L:Int))=True:=uq;have e2:(((jh+pre.length:Nat):Int)<0)=False:=oyf;have sU:∀(ds:List UInt8)(b:Nat)(d x:UInt8),jk (ds.map pE) b (putCells (.int .u8 d.toNat) 0 [.int .u8 x.toNat])=(ds.set b x).map pE:=Y1;have e3:(jh+pre.length<out.length)=True:=uq;have e4:(jh+pre.length<L)=True:=uq;obtain⟨d,hb⟩:∃d,out[jh+pre.length]?=some d:=⟨_,ai (by omega)⟩
  have i1:=hi (out.set (jh+pre.length) x) (by simp[ho])
  simp only[FT,cn,hx',hw,h0,w1,e1,e2,e3,e4,hb,ho,sU,pE,bN,EW,seval];exact i1
end
def anX(file:Bytes)(jh:Nat)(data:Bytes)(hf:file.length<=100000)(hr:jh+data.length<=100000):∃out:Bytes,ar bK 117 [cX file,aE jh,cX data] []=some (cX out,[])/\out.length<=100000:=by
 have key:∃r:ag×aH,(∃out:Bytes,r=(cX out,[])/\out.length<=100000)/\eW (ar bK) DQ.results 0 [] DQ.body (fq 0 [cX file,aE jh,cX data]) []=some r:=by
  have r1:cu file.length 1=True:=qm;cases h1:(data.length:Int)==0
  ·have la:=fun {k Q} hx=>S8 (data:=data) (jh:=jh) (Q:=Q) hr (k:=k) hx _ 0 file rfl (by omega)
   have hk:∀ {k:List K} {a b c d:ag} {M:aH},eW (ar bK) [.tmp 6] 0 k (.loop [1,2,7] Fp) [(1,a),(2,b),(7,c),(14,d)] M=eW (ar bK) [.tmp 6] 0 k (.loop [1,2,7] Fp) [(1,a),(2,b),(7,c)] M:=by
    intros; rw[bt,bt]; rfl
   simp only[DQ,FT,h1,r1,EW,seval];rw[hk];refine la (fun v out z h2 h3=>?_)
   have lb:=fun {k Q} hx=>S9 (data:=data) (jh:=jh) (Q:=Q) hr (v:=v) h2 (k:=k) hx (out:=out) rfl
   simp only[FT,EW,seval];refine lb (fun out' z h4=>?_)
   have htk:(out'.map pE).take out.length=out'.map pE:=bS (by simp[h4])
   simp only[FT,h4,htk,bN,EW,seval];exact⟨_,⟨out',rfl,by omega⟩,rfl⟩
  ·have htk:(file.map pE).take file.length=file.map pE:=bS (by simp)
   simp only[DQ,FT,h1,r1,htk,bN,EW,seval];exact⟨_,⟨file,rfl,by omega⟩,rfl⟩
 obtain⟨_,⟨out,rfl,h1⟩,h3⟩:=key;exact⟨out,aw h3,h1⟩
def c52{K:Nat}(f:aa)(o:jz)(hf:FB K f)(hK:K<=89000)(ho:yy o):xD K f 52 [.agg (cG f),.agg (ep o)]:=by
 have hr:=hf.ok.rt;have h200:=hr.sz.ae;have hod:=ho.data;have q4:=k49;simp only[dr,gw,c9,cX,bc] at q4;have back:FB (K+200) f:=hf.mono (by omega)
 cases h0:o.kind==9
 case true =>
  obtain⟨u,l,e,qa,g⟩:=aiP f.s.now f.holds o.cD o.handle hr hf.ok.holds hf.ok.dR;have qp:=c56 f.s u hr g.rt hf.ok.len hf.ok.cp hf.ok.dw;have q1:=cP qa;have q2:=cP qp;simp only[bo,aI,bl] at q1 q2;cases h1:e != 0
  ·refine⟨⟨mu f.s u,l,f.cL⟩,gw 0,aw ?_,hf.put hK g.rt g.jd g.len hf.ok.cL hf.ok.qv,fun h=>zt g.mem (g.Lu h.Lu) (fun q hq=>g.dir _ (h.quo q hq)) (g.one _ h.one) (fun q hq=>by rw[g.use]; exact h.over q hq) h,.inr (.inl ⟨u,g.rt,rfl⟩)⟩
   simp only[Bn,Oq,cG,ep,dr,gw,c9,cX,h0,h1,q1,q2,EW,seval]
  ·refine⟨f,gw e,aw ?_,back,CB⟩;simp only[Bn,Oq,cG,ep,dr,gw,c9,cX,h0,h1,q1,q4,EW,seval]
 obtain⟨x,e,qa⟩:=anW f.holds o.cD o.handle hf.ok.dR;have q1:=cP qa;cases h1:e != 0
 case true =>
  refine⟨f,gw e,aw ?_,back,CB⟩;simp only[Bn,Oq,cG,ep,dr,gw,c9,cX,h0,h1,q1,q4,EW,seval]
 have qg:=fun M=>Ae f.s.now.ae f.s.now.next f.s.now.aj x (by omega) M
 have hz:(find f.s.now.ae x).getD Node.zero=aY f.s.now.ae x:=rfl;rw[hz] at qg;obtain⟨s1,s2⟩:=zd hf.ok x;generalize aY f.s.now.ae x=n at qg s1 s2;simp only[bD,aF] at qg;have bad:∀e,ar bK 52 [.agg (cG f),.agg (ep o)] []=some (.tuple [.agg (cG f),.agg (dr (gw e))],[])->xD K f 52 [.agg (cG f),.agg (ep o)]:=fun e h=>⟨f,gw e,h,back,CB⟩
 cases h2:decide (o.n<0)
 case true =>
  refine bad 1 (aw ?_);simp only[Bn,Oq,cG,ep,dr,gw,c9,cX,h0,h1,h2,q1,q4,qg,EW,seval]
 have hn0:0<=o.n:=by simpa using h2
 obtain⟨m1,m2⟩:=zb hn0 n.data.length;generalize Ah o.n n.data.length=mn at m1 m2;have t1:((mn:Int)<=(n.data.length:Int))=True:=uq;have ta:(n.data.map pE).take n.data.length=n.data.map pE:=bS (by simp)
 cases h3:o.kind==10
 case true =>
  have h3':(o.kind==11)=false:=by simp at h3 ⊢; omega
  cases h4:decide (o.m<0)
  case true =>
   refine bad 1 (aw ?_);simp only[Bn,Oq,cG,ep,dr,gw,c9,cX,h0,h1,h2,h3,h3',h4,q1,q4,qg,EW,seval]
  cases h5:decide (4096<o.m)
  case true =>
   refine bad 1 (aw ?_);simp only[Bn,Oq,cG,ep,dr,gw,c9,cX,h0,h1,h2,h3,h3',h4,h5,q1,q4,qg,EW,seval]
  simp only[dq] at h4 h5;have g4:decide (o.m<0)=false:=by simp; omega
  have g5:decide (4096<o.m)=false:=by simp; omega
  have w1:IntKind.i64.wrap ((mn:Int)+o.m)=(mn:Int)+o.m:=fW (by omega) (by omega)
  obtain⟨p1,p2⟩:=zb (a:=(mn:Int)+o.m) (by omega) n.data.length
  have p3:mn<=Ah ((mn:Int)+o.m) n.data.length:=by
   have:=p1; split at this<;>omega
  generalize Ah ((mn:Int)+o.m) n.data.length=mx at p1 p2 p3;have t2:((mx:Int)<=(n.data.length:Int))=True:=uq;have t3:((mn:Int)<=(mx:Int))=True:=uq;refine⟨f,⟨0,x,0,0,0,[],(n.data.take mx).drop mn⟩,aw ?_,back,CB⟩;simp only[Bn,Oq,cG,ep,dr,gw,c9,cX,h0,h1,h2,h3,h3',g4,g5,q1,qg,m1,p1,w1,t1,t2,t3,ta,fy,jw,EW,seval]
 cases h6:o.kind==11
 case true =>
  cases h7:decide (4096<o.n)
  case true =>
   refine bad 1 (aw ?_);simp only[Bn,Oq,cG,ep,dr,gw,c9,cX,h0,h1,h2,h3,h6,h7,q1,q4,qg,EW,seval]
  have h7':¬4096<o.n:=by simpa using h7
  obtain⟨m,hm⟩:∃m:Nat,o.n=m:=⟨o.n.toNat,by omega⟩
  rw[hm] at h2 h7;have w1:IntKind.i64.wrap ((m:Int)+(o.data.length:Int))=(m:Int)+(o.data.length:Int):=fW (by omega) (by omega)
  cases h8:decide (4096<(m:Int)+(o.data.length:Int))
  case true =>
   refine bad 2 (aw ?_);simp only[Bn,Oq,cG,ep,dr,gw,c9,cX,hm,h0,h1,h2,h3,h6,h7,h8,w1,q1,q4,qg,EW,seval]
  obtain⟨d,ql,hd⟩:=anX n.data m o.data (by omega) (by omega)
  have q5:=cP ql;have h8':¬4096<(m:Int)+(o.data.length:Int):=by simpa using h8
  have q6:=fun M=>akD f.s.now.ae f.s.now.next f.s.now.aj x d hr.small hd M
  have hv:=hr.put x d;have hkf:=Cz hr x d;have hrf:=J5 hr x d;generalize qt f.s.now x d=v at q6 hv hkf hrf;obtain⟨g,a,qd,hg⟩:=IT f v.1 f.cL v.2 ⟨0,x,0,0,d.length,[],[]⟩ hf hK hv hf.ok.cL hf.ok.qv (fun y _ h=>hkf.2 _ h) (fun h y hy hi=>(h.quo y hy).no (hrf _ hi))
  have q7:=cP qd;simp only[bo,aI,cG,dr,c9,cX,bc] at q5 q6 q7;refine⟨g,a,aw ?_,hg⟩;simp only[Bn,Oq,cG,ep,dr,gw,c9,cX,hm,h0,h1,h2,h3,h6,h7,h8,w1,q1,q5,q6,q7,qg,EW,seval]
 have tl1:(List.take mn (n.data.map pE)).length=mn:=by simp; omega
 have tl2:(List.take mn n.data).length=mn:=by simp; omega
 have q6:=fun M=>akD f.s.now.ae f.s.now.next f.s.now.aj x (n.data.take mn) hr.small (by simp; omega) M
 have hv:=hr.put x (n.data.take mn);have hkf:=Cz hr x (n.data.take mn);have hrf:=J5 hr x (n.data.take mn);generalize qt f.s.now x (n.data.take mn)=v at q6 hv hkf hrf;obtain⟨g,a,qd,hg⟩:=IT f v.1 f.cL v.2 ⟨0,x,0,0,(n.data.take mn).length,[],[]⟩ hf hK hv hf.ok.cL hf.ok.qv (fun y _ h=>hkf.2 _ h) (fun h y hy hi=>(h.quo y hy).no (hrf _ hi))
 have q7:=cP qd;simp only[bo,aI,cG,dr,c9,cX,bc,eO,tl2] at q6 q7;refine⟨g,a,aw ?_,hg⟩;simp only[Bn,Oq,tl1,cG,ep,dr,gw,c9,cX,h0,h1,h2,h3,h6,q1,q6,q7,qg,m1,t1,fy,EW,seval]
section
variable {s:ga} {Q:ag×aH->Prop} {id:Int}
abbrev N6(s:ga):aH:=[.cells (bl s),.cells [.slice .c0 [],.int .i64 0,.int .i64 0,.int .i64 0,.slice .c0 [],.slice .c0 [],.slice .c0 [],.int .i64 0]]
def Yn(hk:s.cp.length<=16){k:List K}
  (hx:∀z,∃r,Q r/\kr (ar bK) [.dB 4 8,.tmp 5] 0 k ⟨.exit 0,(1,aE id)::(2,bX 0)::(4,bX 1)::(6,.slice (.own 2) ((s.cp.filter (nR id)).map jN))::z,N6 s++[.tick 3 (s.cp.filter (nR id)).length]⟩=some r) :
  ∃r,Q r/\eW (ar bK) [.dB 4 8,.tmp 5] 0 k (.loop [1,2,4,6,7] aeS) [(1,aE id),(2,bX 0),(4,bX 1),(6,.slice (.own 2) []),(7,aE 0)] (N6 s++[.tick 3 0])=some r:=by
 refine iu (xs:=s.cp) (by omega) (fun m (ts:List j5)=>ts=(s.cp.take m).filter (nR id)) (fun ts i=>[(1,aE id),(2,bX 0),(4,bX 1),(6,.slice (.own 2) (ts.map jN)),(7,aE i)]) (fun ts=>N6 s++[.tick 3 ts.length]) Q (fun ts hK=>?_) (fun pre x post ts e hx' cn hw h0 hm hK hi=>?_) [] rfl
 ·rw[cg] at hK;subst hK;simp only[N6,bl,aU,aW] at hx ⊢;simp only[Zm,bp,EW,seval];exact hx _
 ·have hp:=(ak.1 hx').1;have hl:ts.length<=16:=by rw[hK]; exact aV (bZ _ _) (by simp; omega)
  have i1:=hi (ts++if x.id != id then [x] else []) (by rw[cB,hx',lH,<-hK]; simp only[lI,eu,ll,nR]<;>rfl)
  have r1:cu (ts.length+1) 24=True:=qm;simp only[N6,bl,aU,aW] at i1 ⊢;cases h1:x.id != id<;>simp only[h1,af,aG,az,cW,bu,aP,bc,aD,au,av,aK,jN,gv] at i1<;>simp only[Zm,cn,hx',hw,h0,h1,r1,jN,gv,EW,seval]<;>exact i1
def Yo(hp:s.dw.length<=90000){ts:List j5}(hk:ts.length<=16){k:List K}
  (hx:∀z,∃r,Q r/\kr (ar bK) [.dB 4 8,.tmp 5] 0 k ⟨.exit 2,(2,bX 0)::(4,bX 1)::(6,.slice (.own 2) (ts.map jN))::(8,.slice (.own 3) ((s.dw.filter (tz ts)).map iC))::z,N6 s++[.tick 3 ts.length,.tick 8 (s.dw.filter (tz ts)).length]⟩=some r) :
  ∃r,Q r/\eW (ar bK) [.dB 4 8,.tmp 5] 0 k (.loop [2,4,6,8,9] aeT) [(2,bX 0),(4,bX 1),(6,.slice (.own 2) (ts.map jN)),(8,.slice (.own 3) []),(9,aE 0)] (N6 s++[.tick 3 ts.length,.tick 8 0])=some r:=by
 refine iu (xs:=s.dw) (by omega) (fun m (P:List mP)=>P=(s.dw.take m).filter (tz ts)) (fun P i=>[(2,bX 0),(4,bX 1),(6,.slice (.own 2) (ts.map jN)),(8,.slice (.own 3) (P.map iC)),(9,aE i)]) (fun P=>N6 s++[.tick 3 ts.length,.tick 8 P.length]) Q (fun P hP=>?_) (fun pre x post P e hx' cn hw h0 hm hP hi=>?_) [] rfl
 ·rw[cg] at hP;subst hP;simp only[N6,bl,aU,aW] at hx ⊢;simp only[Zm,bp,EW,seval];exact hx _
 ·have hp':=(ak.1 hx').1;have hl:P.length<=90000:=by rw[hP]; exact aV (bZ _ _) (by simp; omega)
  have i1:=hi (P++if uU ts x.jh x.nS then [x] else []) (by rw[cB,hx',lH,<-hP]; simp only[lI,eu,ll,tz]<;>rfl)
  have qw:=fun M=>akE ts x.jh x.nS (by omega) M
  generalize uU ts x.jh x.nS=w at qw i1;have r1:cu (P.length+1) 96=True:=qm;simp only[N6,bl,aU,aW] at i1 ⊢;cases w<;>simp only[af,aG,az,cW,bu,aP,bc,aD,au,av,aK,iC,fL,aF] at i1<;>simp only[Zm,cn,hx',hw,h0,qw,r1,iC,fL,aF,EW,seval]<;>exact i1
end
def c54(s:ga)(id:Int)(hk:s.cp.length<=16)(hp:s.dw.length<=90000):∃e,ar bK 54 [.agg (bl s),aE id] []=some (.tuple [.agg (bl (nN s id).1),aE e],[]):=by
 have key:∃r:ag×aH,(∃e,r=(.tuple [.agg (bl (nN s id).1),aE e],[]))/\eW (ar bK) PV.results 0 [] PV.body (fq 0 [.agg (bl s),aE id]) []=some r:=by
  have la:=fun {k Q} hx=>Yn (s:=s) (Q:=Q) (id:=id) hk (k:=k) hx
  simp only[N6,bl,aU,aW] at la;simp only[PV,Zm,bl,EW,seval];refine la (fun z=>?_)
  unfold nN;have hK:(s.cp.filter (nR id)).length<=16:=aV (bZ _ _) hk;generalize s.cp.filter (nR id)=ts at hK ⊢;cases h1:(ts.length:Int)==(s.cp.length:Int)
  ·have lb:=fun {k Q} hx=>Yo (s:=s) (Q:=Q) hp (ts:=ts) hK (k:=k) hx
   simp only[N6,bl,aU,aW] at lb;simp only[Zm,h1,af,az,EW,seval];refine lb (fun z=>?_)
   simp only[Zm,EW,seval];exact⟨_,⟨0,rfl⟩,rfl⟩
  ·simp only[Zm,h1,aG,EW,seval];exact⟨_,⟨100,rfl⟩,rfl⟩
 obtain⟨_,⟨e,rfl⟩,h3⟩:=key;exact⟨e,aw h3⟩
def apD(l:List Node)(n:Node)(hn:l.length<=100000):∃m,ar bK 252 [aN l,bD n] []=some (aN m,[])/\m.length=l.length+1/\∀x,x∈m->x=n\/x∈l:=by
 have key:∃r:ag×aH,(∃m,r=(aN m,[])/\m.length=l.length+1/\∀x,x∈m->x=n\/x∈l)/\eW (ar bK) GS.results 0 [] GS.body (fq 0 [aN l,bD n]) []=some r:=by
  simp only[GS,Vz,bD,aF,EW,seval]
  have fin:∀(i:Nat),i<=l.length->∃m:List Node,m.length=l.length+1/\(∀x,x∈m->x=n\/x∈l)/\l.take i++n::l.drop i=m:=fun i hi=>⟨_,by simp; omega,fun x hx=>by
   rcases bB.1 hx with hx|hx
   ·exact .inr (dI hx)
   ·rcases bC.1 hx with hx|hx
    ·exact .inl hx
    ·exact .inr (dk hx),rfl⟩
  refine iu (xs:=l) (by omega) (fun _ (_:Unit)=>True) (fun _ i=>[(0,aN l),(3,bX 0),(5,aE i)]) (fun _=>[bO [aE n.aq,aE n.kind,aE n.dz,cX n.data,gS n.aL,aE n.up]]) _ (fun _ _=>?_) (fun pre x post _ e hx cn hw h0 hm _ hi=>?_) () trivial
  ·obtain⟨m,m1,m2,m3⟩:=fin l.length (aC _);have r1:cu l.length 80=True:=qm;have r2:cu (l.length+1) 80=True:=qm;have a1:(l.map bD).take l.length=l.map bD:=by rw[<-eO,cg]
   have a2:(l.map bD).drop l.length=[]:=by rw[<-jw,List.drop_length]; rfl
   simp only[Vz,bp,cZ,a1,a2,r1,r2,EW,seval];refine⟨_,⟨m,rfl,m1,m2⟩,?_⟩;rw[<-m3]; simp[bD,aF]
  ·have hp:=(ak.1 hx).1;obtain⟨m,m1,m2,m3⟩:=fin pre.length (by omega)
   have i1:=hi () trivial;have r1:cu pre.length 80=True:=qm;have r2:cu (pre.length+1) 80=True:=qm;obtain⟨B,hB⟩:∃B,x::post=B:=⟨_,rfl⟩;have t1:l.take pre.length=pre:=by rw[e]; simp
   have t2:l.drop pre.length=B:=by rw[e,<-hB]; simp
   have t3:pre.length+B.length=l.length:=by rw[e,<-hB]; simp
   have r3:cu (pre.length+1+B.length) 80=True:=qm;have a1:(l.map bD).take pre.length=pre.map bD:=by rw[<-eO,t1]
   have a2:(l.map bD).drop pre.length=B.map bD:=by rw[<-jw,t2]
   have a3:((pre.length:Int)<=(l.length:Int))=True:=uq;have a4:(l.map bD).take l.length=l.map bD:=by rw[<-eO,cg]
   cases h1:decide (x.aq<=n.aq)<;>simp only[Vz,cn,hx,hw,h0,h1,bD,aF,EW,seval]
   ·simp only[Vz,a1,a2,a3,a4,r1,r2,r3,cZ,EW,seval];refine⟨_,⟨m,rfl,m1,m2⟩,?_⟩;rw[<-m3,t1,t2]; simp[bD,aF]
   ·exact i1
 obtain⟨_,⟨m,rfl,h1⟩,h3⟩:=key;exact⟨m,aw h3,h1⟩
end
def U7:List Node->List Bool->Nat
 |n::r,b::m=>(if b then 0 else n.aL.length)+U7 r m
 |_,_=>0
def LQ:∀(l:List Node)(m:List Bool)(i:Nat)(n:Node),l[i]?=some n->m[i]?=some false->U7 l (m.set i true)+n.aL.length=U7 l m
 | [],m,i,n,h,_=>by simp at h
 |x::l,[],i,n,_,h=>by simp at h
 |x::l,b::m,0,n,h,h'=>by simp at h h'; subst h; subst h'; simp[U7]; omega
 |x::l,b::m,i+1,n,h,h'=>by
  have:=LQ l m i n (by simpa using h) (by simpa using h')
  simp only[List.set_cons_succ,U7]; omega
def U8:∀(l:List Node)(m:List Bool),(∀n,n∈l->n.aL.length<=64)->U7 l m<=64*l.length
 | [],m,_=>by simp[U7]
 |x::l,[],_=>by simp[U7]
 |x::l,b::m,h=>by
  have h1:=U8 l m fun n hn=>h n (aX _ hn)
  have h2:=h x bj;simp only[U7,au]; split<;>omega
section
attribute [local irreducible] eW fQ lh gK dW kr ar aM cq bI
section
variable {l:List Node} {Q:ag×aH->Prop}
abbrev H5(l:List Node)(m:List Bool)(all:List Int):aH:=[.arr 1 0 (m.map ag.bool),.cells [aN l,.int .i64 0,.int .i64 0],.tick 1 all.length]
abbrev UX(n:Node):dv := .cells [.int .i64 n.aq,.int .i64 n.kind,.int .i64 n.dz,cX n.data,gS n.aL,.int .i64 n.up]
def Ti(hl:l.length<=100000){m:List Bool}{all:List Int}{i:Nat}{A B:List Node}{n:Node}(hs:l=A++n::B)(hA:∀x,x∈A->x.aq≠n.aq){k:List K}
  (hx:∀z,∃r,Q r/\kr (ar bK) [.tmp 4,.tmp 5] 0 k ⟨.exit 2,(0,aN l)::(6,.cN 0 0 1 0 l.length)::(7,bX 1)::(8,.slice (.own 2) (all.map kv))::(9,aE i)::(10,bX 3)::(12,aE A.length)::z,H5 l m all++[UX n]⟩=some r) :
  ∀(d j:Nat),j+d=A.length->∃r,Q r/\eW (ar bK) [.tmp 4,.tmp 5] 0 k (.loop [0,6,7,8,9,10,12] Xn) [(0,aN l),(6,.cN 0 0 1 0 l.length),(7,bX 1),(8,.slice (.own 2) (all.map kv)),(9,aE i),(10,bX 3),(12,aE j)] (H5 l m all++[UX n])=some r:=by
 have hl2:l.length=A.length+(B.length+1):=by rw[hs]; simp
 intro d;induction d with
 |zero =>
  intro j hj;obtain rfl:j=A.length:=by omega
  rw[bt];have b0:((A.length:Int)<0)=False:=by simp
  have hn:l[A.length]?=some n:=by rw[hs]; simp
  have e1:(n.aq != n.aq)=false:=by simp
  simp only[H5,UX,aU,aW] at hx ⊢;simp only[zF,b0,hn,e1,bD,aF,EW,seval];exact hx _
 |succ d ih =>
  intro j hj;rw[bt];have b0:((j:Int)<0)=False:=by simp
  obtain⟨x,hx1⟩:∃x,A[j]?=some x:=⟨_,ai (by omega)⟩
  have hn:l[j]?=some x:=by rw[hs,bA (by omega)]; exact hx1
  have e1:(x.aq != n.aq)=true:=by simpa using hA x (aO hx1)
  have w1:IntKind.i64.wrap ((j:Int)+1)=((j+1:Nat):Int):=by rw[fW (by omega) (by omega)]; rfl
  have i1:=ih (j+1) (by omega)
  simp only[H5,UX,aU,aW] at i1 ⊢;simp only[zF,b0,hn,e1,w1,bD,aF,EW,seval];exact i1
def Tj{m:List Bool}{all:List Int}{i:Nat}{n:Node}(hn:n.aL.length<=64)(ha:all.length<=10000000){k:List K}
  (hx:∀(S:List Int) z,S.length=all.length+n.aL.length->∃r,Q r/\kr (ar bK) [.tmp 4,.tmp 5] 0 k ⟨.exit 4,(0,aN l)::(6,.cN 0 0 1 0 l.length)::(7,bX 1)::(8,.slice (.own 2) (S.map kv))::(9,aE i)::z,H5 l m S++[UX n]⟩=some r) :
  ∃r,Q r/\eW (ar bK) [.tmp 4,.tmp 5] 0 k (.loop [0,6,7,8,9,10,13] Xo) [(0,aN l),(6,.cN 0 0 1 0 l.length),(7,bX 1),(8,.slice (.own 2) (all.map kv)),(9,aE i),(10,bX 3),(13,aE 0)] (H5 l m all++[UX n])=some r:=by
 refine iu (xs:=n.aL) (by omega) (fun c (S:List Int)=>S.length=all.length+c) (fun S j=>[(0,aN l),(6,.cN 0 0 1 0 l.length),(7,bX 1),(8,.slice (.own 2) (S.map kv)),(9,aE i),(10,bX 3),(13,aE j)]) (fun S=>H5 l m S++[UX n]) Q (fun S hS=>?_) (fun pre e post S h hx' cn hw h0 hm hS hi=>?_) all rfl
 ·have:=fun z=>hx S ((10,bX 3)::z) hS
  simp only[H5,UX,aU,aW] at this ⊢;simp only[zF,bp,EW,seval];exact this _
 ·have hp:=(ak.1 hx').1;have i1:=hi (S++[e.aq]) (by simp; omega)
  have r1:cu (S.length+1) 8=True:=by
   simp only[eH,im]; unfold cu; omega
  simp only[H5,UX,aU,aW,bu,aP,bc,aD,au,av,aK,kv] at i1 ⊢;simp only[zF,cn,hx',hw,h0,r1,rS,fH,fa,EW,seval];exact i1
def Tl(hl:l.length<=100000)(he:∀n,n∈l->n.aL.length<=64){k:List K}
  (hx:∀(m:List Bool) z M,m.length=l.length->∃r,Q r/\kr (ar bK) [.tmp 4,.tmp 5] 0 k ⟨.exit 0,(0,aN l)::(6,.cN 0 0 1 0 l.length)::z,.arr 1 0 (m.map ag.bool)::M⟩=some r)
  (hr:∀(m:List Bool) M,m.length=l.length->∃r,Q r/\kr (ar bK) [.tmp 4,.tmp 5] 0 k ⟨.ret,[(4,.cN 0 0 1 0 l.length),(5,.bool false)],.arr 1 0 (m.map ag.bool)::M⟩=some r) :
  ∀(d:Nat)(m:List Bool)(all:List Int)(i:Nat),m.length=l.length->i<=all.length->all.length+U7 l m<=7000000->all.length+U7 l m-i=d->∃r,Q r/\eW (ar bK) [.tmp 4,.tmp 5] 0 k (.loop [0,6,7,8,9] Xp) [(0,aN l),(6,.cN 0 0 1 0 l.length),(7,bX 1),(8,.slice (.own 2) (all.map kv)),(9,aE i)] (H5 l m all)=some r:=by
 intro d;induction d using Nat.strongRecOn with
 |_ d ih =>
  intro m all i hm hi hb hd;rw[bt];rcases bF i all.length with h1|h1
  ·have e1:((i:Int)<(all.length:Int))=True:=uq;have e0:((i:Int)<0)=False:=by simp
   have w1:IntKind.i64.wrap ((i:Int)+1)=((i+1:Nat):Int):=by rw[fW (by omega) (by omega)]; rfl
   obtain⟨x,hx1⟩:∃x,all[i]?=some x:=⟨_,ai h1⟩;have qg:=fun M=>Ae l 0 0 x hl M
   cases hf:find l x with
   |none =>
    rw[hf] at qg;simp only[iY,eA,bD,aF,Node.zero,bc] at qg;simp only[H5,aU,aW] at hr ⊢;simp only[zF,e1,e0,hx1,qg,kv,EW,seval];exact hr m _ hm
   |some n =>
    rw[hf] at qg;simp only[bn,bW,bD,aF] at qg;obtain⟨_,A,B,hs,hA⟩:=List.find?_eq_some_iff_append.1 hf;have hnm:n∈l:=by rw[hs]; simp
    have hne:=he n hnm
    have hA':∀y,y∈A->y.aq≠n.aq:=fun y hy hyn=>by
     have h2:=hA y hy;have h3:=(List.find?_eq_some_iff_append.1 hf).1;simp at h2 h3; omega
    have la:=fun {k} hx=>Ti (l:=l) (Q:=Q) hl (m:=m) (all:=all) (i:=i) hs hA' (k:=k) hx A.length 0 (by omega)
    simp only[H5,UX,aU,aW] at la ⊢;simp only[zF,e1,e0,hx1,qg,kv,EW,seval];refine la (fun z=>?_)
    have hAl:A.length<l.length:=by rw[hs]; simp
    have a0:((A.length:Int)<0)=False:=by simp
    have a1:((A.length:Int)<(l.length:Int))=True:=uq;have a2:(A.length<l.length)=True:=uq;have a3:(A.length<m.length)=True:=uq;have hln:l[A.length]?=some n:=by rw[hs]; simp
    obtain⟨b,hmb⟩:∃b,m[A.length]?=some b:=⟨_,ai (by omega)⟩
    cases b
    ·have hu:=LQ l m A.length n hln hmb;have lb:=fun {k} hx=>Tj (l:=l) (Q:=Q) (m:=m.set A.length true) (all:=all) (i:=i) (n:=n) hne (by omega) (k:=k) hx
     simp only[H5,UX,aU,aW] at lb;simp only[zF,a0,a1,a2,a3,hmb,hm,Ex,bN,EW,seval];refine lb (fun S z hS=>?_)
     have i1:=ih _ (by omega) (m.set A.length true) S (i+1) (by simp[hm]) (by omega) (by omega) rfl
     simp only[H5] at i1;simp only[zF,w1,EW,seval];exact i1
    ·have i1:=ih _ (by omega) m all (i+1) hm (by omega) hb rfl
     simp only[H5] at i1;simp only[zF,a0,a1,a2,a3,hmb,hm,w1,bN,EW,seval];exact i1
  ·have e1:((i:Int)<(all.length:Int))=False:=oyf;simp only[H5,aU,aW] at hx ⊢;simp only[zF,e1,EW,seval];exact hx m _ _ hm
end
def aoZ(l:List Node)(aq:Int)(hl:l.length<=100000)(he:∀n,n∈l->n.aL.length<=64):∃(m:List Bool) (b:Bool),ar bK 192 [aN l,aE aq] []=some (.tuple [gH (m.map ag.bool),.bool b],[])/\m.length=l.length:=by
 have key:∃r:ag×aH,(∃(m:List Bool) (b:Bool),r=(.tuple [gH (m.map ag.bool),.bool b],[])/\m.length=l.length)/\eW (ar bK) GN.results 0 [] GN.body (fq 0 [aN l,aE aq]) []=some r:=by
  have r1:cu l.length 8=True:=qm
  have hrep:List.replicate l.length (ag.agg [ag.bool false]).norm=(List.replicate l.length false).map ag.bool:=by
   rw[gF]; rfl
  have hu:=U8 l (List.replicate l.length false) he;have lc:=fun {k Q} hx hr=>Tl (l:=l) (Q:=Q) hl he (k:=k) hx hr _ (List.replicate l.length false) [aq] 0 (by simp) (by simp) (by simp; omega) rfl
  simp only[H5,aP,bc,au,av,kv] at lc;simp only[GN,zF,r1,hrep,EW,seval];refine lc (fun m z M hm=>?_) (fun m M hm=>?_)
  ·have htk:(m.map ag.bool).take l.length=m.map ag.bool:=bS (by simp[hm])
   simp only[zF,hm,htk,bN,EW,seval];exact⟨_,⟨m,true,rfl,hm⟩,rfl⟩
  ·have htk:(m.map ag.bool).take l.length=m.map ag.bool:=bS (by simp[hm])
   simp only[zF,hm,htk,bN,EW,seval];exact⟨_,⟨m,false,rfl,hm⟩,rfl⟩
 obtain⟨_,⟨m,b,rfl,h1⟩,h3⟩:=key;exact⟨m,b,aw h3,h1⟩
section
variable {s:ga} {a:Int} {Q:ag×aH->Prop}
def AF(c:Nat)(x:ag×List Node):Prop:=(x.1 = .slice .c0 []/\x.2=[]\/x.1=aN x.2)/\x.2.length<=c/\∀n,n∈x.2->Iz n
def AF.akB{c:Nat}{x:ag×List Node}(h:AF c x)(hc:c<=100000){n:Node}(hn:Iz n):∃m,(∀M,aM (ar bK) 252 [x.1.fS,.agg (aF n)] M=some (aN m,M))/\AF (c+1) (aN m,m):=by
 obtain⟨v,l⟩:=x;obtain⟨h1,h2,h3⟩:=h;simp only at h1 h2 h3;obtain⟨m,q,g1,g2⟩:=apD l n (by omega)
 have hv:v.fS=aN l:=by
  rcases h1 with ⟨rfl,rfl⟩|rfl<;>rfl
 refine⟨m,fun M=>?_,.inr rfl,by simp only; omega,fun y hy=>?_⟩
 ·simp only[hv];exact cO q M
 ·rcases g2 y hy with rfl|hy
  ·exact hn
  ·exact h3 y hy
def AF.mono{c d:Nat}{x:ag×List Node}(h:AF c x)(hd:c<=d):AF d x:=⟨h.1,aV h.2.1 hd,h.2.2⟩
def aoY(s:ga)(a:Int)(hs:Rt s.now)(hl:s.since.length=s.now.ae.length)(hp:s.dw.length<=90000)(he:∀p,p∈s.dw->Iz p.node):∃l,ar bK 191 [.agg (bl s),aE a] []=some (aN l,[])/\l.length<=90200/\∀n,n∈l->Iz n:=by
 have key:∃r:ag×aH,(∃l,r=(aN l,[])/\l.length<=90200/\∀n,n∈l->Iz n)/\eW (ar bK) KQ.results 0 [] KQ.body (fq 0 [.agg (bl s),aE a]) []=some r:=by
  have h200:=hs.sz.ae;simp only[KQ,L1,bl,EW,seval];refine iu (xs:=s.now.ae) (by omega) (fun m (x:ag×List Node)=>AF m x) (fun x i=>[(1,aE a),(2,bX 0),(5,x.1),(6,aE i)]) (fun _=>[bO (bl s)]) _ (fun x hI=>?_) (fun pre n post x e hx cn hw h0 hm hI hi=>?_) (.slice .c0 [],[]) ⟨.inl ⟨rfl,rfl⟩,aC _,fun n h=>by cases h⟩
  ·simp only[bl];simp only[L1,bp,EW,seval];refine iu (xs:=s.dw) (by omega) (fun m (x:ag×List Node)=>AF (s.now.ae.length+m) x) (fun x i=>[(1,aE a),(2,bX 0),(5,x.1),(7,aE i)]) (fun _=>[bO (bl s)]) _ (fun x hI=>?_) (fun pre p post x e hx cn hw h0 hm hI hi=>?_) x hI
   ·obtain⟨v,l⟩:=x;obtain⟨h1,h2,h3⟩:=hI;simp only at h2 h3;rcases h1 with ⟨h1,h4⟩|h1<;>simp only at h1
    ·simp only at h4;subst h1; subst h4;simp only[bl];simp only[L1,bp,EW,seval];exact⟨_,⟨[],rfl,by simp,h3⟩,rfl⟩
    ·subst h1;simp only[bl];simp only[L1,bp,EW,seval];exact⟨_,⟨l,rfl,by omega,h3⟩,rfl⟩
   ·have hpl:=(ak.1 hx).1;obtain⟨m,q,g⟩:=hI.akB (by omega) (he p hm)
    have i1:=hi x (hI.mono (by omega))
    have i2:=hi _ g;obtain⟨v,l⟩:=x;rcases hI.1 with ⟨h3,h4⟩|h3<;>simp only at h3<;>first|(simp only at h4; subst h3; subst h4)|subst h3
    all_goals
     first
      |(change ∀M,aM (ar bK) 252 [gH [],.agg (aF p.node)] M=_ at q)
      |(change ∀M,aM (ar bK) 252 [aN l,.agg (aF p.node)] M=_ at q)
     simp only[bl,aF] at i1 i2 q ⊢;cases h1:decide (p.jh<=a)<;>cases h2:decide (a<p.nS)<;>simp only[L1,cn,hx,hw,h0,h1,h2,q,iC,fL,aF,EW,seval]<;>first|exact i1|exact i2
  ·have hpl:=(ak.1 hx).1;have hl1:((pre.length:Int)<(s.since.length:Int))=True:=uq;obtain⟨y,hy⟩:∃y,s.since[pre.length]?=some y:=⟨_,ai (by omega)⟩
   obtain⟨m,q,g⟩:=hI.akB (by omega) (hs.Vj hm)
   have i1:=hi x (hI.mono (by omega))
   have i2:=hi _ g;obtain⟨v,l⟩:=x;rcases hI.1 with ⟨h3,h4⟩|h3<;>simp only at h3<;>first|(simp only at h4; subst h3; subst h4)|subst h3
   all_goals
    first
     |(change ∀M,aM (ar bK) 252 [gH [],.agg (aF n)] M=_ at q)
     |(change ∀M,aM (ar bK) 252 [aN l,.agg (aF n)] M=_ at q)
    simp only[bl,aF] at i1 i2 q ⊢;cases h1:decide (y<=a)<;>simp only[L1,cn,hx,hw,h0,hl1,hy,h1,q,bD,aF,kv,EW,seval]<;>first|exact i1|exact i2
 obtain⟨_,⟨l,rfl,h1⟩,h3⟩:=key;exact⟨l,aw h3,h1⟩
def c119(s:ga)(id:Int)(hs:Rt s.now)(hl:s.since.length=s.now.ae.length)(hp:s.dw.length<=90000)(he:∀p,p∈s.dw->Iz p.node)(hk:s.cp.length<=16):∃i l e,ar bK 119 [.agg (bl s),aE id] []=some (.tuple [aE i,aN l,aE e],[])/\l.length<=90200/\∀n,n∈l->Iz n:=by
 have key:∃r:ag×aH,(∃i l e,r=(.tuple [aE i,aN l,aE e],[])/\l.length<=90200/\∀n,n∈l->Iz n)/\eW (ar bK) GJ.results 0 [] GJ.body (fq 0 [.agg (bl s),aE id]) []=some r:=by
  simp only[GJ,Oe,bl,EW,seval];refine iu (xs:=s.cp) (by omega) (fun _ (_:Unit)=>True) (fun _ i=>[(1,aE id),(2,bX 0),(7,aE i)]) (fun _=>[bO (bl s)]) _ (fun _ _=>?_) (fun pre x post _ e hx cn hw h0 hm _ hi=>?_) () trivial
  ·simp only[bl];simp only[Oe,bp,EW,seval];exact⟨_,⟨0,[],100,rfl,by simp,fun n h=>by cases h⟩,rfl⟩
  ·have hpl:=(ak.1 hx).1;obtain⟨l,q1,g1,g2⟩:=aoY s x.at' hs hl hp he;obtain⟨m,b,q2,g3⟩:=aoZ l x.aq (by omega) (fun n hn=>(g2 n hn).1)
   have k1:=cP q1;have k2:=cP q2;have i1:=hi () trivial;have e1:((pre.length:Int)<(s.cp.length:Int))=True:=uq;simp only[bl] at i1 k1 ⊢;cases h1:x.id != id<;>simp only[Oe,cn,hx,hw,h0,h1,k1,k2,jN,gv,EW,seval]
   ·refine iu (xs:=l) (by omega) (fun c (S:List Node)=>S.length<=c/\∀n,n∈S->n∈l) (fun S i=>[(2,bX 0),(7,aE pre.length),(8,aN l),(9,gH (m.map ag.bool)),(11,.slice (.own 1) (S.map bD)),(12,aE i)]) (fun S=>[bO (bl s),.tick 6 S.length]) _ (fun S hS=>?_) (fun pre2 n post2 S e2 hx2 hlt2 hw2 h02 hm2 hS hi2=>?_) [] ⟨aC _,fun n h=>by cases h⟩
    ·simp only[bl];simp only[Oe,bp,e1,hx,h0,jN,gv,EW,seval];exact⟨_,⟨_,S,0,rfl,by omega,fun n hn=>g2 n (hS.2 n hn)⟩,rfl⟩
    ·have hpl2:=(ak.1 hx2).1;obtain⟨c,hc⟩:∃c,m[pre2.length]?=some c:=⟨_,ai (by omega)⟩
     have j1:=hi2 S ⟨by omega,hS.2⟩
     have j2:=hi2 (S++[n]) ⟨by simp; omega,fun y hy=>by
      rcases bB.1 hy with hy|hy
      ·exact hS.2 y hy
      ·rw[bP.1 hy]; exact hm2⟩
     have r1:cu (S.length+1) 80=True:=qm;simp only[bl,bu,aP,bc,aD,au,av,aK,bD,aF] at j1 j2 ⊢;cases c<;>simp only[Oe,hlt2,hx2,hw2,h02,hc,r1,bD,aF,EW,seval]<;>first|exact j1|exact j2
   ·exact i1
 obtain⟨_,⟨i,l,e,rfl,h1⟩,h3⟩:=key;exact⟨i,l,e,aw h3,h1⟩
end
section
variable {f:aa} {o:jz} {l:List Node} {names:List Bytes} {Q:ag×aH->Prop}
abbrev YR(n:Node):List ag:=[.int .i64 n.aq,.int .i64 n.kind,.int .i64 n.dz,cX n.data,gS n.aL,.int .i64 n.up]
abbrev HK(f:aa)(o:jz)(l:List Node)(n:Node):aH:=[.cells (cG f),.cells (ep o),.cells pJ,.cells [aN l,.int .i64 0,.int .i64 0],.cells (YR n)]
def Yk{n:Node}(hn:n.aL.length<=64){i:Nat}{w:Bytes}(hw':names[i]?=some w){k:List K}
  (hx:∀(x:Int) z,∃r,Q r/\kr (ar bK) [.dB 4 7] 0 k ⟨.exit 2,(4,bX 2)::(8,c9 names)::(9,bX 3)::(10,bX 4)::(12,aE i)::(13,aE x)::z,HK f o l n⟩=some r) :
  ∃r,Q r/\eW (ar bK) [.dB 4 7] 0 k (.loop [4,8,9,10,12,13,14] aeP) [(4,bX 2),(8,c9 names),(9,bX 3),(10,bX 4),(12,aE i),(13,aE 0),(14,aE 0)] (HK f o l n)=some r:=by
 have b1:((i:Int)<0)=False:=by simp
 refine iu (xs:=n.aL) (by omega) (fun _ _=>True) (fun(x:Int) j=>[(4,bX 2),(8,c9 names),(9,bX 3),(10,bX 4),(12,aE i),(13,aE x),(14,aE j)]) (fun _=>HK f o l n) Q (fun x _=>?_) (fun pre e post x h hx' cn hw h0 hm _ hi=>?_) 0 trivial
 ·simp only[HK,YR,cG,ep,pJ] at hx ⊢;simp only[Iw,bp,EW,seval];exact hx x _
 ·have i1:=hi x trivial;have i2:=hi e.aq trivial;simp only[HK,YR,cG,ep,pJ] at i1 i2 ⊢;cases h1:e.name==w<;>simp only[Iw,cn,hx',hw,h0,hw',b1,h1,fH,fa,EW,seval]<;>first|exact i1|exact i2
def Yl(hl:l.length<=100000)(he:∀n,n∈l->Iz n)(hn:names.length<=12){k:List K}
  (hx:∀(n:Node) z,Iz n->∃r,Q r/\kr (ar bK) [.dB 4 7] 0 k ⟨.exit 0,(4,bX 2)::(8,c9 names)::(9,bX 3)::(10,bX 4)::z,HK f o l n⟩=some r)
  (hr:∀(a:Int) M,∃r,Q r/\kr (ar bK) [.dB 4 7] 0 k ⟨.ret,[(4,bX 2)],bO (cG f) :: bO (ep o) :: bO (dr (gw a))::M⟩=some r) {n:Node} (hno:Iz n) :
  ∃r,Q r/\eW (ar bK) [.dB 4 7] 0 k (.loop [4,8,9,10,12] aeQ) [(4,bX 2),(8,c9 names),(9,bX 3),(10,bX 4),(12,aE 0)] (HK f o l n)=some r:=by
 have q4:=k49;simp only[dr,gw] at q4 hr;refine iu (xs:=names) (by omega) (fun _ (n:Node)=>Iz n) (fun _ i=>[(4,bX 2),(8,c9 names),(9,bX 3),(10,bX 4),(12,aE i)]) (fun n=>HK f o l n) Q (fun n hno=>?_) (fun pre w post n h hx' cn hw h0 hm hno hi=>?_) n hno
 ·simp only[HK,YR,cG,ep,pJ] at hx ⊢;simp only[Iw,bp,EW,seval];exact hx n _ hno
 ·have la:=fun {k} hx=>Yk (f:=f) (o:=o) (l:=l) (Q:=Q) hno.1 hx' (k:=k) hx
  simp only[HK,YR,cG,ep,pJ] at la hi hr ⊢;cases h1:n.kind != 2
  ·simp only[Iw,cn,h1,EW,seval];refine la (fun x z=>?_)
   have qg:=fun M=>Ae l 0 0 x hl M
   cases hf:find l x with
   |none =>
    rw[hf] at qg;simp only[iY,eA,bD,aF,Node.zero,bc] at qg;simp only[Iw,qg,q4,EW,seval];exact hr 70 _
   |some m =>
    rw[hf] at qg;simp only[bn,bW,bD,aF] at qg;have i1:=hi m (he m (gi hf));simp only[Iw,qg,hw,EW,seval];exact i1
  ·simp only[Iw,cn,h1,q4,EW,seval];exact hr 73 _
def Ym{n:Node}(hn:n.aL.length<=64){k:List K}
  (hx:∀(S:List Bytes) z,∃r,Q r/\kr (ar bK) [.dB 4 7] 0 k ⟨.exit 4,(4,bX 2)::(10,bX 4)::(17,.slice (.own 5) (S.map ag.str))::z,HK f o l n++[.tick 1 S.length]⟩=some r) :
  ∃r,Q r/\eW (ar bK) [.dB 4 7] 0 k (.loop [4,10,17,18] aeR) [(4,bX 2),(10,bX 4),(17,.slice (.own 5) []),(18,aE 0)] (HK f o l n++[.tick 1 0])=some r:=by
 refine iu (xs:=n.aL) (by omega) (fun m (S:List Bytes)=>S.length<=m) (fun S i=>[(4,bX 2),(10,bX 4),(17,.slice (.own 5) (S.map ag.str)),(18,aE i)]) (fun S=>HK f o l n++[.tick 1 S.length]) Q (fun S hS=>?_) (fun pre e post S h hx' cn hw h0 hm hS hi=>?_) [] (aC _)
 ·simp only[HK,YR,cG,ep,pJ,aU,aW] at hx ⊢;simp only[Iw,bp,EW,seval];exact hx S _
 ·have hp:=(ak.1 hx').1;have i1:=hi (S++[e.name]) (by simp; omega)
  have r1:cu (S.length+1) 16=True:=qm;simp only[HK,YR,cG,ep,pJ,aU,aW,bu,aP,bc,aD,au,av,aK] at i1 ⊢;simp only[Iw,cn,hx',hw,h0,r1,fH,fa,EW,seval];exact i1
end
def c53{K:Nat}(f:aa)(o:jz)(hf:FB K f)(hK:K<=89000)(ho:yy o):∃a,ar bK 53 [.agg (cG f),.agg (ep o)] []=some (.agg (dr a),[]):=by
 have key:∃r:ag×aH,(∃a,r=(.agg (dr a),[]))/\eW (ar bK) Ju.results 0 [] Ju.body (fq 0 [.agg (cG f),.agg (ep o)]) []=some r:=by
  obtain⟨i,l,e,qa,h1,h2⟩:=c119 f.s o.n hf.ok.rt hf.ok.len hf.ok.dw hf.ok.Br hf.ok.cp;have q1:=cP qa;have q2:=fun M=>k35 o.c8 (by have:=ho.c8; omega) M
  obtain⟨_,o2⟩:=sO o.c8;generalize mo o.c8=v at q2 o2;have q4:=k49;simp only[bl,dr,gw] at q1 q4;cases h3:e != 0
  case true =>
   simp only[Ju,Iw,cG,ep,q1,q4,h3,EW,seval];exact⟨_,⟨gw e,rfl⟩,rfl⟩
  cases h4:v.2 != 0
  case true =>
   simp only[Ju,Iw,cG,ep,q1,q2,q4,h3,h4,EW,seval];exact⟨_,⟨gw v.2,rfl⟩,rfl⟩
  have qg:=fun M=>Ae l 0 0 i (by omega) M
  have hz:Iz ((find l i).getD Node.zero):=by
   cases hf:find l i with
   |none=>exact⟨by simp[Node.zero],by simp[Node.zero]⟩
   |some m=>exact h2 m (gi hf)
  generalize (find l i).getD Node.zero=n at qg hz;have lb:=fun {k Q} hx hr=>Yl (f:=f) (o:=o) (l:=l) (names:=v.1) (Q:=Q) (by omega) h2 o2 (k:=k) hx hr hz
  simp only[HK,YR,cG,ep,pJ,bD,aF] at lb qg;simp only[Ju,Iw,cG,ep,bD,aF,q1,q2,qg,h3,h4,EW,seval];refine lb (fun n z hn=>?_) (fun a M=>?_)
  ·have lc:=fun {k Q} hx=>Ym (f:=f) (o:=o) (l:=l) (Q:=Q) hn.1 (k:=k) hx
   simp only[HK,YR,cG,ep,pJ,aU,aW] at lc;simp only[Iw,EW,seval];refine lc (fun S z=>?_)
   obtain⟨b,qs⟩:=aiO n;have q5:=cP qs;simp only[bD,aF] at q5;simp only[Iw,q5,EW,seval];exact⟨_,⟨⟨0,n.aq,n.kind,n.dz,b,S,n.data⟩,rfl⟩,rfl⟩
  ·simp only[Iw,dr,EW,seval];exact⟨_,⟨gw a,rfl⟩,rfl⟩
 obtain⟨_,⟨a,rfl⟩,h3⟩:=key;exact⟨a,aw h3⟩
def c24{K:Nat}(f:aa)(o:jz)(hf:FB K f)(hK:K<=89000)(ho:yy o):xD K f 24 [.agg (cG f),.agg (ep o)]:=by
 have q4:=k49;simp only[dr,gw,c9,cX,bc] at q4;have back:FB (K+200) f:=hf.mono (by omega)
 have bad:ar bK 24 [.agg (cG f),.agg (ep o)] []=some (.tuple [.agg (cG f),.agg (dr (gw 1))],[])->xD K f 24 [.agg (cG f),.agg (ep o)]:=fun h=>⟨f,gw 1,h,back,CB⟩
 cases c1:decide (o.cD<0)
 case true =>
  refine bad (aw ?_);simp only[tF,Dg,cG,ep,dr,gw,c9,cX,c1,q4,EW,seval]
 cases c2:decide (16<=o.cD)
 case true =>
  refine bad (aw ?_);simp only[tF,Dg,cG,ep,dr,gw,c9,cX,c1,c2,q4,EW,seval]
 obtain⟨g1,a1,r1,f1⟩:=c50 f o hf hK ho;obtain⟨g2,a2,r2,f2⟩:=c51 f o hf hK ho;obtain⟨g3,a3,r3,f3⟩:=c52 f o hf hK ho;have q1:=cP r1;have q2:=cP r2;have q3:=cP r3;simp only[cG,ep,dr] at q1 q2 q3;have byN:ar bK 24 [.agg (cG f),.agg (ep o)] []=some (.tuple [.agg (cG g1),.agg (dr a1)],[])->xD K f 24 [.agg (cG f),.agg (ep o)]:=fun h=>⟨g1,a1,h,f1⟩
 have byW:ar bK 24 [.agg (cG f),.agg (ep o)] []=some (.tuple [.agg (cG g2),.agg (dr a2)],[])->xD K f 24 [.agg (cG f),.agg (ep o)]:=fun h=>⟨g2,a2,h,f2⟩
 have byH:ar bK 24 [.agg (cG f),.agg (ep o)] []=some (.tuple [.agg (cG g3),.agg (dr a3)],[])->xD K f 24 [.agg (cG f),.agg (ep o)]:=fun h=>⟨g3,a3,h,f3⟩
 cases k2:o.kind==2
 case true =>
  refine byN (aw ?_);simp only[tF,Dg,cG,ep,dr,gw,c9,cX,c1,c2,k2,q1,EW,seval]
 cases k3:o.kind==3
 case true =>
  refine byN (aw ?_);simp only[tF,Dg,cG,ep,dr,gw,c9,cX,c1,c2,k2,k3,q1,EW,seval]
 cases k4:o.kind==4
 case true =>
  refine byN (aw ?_);simp only[tF,Dg,cG,ep,dr,gw,c9,cX,c1,c2,k2,k3,k4,q1,EW,seval]
 cases k5:o.kind==5
 case true =>
  refine byN (aw ?_);simp only[tF,Dg,cG,ep,dr,gw,c9,cX,c1,c2,k2,k3,k4,k5,q1,EW,seval]
 cases k1:o.kind==1
 case true =>
  refine byW (aw ?_);simp only[tF,Dg,cG,ep,dr,gw,c9,cX,c1,c2,k2,k3,k4,k5,k1,q2,EW,seval]
 cases k6:o.kind==6
 case true =>
  refine byW (aw ?_);simp only[tF,Dg,cG,ep,dr,gw,c9,cX,c1,c2,k2,k3,k4,k5,k1,k6,q2,EW,seval]
 cases k7:o.kind==7
 case true =>
  refine byW (aw ?_);simp only[tF,Dg,cG,ep,dr,gw,c9,cX,c1,c2,k2,k3,k4,k5,k1,k6,k7,q2,EW,seval]
 cases k8:o.kind==8
 case true =>
  refine byW (aw ?_);simp only[tF,Dg,cG,ep,dr,gw,c9,cX,c1,c2,k2,k3,k4,k5,k1,k6,k7,k8,q2,EW,seval]
 cases k13:o.kind==13
 case true =>
  refine byW (aw ?_);simp only[tF,Dg,cG,ep,dr,gw,c9,cX,c1,c2,k2,k3,k4,k5,k1,k6,k7,k8,k13,q2,EW,seval]
 cases Bo:o.kind==14
 case true =>
  refine byW (aw ?_);simp only[tF,Dg,cG,ep,dr,gw,c9,cX,c1,c2,k2,k3,k4,k5,k1,k6,k7,k8,k13,Bo,q2,EW,seval]
 cases k9:o.kind==9
 case true =>
  refine byH (aw ?_);simp only[tF,Dg,cG,ep,dr,gw,c9,cX,c1,c2,k2,k3,k4,k5,k1,k6,k7,k8,k13,Bo,k9,q3,EW,seval]
 cases k10:o.kind==10
 case true =>
  refine byH (aw ?_);simp only[tF,Dg,cG,ep,dr,gw,c9,cX,c1,c2,k2,k3,k4,k5,k1,k6,k7,k8,k13,Bo,k9,k10,q3,EW,seval]
 cases WE:o.kind==11
 case true =>
  refine byH (aw ?_);simp only[tF,Dg,cG,ep,dr,gw,c9,cX,c1,c2,k2,k3,k4,k5,k1,k6,k7,k8,k13,Bo,k9,k10,WE,q3,EW,seval]
 cases WG:o.kind==12
 case true =>
  refine byH (aw ?_);simp only[tF,Dg,cG,ep,dr,gw,c9,cX,c1,c2,k2,k3,k4,k5,k1,k6,k7,k8,k13,Bo,k9,k10,WE,WG,q3,EW,seval]
 cases k15:o.kind==15
 case true =>
  obtain⟨a,r5⟩:=c53 f o hf hK ho;have q5:=cP r5;simp only[cG,ep,dr] at q5;refine⟨f,a,aw ?_,back,CB⟩;simp only[tF,Dg,cG,ep,dr,gw,c9,cX,c1,c2,k2,k3,k4,k5,k1,k6,k7,k8,k13,Bo,k9,k10,WE,WG,k15,q5,EW,seval]
 cases k16:o.kind==16
 case true =>
  obtain⟨e,r5⟩:=c54 f.s o.n hf.ok.cp hf.ok.dw;have q5:=cP r5;simp only[bl] at q5;cases h1:e != 0
  ·obtain⟨t1,t2⟩:=hf.vF (u:=(nN f.s o.n).1) (by unfold nN; split<;>rfl) (by unfold nN; split<;>rfl) (fun p hp=>by
    unfold nN at hp;split at hp
    ·exact hp
    ·exact(cr.1 hp).1) (by unfold nN; split<;>first|exact aC _|exact bZ _ _) (by
    have:=hf.ok.cp;unfold nN; split<;>first|exact this|exact aV (bZ _ _) this)
   refine⟨⟨(nN f.s o.n).1,f.holds,f.cL⟩,gw 0,aw ?_,t1,t2,.inr (.inr (.inr ⟨_,trivial,rfl⟩))⟩;simp only[tF,Dg,cG,ep,dr,gw,c9,cX,c1,c2,k2,k3,k4,k5,k1,k6,k7,k8,k13,Bo,k9,k10,WE,WG,k15,k16,q5,h1,EW,seval]
  ·refine⟨f,gw e,aw ?_,back,CB⟩;simp only[tF,Dg,cG,ep,dr,gw,c9,cX,c1,c2,k2,k3,k4,k5,k1,k6,k7,k8,k13,Bo,k9,k10,WE,WG,k15,k16,q4,q5,h1,EW,seval]
 cases k17:o.kind==17
 case true =>
  obtain⟨u,l,r5,g⟩:=c55 f.s.now f.holds o.cD hf.ok.rt hf.ok.holds hf.ok.dR;have r6:=c56 f.s u hf.ok.rt g.rt hf.ok.len hf.ok.cp hf.ok.dw;have q5:=cP r5;have q6:=cP r6;simp only[bo,aI,bl] at q5 q6;refine⟨⟨mu f.s u,l,f.cL⟩,gw 0,aw ?_,hf.put hK g.rt g.jd g.len hf.ok.cL hf.ok.qv,fun h=>zt g.mem (g.Lu h.Lu) (fun q hq=>g.dir _ (h.quo q hq)) (g.one _ h.one) (fun q hq=>by rw[g.use]; exact h.over q hq) h,.inr (.inl ⟨u,g.rt,rfl⟩)⟩
  simp only[tF,Dg,cG,ep,dr,gw,c9,cX,c1,c2,k2,k3,k4,k5,k1,k6,k7,k8,k13,Bo,k9,k10,WE,WG,k15,k16,k17,q5,q6,EW,seval]
 refine bad (aw ?_);simp only[tF,Dg,cG,ep,dr,gw,c9,cX,c1,c2,k2,k3,k4,k5,k1,k6,k7,k8,k13,Bo,k9,k10,WE,WG,k15,k16,k17,q4,EW,seval]
def k24{K:Nat}(f:aa)(o:jz)(hf:FB K f)(hK:K<=89000)(ho:yy o):∃g a,(∀M,aM (ar bK) 24 [.agg (cG f),.agg (ep o)] M=some (.tuple [.agg (cG g),.agg (dr a)],M))/\FB (K+200) g/\Kp f g:=by
 obtain⟨g,a,h,hg⟩:=c24 f o hf hK ho;exact⟨g,a,fun M=>cO h M,hg⟩
def ac4(x y:j5):kl [.i,.i,.i] (gv x) (gv y)=some (decide (x=y)):=by
 cases x; cases y;simp only[gv,We,eS];rw[eJ];simp
def VI(x:j5):(gv x).all ag.iM=true:=rfl
def ac3(x y:dZ):kl [.i,.i,.i] (hV x) (hV y)=some (decide (x=y)):=by
 cases x; cases y;simp only[hV,We,eS];rw[eJ];simp
def VH(x:dZ):(hV x).all ag.iM=true:=rfl
def Wf(x y:cv):kl [.i,.i,.i] (gU x) (gU y)=some (decide (x=y)):=by
 cases x; cases y;simp only[gU,We,eS];rw[eJ];simp
def OG(x:cv):(gU x).all ag.iM=true:=rfl
def c47(t:Tree)(ht:t.ae.length<=100000):ar bK 47 [bo t] []=some (.agg (bl ⟨t,0,List.replicate t.ae.length 0,[],[],1⟩),[]):=by
 refine aw ?_;have r1:cu t.ae.length 8=True:=qm;have hrep:List.replicate t.ae.length (ag.agg [aE 0]).norm=(List.replicate t.ae.length (0:Int)).map kv:=by rw[gF]; rfl
 simp only[ajX,E47,bo,aI,r1,hrep,EW,seval];rfl
def c23:ar bK 23 [] []=some (.agg (cG f0),[]):=by
 have q1:=k48;have q2:∀M,aM (ar bK) 47 [.agg (aI vM)] M=some (.agg (bl f0.s),M):=fun M=>cO (c47 vM (by decide)) M
 simp only[bo,aI,bl] at q1 q2;refine aw ?_;simp only[ajI,E23,q1,q2,EW,seval];rfl
def c33(s:ga)(hs:Rt s.now)(hp:s.dw.length<=90000)(hl:s.since.length<=100000)(hk:s.cp.length<=16)(he:∀p,p∈s.dw->Iz p.node):ar bK 33 [.agg (bl s),.agg (bl s)] []=some (.bool true,[]):=by
 refine aw ?_;have h200:=hs.sz.ae;have qs:=fun M=>k95 s.now s.now (by omega) (fun n hn=>by have:=(hs.Vj hn).1; omega) M
 rw[gR rfl] at qs;simp only[ajQ,E33,bl,qs,an,EW,seval];refine lM (xs:=s.since) (by omega) (fun _ (_:Unit)=>()) (fun _ i=>[(2,bX 0),(3,bX 1),(5,aE i)]) (fun _=>[bO (bl s),bO (bl s)]) (fun _=>some (ag.bool true,([]:aH))) (fun _=>?_) (fun pre x post _ e hx cn hw h0 hm hi=>?_) ()
 ·simp only[bl];simp only[E33,bp,EW,seval];refine lM (xs:=s.dw) (by omega) (fun _ (_:Unit)=>()) (fun _ i=>[(2,bX 0),(3,bX 1),(6,aE i)]) (fun _=>[bO (bl s),bO (bl s)]) (fun _=>some (ag.bool true,([]:aH))) (fun _=>?_) (fun pre x post _ e hx cn hw h0 hm hi=>?_) ()
  ·simp only[bl];simp only[E33,bp,EW,seval];refine lM (xs:=s.cp) (by omega) (fun _ (_:Unit)=>()) (fun _ i=>[(2,bX 0),(3,bX 1),(9,aE i)]) (fun _=>[bO (bl s),bO (bl s)]) (fun _=>some (ag.bool true,([]:aH))) (fun _=>?_) (fun pre x post _ e hx cn hw h0 hm hi=>?_) ()
   ·simp only[bl];simp only[E33,bp,EW,seval]
   ·have i1:=hi ();simp only[bl] at i1 ⊢;simp only[E33,cn,hx,hw,h0,ac4,VI,jN,EW,seval];exact i1
  ·have i1:=hi ();have qn:=fun M=>k96 x.node x.node (by have:=(he x hm).1; omega) M
   rw[gR rfl] at qn;simp only[bl,aF] at i1 qn ⊢;simp only[E33,cn,hx,hw,h0,qn,an,iC,fL,aF,EW,seval];exact i1
 ·have i1:=hi ();simp only[bl] at i1 ⊢;simp only[E33,cn,hx,hw,h0,an,kv,EW,seval];exact i1
def c16(f:aa)(hf:sR f):ar bK 16 [.agg (cG f),.agg (cG f)] []=some (.bool true,[]):=by
 refine aw ?_;have h200:=hf.rt.sz.ae;have h1:=hf.dR;have h2:=hf.qv;have qs:=fun M=>cO (c33 f.s hf.rt hf.dw (by have:=hf.len; omega) hf.cp hf.Br) M
 simp only[bl] at qs;simp only[ajC,E16,cG,qs,an,EW,seval];refine lM (xs:=f.holds) (by omega) (fun _ (_:Unit)=>()) (fun _ i=>[(2,bX 0),(3,bX 1),(5,aE i)]) (fun _=>[bO (cG f),bO (cG f)]) (fun _=>some (ag.bool true,([]:aH))) (fun _=>?_) (fun pre x post _ e hx cn hw h0 hm hi=>?_) ()
 ·simp only[cG];simp only[E16,bp,EW,seval];refine lM (xs:=f.cL) (by omega) (fun _ (_:Unit)=>()) (fun _ i=>[(2,bX 0),(3,bX 1),(6,aE i)]) (fun _=>[bO (cG f),bO (cG f)]) (fun _=>some (ag.bool true,([]:aH))) (fun _=>?_) (fun pre x post _ e hx cn hw h0 hm hi=>?_) ()
  ·simp only[cG];simp only[E16,bp,EW,seval]
  ·have i1:=hi ();simp only[cG] at i1 ⊢;simp only[E16,cn,hx,hw,h0,Wf,OG,dM,EW,seval];exact i1
 ·have i1:=hi ();simp only[cG] at i1 ⊢;simp only[E16,cn,hx,hw,h0,ac3,VH,gm,EW,seval];exact i1
def k16 f hf:=cP (c16 f hf)
inductive Zj:Nat->aa->Prop
 |new:Zj 0 f0
 |step {K:Nat} {f g:aa}:Zj K f->FB K f->zD (fun _=>True) f.s g.s->Zj (K+200) g
def c13(xs:List jz)(hn:xs.length<=50)(ho:∀o,o∈xs->yy o):∃f,ar bK 13 [Jg xs] []=some (.agg (cG f),[])/\FB 10000 f/\yx f/\∃K,K<=10000/\Zj K f:=by
 have key:∃r:ag×aH,(∃f,r=(.agg (cG f),[])/\FB 10000 f/\yx f/\∃K,K<=10000/\Zj K f)/\eW (ar bK) Wp.results 0 [] Wp.body (fq 0 [Jg xs]) []=some r:=by
  have q1:=cP c23;simp only[cG] at q1;simp only[Wp,E13,q1,Ot,EW,seval]
  refine iu (xs:=xs) (by omega) (fun m (f:aa)=>FB (200*m) f/\yx f/\Zj (200*m) f) (fun _ i=>[(0,Jg xs),(2,bX 0),(3,bX 1),(4,aE i)]) (fun f=>[.cells rZ,bO (cG f)]) _ (fun f hf=>?_) (fun pre o post f e hx cn hw h0 hm hf hi=>?_) f0 ⟨fb0,⟨fun y hy=>(by cases hy),fun n hn ho=>(by revert n; decide),fun y hy=>(by cases hy),fun d1 e1 d2 e2 x h1 h2=>(by
   have key:∀d,d∈f0.s.now.ae->d.aL=[]:=by decide
   rw[key d1 h1] at h2; cases h2),fun y hy=>(by cases hy),fun y hy=>(by cases hy)⟩,.new⟩
  ·simp only[cG,rZ];simp only[E13,bp,Ot,EW,seval];exact⟨_,⟨f,rfl,hf.1.mono (by omega),hf.2.1,_,by omega,hf.2.2⟩,rfl⟩
  ·have hp:=(ak.1 hx).1;obtain⟨g,a,q2,hg,hh⟩:=k24 f o hf.1 (by omega) (ho o hm)
   have i1:=hi g ⟨by rw[Nat.mul_add]; exact hg,hh.1 hf.2.1,by rw[Nat.mul_add]; exact .step hf.2.2 hf.1 hh.2⟩
   simp only[cG,ep,dr,rZ] at q2 i1 ⊢;simp only[E13,cn,hx,hw,h0,q2,ep,Ot,EW,seval];exact i1
 obtain⟨_,⟨f,rfl,h1⟩,h3⟩:=key;exact⟨f,aw h3,h1⟩
end
end Go.Proofs.YtahkjijkflobhaaGreatDoor
namespace Go.Abs
open Go
def ow{α:Type}(p:Prop)[Decidable p](x:Option α):Option α:=if p then x else none
def abr{α:Type}(p:Prop)[Decidable p](x:Option α):ow p x=cq p x:=by
 unfold ow;split
 ·rename_i h; exact(dS h).symm
 ·rename_i h; rw[eq_false h]; exact(A3 x).symm
def Ke(xs:List ag)(sz:Nat):Bool:=xs.all fun x=>x.cells.length==sz
def Zd(xs:List ag)(sz:Nat):(Ke xs sz=true)=wid xs sz:=by
 simp[Ke,wid]
instance (n b:Nat):Decidable (cu n b):=inferInstanceAs (Decidable (n*b<=2 ^ 44))
def rP(f:ag->ag->Bool):List ag->List ag->Bool
 | [],[]=>true
 |a::r,b::s=>f a b&&rP f r s
 |_,_=>false
def C0{f:ag->ag->Bool}(hf:∀a b,f a b=true->a=b):∀ {a b:List ag},rP f a b=true->a=b
 | [],[],_=>rfl
 |a::r,b::s,h=>by
  simp only[rP,bm] at h;rw[hf a b h.1,C0 hf h.2]
 | [],_::_,h=>by cases h
 |_::_,[],h=>by cases h
def r8:Nat->ag->ag->Bool
 |n+1,x,y=>match x,y with
  | .bool a,.bool b=>a==b
  | .int k a,.int l b=>decide (k=l)&&decide (a=b)
  | .str a,.str b=>decide (a=b)
  | .slice t a,.slice u b=>decide (t=u)&&rP (r8 n) a b
  | .agg a,.agg b=>rP (r8 n) a b
  | .tuple a,.tuple b=>rP (r8 n) a b
  | .ptr a b,.ptr c d=>decide (a=c)&&decide (b=d)
  | .iP a,.iP b=>rP (r8 n) a b
  | .func f a,.func g b=>decide (f=g)&&rP (r8 n) a b
  | .gP a,.gP b=>decide (a=b)
  | .jq a,.jq b=>decide (a=b)
  | .iL a b,.iL c d=>rP (r8 n) a c&&rP (r8 n) b d
  | .cN a b c d e,.cN a' b' c' d' e'=>decide (a=a')&&decide (b=b')&&decide (c=c')&&decide (d=d')&&decide (e=e')
  | .iH a b c d,.iH a' b' c' d'=>decide (a=a')&&decide (b=b')&&decide (c=c')&&decide (d=d')
  | .pC f a,.pC g b=>decide (f=g)&&rP (r8 n) a b
  | .jE a b e,.jE c d f=>decide (a=c)&&decide (b=d)&&decide (e=f)
  | .any,.any=>true
  |_,_=>false
 |0,_,_=>false
def HZ:∀(n:Nat)(a b:ag),r8 n a b=true->a=b
 |0,_,_,h=>by cases h
 |n+1,x,y,h=>by
  have hl:∀ {a b:List ag},rP (r8 n) a b=true->a=b:=fun h=>C0 (HZ n) h
  simp only[r8] at h
  split at h<;>(try simp only[bm,ba,eG] at h)<;>first
   |(cases h; done)
   |(rw[h])
   |(rw[hl h])
   |(rw[h.1,hl h.2])
   |(rw[h.1,h.2])
   |(rw[hl h.1,hl h.2])
   |(obtain⟨⟨⟨⟨h1,h2⟩,h3⟩,h4⟩,h5⟩:=h; rw[h1,h2,h3,h4,h5])
   |(obtain⟨⟨⟨h1,h2⟩,h3⟩,h4⟩:=h; rw[h1,h2,h3,h4])
   |(obtain⟨⟨h1,h2⟩,h3⟩:=h; rw[h1,h2,h3])
   |(obtain⟨⟨h1,h2⟩,h3,h4⟩:=h; rw[h1,h2,h3,h4])
   |rfl
noncomputable def rop(call:eB)(br:Env)(M:aH):ke->Option (ag×aH)
 | .wK x lo hi =>
  match x.ev br with
  | .str s=>bI (fy br s.length hi) fun h=>bI (fy br 0 lo) fun l =>
   ow (0<=h/\h<=s.length/\0<=l/\l<=h) (some (.str ((s.take h.toNat).drop l.toNat),M))
  |_=>none
 | .yt sz x lo hi mx =>
  match x.ev br with
  | .slice _ xs=>ow (Ke xs sz=true) <| bI (fy br xs.length hi) fun h=>bI (fy br 0 lo) fun l =>
   match mx with
   |none=>ow (0<=h/\h<=xs.length/\0<=l/\l<=h) (some (.slice .sh ((xs.take h.toNat).drop l.toNat),M))
   |some m=>match m.ev br with
    | .int _ m=>ow (0<=m/\m<=xs.length/\0<=h/\h<=m/\0<=l/\l<=h)
      (xy (m==0) (some (.slice .c0 [],M)) (some (.slice .sh ((xs.take h.toNat).drop l.toNat),M)))
    |_=>none
  | .cN id v sz' al ah=>ow (sz'=sz) <| bI (fy br (ah-al) hi) fun h=>bI (fy br 0 lo) fun l =>
   match mx with
   |none=>ow (0<=h/\h<=(ah-al:Nat)/\0<=l/\l<=h) (xy (l==h) (some (.slice .sh [],M)) (some (.cN id v sz (al+l.toNat) (al+h.toNat),M)))
   |some m=>match m.ev br with
    | .int _ m=>ow (0<=m/\m<=(ah-al:Nat)/\0<=h/\h<=m/\0<=l/\l<=h)
      (xy (m==0) (some (.slice .c0 [],M)) (xy (l==h) (some (.slice .sh [],M)) (some (.cN id v sz (al+l.toNat) (al+h.toNat),M))))
    |_=>none
  |_=>none
 | .uJ sz x i =>
  match x.ev br,i.ev br with
  | .slice _ xs,.int _ n=>ow (0<=n) (bI (xs[n.toNat]?) fun e=>if e.cells.length=sz then some (.iP e.cells,M) else none)
  | .cN id v sz' lo hi,.int _ n=>ow (0<=n/\n<(hi-lo:Nat)/\sz'=sz) (some (.iH id v (lo+n.toNat) 0,M))
  |_,_=>none
 | .wk x i =>
  match x.ev br,i.ev br with
  | .str s,.int _ n=>ow (0<=n) (bI (s[n.toNat]?) fun b=>some (.int .u8 b.toNat,M))
  |_,_=>none
 | .append sz bytes x y =>
  match x.ev br,y.ev br with
  | .slice tk xs,.slice _ ys =>
   ow (cu (xs.length+ys.length) bytes/\Ke xs sz=true/\Ke ys sz=true) (
    match tk with
    | .c0=>match xs with|[]=>some (.slice (.own M.length) ys,M++[.tick sz ys.length])|_=>none
    | .own k=>match nth M k with
     |some (.tick sz' n)=>ow (sz'=sz/\n=xs.length) (some (.slice (.own k) (xs++ys),jk M k (.tick sz (xs.length+ys.length))))
     |_=>none
    | .sh=>none)
  | .cN id ver sz' lo hi,.slice _ ys=>match nth M id with
   |some (.arr sz0 v xs)=>ow (v=ver/\sz'=sz/\lo=0/\hi=xs.length/\cu (xs.length+ys.length) bytes/\Ke xs sz=true/\Ke ys sz=true/\0<ys.length)
     (some (.cN id (ver+1) sz 0 (xs.length+ys.length),jk M id (.arr sz0 (ver+1) (xs++ys))))
   |_=>none
  |_,_=>none
 | .wj n sz x i =>
  match x.ev br,i.ev br with
  | .iP cs,.int _ m=>ow (0<=m/\m<n/\n*sz<=cs.length) (some (.iP (cs.drop (m.toNat*sz)),M))
  | .ptr id off,.int _ m=>ow (0<=m/\m<n) (some (.ptr id (off+m.toNat*sz),M))
  |_,_=>none
 |o=>dX call br M o
def FG{call:eB}{br:Env}{M:aH}{o:ke}{x:ag×aH}(h:rop call br M o=some x):dX call br M o=some x:=by
 have:rop call br M o=dX call br M o:=by
  cases o<;>first|rfl|(simp only[rop,dX,abr,Zd]; rfl)
 rw[<-this]; exact h
def P5(br:Env):ke->Bool
 | .mv _ | .own .. | .pick .. | .pq _ | .box _ | .build .. | .lits .. | .CD .. | .kN .. | .ic _ | .V1 _ | .bin .. | .Wc .. | .eqB .. | .not _ | .neg _ | .conv .. | .same _ | .fn .. | .iR .. | .zX .. | .zW ..
 | .BW .. | .wj .. | .look .. | .wk .. | .extract .. | .M4 _ | .CC _ | .yk .. | .b2s _ | .uJ .. | .wK .. => true
 |_=>false
def Fi{call:eB}{br:Env}{M:aH}{o:ke}{x:ag×aH}(h:P5 br o=true)(hx:dX call br M o=some x):M <+: x.2:=by
 have hm:∀ {v:ag} {x:ag×aH},some (v,M)=some x->M <+: x.2:=fun h=>by cases h; exact jR _
 have ha:∀ {v:ag} {l:aH} {x:ag×aH},some (v,M++l)=some x->M <+: x.2:=fun h=>by cases h; exact List.prefix_append _ _
 have ho:∀ {p:Prop} {y:Option (ag×aH)} {x:ag×aH},cq p y=some x->y=some x:=fun {p} {y} {x} h=>by
  by_cases hp:p
  ·rwa[dS hp] at h
  ·rw[eq_false hp,A3] at h; cases h
 cases o<;>first|(cases h; done)|skip
 all_goals (simp only[dX] at hx)
 all_goals (repeat' (first|exact hm hx|exact ha hx|(replace hx:=ho hx)|(have hx':=bg hx; clear hx; obtain⟨_,_,hx⟩:=hx')|(have hx':=jO hx; clear hx; rcases hx' with ⟨_,hx⟩|⟨_,hx⟩)|(split at hx)|(cases hx; done)))
def UR(br:Env)(o:ke)(sep:List Nat):Bool:=match o with
 | .store _ a _=>match a.ev br with
  | .ptr id _ => !sep.isEmpty&&sep.all fun z=>match iv br z with | .ptr i _=>i != id|_=>false
  |_=>false
 |_=>false
def HD{M:aH}{i j:Nat}{b:dv}(h:j≠i):nth (jk M i b) j=nth M j:=by
 induction M generalizing i j with
 |nil=>rfl
 |cons a r ih =>
  cases i with
  |zero=>cases j with
   |zero=>exact absurd rfl h
   |succ j=>rfl
  |succ i=>cases j with
   |zero=>rfl
   |succ j=>simp only[jk,nth]; exact ih (fun e=>h (by rw[e]))
def H3{call:eB}{br:Env}{M:aH}{o:ke}{sep:List Nat}{x:ag×aH}(h:UR br o sep=true)(hx:dX call br M o=some x):sep≠[]/\wI br M x.2 sep:=by
 unfold UR at h;split at h
 ·rename_i n a y;split at h
  ·rename_i id off ha;simp only[bm,bH] at h;refine⟨fun e=>by rw[e] at h; simp at h,?_⟩
   simp only[dX,ha] at hx;split at hx
   ·rename_i cs hcs;obtain⟨new,_,hx⟩:=bg hx;split at hx
    ·cases hx;have h2:=h.2;clear h;induction sep with
     |nil=>trivial
     |cons z r ih =>
      refine⟨?_,ih fun w hw=>h2 w (aX _ hw)⟩
      have hz:=h2 z bj;split
      ·rename_i i o hi;rw[hi] at hz;exact HD (by simpa using hz)
      ·rename_i hi;split at hz
       ·rename_i i o hi'; exact absurd hi' (hi i o)
       ·cases hz
    ·cases hx
   ·cases hx
  ·cases h
 ·cases h
def UO:dv->dv->Bool
 | .cells a,.cells b=>rP (r8 9) a b
 | .tick a b,.tick c d=>decide (a=c)&&decide (b=d)
 | .map a b,.map c d=>rP (r8 9) a c&&rP (r8 9) b d
 | .mc a b,.mc c d=>decide (a=c)&&decide (b=d)
 | .arr a b c,.arr d e f=>decide (a=d)&&decide (b=e)&&rP (r8 9) c f
 |_,_=>false
def UQ{a b:dv}(h:UO a b=true):a=b:=by
 have hl:∀ {a b:List ag},rP (r8 9) a b=true->a=b:=fun h=>C0 (HZ 9) h
 unfold UO at h
 split at h<;>(try simp only[bm,ba] at h)<;>first
  |(cases h; done)
  |(rw[hl h])
  |(rw[h.1,h.2])
  |(rw[hl h.1,hl h.2])
  |(obtain⟨⟨h1,h2⟩,h3⟩:=h; rw[h1,h2,hl h3])
def Lv:aH->aH->Bool
 | [],_=>true
 |a::r,b::s=>UO a b&&Lv r s
 |_::_,[]=>false
def HL:∀ {a b:aH},Lv a b=true->a <+: b
 | [],_,_=>List.nil_prefix
 |a::r,b::s,h=>by
  simp only[Lv,bm] at h;rw[UQ h.1];exact(List.prefix_cons_inj _).2 (HL h.2)
 |_::_,[],h=>by cases h
noncomputable def LG(call:eB)(o:cQ)(br:Env)(M:aH):Option (ag×aH) :=
 match o.vD with
 |true=>ow (o.op.dU br=[]) (rop call br M o.op)
 |false=>match o.grow with
  |false=>rop call br M o.op
  |true=>match P5 br o.op||UR br o.op o.sep with
   |true=>rop call br M o.op
   |false=>bI (rop call br M o.op) fun x=>xy (Lv M x.2) (some x) none
def HY{call:eB}{o:cQ}{br:Env}{M:aH}{x:ag×aH}(h:LG call o br M=some x):oe call o br M=some x:=by
 unfold LG at h;unfold oe;split at h
 ·rename_i hn;simp only[hn];rw[abr] at h;obtain⟨h1,h2⟩:=da h;rw[dS h1];exact FG h2
 ·rename_i hn;simp only[hn];split at h
  ·rename_i hg;simp only[hg];exact FG h
  ·rename_i hg;simp only[hg];split at h
   ·rename_i hb;replace h:=FG h;rw[h,bT];refine dS ?_;rcases dj .. ▸ hb with hb|hb
    ·exact .inl (Fi hb h)
    ·exact .inr (H3 hb h)
   ·obtain⟨y,hy,h⟩:=bg h;replace hy:=FG hy;rcases jO h with ⟨hp,h⟩|⟨_,h⟩
    ·cases h;rw[hy,bT];exact dS (.inl (HL hp))
    ·cases h
noncomputable def vq(call:eB):List cQ->Env->aH->Option Out
 | [],br,M=>some ⟨.normal,br,M⟩
 |o::r,br,M =>
  match o.guard with
  |none=>bI (LG call o br M) fun x=>A7 o.lets x (vq call r (ph br o.dst x.1) x.2)
  |some (t,want)=>match iv br t with
   | .bool b=>xy (b==want) (bI (LG call o br M) fun x=>A7 o.lets x (vq call r (ph br o.dst x.1) x.2))
    (vq call r (ph br o.dst (.tuple [])) M)
   | .tuple []=>vq call r (ph br o.dst (.tuple [])) M
   |_=>none
def Ub{c:Bool}{x:ag×aH}{k k':Option Out}{o:Out}(hk:∀o,k=some o->k'=some o)(h:A7 c x k=some o):A7 c x k'=some o:=by
 rcases Fz h with ⟨h1,h2⟩|⟨v,h0,h1,rfl⟩
 ·rw[FA h1]; exact hk o h2
 ·exact FC h0 h1
def tw{call:eB}:∀ {ops:List cQ} {br:Env} {M:aH} {x:Out},vq call ops br M=some x->fK call ops br M=some x
 | [],_,_,_,h=>h
 |o::r,br,M,x,h=>by
  rw[vq] at h;rw[fK];split at h
  ·rename_i hg;simp only[hg];obtain⟨a,ha,h⟩:=bg h;rw[HY ha,bT];exact Ub (fun x=>tw) h
  ·rename_i t want hg;simp only[hg];split at h
   ·rename_i b hb;simp only[hb];rcases jO h with ⟨hw,h⟩|⟨hw,h⟩
    ·obtain⟨a,ha,h⟩:=bg h;rw[hw,wD,HY ha,bT];exact Ub (fun x=>tw) h
    ·rw[hw,nZ];exact tw h
   ·rename_i hb;simp only[hb];exact tw h
   ·cases h
noncomputable def uT(call:eB)(fuel:Nat):cA->Env->aH->Option Out
 | .skip,br,M=>some ⟨.normal,br,M⟩
 | .region ops _ live,br,M=>bI (vq call ops br M) fun o=>some (o.oq live)
 | .seq a b,br,M=>bI (uT call fuel a br M) fun o=>uh o (uT call fuel b)
 | .cond c x y,br,M=>match c.ev br with
  | .bool t=>xy t (uT call fuel x br M) (uT call fuel y br M)
  |_=>none
 | .block id c,br,M=>bI (uT call fuel c br M) fun o=>some (vE id o)
 | .loop live c,br,M=>iter (uT call fuel c) live fuel br M
 | .exit id,br,M=>some ⟨.exit id,br,M⟩
 | .ret,br,M=>some ⟨.ret,br,M⟩
def tu{call:eB}{fuel:Nat}:∀(c:cA){br:Env}{M:aH}{x:Out},uT call fuel c br M=some x->eP call c br M=some x
 | .skip,_,_,_,h=>h
 | .exit _,_,_,_,h=>h
 | .ret,_,_,_,h=>h
 | .region ops d live,br,M,x,h=>by
  simp only[eP,uT] at *;obtain⟨a,ha,h⟩:=bg h;rw[tw ha]; exact h
 | .seq a b,br,M,x,h=>by
  simp only[eP,uT] at *;obtain⟨o,ho,h⟩:=bg h;rw[tu a ho];exact uI (fun br M x=>tu b) h
 | .cond c a b,br,M,x,h=>by
  simp only[eP,uT] at *;split
  ·rename_i t ht;simp only[ht] at h;rcases jO h with ⟨rfl,h⟩|⟨rfl,h⟩
   ·exact tu a h
   ·exact tu b h
  ·rename_i ht;split at h
   ·rename_i t ht'; exact absurd ht' (ht t)
   ·cases h
 | .block id c,br,M,x,h=>by
  simp only[eP,uT] at *;obtain⟨o,ho,h⟩:=bg h;rw[tu c ho]; exact h
 | .loop live c,br,M,x,h=>by
  simp only[eP,uT] at *;exact oV (fun n x=>vm live n) (xb (fun br M x=>tu c) live fuel h)
noncomputable def HN(T:yz)(loops:Nat):Nat->eB
 |0,_,_,_=>none
 |n+1,f,args,M=>match T.mQ f with
  |some g=>g args M
  |none=>match T.code f with
   |none=>none
   |some fn=>if args.length=fn.nparams then bI (uT (HN T loops n) loops fn.body (fq 0 args) M) (finish fn.results M.length) else none
def Zt(S T:yz):Prop:=S.code=T.code/\(∀f,(S.mQ f).isSome=(T.mQ f).isSome)/\∀f g,S.mQ f=some g->∃g',T.mQ f=some g'/\∀a M x,g a M=some x->g' a M=some x
def HO{S T:yz}(h:Zt S T)(loops:Nat):∀n,va (HN S loops n) (jy T n)
 |0,_,_,_,_,h=>by cases h
 |n+1,f,a,M,x,hx=>by
  rw[HN] at hx;rw[jy];split at hx
  ·rename_i g hg;obtain⟨g',h1,h2⟩:=h.2.2 f g hg;simp only[h1];exact h2 a M x hx
  ·rename_i hg
   have:T.mQ f=none:=by
    have:=h.2.1 f;rw[hg] at this;cases hT:T.mQ f with
    |none=>rfl
    |some g=>rw[hT] at this; cases this
   simp only[this,<-h.1];split at hx
   ·cases hx
   ·rename_i fn hf;simp only[hf];split at hx
    ·rename_i hl;rw[bh hl];obtain⟨o,ho,hx⟩:=bg hx;rw[jF (HO h loops n) _ (tu _ ho),bT];exact hx
    ·cases hx
def HP{S T:yz}(h:Zt S T){loops n f:Nat}{a:List ag}{M:aH}{x:ag×aH}(hx:HN S loops n f a M=some x):ar T f a M=some x :=
 oV (fun n x h=>qQ T n f a M x h) (HO h loops n f a M x hx)
end Go.Abs
namespace Go.Abs
open Go
noncomputable def UA(sz p g:Nat):List ag->aH->Option (ag×aH)
 | [.slice _ xs,.func g' cs],M=>match xs,cs with
  | [],[]=>if g'=g then some (.tuple [],M) else none
  |_,_=>none
 | [.cN id ver sz' lo hi,.func g' cs],M=>match nth M id,cs with
  |some (.arr sz0 v xs),[]=>if (decide (v=ver/\sz'=sz/\lo=0/\hi<=xs.length/\g'=g/\hi<=1099511627776)&&((xs.take hi).all (fun x=>(Qn p x).isSome)&&decide ((xs.take hi).map (sr p)).Nodup))=true then
    some (.tuple [],jk M id (.arr sz0 v (pZ p (xs.take hi)++xs.drop hi))) else none
  |_,_=>none
 |_,_=>none
def UB(sz p g:Nat)(a:List ag)(M:aH)(x:ag×aH)(h:UA sz p g a M=some x):tU sz p g a M=some x:=by
 unfold UA at h;unfold tU;split at h
 ·exact h
 ·split at h
  ·rename_i e;dsimp only;rw[e];split at h
   ·rename_i hc;simp only[bm,ba,bH] at hc;obtain⟨⟨h1,h2,h3,h4,h5,h6⟩,h7,h8⟩:=hc;dsimp only;rw[cq,bh ⟨h1,h2,h3,h4,h5,h6,h7,h8⟩];exact h
   ·cases h
  ·cases h
 ·cases h
end Go.Abs
namespace Go.Proofs.YtahkjijkflobhaaGreatDoor
open Go Go.Abs
noncomputable def Y5:yz:=⟨code,fun f=>if f=158 then some (UA 6 0 159) else (mQ f).map fun _ _ _=>none⟩
def Aq{loops n f:Nat}{a:List ag}{M:aH}{x:ag×aH}(hx:HN Y5 loops n f a M=some x):ar bK f a M=some x:=by
 refine HP (S:=Y5) (T:=bK) ⟨rfl,fun f=>?_,fun f g h=>?_⟩ hx
 ·simp only[Y5,bK];split
  ·rename_i h; subst h; rfl
  ·rw[Option.isSome_map]
 ·simp only[Y5] at h;split at h
  ·rename_i hf;cases h; subst hf;exact⟨_,rfl,UB 6 0 159⟩
  ·obtain⟨g',h1,h2⟩:=aR.1 h;subst h2;exact⟨g',h1,fun _ _ _ h=>by cases h⟩
def xJ(k:Int)(p:Bytes)(n h:Int):jz:=⟨k,0,p,[],n,0,h,[]⟩
def hA:=vz f0 (xJ 2 [47,100] 2 0)
def hB:=vz hA.1 (xJ 2 [47,100,47,102] 1 0)
def hC:=vz hB.1 (xJ 8 [47,100,47,102] 0 4)
def hD:=vz hC.1 ⟨11,0,[],[],1,0,4,[7,8]⟩
def hE:=vz hD.1 (xJ 14 [47,100] 0 0)
def hG:=vz hE.1 (xJ 4 [47,100,47,102] 0 0)
def hH:=vz hG.1 ⟨10,0,[],[],0,9,4,[]⟩
def hI:=vz hG.1 (xJ 15 [47,102] 1 0)
def hJ:=vz hG.1 (xJ 1 [47,100,47,102] 0 0)
def hK:=vz hG.1 ⟨13,0,[47],[],1,10,0,[]⟩
def hL:=vz hK.1 (xJ 2 [47,101] 2 0)
def hM:=vz hL.1 (xJ 9 [] 0 4)
def hN:=vz hM.1 (xJ 99 [] 0 0)
def facts:hA.2.aq=2/\hB.2.aq=3/\hC.2.err=0/\hD.2.m=3/\hE.2.err=0/\hE.2.n=1/\hG.2.aq=3/\hH.2.data=[0,7,8]/\hI.2.aq=3/\hI.2.data=[0,7,8]/\hJ.2.err=70/\hK.2.err=0/\hL.2.err=90/\hM.2.err=0/\hN.2.err=1/\hM.1.s.now.ae.length=2:=by
 refine⟨?_,?_,?_,?_,?_,?_,?_,?_,?_,?_,?_,?_,?_,?_,?_,?_⟩<;>kernel_rfl
def YX:ar bK 15 [.agg (cG hM.1)] []=some (.bool true,[]):=Aq (loops:=20) (n:=20) (by kernel_rfl)
def YY:ar bK 15 [.agg [gH [],aE 0,aE 0,aE 0,gH [],gH [],gH [],aE 0,gH [],gH []]] []=some (.bool false,[]):=Aq (loops:=20) (n:=20) (by kernel_rfl)
def af1:ar bK 22 [.agg (cG hM.1),.agg (cG f0)] []=some (.bool false,[]):=Aq (loops:=20) (n:=20) (by kernel_rfl)
end Go.Proofs.YtahkjijkflobhaaGreatDoor
namespace Go.Proofs.YtahkjijkflobhaaGreatDoor
open Go Go.Abs
section
attribute [local irreducible] eW fQ lh gK dW kr ar aM cq bI
def uk(k:Int)(p:Bytes)(n h:Int)(hp:p.length<=1000):yy (xJ k p n h):=⟨by simp[xJ]; omega,by simp[xJ],by simp[xJ]⟩
set_option maxRecDepth 100000 in
def Wz:ar tJ 10 [] []=some (.bool true,[]):=by
 obtain⟨e1,e2,e3,e4,e5,e6,e7,e8,e9,e10,e11,e12,e13,e14,e15,e16⟩:=facts;have sA:=uf fb0 (by omega) (xJ 2 [47,100] 2 0)
 have sB:=uf sA (by omega) (xJ 2 [47,100,47,102] 1 0)
 have sC:=uf sB (by omega) (xJ 8 [47,100,47,102] 0 4)
 have sD:=uf sC (by omega) ⟨11,0,[],[],1,0,4,[7,8]⟩
 have sE:=uf sD (by omega) (xJ 14 [47,100] 0 0)
 have sG:=uf sE (by omega) (xJ 4 [47,100,47,102] 0 0)
 have sK:=uf sG (by omega) ⟨13,0,[47],[],1,10,0,[]⟩
 have sL:=uf sK (by omega) (xJ 2 [47,101] 2 0)
 have sM:=uf sL (by omega) (xJ 9 [] 0 4)
 have o3:∀(k n m h:Int)(p d:Bytes),p.length<=1000->d.length<=1000->yy ⟨k,0,p,[],n,m,h,d⟩:=fun k n m h p d hp hd=>⟨by simp only; omega,by simp,by simp only; omega⟩
 have qA:=fun M=>Bo f0 (xJ 2 [47,100] 2 0) fb0.ok (uk _ _ _ _ (by decide)) M
 have qB:=fun M=>Bo hA.1 (xJ 2 [47,100,47,102] 1 0) sA.ok (uk _ _ _ _ (by decide)) M
 have qC:=fun M=>Bo hB.1 (xJ 8 [47,100,47,102] 0 4) sB.ok (uk _ _ _ _ (by decide)) M
 have qD:=fun M=>Bo hC.1 ⟨11,0,[],[],1,0,4,[7,8]⟩ sC.ok (o3 _ _ _ _ _ _ (by decide) (by decide)) M
 have qE:=fun M=>Bo hD.1 (xJ 14 [47,100] 0 0) sD.ok (uk _ _ _ _ (by decide)) M
 have qG:=fun M=>Bo hE.1 (xJ 4 [47,100,47,102] 0 0) sE.ok (uk _ _ _ _ (by decide)) M
 have qH:=fun M=>Bo hG.1 ⟨10,0,[],[],0,9,4,[]⟩ sG.ok (o3 _ _ _ _ _ _ (by decide) (by decide)) M
 have qI:=fun M=>Bo hG.1 (xJ 15 [47,102] 1 0) sG.ok (uk _ _ _ _ (by decide)) M
 have qJ:=fun M=>Bo hG.1 (xJ 1 [47,100,47,102] 0 0) sG.ok (uk _ _ _ _ (by decide)) M
 have qK:=fun M=>Bo hG.1 ⟨13,0,[47],[],1,10,0,[]⟩ sG.ok (o3 _ _ _ _ _ _ (by decide) (by decide)) M
 have qL:=fun M=>Bo hK.1 (xJ 2 [47,101] 2 0) sK.ok (uk _ _ _ _ (by decide)) M
 have qM:=fun M=>Bo hL.1 (xJ 9 [] 0 4) sL.ok (uk _ _ _ _ (by decide)) M
 have qN:=fun M=>Bo hM.1 (xJ 99 [] 0 0) sM.ok (uk _ _ _ _ (by decide)) M
 have q20:=fun M=>lE (k20 M)
 have qr:=fun M=>lE (cO YX M)
 have qz:=fun M=>lE (cO YY M)
 have qs:=fun M=>lE (cO af1 M)
 change ∀M,aM (ar tJ) 14 _ M=some (.tuple [.agg (cG hA.1),.agg (dr hA.2)],M) at qA;change ∀M,aM (ar tJ) 14 _ M=some (.tuple [.agg (cG hB.1),.agg (dr hB.2)],M) at qB;change ∀M,aM (ar tJ) 14 _ M=some (.tuple [.agg (cG hC.1),.agg (dr hC.2)],M) at qC;change ∀M,aM (ar tJ) 14 _ M=some (.tuple [.agg (cG hD.1),.agg (dr hD.2)],M) at qD;change ∀M,aM (ar tJ) 14 _ M=some (.tuple [.agg (cG hE.1),.agg (dr hE.2)],M) at qE;change ∀M,aM (ar tJ) 14 _ M=some (.tuple [.agg (cG hG.1),.agg (dr hG.2)],M) at qG;change ∀M,aM (ar tJ) 14 _ M=some (.tuple [.agg (cG hH.1),.agg (dr hH.2)],M) at qH;change ∀M,aM (ar tJ) 14 _ M=some (.tuple [.agg (cG hI.1),.agg (dr hI.2)],M) at qI;change ∀M,aM (ar tJ) 14 _ M=some (.tuple [.agg (cG hJ.1),.agg (dr hJ.2)],M) at qJ;change ∀M,aM (ar tJ) 14 _ M=some (.tuple [.agg (cG hK.1),.agg (dr hK.2)],M) at qK;change ∀M,aM (ar tJ) 14 _ M=some (.tuple [.agg (cG hL.1),.agg (dr hL.2)],M) at qL;change ∀M,aM (ar tJ) 14 _ M=some (.tuple [.agg (cG hM.1),.agg (dr hM.2)],M) at qM;change ∀M,aM (ar tJ) 14 _ M=some (.tuple [.agg (cG hN.1),.agg (dr hN.2)],M) at qN;generalize hA=A,hB=B,hC=C,hD=D,hE=E,hG=G,hH=H,hI=I,hJ=J,hK=K,hL=L,hM=N,hN=O at *;clear sA sB sC sD sE sG sK sL sM;refine aw ?_;have u0:pE 0 = .int .u8 0:=rfl;have u7:pE 7 = .int .u8 7:=rfl;have u8':pE 8 = .int .u8 8:=rfl;simp only[cG,dr,ep,xJ,rZ,cX,aP,bc,u7,u8'] at qA qB qC qD qE qG qH qI qJ qK qL qM qN q20 qr qz qs ⊢;simp only[ac6,E10,q20,qA,qB,qC,qD,qE,qG,qH,qI,qJ,qK,qL,qM,qN,qr,qz,qs,e1,e2,e3,e4,e5,e6,e7,e8,e9,e10,e11,e12,e13,e14,e15,e16,u0,u7,u8',EW,seval]
end
def DN(l:List Bytes):Bytes:=l.flatMap fun s=>47::s
def jP(l:List Bytes):Bytes:=if l=[] then [47] else DN l
def Js(s:Bytes)(r:List Bytes):DN (s::r)=47::(s++DN r):=by simp[DN]
def AW:∀(l:List Bytes)(s:Bytes),uj l s=s++DN l
 | [],s=>by simp[uj,DN]
 |x::l,s=>by
  have:=AW l (s++[47]++x);simp only[uj,cK] at this ⊢;rw[this,Js]; simp
def Qh(l:List Bytes):D8 l=jP l:=by
 unfold D8 jP;cases l with
 |nil=>rfl
 |cons s r=>rw[aQ (by simp; omega),aQ (by simp),AW]; rfl
def K7(a b:Bytes):Bytes:=jP ((mo a).1++(mo b).1)
section
attribute [local irreducible] eW fQ lh gK dW kr ar aM cq bI
def c19(a b:Bytes)(ha:a.length<=100000)(hb:b.length<=100000):ar bK 19 [.str a,.str b] []=some (.str (K7 a b),[]):=by
 refine aw ?_;have q1:=fun M=>k35 a ha M
 have q2:=fun M=>k35 b hb M
 obtain⟨o1,o2⟩:=sO a;obtain⟨p1,p2⟩:=sO b;unfold K7;rw[<-Qh];generalize mo a=x at q1 o1 o2;generalize mo b=y at q2 p1 p2
 have q3:=fun M=>k36 (x.1++y.1) (by simp; omega) (fun s hs=>by
  rcases bB.1 hs with hs|hs
  ·exact nD (o1 s hs)
  ·exact nD (p1 s hs)) M
 have r1:cu x.1.length 16=True:=qm;have r2:cu (x.1.length+y.1.length) 16=True:=qm;simp only[c9,bu] at q1 q2 q3;simp only[ac7,E19,q1,q2,q3,r1,r2,c9,Ot,EW,seval]
def c17(a:LU)(hn:a.names.length<=100000)(hd:a.data.length<=100000):ar bK 17 [.agg (dr a),.agg (dr a)] []=some (.bool true,[]):=by
 refine aw ?_;simp only[ajD,E17,dr,an,uw,EW,seval];refine lM (xs:=a.names) (by omega) (fun _ (_:Unit)=>()) (fun _ i=>[(2,bX 0),(3,bX 1),(5,aE i)]) (fun _=>[bO (dr a),bO (dr a)]) (fun _=>some (ag.bool true,([]:aH))) (fun _=>?_) (fun pre x post _ e hx cn hw h0 hm hi=>?_) ()
 ·simp only[dr];simp only[E17,bp,EW,seval]
 ·have i1:=hi ();simp only[dr] at i1 ⊢;simp only[E17,cn,hx,hw,h0,an,EW,seval];exact i1
end
end Go.Proofs.YtahkjijkflobhaaGreatDoor
