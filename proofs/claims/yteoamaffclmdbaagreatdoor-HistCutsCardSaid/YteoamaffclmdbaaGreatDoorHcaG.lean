import Derived.Test.YteoamaffclmdbaaGreatDoorHcaF
set_option linter.unusedSimpArgs false
set_option linter.unusedVariables false
set_option linter.unusedSectionVars false
set_option linter.defProp false
open Go.Proofs.Tryz
namespace Go.Abs
open Go
def wg(M X:aC)(k:Nat):nth (M++X) (M.length+k)=nth X k:=by rw[fc,fc,bj (ko _ _)]; simp
def vD(M X:aC):nth (M++X) M.length=nth X 0:=wg M X 0
def wj(M X:aC)(k:Nat)(c:cI):iP (M++X) (M.length+k) c=M++iP X k c:=by
 rw[fi,fi,List.set_append_right _ _ (ko _ _)]; simp
def vK(M X:aC)(c:cI):iP (M++X) M.length c=M++iP X 0 c:=wj M X 0 c
end Go.Abs
namespace Go.Proofs.YteoamaffclmdbaaGreatDoor
open Go Go.Abs
def uH(a:vR):(Lg a).cells=dw a:=rfl
structure RS where
 f:aa
 out:List mV
 st:List Nat
 ops:List jA
 ku:List vR
 calls:Nat
def pv(t:wO):Nat:=t.bF.toNat % 3
def Wj(t:wO):jA:={ t.op with bF:=(pv t:Nat) }
def Aw(dC:Nat)(s:RS)(t:wO):RS :=
 match (s.st[pv t]?).getD 3 with
 |0=>if s.calls=dC then s else { s with out:=s.out++[wG (pv t) t.op],st:=s.st.set (pv t) 1,ops:=s.ops.set (pv t) (Wj t),calls:=s.calls+1 }
 |1=>{ s with f:=(pq s.f ((s.ops[pv t]?).getD Kj)).1,ku:=s.ku.set (pv t) (pq s.f ((s.ops[pv t]?).getD Kj)).2,st:=s.st.set (pv t) 2 }
 |2=>{ s with out:=s.out++[CL (pv t) ((s.ku[pv t]?).getD AD)],st:=s.st.set (pv t) 0 }
 |_=>s
def NV(f:aa):RS:=⟨f,[],[0,0,0],[Kj,Kj,Kj],[AD,AD,AD],0⟩
structure RI(K:Nat)(dC i:Nat)(s:RS):Prop where
 fb:FB (K+200*i) s.f
 out:s.out.length<=i
 st:s.st.length=3
 lt:∀(k v:Nat),s.st[k]?=some v->v<3
 ops:s.ops.length=3
 ok:∀o,o∈s.ops->sr o
 ku:s.ku.length=3
 calls:s.calls<=i
def zd(M0:aC)(s:RS)(ov:Nat)(X:aC):aC :=
 M0++(.cells (cm s.f) :: .cells rR :: .arr 17 ov (s.out.map uZ) :: .arr 1 0 (s.st.map mO) :: .arr 8 0 (s.ops.map XQ) :: .arr 7 0 (s.ku.map Lg)::X)
def Dz(M0:aC)(m:List wO)(dC:Nat)(s:RS)(ov i:Nat):Env:=[(1,B3 m),(2,mO dC),(3,.ptr M0.length 0),(7,.ptr (M0.length+1) 0),(8,.cv (M0.length+2) ov 17 0 s.out.length),(9,.cv (M0.length+3) 0 1 0 3),(10,.cv (M0.length+4) 0 8 0 3),(11,.cv (M0.length+5) 0 7 0 3),(12,mO s.calls),(13,mO i)]
def QM:List Nat:=[1,2,3,7,8,9,10,11,12,13]
def Bk(M0:aC):Prop:=∀B M,M0.length<=B->M0.map (cI.back B M)=M0
def OI{M0:aC}(h:Bk M0)(s:RS)(ov:Nat)(X:aC):iQ (M0.length+6) (zd M0 s ov X)=zd M0 s ov []:=by
 unfold iQ;generalize hM:zd M0 s ov X=M
 have e:M.take (M0.length+6)=zd M0 s ov []:=by
  rw[<-hM];unfold zd;rw[List.take_append,bC aH,show M0.length+6-M0.length=6 by omega]
  rfl
 rw[e];unfold zd;simp only[aW,h (M0.length+6) M aH,aE,aQ,cI.back,cm,rR,ag.jW,ag.jC,ba,tX,r8,ki,fI,cK]
noncomputable def Xw(n B:Nat)(k:List K)(bp:Env)(M:aC):Option (ag×aC):=eX (aq (rQ n)) [.tmp 6,.dE 7 10] B k (sub b14 63) bp M
noncomputable def vy(n B:Nat)(M0:aC)(m:List wO)(dC:Nat)(s:RS)(ov i:Nat):Option (ag×aC):=eX (aq (rQ n)) [.tmp 6,.dE 7 10] B [.block 0,.seq (sub b14 64)] (.loop QM (sub b14 17)) (Dz M0 m dC s ov i) (zd M0 s ov [])
section
attribute [local irreducible] eX fM lu gK dX kr aq aU cr bJ
def Av{n B:Nat}{k:List K}{bp:Env}{M:aC}:eX (aq (rQ n)) [.tmp 6,.dE 7 10] B k (sub b14 63) bp M=Xw n B k bp M:=rfl
def Mh{n B:Nat}{M0:aC}(h:Bk M0){m:List wO}{dC:Nat}{s:RS}{ov i:Nat}(hi:i<1000)(X:aC){bp:Env}(he:jo bp QM=Dz M0 m dC s ov i) :
  Xw n B [.loop QM (M0.length+6) (sub b14 17),.block 0,.seq (sub b14 64)] bp (zd M0 s ov X)=vy n B M0 m dC s ov (i+1):=by
 have hb:=OI h s ov X;simp only[jo,QM,Dz,aE,aQ,mB,jk,true_and,pN] at he;obtain⟨g1,g2,g3,g7,g8,g9,g10,g11,g12,g13⟩:=he;unfold Xw vy Dz QM;generalize zd M0 s ov X=M at hb;have e0:(M0.length<M0.length+6)=True:=sM;have e1:∀j,j<6->(M0.length+j<M0.length+6)=True:=fun j hj=>by simp only[fH,iZ]; omega
 have e11:=e1 1 aH;have e12:=e1 2 aH;have e13:=e1 3 aH;have e14:=e1 4 aH;have e15:=e1 5 aH;have e3:IntKind.i64.wrap ((i:Int)+1)=((i+1:Nat):Int):=by rw[gv aH aH]; rfl
 simp only[E14,↓hb,g1,g2,g3,g7,g8,g9,g10,g11,g12,g13,e0,e11,e12,e13,e14,e15,e3,EW,seval]
def Xf{n K:Nat}{M0:aC}(h:Bk M0){m:List wO}{dC:Nat}{s:RS}{ov i:Nat}{t:wO}(hI:RI K dC i s)(ht:m[i]?=some t)(hto:sr t.op)(hm:m.length<=100)(hK:K+200*(i+1)<=89000) :
  ∃ov',∀B,vy n B M0 m dC s ov i=vy n B M0 m dC (Aw dC s t) ov' (i+1):=by
 have hil:=(aj.1 ht).1;have cG:((i:Int)<(m.length:Int))=True:=sM;have hc3:pv t<3:=kX _ aH;have hw8:IntKind.i64.wrap (t.bF.toNat:Int)=(t.bF.toNat:Int):=by have:=t.bF.toNat_lt; rw[gv aH aH]
 have hrem:((t.bF.toNat:Nat):Int).tmod 3=((pv t:Nat):Int):=by unfold pv; rfl
 have hlt3:(((pv t:Nat):Int)<3)=True:=sM;obtain⟨v,hv⟩:∃v,s.st[pv t]?=some v:=⟨_,ai (by rw[hI.st]; exact hc3)⟩
 obtain⟨o,ho⟩:∃o,s.ops[pv t]?=some o:=⟨_,ai (by rw[hI.ops]; exact hc3)⟩
 obtain⟨a,ha⟩:∃a,s.ku[pv t]?=some a:=⟨_,ai (by rw[hI.ku]; exact hc3)⟩
 have hv3:=hI.lt _ _ hv;have hoo:=hI.ok o (aK ho);have hcal:=hI.calls;have hout:=hI.out;unfold Aw;rw[hv,ho,ha];simp only[bA];have fin:=fun(s':RS) (ov' B:Nat)=>fun X bp (he:jo bp QM=Dz M0 m dC s' ov' i)=>Mh (n:=n) (B:=B) h (s:=s') aH X he
 match v,hv3 with
 |0,_ =>
  by_cases hcm:s.calls=dC
  ·rw[aZ hcm];refine⟨ov,fun B=>?_⟩
   have fin:=fin s ov B;have hcq:((s.calls:Int)==(dC:Int))=true:=gh;unfold vy at fin ⊢;rw[bG];simp only[Dz,QM,zd] at fin ⊢;simp only[E14,↓Av,cG,hcq,ht,hw8,hrem,hlt3,hv,ho,ha,wg,vD,wj,vK,bZ,aI,aP,uJ,pt,uH,dw,ET,EW,seval];exact fin [] _ rfl
  ·rw[aR hcm];refine⟨ov+1,fun B=>?_⟩
   have fin:=fin { s with out:=s.out++[wG (pv t) t.op],st:=s.st.set (pv t) 1,ops:=s.ops.set (pv t) (Wj t),calls:=s.calls+1 } (ov+1) B
   have hcq:((s.calls:Int)==(dC:Int))=false:=gh;have rm:cp (s.out.length+1) 200=True:=qH;have hwc:IntKind.i64.wrap ((s.calls:Int)+1)=((s.calls+1:Nat):Int):=by rw[gv aH aH]; rfl
   have hs1:iP (s.st.map mO) (pv t) (putCells (mO 0) 0 [ag.int IntKind.i64 ((IntKind.i64.wrap 1).tmod 3)])=(s.st.map mO).set (pv t) (mO 1):=by
    have e:(IntKind.i64.wrap 1).tmod 3=((1:Nat):Int):=mi;rw[fi,e]; rfl
   have hs2:∀x,iP (s.ops.map XQ) (pv t) x=(s.ops.map XQ).set (pv t) x:=fun x=>fi _ _ _
   unfold vy at fin ⊢;rw[bG];simp only[Dz,QM,zd,aW,aE,aQ,gF,aA,aw,az,aG] at fin ⊢;simp only[E14,↓Av,cG,hcq,rm,hwc,hs1,hs2,qY,ht,hw8,hrem,hlt3,hv,ho,ha,wg,vD,wj,vK,bZ,aI,aP,uJ,pt,uH,dw,ET,EW,seval];exact fin [_] _ rfl
 |1,_ =>
  refine⟨ov,fun B=>?_⟩
  have fin:=fin { s with f:=(pq s.f o).1,ku:=s.ku.set (pv t) (pq s.f o).2,st:=s.st.set (pv t) 2 } ov B
  have qd:=fun M=>lT (n:=n) (k29 s.f o hI.fb.ok hoo M)
  have hs1:iP (s.st.map mO) (pv t) (putCells (mO 1) 0 [ag.int IntKind.i64 ((IntKind.i64.wrap 2).tmod 3)])=(s.st.map mO).set (pv t) (mO 2):=by
   have e:(IntKind.i64.wrap 2).tmod 3=((2:Nat):Int):=mi;rw[fi,e]; rfl
  have hs2:∀x,iP (s.ku.map Lg) (pv t) x=(s.ku.map Lg).set (pv t) x:=fun x=>fi _ _ _
  simp only[eS,dw] at qd;unfold vy at fin ⊢;rw[bG];simp only[Dz,QM,zd,aW,aE,aQ,gF,aA,aw,az,aG] at fin ⊢;simp only[E14,↓Av,cG,qd,hs1,hs2,ht,hw8,hrem,hlt3,hv,ho,ha,wg,vD,wj,vK,lY,yo,E4,wL,CJ,y8,Qc,aJ,eS,bZ,aI,aP,uJ,pt,uH,dw,ET,EW,seval];exact fin [_,_] _ rfl
 |2,_ =>
  refine⟨ov+1,fun B=>?_⟩
  have fin:=fin { s with out:=s.out++[CL (pv t) a],st:=s.st.set (pv t) 0 } (ov+1) B
  have rm:cp (s.out.length+1) 200=True:=qH
  have hs1:iP (s.st.map mO) (pv t) (putCells (mO 2) 0 [ag.int IntKind.i64 ((IntKind.i64.wrap 3).tmod 3)])=(s.st.map mO).set (pv t) (mO 0):=by
   have e:(IntKind.i64.wrap 3).tmod 3=((0:Nat):Int):=mi;rw[fi,e]; rfl
  unfold vy at fin ⊢;rw[bG];simp only[Dz,QM,zd,aW,aE,aQ,gF,aA,aw,az,aG] at fin ⊢;simp only[E14,↓Av,cG,rm,hs1,qY,ht,hw8,hrem,hlt3,hv,ho,ha,wg,vD,wj,vK,bZ,aI,aP,uJ,pt,uH,dw,ET,EW,seval];exact fin [] _ rfl
end
end Go.Proofs.YteoamaffclmdbaaGreatDoor
namespace Go.Proofs.YteoamaffclmdbaaGreatDoor
open Go Go.Abs
def vF(l:List mV):Int->Bool:=l.foldl (fun o x c=>if c=x.bF then x.kind==1 else o c) fun _=>false
def qR(l:List mV)(x:mV)(c:Int):vF (l++[x]) c=if c=x.bF then x.kind==1 else vF l c:=by
 simp[vF]
inductive WF:List mV->Prop
 |nil:WF []
 |snoc {l:List mV} {x:mV}:WF l->0<=x.bF->(x.kind=1\/x.kind=2)->vF l x.bF = !(x.kind==1)->WF (l++[x])
def RP(c:Int):∀(r:List mV)(k:Nat),xa c r k = -1\/0<=xa c r k
 | [],_ => .inl rfl
 |x::r,k=>by
  rw[xa];split
  ·simp
  ·exact RP c r _
def yX(c:Int)(y:mV):∀(r:List mV)(k:Nat),xa c (r++[y]) k=if xa c r k = -1 then (if y.bF==c then ((k+r.length:Nat):Int) else -1) else xa c r k
 | [],k=>by
  rfl
 |x::r,k=>by
  rw[aI,xa,xa];split
  ·rw[aR dy]
  ·rw[yX c y r _,aw,show k+1+r.length=k+(r.length+1) by omega]
def AU{l:List mV}{x:mV}{k:Nat}(h:k<=l.length):(l++[x]).drop k=l.drop k++[x]:=jK
structure Ends(l:List mV):Prop where
 en:∀(i:Nat)(c:xN),(cf l).cs[i]?=some c->∃x,l[c.b]?=some x/\xa x.bF (l.drop (c.b+1)) (c.b+1)=wa c/\(c.e=none->(cf l).last x.bF.toNat=i/\vF l x.bF=true)
 op:∀cl:Int,0<=cl->vF l cl=true->∃c,(cf l).cs[(cf l).last cl.toNat]?=some c/\c.e=none/\∃x,l[c.b]?=some x/\x.bF=cl
 cl:∀x,x∈l->0<=x.bF
theorem Hc{l:List mV}(h:WF l):Ends l:=by
 induction h with
 |nil=>exact⟨fun i c h=>by simp[cf,Hs.dz] at h,fun cl _ h=>by simp[vF] at h,fun x h=>by cases h⟩
 | @snoc l x hw hc hk ho ih =>
  have up:∀(i:Nat)(y:mV),l[i]?=some y->(l++[x])[i]?=some y:=fun i y h=>by rw[aO (aj.1 h).1]; exact h
  have last:(l++[x])[l.length]?=some x:=dy
  have hcl:∀y,y∈l++[x]->0<=y.bF:=fun y hy=>by
   rcases bm.1 hy with hy|hy
   ·exact ih.cl y hy
   ·simp at hy; subst hy; exact hc
  cases hb:x.kind==1
  ·-- an end
   have hop:=ho;rw[hb] at hop;obtain⟨c0,h1,h2,x0,h3,h4⟩:=ih.op x.bF hc hop
   have hcs:(cf (l++[x])).cs=(cf l).cs.modify ((cf l).last x.bF.toNat) fun c=>{ c with e:=some l.length,ku:=x.ku }:=by
    rw[nk]; unfold Hs.iA wM; simp only[hb,af,aD,vp]
   have hla:(cf (l++[x])).last=(cf l).last:=by
    rw[nk]; unfold Hs.iA wM; simp only[hb,af,aD]
   refine⟨fun i c hi=>?_,fun cl hcl0 hopen=>?_,hcl⟩
   ·rw[hcs,hZ] at hi;cases hci:(cf l).cs[i]? with
    |none=>rw[hci] at hi; cases hi
    |some d =>
     rw[hci] at hi;simp only[Option.map_eq_map,eo] at hi;obtain⟨y,g1,g2,g3⟩:=ih.en i d hci;have hbl:=(aj.1 g1).1;have hes:=yX y.bF x (l.drop (d.b+1)) (d.b+1);rw[g2,gZ,show d.b+1+(l.length-(d.b+1))=l.length by omega] at hes
     split at hi
     ·rename_i hii;injection hi with hi
      have hd:d=c0:=by rw[hii,hci] at h1; injection h1
      subst hi;subst hd;rw[g1] at h3;injection h3 with h3;subst h3;refine⟨y,up _ _ g1,?_,fun hn=>by cases hn⟩
      have e1:wa d = -1:=by unfold wa; rw[h2]
      show xa y.bF ((l++[x]).drop (d.b+1)) (d.b+1)=(l.length:Int)
      rw[AU aH,hes,aZ e1,aZ (by rw[h4]; simp)]
     ·rename_i hii;injection hi with hi
      subst hi;refine⟨y,up _ _ g1,?_,fun hn=>?_⟩
      ·rw[AU aH,hes]
       grind [wa]
      ·obtain⟨g4,g5⟩:=g3 hn;rw[hla,qR];refine⟨g4,?_⟩;rw[aR]
       ·exact g5
       ·intro hxy;exact hii (by rw[<-hxy]; exact g4)
   ·rw[qR] at hopen;split at hopen
    ·rw[hb] at hopen; cases hopen
    ·rename_i hne;obtain⟨c,k1,k2,z,k3,k4⟩:=ih.op cl hcl0 hopen;refine⟨c,?_,k2,z,up _ _ k3,k4⟩;rw[hla,hcs,hZ,k1]
     grind
  ·-- a beginning
   have hcs:(cf (l++[x])).cs=(cf l).cs++[⟨l.length,none,x.op,x.ku⟩]:=by
    rw[nk]; unfold Hs.iA wM; simp only[hb,aJ,vp]
   have hla:∀k,(cf (l++[x])).last k=if k=x.bF.toNat then (cf l).cs.length else (cf l).last k:=fun k=>by
    rw[nk]; unfold Hs.iA wM; simp only[hb,aJ]
   have hnop:=ho;rw[hb] at hnop;refine⟨fun i c hi=>?_,fun cl hcl0 hopen=>?_,hcl⟩
   ·rw[hcs] at hi;rcases bz i (cf l).cs.length with hil|hil
    ·rw[aO hil] at hi;obtain⟨y,g1,g2,g3⟩:=ih.en i c hi;have hbl:=(aj.1 g1).1;have hes:=yX y.bF x (l.drop (c.b+1)) (c.b+1);rw[g2] at hes;refine⟨y,up _ _ g1,?_,fun hn=>?_⟩
     ·rw[AU aH,hes]
      grind [wa]
     ·obtain⟨g4,g5⟩:=g3 hn;have hne:¬y.bF=x.bF:=fun e=>by rw[<-e,g5] at hnop; cases hnop
      have hy0:=ih.cl y (aK g1);rw[hla,qR,aR hne,aR aH];exact⟨g4,g5⟩
    ·rw[bj hil] at hi
     have hi0:i-(cf l).cs.length=0:=by
      have:=(aj.1 hi).1;simpa using this
     rw[hi0] at hi;simp at hi;subst hi;refine⟨x,last,?_,fun _=>⟨?_,?_⟩⟩
     ·rw[iq dy]; rfl
     ·rw[hla,aZ rfl]; omega
     ·rw[qR,aZ rfl,hb]
   ·rw[qR] at hopen;split at hopen
    ·rename_i he;subst he;refine⟨⟨l.length,none,x.op,x.ku⟩,?_,rfl,x,last,rfl⟩;rw[hla,aZ rfl,hcs]; simp
    ·rename_i hne;obtain⟨c,k1,k2,z,k3,k4⟩:=ih.op cl hcl0 hopen;refine⟨c,?_,k2,z,up _ _ k3,k4⟩;rw[hla,aR aH,hcs,aO (aj.1 k1).1];exact k1
theorem Br{o:jA}(h:sr o)(c:Int):sr { o with bF:=c }:=⟨h.dG,h.vd,h.data⟩
def RI.zero{K:Nat}{f:aa}(h:FB K f)(dC:Nat):RI K dC 0 (NV f):=by
 refine⟨h.mono aH,au _,rfl,fun k v hk=>?_,rfl,fun o ho=>?_,rfl,au _⟩
 ·have:v∈[0,0,0]:=aK hk;simp at this; omega
 ·simp[NV] at ho;subst ho;exact⟨by simp[Kj],by simp[Kj],by simp[Kj]⟩
def EM(dC:Nat)(s:RS)(t:wO){v:Nat}(hv:s.st[pv t]?=some v)(hv3:v<3){o:jA}(ho:s.ops[pv t]?=some o){a:vR}(ha:s.ku[pv t]?=some a) :
  (v=0/\s.calls=dC/\Aw dC s t=s)\/(v=0/\s.calls≠dC/\Aw dC s t={ s with out:=s.out++[wG (pv t) t.op],st:=s.st.set (pv t) 1,ops:=s.ops.set (pv t) (Wj t),calls:=s.calls+1 }) \/
  (v=1/\Aw dC s t={ s with f:=(pq s.f o).1,ku:=s.ku.set (pv t) (pq s.f o).2,st:=s.st.set (pv t) 2 })\/(v=2/\Aw dC s t={ s with out:=s.out++[CL (pv t) a],st:=s.st.set (pv t) 0 }):=by
 unfold Aw;rw[hv,ho,ha]
 match v,hv3 with
 |0,_ =>
  by_cases h:s.calls=dC
  ·exact .inl ⟨rfl,h,by simp[h]⟩
  ·exact .inr (.inl ⟨rfl,h,by simp[h]⟩)
 |1,_=>exact .inr (.inr (.inl ⟨rfl,rfl⟩))
 |2,_=>exact .inr (.inr (.inr ⟨rfl,rfl⟩))
def Ro(t:wO):pv t<3:=kX _ aH
def RI.al5{K dC i:Nat}{s:RS}(h:RI K dC i s)(t:wO):∃v o a,s.st[pv t]?=some v/\v<3/\s.ops[pv t]?=some o/\sr o/\s.ku[pv t]?=some a:=by
 have hc:=Ro t;have h1:=ai (l:=s.st) (i:=pv t) (by rw[h.st]; exact hc)
 have h2:=ai (l:=s.ops) (i:=pv t) (by rw[h.ops]; exact hc)
 have h3:=ai (l:=s.ku) (i:=pv t) (by rw[h.ku]; exact hc)
 exact⟨_,_,_,h1,h.lt _ _ h1,h2,h.ok _ (aK h2),h3⟩
def Mm{l:List Nat}(h:∀(k v:Nat),l[k]?=some v->v<3){c x:Nat}(hx:x<3)(k v:Nat)(hk:(l.set c x)[k]?=some v):v<3:=by
 rw[gJ] at hk;split at hk
 ·split at hk
  ·injection hk with hk; omega
  ·cases hk
 ·exact h k v hk
def RI.step{K dC i:Nat}{s:RS}(h:RI K dC i s){t:wO}(ht:sr t.op)(hK:K+200*(i+1)<=89000):RI K dC (i+1) (Aw dC s t):=by
 obtain⟨v,o,a,h1,h2,h3,h4,h5⟩:=h.al5 t;have hfb:FB (K+200*(i+1)) s.f:=h.fb.mono aH;rcases EM dC s t h1 h2 h3 h5 with ⟨_,_,e⟩|⟨_,_,e⟩|⟨_,e⟩|⟨_,e⟩<;>rw[e]
 ·exact⟨hfb,by have:=h.out; omega,h.st,h.lt,h.ops,h.ok,h.ku,by have:=h.calls; omega⟩
 ·refine⟨hfb,by have:=h.out; simp; omega,by simp[h.st],Mm h.lt aH,by simp[h.ops],fun x hx=>?_,h.ku,by have:=h.calls; simp only; omega⟩
  rcases jF hx with hx|hx
  ·exact h.ok x hx
  ·subst hx; exact Br ht _
 ·refine⟨?_,by have:=h.out; simp only; omega,by simp[h.st],Mm h.lt aH,h.ops,h.ok,by simp[h.ku],by have:=h.calls; simp only; omega⟩
  have:=RG h.fb aH o;exact this.mono aH
 ·refine⟨hfb,by have:=h.out; simp; omega,by simp[h.st],Mm h.lt aH,h.ops,h.ok,h.ku,by have:=h.calls; simp only; omega⟩
def Ey(s:RS):Hs.Rn aa jA vR:=⟨s.out.map wM,s.f,fun c=>(s.st[c]?).getD 0,fun c=>(s.ops[c]?).getD Kj,fun c=>(s.ku[c]?).getD AD⟩
structure RW(f:aa)(dC:Nat)(s:RS):Prop where
 ok:Hs.tN pq f (Ey s)
 wf:WF s.out
 op:∀c:Nat,vF s.out c = !((s.st[c]?).getD 0==0)
 ev:∀x,x∈s.out->0<=x.bF/\x.bF<3/\sr x.op/\(x.kind=1->x.op.bF=x.bF)/\(x.kind=1\/x.kind=2)
 calls:(cf s.out).cs.length=s.calls
 dC:s.calls<=dC
 an:∀x,x∈s.out->x.ku.names.length<=100000/\x.ku.data.length<=100000
 an2:∀a,a∈s.ku->a.names.length<=100000/\a.data.length<=100000
def RW.zero(f:aa)(dC:Nat):RW f dC (NV f):=by
 refine⟨?_,.nil,fun c=>?_,fun x h=>by simp[NV] at h,rfl,cL _,fun x h=>by simp[NV] at h,fun a h=>?_⟩
 ·have:Ey (NV f)=⟨[],f,fun _=>0,(Ey (NV f)).op,(Ey (NV f)).ku⟩:=by
   unfold Ey NV;congr 1;funext c
   match c with
   |0|1|2=>rfl
   |n+3=>rfl
  rw[this];exact Hs.tN.new f _ _
 ·match c with
  |0|1|2=>rfl
  |n+3=>rfl
 ·simp[NV] at h;subst h;simp[AD]
def vx{α:Type}(l:List α)(c:Nat)(x d:α)(hc:c<l.length):(fun k=>((l.set c x)[k]?).getD d)=fun k=>if k=c then x else (l[k]?).getD d:=by
 funext k;rw[gJ]
 by_cases h:c=k
 ·subst h; rw[aZ rfl,aZ hc,aZ rfl]; rfl
 ·rw[aR h,aR (fun e=>h e.symm)]
def RW.step{f:aa}{K dC i:Nat}{s:RS}(hI:RI K dC i s)(h:RW f dC s){t:wO}(ht:sr t.op):RW f dC (Aw dC s t):=by
 obtain⟨v,o,a,h1,h2,h3,h4,h5⟩:=hI.al5 t;have hc:=Ro t;have hst:pv t<s.st.length:=by rw[hI.st]; exact hc
 have hos:pv t<s.ops.length:=by rw[hI.ops]; exact hc
 have has:pv t<s.ku.length:=by rw[hI.ku]; exact hc
 have e1:(Ey s).st (pv t)=v:=by show(s.st[pv t]?).getD 0=v; rw[h1]; rfl
 have e2:(Ey s).op (pv t)=o:=by show(s.ops[pv t]?).getD Kj=o; rw[h3]; rfl
 have e3:(Ey s).ku (pv t)=a:=by show(s.ku[pv t]?).getD AD=a; rw[h5]; rfl
 have hop:=h.op (pv t);rw[h1] at hop;simp only[bA] at hop;have hg:=fun x=>congrFun (vx s.st (pv t) x 0 hst)
 rcases EM dC s t h1 h2 h3 h5 with ⟨_,_,e⟩|⟨hv,hm,e⟩|⟨hv,e⟩|⟨hv,e⟩<;>rw[e]
 ·exact h
 ·subst hv;refine⟨?_,?_,fun c=>?_,fun x hx=>?_,?_,?_,fun x hx=>?_,h.an2⟩
  ·have:=h.ok.begin e1 (Wj t) AD;unfold Ey at this ⊢;rw[aW];simp only[vx s.st (pv t) 1 0 hst,vx s.ops (pv t) (Wj t) Kj hos];exact this
  ·exact .snoc h.wf (kH _) (.inl rfl) (by rw[hop]; rfl)
  ·rw[qR];simp only[hg 1 c]
   by_cases hcc:c=pv t
   ·subst hcc; simp
   ·rw[aR aH,aR hcc]; exact h.op c
  ·rcases bm.1 hx with hx|hx
   ·exact h.ev x hx
   ·simp at hx; subst hx;exact⟨kH _,by simp only; omega,Br ht _,fun _=>rfl,.inl rfl⟩
  ·rw[nk];unfold Hs.iA wM;simp only[show((1:Int)==1)=true from rfl,aJ,aA,aw,az,h.calls]
  ·have:=h.dC;simp only;omega
  ·rcases bm.1 hx with hx|hx
   ·exact h.an x hx
   ·simp at hx; subst hx; simp[AD]
 ·subst hv;refine⟨?_,h.wf,fun c=>?_,h.ev,h.calls,h.dC,h.an,fun x hx=>?_⟩
  ·have:=h.ok.ae8 e1;rw[e2] at this;unfold Ey at this ⊢;simp only[vx s.st (pv t) 2 0 hst,vx s.ku (pv t) (pq s.f o).2 AD has];exact this
  ·simp only[hg 2 c]
   by_cases hcc:c=pv t
   ·subst hcc; rw[hop,aZ rfl]; rfl
   ·rw[aR hcc]; exact h.op c
  ·rcases jF hx with hx|hx
   ·exact h.an2 x hx
   ·subst hx;have:=G8 hI.fb.ok o;exact⟨by have:=this.names; omega,by have:=this.data; omega⟩
 ·subst hv;refine⟨?_,?_,fun c=>?_,fun x hx=>?_,?_,h.dC,fun x hx=>?_,h.an2⟩
  ·have:=h.ok.ends e1 Kj;rw[e3] at this;unfold Ey at this ⊢;rw[aW];simp only[vx s.st (pv t) 0 0 hst];exact this
  ·exact .snoc h.wf (kH _) (.inr rfl) (by rw[hop]; rfl)
  ·rw[qR];simp only[hg 0 c]
   by_cases hcc:c=pv t
   ·subst hcc; simp
   ·rw[aR aH,aR hcc]; exact h.op c
  ·rcases bm.1 hx with hx|hx
   ·exact h.ev x hx
   ·simp at hx; subst hx;exact⟨kH _,by simp only; omega,⟨by simp[Kj],by simp[Kj],by simp[Kj]⟩,fun hk=>by simp at hk,.inr rfl⟩
  ·rw[nk];unfold Hs.iA wM;simp only[show((2:Int)==1)=false from rfl,af,aD,List.length_modify,h.calls]
  ·rcases bm.1 hx with hx|hx
   ·exact h.an x hx
   ·simp at hx; subst hx;exact h.an2 a (aK h5)
def runN(f:aa)(m:List wO)(dC:Nat):RS:=m.foldl (Aw dC) (NV f)
def J1{f:aa}{K dC:Nat}(hf:FB K f):∀(m:List wO),(∀t,t∈m->sr t.op)->K+200*m.length<=89000->RI K dC m.length (runN f m dC)/\RW f dC (runN f m dC):=by
 refine fun m=>N0 (P:=fun m=>(∀t,t∈m->sr t.op)->K+200*m.length<=89000->RI K dC m.length (runN f m dC)/\RW f dC (runN f m dC)) ?_ ?_ m
 ·intro _ _; exact⟨RI.zero hf dC,RW.zero f dC⟩
 ·intro l x ih ht hK;rw[aA,aw,az] at hK;obtain⟨h1,h2⟩:=ih (fun t h=>ht t (ft _ h)) aH
  have hx:=ht x dy;have e:runN f (l++[x]) dC=Aw dC (runN f l dC) x:=by unfold runN; rw[List.foldl_append]; rfl
  rw[e,aA,aw,az];exact⟨h1.step hx aH,h2.step h1 hx⟩
def apE(B:Nat)(M:aC)(f:aa):List.map (ag.kh B M) (cm f)=cm f:=rfl
def apC(B:Nat)(M:aC)(f:aa):List.map (ag.jW B M) (cm f)=cm f:=rfl
def xg:rR.length=10:=rfl
def CQ:List.drop 10 rR=[]:=rfl
section
attribute [local irreducible] eX fM lu gK dX kr aq aU cr bJ
def J2{n K:Nat}{M0:aC}(h:Bk M0){m:List wO}{dC:Nat}(ht:∀t,t∈m->sr t.op)(hm:m.length<=100)(hK:K+200*m.length<=89000):∀(post pre:List wO)(s:RS)(ov:Nat),m=pre++post->RI K dC pre.length s ->
  ∃ov',∀B,vy n B M0 m dC s ov pre.length=vy n B M0 m dC (post.foldl (Aw dC) s) ov' m.length
 | [],pre,s,ov,e,_=>⟨ov,fun B=>by rw[e]; simp⟩
 |t::post,pre,s,ov,e,hI=>by
  have hi:m[pre.length]?=some t:=by rw[e]; simp
  have hl:pre.length+1<=m.length:=by rw[e,aA,aw]; omega
  have hto:=ht t (aK hi);obtain⟨ov1,h1⟩:=Xf (n:=n) (K:=K) h hI hi hto hm aH (ov:=ov);obtain⟨ov2,h2⟩:=J2 h ht hm hK post (pre++[t]) (Aw dC s t) ov1 (by rw[e]; simp) (by rw[aA]; exact hI.step hto aH)
  rw[aA] at h2;exact⟨ov2,fun B=>(h1 B).trans (h2 B)⟩
def abk{n K:Nat}{M0:aC}(h:Bk M0){f:aa}(hf:FB K f){m:List wO}(dC:Nat)(ht:∀t,t∈m->sr t.op)(hm:m.length<=100)(hK:K+200*m.length<=89000) :
  ∃ov,eX (aq (rQ n)) Lv.results (M0.length+3) [] Lv.body (eF 0 [.agg (cm f),B3 m,mO dC]) M0=some (.tuple [.cv (M0.length+2) ov 17 0 (runN f m dC).out.length,.agg (cm (runN f m dC).f)],M0++[cu (cm (runN f m dC).f),cu (cm (runN f m dC).f),.arr 17 ov ((runN f m dC).out.map uZ)]):=by
 obtain⟨ov,hl⟩:=J2 (n:=n) h ht hm hK m [] (NV f) 0 rfl (RI.zero hf dC);refine⟨ov,?_⟩;have hl:=hl (M0.length+3);have rr:∀b,b<=1000->cp 3 b=True:=fun b hb=>sn aH hb
 have e0:List.foldl (Aw dC) (NV f) m=runN f m dC:=rfl;rw[e0] at hl;generalize runN f m dC=r at hl;have hM:=fun M=>h (M0.length+3) M aH
 have htk:∀(a b c:cI)(X:aC),List.take (M0.length+3) (M0++(a::b::c::X))=M0++[a,b,c]:=fun a b c X=>by
  rw[List.take_append,bC aH,show M0.length+3-M0.length=3 by omega]; rfl
 have hlt2:(M0.length+2<M0.length+3)=True:=sM
 have hend:vy n (M0.length+3) M0 m dC r ov m.length=some (.tuple [.cv (M0.length+2) ov 17 0 r.out.length,.agg (cm r.f)],M0++[cu (cm r.f),cu (cm r.f),.arr 17 ov (r.out.map uZ)]):=by
  unfold vy;rw[bG];simp only[Dz,QM,zd];simp only[E14,br,wg,vD,wj,vK,xg,CQ,lY,yo,E4,wL,CJ,y8,cX,hlt2,apE,apC,aW,hM,htk,aJ,EW,seval]
 refine ik ?_ (hl.trans hend);unfold vy;simp only[Lv,Dz,QM,zd,NV,aE,aQ,az];simp only[E14,wg,vD,wj,vK,rr 8 aH,rr 64 aH,rr 56 aH,rr 48 aH,rr 72 aH,rr 80 aH,rr 88 aH,rr 96 aH,bZ,aI,aP,wL,y8,aJ,EW,seval];rfl
end
def ahS{n K:Nat}{M0:aC}(h:Bk M0){f:aa}(hf:FB K f){m:List wO}(dC:Nat)(ht:∀t,t∈m->sr t.op)(hm:m.length<=100)(hK:K+200*m.length<=89000) :
  ∃ov,JM (aq (rQ n)) Lv 3 [.agg (cm f),B3 m,mO dC] M0=some (.tuple [.cv (M0.length+2) ov 17 0 (runN f m dC).out.length,.agg (cm (runN f m dC).f)],M0++[cu (cm (runN f m dC).f),cu (cm (runN f m dC).f),.arr 17 ov ((runN f m dC).out.map uZ)]):=by
 obtain⟨ov,key⟩:=abk (n:=n) h hf dC ht hm hK;exact⟨ov,afu rfl key dy⟩
noncomputable def Kc:zt:=mc (mc (rQ 13) 20 (JM (aq (rQ 13)) alj 2)) 14 (JM (aq (rQ 13)) Lv 3)
def abp:vk Tryz.prog Kc:=pX (pX (SD 13).1 fz (fun h=>(FX fz (Xq 13) func20 atJ h).2)) fz (fun h=>(FX fz (Xq 13) func14 atF h).2)
def ahU:nJ Tryz.prog (aq Kc):=qS fz abp
def lH'{f:Nat}{a:List ag}{M:aC}{x:ag×aC}(h:aq (rQ 13) f a M=some x):aq Kc f a M=some x:=qZ rfl rfl (qZ rfl rfl h)
def lH{f:Nat}{vs:List ag}{M:aC}{x:ag×aC}(h:aU (aq (rQ 13)) f vs M=some x):aU (aq Kc) f vs M=some x:=by
 obtain⟨a,B,y,h1,h2⟩:=pO h;exact h2 _ (lH' h1)
def r14{K:Nat}{M0:aC}(h:Bk M0){f:aa}(hf:FB K f){m:List wO}(dC:Nat)(ht:∀t,t∈m->sr t.op)(hm:m.length<=100)(hK:K+200*m.length<=89000) :
  ∃ov,aq Kc 14 [.agg (cm f),B3 m,mO dC] M0=some (.tuple [.cv (M0.length+2) ov 17 0 (runN f m dC).out.length,.agg (cm (runN f m dC).f)],M0++[cu (cm (runN f m dC).f),cu (cm (runN f m dC).f),.arr 17 ov ((runN f m dC).out.map uZ)]):=by
 obtain⟨ov,h⟩:=ahS (n:=13) h hf dC ht hm hK;exact⟨ov,fe (g:=JM (aq (rQ 13)) Lv 3) rfl h⟩
def WF.last{l:List mV}{x:mV}(h:WF (l++[x])):WF l/\0<=x.bF/\(x.kind=1\/x.kind=2)/\vF l x.bF = !(x.kind==1):=by
 generalize he:l++[x]=m at h;cases h with
 |nil=>simp at he
 |snoc h1 h2 h3 h4 =>
  obtain⟨e1,e2⟩:=List.append_inj' he rfl;injection e2 with e2 _
  subst e1; subst e2;exact⟨h1,h2,h3,h4⟩
def WF.pre{a:List mV}:∀(b:List mV),WF (a++b)->WF a:=fun b=>N0 (P:=fun b=>WF (a++b)->WF a) dy (fun l x ih h=>by
 rw[<-bZ] at h;exact ih h.last.1) b
def WF.at'{l pre post:List mV}{x:mV}(h:WF l)(e:l=pre++x::post):0<=x.bF/\(x.kind=1\/x.kind=2)/\vF pre x.bF = !(x.kind==1):=by
 have:WF (pre++[x]):=WF.pre post (by rw[bZ]; simpa[e] using h)
 exact this.last.2
def WF.first{l:List mV}(h:WF l)(x:mV)(hx:l[0]?=some x):x.kind=1:=by
 cases l with
 |nil=>cases hx
 |cons y r =>
  simp at hx;subst hx;have:=(h.at' (pre:=[]) (post:=r) rfl).2.2;simp[vF] at this;exact this
def SH{l:List jA}{m:List wO}(h:zR l m=false):l.length<=50/\(∀o,o∈l->sr o)/\m.length<=24/\∀t,t∈m->sr t.op:=by
 simp only[zR,DN,jP,dv] at h;obtain⟨h1,h2,h3⟩:=h;split at h1
 ·cases h1
 rename_i h50;simp only[bh] at h50;rw[List.any_eq_false] at h1 h3;exact⟨aH,fun o ho=>Nu (by simpa using h1 o ho),aH,fun t ht=>Nu (by simpa using h3 t ht)⟩
def L8{f:aa}{K:Nat}(hf:FB K f)(hK:K<=70000){m:List wO}{dC:Nat}(hm:m.length<=24)(hmost:dC<=8)(ht:∀t,t∈m->sr t.op):vj 13 K f (runN f m dC).out/\WF (runN f m dC).out/\(runN f m dC).out.length<=24/\(∀x,x∈(runN f m dC).out->sr x.op/\x.bF<16/\(x.kind=1->x.op.bF=x.bF))/\Hs.Fits pq (cf (runN f m dC).out).cs f:=by
 obtain⟨h1,h2⟩:=J1 hf (dC:=dC) m ht aH;have dJ:=h1.out;have hc:=h2.calls;have hmo:=h2.dC;refine⟨⟨⟨aH,h2.wf.first,fun x hx=>(h2.ev x hx).1⟩,hf,aH,XA aH,aH,aH,fun c hcm=>?_⟩,h2.wf,aH,fun x hx=>⟨(h2.ev x hx).2.2.1,by have:=(h2.ev x hx).2.1; omega,(h2.ev x hx).2.2.2.1⟩,?_⟩
 ·obtain⟨x,g1,g2,_⟩:=(zD _ c hcm).1;rw[<-g2];exact(h2.ev x (aK g1)).2.2.1
 ·have:=h2.ok.fits;exact this
def FQ:jA:=⟨2,0,[47,97],[],1,0,0,[]⟩
def FP:jA:=⟨1,0,[47,97],[],0,0,0,[]⟩
def B8:vR:=⟨0,2,1,0,0,[],[]⟩
def Ng:vR:=⟨70,0,0,0,0,[],[]⟩
def Y7:List mV:=[wG 0 FQ,CL 0 B8,wG 1 FP,CL 1 B8]
def hiB:List mV:=[wG 0 FQ,wG 1 FP,CL 1 Ng,CL 0 B8]
def hiC:List mV:=[wG 0 FQ,CL 0 B8,wG 1 FP,CL 1 Ng]
def hiD:List mV:=[wG 0 FQ,wG 1 FP,CL 1 B8]
def orA:xx 13 f0 Y7=some [0,1]:=fz
def orB:xx 13 f0 hiB=some [1,0]:=fz
def orC:xx 13 f0 hiC=none:=fz
def orD:xx 13 f0 hiD=some [0,1]:=fz
def rtA:HF Y7=true:=mi
def aue:HF (Y7.drop 1)=false:=mi
section
attribute [local irreducible] eX fM lu gK dX kr aq aU cr bJ
def c17(xs:List Nat)(hn:xs.length<=1000):aq bW 17 [gS (xs.map mO),gS (xs.map mO)] []=some (.bool true,[]):=by
 refine aB ?_;simp only[alg,E17,av,EW,seval];refine qJ (xs:=xs) aH (fun _ _=>True) (fun _ (_:Unit)=>true) (fun _ i=>[(0,gS (xs.map mO)),(1,gS (xs.map mO)),(5,aF i)]) (fun _=>[]) (fun b=>some (.bool b,([]:aC))) (fun s hs=>?_) (fun pre x post s e hx cG hw h0 hm hI hi=>?_) () trivial
 ·simp only[E17,br,EW,seval]
 ·have i1:=hi () trivial;simp only[E17,cG,hx,hw,h0,av,EW,seval];exact i1
def k17 xs hn:=cP (c17 xs hn)
end
def Gl{l:List mV}(h1:l.length<=1000)(h2:∀x,l[0]?=some x->x.kind=1)(h3:∀x,x∈l->0<=x.bF)(h4:(cf l).cs.length<=8)(h5:∀x,x∈l->sr x.op){K:Nat}{f:aa}(hf:FB K f)(hK:K<=80000):vj 13 K f l:=by
 refine⟨⟨h1,h2,h3⟩,hf,aH,XA h4,aH,hK,fun c hc=>?_⟩
 obtain⟨x,g1,g2,_⟩:=(zD l c hc).1;rw[<-g2];exact h5 x (aK g1)
def okA:vj 13 0 f0 Y7:=Gl mi mi mi mi (by
 intro x hx;simp[Y7] at hx;rcases hx with rfl|rfl|rfl|rfl<;>exact⟨mi,mi,mi⟩) fb0 aH
def okB:vj 13 0 f0 hiB:=Gl mi mi mi mi (by
 intro x hx;simp[hiB] at hx;rcases hx with rfl|rfl|rfl|rfl<;>exact⟨mi,mi,mi⟩) fb0 aH
def okC:vj 13 0 f0 hiC:=Gl mi mi mi mi (by
 intro x hx;simp[hiC] at hx;rcases hx with rfl|rfl|rfl|rfl<;>exact⟨mi,mi,mi⟩) fb0 aH
def okD:vj 13 0 f0 hiD:=Gl mi mi mi mi (by
 intro x hx;simp[hiD] at hx;rcases hx with rfl|rfl|rfl<;>exact⟨mi,mi,mi⟩) fb0 aH
end Go.Proofs.YteoamaffclmdbaaGreatDoor
set_option linter.unusedSectionVars false
namespace Hs
open Go
variable {S O A:Type} {step:S->O->S×A}
theorem xF{α:Type}{P:List α->Prop}(h0:P [])(h1:∀l x,P l->P (l++[x]))(l:List α):P l:=by
 have:∀(n:Nat)(l:List _),l.length=n->P l:=by
  intro n;induction n with
  |zero=>grind
  |succ n ih =>
   intro l h;rcases kU l with rfl|⟨r,x,rfl⟩
   ·omega
   grind
 grind
theorem zE(l:List (Ev O A)):(dz l).n=l.length:=by
 refine xF (P:=fun l=>(dz l).n=l.length) rfl (fun l x ih=>?_) l
 rw[iu,iA];split<;>simp[ih]
theorem tH{α:Type}{l:List α}{i k:Nat}{f:α->α}{y:α}(h:(l.modify i f)[k]?=some y):∃x,l[k]?=some x/\y=if i=k then f x else x:=by
 grind
theorem Ip(l:List (Ev O A)):∀(k:Nat)(c:Call O A),(dz l).cs[k]?=some c->c.b<l.length/\∀e,c.e=some e->e<l.length:=by
 refine xF (P:=fun l=>∀(k:Nat)(c:Call O A),(dz l).cs[k]?=some c->c.b<l.length/\∀e,c.e=some e->e<l.length) (by simp[dz]) (fun l x ih=>?_) l
 intro k c hc;rw[iu,iA] at hc;split at hc
 ·grind [Nat.lt_or_ge,dz,List.getElem?_append_left,List.getElem?_append_right,zE]
 ·simp only at hc;obtain⟨y,y1,rfl⟩:=tH hc
  grind [zE]
theorem Fx(l:List (Ev O A)):(dz l).cs.Pairwise fun a b=>a.b<b.b:=by
 refine xF (P:=fun l=>(dz l).cs.Pairwise fun a b=>a.b<b.b) List.Pairwise.nil (fun l x ih=>?_) l
 rw[iu,iA];split
 ·grind [List.getElem?_of_mem,List.mem_singleton,zE,Ip]
 ·simp only;rw[cd] at ih ⊢
  grind
def qx(l:List (Ev O A)):Prop:=∀a x r,l=a++x::r->x.begin=false->∃c,(dz a).cs[(dz a).last x.cl]?=some c/\c.e=none
def qx.init{l:List (Ev O A)}{x:Ev O A}(h:qx (l++[x])):qx l:=fun a y r e hy=>h a y (r++[x]) (by rw[e]; simp) hy
theorem FD:∀(l:List (Ev O A)),qx l->∀n,n<=l.length->∀(k:Nat)(c:Call O A),(dz (l.take n)).cs[k]?=some c ->
  ∃d,(dz l).cs[k]?=some d/\d.b=c.b/\d.op=c.op/\d.b<n/\(∀e,c.e=some e↔(d.e=some e/\e<n))/\(c.e≠none->d.ku=c.ku):=by
 intro l
 refine xF (P:=fun l=>qx l->∀n,n<=l.length->∀(k:Nat)(c:Call O A),(dz (l.take n)).cs[k]?=some c ->
  ∃d,(dz l).cs[k]?=some d/\d.b=c.b/\d.op=c.op/\d.b<n/\(∀e,c.e=some e↔(d.e=some e/\e<n))/\(c.e≠none->d.ku=c.ku)) ?_ (fun l x ih=>?_) l
 ·intro _ n _ k c h; simp[dz] at h
 ·intro ho n hn k c hc;rcases bz l.length n with cG|hle
  ·have hn':n=(l++[x]).length:=by simp at hn ⊢; omega
   subst hn';rw[bE] at hc;obtain⟨g1,g2⟩:=Ip _ k c hc;exact⟨c,hc,rfl,rfl,g1,fun e=>⟨fun he=>⟨he,g2 e he⟩,And.left⟩,fun _=>rfl⟩
  ·rw[eM hle] at hc;obtain⟨d,d1,d2,d3,d4,d5,d6⟩:=ih ho.init n hle k c hc;rw[iu,iA];split
   ·grind
   ·rename_i hb;simp only;rw[hZ,d1];obtain⟨z,z1,z2⟩:=ho l x [] rfl (by simpa using hb)
    by_cases hk:(dz l).last x.cl=k
    ·subst hk;rw[d1] at z1; cases z1;refine⟨{ d with e:=some (dz l).n,ku:=x.ku },dy,d2,d3,d4,fun e=>?_,fun he=>?_⟩
     ·rw[d5 e,z2]
      grind [zE]
     ·obtain⟨e,he⟩:=jw.1 he;have:=((d5 e).1 he).1;rw[z2] at this; cases this
    ·refine⟨d,by simp[hk],d2,d3,d4,d5,d6⟩
end Hs
set_option linter.unusedSectionVars false
namespace Hs
open Go
variable {S O A:Type} {step:S->O->S×A}
def RD:∀(l:List (Ev O A)) (n:Nat),n<=l.length->∀(k:Nat)(d:Call O A),(dz l).cs[k]?=some d->d.b<n->∃c,(dz (l.take n)).cs[k]?=some c:=by
 intro l;refine xF (P:=fun l=>∀(n:Nat),n<=l.length->∀(k:Nat)(d:Call O A),(dz l).cs[k]?=some d->d.b<n->∃c,(dz (l.take n)).cs[k]?=some c) (fun n _ k d h=>by simp[dz] at h) (fun l x ih=>?_) l
 intro n hn k d hd hb;rcases bz l.length n with cG|hle
 ·have hn':n=(l++[x]).length:=by simp at hn ⊢; omega
  subst hn';rw[bE]; exact⟨d,hd⟩
 ·rw[eM hle];rw[iu,iA] at hd;split at hd
  ·simp only at hd;rcases bz k (dz l).cs.length with hk|hk
   ·rw[aO hk] at hd;exact ih n hle k d hd hb
   ·rw[bj hk] at hd;cases hj:k-(dz l).cs.length with
    |zero=>rw[hj] at hd; simp at hd; subst hd; simp only[zE] at hb; omega
    |succ m=>rw[hj] at hd; simp at hd
  ·simp only at hd;obtain⟨y,y1,rfl⟩:=tH hd;refine ih n hle k y y1 ?_;split at hb<;>exact hb
def A3{l:List (Ev O A)}{s:S}(ho:qx l)(h:Fits step (dz l).cs s){n:Nat}(hn:n<=l.length):Fits step (dz (l.take n)).cs s:=by
 obtain⟨ord,hr⟩:=h;obtain⟨ord',hr'⟩:=hr.cut step (Fx l) n
 have hat:∀(k:Nat)(c d:Call O A),(zJ n (dz l).cs)[k]?=some c->(dz (l.take n)).cs[k]?=some d->d.b=c.b/\d.op=c.op/\(c.e≠none->d.ku=c.ku)/\d.e=c.e:=by
  intro k c d hc hd;obtain⟨x,x1,x2,rfl⟩:=Dr hc;obtain⟨y,y1,y2,y3,y4,y5,y6⟩:=FD l ho n hn k d hd;rw[x1] at y1; cases y1
  have he:d.e=(K6 n x).e:=by
   apply Option.ext;intro e;rw[y5 e];unfold K6;simp only;cases hx:x.e with
   |none=>simp
   |some z =>
    simp only[Option.filter];split
    ·rename_i hz;constructor
     ·rintro⟨h1,_⟩; exact h1
     ·intro h1; cases h1; exact⟨rfl,by simpa using hz⟩
    ·rename_i hz;constructor
     ·rintro⟨h1,h2⟩; cases h1; exact absurd (by simpa using h2) hz
     ·intro h1; cases h1
  exact⟨y2.symm,y3.symm,fun hc=>(y6 (by rw[he]; exact hc)).symm,he⟩
 have dJ:(zJ n (dz l).cs).length=(dz (l.take n)).cs.length:=by
  apply Nat.le_antisymm
  ·rcases bz (dz (l.take n)).cs.length (zJ n (dz l).cs).length with cG|hge
   ·obtain⟨x,x1,x2,_⟩:=Dr (ai cG);obtain⟨c,hc⟩:=RD l n hn _ x x1 x2;have:=(aj.1 hc).1;omega
   ·exact hge
  ·rcases bz (zJ n (dz l).cs).length (dz (l.take n)).cs.length with cG|hge
   ·obtain⟨y,y1,_,_,y4,_⟩:=FD l ho n hn _ _ (ai cG);have:=(aj.1 (Ra (Fx l) y1 y4)).1;omega
   ·exact hge
 refine⟨ord',ou.wider step dJ (fun k c d hc hd=>?_) (fun i k ci di ck dk hci hdi hck hdk he=>?_) hr'⟩
 ·obtain⟨_,g2,g3,g4⟩:=hat k c d hc hd;exact⟨g2,g3,by rw[g4]⟩
 ·obtain⟨i1,_⟩:=hat i ci di hci hdi;obtain⟨_,_,_,k4⟩:=hat k ck dk hck hdk;rw[i1,k4] at he; exact he
theorem Pe{l:List (Ev O A)}{s:S}(h:Fits step (dz l).cs s){x:Ev O A}(hx:x.begin=true):Fits step (dz (l++[x])).cs s:=by
 obtain⟨ord,hr⟩:=h;rw[iu,iA,aZ hx];exact⟨ord,hr.more step rfl⟩
end Hs
set_option linter.unusedSectionVars false
namespace Hs
open Go
variable {S O A:Type} {step:S->O->S×A}
structure Swp(n:Nat)(t u:Cl O A):Prop where
 n':u.n=t.n
 last:u.last=t.last
 len:t.cs.length=u.cs.length
 at':∀(k:Nat)(c d:Call O A),t.cs[k]?=some c->u.cs[k]?=some d->d.op=c.op/\d.ku=c.ku/\(d.b=c.b\/(c.b=n+1/\d.b=n))/\(d.e=c.e\/(c.e=some n/\d.e=some (n+1)))
def Swp.next{n:Nat}{t u:Cl O A}(h:Swp n t u)(x:Ev O A):Swp n (iA t x) (iA u x):=by
 unfold iA;split
 ·refine⟨by simp[h.n'],by simp only[h.last,h.len],by simp[h.len],fun k c d hc hd=>?_⟩
  simp only at hc hd;rcases bz k t.cs.length with hk|hk
  ·rw[aO hk] at hc;rw[aO (by rw[<-h.len]; exact hk)] at hd
   exact h.at' k c d hc hd
  ·rw[bj hk] at hc;rw[bj (by rw[<-h.len]; exact hk),<-h.len] at hd
   cases hj:k-t.cs.length with
   |zero=>rw[hj] at hc hd; simp at hc hd; subst hc; subst hd; exact⟨rfl,rfl,.inl h.n',.inl rfl⟩
   |succ m=>rw[hj] at hc; simp at hc
 ·refine⟨by simp[h.n'],h.last,by simp[h.len],fun k c d hc hd=>?_⟩
  simp only at hc hd;rw[h.last] at hd;obtain⟨y,y1,rfl⟩:=tH hc;obtain⟨z,z1,rfl⟩:=tH hd;obtain⟨g1,g2,g3,g4⟩:=h.at' k y z y1 z1;split
  ·exact⟨g1,rfl,g3,.inl (by simp[h.n'])⟩
  ·exact⟨g1,g2,g3,g4⟩
def Swp.fits{n:Nat}{t u:Cl O A}(h:Swp n t u){s:S}(hf:Fits step t.cs s):Fits step u.cs s:=by
 obtain⟨ord,hr⟩:=hf;refine⟨ord,ou.wider step h.len (fun k c d hc hd=>?_) (fun i k ci di ck dk hci hdi hck hdk he=>?_) hr⟩
 ·obtain⟨g1,g2,_,g4⟩:=h.at' k c d hc hd;refine⟨g1,fun _=>g2,?_⟩
  rcases g4 with g4|⟨g4,g5⟩
  ·rw[g4]
  ·rw[g4,g5]; simp
 ·obtain⟨_,_,b,_⟩:=h.at' i ci di hci hdi;obtain⟨_,_,_,e'⟩:=h.at' k ck dk hck hdk;obtain⟨e,e1,e2⟩:=he;rcases e' with e'|⟨e3,e4⟩
  ·exact⟨e,by rw[<-e']; exact e1,aH⟩
  ·rw[e4] at e1; injection e1 with e1
   exact⟨n,e3,aH⟩
end Hs
set_option linter.unusedSectionVars false
namespace Hs
open Go
variable {S O A:Type} {step:S->O->S×A}
structure Q1(t u:Cl O A):Prop where
 n':u.n=t.n
 last:u.last=t.last
 len:t.cs.length=u.cs.length
 at':∀(k:Nat)(c d:Call O A),t.cs[k]?=some c->u.cs[k]?=some d->d.op=c.op/\d.b=c.b/\d.e=c.e/\(c.e≠none->d.ku=c.ku)
theorem Q1.next{t u:Cl O A}(h:Q1 t u)(x:Ev O A):Q1 (iA t x) (iA u x):=by
 unfold iA;split
 ·refine⟨by simp[h.n'],by simp only[h.last,h.len],by simp[h.len],fun k c d hc hd=>?_⟩
  rcases bz k t.cs.length with hk|hk
  ·rw[aO hk] at hc;rw[aO (by rw[<-h.len]; omega)] at hd
   exact h.at' k c d hc hd
  ·rw[bj hk] at hc;rw[bj (by rw[<-h.len]; omega),<-h.len] at hd
   cases hj:k-t.cs.length with
   |zero=>rw[hj] at hc hd; simp at hc hd; subst hc; subst hd; exact⟨rfl,h.n',rfl,fun h=>absurd rfl h⟩
   |succ m=>rw[hj] at hc; simp_all
 ·refine⟨by simp[h.n'],h.last,by simp[h.len],fun k c d hc hd=>?_⟩
  rw[h.last] at hd;obtain⟨y,y1,rfl⟩:=tH hc;obtain⟨z,z1,rfl⟩:=tH hd;obtain⟨g1,g2,g3,g4⟩:=h.at' k y z y1 z1;split
  ·exact⟨g1,g2,by simp[h.n'],fun _=>rfl⟩
  grind
theorem Q1.fits{t u:Cl O A}(h:Q1 t u){s:S}(hf:Fits step t.cs s):Fits step u.cs s:=by
 obtain⟨ord,hr⟩:=hf;refine⟨ord,ou.wider _ h.len (fun k c d hc hd=>?_) (fun i k ci di ck dk hci hdi hck hdk he=>?_) hr⟩
 ·obtain⟨g1,_,g3,g4⟩:=h.at' k c d hc hd
  grind
 ·obtain⟨_,b,_,_⟩:=h.at' i _ _ hci hdi;obtain⟨_,_,e',_⟩:=h.at' k _ _ hck hdk;rw[b,e'] at he; omega
end Hs
set_option linter.unusedSectionVars false
namespace Hs
open Go
variable {S O A:Type} {step:S->O->S×A}
def qx.nil:qx ([]:List (Ev O A)):=fun a x r h=>by simp at h
def qx.snoc{l:List (Ev O A)}(h:qx l){x:Ev O A}(hx:x.begin=false->∃c,(dz l).cs[(dz l).last x.cl]?=some c/\c.e=none):qx (l++[x]):=by
 intro a y r e hy;rcases kU r with rfl|⟨r',z,rfl⟩
 ·have:=List.append_inj_right' (s₁:=l) (s₂:=a) (t₁:=[x]) (t₂:=[y]) e rfl;have h2:=List.append_inj_left' (s₁:=l) (s₂:=a) (t₁:=[x]) (t₂:=[y]) e rfl;injection this with this
  subst this; subst h2;exact hx hy
 ·rw[List.concat_eq_append,<-aI,<-bZ] at e;have h2:=List.append_inj_left' e rfl;exact h a y r' h2 hy
structure Shp(t u:Cl O A):Prop where
 n':u.n=t.n
 last:u.last=t.last
 be:u.cs.map (fun c=>(c.b,c.e))=t.cs.map fun c=>(c.b,c.e)
def Shp.next{t u:Cl O A}(h:Shp t u){x y:Ev O A}(hb:y.begin=x.begin)(hc:y.cl=x.cl):Shp (iA t x) (iA u y):=by
 have hl:u.cs.length=t.cs.length:=by simpa using congrArg List.length h.be
 unfold iA;rw[hb,hc,h.n',h.last,hl];split
 ·exact⟨rfl,rfl,by simp[h.be]⟩
 ·refine⟨rfl,rfl,?_⟩;simp only;apply cA;intro k;have hk:=congrArg (fun l=>l[k]?) h.be
  simp only[aX,hZ] at hk ⊢;cases hu:u.cs[k]? with
  |none =>
   rw[hu] at hk;cases ht:t.cs[k]? with
   |none=>rfl
   |some c=>rw[ht] at hk; cases hk
  |some d =>
   rw[hu] at hk;cases ht:t.cs[k]? with
   |none=>rw[ht] at hk; cases hk
   |some c =>
    rw[ht] at hk;simp only[eo,fY,jk] at hk;split
    ·simp[hk.1]
    ·simp[hk.1,hk.2]
def shape:∀ {l m:List (Ev O A)},m.map (fun x=>(x.begin,x.cl))=l.map (fun x=>(x.begin,x.cl))->Shp (dz l) (dz m):=by
 have key:∀(l m:List (Ev O A)) (t u:Cl O A),m.map (fun x=>(x.begin,x.cl))=l.map (fun x=>(x.begin,x.cl))->Shp t u->Shp (l.foldl iA t) (m.foldl iA u):=by
  intro l;induction l with
  |nil=>intro m t u h hs; cases m with
   |nil=>exact hs
   |cons=>simp at h
  |cons x l ih=>intro m t u h hs; cases m with
   |nil=>simp at h
   |cons y m =>
    simp only[aE,mB,jk] at h;exact ih m _ _ h.2 (hs.next h.1.1 h.1.2)
 exact fun {l m} h=>key l m _ _ h ⟨rfl,rfl,rfl⟩
def qx.am0{l m:List (Ev O A)}(hl:qx l)(h:m.map (fun x=>(x.begin,x.cl))=l.map (fun x=>(x.begin,x.cl))):qx m:=by
 intro a y r e hy;rw[e,aW,aE] at h;obtain⟨b,s,rfl,h1,h2⟩:=List.map_eq_append_iff.1 h.symm;obtain⟨x,q,rfl,h3,h4⟩:=List.map_eq_cons_iff.1 h2;simp only[jk] at h3;obtain⟨c,c1,c2⟩:=hl b x q rfl (by rw[h3.1]; exact hy)
 have hs:=shape h1.symm;have hk:=congrArg (fun l=>l[(dz b).last x.cl]?) hs.be
 simp only[aX,c1,eo] at hk;obtain⟨d,d1,d2⟩:=aV.1 hk;simp only[jk] at d2;exact⟨d,by rw[hs.last,<-h3.2]; exact d1,by rw[d2.2]; exact c2⟩
end Hs
namespace Go.Proofs.YteoamaffclmdbaaGreatDoor
open Go Go.Abs
def EF(l:List mV):List (Int×Int):=l.map fun x=>(x.kind,x.bF)
theorem P5{l m:List mV}(h:EF m=EF l):vF m=vF l:=by
 have key:∀(l m:List _)(o:Int->Bool),EF m=EF l->m.foldl (fun o x c=>if c=x.bF then x.kind==1 else o c) o=l.foldl (fun o x c=>if c=x.bF then x.kind==1 else o c) o:=by
  intro l;induction l with
  |nil=>simp_all [EF]
  |cons x l ih=>intro m o h; cases m<;>grind [EF]
 exact key _ _ _ h
theorem WF.am0{l:List mV}(hw:WF l):∀ {m:List mV},EF m=EF l->WF m:=by
 induction hw with
 |nil=>intro m h; cases m with
  |nil=>exact .nil
  |cons=>grind [EF]
 | @snoc l x h1 h2 h3 h4 ih =>
  intro m h;rcases kU m with rfl|⟨m',y,rfl⟩
  ·simp_all [EF]
  ·rw[List.concat_eq_append] at h ⊢;simp only[EF,aW] at h;obtain⟨e1,e2⟩:=List.append_inj' h rfl;simp only[aE,aQ,mB,jk,pN] at e2;exact .snoc (ih e1) (by rw[e2.2]; exact h2) (by rw[e2.1]; exact h3) (by rw[P5 e1,e2.1,e2.2]; omega)
theorem zF(l:List mV):(cf l).cs.length=(l.filter fun x=>x.kind==1).length :=
 N0 (P:=fun l=>(cf l).cs.length=(l.filter _).length) rfl (fun l x ih=>by
  rw[nk]
  grind [Hs.iA,wM]) l
theorem WF.kind{l:List mV}(h:WF l):∀x,x∈l->x.kind=1\/x.kind=2:=by
 induction h<;>grind
def WF.ends{l:List mV}(h:WF l):Hs.qx (l.map wM):=by
 induction h with
 |nil=>exact Hs.qx.nil
 | @snoc l x h1 h2 h3 h4 ih =>
  rw[aW];refine ih.snoc fun hb=>?_
  have hb:(x.kind==1)=false:=hb;rw[hb] at h4;obtain⟨c,g1,g2,_⟩:=(Hc h1).op _ h2 h4;exact⟨c,g1,g2⟩
structure Hy(l:List mV):Prop where
 wf:WF l
 len:l.length<=30
 ev:∀x,x∈l->sr x.op/\x.bF<16/\(x.kind=1->x.op.bF=x.bF)
 QH:(l.filter fun x=>x.kind==1).length<=8
def Hy.ord{l:List mV}(h:Hy l){f:aa}{K:Nat}(hf:FB K f)(hK:K<=80000):vj 13 K f l :=
 Gl (by have:=h.len; omega) h.wf.first (Hc h.wf).cl (by rw[zF]; exact h.QH) (fun x hx=>(h.ev x hx).1) hf hK
def Hy.fits{l:List mV}(h:Hy l)(f:aa):(xx 13 f l).isSome=true↔Hs.Fits pq (cf l).cs f:=by
 have hs:=Gm (n:=13) (f:=f) (l:=l) (by rw[zF]; have:=h.QH; omega)
 cases ho:xx _ f l with
 |none=>rw[ho] at hs; exact⟨fun h=>(by cases h),fun h=>absurd h hs⟩
 |some ord=>rw[ho] at hs; exact⟨fun _=>⟨ord,hs⟩,fun _=>rfl⟩
theorem NX{α β:Type}(g:α->β){l:List α}{k:Nat}{x y:α}(hx:l[k]?=some x)(hg:g y=g x):(l.set k y).map g=l.map g:=by
 apply cA
 grind
def EE{l:List mV}{k:Nat}{x y:mV}(hx:l[k]?=some x)(hg:y.kind=x.kind):((l.set k y).filter fun x=>x.kind==1).length=(l.filter fun x=>x.kind==1).length:=by
 have e:∀m:List mV,(m.filter fun x=>x.kind==1).length=((m.map fun x=>x.kind).filter fun k=>k==1).length:=fun m=>by
  rw[List.filter_map,dU]; rfl
 rw[e,e,NX _ hx hg]
def Hy.set{l:List mV}(h:Hy l){k:Nat}{x:mV}(hx:l[k]?=some x)(a:vR):Hy (l.set k { x with ku:=a }):=by
 refine⟨h.wf.am0 (NX _ hx rfl),by rw[cY]; exact h.len,fun y hy=>?_,by rw[EE (y:={ x with ku:=a }) hx rfl]; exact h.QH⟩
 rcases jF hy with hy|rfl
 ·exact h.ev y hy
 ·exact h.ev x (aK hx)
def Hy.take{l:List mV}(h:Hy l)(n:Nat):Hy (l.take n) :=
 ⟨WF.pre _ (by rw[cC]; exact h.wf),by have:=h.len; rw[cq]; omega,fun x hx=>h.ev x (dK hx),by
  have:=((List.take_sublist n l).filter fun x=>x.kind==1).length_le
  have:=h.QH;omega⟩
def Hy.A3{l:List mV}(h:Hy l){f:aa}(hf:Hs.Fits pq (cf l).cs f)(n:Nat)(hn:n<=l.length):Hs.Fits pq (cf (l.take n)).cs f:=by
 unfold cf at hf ⊢;rw[eb];exact Hs.A3 h.wf.ends hf (by rw[dU]; omega)
theorem Lr{l:List mV}{f:aa}(hf:Hs.Fits pq (cf l).cs f){x:mV}(hx:x.kind=1):Hs.Fits pq (cf (l++[x])).cs f:=by
 grind [cf,Hs.Pe,wM]
def O7(p:UInt8×UInt8):ag := .agg [pt p.1,pt p.2]
def aeR(p:UInt8×UInt8)(f:aa):Bk [cu [pt p.1,pt p.2],cu (cm f)]:=fun _ _ _=>rfl
abbrev LF(x:mV)(v:Int):mV:={ x with ku:={ x.ku with ar:=v } }
def aa8{l:List mV}{k:Nat}(x:mV)(v:Int):iP (l.map uZ) k (putCells (uZ x) 11 [aF v])=(l.set k (LF x v)).map uZ:=by
 rw[fi,gF]; rfl
def amc{f:aa}{K:Nat}(hf:FB K f)(hK:K<=70000){m:List wO}{dC:Nat}(hm:m.length<=24)(hmost:dC<=8)(ht:∀t,t∈m->sr t.op):Hy (runN f m dC).out/\Hs.Fits pq (cf (runN f m dC).out).cs f/\(runN f m dC).out.length<=24/\((runN f m dC).out.filter fun x=>x.kind==1).length<=dC:=by
 obtain⟨h1,h2,h3,h4,h5⟩:=L8 hf hK hm hmost ht;obtain⟨_,g2⟩:=J1 hf (dC:=dC) m ht aH;have g3:=g2.calls;have g4:=g2.dC;rw[zF] at g3;exact⟨⟨h2,aH,h4,aH⟩,h5,h3,aH⟩
theorem Hy.more{l:List mV}(h:Hy l){o:jA}(ho:sr o)(hn:(l.filter fun x=>x.kind==1).length<=7){f:aa}{K:Nat}(hf:FB K f)(hK:K<=80000)(hfit:Hs.Fits pq (cf l).cs f):vj 13 K f (l++[wG 3 o])/\(xx 13 f (l++[wG 3 o])).isSome=true:=by
 have hl:=h.len
 have hnb:(cf (l++[wG 3 o])).cs.length<=8:=by
  rw[zF,jx,aA];have:([wG 3 o].filter fun x:mV=>x.kind==1).length=1:=rfl
  omega
 refine⟨Gl (by rw[aA,List.length_singleton]; omega) (fun x hx=>?_) (fun x hx=>?_) hnb (fun x hx=>?_) hf hK,?_⟩
 ·cases l with
  |nil=>grind
  |cons y r=>exact h.wf.first x hx
 ·rcases bm.1 hx with hx|hx
  ·exact(Hc h.wf).cl x hx
  grind
 ·rcases bm.1 hx with hx|hx
  ·exact(h.ev x hx).1
  grind [Br]
 ·have hs:=Gm (n:=13) (f:=f) (l:=l++[wG 3 o]) aH;cases hor:xx 13 f _ with
  |none=>rw[hor] at hs; exact absurd (Lr hfit rfl) hs
  |some ord=>rfl
section
open Go.ChangeShapes Go.WideShapes Go.ChangeAt Go.RowKit Go.Deep
section
variable {H:Type} {enc:TypeId×Value->H}
def ahj:Tryz.prog.cellsOf 69=9:=fz
def N7:Tryz.prog.underlying 23=some (.slice 69):=fz
set_option maxRecDepth 100000 in
def XC{w:World}{fuel:Nat}{cs:List Value}{x:DataW H×List MemPlace}(h:DataW.trod enc Tryz.prog w 0 (fun _=>true) true fuel 69 cs=some x):∃s:wO,nI w (uJ s) cs:=by
 obtain⟨xs,n,_,_,hl,hxl,hf⟩:=DataW.trod_struct underlying69 h;have h0:cs.length=9:=by rw[hl]; kernel_rfl
 match cs,h0 with
 | [v0,v1,v2,v3,v4,v5,v6,v7,v8],_ =>
  match xs,hxl with
  | [y0,y1],_ =>
   obtain⟨a0,r0⟩:=HM XD (Ym (k:=0) aeT rfl (hf 0 _ rfl));have h1:=hf 1 _ rfl;change DataW.trod enc Tryz.prog w 0 (fun _=>true) true n 49 (List.take (Tryz.prog.cellsOf 49) _)=_ at h1
   rw[am3] at h1;obtain⟨a1,r1⟩:=WD h1;exact⟨⟨a0,a1⟩,.app (.one r0) r1⟩
set_option maxRecDepth 100000 in
def Qq{w:World}{r:Reach}{b:Nat}{v:Value}{d:DataW H}{ps:List MemPlace}(h:DataW.Trod enc Tryz.prog w 0 (fun _=>true) true 23 v d ps)(hv:Value.okWide Tryz.prog w r b 23 v):∃l:List wO,gj SZ [] w (B3 l) v:=by
 obtain⟨a,len,cap,rfl⟩:=okWide_slice N7 hv;obtain⟨fuel,hf⟩:=h;obtain⟨l,h2,_⟩:=Ez (eC:=uJ) (mk:=RO) N7 ahj aH (fun _=>rfl) (fun _=>rfl) (fun n cs y _ hy=>XC hy) hf
 exact⟨l,.plain h2⟩
def adX:Tryz.prog.underlying 61=some (.array 2 5):=fz
set_option maxRecDepth 100000 in
def abw{w:World}{r:Reach}{b:Nat}{v:Value}{d:DataW H}{ps:List MemPlace}(h:DataW.Trod enc Tryz.prog w 0 (fun _=>true) true 61 v d ps)(hv:Value.okWide Tryz.prog w r b 61 v):∃p:UInt8×UInt8,gj SZ [] w (O7 p) v:=by
 have hv1:=hv;simp only[Value.okWide,adX] at hv1;obtain⟨cs,rfl,_⟩:=hv1;obtain⟨fuel,hf⟩:=h;have hcs:(Value.agg cs).cells.toList=cs.toList:=rfl;rw[hcs] at hf;obtain⟨xs,n,_,_,hl,hxl,he⟩:=DataW.trod_array adX hf;have h0:cs.toList.length=2:=by rw[hl]; kernel_rfl
 have e0:=he 0 aH;have e1:=he 1 aH;rw[aeT] at e0 e1
 match hc:cs.toList,h0 with
 | [v0,v1],_ =>
  match xs,hxl with
  | [y0,y1],_ =>
   rw[hc] at e0 e1;obtain⟨a0,r0⟩:=HM XD e0;obtain⟨a1,r1⟩:=HM XD e1;exact⟨⟨a0,a1⟩,Yj (by rw[hc]; exact .app (.one r0) (.one r1))⟩
end
end
def D5{f:Nat}{vs:List ag}{M:aC}{x:ag×aC}(h:aU (aq bW) f vs M=some x):aU (aq Kc) f vs M=some x:=lH (lT (lE h))
def XJ(x:ag)(l:List ag)(n:Nat):wid (x::l) n=(x.cells.length=n/\wid l n):=by simp[wid]
section
attribute [local irreducible] eX fM lu gK dX kr aq aU cr bJ
set_option maxRecDepth 100000 in
def c9:aq Kc 9 [] []=some (.bool true,[]):=by
 have q22:=fun(c:Int) (o:jA) (M:aC)=>D5 (cO (c22 c o) M)
 have q23:=fun(c:Int) (a:vR) (M:aC)=>D5 (cO (c23 c a) M)
 have b1:=q22 0 FQ;have b2:=q22 1 FP;have n1:=q23 0 B8;have n2:=q23 1 B8;have n3:=q23 1 Ng;have q24:=fun M=>D5 (k24 M)
 have oA:=fun M=>lH (S2 okA M)
 have oB:=fun M=>lH (S2 okB M)
 have oC:=fun M=>lH (S2 okC M)
 have oD:=fun M=>lH (S2 okD M)
 have fB:=fun M=>lH (k18 okB M)
 have fC:=fun M=>lH (k18 okC M)
 have rA:=fun M=>D5 (cO (c11 Y7 mi) M)
 have rB:=fun M=>D5 (cO (c11 (Y7.drop 1) mi) M)
 have s1:=fun M=>D5 (k17 [0,2] mi M)
 have s2:=fun M=>D5 (k17 [1,0] mi M)
 have s3:=fun M=>D5 (k17 [0,1] mi M)
 rw[orA] at oA;rw[orB] at oB fB;rw[orC] at oC fC;rw[orD] at oD;rw[rtA] at rA;rw[aue] at rB;have eA:(((some [0,1]:Option (List Nat)).getD []).map fun i=>mO (GY (cf Y7).cs i))=[mO 0,mO 2]:=rfl
 have eB:(((some [1,0]:Option (List Nat)).getD []).map fun i=>mO (GY (cf hiB).cs i))=[mO 1,mO 0]:=rfl
 have eC:(((none:Option (List Nat)).getD []).map fun i=>mO (GY (cf hiC).cs i))=[]:=rfl
 have eD:(((some [0,1]:Option (List Nat)).getD []).map fun i=>mO (GY (cf hiD).cs i))=[mO 0,mO 1]:=rfl
 rw[eA] at oA;rw[eB] at oB;rw[eC] at oC;rw[eD] at oD;have v0:mO 0 = aF 0:=rfl;have v1:mO 1 = aF 1:=rfl;have v2:mO 2 = aF 2:=rfl;simp only[v0,v1,v2,tW,FQ,FP,B8,Ng,eS,dw,cR,cZ,aQ,aE,uZ,pf,wG,CL,AD,Kj,Y7,hiB,hiC,hiD,bX,dg,oE,na] at b1 b2 n1 n2 n3 oA oB oC oD fB fC rA rB s1 s2 s3;refine aB ?_;simp only[fn9,E9,b1,b2,n1,n2,n3,q24,xg,lY,yo,wL,y8,CJ,aJ,oA,oB,oC,oD,fB,fC,rA,rB,s1,s2,s3,XJ,ag.cells,EW,seval]
 done
end
end Go.Proofs.YteoamaffclmdbaaGreatDoor
