import Derived.Test.YteoamaffclmdbaaGreatDoorHtaF
set_option linter.all false
open Go.Proofs.Tryz
namespace Go.Proofs.YteoamaffclmdbaaGreatDoor
open Go Go.Abs
abbrev Hj(cs:List vl)(k:Nat):Bool:=match cs[k]? with
 |some c=>c.e.isSome
 |none=>false
theorem J5{α:Type}{P:List α->Prop}(h0:P [])(h1:∀l x,P l->P (l++[x]))(l:List α):P l:=by
 rw[<-l.reverse_reverse];induction l.reverse<;>grind
theorem xc(l:List mi):∀c,c∈(bK l).cs->(∃x,l[c.b]?=some x/\x.op=c.op/\x.kind=1)/\∀e,c.e=some e->∃y,l[e]?=some y/\y.j4=c.j4:=by
 refine J5 (P:=fun l=>∀c,c∈(bK l).cs->(∃x,l[c.b]?=some x/\x.op=c.op/\x.kind=1)/\∀e,c.e=some e->∃y,l[e]?=some y/\y.j4=c.j4) ?_ ?_ l
 ·simp[bK,Hs.fP]
 ·intro l x ih c hc;rw[lk] at hc;have last:(l++[x])[l.length]?=some x:=dx
  have hold:∀c,c∈(bK l).cs->(∃y,(l++[x])[c.b]?=some y/\y.op=c.op/\y.kind=1)/\∀e,c.e=some e->∃y,(l++[x])[e]?=some y/\y.j4=c.j4:=fun c hc=>by
   grind
  unfold Hs.hU at hc;split at hc
  ·rename_i hb;simp only[bq,bT] at hc;rcases hc with hc|hc
   ·exact hold c hc
   ·subst hc;simp only[sD];refine⟨⟨x,last,rfl,?_⟩,fun e he=>jK⟩
    simpa[wy] using hb
  ·simp only at hc;obtain⟨i,hi⟩:=kV.1 hc;rw[gw] at hi;cases hci:(bK l).cs[i]? with
   |none=>rw[hci] at hi; cases hi
   |some d =>
    have hd:=hold d (aE hci);rw[hci] at hi;simp only[Option.map_eq_map,dZ] at hi;split at hi
    ·cases hi;refine⟨hd.1,fun e he=>?_⟩
     simp only[sD] at he;cases he;exact⟨x,last,rfl⟩
    ·cases hi;exact hd
structure wB(n K:Nat)(f:aa)(l:List mi):Prop where
 h:aiQ l
 fb:FB K f
 Pc:(bK l).cs.length<=12
 tb:∃W,(∀done,Hs.Good (bK l).cs done->E4 (bK l).cs done (List.range (bK l).cs.length)<=W)/\Tb W ((bK l).cs.length+1)<=900000
 n:(bK l).cs.length+1<=n
 K:K<=80000
 ops:∀c,c∈(bK l).cs->rY c.op
def HC(cs:List vl)(i k:Nat):List Nat:=(List.range cs.length).map fun j=>if j<i then bitsOf (fun k=>Hs.lN cs k j) cs.length else if j=i then bitsOf (fun k=>Hs.lN cs k i) k else 0
def bOf(f:aa)(l:List mi):Bs:=⟨f,l,(bK l).cs,bitsOf (Hj (bK l).cs) (bK l).cs.length,0,HC (bK l).cs (bK l).cs.length 0⟩
theorem C3(cs:List vl)(i k:Nat):(HC cs i k).length=cs.length:=by simp[HC]
def HD{cs:List vl}{i k j:Nat}(hj:j<cs.length):(HC cs i k)[j]?=some (if j<i then bitsOf (fun k=>Hs.lN cs k j) cs.length else if j=i then bitsOf (fun k=>Hs.lN cs k i) k else 0):=by
 simp_all [HC]
theorem WU(cs:List vl)(i:Nat):HC cs i cs.length=HC cs (i+1) 0:=by
 refine c8 fun j hj=>?_
 by_cases h1:j<i
 ·rw[aZ h1,aZ aJ]
 ·rw[aR h1]
  by_cases h2:j=i
  ·grind
  ·rw[aR h2,aR aJ]
   by_cases h3:j=i+1
   ·rw[aZ h3]; rfl
   grind
theorem WV(cs:List vl):HC cs 0 0=List.replicate cs.length 0:=by
 unfold HC;refine cp fun j=>?_
 rw[aX,ic]
 by_cases hj:j<cs.length
 ·rw[iy hj];simp only[dZ,jJ,aD];split<;>rfl
 grind
theorem JS{cs:List vl}{i k:Nat}(h:Hs.lN cs k i=false):HC cs i (k+1)=HC cs i k:=by
 grind [HC,bitsOf]
theorem abn{cs:List vl}{i k:Nat}(h:Hs.lN cs k i=true):(HC cs i k).set i (bitsOf (fun k=>Hs.lN cs k i) k ||| 2 ^ k)=HC cs i (k+1):=by
 refine cp fun j=>?_
 rcases bC j _ with hj|hj
 ·rw[gQ,HD hj,HD hj,C3]
  by_cases h1:i=j
  ·subst h1;rw[aZ rfl,aZ hj,aR (ig _),aZ rfl,bitsOf,h,aZ rfl]
  grind
 grind [C3]
def am7{n K:Nat}{f:aa}{l:List mi}(h:wB n K f l):Lk (bOf f l):=by
 refine⟨by have:=h.Pc; show(bK l).cs.length<=60; omega,rfl,C3 _ _ _,fun j hj=>?_,fun c hc=>?_,fun c hc e he=>?_⟩
 ·show(HC _ _ 0)[j]?=_
  have hj:j<(bK l).cs.length:=hj;rw[HD hj,aZ hj]; rfl
 ·obtain⟨x,h1,h2,_⟩:=(xc l c hc).1;exact⟨x,h1,h2,h.ops c hc⟩
 ·exact(xc l c hc).2 e he
def aiU:∀r,r<=9->Tb 60 r<=900000:=ml
def XB{cs:List vl}(h:cs.length<=8):∃W,(∀done,Hs.Good cs done->E4 cs done (List.range cs.length)<=W)/\Tb W (cs.length+1)<=900000 :=
 ⟨60,fun done hg=>by have:=Iw hg; omega,aiU _ aJ⟩
noncomputable def zm(n:Nat)(f:aa)(l:List mi):Option (List Nat):=(Hs.wS oU ji (bK l).cs n f [] []).1
section
attribute [local irreducible] eX fJ lu gK eb kr aq aU cq bI
theorem MO(c:vl):decide (0<=rD c)=c.e.isSome:=by
 grind [rD]
def c15{n K:Nat}{f:aa}{l:List mi}(h:wB n K f l):aq (rp n) 15 [.agg (cf f),qJ l] []=some (.tuple [gG (((zm n f l).getD []).map fun i=>lq (sW (bK l).cs i)),.bool (zm n f l).isSome],[]):=by
 have hfew:=h.Pc;have qc:=fun M=>lT (n:=n) (lE (cO (c30 h.h) M))
 refine aB ?_;have hn:(bK l).cs.length<=12:=h.Pc;obtain⟨W,hW,hTb⟩:=h.tb;simp only[afl,QR,qc,EW,seval]
 refine nr (xs:=(bK l).cs) aJ (fun i (E:Nat)=>E=bitsOf (Hj (bK l).cs) i) (fun _ _=>()) (fun _ i=>[(2,cA 0),(3,cA 1),(6,cA 2),(7,cA 3),(20,gG ((bK l).cs.map qy)),(21,aF (bK l).cs.length),(22,aF i)])
  (fun E=>[cC (cf f),cC [qJ l],cC [gG ((bK l).cs.map qy)],cC [xO E]]) (fun _=>_) (fun E hE=>?_) (fun pre x post E e hx cJ hw h0 hm hE hi=>?_) 0 rfl
 ·have rmn:ct (bK l).cs.length 8=True:=qM;have hrep:List.replicate (bK l).cs.length (ag.agg [ag.int IntKind.u64 0]).norm=(HC (bK l).cs 0 0).map xO:=by rw[WV,gY]; rfl
  simp only[QR,bl,rmn,hrep,EW,seval]
  refine nr (xs:=(bK l).cs) aJ (fun i (rd:List Nat)=>rd=HC (bK l).cs i 0) (fun _ _=>()) (fun _ i=>[(2,cA 0),(3,cA 1),(6,cA 2),(7,cA 3),(10,cA 5),(38,gG ((bK l).cs.map qy)),(39,aF (bK l).cs.length),(40,aF i)])
   (fun rd=>[cC (cf f),cC [qJ l],cC [gG ((bK l).cs.map qy)],cC [xO E],.arr 1 0 (rd.map xO),cC [.cD 4 0 1 0 (bK l).cs.length]]) (fun _=>_) (fun rd hrd=>?_) (fun pre x post rd e hx cJ hw h0 hm hrd hi=>?_) (HC (bK l).cs 0 0) rfl
  ·obtain⟨s',hin,hA⟩:=XC (W:=W) (am7 h) hW n ((bK l).cs.length+1) h.n f K [] [] ⟨[],[],0,[],0⟩ (by show(bK l).cs.length+1=_; simp) h.fb (by have:=h.K; omega) ⟨ly,fun k hk=>by cases hk⟩ (Da.nil 11 []) (fun k=>rfl) jK (au _) (by simp only; omega)
   have hin':=Kd hin;have ho:zm n f l=(Hs.wS oU ji (bOf f l).cs n f [] []).1:=rfl;rw[ho];generalize Hs.wS oU ji (bOf f l).cs n f [] []=X at hin' hA;obtain⟨o,lo⟩:=X;have hout:=hA.out;have hk:=hA.k;obtain⟨m2,r2,ov2,ox2,k2⟩:=s';simp only[lZ,bOf,ji,yC,aQ,C3,show eKu ([]:SM)=[] from rfl,show ph Lh []=[] from rfl,show xO 0 = .int .u64 0 from rfl] at hin'
   subst hE;subst hrd;simp only[p8,aP] at hout hk;cases o with
   |none =>
    simp only[cY] at hin';simp only[QR,bl,kI,wR,hin',EW,seval];rfl
   |some ord =>
    simp only[bW] at hin'
    have hso:List.take k2 (List.map lq ox2)=ord.map fun i=>lq (sW (bK l).cs i):=by
     rw[<-eP,hout,gJ]; rfl
    simp only[QR,bl,kI,wR,hin',hso,EW,seval];rfl
  ·have hpl:=(aj.1 hx).1;simp only[QR,cJ,hx,jX,kQ,BN,Bh,EW,seval]
   refine nr (xs:=(bK l).cs) aJ (fun k (rd:List Nat)=>rd=HC (bK l).cs pre.length k) (fun _ _=>()) (fun _ k=>[(2,cA 0),(3,cA 1),(6,cA 2),(7,cA 3),(10,cA 5),(11,lq pre.length),(12,cA 6),(38,gG ((bK l).cs.map qy)),(39,aF (bK l).cs.length),(40,lq pre.length),(45,gG ((bK l).cs.map qy)),(46,aF (bK l).cs.length),(47,aF k)])
    (fun rd=>[cC (cf f),cC [qJ l],cC [gG ((bK l).cs.map qy)],cC [xO E],.arr 1 0 (rd.map xO),cC [.cD 4 0 1 0 (bK l).cs.length],cC (qC x)]) (fun _=>_) (fun rd' hrd'=>?_) (fun pre' y post' rd' e' hy hlt' hw' h0' hm' hrd' hi'=>?_) rd hrd
   ·have i1:=hi rd' (by rw[hrd',WU])
    simp only[QR,bl,hw,EW,seval];exact i1
   ·have hpl':=(aj.1 hy).1;have hen:=MO y;have hah:Hs.lN (bK l).cs pre'.length pre.length=(match y.e with|some e=>decide (e<x.b)|none=>false):=by simp only[Hs.lN,hx,hy]<;>cases y.e<;>rfl
    have hat:rd'[pre.length]?=some (bitsOf (fun k=>Hs.lN (bK l).cs k pre.length) pre'.length):=by rw[hrd',HD hpl,aR (ig _),aZ rfl]
    have hlr:((pre.length:Int)<(((bK l).cs.length-0:Nat):Int))=True:=cJ;have hsl:=Xk (k:=pre'.length) aJ;simp only[dN] at hsl;have hor:=SV (xZ (fun k=>Hs.lN (bK l).cs k pre.length) (n:=pre'.length) aJ) (n:=2 ^ pre'.length) (lB aJ aJ)
    cases hye:y.e with
    |none =>
     rw[hye] at hen hah;have i1:=hi' rd' (by rw[hrd',JS hah])
     simp only[QR,hlt',hy,hw',hen,cY,jX,kQ,BN,vg,Bh,EW,seval];exact i1
    |some e2 =>
     have hce:rD y=(e2:Int):=by unfold rD; rw[hye]
     rw[hye] at hen hah;cases hd:decide (e2<x.b)
     ·have i1:=hi' rd' (by rw[hrd',JS (hah.trans hd)])
      have hd2:decide ((e2:Int)<(x.b:Int))=false:=by simp at hd ⊢; omega
      simp only[QR,hlt',hy,hw',hce,hd2,jX,kQ,BN,zl,vg,Bh,EW,seval];exact i1
     ·have i1:=hi' (rd'.set pre.length (bitsOf (fun k=>Hs.lN (bK l).cs k pre.length) pre'.length ||| 2 ^ pre'.length)) (by rw[hrd',abn (hah.trans hd)])
      have hd2:decide ((e2:Int)<(x.b:Int))=true:=by simp at hd ⊢; omega
      simp only[gh] at i1;have hsr:∀v,iR (List.map xO rd') pre.length v=(List.map xO rd').set pre.length v:=fun v=>fe _ _ _
      simp only[QR,hlt',hy,hw',hce,hd2,hlr,hat,hsl,hor,hsr,jX,kQ,BN,zl,vg,Bh,EW,seval];exact i1
 ·have hpl:=(aj.1 hx).1;have hEl:E<2 ^ 64:=by rw[hE]; exact xZ _ aJ
  have hsl:=Xk (k:=pre.length) aJ;simp only[dN] at hsl;have hor:=SV hEl (n:=2 ^ pre.length) (lB aJ aJ);have hen:=MO x;have hib:Hj (bK l).cs pre.length=x.e.isSome:=by simp only[Hj,hx]
  cases hs:x.e.isSome
  ·have i1:=hi E (by rw[hE,bitsOf,hib,hs]; simp)
   simp only[QR,cJ,hx,hw,hen,hs,jX,kQ,BN,vg,Bh,EW,seval];exact i1
  ·have i1:=hi (E ||| 2 ^ pre.length) (by rw[hE,bitsOf,hib,hs]; rfl)
   simp only[QR,cJ,hx,hw,hen,hs,hsl,hor,jX,kQ,BN,vg,Bh,EW,seval];exact i1
def QJ{n K:Nat}{f:aa}{l:List mi}(h:wB n K f l)(M:aC):aU (aq (rp n)) 15 [.agg (cf f),qJ l] M=some (.tuple [gG (((zm n f l).getD []).map fun i=>lq (sW (bK l).cs i)),.bool (zm n f l).isSome],M) :=
 cO (c15 h) M
def c18{n K:Nat}{f:aa}{l:List mi}(h:wB n K f l):aq (rp n) 18 [.agg (cf f),qJ l] []=some (.bool (zm n f l).isSome,[]):=by
 have q:=fun M=>QJ h M
 refine aB ?_;simp only[alo,E18,kI,wR,vQ,xl,zW,aI,q,EW,seval]
 done
def k18{n K:Nat}{f:aa}{l:List mi}(h:wB n K f l)(M:aC):aU (aq (rp n)) 18 [.agg (cf f),qJ l] M=some (.bool (zm n f l).isSome,M) :=
 cO (c18 h) M
end
def SG(cs:List vl):Hs.Good cs []:=⟨ly,fun k hk=>by cases hk⟩
def Gn{n:Nat}{f:aa}{l:List mi}(hn:(bK l).cs.length+1<=n):match zm n f l with
  |some ord=>Hs.oE oU (bK l).cs f [] ord
  |none=>¬ ∃ord,Hs.oE oU (bK l).cs f [] ord:=by
 have:=(Hs.Kf (step:=oU) (key:=ji) (fun a b h=>V5 h) (cs:=(bK l).cs) n f [] [] (SG _) gm (fun p hp=>by cases hp)).2
 exact this
end Go.Proofs.YteoamaffclmdbaaGreatDoor
namespace Go.Abs
open Go
def wm(M X:aC)(k:Nat):nth (M++X) (M.length+k)=nth X k:=by rw[fc,fc,bj (kl _ _)]; simp
def vI(M X:aC):nth (M++X) M.length=nth X 0:=wm M X 0
def wu(M X:aC)(k:Nat)(c:cL):iR (M++X) (M.length+k) c=M++iR X k c:=by
 rw[fe,fe,List.set_append_right _ _ (kl _ _)]; simp
def vP(M X:aC)(c:cL):iR (M++X) M.length c=M++iR X 0 c:=wu M X 0 c
end Go.Abs
namespace Go.Proofs.YteoamaffclmdbaaGreatDoor
open Go Go.Abs
def uN(a:tU):(Lg a).cells=cE a:=rfl
structure RS where
 f:aa
 out:List mi
 st:List Nat
 ops:List jD
 j4:List tU
 calls:Nat
def px(t:wT):Nat:=t.bE.toNat % 3
def Wj(t:wT):jD:={ t.op with bE:=(px t:Nat) }
def Ay(dI:Nat)(s:RS)(t:wT):RS :=
 match (s.st[px t]?).getD 3 with
 |0=>if s.calls=dI then s else { s with out:=s.out++[AP (px t) t.op],st:=s.st.set (px t) 1,ops:=s.ops.set (px t) (Wj t),calls:=s.calls+1 }
 |1=>{ s with f:=(oU s.f ((s.ops[px t]?).getD Ki)).1,j4:=s.j4.set (px t) (oU s.f ((s.ops[px t]?).getD Ki)).2,st:=s.st.set (px t) 2 }
 |2=>{ s with out:=s.out++[CM (px t) ((s.j4[px t]?).getD CP)],st:=s.st.set (px t) 0 }
 |_=>s
def NW(f:aa):RS:=⟨f,[],[0,0,0],[Ki,Ki,Ki],[CP,CP,CP],0⟩
structure RI(K:Nat)(dI i:Nat)(s:RS):Prop where
 fb:FB (K+200*i) s.f
 out:s.out.length<=i
 st:s.st.length=3
 lt:∀(k v:Nat),s.st[k]?=some v->v<3
 ops:s.ops.length=3
 ok:∀o,o∈s.ops->rY o
 j4:s.j4.length=3
 calls:s.calls<=i
def zh(M0:aC)(s:RS)(ov:Nat)(X:aC):aC :=
 M0++(.cells (cf s.f) :: .cells rU :: .arr 17 ov (s.out.map wh) :: .arr 1 0 (s.st.map lq) :: .arr 8 0 (s.ops.map XT) :: .arr 7 0 (s.j4.map Lg)::X)
def DD(M0:aC)(m:List wT)(dI:Nat)(s:RS)(ov i:Nat):Env:=[(1,B4 m),(2,lq dI),(3,.ptr M0.length 0),(7,.ptr (M0.length+1) 0),(8,.cD (M0.length+2) ov 17 0 s.out.length),(9,.cD (M0.length+3) 0 1 0 3),(10,.cD (M0.length+4) 0 8 0 3),(11,.cD (M0.length+5) 0 7 0 3),(12,lq s.calls),(13,lq i)]
def QM:List Nat:=[1,2,3,7,8,9,10,11,12,13]
def Bk(M0:aC):Prop:=∀B M,M0.length<=B->M0.map (cL.back B M)=M0
def OI{M0:aC}(h:Bk M0)(s:RS)(ov:Nat)(X:aC):iV (M0.length+6) (zh M0 s ov X)=zh M0 s ov []:=by
 unfold iV;generalize hM:zh M0 s ov X=M
 have e:M.take (M0.length+6)=zh M0 s ov []:=by
  rw[<-hM];unfold zh;rw[List.take_append,bB aJ,show M0.length+6-M0.length=6 by omega]
  rfl
 rw[e];unfold zh;simp only[aW,h (M0.length+6) M aJ,aH,aQ,cL.back,cf,rU,ag.jG,ag.jA,ba,uc,sd,kh,fI,cR]
noncomputable def Xw(n B:Nat)(k:List K)(bp:Env)(M:aC):Option (ag×aC):=eX (aq (rp n)) [.tmp 6,.dK 7 10] B k (sub b14 63) bp M
noncomputable def vD(n B:Nat)(M0:aC)(m:List wT)(dI:Nat)(s:RS)(ov i:Nat):Option (ag×aC):=eX (aq (rp n)) [.tmp 6,.dK 7 10] B [.block 0,.seq (sub b14 64)] (.loop QM (sub b14 17)) (DD M0 m dI s ov i) (zh M0 s ov [])
section
attribute [local irreducible] eX fJ lu gK eb kr aq aU cq bI
def Ax{n B:Nat}{k:List K}{bp:Env}{M:aC}:eX (aq (rp n)) [.tmp 6,.dK 7 10] B k (sub b14 63) bp M=Xw n B k bp M:=rfl
def Mf{n B:Nat}{M0:aC}(h:Bk M0){m:List wT}{dI:Nat}{s:RS}{ov i:Nat}(hi:i<1000)(X:aC){bp:Env}(he:jq bp QM=DD M0 m dI s ov i) :
  Xw n B [.loop QM (M0.length+6) (sub b14 17),.block 0,.seq (sub b14 64)] bp (zh M0 s ov X)=vD n B M0 m dI s ov (i+1):=by
 have hb:=OI h s ov X;simp only[jq,QM,DD,aH,aQ,mD,jl,true_and,pP] at he;obtain⟨g1,g2,g3,g7,g8,g9,g10,g11,g12,g13⟩:=he;unfold Xw vD DD QM;generalize zh M0 s ov X=M at hb;have e0:(M0.length<M0.length+6)=True:=su;have e1:∀j,j<6->(M0.length+j<M0.length+6)=True:=fun j hj=>by simp only[fH,jb]; omega
 have e11:=e1 1 aJ;have e12:=e1 2 aJ;have e13:=e1 3 aJ;have e14:=e1 4 aJ;have e15:=e1 5 aJ;have e3:IntKind.i64.wrap ((i:Int)+1)=((i+1:Nat):Int):=by rw[gA aJ aJ]; rfl
 simp only[E14,↓hb,g1,g2,g3,g7,g8,g9,g10,g11,g12,g13,e0,e11,e12,e13,e14,e15,e3,EW,seval]
def Xf{n K:Nat}{M0:aC}(h:Bk M0){m:List wT}{dI:Nat}{s:RS}{ov i:Nat}{t:wT}(hI:RI K dI i s)(ht:m[i]?=some t)(hto:rY t.op)(hm:m.length<=100)(hK:K+200*(i+1)<=89000) :
  ∃ov',∀B,vD n B M0 m dI s ov i=vD n B M0 m dI (Ay dI s t) ov' (i+1):=by
 have hil:=(aj.1 ht).1;have cJ:((i:Int)<(m.length:Int))=True:=su;have hc3:px t<3:=mj _ aJ;have hw8:IntKind.i64.wrap (t.bE.toNat:Int)=(t.bE.toNat:Int):=by have:=t.bE.toNat_lt; rw[gA aJ aJ]
 have hrem:((t.bE.toNat:Nat):Int).tmod 3=((px t:Nat):Int):=by unfold px; rfl
 have hlt3:(((px t:Nat):Int)<3)=True:=su;obtain⟨v,hv⟩:∃v,s.st[px t]?=some v:=⟨_,ai (by rw[hI.st]; exact hc3)⟩
 obtain⟨o,ho⟩:∃o,s.ops[px t]?=some o:=⟨_,ai (by rw[hI.ops]; exact hc3)⟩
 obtain⟨a,ha⟩:∃a,s.j4[px t]?=some a:=⟨_,ai (by rw[hI.j4]; exact hc3)⟩
 have hv3:=hI.lt _ _ hv;have hoo:=hI.ok o (aE ho);have hcal:=hI.calls;have hout:=hI.out;unfold Ay;rw[hv,ho,ha];simp only[bz];have fin:=fun(s':RS) (ov' B:Nat)=>fun X bp (he:jq bp QM=DD M0 m dI s' ov' i)=>Mf (n:=n) (B:=B) h (s:=s') aJ X he
 match v,hv3 with
 |0,_ =>
  by_cases hcm:s.calls=dI
  ·rw[aZ hcm];refine⟨ov,fun B=>?_⟩
   have fin:=fin s ov B;have hcq:((s.calls:Int)==(dI:Int))=true:=gm;unfold vD at fin ⊢;rw[bG];simp only[DD,QM,zh] at fin ⊢;simp only[E14,↓Ax,cJ,hcq,ht,hw8,hrem,hlt3,hv,ho,ha,wm,vI,wu,vP,cd,aG,aP,uQ,pZ,uN,cE,yz,EW,seval];exact fin [] _ rfl
  ·rw[aR hcm];refine⟨ov+1,fun B=>?_⟩
   have fin:=fin { s with out:=s.out++[AP (px t) t.op],st:=s.st.set (px t) 1,ops:=s.ops.set (px t) (Wj t),calls:=s.calls+1 } (ov+1) B
   have hcq:((s.calls:Int)==(dI:Int))=false:=gm;have rm:ct (s.out.length+1) 200=True:=qM;have hwc:IntKind.i64.wrap ((s.calls:Int)+1)=((s.calls+1:Nat):Int):=by rw[gA aJ aJ]; rfl
   have hs1:iR (s.st.map lq) (px t) (putCells (lq 0) 0 [ag.int IntKind.i64 ((IntKind.i64.wrap 1).tmod 3)])=(s.st.map lq).set (px t) (lq 1):=by
    have e:(IntKind.i64.wrap 1).tmod 3=((1:Nat):Int):=ml;rw[fe,e]; rfl
   have hs2:∀x,iR (s.ops.map XT) (px t) x=(s.ops.map XT).set (px t) x:=fun x=>fe _ _ _
   unfold vD at fin ⊢;rw[bG];simp only[DD,QM,zh,aW,aH,aQ,gh,aA,aw,az,aK] at fin ⊢;simp only[E14,↓Ax,cJ,hcq,rm,hwc,hs1,hs2,ra,ht,hw8,hrem,hlt3,hv,ho,ha,wm,vI,wu,vP,cd,aG,aP,uQ,pZ,uN,cE,yz,EW,seval];exact fin [_] _ rfl
 |1,_ =>
  refine⟨ov,fun B=>?_⟩
  have fin:=fin { s with f:=(oU s.f o).1,j4:=s.j4.set (px t) (oU s.f o).2,st:=s.st.set (px t) 2 } ov B
  have qd:=fun M=>lT (n:=n) (k29 s.f o hI.fb.ok hoo M)
  have hs1:iR (s.st.map lq) (px t) (putCells (lq 1) 0 [ag.int IntKind.i64 ((IntKind.i64.wrap 2).tmod 3)])=(s.st.map lq).set (px t) (lq 2):=by
   have e:(IntKind.i64.wrap 2).tmod 3=((2:Nat):Int):=ml;rw[fe,e]; rfl
  have hs2:∀x,iR (s.j4.map Lg) (px t) x=(s.j4.map Lg).set (px t) x:=fun x=>fe _ _ _
  simp only[eT,cE] at qd;unfold vD at fin ⊢;rw[bG];simp only[DD,QM,zh,aW,aH,aQ,gh,aA,aw,az,aK] at fin ⊢;simp only[E14,↓Ax,cJ,qd,hs1,hs2,ht,hw8,hrem,hlt3,hv,ho,ha,wm,vI,wu,vP,kI,wR,CG,vQ,zW,xl,Qa,aI,eT,cd,aG,aP,uQ,pZ,uN,cE,yz,EW,seval];exact fin [_,_] _ rfl
 |2,_ =>
  refine⟨ov+1,fun B=>?_⟩
  have fin:=fin { s with out:=s.out++[CM (px t) a],st:=s.st.set (px t) 0 } (ov+1) B
  have rm:ct (s.out.length+1) 200=True:=qM
  have hs1:iR (s.st.map lq) (px t) (putCells (lq 2) 0 [ag.int IntKind.i64 ((IntKind.i64.wrap 3).tmod 3)])=(s.st.map lq).set (px t) (lq 0):=by
   have e:(IntKind.i64.wrap 3).tmod 3=((0:Nat):Int):=ml;rw[fe,e]; rfl
  unfold vD at fin ⊢;rw[bG];simp only[DD,QM,zh,aW,aH,aQ,gh,aA,aw,az,aK] at fin ⊢;simp only[E14,↓Ax,cJ,rm,hs1,ra,ht,hw8,hrem,hlt3,hv,ho,ha,wm,vI,wu,vP,cd,aG,aP,uQ,pZ,uN,cE,yz,EW,seval];exact fin [] _ rfl
end
end Go.Proofs.YteoamaffclmdbaaGreatDoor
namespace Go.Proofs.YteoamaffclmdbaaGreatDoor
open Go Go.Abs
def vK(l:List mi):Int->Bool:=l.foldl (fun o x c=>if c=x.bE then x.kind==1 else o c) fun _=>false
def qT(l:List mi)(x:mi)(c:Int):vK (l++[x]) c=if c=x.bE then x.kind==1 else vK l c:=by
 simp[vK]
inductive WF:List mi->Prop
 |nil:WF []
 |snoc {l:List mi} {x:mi}:WF l->0<=x.bE->(x.kind=1\/x.kind=2)->vK l x.bE = !(x.kind==1)->WF (l++[x])
def RN(c:Int):∀(r:List mi)(k:Nat),ud c r k = -1\/0<=ud c r k
 | [],_ => .inl rfl
 |x::r,k=>by
  rw[ud];split
  ·simp
  ·exact RN c r _
def za(c:Int)(y:mi):∀(r:List mi)(k:Nat),ud c (r++[y]) k=if ud c r k = -1 then (if y.bE==c then ((k+r.length:Nat):Int) else -1) else ud c r k
 | [],k=>by
  rfl
 |x::r,k=>by
  rw[aG,ud,ud];split
  ·rw[aR dx]
  ·rw[za c y r _,aw,show k+1+r.length=k+(r.length+1) by omega]
def AX{l:List mi}{x:mi}{k:Nat}(h:k<=l.length):(l++[x]).drop k=l.drop k++[x]:=jK
structure Ends(l:List mi):Prop where
 en:∀(i:Nat)(c:vl),(bK l).cs[i]?=some c->∃x,l[c.b]?=some x/\ud x.bE (l.drop (c.b+1)) (c.b+1)=rD c/\(c.e=none->(bK l).last x.bE.toNat=i/\vK l x.bE=true)
 op:∀cl:Int,0<=cl->vK l cl=true->∃c,(bK l).cs[(bK l).last cl.toNat]?=some c/\c.e=none/\∃x,l[c.b]?=some x/\x.bE=cl
 cl:∀x,x∈l->0<=x.bE
theorem MP{l:List mi}(h:WF l):Ends l:=by
 induction h with
 |nil=>exact⟨fun i c h=>by simp[bK,Hs.fP] at h,fun cl _ h=>by simp[vK] at h,fun x h=>by cases h⟩
 | @snoc l x hw hc hk ho ih =>
  have up:∀(i:Nat)(y:mi),l[i]?=some y->(l++[x])[i]?=some y:=fun i y h=>by rw[aN (aj.1 h).1]; exact h
  have last:(l++[x])[l.length]?=some x:=dx
  have hcl:∀y,y∈l++[x]->0<=y.bE:=fun y hy=>by
   rcases bq.1 hy with hy|hy
   ·exact ih.cl y hy
   ·simp at hy; subst hy; exact hc
  cases hb:x.kind==1
  ·-- an end
   have hop:=ho;rw[hb] at hop;obtain⟨c0,h1,h2,x0,h3,h4⟩:=ih.op x.bE hc hop
   have hcs:(bK (l++[x])).cs=(bK l).cs.modify ((bK l).last x.bE.toNat) fun c=>{ c with e:=some l.length,j4:=x.j4 }:=by
    rw[lk]; unfold Hs.hU wy; simp only[hb,af,aD,sD]
   have hla:(bK (l++[x])).last=(bK l).last:=by
    rw[lk]; unfold Hs.hU wy; simp only[hb,af,aD]
   refine⟨fun i c hi=>?_,fun cl hcl0 hopen=>?_,hcl⟩
   ·rw[hcs,gw] at hi;cases hci:(bK l).cs[i]? with
    |none=>rw[hci] at hi; cases hi
    |some d =>
     rw[hci] at hi;simp only[Option.map_eq_map,dZ] at hi;obtain⟨y,g1,g2,g3⟩:=ih.en i d hci;have hbl:=(aj.1 g1).1;have hes:=za y.bE x (l.drop (d.b+1)) (d.b+1);rw[g2,fS,show d.b+1+(l.length-(d.b+1))=l.length by omega] at hes
     split at hi
     ·rename_i hii;injection hi with hi
      have hd:d=c0:=by rw[hii,hci] at h1; injection h1
      subst hi;subst hd;rw[g1] at h3;injection h3 with h3;subst h3;refine⟨y,up _ _ g1,?_,fun hn=>by cases hn⟩
      have e1:rD d = -1:=by unfold rD; rw[h2]
      show ud y.bE ((l++[x]).drop (d.b+1)) (d.b+1)=(l.length:Int)
      rw[AX aJ,hes,aZ e1,aZ (by rw[h4]; simp)]
     ·rename_i hii;injection hi with hi
      subst hi;refine⟨y,up _ _ g1,?_,fun hn=>?_⟩
      ·rw[AX aJ,hes]
       grind [rD]
      ·obtain⟨g4,g5⟩:=g3 hn;rw[hla,qT];refine⟨g4,?_⟩;rw[aR]
       ·exact g5
       ·intro hxy;exact hii (by rw[<-hxy]; exact g4)
   ·rw[qT] at hopen;split at hopen
    ·rw[hb] at hopen; cases hopen
    ·rename_i hne;obtain⟨c,k1,k2,z,k3,k4⟩:=ih.op cl hcl0 hopen;refine⟨c,?_,k2,z,up _ _ k3,k4⟩;rw[hla,hcs,gw,k1]
     grind
  ·-- a beginning
   have hcs:(bK (l++[x])).cs=(bK l).cs++[⟨l.length,none,x.op,x.j4⟩]:=by
    rw[lk]; unfold Hs.hU wy; simp only[hb,aI,sD]
   have hla:∀k,(bK (l++[x])).last k=if k=x.bE.toNat then (bK l).cs.length else (bK l).last k:=fun k=>by
    rw[lk]; unfold Hs.hU wy; simp only[hb,aI]
   have hnop:=ho;rw[hb] at hnop;refine⟨fun i c hi=>?_,fun cl hcl0 hopen=>?_,hcl⟩
   ·rw[hcs] at hi;rcases bC i (bK l).cs.length with hil|hil
    ·rw[aN hil] at hi;obtain⟨y,g1,g2,g3⟩:=ih.en i c hi;have hbl:=(aj.1 g1).1;have hes:=za y.bE x (l.drop (c.b+1)) (c.b+1);rw[g2] at hes;refine⟨y,up _ _ g1,?_,fun hn=>?_⟩
     ·rw[AX aJ,hes]
      grind [rD]
     ·obtain⟨g4,g5⟩:=g3 hn;have hne:¬y.bE=x.bE:=fun e=>by rw[<-e,g5] at hnop; cases hnop
      have hy0:=ih.cl y (aE g1);rw[hla,qT,aR hne,aR aJ];exact⟨g4,g5⟩
    ·rw[bj hil] at hi
     have hi0:i-(bK l).cs.length=0:=by
      have:=(aj.1 hi).1;simpa using this
     rw[hi0] at hi;simp at hi;subst hi;refine⟨x,last,?_,fun _=>⟨?_,?_⟩⟩
     ·rw[iw dx]; rfl
     ·rw[hla,aZ rfl]; omega
     ·rw[qT,aZ rfl,hb]
   ·rw[qT] at hopen;split at hopen
    ·rename_i he;subst he;refine⟨⟨l.length,none,x.op,x.j4⟩,?_,rfl,x,last,rfl⟩;rw[hla,aZ rfl,hcs]; simp
    ·rename_i hne;obtain⟨c,k1,k2,z,k3,k4⟩:=ih.op cl hcl0 hopen;refine⟨c,?_,k2,z,up _ _ k3,k4⟩;rw[hla,aR aJ,hcs,aN (aj.1 k1).1];exact k1
theorem G2(l:List mi):(∀(i j:Nat)(c d:vl),i<j->(bK l).cs[i]?=some c->(bK l).cs[j]?=some d->c.b<d.b)/\(∀c,c∈(bK l).cs->c.b<l.length)/\(∀(i:Nat)(x:mi),l[i]?=some x->x.kind=1->∃c,c∈(bK l).cs/\c.b=i):=by
 refine J5 (P:=fun l=>(∀(i j:Nat)(c d:vl),i<j->(bK l).cs[i]?=some c->(bK l).cs[j]?=some d->c.b<d.b)/\(∀c,c∈(bK l).cs->c.b<l.length)/\(∀(i:Nat)(x:mi),l[i]?=some x->x.kind=1->∃c,c∈(bK l).cs/\c.b=i)) ?_ ?_ l
 ·grind [bK,Hs.fP]
 ·intro l x ⟨h1,h2,h3⟩
  have hold:∀(i:Nat)(y:mi),(l++[x])[i]?=some y->(l[i]?=some y/\i<l.length)\/(i=l.length/\y=x):=fun i y hy=>by
   grind
  cases hb:x.kind==1
  ·have hcs:(bK (l++[x])).cs=(bK l).cs.modify ((bK l).last x.bE.toNat) fun c=>{ c with e:=some l.length,j4:=x.j4 }:=by
    rw[lk]; unfold Hs.hU wy; simp only[hb,af,aD,sD]
   have hbk:∀(i:Nat)(c:vl),(bK (l++[x])).cs[i]?=some c->∃d,(bK l).cs[i]?=some d/\d.b=c.b:=fun i c hi=>by
    rw[hcs,gw] at hi;cases hci:(bK l).cs[i]? with
    |none=>rw[hci] at hi; cases hi
    |some d =>
     rw[hci] at hi;simp only[Option.map_eq_map,dZ] at hi;refine⟨d,rfl,?_⟩;split at hi<;>(cases hi; rfl)
   refine⟨fun i j c d hij hi hj=>?_,fun c hc=>?_,fun i y hy hk=>?_⟩
   ·obtain⟨c',a1,a2⟩:=hbk i c hi;obtain⟨d',b1,b2⟩:=hbk j d hj;have:=h1 i j c' d' hij a1 b1;omega
   ·obtain⟨i,hi⟩:=kV.1 hc;obtain⟨c',a1,a2⟩:=hbk i c hi;have:=h2 c' (aE a1);simp; omega
   ·rcases hold i y hy with ⟨hy,_⟩|⟨_,rfl⟩
    ·obtain⟨c,hc,hcb⟩:=h3 i y hy hk;obtain⟨p,hp⟩:=kV.1 hc
     have hp2:(bK (l++[x])).cs[p]?=some (if (bK l).last x.bE.toNat=p then { c with e:=some l.length,j4:=x.j4 } else c):=by
      rw[hcs,gw,hp]; rfl
     refine⟨_,aE hp2,?_⟩;split<;>exact hcb
    ·rw[hk] at hb; cases hb
  ·have hcs:(bK (l++[x])).cs=(bK l).cs++[⟨l.length,none,x.op,x.j4⟩]:=by
    rw[lk]; unfold Hs.hU wy; simp only[hb,aI,sD]
   refine⟨fun i j c d hij hi hj=>?_,fun c hc=>?_,fun i y hy hk=>?_⟩
   ·rw[hcs] at hi hj;have hjl:=(aj.1 hj).1;simp at hjl;have hil:i<(bK l).cs.length:=aJ;rw[aN hil] at hi;rcases bC j (bK l).cs.length with hj2|hj2
    ·rw[aN hj2] at hj;exact h1 i j c d hij hi hj
    ·rw[bj hj2,show j-(bK l).cs.length=0 by omega] at hj
     simp at hj;subst hj;exact h2 c (aE hi)
   ·rw[hcs] at hc
    grind
   ·rw[hcs];rcases hold i y hy with ⟨hy,_⟩|⟨rfl,rfl⟩
    ·grind
    ·exact⟨⟨l.length,none,y.op,y.j4⟩,dx,rfl⟩
def Gj{o:jD}(h:rY o)(c:Int):rY { o with bE:=c }:=⟨h.dL,h.vi,h.data⟩
def RI.zero{K:Nat}{f:aa}(h:FB K f)(dI:Nat):RI K dI 0 (NW f):=by
 refine⟨h.mono aJ,au _,rfl,fun k v hk=>?_,rfl,fun o ho=>?_,rfl,au _⟩
 ·have:v∈[0,0,0]:=aE hk;simp at this; omega
 ·simp[NW] at ho;subst ho;exact⟨by simp[Ki],by simp[Ki],by simp[Ki]⟩
def EP(dI:Nat)(s:RS)(t:wT){v:Nat}(hv:s.st[px t]?=some v)(hv3:v<3){o:jD}(ho:s.ops[px t]?=some o){a:tU}(ha:s.j4[px t]?=some a) :
  (v=0/\s.calls=dI/\Ay dI s t=s)\/(v=0/\s.calls≠dI/\Ay dI s t={ s with out:=s.out++[AP (px t) t.op],st:=s.st.set (px t) 1,ops:=s.ops.set (px t) (Wj t),calls:=s.calls+1 }) \/
  (v=1/\Ay dI s t={ s with f:=(oU s.f o).1,j4:=s.j4.set (px t) (oU s.f o).2,st:=s.st.set (px t) 2 })\/(v=2/\Ay dI s t={ s with out:=s.out++[CM (px t) a],st:=s.st.set (px t) 0 }):=by
 unfold Ay;rw[hv,ho,ha]
 match v,hv3 with
 |0,_ =>
  by_cases h:s.calls=dI
  ·exact .inl ⟨rfl,h,by simp[h]⟩
  ·exact .inr (.inl ⟨rfl,h,by simp[h]⟩)
 |1,_=>exact .inr (.inr (.inl ⟨rfl,rfl⟩))
 |2,_=>exact .inr (.inr (.inr ⟨rfl,rfl⟩))
def Ro(t:wT):px t<3:=mj _ aJ
def RI.amc{K dI i:Nat}{s:RS}(h:RI K dI i s)(t:wT):∃v o a,s.st[px t]?=some v/\v<3/\s.ops[px t]?=some o/\rY o/\s.j4[px t]?=some a:=by
 have hc:=Ro t;have h1:=ai (l:=s.st) (i:=px t) (by rw[h.st]; exact hc)
 have h2:=ai (l:=s.ops) (i:=px t) (by rw[h.ops]; exact hc)
 have h3:=ai (l:=s.j4) (i:=px t) (by rw[h.j4]; exact hc)
 exact⟨_,_,_,h1,h.lt _ _ h1,h2,h.ok _ (aE h2),h3⟩
def Ml{l:List Nat}(h:∀(k v:Nat),l[k]?=some v->v<3){c x:Nat}(hx:x<3)(k v:Nat)(hk:(l.set c x)[k]?=some v):v<3:=by
 rw[gQ] at hk;split at hk
 ·split at hk
  ·injection hk with hk; omega
  ·cases hk
 ·exact h k v hk
def RI.step{K dI i:Nat}{s:RS}(h:RI K dI i s){t:wT}(ht:rY t.op)(hK:K+200*(i+1)<=89000):RI K dI (i+1) (Ay dI s t):=by
 obtain⟨v,o,a,h1,h2,h3,h4,h5⟩:=h.amc t;have hfb:FB (K+200*(i+1)) s.f:=h.fb.mono aJ;rcases EP dI s t h1 h2 h3 h5 with ⟨_,_,e⟩|⟨_,_,e⟩|⟨_,e⟩|⟨_,e⟩<;>rw[e]
 ·exact⟨hfb,by have:=h.out; omega,h.st,h.lt,h.ops,h.ok,h.j4,by have:=h.calls; omega⟩
 ·refine⟨hfb,by have:=h.out; simp; omega,by simp[h.st],Ml h.lt aJ,by simp[h.ops],fun x hx=>?_,h.j4,by have:=h.calls; simp only; omega⟩
  rcases jE hx with hx|hx
  ·exact h.ok x hx
  ·subst hx; exact Gj ht _
 ·refine⟨?_,by have:=h.out; simp only; omega,by simp[h.st],Ml h.lt aJ,h.ops,h.ok,by simp[h.j4],by have:=h.calls; simp only; omega⟩
  have:=La h.fb aJ o;exact this.mono aJ
 ·refine⟨hfb,by have:=h.out; simp; omega,by simp[h.st],Ml h.lt aJ,h.ops,h.ok,h.j4,by have:=h.calls; simp only; omega⟩
def EC(s:RS):Hs.Rn aa jD tU:=⟨s.out.map wy,s.f,fun c=>(s.st[c]?).getD 0,fun c=>(s.ops[c]?).getD Ki,fun c=>(s.j4[c]?).getD CP⟩
structure RW(f:aa)(dI:Nat)(s:RS):Prop where
 ok:Hs.tW oU f (EC s)
 wf:WF s.out
 op:∀c:Nat,vK s.out c = !((s.st[c]?).getD 0==0)
 ev:∀x,x∈s.out->0<=x.bE/\x.bE<3/\rY x.op/\(x.kind=1->x.op.bE=x.bE)/\(x.kind=1\/x.kind=2)
 calls:(bK s.out).cs.length=s.calls
 dI:s.calls<=dI
 an:∀x,x∈s.out->x.j4.names.length<=100000/\x.j4.data.length<=100000
 an2:∀a,a∈s.j4->a.names.length<=100000/\a.data.length<=100000
def RW.zero(f:aa)(dI:Nat):RW f dI (NW f):=by
 refine⟨?_,.nil,fun c=>?_,fun x h=>by simp[NW] at h,rfl,cS _,fun x h=>by simp[NW] at h,fun a h=>?_⟩
 ·have:EC (NW f)=⟨[],f,fun _=>0,(EC (NW f)).op,(EC (NW f)).j4⟩:=by
   unfold EC NW;congr 1;funext c
   match c with
   |0|1|2=>rfl
   |n+3=>rfl
  rw[this];exact Hs.tW.new f _ _
 ·match c with
  |0|1|2=>rfl
  |n+3=>rfl
 ·simp[NW] at h;subst h;simp[CP]
def vC{α:Type}(l:List α)(c:Nat)(x d:α)(hc:c<l.length):(fun k=>((l.set c x)[k]?).getD d)=fun k=>if k=c then x else (l[k]?).getD d:=by
 funext k;rw[gQ]
 by_cases h:c=k
 ·subst h; rw[aZ rfl,aZ hc,aZ rfl]; rfl
 ·rw[aR h,aR (fun e=>h e.symm)]
def RW.step{f:aa}{K dI i:Nat}{s:RS}(hI:RI K dI i s)(h:RW f dI s){t:wT}(ht:rY t.op):RW f dI (Ay dI s t):=by
 obtain⟨v,o,a,h1,h2,h3,h4,h5⟩:=hI.amc t;have hc:=Ro t;have hst:px t<s.st.length:=by rw[hI.st]; exact hc
 have hos:px t<s.ops.length:=by rw[hI.ops]; exact hc
 have has:px t<s.j4.length:=by rw[hI.j4]; exact hc
 have e1:(EC s).st (px t)=v:=by show(s.st[px t]?).getD 0=v; rw[h1]; rfl
 have e2:(EC s).op (px t)=o:=by show(s.ops[px t]?).getD Ki=o; rw[h3]; rfl
 have e3:(EC s).j4 (px t)=a:=by show(s.j4[px t]?).getD CP=a; rw[h5]; rfl
 have hop:=h.op (px t);rw[h1] at hop;simp only[bz] at hop;have hg:=fun x=>congrFun (vC s.st (px t) x 0 hst)
 rcases EP dI s t h1 h2 h3 h5 with ⟨_,_,e⟩|⟨hv,hm,e⟩|⟨hv,e⟩|⟨hv,e⟩<;>rw[e]
 ·exact h
 ·subst hv;refine⟨?_,?_,fun c=>?_,fun x hx=>?_,?_,?_,fun x hx=>?_,h.an2⟩
  ·have:=h.ok.begin e1 (Wj t) CP;unfold EC at this ⊢;rw[aW];simp only[vC s.st (px t) 1 0 hst,vC s.ops (px t) (Wj t) Ki hos];exact this
  ·exact .snoc h.wf (kD _) (.inl rfl) (by rw[hop]; rfl)
  ·rw[qT];simp only[hg 1 c]
   by_cases hcc:c=px t
   ·subst hcc; simp
   ·rw[aR aJ,aR hcc]; exact h.op c
  ·rcases bq.1 hx with hx|hx
   ·exact h.ev x hx
   ·simp at hx; subst hx;exact⟨kD _,by simp only; omega,Gj ht _,fun _=>rfl,.inl rfl⟩
  ·rw[lk];unfold Hs.hU wy;simp only[show((1:Int)==1)=true from rfl,aI,aA,aw,az,h.calls]
  ·have:=h.dI;simp only;omega
  ·rcases bq.1 hx with hx|hx
   ·exact h.an x hx
   ·simp at hx; subst hx; simp[CP]
 ·subst hv;refine⟨?_,h.wf,fun c=>?_,h.ev,h.calls,h.dI,h.an,fun x hx=>?_⟩
  ·have:=h.ok.afd e1;rw[e2] at this;unfold EC at this ⊢;simp only[vC s.st (px t) 2 0 hst,vC s.j4 (px t) (oU s.f o).2 CP has];exact this
  ·simp only[hg 2 c]
   by_cases hcc:c=px t
   ·subst hcc; rw[hop,aZ rfl]; rfl
   ·rw[aR hcc]; exact h.op c
  ·rcases jE hx with hx|hx
   ·exact h.an2 x hx
   ·subst hx;have:=CS hI.fb.ok o;exact⟨by have:=this.names; omega,by have:=this.data; omega⟩
 ·subst hv;refine⟨?_,?_,fun c=>?_,fun x hx=>?_,?_,h.dI,fun x hx=>?_,h.an2⟩
  ·have:=h.ok.ends e1 Ki;rw[e3] at this;unfold EC at this ⊢;rw[aW];simp only[vC s.st (px t) 0 0 hst];exact this
  ·exact .snoc h.wf (kD _) (.inr rfl) (by rw[hop]; rfl)
  ·rw[qT];simp only[hg 0 c]
   by_cases hcc:c=px t
   ·subst hcc; simp
   ·rw[aR aJ,aR hcc]; exact h.op c
  ·rcases bq.1 hx with hx|hx
   ·exact h.ev x hx
   ·simp at hx; subst hx;exact⟨kD _,by simp only; omega,⟨by simp[Ki],by simp[Ki],by simp[Ki]⟩,fun hk=>by simp at hk,.inr rfl⟩
  ·rw[lk];unfold Hs.hU wy;simp only[show((2:Int)==1)=false from rfl,af,aD,List.length_modify,h.calls]
  ·rcases bq.1 hx with hx|hx
   ·exact h.an x hx
   ·simp at hx; subst hx;exact h.an2 a (aE h5)
def runN(f:aa)(m:List wT)(dI:Nat):RS:=m.foldl (Ay dI) (NW f)
def J0{f:aa}{K dI:Nat}(hf:FB K f):∀(m:List wT),(∀t,t∈m->rY t.op)->K+200*m.length<=89000->RI K dI m.length (runN f m dI)/\RW f dI (runN f m dI):=by
 refine fun m=>J5 (P:=fun m=>(∀t,t∈m->rY t.op)->K+200*m.length<=89000->RI K dI m.length (runN f m dI)/\RW f dI (runN f m dI)) ?_ ?_ m
 ·intro _ _; exact⟨RI.zero hf dI,RW.zero f dI⟩
 ·intro l x ih ht hK;rw[aA,aw,az] at hK;obtain⟨h1,h2⟩:=ih (fun t h=>ht t (eK _ h)) aJ
  have hx:=ht x dx;have e:runN f (l++[x]) dI=Ay dI (runN f l dI) x:=by unfold runN; rw[List.foldl_append]; rfl
  rw[e,aA,aw,az];exact⟨h1.step hx aJ,h2.step h1 hx⟩
def apN(B:Nat)(M:aC)(f:aa):List.map (ag.kg B M) (cf f)=cf f:=rfl
def apL(B:Nat)(M:aC)(f:aa):List.map (ag.jG B M) (cf f)=cf f:=rfl
def xn:rU.length=10:=rfl
def CT:List.drop 10 rU=[]:=rfl
section
attribute [local irreducible] eX fJ lu gK eb kr aq aU cq bI
def J1{n K:Nat}{M0:aC}(h:Bk M0){m:List wT}{dI:Nat}(ht:∀t,t∈m->rY t.op)(hm:m.length<=100)(hK:K+200*m.length<=89000):∀(post pre:List wT)(s:RS)(ov:Nat),m=pre++post->RI K dI pre.length s ->
  ∃ov',∀B,vD n B M0 m dI s ov pre.length=vD n B M0 m dI (post.foldl (Ay dI) s) ov' m.length
 | [],pre,s,ov,e,_=>⟨ov,fun B=>by rw[e]; simp⟩
 |t::post,pre,s,ov,e,hI=>by
  have hi:m[pre.length]?=some t:=by rw[e]; simp
  have hl:pre.length+1<=m.length:=by rw[e,aA,aw]; omega
  have hto:=ht t (aE hi);obtain⟨ov1,h1⟩:=Xf (n:=n) (K:=K) h hI hi hto hm aJ (ov:=ov);obtain⟨ov2,h2⟩:=J1 h ht hm hK post (pre++[t]) (Ay dI s t) ov1 (by rw[e]; simp) (by rw[aA]; exact hI.step hto aJ)
  rw[aA] at h2;exact⟨ov2,fun B=>(h1 B).trans (h2 B)⟩
def abq{n K:Nat}{M0:aC}(h:Bk M0){f:aa}(hf:FB K f){m:List wT}(dI:Nat)(ht:∀t,t∈m->rY t.op)(hm:m.length<=100)(hK:K+200*m.length<=89000) :
  ∃ov,eX (aq (rp n)) Lu.results (M0.length+3) [] Lu.body (eH 0 [.agg (cf f),B4 m,lq dI]) M0=some (.tuple [.cD (M0.length+2) ov 17 0 (runN f m dI).out.length,.agg (cf (runN f m dI).f)],M0++[cC (cf (runN f m dI).f),cC (cf (runN f m dI).f),.arr 17 ov ((runN f m dI).out.map wh)]):=by
 obtain⟨ov,hl⟩:=J1 (n:=n) h ht hm hK m [] (NW f) 0 rfl (RI.zero hf dI);refine⟨ov,?_⟩;have hl:=hl (M0.length+3);have rr:∀b,b<=1000->ct 3 b=True:=fun b hb=>sx aJ hb
 have e0:List.foldl (Ay dI) (NW f) m=runN f m dI:=rfl;rw[e0] at hl;generalize runN f m dI=r at hl;have hM:=fun M=>h (M0.length+3) M aJ
 have htk:∀(a b c:cL)(X:aC),List.take (M0.length+3) (M0++(a::b::c::X))=M0++[a,b,c]:=fun a b c X=>by
  rw[List.take_append,bB aJ,show M0.length+3-M0.length=3 by omega]; rfl
 have hlt2:(M0.length+2<M0.length+3)=True:=su
 have hend:vD n (M0.length+3) M0 m dI r ov m.length=some (.tuple [.cD (M0.length+2) ov 17 0 r.out.length,.agg (cf r.f)],M0++[cC (cf r.f),cC (cf r.f),.arr 17 ov (r.out.map wh)]):=by
  unfold vD;rw[bG];simp only[DD,QM,zh];simp only[E14,bl,wm,vI,wu,vP,xn,CT,kI,wR,CG,vQ,zW,xl,dg,hlt2,apN,apL,aW,hM,htk,aI,EW,seval]
 refine ir ?_ (hl.trans hend);unfold vD;simp only[Lu,DD,QM,zh,NW,aH,aQ,az];simp only[E14,wm,vI,wu,vP,rr 8 aJ,rr 64 aJ,rr 56 aJ,rr 48 aJ,rr 72 aJ,rr 80 aJ,rr 88 aJ,rr 96 aJ,cd,aG,aP,vQ,xl,aI,EW,seval];rfl
end
def ah1{n K:Nat}{M0:aC}(h:Bk M0){f:aa}(hf:FB K f){m:List wT}(dI:Nat)(ht:∀t,t∈m->rY t.op)(hm:m.length<=100)(hK:K+200*m.length<=89000) :
  ∃ov,JL (aq (rp n)) Lu 3 [.agg (cf f),B4 m,lq dI] M0=some (.tuple [.cD (M0.length+2) ov 17 0 (runN f m dI).out.length,.agg (cf (runN f m dI).f)],M0++[cC (cf (runN f m dI).f),cC (cf (runN f m dI).f),.arr 17 ov ((runN f m dI).out.map wh)]):=by
 obtain⟨ov,key⟩:=abq (n:=n) h hf dI ht hm hK;exact⟨ov,afB rfl key dx⟩
noncomputable def Kc:zA:=mc (mc (rp 13) 20 (JL (aq (rp 13)) alp 2)) 14 (JL (aq (rp 13)) Lu 3)
def abw:vp Tryz.prog Kc:=p6 (p6 (SD 13).1 fu (fun h=>(FY fu (Xq 13) func20 atO h).2)) fu (fun h=>(FY fu (Xq 13) func14 atK h).2)
def ah3:nM Tryz.prog (aq Kc):=qU fu abw
def lH'{f:Nat}{a:List ag}{M:aC}{x:ag×aC}(h:aq (rp 13) f a M=some x):aq Kc f a M=some x:=rb rfl rfl (rb rfl rfl h)
def lH{f:Nat}{vs:List ag}{M:aC}{x:ag×aC}(h:aU (aq (rp 13)) f vs M=some x):aU (aq Kc) f vs M=some x:=by
 obtain⟨a,B,y,h1,h2⟩:=pQ h;exact h2 _ (lH' h1)
def r14{K:Nat}{M0:aC}(h:Bk M0){f:aa}(hf:FB K f){m:List wT}(dI:Nat)(ht:∀t,t∈m->rY t.op)(hm:m.length<=100)(hK:K+200*m.length<=89000) :
  ∃ov,aq Kc 14 [.agg (cf f),B4 m,lq dI] M0=some (.tuple [.cD (M0.length+2) ov 17 0 (runN f m dI).out.length,.agg (cf (runN f m dI).f)],M0++[cC (cf (runN f m dI).f),cC (cf (runN f m dI).f),.arr 17 ov ((runN f m dI).out.map wh)]):=by
 obtain⟨ov,h⟩:=ah1 (n:=13) h hf dI ht hm hK;exact⟨ov,fg (g:=JL (aq (rp 13)) Lu 3) rfl h⟩
def Ee(l:List mi)(cs:List vl)(done:List Nat):List Bool:=(List.range l.length).map fun k=>done.any fun y=>sW cs y==k
theorem Hr{l:List mi}{cs:List vl}{done:List Nat}{k:Nat}(hk:k<l.length):(Ee l cs done)[k]?=some (done.any fun y=>sW cs y==k):=by
 simp_all [Ee]
theorem V9(l:List mi)(cs:List vl)(done:List Nat):(Ee l cs done).length=l.length:=by simp[Ee]
theorem Wa{l:List mi}{cs:List vl}{done:List Nat}{x:Nat}:(Ee l cs done).set (sW cs x) true=Ee l cs (done++[x]):=by
 refine cp fun j=>?_
 grind [Hr,V9]
def Ig(B:Nat)(M:aC)(f:aa):List.map (ag.jG B M) (cf f)=cf f:=rfl
section
attribute [local irreducible] eX fJ lu gK eb kr aq aU cq bI
theorem c21(a b:tU)(hn:a.names.length<=100000):aq bZ 21 [.agg (cE a),.agg (cE b)] []=some (.bool (decide (a=b)),[]):=by
 rw[abV];refine aB ?_;simp only[alr,QC,cE,EW,seval];have hl:((a.names.length:Int)==(b.names.length:Int))=decide (a.names.length=b.names.length):=by rw[cz]; grind
 have hb:(a.data==b.data)=decide (a.data=b.data):=by rw[cz]; simp
 cases c1:a.err==b.err
 ·simp only[QC,bne,c1,dG,cI,EW,seval]
 cases c2:a.ar==b.ar
 ·simp only[QC,bne,c1,c2,dG,cu,cI,cN,EW,seval]
 cases c3:a.kind==b.kind
 ·simp only[QC,bne,c1,c2,c3,dG,cu,cI,cN,EW,seval]
 cases c4:a.n==b.n
 ·simp only[QC,bne,c1,c2,c3,c4,dG,cu,cI,cN,EW,seval]
 cases c5:a.m==b.m
 ·simp only[QC,bne,c1,c2,c3,c4,c5,dG,cu,cI,cN,EW,seval]
 by_cases c6:a.names.length=b.names.length
 rotate_left
 ·have e:decide (a.names=b.names)=false:=gr fun h=>c6 (by rw[h])
  simp only[QC,bne,c1,c2,c3,c4,c5,hl,gr c6,e,dG,cu,cI,cN,EW,seval]
 cases c7:decide (a.data=b.data)
 ·simp only[QC,bne,c1,c2,c3,c4,c5,hl,il c6,hb,c7,vu,dG,cu,dR,EW,seval]
 simp only[QC,bne,c1,c2,c3,c4,c5,hl,il c6,hb,c7,vu,cu,gb,cN,EW,seval];refine nr (xs:=a.names) aJ (fun i (s:List Bytes)=>s=b.names.drop i) (fun r s=>decide (r=s)) (fun _ i=>[(2,cA 0),(3,cA 1),(5,aF i)]) (fun _=>[cC (cE a),cC (cE b)]) (fun q=>some (ag.bool q,([]:aC))) (fun s hs=>?_) (fun pre x post s e hx cJ hw h0 hm hs hi=>?_) b.names rfl
 ·have es:s=[]:=by rw[hs,c6,nJ]
  subst es;simp[cE,QC,bl,decide_true,EW]
 ·have hpl:pre.length<b.names.length:=by rw[<-c6,e]; simp
  have hy:=ai hpl;rw[cW hpl] at hs;have i1:=hi _ rfl;generalize b.names[pre.length]=y at hy hs;generalize b.names.drop (pre.length+1)=q at hs i1;subst hs;simp only[cE] at i1 ⊢;cases hxy:x==y
  ·have e2:decide (x::post=y::q)=false:=gr fun h=>jK
   rw[e2];simp only[QC,cJ,hx,hy,bne,hxy,dG,EW,seval]
  ·have e2:decide (x::post=y::q)=decide (post=q):=by
    grind
   rw[e2];simp only[QC,cJ,hx,hw,hy,bne,hxy,cu,EW,seval];exact i1
def k21(a:tU)(hn:a.names.length<=100000)(hd:a.data.length<=100000)(M:aC):aU (aq bZ) 21 [.agg (cE a),.agg (cE a)] M=some (.bool true,M):=cO ((c21 a a hn).trans (by rw[il rfl])) M
theorem c19{n K:Nat}{f:aa}{l:List mi}(hw:WF l)(hl:l.length<=1000)(ho:∀x,x∈l->rY x.op)(hf:FB K f){ord:List Nat}(hr:Hs.oE oU (bK l).cs f [] ord)(hn:ord.length<=100)(hK:K+200*(ord.length+1)<=89000) :
  aq (rp n) 19 [.agg (cf f),qJ l,gG (ord.map fun i=>lq (sW (bK l).cs i))] []=some (.bool true,[]):=by
 have hE:=MP hw;obtain⟨hs1,hs2,hs3⟩:=G2 l;refine aB ?_;have rm:ct l.length 8=True:=qM
 have hrep:List.replicate l.length (ag.agg [ag.bool false]).norm=(Ee l (bK l).cs []).map ag.bool:=by
  unfold Ee;refine cp fun j=>?_
  rw[aX,aX,ic]
  by_cases hj:j<l.length
  ·rw[iy hj,aZ hj]; rfl
  ·rw[fG gm,aR hj]; rfl
 simp only[afm,QV,rm,hrep,EW,seval]
 refine nr (xs:=ord) aJ (fun i (s:aa×List Bool)=>Hs.oE oU (bK l).cs s.1 (ord.take i) (ord.drop i)/\FB (K+200*i) s.1/\s.2=Ee l (bK l).cs (ord.take i)) (fun _ _=>()) (fun s i=>[(1,qJ l),(2,gG (ord.map fun i=>lq (sW (bK l).cs i))),(3,cA 0),(7,.cD 1 0 1 0 l.length),(8,aF i)])
  (fun s=>[cC (cf s.1),.arr 1 0 (s.2.map ag.bool)]) (fun _=>some (.bool true,([]:aC))) (fun s hs=>?_) (fun pre x post s e hx cJ hwr h0 hm hs hi=>?_) (f,Ee l (bK l).cs []) ⟨hr,hf.mono aJ,rfl⟩
 ·obtain⟨g,mt⟩:=s;obtain⟨_,_,hmt⟩:=hs;simp only at hmt;rw[bF] at hmt;simp only[QV,bl,EW,seval];refine nr (xs:=l) aJ (fun _ _=>True) (fun _ (_:Unit)=>()) (fun _ i=>[(1,qJ l),(7,.cD 1 0 1 0 l.length),(15,aF i)]) (fun _=>[cC (cf g),.arr 1 0 (mt.map ag.bool)]) (fun _=>some (.bool true,([]:aC))) (fun _ _=>?_) (fun pre x post _ e hx cJ hwr h0 hm _ hi=>?_) () trivial
  ·simp only[QV,bl,EW,seval]
  ·have hil:=(aj.1 hx).1;have i1:=hi () trivial;have hlm:((pre.length:Int)<((l.length-0:Nat):Int))=True:=su;have hma:mt[pre.length]?=some (ord.any fun y=>sW (bK l).cs y==pre.length):=by rw[hmt,Hr hil]
   cases hk:x.kind==1
   ·simp only[QV,cJ,hwr,hx,hk,mW,Ig,yz,EW,seval];exact i1
   ·obtain⟨c,hcm,hcb⟩:=hs3 _ _ hx (by simpa using hk)
    obtain⟨p,hp⟩:=kV.1 hcm;cases ha:ord.any fun y=>sW (bK l).cs y==pre.length
    ·rw[ha] at hma
     have hpo:p∉ord:=fun h=>by
      rw[<-Bool.not_eq_true,iL] at ha;exact ha ⟨p,h,by unfold sW; rw[hp]; simpa using hcb⟩
     have hce:c.e=none:=by
      cases hce:c.e with
      |none=>rfl
      |some e2 =>
       rcases hr.all p c hp (by rw[hce]; simp) with h|h
       ·cases h
       ·exact absurd h hpo
     have hen:rD c = -1:=by unfold rD; rw[hce]
     obtain⟨y,hy1,hy2,_⟩:=hE.en p c hp;rw[hcb] at hy1 hy2;rw[hx] at hy1; cases hy1;have q37:=fun M=>lT (n:=n) (lE (k37 hl hx M))
     rw[hy2,hen] at q37;simp only[QV,cJ,hwr,hx,hk,hlm,hma,q37,mW,Ig,yz,EW,seval];exact i1
    ·rw[ha] at hma;simp only[QV,cJ,hwr,hx,hk,hlm,hma,mW,Ig,yz,EW,seval];exact i1
 ·obtain⟨g,mt⟩:=s;obtain⟨hR,hfb,hmt⟩:=hs;simp only at hR hfb hmt;have hil:=(aj.1 hx).1;have hdrop:ord.drop pre.length=x::post:=by rw[e,List.drop_left]
  have htk:ord.take pre.length=pre:=by rw[e,List.take_left]
  have htk1:ord.take (pre.length+1)=pre++[x]:=by rw[cB,htk,hx]; rfl
  have hdr1:ord.drop (pre.length+1)=post:=by rw[<-List.drop_drop,hdrop]; rfl
  rw[hdrop,htk] at hR;rw[htk] at hmt;cases hR with
  | @cons _ _ _ c _ hc hmay hans hrest =>
  have hcm:c∈(bK l).cs:=aE hc;obtain⟨⟨ev,hev1,hev2,hev3⟩,hnd⟩:=xc l c hcm;obtain⟨y,hy1,hy2,_⟩:=hE.en x c hc;rw[hev1] at hy1; cases hy1;have hbl:c.b<l.length:=(aj.1 hev1).1;have hbt:sW (bK l).cs x=c.b:=by unfold sW; rw[hc]
  have hge:((l.length:Int)<=(c.b:Int))=False:=XZ;have hlm:((c.b:Int)<((l.length-0:Nat):Int))=True:=su
  have hmf:mt[c.b]?=some false:=by
   rw[hmt,Hr hbl];congr 1;rw[<-Bool.not_eq_true,iL];rintro⟨z,hz,hzb⟩;rw[eu] at hzb;have hne:z≠x:=fun h=>hmay.1 (h▸hz)
   have hzl:z∈ord:=by rw[e]; exact eK _ hz
   have hzlt:=hr.lt z hzl;have hd:=ai hzlt;have hzb':(bK l).cs[z].b=c.b:=by unfold sW at hzb; rw[hd] at hzb; exact hzb
   rcases Nat.lt_or_gt_of_ne hne with h|h
   ·have:=hs1 z x _ _ h hd hc; omega
   ·have:=hs1 x z _ _ h hc hd; omega
  have hst:iR (List.map ag.bool mt) c.b (putCells (ag.bool false) 0 [ag.bool true])=(mt.set c.b true).map ag.bool:=by rw[fe,gh]; rfl
  have q37:=fun M=>lT (n:=n) (lE (k37 hl hev1 M))
  rw[hy2] at q37;simp only[QV,cJ,hx,hbt,hev1,hev3,hge,hlm,hmf,hst,mW,av,NF,yz,EW,seval];have hmt':mt.set c.b true=Ee l (bK l).cs (ord.take (pre.length+1)):=by rw[hmt,htk1,<-hbt,Wa]
  refine nr (xs:=pre) aJ (fun _ _=>True) (fun _ (_:Unit)=>()) (fun _ k=>[(1,qJ l),(2,gG (ord.map fun i=>lq (sW (bK l).cs i))),(3,cA 0),(7,.cD 1 0 1 0 l.length),(8,lq pre.length),(9,lq c.b),(10,aF k)])
   (fun _=>[cC (cf g),.arr 1 0 ((mt.set c.b true).map ag.bool)]) (fun _=>some (.bool true,([]:aC))) (fun _ _=>?_) (fun pre' z post' _ e' hz hlt' hwr' h0' hm' _ hi'=>?_) () trivial
  ·have hoo:rY c.op:=by rw[<-hev2]; exact ho ev (aE hev1)
   have hfb':FB (K+200*(pre.length+1)) (oU g c.op).1:=by
    have:=La hfb aJ c.op;exact this.mono aJ
   have i1:=hi ((oU g c.op).1,mt.set c.b true) ⟨by rw[htk1,hdr1]; exact hrest,hfb',hmt'⟩
   have hae:=CS hfb.ok c.op;have qd:=fun M=>lT (n:=n) (k29 g c.op hfb.ok hoo M)
   rw[<-hev2] at qd i1 hans hae;simp only[eT,cE] at qd;cases hce:c.e with
   |none =>
    have hen:rD c = -1:=by unfold rD; rw[hce]
    rw[hen] at q37;simp only[QV,bl,hwr,q37,qd,hev1,mW,kI,wR,CG,vQ,zW,xl,aG,aP,Ig,yz,EW,seval];exact i1
   |some e2 =>
    have hen:rD c=(e2:Int):=by unfold rD; rw[hce]
    obtain⟨w,hw1,hw2⟩:=hnd e2 hce;have hwa:w.j4=(oU g ev.op).2:=by rw[hw2]; exact(hans (by rw[hce]; simp)).symm
    have qs:=fun M=>lT (n:=n) (lE (k21 (oU g ev.op).2 (by have:=hae.names; omega) (by have:=hae.data; omega) M))
    simp only[cE] at qs;rw[hen] at q37;simp only[QV,bl,hwr,q37,qd,qs,hev1,hw1,hwa,mW,kI,wR,CG,vQ,zW,xl,aG,aP,Ig,yz,EW,seval];exact i1
  ·have hpl':=(aj.1 hz).1;have hzo:ord[pre'.length]?=some z:=by rw[e,aN hpl']; exact hz
   have i2:=hi' () trivial;cases hce:c.e with
   |none =>
    have hen:rD c = -1:=by unfold rD; rw[hce]
    rw[hen] at q37;simp only[QV,hlt',hwr',q37,EW,seval];exact i2
   |some e2 =>
    have hen:rD c=(e2:Int):=by unfold rD; rw[hce]
    have hzlt:=hr.lt z (by rw[e]; exact eK _ hm')
    have hd:=ai hzlt;have hzb:sW (bK l).cs z=(bK l).cs[z].b:=by unfold sW; rw[hd]
    have hbk:=hr.back pre x post e z hm' c _ hc hd
    have hnlt:((e2:Int)<(sW (bK l).cs z:Int))=False:=by
     grind
    rw[hen] at q37;simp only[QV,hlt',hwr',q37,hzo,hnlt,EW,seval];exact i2
def k19{n K:Nat}{f:aa}{l:List mi}(hw:WF l)(hl:l.length<=1000)(ho:∀x,x∈l->rY x.op)(hf:FB K f){ord:List Nat}(hr:Hs.oE oU (bK l).cs f [] ord)(hn:ord.length<=100)(hK:K+200*(ord.length+1)<=89000)(M:aC) :
  aU (aq (rp n)) 19 [.agg (cf f),qJ l,gG (ord.map fun i=>lq (sW (bK l).cs i))] M=some (.bool true,M):=cO (c19 hw hl ho hf hr hn hK) M
end
def WF.last{l:List mi}{x:mi}(h:WF (l++[x])):WF l/\0<=x.bE/\(x.kind=1\/x.kind=2)/\vK l x.bE = !(x.kind==1):=by
 generalize he:l++[x]=m at h;cases h with
 |nil=>simp at he
 |snoc h1 h2 h3 h4 =>
  obtain⟨e1,e2⟩:=List.append_inj' he rfl;injection e2 with e2 _
  subst e1; subst e2;exact⟨h1,h2,h3,h4⟩
def WF.pre{a:List mi}:∀(b:List mi),WF (a++b)->WF a:=fun b=>J5 (P:=fun b=>WF (a++b)->WF a) dx (fun l x ih h=>by
 rw[<-cd] at h;exact ih h.last.1) b
def WF.at'{l pre post:List mi}{x:mi}(h:WF l)(e:l=pre++x::post):0<=x.bE/\(x.kind=1\/x.kind=2)/\vK pre x.bE = !(x.kind==1):=by
 have:WF (pre++[x]):=WF.pre post (by rw[cd]; simpa[e] using h)
 exact this.last.2
def WF.first{l:List mi}(h:WF l)(x:mi)(hx:l[0]?=some x):x.kind=1:=by
 cases l with
 |nil=>cases hx
 |cons y r =>
  simp at hx;subst hx;have:=(h.at' (pre:=[]) (post:=r) rfl).2.2;simp[vK] at this;exact this
def SH{l:List jD}{m:List wT}(h:zU l m=false):l.length<=50/\(∀o,o∈l->rY o)/\m.length<=24/\∀t,t∈m->rY t.op:=by
 simp only[zU,DS,jP,dC] at h;obtain⟨h1,h2,h3⟩:=h;split at h1
 ·cases h1
 rename_i h50;simp only[bh] at h50;rw[List.any_eq_false] at h1 h3;exact⟨aJ,fun o ho=>Nu (by simpa using h1 o ho),aJ,fun t ht=>Nu (by simpa using h3 t ht)⟩
def L6{f:aa}{K:Nat}(hf:FB K f)(hK:K<=70000){m:List wT}{dI:Nat}(hm:m.length<=24)(hmost:dI<=8)(ht:∀t,t∈m->rY t.op):wB 13 K f (runN f m dI).out/\WF (runN f m dI).out/\(runN f m dI).out.length<=24/\(∀x,x∈(runN f m dI).out->rY x.op/\x.bE<16/\(x.kind=1->x.op.bE=x.bE))/\Hs.Fits oU (bK (runN f m dI).out).cs f:=by
 obtain⟨h1,h2⟩:=J0 hf (dI:=dI) m ht aJ;have dQ:=h1.out;have hc:=h2.calls;have hmo:=h2.dI;refine⟨⟨⟨aJ,h2.wf.first,fun x hx=>(h2.ev x hx).1⟩,hf,aJ,XB aJ,aJ,aJ,fun c hcm=>?_⟩,h2.wf,aJ,fun x hx=>⟨(h2.ev x hx).2.2.1,by have:=(h2.ev x hx).2.1; omega,(h2.ev x hx).2.2.2.1⟩,?_⟩
 ·obtain⟨x,g1,g2,_⟩:=(xc _ c hcm).1;rw[<-g2];exact(h2.ev x (aE g1)).2.2.1
 ·have:=h2.ok.fits;exact this
def aa9{cs:List vl}{f:aa}{ord:List Nat}(h:Hs.oE oU cs f [] ord):ord.length<=cs.length:=Hs.Good.len ⟨h.nodup,h.lt⟩
def FR:jD:=⟨2,0,[47,97],[],1,0,0,[]⟩
def FQ:jD:=⟨1,0,[47,97],[],0,0,0,[]⟩
def B9:tU:=⟨0,2,1,0,0,[],[]⟩
def Ng:tU:=⟨70,0,0,0,0,[],[]⟩
def Zd:List mi:=[AP 0 FR,CM 0 B9,AP 1 FQ,CM 1 B9]
def hiB:List mi:=[AP 0 FR,AP 1 FQ,CM 1 Ng,CM 0 B9]
def hiC:List mi:=[AP 0 FR,CM 0 B9,AP 1 FQ,CM 1 Ng]
def hiD:List mi:=[AP 0 FR,AP 1 FQ,CM 1 B9]
def orA:zm 13 f0 Zd=some [0,1]:=fu
def orB:zm 13 f0 hiB=some [1,0]:=fu
def orC:zm 13 f0 hiC=none:=fu
def orD:zm 13 f0 hiD=some [0,1]:=fu
def rtA:HF Zd=true:=ml
def aui:HF (Zd.drop 1)=false:=ml
section
attribute [local irreducible] eX fJ lu gK eb kr aq aU cq bI
def c17(xs:List Nat)(hn:xs.length<=1000):aq bZ 17 [gG (xs.map lq),gG (xs.map lq)] []=some (.bool true,[]):=by
 refine aB ?_;simp only[aln,E17,av,EW,seval];refine nr (xs:=xs) aJ (fun _ _=>True) (fun _ (_:Unit)=>true) (fun _ i=>[(0,gG (xs.map lq)),(1,gG (xs.map lq)),(5,aF i)]) (fun _=>[]) (fun b=>some (.bool b,([]:aC))) (fun s hs=>?_) (fun pre x post s e hx cJ hw h0 hm hI hi=>?_) () trivial
 ·simp only[E17,bl,EW,seval]
 ·have i1:=hi () trivial;simp only[E17,cJ,hx,hw,h0,av,EW,seval];exact i1
def k17 xs hn:=cP (c17 xs hn)
end
def JI{l:List mi}(h1:l.length<=1000)(h2:∀x,l[0]?=some x->x.kind=1)(h3:∀x,x∈l->0<=x.bE)(h4:(bK l).cs.length<=8)(h5:∀x,x∈l->rY x.op){K:Nat}{f:aa}(hf:FB K f)(hK:K<=80000):wB 13 K f l:=by
 refine⟨⟨h1,h2,h3⟩,hf,aJ,XB h4,aJ,hK,fun c hc=>?_⟩
 obtain⟨x,g1,g2,_⟩:=(xc l c hc).1;rw[<-g2];exact h5 x (aE g1)
def okA:wB 13 0 f0 Zd:=JI ml ml ml ml (by
 intro x hx;simp[Zd] at hx;rcases hx with rfl|rfl|rfl|rfl<;>exact⟨ml,ml,ml⟩) fb0 aJ
def okB:wB 13 0 f0 hiB:=JI ml ml ml ml (by
 intro x hx;simp[hiB] at hx;rcases hx with rfl|rfl|rfl|rfl<;>exact⟨ml,ml,ml⟩) fb0 aJ
def okC:wB 13 0 f0 hiC:=JI ml ml ml ml (by
 intro x hx;simp[hiC] at hx;rcases hx with rfl|rfl|rfl|rfl<;>exact⟨ml,ml,ml⟩) fb0 aJ
def okD:wB 13 0 f0 hiD:=JI ml ml ml ml (by
 intro x hx;simp[hiD] at hx;rcases hx with rfl|rfl|rfl<;>exact⟨ml,ml,ml⟩) fb0 aJ
end Go.Proofs.YteoamaffclmdbaaGreatDoor
namespace Hs
open Go
variable {S O A:Type} {step:S->O->S×A}
theorem yg{α:Type}{l:List α}{i k:Nat}{f:α->α}{y:α}(h:(l.modify i f)[k]?=some y):∃x,l[k]?=some x/\y=if i=k then f x else x:=by
 grind
def w6(l:List (Ev O A)):Prop:=∀a x r,l=a++x::r->x.begin=false->∃c,(fP a).cs[(fP a).last x.cl]?=some c/\c.e=none
end Hs
namespace Hs
open Go
variable {S O A:Type} {step:S->O->S×A}
structure Yl(n:Nat)(t u:Cl O A):Prop where
 n':u.n=t.n
 last:u.last=t.last
 len:t.cs.length=u.cs.length
 at':∀(k:Nat)(c d:Call O A),t.cs[k]?=some c->u.cs[k]?=some d->d.op=c.op/\d.j4=c.j4/\(d.b=c.b\/(c.b=n+1/\d.b=n))/\(d.e=c.e\/(c.e=some n/\d.e=some (n+1)))
def Yl.next{n:Nat}{t u:Cl O A}(h:Yl n t u)(x:Ev O A):Yl n (hU t x) (hU u x):=by
 unfold hU;split
 ·refine⟨by simp[h.n'],by simp only[h.last,h.len],by simp[h.len],fun k c d hc hd=>?_⟩
  simp only at hc hd;rcases bC k t.cs.length with hk|hk
  ·rw[aN hk] at hc;rw[aN (by rw[<-h.len]; exact hk)] at hd
   exact h.at' k c d hc hd
  ·rw[bj hk] at hc;rw[bj (by rw[<-h.len]; exact hk),<-h.len] at hd
   cases hj:k-t.cs.length with
   |zero=>rw[hj] at hc hd; simp at hc hd; subst hc; subst hd; exact⟨rfl,rfl,.inl h.n',.inl rfl⟩
   |succ m=>rw[hj] at hc; simp at hc
 ·refine⟨by simp[h.n'],h.last,by simp[h.len],fun k c d hc hd=>?_⟩
  simp only at hc hd;rw[h.last] at hd;obtain⟨y,y1,rfl⟩:=yg hc;obtain⟨z,z1,rfl⟩:=yg hd;obtain⟨g1,g2,g3,g4⟩:=h.at' k y z y1 z1;split
  ·exact⟨g1,rfl,g3,.inl (by simp[h.n'])⟩
  ·exact⟨g1,g2,g3,g4⟩
def Yl.fold{n:Nat}:∀(r:List (Ev O A)) {t u:Cl O A},Yl n t u->Yl n (r.foldl hU t) (r.foldl hU u)
 | [],_,_,h=>h
 |x::r,_,_,h=>Yl.fold r (h.next x)
def Yl.fits{n:Nat}{t u:Cl O A}(h:Yl n t u){s:S}(hf:Fits step t.cs s):Fits step u.cs s:=by
 obtain⟨ord,hr⟩:=hf;refine⟨ord,oE.wider step h.len (fun k c d hc hd=>?_) (fun i k ci di ck dk hci hdi hck hdk he=>?_) hr⟩
 ·obtain⟨g1,g2,_,g4⟩:=h.at' k c d hc hd;refine⟨g1,fun _=>g2,?_⟩
  rcases g4 with g4|⟨g4,g5⟩
  ·rw[g4]
  ·rw[g4,g5]; simp
 ·obtain⟨_,_,b,_⟩:=h.at' i ci di hci hdi;obtain⟨_,_,_,e'⟩:=h.at' k ck dk hck hdk;obtain⟨e,e1,e2⟩:=he;rcases e' with e'|⟨e3,e4⟩
  ·exact⟨e,by rw[<-e']; exact e1,aJ⟩
  ·rw[e4] at e1; injection e1 with e1
   exact⟨n,e3,aJ⟩
end Hs
namespace Hs
open Go
variable {S O A:Type} {step:S->O->S×A}
structure E2(t u:Cl O A):Prop where
 n':u.n=t.n
 last:u.last=t.last
 len:t.cs.length=u.cs.length
 at':∀(k:Nat)(c d:Call O A),t.cs[k]?=some c->u.cs[k]?=some d->d.op=c.op/\d.b=c.b/\d.e=c.e/\(c.e≠none->d.j4=c.j4)
theorem E2.next{t u:Cl O A}(h:E2 t u)(x:Ev O A):E2 (hU t x) (hU u x):=by
 unfold hU;split
 ·refine⟨by simp[h.n'],by simp only[h.last,h.len],by simp[h.len],fun k c d hc hd=>?_⟩
  rcases bC k t.cs.length with hk|hk
  ·rw[aN hk] at hc;rw[aN (by rw[<-h.len]; omega)] at hd
   exact h.at' k c d hc hd
  ·rw[bj hk] at hc;rw[bj (by rw[<-h.len]; omega),<-h.len] at hd
   cases hj:k-t.cs.length with
   |zero=>rw[hj] at hc hd; simp at hc hd; subst hc; subst hd; exact⟨rfl,h.n',rfl,fun h=>absurd rfl h⟩
   |succ m=>rw[hj] at hc; simp_all
 ·refine⟨by simp[h.n'],h.last,by simp[h.len],fun k c d hc hd=>?_⟩
  rw[h.last] at hd;obtain⟨y,y1,rfl⟩:=yg hc;obtain⟨z,z1,rfl⟩:=yg hd;obtain⟨g1,g2,g3,g4⟩:=h.at' k y z y1 z1;split
  ·exact⟨g1,g2,by simp[h.n'],fun _=>rfl⟩
  grind
def E2.fold:∀(r:List (Ev O A)) {t u:Cl O A},E2 t u->E2 (r.foldl hU t) (r.foldl hU u)
 | [],_,_,h=>h
 |x::r,_,_,h=>E2.fold r (h.next x)
theorem E2.fits{t u:Cl O A}(h:E2 t u){s:S}(hf:Fits step t.cs s):Fits step u.cs s:=by
 obtain⟨ord,hr⟩:=hf;refine⟨ord,oE.wider _ h.len (fun k c d hc hd=>?_) (fun i k ci di ck dk hci hdi hck hdk he=>?_) hr⟩
 ·obtain⟨g1,_,g3,g4⟩:=h.at' k c d hc hd
  grind
 ·obtain⟨_,b,_,_⟩:=h.at' i _ _ hci hdi;obtain⟨_,_,e',_⟩:=h.at' k _ _ hck hdk;rw[b,e'] at he; omega
theorem R1{a r:List (Ev O A)}{x:Ev O A}{s:S}(hx:x.begin=true)(z:A)(hf:Fits step (fP (a++x::r)).cs s):Fits step (fP (a++{ x with j4:=z }::r)).cs s:=by
 have e1:fP (a++x::r)=r.foldl hU (hU (fP a) x):=by simp[fP]
 have e2:fP (a++{ x with j4:=z }::r)=r.foldl hU (hU (fP a) { x with j4:=z }):=by simp[fP]
 rw[e1] at hf;rw[e2];refine(E2.fold r ?_).fits hf;simp[hU,hx];refine⟨rfl,rfl,dx,fun k c d hc hd=>?_⟩
 grind
end Hs
namespace Hs
open Go
variable {S O A:Type} {step:S->O->S×A}
def w6.nil:w6 ([]:List (Ev O A)):=fun a x r h=>by simp at h
def w6.snoc{l:List (Ev O A)}(h:w6 l){x:Ev O A}(hx:x.begin=false->∃c,(fP l).cs[(fP l).last x.cl]?=some c/\c.e=none):w6 (l++[x]):=by
 intro a y r e hy;rcases nB r with rfl|⟨r',z,rfl⟩
 ·have:=List.append_inj_right' (s₁:=l) (s₂:=a) (t₁:=[x]) (t₂:=[y]) e rfl;have h2:=List.append_inj_left' (s₁:=l) (s₂:=a) (t₁:=[x]) (t₂:=[y]) e rfl;injection this with this
  subst this; subst h2;exact hx hy
 ·rw[List.concat_eq_append,<-aG,<-cd] at e;have h2:=List.append_inj_left' e rfl;exact h a y r' h2 hy
structure Shp(t u:Cl O A):Prop where
 n':u.n=t.n
 last:u.last=t.last
 be:u.cs.map (fun c=>(c.b,c.e))=t.cs.map fun c=>(c.b,c.e)
def Shp.next{t u:Cl O A}(h:Shp t u){x y:Ev O A}(hb:y.begin=x.begin)(hc:y.cl=x.cl):Shp (hU t x) (hU u y):=by
 have hl:u.cs.length=t.cs.length:=by simpa using congrArg List.length h.be
 unfold hU;rw[hb,hc,h.n',h.last,hl];split
 ·exact⟨rfl,rfl,by simp[h.be]⟩
 ·refine⟨rfl,rfl,?_⟩;simp only;apply cp;intro k;have hk:=congrArg (fun l=>l[k]?) h.be
  simp only[aX,gw] at hk ⊢;cases hu:u.cs[k]? with
  |none =>
   rw[hu] at hk;cases ht:t.cs[k]? with
   |none=>rfl
   |some c=>rw[ht] at hk; cases hk
  |some d =>
   rw[hu] at hk;cases ht:t.cs[k]? with
   |none=>rw[ht] at hk; cases hk
   |some c =>
    rw[ht] at hk;simp only[dZ,fZ,jl] at hk;split
    ·simp[hk.1]
    ·simp[hk.1,hk.2]
def shape:∀ {l m:List (Ev O A)},m.map (fun x=>(x.begin,x.cl))=l.map (fun x=>(x.begin,x.cl))->Shp (fP l) (fP m):=by
 have key:∀(l m:List (Ev O A)) (t u:Cl O A),m.map (fun x=>(x.begin,x.cl))=l.map (fun x=>(x.begin,x.cl))->Shp t u->Shp (l.foldl hU t) (m.foldl hU u):=by
  intro l;induction l with
  |nil=>intro m t u h hs; cases m with
   |nil=>exact hs
   |cons=>simp at h
  |cons x l ih=>intro m t u h hs; cases m with
   |nil=>simp at h
   |cons y m =>
    simp only[aH,mD,jl] at h;exact ih m _ _ h.2 (hs.next h.1.1 h.1.2)
 exact fun {l m} h=>key l m _ _ h ⟨rfl,rfl,rfl⟩
def w6.am6{l m:List (Ev O A)}(hl:w6 l)(h:m.map (fun x=>(x.begin,x.cl))=l.map (fun x=>(x.begin,x.cl))):w6 m:=by
 intro a y r e hy;rw[e,aW,aH] at h;obtain⟨b,s,rfl,h1,h2⟩:=List.map_eq_append_iff.1 h.symm;obtain⟨x,q,rfl,h3,h4⟩:=List.map_eq_cons_iff.1 h2;simp only[jl] at h3;obtain⟨c,c1,c2⟩:=hl b x q rfl (by rw[h3.1]; exact hy)
 have hs:=shape h1.symm;have hk:=congrArg (fun l=>l[(fP b).last x.cl]?) hs.be
 simp only[aX,c1,dZ] at hk;obtain⟨d,d1,d2⟩:=aV.1 hk;simp only[jl] at d2;exact⟨d,by rw[hs.last,<-h3.2]; exact d1,by rw[d2.2]; exact c2⟩
end Hs
namespace Go.Proofs.YteoamaffclmdbaaGreatDoor
open Go Go.Abs
def EH(l:List mi):List (Int×Int):=l.map fun x=>(x.kind,x.bE)
theorem P3{l m:List mi}(h:EH m=EH l):vK m=vK l:=by
 have key:∀(l m:List _)(o:Int->Bool),EH m=EH l->m.foldl (fun o x c=>if c=x.bE then x.kind==1 else o c) o=l.foldl (fun o x c=>if c=x.bE then x.kind==1 else o c) o:=by
  intro l;induction l with
  |nil=>simp_all [EH]
  |cons x l ih=>intro m o h; cases m<;>grind [EH]
 exact key _ _ _ h
theorem WF.am6{l:List mi}(hw:WF l):∀ {m:List mi},EH m=EH l->WF m:=by
 induction hw with
 |nil=>intro m h; cases m with
  |nil=>exact .nil
  |cons=>grind [EH]
 | @snoc l x h1 h2 h3 h4 ih =>
  intro m h;rcases nB m with rfl|⟨m',y,rfl⟩
  ·simp_all [EH]
  ·rw[List.concat_eq_append] at h ⊢;simp only[EH,aW] at h;obtain⟨e1,e2⟩:=List.append_inj' h rfl;simp only[aH,aQ,mD,jl,pP] at e2;exact .snoc (ih e1) (by rw[e2.2]; exact h2) (by rw[e2.1]; exact h3) (by rw[P3 e1,e2.1,e2.2]; omega)
theorem Dr(l:List mi):(bK l).cs.length=(l.filter fun x=>x.kind==1).length :=
 J5 (P:=fun l=>(bK l).cs.length=(l.filter _).length) rfl (fun l x ih=>by
  rw[lk]
  grind [Hs.hU,wy]) l
theorem WF.kind{l:List mi}(h:WF l):∀x,x∈l->x.kind=1\/x.kind=2:=by
 induction h<;>grind
structure Hy(l:List mi):Prop where
 wf:WF l
 len:l.length<=30
 ev:∀x,x∈l->rY x.op/\x.bE<16/\(x.kind=1->x.op.bE=x.bE)
 Pc:(l.filter fun x=>x.kind==1).length<=8
def Hy.ord{l:List mi}(h:Hy l){f:aa}{K:Nat}(hf:FB K f)(hK:K<=80000):wB 13 K f l :=
 JI (by have:=h.len; omega) h.wf.first (MP h.wf).cl (by rw[Dr]; exact h.Pc) (fun x hx=>(h.ev x hx).1) hf hK
def Hy.fits{l:List mi}(h:Hy l)(f:aa):(zm 13 f l).isSome=true↔Hs.Fits oU (bK l).cs f:=by
 have hs:=Gn (n:=13) (f:=f) (l:=l) (by rw[Dr]; have:=h.Pc; omega)
 cases ho:zm _ f l with
 |none=>rw[ho] at hs; exact⟨fun h=>(by cases h),fun h=>absurd h hs⟩
 |some ord=>rw[ho] at hs; exact⟨fun _=>⟨ord,hs⟩,fun _=>rfl⟩
theorem NY{α β:Type}(g:α->β){l:List α}{k:Nat}{x y:α}(hx:l[k]?=some x)(hg:g y=g x):(l.set k y).map g=l.map g:=by
 apply cp
 grind
def Mj{l:List mi}{k:Nat}{x y:mi}(hx:l[k]?=some x)(hg:y.kind=x.kind):((l.set k y).filter fun x=>x.kind==1).length=(l.filter fun x=>x.kind==1).length:=by
 have e:∀m:List mi,(m.filter fun x=>x.kind==1).length=((m.map fun x=>x.kind).filter fun k=>k==1).length:=fun m=>by
  rw[List.filter_map,cU]; rfl
 rw[e,e,NY _ hx hg]
def Hy.set{l:List mi}(h:Hy l){k:Nat}{x:mi}(hx:l[k]?=some x)(a:tU):Hy (l.set k { x with j4:=a }):=by
 refine⟨h.wf.am6 (NY _ hx rfl),by rw[dh]; exact h.len,fun y hy=>?_,by rw[Mj (y:={ x with j4:=a }) hx rfl]; exact h.Pc⟩
 rcases jE hy with hy|rfl
 ·exact h.ev y hy
 ·exact h.ev x (aE hx)
def Hy.take{l:List mi}(h:Hy l)(n:Nat):Hy (l.take n) :=
 ⟨WF.pre _ (by rw[cv]; exact h.wf),by have:=h.len; rw[cr]; omega,fun x hx=>h.ev x (dS hx),by
  have:=((List.take_sublist n l).filter fun x=>x.kind==1).length_le
  have:=h.Pc;omega⟩
theorem R2{l:List mi}{k:Nat}{x:mi}(hx:l[k]?=some x)(hb:x.kind=1)(a:tU){f:aa}(hf:Hs.Fits oU (bK l).cs f):Hs.Fits oU (bK (l.set k { x with j4:=a })).cs f:=by
 obtain⟨hk,hx'⟩:=aj.1 hx;have e1:l=l.take k++x::l.drop (k+1):=by rw[<-hx',List.getElem_cons_drop,cv]
 have e2:l.set k _=l.take k++{ x with j4:=a }::l.drop _:=List.set_eq_take_append_cons_drop.trans (aZ hk)
 unfold bK at hf ⊢;rw[e1,aW] at hf;rw[e2,aW];exact Hs.R1 (by grind [wy]) a hf
def aeW(o:tU)(f:aa):Bk [cC (cE o),cC (cf f)]:=fun _ _ _=>rfl
def afw(M:aC)(f:aa):List.map (ag.n9 M) (cf f)=cf f:=rfl
def abe{l:List mi}{k:Nat}(x:mi)(a:tU):iR (l.map wh) k (putCells (wh x) 10 (cE a))=(l.set k { x with j4:=a }).map wh:=by
 rw[fe,gh]; rfl
def amj{f:aa}{K:Nat}(hf:FB K f)(hK:K<=70000){m:List wT}{dI:Nat}(hm:m.length<=24)(hmost:dI<=8)(ht:∀t,t∈m->rY t.op):Hy (runN f m dI).out/\Hs.Fits oU (bK (runN f m dI).out).cs f/\(runN f m dI).out.length<=24/\((runN f m dI).out.filter fun x=>x.kind==1).length<=dI:=by
 obtain⟨h1,h2,h3,h4,h5⟩:=L6 hf hK hm hmost ht;obtain⟨_,g2⟩:=J0 hf (dI:=dI) m ht aJ;have g3:=g2.calls;have g4:=g2.dI;rw[Dr] at g3;exact⟨⟨h2,aJ,h4,aJ⟩,h5,h3,aJ⟩
section
open Go.ChangeShapes Go.WideShapes Go.ChangeAt Go.RowKit Go.Deep
section
variable {H:Type} {enc:TypeId×Value->H}
def ahs:Tryz.prog.cellsOf 69=9:=fu
def N7:Tryz.prog.underlying 23=some (.slice 69):=fu
set_option maxRecDepth 100000 in
def XD{w:World}{fuel:Nat}{cs:List Value}{x:DataW H×List MemPlace}(h:DataW.trod enc Tryz.prog w 0 (fun _=>true) true fuel 69 cs=some x):∃s:wT,na w (uQ s) cs:=by
 obtain⟨xs,n,_,_,hl,hxl,hf⟩:=DataW.trod_struct underlying69 h;have h0:cs.length=9:=by rw[hl]; kernel_rfl
 match cs,h0 with
 | [v0,v1,v2,v3,v4,v5,v6,v7,v8],_ =>
  match xs,hxl with
  | [y0,y1],_ =>
   obtain⟨a0,r0⟩:=XE abE (Kk (k:=0) aeY rfl (hf 0 _ rfl));have h1:=hf 1 _ rfl;change DataW.trod enc Tryz.prog w 0 (fun _=>true) true n 49 (List.take (Tryz.prog.cellsOf 49) _)=_ at h1
   rw[am9] at h1;obtain⟨a1,r1⟩:=WD h1;exact⟨⟨a0,a1⟩,.app (.one r0) r1⟩
set_option maxRecDepth 100000 in
def Qo{w:World}{r:Reach}{b:Nat}{v:Value}{d:DataW H}{ps:List MemPlace}(h:DataW.Trod enc Tryz.prog w 0 (fun _=>true) true 23 v d ps)(hv:Value.okWide Tryz.prog w r b 23 v):∃l:List wT,gn SZ [] w (B4 l) v:=by
 obtain⟨a,len,cap,rfl⟩:=okWide_slice N7 hv;obtain⟨fuel,hf⟩:=h;obtain⟨l,h2,_⟩:=Au (eC:=uQ) (mk:=RM) N7 ahs aJ (fun _=>rfl) (fun _=>rfl) (fun n cs y _ hy=>XD hy) hf
 exact⟨l,.plain h2⟩
def abC:Tryz.prog.underlying 43=some (.int .i64):=fu
def YH:Tryz.prog.cellsOf 43=1:=fu
def abD:Tryz.prog.underlying 44=some (.slice 9):=fu
def YI:Tryz.prog.cellsOf 44=1:=fu
set_option maxRecDepth 100000 in
def Yp{w:World}{fuel:Nat}{cs:List Value}{x:DataW H×List MemPlace}(h:DataW.trod enc Tryz.prog w 0 (fun _=>true) true fuel 47 cs=some x):∃a:tU,na w (cE a) cs:=by
 obtain⟨xs,n,_,_,hl,hxl,hf⟩:=DataW.trod_struct underlying47 h;have h0:cs.length=7:=by rw[hl]; kernel_rfl
 match cs,h0 with
 | [v0,v1,v2,v3,v4,v5,v6],_ =>
  match xs,hxl with
  | [y0,y1,y2,y3,y4,y5,y6],_ =>
   obtain⟨a0,r0⟩:=sn abC (Kk (k:=0) YH rfl (hf 0 _ rfl));obtain⟨a1,r1⟩:=sn Az (Kk (k:=1) zF rfl (hf 1 _ rfl));obtain⟨a2,r2⟩:=sn Az (Kk (k:=2) zF rfl (hf 2 _ rfl));obtain⟨a3,r3⟩:=sn Az (Kk (k:=3) zF rfl (hf 3 _ rfl));obtain⟨a4,r4⟩:=sn Az (Kk (k:=4) zF rfl (hf 4 _ rfl));obtain⟨a5,r5⟩:=Xy abD XF Rk (Kk (k:=5) YI rfl (hf 5 _ rfl));obtain⟨a6,r6⟩:=Fy N6 abE aeY (Kk (k:=6) MF rfl (hf 6 _ rfl));exact⟨⟨a0,a1,a2,a3,a4,a5,a6⟩,.app (.one r0) (.app (.one r1) (.app (.one r2) (.app (.one r3) (.app (.one r4) (.app (.one r5) (.one r6))))))⟩
set_option maxRecDepth 100000 in
def Yq{w:World}{r:Reach}{b:Nat}{v:Value}{d:DataW H}{ps:List MemPlace}(h:DataW.Trod enc Tryz.prog w 0 (fun _=>true) true 47 v d ps)(hv:Value.okWide Tryz.prog w r b 47 v):∃a:tU,gn SZ [] w (.agg (cE a)) v:=by
 obtain⟨cs,rfl,o,hr⟩:=Qu underlying47 h hv (fun n cs y hy=>Yp hy)
 exact⟨o,Yn hr⟩
end
end
def Fh{f:Nat}{vs:List ag}{M:aC}{x:ag×aC}(h:aU (aq bZ) f vs M=some x):aU (aq Kc) f vs M=some x:=lH (lT (lE h))
def XL(x:ag)(l:List ag)(n:Nat):wid (x::l) n=(x.cells.length=n/\wid l n):=by simp[wid]
section
attribute [local irreducible] eX fJ lu gK eb kr aq aU cq bI
set_option maxRecDepth 100000 in
def c9:aq Kc 9 [] []=some (.bool true,[]):=by
 have q22:=fun(c:Int) (o:jD) (M:aC)=>Fh (cO (c22 c o) M)
 have q23:=fun(c:Int) (a:tU) (M:aC)=>Fh (cO (c23 c a) M)
 have b1:=q22 0 FR;have b2:=q22 1 FQ;have n1:=q23 0 B9;have n2:=q23 1 B9;have n3:=q23 1 Ng;have q24:=fun M=>Fh (k24 M)
 have oA:=fun M=>lH (QJ okA M)
 have oB:=fun M=>lH (QJ okB M)
 have oC:=fun M=>lH (QJ okC M)
 have oD:=fun M=>lH (QJ okD M)
 have fB:=fun M=>lH (k18 okB M)
 have fC:=fun M=>lH (k18 okC M)
 have rA:=fun M=>Fh (cO (c11 Zd ml) M)
 have rB:=fun M=>Fh (cO (c11 (Zd.drop 1) ml) M)
 have s1:=fun M=>Fh (k17 [0,2] ml M)
 have s2:=fun M=>Fh (k17 [1,0] ml M)
 have s3:=fun M=>Fh (k17 [0,1] ml M)
 rw[orA] at oA;rw[orB] at oB fB;rw[orC] at oC fC;rw[orD] at oD;rw[rtA] at rA;rw[aui] at rB;have eA:(((some [0,1]:Option (List Nat)).getD []).map fun i=>lq (sW (bK Zd).cs i))=[lq 0,lq 2]:=rfl
 have eB:(((some [1,0]:Option (List Nat)).getD []).map fun i=>lq (sW (bK hiB).cs i))=[lq 1,lq 0]:=rfl
 have eC:(((none:Option (List Nat)).getD []).map fun i=>lq (sW (bK hiC).cs i))=[]:=rfl
 have eD:(((some [0,1]:Option (List Nat)).getD []).map fun i=>lq (sW (bK hiD).cs i))=[lq 0,lq 1]:=rfl
 rw[eA] at oA;rw[eB] at oB;rw[eC] at oC;rw[eD] at oD;have v0:lq 0 = aF 0:=rfl;have v1:lq 1 = aF 1:=rfl;have v2:lq 2 = aF 2:=rfl;simp only[v0,v1,v2,qJ,FR,FQ,B9,Ng,eT,cE,cX,dj,aQ,aH,wh,mW,AP,CM,CP,Ki,Zd,hiB,hiC,hiD,bW,cY,oJ,nc] at b1 b2 n1 n2 n3 oA oB oC oD fB fC rA rB s1 s2 s3;refine aB ?_;simp only[fn9,E9,b1,b2,n1,n2,n3,q24,xn,kI,wR,vQ,xl,zW,aI,oA,oB,oC,oD,fB,fC,rA,rB,s1,s2,s3,XL,ag.cells,EW,seval]
 done
end
end Go.Proofs.YteoamaffclmdbaaGreatDoor
