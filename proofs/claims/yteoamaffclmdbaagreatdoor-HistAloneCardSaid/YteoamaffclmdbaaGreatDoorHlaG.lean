import Derived.Test.YteoamaffclmdbaaGreatDoorHlaF
set_option linter.all false
open Go.Proofs.Tryz
namespace Go.Proofs.YteoamaffclmdbaaGreatDoor
open Go Go.Abs
abbrev Hq(cs:List wM)(k:Nat):Bool:=match cs[k]? with
 |some c=>c.e.isSome
 |none=>false
theorem Ol{α:Type}{P:List α->Prop}(h0:P [])(h1:∀l x,P l->P (l++[x]))(l:List α):P l:=by
 rw[<-l.reverse_reverse];induction l.reverse<;>grind
theorem zL(l:List mT):∀c,c∈(cp l).cs->(∃x,l[c.b]?=some x/\x.op=c.op/\x.kind=1)/\∀e,c.e=some e->∃y,l[e]?=some y/\y.lQ=c.lQ:=by
 refine Ol (P:=fun l=>∀c,c∈(cp l).cs->(∃x,l[c.b]?=some x/\x.op=c.op/\x.kind=1)/\∀e,c.e=some e->∃y,l[e]?=some y/\y.lQ=c.lQ) ?_ ?_ l
 ·simp[cp,Hs.gD]
 ·intro l x ih c hc;rw[nj] at hc;have last:(l++[x])[l.length]?=some x:=dw
  have hold:∀c,c∈(cp l).cs->(∃y,(l++[x])[c.b]?=some y/\y.op=c.op/\y.kind=1)/\∀e,c.e=some e->∃y,(l++[x])[e]?=some y/\y.lQ=c.lQ:=fun c hc=>by
   grind
  unfold Hs.jh at hc;split at hc
  ·rename_i hb;simp only[bo,bT] at hc;rcases hc with hc|hc
   ·exact hold c hc
   ·subst hc;simp only[vB];refine⟨⟨x,last,rfl,?_⟩,fun e he=>jO⟩
    simpa[xO] using hb
  ·simp only at hc;obtain⟨i,hi⟩:=List.mem_iff_getElem?.1 hc;rw[iU] at hi;cases hci:(cp l).cs[i]? with
   |none=>rw[hci] at hi; cases hi
   |some d =>
    have hd:=hold d (aJ hci);rw[hci] at hi;simp only[Option.map_eq_map,ep] at hi;split at hi
    ·cases hi;refine⟨hd.1,fun e he=>?_⟩
     simp only[vB] at he;cases he;exact⟨x,last,rfl⟩
    ·cases hi;exact hd
structure th(n K:Nat)(f:aa)(l:List mT):Prop where
 h:ajk l
 fb:FB K f
 Sr:(cp l).cs.length<=12
 tb:∃W,(∀done,Hs.Good (cp l).cs done->DA (cp l).cs done (List.range (cp l).cs.length)<=W)/\Tb W ((cp l).cs.length+1)<=900000
 n:(cp l).cs.length+1<=n
 K:K<=80000
 ops:∀c,c∈(cp l).cs->sm c.op
def HL(cs:List wM)(i k:Nat):List Nat:=(List.range cs.length).map fun j=>if j<i then bitsOf (fun k=>Hs.lN cs k j) cs.length else if j=i then bitsOf (fun k=>Hs.lN cs k i) k else 0
def Y4(f:aa)(l:List mT):Bs:=⟨f,l,(cp l).cs,bitsOf (Hq (cp l).cs) (cp l).cs.length,0,HL (cp l).cs (cp l).cs.length 0⟩
theorem yk(cs:List wM)(i k:Nat):(HL cs i k).length=cs.length:=by simp[HL]
def HM{cs:List wM}{i k j:Nat}(hj:j<cs.length):(HL cs i k)[j]?=some (if j<i then bitsOf (fun k=>Hs.lN cs k j) cs.length else if j=i then bitsOf (fun k=>Hs.lN cs k i) k else 0):=by
 simp_all [HL]
theorem Xp(cs:List wM)(i:Nat):HL cs i cs.length=HL cs (i+1) 0:=by
 refine cT fun j hj=>?_
 by_cases h1:j<i
 ·rw[aZ h1,aZ aH]
 ·rw[aQ h1]
  by_cases h2:j=i
  ·grind
  ·rw[aQ h2,aQ aH]
   by_cases h3:j=i+1
   ·rw[aZ h3]; rfl
   grind
theorem Xq(cs:List wM):HL cs 0 0=List.replicate cs.length 0:=by
 unfold HL;refine ct fun j=>?_
 rw[aX,iX]
 by_cases hj:j<cs.length
 ·rw[jk hj];simp only[ep,jL,aE];split<;>rfl
 grind
theorem Ka{cs:List wM}{i k:Nat}(h:Hs.lN cs k i=false):HL cs i (k+1)=HL cs i k:=by
 grind [HL,bitsOf]
theorem abR{cs:List wM}{i k:Nat}(h:Hs.lN cs k i=true):(HL cs i k).set i (bitsOf (fun k=>Hs.lN cs k i) k ||| 2 ^ k)=HL cs i (k+1):=by
 refine ct fun j=>?_
 rcases bA j _ with hj|hj
 ·rw[fK,HM hj,HM hj,yk]
  by_cases h1:i=j
  ·subst h1;rw[aZ rfl,aZ hj,aQ (ia _),aZ rfl,bitsOf,h,aZ rfl]
  grind
 grind [yk]
def anK{n K:Nat}{f:aa}{l:List mT}(h:th n K f l):Lk (Y4 f l):=by
 refine⟨by have:=h.Sr; show(cp l).cs.length<=60; omega,rfl,yk _ _ _,fun j hj=>?_,fun c hc=>?_,fun c hc e he=>?_⟩
 ·show(HL _ _ 0)[j]?=_
  have hj:j<(cp l).cs.length:=hj;rw[HM hj,aZ hj]; rfl
 ·obtain⟨x,h1,h2,_⟩:=(zL l c hc).1;exact⟨x,h1,h2,h.ops c hc⟩
 ·exact(zL l c hc).2 e he
def ajo:∀r,r<=9->Tb 60 r<=900000:=mw
def aeX:∀r,r<=13->Tb 1 r<=900000:=mw
def X3{cs:List wM}(h:cs.length<=8):∃W,(∀done,Hs.Good cs done->DA cs done (List.range cs.length)<=W)/\Tb W (cs.length+1)<=900000 :=
 ⟨60,fun done hg=>by have:=IT hg; omega,ajo _ aH⟩
noncomputable def vn(n:Nat)(f:aa)(l:List mT):Option (List Nat):=(Hs.wS oa ji (cp l).cs n f [] []).1
section
attribute [local irreducible] eS fI lx gK dZ kr aq aR cu bJ
theorem M8(c:wM):decide (0<=wk c)=c.e.isSome:=by
 grind [wk]
def N1{n K:Nat}{f:aa}{l:List mT}(h:th n K f l):∃s:TS,(∀ord,vn n f l=some ord->List.take s.k (List.map qk s.ox)=ord.map fun i=>qk (CL (cp l).cs i)) /\
  ∀B,eS (aq (rN n)) LL.results B [] LL.body (ef 0 [.agg (cg f),uT l]) [] =
   some ((ag.tuple [match vn n f l with|some _ => .cE 8 s.ov 1 0 s.k|none => .slice .c0 [],.bool (vn n f l).isSome]).kK B (kD (Y4 f l) s),iB B (kD (Y4 f l) s)):=by
 have hfew:=h.Sr;have qc:=fun M=>lT (n:=n) (lE (cO (c30 h.h) M))
 have hn:(cp l).cs.length<=12:=h.Sr;obtain⟨W,hW,hTb⟩:=h.tb;obtain⟨s',hin,hA⟩:=X4 (W:=W) (anK h) hW n ((cp l).cs.length+1) h.n f K [] [] ⟨[],[],0,[],0⟩ (by show(cp l).cs.length+1=_; simp) h.fb (by have:=h.K; omega) ⟨lA,fun k hk=>by cases hk⟩ (Df.nil 11 []) (fun k=>rfl) jO (av _) (by simp only; omega)
 have hin':=Kv hin;have ho:vn n f l=(Hs.wS oa ji (Y4 f l).cs n f [] []).1:=rfl;rw[ho];generalize Hs.wS oa ji (Y4 f l).cs n f [] []=X at hin' hA;obtain⟨o,lo⟩:=X;have hout:=hA.out;obtain⟨m2,r2,ov2,ox2,k2⟩:=s';simp only[kD,Y4,ji,wF,aV,yk,show eKu ([]:SM)=[] from rfl,show pk Lz []=[] from rfl,show xP 0 = .int .u64 0 from rfl] at hin'
 simp only[nR,aP] at hout;refine⟨⟨m2,r2,ov2,ox2,k2⟩,?_,fun B=>?_⟩
 ·rintro ord rfl;rw[<-ec,hout,gI]; rfl
 simp only[LL,Rg,qc,EW,seval]
 refine pq (xs:=(cp l).cs) aH (fun i (E:Nat)=>E=bitsOf (Hq (cp l).cs) i) (fun _ _=>()) (fun _ i=>[(2,cC 0),(3,cC 1),(6,cC 2),(7,cC 3),(20,gv ((cp l).cs.map qx)),(21,aD (cp l).cs.length),(22,aD i)])
  (fun E=>[cF (cg f),cF [uT l],cF [gv ((cp l).cs.map qx)],cF [xP E]]) (fun _=>_) (fun E hE=>?_) (fun pre x post E e hx cQ hw h0 hm hE hi=>?_) 0 rfl
 ·have rmn:cB (cp l).cs.length 8=True:=qV;have hrep:List.replicate (cp l).cs.length (ag.agg [ag.int IntKind.u64 0]).norm=(HL (cp l).cs 0 0).map xP:=by rw[Xq,gX]; rfl
  simp only[Rg,bq,rmn,hrep,EW,seval]
  refine pq (xs:=(cp l).cs) aH (fun i (rd:List Nat)=>rd=HL (cp l).cs i 0) (fun _ _=>()) (fun _ i=>[(2,cC 0),(3,cC 1),(6,cC 2),(7,cC 3),(10,cC 5),(38,gv ((cp l).cs.map qx)),(39,aD (cp l).cs.length),(40,aD i)])
   (fun rd=>[cF (cg f),cF [uT l],cF [gv ((cp l).cs.map qx)],cF [xP E],.arr 1 0 (rd.map xP),cF [.cE 4 0 1 0 (cp l).cs.length]]) (fun _=>_) (fun rd hrd=>?_) (fun pre x post rd e hx cQ hw h0 hm hrd hi=>?_) (HL (cp l).cs 0 0) rfl
  ·subst hE;subst hrd;cases o with
   |none =>
    simp only[cU] at hin';simp only[Rg,bq,nq,AD,hin',kD,Y4,wF,iB,ec,cU,bQ,yk,EW,seval]
    done
   |some ord =>
    simp only[bQ] at hin';simp only[Rg,bq,nq,AD,hin',kD,Y4,wF,iB,ec,cU,bQ,yk,EW,seval]
    done
  ·have hpl:=(aj.1 hx).1;simp only[Rg,cQ,hx,j5,kR,BS,Bm,EW,seval]
   refine pq (xs:=(cp l).cs) aH (fun k (rd:List Nat)=>rd=HL (cp l).cs pre.length k) (fun _ _=>()) (fun _ k=>[(2,cC 0),(3,cC 1),(6,cC 2),(7,cC 3),(10,cC 5),(11,qk pre.length),(12,cC 6),(38,gv ((cp l).cs.map qx)),(39,aD (cp l).cs.length),(40,qk pre.length),(45,gv ((cp l).cs.map qx)),(46,aD (cp l).cs.length),(47,aD k)])
    (fun rd=>[cF (cg f),cF [uT l],cF [gv ((cp l).cs.map qx)],cF [xP E],.arr 1 0 (rd.map xP),cF [.cE 4 0 1 0 (cp l).cs.length],cF (qD x)]) (fun _=>_) (fun rd' hrd'=>?_) (fun pre' y post' rd' e' hy hlt' hw' h0' hm' hrd' hi'=>?_) rd hrd
   ·have i1:=hi rd' (by rw[hrd',Xp])
    simp only[Rg,bq,hw,EW,seval];exact i1
   ·have hpl':=(aj.1 hy).1;have hen:=M8 y;have hah:Hs.lN (cp l).cs pre'.length pre.length=(match y.e with|some e=>decide (e<x.b)|none=>false):=by simp only[Hs.lN,hx,hy]<;>cases y.e<;>rfl
    have hat:rd'[pre.length]?=some (bitsOf (fun k=>Hs.lN (cp l).cs k pre.length) pre'.length):=by rw[hrd',HM hpl,aQ (ia _),aZ rfl]
    have hlr:((pre.length:Int)<(((cp l).cs.length-0:Nat):Int))=True:=cQ;have hsl:=XN (k:=pre'.length) aH;simp only[eN] at hsl;have hor:=Tq (x4 (fun k=>Hs.lN (cp l).cs k pre.length) (n:=pre'.length) aH) (n:=2 ^ pre'.length) (lC aH aH)
    cases hye:y.e with
    |none =>
     rw[hye] at hen hah;have i1:=hi' rd' (by rw[hrd',Ka hah])
     simp only[Rg,hlt',hy,hw',hen,cU,j5,kR,BS,vl,Bm,EW,seval];exact i1
    |some e2 =>
     have hce:wk y=(e2:Int):=by unfold wk; rw[hye]
     rw[hye] at hen hah;cases hd:decide (e2<x.b)
     ·have i1:=hi' rd' (by rw[hrd',Ka (hah.trans hd)])
      have hd2:decide ((e2:Int)<(x.b:Int))=false:=by simp at hd ⊢; omega
      simp only[Rg,hlt',hy,hw',hce,hd2,j5,kR,BS,zn,vl,Bm,EW,seval];exact i1
     ·have i1:=hi' (rd'.set pre.length (bitsOf (fun k=>Hs.lN (cp l).cs k pre.length) pre'.length ||| 2 ^ pre'.length)) (by rw[hrd',abR (hah.trans hd)])
      have hd2:decide ((e2:Int)<(x.b:Int))=true:=by simp at hd ⊢; omega
      simp only[jg] at i1;have hsr:∀v,jo (List.map xP rd') pre.length v=(List.map xP rd').set pre.length v:=fun v=>fH _ _ _
      simp only[Rg,hlt',hy,hw',hce,hd2,hlr,hat,hsl,hor,hsr,j5,kR,BS,zn,vl,Bm,EW,seval];exact i1
 ·have hpl:=(aj.1 hx).1;have hEl:E<2 ^ 64:=by rw[hE]; exact x4 _ aH
  have hsl:=XN (k:=pre.length) aH;simp only[eN] at hsl;have hor:=Tq hEl (n:=2 ^ pre.length) (lC aH aH);have hen:=M8 x;have hib:Hq (cp l).cs pre.length=x.e.isSome:=by simp only[Hq,hx]
  cases hs:x.e.isSome
  ·have i1:=hi E (by rw[hE,bitsOf,hib,hs]; simp)
   simp only[Rg,cQ,hx,hw,hen,hs,j5,kR,BS,vl,Bm,EW,seval];exact i1
  ·have i1:=hi (E ||| 2 ^ pre.length) (by rw[hE,bitsOf,hib,hs]; rfl)
   simp only[Rg,cQ,hx,hw,hen,hs,hsl,hor,j5,kR,BS,vl,Bm,EW,seval];exact i1
noncomputable def E0(n:Nat):zA:=lu (rN n) 15 (HG (aq (rN n)) LL)
def ab0(n:Nat):uQ Tryz.prog (E0 n):=oE (S7 n).1 ft fun h=>QN ft (MC n) func15 auu h
def lO'{n f:Nat}{a:List ag}{M:aC}{x:ag×aC}(h:aq (rN n) f a M=some x):aq (E0 n) f a M=some x:=p6 rfl rfl h
def lO{n f:Nat}{vs:List ag}{M:aC}{x:ag×aC}(h:aR (aq (rN n)) f vs M=some x):aR (aq (E0 n)) f vs M=some x:=by
 obtain⟨a,B,y,h1,h2⟩:=oV h;exact h2 _ (lO' h1)
def c15{n K:Nat}{f:aa}{l:List mT}(h:th n K f l):aq (E0 n) 15 [.agg (cg f),uT l] []=some (.tuple [gv (((vn n f l).getD []).map fun i=>qk (CL (cp l).cs i)),.bool (vn n f l).isSome],[]):=by
 obtain⟨s,h1,h2⟩:=N1 h;refine eP (g:=HG (aq (rN n)) LL) rfl (aiB rfl ((h2 0).trans ?_));cases ho:vn n f l with
 |none=>rfl
 |some ord =>
  have:=h1 ord ho;simp[ag.kK,ag.ki,ag.jM,ag.jH,ag.jy,kD,iB,<-this]
def PT(l:List Nat):(l.map qk).all ag.isI=true:=by induction l<;>simp_all [qk,ag.isI]
def asF{n K:Nat}{f:aa}{l:List mT}(h:th n K f l){ord:List Nat}(ho:vn n f l=some ord){M:aC}{id ver sz:Nat}(hM:M[id]?=some (.arr sz ver (l.map rR))) :
  aq (E0 n) 15 [.agg (cg f),.cE id ver sz 0 l.length] M=some (.tuple [gv (ord.map fun i=>qk (CL (cp l).cs i)),.bool true],M):=by
 obtain⟨s,h1,h2⟩:=N1 h;rw[ho] at h2;have h3:=NG rfl h2 (cI _);have e8:8<(kD (Y4 f l) s).length:=by rw[xt]; omega
 simp only[ag.kK,ag.ki,ag.jM,ag.jH,ag.jy,aK,aV,e8,aF,bQ] at h3;have h4:=aiA (sz:=sz) (ys:=s.ox.map qk) (s2:=1) hM (show(ag.agg (cg f)).plain=true from ah7 f) h3 (by simp[iB,kD]; rfl) (PT _)
 rw[cz,h1 ord ho] at h4;exact eP (g:=HG (aq (rN n)) LL) rfl h4
def Tw{n K:Nat}{f:aa}{l:List mT}(h:th n K f l)(M:aC):aR (aq (E0 n)) 15 [.agg (cg f),uT l] M=some (.tuple [gv (((vn n f l).getD []).map fun i=>qk (CL (cp l).cs i)),.bool (vn n f l).isSome],M) :=
 cO (c15 h) M
def c18{n K:Nat}{f:aa}{l:List mT}(h:th n K f l):aq (E0 n) 18 [.agg (cg f),uT l] []=some (.bool (vn n f l).isSome,[]):=by
 have q:=fun M=>Tw h M
 refine aB ?_;simp only[alY,E18,nq,AD,yx,Bn,Fk,aF,q,EW,seval]
 done
def k18{n K:Nat}{f:aa}{l:List mT}(h:th n K f l)(M:aC):aR (aq (E0 n)) 18 [.agg (cg f),uT l] M=some (.bool (vn n f l).isSome,M) :=
 cO (c18 h) M
end
def Ta(cs:List wM):Hs.Good cs []:=⟨lA,fun k hk=>by cases hk⟩
def Qu{n:Nat}{f:aa}{l:List mT}(hn:(cp l).cs.length+1<=n):match vn n f l with
  |some ord=>Hs.pP oa (cp l).cs f [] ord
  |none=>¬ ∃ord,Hs.pP oa (cp l).cs f [] ord:=by
 have:=(Hs.Kx (step:=oa) (key:=ji) (fun a b h=>Wz h) (cs:=(cp l).cs) n f [] [] (Ta _) gr (fun p hp=>by cases hp)).2
 exact this
end Go.Proofs.YteoamaffclmdbaaGreatDoor
namespace Go.Abs
open Go
def HE(M X:aC)(k:Nat):nth (M++X) (M.length+k)=nth X k:=by rw[fe,fe,bj (ko _ _)]; simp
def JX(M X:aC):nth (M++X) M.length=nth X 0:=HE M X 0
def HQ(M X:aC)(k:Nat)(c:cV):jo (M++X) (M.length+k) c=M++jo X k c:=by
 rw[fH,fH,List.set_append_right _ _ (ko _ _)]; simp
def Kj(M X:aC)(c:cV):jo (M++X) M.length c=M++jo X 0 c:=HQ M X 0 c
end Go.Abs
namespace Go.Proofs.YteoamaffclmdbaaGreatDoor
open Go Go.Abs
def II(a:sR):(Zf a).cells=cN a:=rfl
structure RS where
 f:aa
 out:List mT
 st:List Nat
 ops:List jz
 lQ:List sR
 calls:Nat
def rQ(t:uJ):Nat:=t.bF.toNat % 3
def vm(t:uJ):jz:={ t.op with bF:=(rQ t:Nat) }
def HX(fR:Nat)(s:RS)(t:uJ):RS :=
 match (s.st[rQ t]?).getD 3 with
 |0=>if s.calls=fR then s else { s with out:=s.out++[CM (rQ t) t.op],st:=s.st.set (rQ t) 1,ops:=s.ops.set (rQ t) (vm t),calls:=s.calls+1 }
 |1=>{ s with f:=(oa s.f ((s.ops[rQ t]?).getD AJ)).1,lQ:=s.lQ.set (rQ t) (oa s.f ((s.ops[rQ t]?).getD AJ)).2,st:=s.st.set (rQ t) 2 }
 |2=>{ s with out:=s.out++[Ep (rQ t) ((s.lQ[rQ t]?).getD vq)],st:=s.st.set (rQ t) 0 }
 |_=>s
def XF(f:aa):RS:=⟨f,[],[0,0,0],[AJ,AJ,AJ],[vq,vq,vq],0⟩
structure RI(K:Nat)(fR i:Nat)(s:RS):Prop where
 fb:FB (K+200*i) s.f
 out:s.out.length<=i
 st:s.st.length=3
 lt:∀(k v:Nat),s.st[k]?=some v->v<3
 ops:s.ops.length=3
 ok:∀o,o∈s.ops->sm o
 lQ:s.lQ.length=3
 calls:s.calls<=i
def Bk(M0:aC):Prop:=∀B M,M0.length<=B->M0.map (cV.back B M)=M0
section
attribute [local irreducible] eS fI lx gK dZ kr aq aR cu bJ
end
end Go.Proofs.YteoamaffclmdbaaGreatDoor
namespace Go.Proofs.YteoamaffclmdbaaGreatDoor
open Go Go.Abs
def vP(l:List mT):Int->Bool:=l.foldl (fun o x c=>if c=x.bF then x.kind==1 else o c) fun _=>false
def qU(l:List mT)(x:mT)(c:Int):vP (l++[x]) c=if c=x.bF then x.kind==1 else vP l c:=by
 simp[vP]
inductive WF:List mT->Prop
 |nil:WF []
 |snoc {l:List mT} {x:mT}:WF l->0<=x.bF->(x.kind=1\/x.kind=2)->vP l x.bF = !(x.kind==1)->WF (l++[x])
def ze(c:Int)(y:mT):∀(r:List mT)(k:Nat),Cd c (r++[y]) k=if Cd c r k = -1 then (if y.bF==c then ((k+r.length:Nat):Int) else -1) else Cd c r k
 | [],k=>by
  rfl
 |x::r,k=>by
  rw[aG,Cd,Cd];split
  ·rw[aQ dw]
  ·rw[ze c y r _,au,show k+1+r.length=k+(r.length+1) by omega]
def A4{l:List mT}{x:mT}{k:Nat}(h:k<=l.length):(l++[x]).drop k=l.drop k++[x]:=jO
structure Ends(l:List mT):Prop where
 en:∀(i:Nat)(c:wM),(cp l).cs[i]?=some c->∃x,l[c.b]?=some x/\Cd x.bF (l.drop (c.b+1)) (c.b+1)=wk c/\(c.e=none->(cp l).last x.bF.toNat=i/\vP l x.bF=true)
 op:∀cl:Int,0<=cl->vP l cl=true->∃c,(cp l).cs[(cp l).last cl.toNat]?=some c/\c.e=none/\∃x,l[c.b]?=some x/\x.bF=cl
 cl:∀x,x∈l->0<=x.bF
theorem Zl{l:List mT}(h:WF l):Ends l:=by
 induction h with
 |nil=>exact⟨fun i c h=>by simp[cp,Hs.gD] at h,fun cl _ h=>by simp[vP] at h,fun x h=>by cases h⟩
 | @snoc l x hw hc hk ho ih =>
  have up:∀(i:Nat)(y:mT),l[i]?=some y->(l++[x])[i]?=some y:=fun i y h=>by rw[aO (aj.1 h).1]; exact h
  have last:(l++[x])[l.length]?=some x:=dw
  have hcl:∀y,y∈l++[x]->0<=y.bF:=fun y hy=>by
   rcases bo.1 hy with hy|hy
   ·exact ih.cl y hy
   ·simp at hy; subst hy; exact hc
  cases hb:x.kind==1
  ·-- an end
   have hop:=ho;rw[hb] at hop;obtain⟨c0,h1,h2,x0,h3,h4⟩:=ih.op x.bF hc hop
   have hcs:(cp (l++[x])).cs=(cp l).cs.modify ((cp l).last x.bF.toNat) fun c=>{ c with e:=some l.length,lQ:=x.lQ }:=by
    rw[nj]; unfold Hs.jh xO; simp only[hb,af,aE,vB]
   have hla:(cp (l++[x])).last=(cp l).last:=by
    rw[nj]; unfold Hs.jh xO; simp only[hb,af,aE]
   refine⟨fun i c hi=>?_,fun cl hcl0 hopen=>?_,hcl⟩
   ·rw[hcs,iU] at hi;cases hci:(cp l).cs[i]? with
    |none=>rw[hci] at hi; cases hi
    |some d =>
     rw[hci] at hi;simp only[Option.map_eq_map,ep] at hi;obtain⟨y,g1,g2,g3⟩:=ih.en i d hci;have hbl:=(aj.1 g1).1;have hes:=ze y.bF x (l.drop (d.b+1)) (d.b+1);rw[g2,hU,show d.b+1+(l.length-(d.b+1))=l.length by omega] at hes
     split at hi
     ·rename_i hii;injection hi with hi
      have hd:d=c0:=by rw[hii,hci] at h1; injection h1
      subst hi;subst hd;rw[g1] at h3; injection h3 with e3; subst e3
      refine⟨y,up _ _ g1,?_,fun hn=>by cases hn⟩
      have e1:wk d = -1:=by unfold wk; rw[h2]
      show Cd y.bF ((l++[x]).drop (d.b+1)) (d.b+1)=(l.length:Int)
      rw[A4 aH,hes,aZ e1,aZ (by rw[h4]; simp)]
     ·rename_i hii;injection hi with hi
      subst hi;refine⟨y,up _ _ g1,?_,fun hn=>?_⟩
      ·rw[A4 aH,hes]
       grind [wk]
      ·obtain⟨g4,g5⟩:=g3 hn;rw[hla,qU];refine⟨g4,?_⟩;rw[aQ]
       ·exact g5
       ·intro hxy;exact hii (by rw[<-hxy]; exact g4)
   ·rw[qU] at hopen;split at hopen
    ·rw[hb] at hopen; cases hopen
    ·rename_i hne;obtain⟨c,k1,k2,z,k3,k4⟩:=ih.op cl hcl0 hopen;refine⟨c,?_,k2,z,up _ _ k3,k4⟩;rw[hla,hcs,iU,k1]
     grind
  ·-- a beginning
   have hcs:(cp (l++[x])).cs=(cp l).cs++[⟨l.length,none,x.op,x.lQ⟩]:=by
    rw[nj]; unfold Hs.jh xO; simp only[hb,aF,vB]
   have hla:∀k,(cp (l++[x])).last k=if k=x.bF.toNat then (cp l).cs.length else (cp l).last k:=fun k=>by
    rw[nj]; unfold Hs.jh xO; simp only[hb,aF]
   have hnop:=ho;rw[hb] at hnop;refine⟨fun i c hi=>?_,fun cl hcl0 hopen=>?_,hcl⟩
   ·rw[hcs] at hi;rcases bA i (cp l).cs.length with hil|hil
    ·rw[aO hil] at hi;obtain⟨y,g1,g2,g3⟩:=ih.en i c hi;have hbl:=(aj.1 g1).1;have hes:=ze y.bF x (l.drop (c.b+1)) (c.b+1);rw[g2] at hes;refine⟨y,up _ _ g1,?_,fun hn=>?_⟩
     ·rw[A4 aH,hes]
      grind [wk]
     ·obtain⟨g4,g5⟩:=g3 hn;have hne:¬y.bF=x.bF:=fun e=>by rw[<-e,g5] at hnop; cases hnop
      have hy0:=ih.cl y (aJ g1);rw[hla,qU,aQ hne,aQ aH];exact⟨g4,g5⟩
    ·rw[bj hil] at hi
     have hi0:i-(cp l).cs.length=0:=by
      have:=(aj.1 hi).1;simpa using this
     rw[hi0] at hi;simp at hi;subst hi;refine⟨x,last,?_,fun _=>⟨?_,?_⟩⟩
     ·rw[ir dw]; rfl
     ·rw[hla,aZ rfl]; omega
     ·rw[qU,aZ rfl,hb]
   ·rw[qU] at hopen;split at hopen
    ·rename_i he;subst he;refine⟨⟨l.length,none,x.op,x.lQ⟩,?_,rfl,x,last,rfl⟩;rw[hla,aZ rfl,hcs]; simp
    ·rename_i hne;obtain⟨c,k1,k2,z,k3,k4⟩:=ih.op cl hcl0 hopen;refine⟨c,?_,k2,z,up _ _ k3,k4⟩;rw[hla,aQ aH,hcs,aO (aj.1 k1).1];exact k1
def yi{o:jz}(h:sm o)(c:Int):sm { o with bF:=c }:=⟨h.dK,h.u9,h.data⟩
def RI.zero{K:Nat}{f:aa}(h:FB K f)(fR:Nat):RI K fR 0 (XF f):=by
 refine⟨h.mono aH,av _,rfl,fun k v hk=>?_,rfl,fun o ho=>?_,rfl,av _⟩
 ·have:v∈[0,0,0]:=aJ hk;simp at this; omega
 ·simp[XF] at ho;subst ho;exact⟨by simp[AJ],by simp[AJ],by simp[AJ]⟩
def E1(fR:Nat)(s:RS)(t:uJ){v:Nat}(hv:s.st[rQ t]?=some v)(hv3:v<3){o:jz}(ho:s.ops[rQ t]?=some o){a:sR}(ha:s.lQ[rQ t]?=some a) :
  (v=0/\s.calls=fR/\HX fR s t=s)\/(v=0/\s.calls≠fR/\HX fR s t={ s with out:=s.out++[CM (rQ t) t.op],st:=s.st.set (rQ t) 1,ops:=s.ops.set (rQ t) (vm t),calls:=s.calls+1 }) \/
  (v=1/\HX fR s t={ s with f:=(oa s.f o).1,lQ:=s.lQ.set (rQ t) (oa s.f o).2,st:=s.st.set (rQ t) 2 })\/(v=2/\HX fR s t={ s with out:=s.out++[Ep (rQ t) a],st:=s.st.set (rQ t) 0 }):=by
 unfold HX;rw[hv,ho,ha]
 match v,hv3 with
 |0,_ =>
  by_cases h:s.calls=fR
  ·exact .inl ⟨rfl,h,by simp[h]⟩
  ·exact .inr (.inl ⟨rfl,h,by simp[h]⟩)
 |1,_=>exact .inr (.inr (.inl ⟨rfl,rfl⟩))
 |2,_=>exact .inr (.inr (.inr ⟨rfl,rfl⟩))
def R0(t:uJ):rQ t<3:=nA _ aH
def RI.amM{K fR i:Nat}{s:RS}(h:RI K fR i s)(t:uJ):∃v o a,s.st[rQ t]?=some v/\v<3/\s.ops[rQ t]?=some o/\sm o/\s.lQ[rQ t]?=some a:=by
 have hc:=R0 t;have h1:=ai (l:=s.st) (i:=rQ t) (by rw[h.st]; exact hc)
 have h2:=ai (l:=s.ops) (i:=rQ t) (by rw[h.ops]; exact hc)
 have h3:=ai (l:=s.lQ) (i:=rQ t) (by rw[h.lQ]; exact hc)
 exact⟨_,_,_,h1,h.lt _ _ h1,h2,h.ok _ (aJ h2),h3⟩
def Mz{l:List Nat}(h:∀(k v:Nat),l[k]?=some v->v<3){c x:Nat}(hx:x<3)(k v:Nat)(hk:(l.set c x)[k]?=some v):v<3:=by
 rw[fK] at hk;split at hk
 ·split at hk
  ·injection hk with hk; omega
  ·cases hk
 ·exact h k v hk
def RI.step{K fR i:Nat}{s:RS}(h:RI K fR i s){t:uJ}(ht:sm t.op)(hK:K+200*(i+1)<=89000):RI K fR (i+1) (HX fR s t):=by
 obtain⟨v,o,a,h1,h2,h3,h4,h5⟩:=h.amM t;have hfb:FB (K+200*(i+1)) s.f:=h.fb.mono aH;rcases E1 fR s t h1 h2 h3 h5 with ⟨_,_,e⟩|⟨_,_,e⟩|⟨_,e⟩|⟨_,e⟩<;>rw[e]
 ·exact⟨hfb,by have:=h.out; omega,h.st,h.lt,h.ops,h.ok,h.lQ,by have:=h.calls; omega⟩
 ·refine⟨hfb,by have:=h.out; simp; omega,by simp[h.st],Mz h.lt aH,by simp[h.ops],fun x hx=>?_,h.lQ,by have:=h.calls; simp only; omega⟩
  rcases iA hx with hx|hx
  ·exact h.ok x hx
  ·subst hx; exact yi ht _
 ·refine⟨?_,by have:=h.out; simp only; omega,by simp[h.st],Mz h.lt aH,h.ops,h.ok,by simp[h.lQ],by have:=h.calls; simp only; omega⟩
  have:=Hf h.fb aH o;exact this.mono aH
 ·refine⟨hfb,by have:=h.out; simp; omega,by simp[h.st],Mz h.lt aH,h.ops,h.ok,h.lQ,by have:=h.calls; simp only; omega⟩
def EK(s:RS):Hs.Rn aa jz sR:=⟨s.out.map xO,s.f,fun c=>(s.st[c]?).getD 0,fun c=>(s.ops[c]?).getD AJ,fun c=>(s.lQ[c]?).getD vq⟩
structure RW(f:aa)(fR:Nat)(s:RS):Prop where
 ok:Hs.tZ oa f (EK s)
 wf:WF s.out
 op:∀c:Nat,vP s.out c = !((s.st[c]?).getD 0==0)
 ev:∀x,x∈s.out->0<=x.bF/\x.bF<3/\sm x.op/\(x.kind=1->x.op.bF=x.bF)/\(x.kind=1\/x.kind=2)
 calls:(cp s.out).cs.length=s.calls
 fR:s.calls<=fR
 an:∀x,x∈s.out->x.lQ.names.length<=100000/\x.lQ.data.length<=100000
 an2:∀a,a∈s.lQ->a.names.length<=100000/\a.data.length<=100000
def RW.zero(f:aa)(fR:Nat):RW f fR (XF f):=by
 refine⟨?_,.nil,fun c=>?_,fun x h=>by simp[XF] at h,rfl,cI _,fun x h=>by simp[XF] at h,fun a h=>?_⟩
 ·have:EK (XF f)=⟨[],f,fun _=>0,(EK (XF f)).op,(EK (XF f)).lQ⟩:=by
   unfold EK XF;congr 1;funext c
   match c with
   |0|1|2=>rfl
   |n+3=>rfl
  rw[this];exact Hs.tZ.new f _ _
 ·match c with
  |0|1|2=>rfl
  |n+3=>rfl
 ·simp[XF] at h;subst h;simp[vq]
def vI{α:Type}(l:List α)(c:Nat)(x d:α)(hc:c<l.length):(fun k=>((l.set c x)[k]?).getD d)=fun k=>if k=c then x else (l[k]?).getD d:=by
 funext k;rw[fK]
 by_cases h:c=k
 ·subst h; rw[aZ rfl,aZ hc,aZ rfl]; rfl
 ·rw[aQ h,aQ (fun e=>h e.symm)]
def RW.step{f:aa}{K fR i:Nat}{s:RS}(hI:RI K fR i s)(h:RW f fR s){t:uJ}(ht:sm t.op):RW f fR (HX fR s t):=by
 obtain⟨v,o,a,h1,h2,h3,h4,h5⟩:=hI.amM t;have hc:=R0 t;have hst:rQ t<s.st.length:=by rw[hI.st]; exact hc
 have hos:rQ t<s.ops.length:=by rw[hI.ops]; exact hc
 have has:rQ t<s.lQ.length:=by rw[hI.lQ]; exact hc
 have e1:(EK s).st (rQ t)=v:=by show(s.st[rQ t]?).getD 0=v; rw[h1]; rfl
 have e2:(EK s).op (rQ t)=o:=by show(s.ops[rQ t]?).getD AJ=o; rw[h3]; rfl
 have e3:(EK s).lQ (rQ t)=a:=by show(s.lQ[rQ t]?).getD vq=a; rw[h5]; rfl
 have hop:=h.op (rQ t);rw[h1] at hop;simp only[bC] at hop;have hg:=fun x=>congrFun (vI s.st (rQ t) x 0 hst)
 rcases E1 fR s t h1 h2 h3 h5 with ⟨_,_,e⟩|⟨hv,hm,e⟩|⟨hv,e⟩|⟨hv,e⟩<;>rw[e]
 ·exact h
 ·subst hv;refine⟨?_,?_,fun c=>?_,fun x hx=>?_,?_,?_,fun x hx=>?_,h.an2⟩
  ·have:=h.ok.begin e1 (vm t) vq;unfold EK at this ⊢;rw[aW];simp only[vI s.st (rQ t) 1 0 hst,vI s.ops (rQ t) (vm t) AJ hos];exact this
  ·exact .snoc h.wf (jA _) (.inl rfl) (by rw[hop]; rfl)
  ·rw[qU];simp only[hg 1 c]
   by_cases hcc:c=rQ t
   ·subst hcc; simp
   ·rw[aQ aH,aQ hcc]; exact h.op c
  ·rcases bo.1 hx with hx|hx
   ·exact h.ev x hx
   ·simp at hx; subst hx;exact⟨jA _,by simp only; omega,yi ht _,fun _=>rfl,.inl rfl⟩
  ·rw[nj];unfold Hs.jh xO;simp only[show((1:Int)==1)=true from rfl,aF,aA,au,az,h.calls]
  ·have:=h.fR;simp only;omega
  ·rcases bo.1 hx with hx|hx
   ·exact h.an x hx
   ·simp at hx; subst hx; simp[vq]
 ·subst hv;refine⟨?_,h.wf,fun c=>?_,h.ev,h.calls,h.fR,h.an,fun x hx=>?_⟩
  ·have:=h.ok.afH e1;rw[e2] at this;unfold EK at this ⊢;simp only[vI s.st (rQ t) 2 0 hst,vI s.lQ (rQ t) (oa s.f o).2 vq has];exact this
  ·simp only[hg 2 c]
   by_cases hcc:c=rQ t
   ·subst hcc; rw[hop,aZ rfl]; rfl
   ·rw[aQ hcc]; exact h.op c
  ·rcases iA hx with hx|hx
   ·exact h.an2 x hx
   ·subst hx;have:=CY hI.fb.ok o;exact⟨by have:=this.names; omega,by have:=this.data; omega⟩
 ·subst hv;refine⟨?_,?_,fun c=>?_,fun x hx=>?_,?_,h.fR,fun x hx=>?_,h.an2⟩
  ·have:=h.ok.ends e1 AJ;rw[e3] at this;unfold EK at this ⊢;rw[aW];simp only[vI s.st (rQ t) 0 0 hst];exact this
  ·exact .snoc h.wf (jA _) (.inr rfl) (by rw[hop]; rfl)
  ·rw[qU];simp only[hg 0 c]
   by_cases hcc:c=rQ t
   ·subst hcc; simp
   ·rw[aQ aH,aQ hcc]; exact h.op c
  ·rcases bo.1 hx with hx|hx
   ·exact h.ev x hx
   ·simp at hx; subst hx;exact⟨jA _,by simp only; omega,⟨by simp[AJ],by simp[AJ],by simp[AJ]⟩,fun hk=>by simp at hk,.inr rfl⟩
  ·rw[nj];unfold Hs.jh xO;simp only[show((2:Int)==1)=false from rfl,af,aE,List.length_modify,h.calls]
  ·rcases bo.1 hx with hx|hx
   ·exact h.an x hx
   ·simp at hx; subst hx;exact h.an2 a (aJ h5)
def runN(f:aa)(m:List uJ)(fR:Nat):RS:=m.foldl (HX fR) (XF f)
def XH{f:aa}{K fR:Nat}(hf:FB K f):∀(m:List uJ),(∀t,t∈m->sm t.op)->K+200*m.length<=89000->RI K fR m.length (runN f m fR)/\RW f fR (runN f m fR):=by
 refine fun m=>Ol (P:=fun m=>(∀t,t∈m->sm t.op)->K+200*m.length<=89000->RI K fR m.length (runN f m fR)/\RW f fR (runN f m fR)) ?_ ?_ m
 ·intro _ _; exact⟨RI.zero hf fR,RW.zero f fR⟩
 ·intro l x ih ht hK;rw[aA,au,az] at hK;obtain⟨h1,h2⟩:=ih (fun t h=>ht t (fu _ h)) aH
  have hx:=ht x dw;have e:runN f (l++[x]) fR=HX fR (runN f l fR) x:=by unfold runN; rw[List.foldl_append]; rfl
  rw[e,aA,au,az];exact⟨h1.step hx aH,h2.step h1 hx⟩
abbrev Al:=Nat×jz×sR
def vt(l:List Al):List mT:=l.flatMap fun q=>[⟨1,q.1,q.2.1,vq⟩,⟨2,q.1,AJ,q.2.2⟩]
def yJ:aa->List uJ->List Al
 |_,[]=>[]
 |f,t::r=>(rQ t,vm t,(oa f (vm t)).2)::yJ (oa f (vm t)).1 r
def PH:aa->List uJ->aa
 |f,[]=>f
 |f,t::r=>PH (oa f (vm t)).1 r
def J9:∀(m:List uJ)(f:aa)(t:uJ),yJ f (m++[t])=yJ f m++[(rQ t,vm t,(oa (PH f m) (vm t)).2)]/\PH f (m++[t])=(oa (PH f m) (vm t)).1
 | [],f,t=>⟨rfl,rfl⟩
 |s::r,f,t=>by
  obtain⟨h1,h2⟩:=J9 r (oa f (vm s)).1 t;exact⟨by rw[aG,yJ,h1]; rfl,by rw[aG,PH,h2]; rfl⟩
def alj(B:Nat)(M:aC)(f:aa):List.map (ag.jM B M) (cg f)=cg f:=rfl
def afp(B:Nat)(M:aC)(f:aa):List.map (ag.jH B M) (cg f)=cg f:=rfl
def Ab:sQ.length=10:=rfl
def Hg:List.drop 10 sQ=[]:=rfl
abbrev al1(t:uJ):mT:=⟨1,rQ t,vm t,vq⟩
abbrev al2(t:uJ)(a:sR):mT:=⟨2,rQ t,AJ,a⟩
def Pu(M0:aC)(m:List uJ)(out:List mT)(ov i:Nat):Env:=[(1,Cb m),(2,.ptr M0.length 0),(5,.cE (M0.length+1) ov 17 0 out.length),(6,.int .i64 i)]
def Qa(M0:aC)(f:aa)(out:List mT)(ov:Nat):aC:=M0++[.cells (cg f),.arr 17 ov (out.map rR)]
def RA(l:List Al)(q:Al):vt (l++[q])=vt l++[⟨1,q.1,q.2.1,vq⟩]++[⟨2,q.1,AJ,q.2.2⟩]:=by simp[vt]
def C8:∀(m:List uJ)(f:aa),(yJ f m).length=m.length
 | [],_=>rfl
 |t::r,f=>by rw[yJ,au,au,C8 r]
def CV(l:List Al):(vt l).length=2*l.length:=by
 unfold vt;induction l with
 |nil=>rfl
 |cons q r ih=>rw[mZ,aA,ih]; simp; omega
def S6:∀(l:List uJ)(f:aa)(K:Nat),FB K f->K+200*l.length<=89000->FB (K+200*l.length) (PH f l)
 | [],_,_,h,_=>h
 |t::r,f,K,h,hK=>by
  rw[au] at hK;have:=S6 r (oa f (vm t)).1 (K+200) (Hf h aH _) aH;rw[au,show K+200*(r.length+1)=K+200+200*r.length by omega]
  exact this
section
attribute [local irreducible] eS fI lx gK dZ kr aq aR cu bJ
def KX{n K:Nat}{M0:aC}(h:Bk M0){m:List uJ}{f:aa}{out:List mT}{ov i B:Nat}{k:List Go.Abs.K}{t:uJ}(hf:FB K f)(ht:m[i]?=some t)(hi:i<12)(hto:sm t.op)(ho:out.length=2*i) :
  eS (aq (rN n)) [.tmp 4] B k (.loop [1,2,5,6] (sub b20 9)) (Pu M0 m out ov i) (Qa M0 f out ov) =
  eS (aq (rN n)) [.tmp 4] B k (.loop [1,2,5,6] (sub b20 9)) (Pu M0 m (out++[al1 t]++[al2 t (oa f (vm t)).2]) (ov+2) (i+1)) (Qa M0 (oa f (vm t)).1 (out++[al1 t]++[al2 t (oa f (vm t)).2]) (ov+2)):=by
 have hil:=(aj.1 ht).1;have cQ:((i:Int)<(m.length:Int))=True:=sL;have hl12:((i:Int)<12)=True:=sL;have hw:IntKind.i64.wrap ((i:Int)+1)=((i+1:Nat):Int):=by rw[gx aH aH]; rfl
 have hw8:IntKind.i64.wrap (t.bF.toNat:Int)=(t.bF.toNat:Int):=by have:=t.bF.toNat_lt; rw[gx aH aH]
 have hrem:((t.bF.toNat:Nat):Int).tmod 3=((rQ t:Nat):Int):=by unfold rQ; rfl
 have qd:=fun M=>lT (n:=n) (k29 f (vm t) hf.ok (yi hto _) M)
 have rm1:cB (out.length+1) 200=True:=qV;have rm2:cB (out.length+1+1) 200=True:=qV;have hM:=fun M=>h (M0.length+2) M aH
 have htk:∀(a b:cV)(X:aC),List.take (M0.length+2) (M0++(a::b::X))=M0++[a,b]:=fun a b X=>by
  rw[List.take_append,bt aH,show M0.length+2-M0.length=2 by omega]; rfl
 have g0:(M0.length<M0.length+2)=True:=sL;have g1:(M0.length+1<M0.length+2)=True:=sL;have hm1:List.map rR out++[ag.agg [aD 1,aD (rQ t),aD t.op.kind,aD (rQ t),.str t.op.dK,.str t.op.u9,aD t.op.n,aD t.op.m,aD t.op.handle,gv (t.op.data.map qB),aD 0,aD 0,aD 0,aD 0,aD 0,gv [],gv []]]=(out++[al1 t]).map rR:=by rw[aW]; rfl
 have htk1:List.take (out.length+1) ((out++[al1 t]).map rR)=(out++[al1 t]).map rR:=bt dw;generalize oa f (vm t)=D at qd ⊢;obtain⟨g,a⟩:=D;have hm2:(out++[al1 t]).map rR++[ag.agg [aD 2,aD (rQ t),aD 0,aD 0,.str [],.str [],aD 0,aD 0,aD 0,gv [],aD a.err,aD a.ar,aD a.kind,aD a.n,aD a.m,gv (a.names.map .str),gv (a.data.map qB)]]=(out++[al1 t,al2 t a]).map rR:=by rw[aW,aW]; simp[rR,pS,AJ]
 rw[bI];simp only[vm,eW,cN] at qd;simp only[Pu,Qa,cm,aG,aP,aA,au,az];simp only[E20,cQ,hl12,hw,hw8,hrem,ht,qd,rm1,rm2,hm1,htk1,hm2,Kz,sj,HE,JX,HQ,Kj,nq,AD,IY,yx,Fk,Bn,afp,Ab,Hg,Qz,htk,hM,g0,g1,aF,eW,cm,aG,aP,xi,qB,II,cN,G3,EW,seval];rw[aW,hM];rfl
def Dl{n K:Nat}{M0:aC}(h:Bk M0){m:List uJ}{f:aa}(hf:FB K f)(ht:∀t,t∈m->sm t.op)(hK:K<=80000):∀(d j ov:Nat),j+d=min m.length 12 ->
  ∃ov',∀B k,eS (aq (rN n)) [.tmp 4] B k (.loop [1,2,5,6] (sub b20 9)) (Pu M0 m (vt (yJ f (m.take j))) ov j) (Qa M0 (PH f (m.take j)) (vt (yJ f (m.take j))) ov) =
   eS (aq (rN n)) [.tmp 4] B k (.loop [1,2,5,6] (sub b20 9)) (Pu M0 m (vt (yJ f (m.take 12))) ov' (min m.length 12)) (Qa M0 (PH f (m.take 12)) (vt (yJ f (m.take 12))) ov')
 |0,j,ov,e=>by
  have:m.take j=m.take 12:=by
   rw[show j=min m.length 12 by omega]
   rcases Nat.le_total m.length 12 with h|h
   ·rw[gV h,bE,bt h]
   ·rw[Nat.min_eq_right h]
  exact⟨ov,fun B k=>by rw[this,show j=min m.length 12 by omega]⟩
 |d+1,j,ov,e=>by
  have hj:j<m.length:=aH;have htj:=ai hj;have htk:m.take (j+1)=m.take j++[m[j]]:=by rw[cD,htj]; rfl
  generalize m[j]=t at htj htk;obtain⟨ov',h2⟩:=Dl h hf ht hK d (j+1) (ov+2) aH;obtain⟨g1,g2⟩:=J9 (m.take j) f t;have dN:(m.take j).length=j:=by rw[cf]; omega
  have hfb:=S6 (m.take j) f K hf (by rw[dN]; omega)
  refine⟨ov',fun B k=>?_⟩
  have h1:=KX (n:=n) (B:=B) (k:=k) (ov:=ov) h hfb htj aH (ht t (aJ htj)) (out:=vt (yJ f (m.take j))) (by rw[CV,C8,dN])
  have h2:=h2 B k;rw[htk,g1,g2,RA] at h2;exact h1.trans h2
def OZ{n K:Nat}{M0:aC}(h:Bk M0){f:aa}(hf:FB K f){m:List uJ}(ht:∀t,t∈m->sm t.op)(hm:m.length<=100)(hK:K<=80000) :
  ∃ov,eS (aq (rN n)) LM.results (M0.length+2) [] LM.body (ef 0 [.agg (cg f),Cb m]) M0=some (.cE (M0.length+1) ov 17 0 (vt (yJ f (m.take 12))).length,M0++[cF (cg (PH f (m.take 12))),.arr 17 ov ((vt (yJ f (m.take 12))).map rR)]):=by
 obtain⟨ov,hl⟩:=Dl (n:=n) h hf ht hK (min m.length 12) 0 0 aH;refine⟨ov,?_⟩;have hM:=fun M=>h (M0.length+2) M aH
 have htk:∀(a b:cV)(X:aC),List.take (M0.length+2) (M0++(a::b::X))=M0++[a,b]:=fun a b X=>by
  rw[List.take_append,bt aH,show M0.length+2-M0.length=2 by omega]; rfl
 have e1:(M0.length+1<M0.length+2)=True:=sL;simp only[LM];simp only[E20,HE,JX,HQ,Kj,yx,Bn,aF,cm,aG,aP,EW,seval];refine(hl _ _).trans ?_;rw[bI];generalize vt (yJ f (m.take 12))=out;generalize PH f (m.take 12)=g;simp only[Pu,Qa];rcases bA 12 m.length with h12|h12
 ·have cQ:(((min m.length 12:Nat):Int)<(m.length:Int))=True:=sL;have hl12:(((min m.length 12:Nat):Int)<12)=False:=Yp;simp only[E20,cQ,hl12,afp,alj,htk,hM,e1,aW,aF,EW,seval]
 ·have cQ:(((min m.length 12:Nat):Int)<(m.length:Int))=False:=Yp;simp only[E20,cQ,afp,alj,htk,hM,e1,aW,aF,EW,seval]
end
def RB{n K:Nat}{M0:aC}(h:Bk M0){f:aa}(hf:FB K f){m:List uJ}(ht:∀t,t∈m->sm t.op)(hm:m.length<=100)(hK:K<=80000) :
  ∃ov,J2 (aq (rN n)) LM 2 [.agg (cg f),Cb m] M0=some (.cE (M0.length+1) ov 17 0 (vt (yJ f (m.take 12))).length,M0++[cF (cg (PH f (m.take 12))),.arr 17 ov ((vt (yJ f (m.take 12))).map rR)]):=by
 obtain⟨ov,key⟩:=OZ (n:=n) h hf ht hm hK;exact⟨ov,af3 rfl key dw⟩
section
attribute [local irreducible] eS fI lx gK dZ kr aq aR cu bJ
end
noncomputable def Ku:zA:=lu (lu (E0 13) 20 (J2 (aq (rN 13)) LM 2)) 14 (J2 (aq (rN 13)) alW 3)
def abZ:uQ Tryz.prog Ku:=oE (oE (ab0 13) ft (fun h=>(F7 ft (MC 13) func20 auw h).2)) ft (fun h=>(F7 ft (MC 13) func14 aut h).2)
def aiu:ny Tryz.prog (aq Ku):=qW ft abZ
def lH'{f:Nat}{a:List ag}{M:aC}{x:ag×aC}(h:aq (E0 13) f a M=some x):aq Ku f a M=some x:=p6 rfl rfl (p6 rfl rfl h)
def lH{f:Nat}{vs:List ag}{M:aC}{x:ag×aC}(h:aR (aq (E0 13)) f vs M=some x):aR (aq Ku) f vs M=some x:=by
 obtain⟨a,B,y,h1,h2⟩:=oV h;exact h2 _ (lH' h1)
def r20{K:Nat}{M0:aC}(h:Bk M0){f:aa}(hf:FB K f){m:List uJ}(ht:∀t,t∈m->sm t.op)(hm:m.length<=100)(hK:K<=80000) :
  ∃ov,aq Ku 20 [.agg (cg f),Cb m] M0=some (.cE (M0.length+1) ov 17 0 (vt (yJ f (m.take 12))).length,M0++[cF (cg (PH f (m.take 12))),.arr 17 ov ((vt (yJ f (m.take 12))).map rR)]):=by
 obtain⟨ov,h⟩:=RB (n:=13) h hf ht hm hK;exact⟨ov,eP (g:=J2 (aq (rN 13)) LM 2) rfl h⟩
section
attribute [local irreducible] eS fI lx gK dZ kr aq aR cu bJ
theorem c21(a b:sR)(hn:a.names.length<=100000):aq bX 21 [.agg (cN a),.agg (cN b)] []=some (.bool (decide (a=b)),[]):=by
 rw[acq];refine aB ?_;simp only[al3,Q2,cN,EW,seval];have hl:((a.names.length:Int)==(b.names.length:Int))=decide (a.names.length=b.names.length):=by rw[cr]; grind
 have hb:(a.data==b.data)=decide (a.data=b.data):=by rw[cr]; simp
 cases c1:a.err==b.err
 ·simp only[Q2,bne,c1,dH,cK,EW,seval]
 cases c2:a.ar==b.ar
 ·simp only[Q2,bne,c1,c2,dH,cv,cK,cW,EW,seval]
 cases c3:a.kind==b.kind
 ·simp only[Q2,bne,c1,c2,c3,dH,cv,cK,cW,EW,seval]
 cases c4:a.n==b.n
 ·simp only[Q2,bne,c1,c2,c3,c4,dH,cv,cK,cW,EW,seval]
 cases c5:a.m==b.m
 ·simp only[Q2,bne,c1,c2,c3,c4,c5,dH,cv,cK,cW,EW,seval]
 by_cases c6:a.names.length=b.names.length
 rotate_left
 ·have e:decide (a.names=b.names)=false:=gn fun h=>c6 (by rw[h])
  simp only[Q2,bne,c1,c2,c3,c4,c5,hl,gn c6,e,dH,cv,cK,cW,EW,seval]
 cases c7:decide (a.data=b.data)
 ·simp only[Q2,bne,c1,c2,c3,c4,c5,hl,iR c6,hb,c7,vz,dH,cv,dR,EW,seval]
 simp only[Q2,bne,c1,c2,c3,c4,c5,hl,iR c6,hb,c7,vz,cv,gd,cW,EW,seval];refine pq (xs:=a.names) aH (fun i (s:List Bytes)=>s=b.names.drop i) (fun r s=>decide (r=s)) (fun _ i=>[(2,cC 0),(3,cC 1),(5,aD i)]) (fun _=>[cF (cN a),cF (cN b)]) (fun q=>some (ag.bool q,([]:aC))) (fun s hs=>?_) (fun pre x post s e hx cQ hw h0 hm hs hi=>?_) b.names rfl
 ·have es:s=[]:=by rw[hs,c6,nI]
  subst es;simp[cN,Q2,bq,decide_true,EW]
 ·have hpl:pre.length<b.names.length:=by rw[<-c6,e]; simp
  have hy:=ai hpl;rw[cL hpl] at hs;have i1:=hi _ rfl;generalize b.names[pre.length]=y at hy hs;generalize b.names.drop (pre.length+1)=q at hs i1;subst hs;simp only[cN] at i1 ⊢;cases hxy:x==y
  ·have e2:decide (x::post=y::q)=false:=gn fun h=>jO
   rw[e2];simp only[Q2,cQ,hx,hy,bne,hxy,dH,EW,seval]
  ·have e2:decide (x::post=y::q)=decide (post=q):=by
    grind
   rw[e2];simp only[Q2,cQ,hx,hw,hy,bne,hxy,cv,EW,seval];exact i1
end
def WF.last{l:List mT}{x:mT}(h:WF (l++[x])):WF l/\0<=x.bF/\(x.kind=1\/x.kind=2)/\vP l x.bF = !(x.kind==1):=by
 generalize he:l++[x]=m at h;cases h with
 |nil=>simp at he
 |snoc h1 h2 h3 h4 =>
  obtain⟨e1,e2⟩:=List.append_inj' he rfl;injection e2 with e2 _
  subst e1; subst e2;exact⟨h1,h2,h3,h4⟩
def WF.pre{a:List mT}:∀(b:List mT),WF (a++b)->WF a:=fun b=>Ol (P:=fun b=>WF (a++b)->WF a) dw (fun l x ih h=>by
 rw[<-cm] at h;exact ih h.last.1) b
def WF.at'{l pre post:List mT}{x:mT}(h:WF l)(e:l=pre++x::post):0<=x.bF/\(x.kind=1\/x.kind=2)/\vP pre x.bF = !(x.kind==1):=by
 have:WF (pre++[x]):=WF.pre post (by rw[cm]; simpa[e] using h)
 exact this.last.2
def WF.first{l:List mT}(h:WF l)(x:mT)(hx:l[0]?=some x):x.kind=1:=by
 cases l with
 |nil=>cases hx
 |cons y r =>
  simp at hx;subst hx;have:=(h.at' (pre:=[]) (post:=r) rfl).2.2;simp[vP] at this;exact this
def Tc{l:List jz}{m:List uJ}(h:zY l m=false):l.length<=50/\(∀o,o∈l->sm o)/\m.length<=24/\∀t,t∈m->sm t.op:=by
 simp only[zY,DX,jT,dD] at h;obtain⟨h1,h2,h3⟩:=h;split at h1
 ·cases h1
 rename_i h50;simp only[bh] at h50;rw[List.any_eq_false] at h1 h3;exact⟨aH,fun o ho=>NM (by simpa using h1 o ho),aH,fun t ht=>NM (by simpa using h3 t ht)⟩
def Xe{f:aa}{K:Nat}(hf:FB K f)(hK:K<=70000){m:List uJ}{fR:Nat}(hm:m.length<=24)(hmost:fR<=8)(ht:∀t,t∈m->sm t.op):th 13 K f (runN f m fR).out/\WF (runN f m fR).out/\(runN f m fR).out.length<=24/\(∀x,x∈(runN f m fR).out->sm x.op/\x.bF<16/\(x.kind=1->x.op.bF=x.bF))/\Hs.Fits oa (cp (runN f m fR).out).cs f:=by
 obtain⟨h1,h2⟩:=XH hf (fR:=fR) m ht aH;have dN:=h1.out;have hc:=h2.calls;have hmo:=h2.fR;refine⟨⟨⟨aH,h2.wf.first,fun x hx=>(h2.ev x hx).1⟩,hf,aH,X3 aH,aH,aH,fun c hcm=>?_⟩,h2.wf,aH,fun x hx=>⟨(h2.ev x hx).2.2.1,by have:=(h2.ev x hx).2.1; omega,(h2.ev x hx).2.2.2.1⟩,?_⟩
 ·obtain⟨x,g1,g2,_⟩:=(zL _ c hcm).1;rw[<-g2];exact(h2.ev x (aJ g1)).2.2.1
 ·have:=h2.ok.fits;exact this
def F1:jz:=⟨2,0,[47,97],[],1,0,0,[]⟩
def FY:jz:=⟨1,0,[47,97],[],0,0,0,[]⟩
def Ch:sR:=⟨0,2,1,0,0,[],[]⟩
def Ny:sR:=⟨70,0,0,0,0,[],[]⟩
def ZJ:List mT:=[CM 0 F1,Ep 0 Ch,CM 1 FY,Ep 1 Ch]
def hiB:List mT:=[CM 0 F1,CM 1 FY,Ep 1 Ny,Ep 0 Ch]
def hiC:List mT:=[CM 0 F1,Ep 0 Ch,CM 1 FY,Ep 1 Ny]
def hiD:List mT:=[CM 0 F1,CM 1 FY,Ep 1 Ch]
def orA:vn 13 f0 ZJ=some [0,1]:=ft
def orB:vn 13 f0 hiB=some [1,0]:=ft
def orC:vn 13 f0 hiC=none:=ft
def orD:vn 13 f0 hiD=some [0,1]:=ft
def rtA:HO ZJ=true:=mw
def auY:HO (ZJ.drop 1)=false:=mw
section
attribute [local irreducible] eS fI lx gK dZ kr aq aR cu bJ
def c17(xs:List Nat)(hn:xs.length<=1000):aq bX 17 [gv (xs.map qk),gv (xs.map qk)] []=some (.bool true,[]):=by
 refine aB ?_;simp only[alX,E17,aw,EW,seval];refine pq (xs:=xs) aH (fun _ _=>True) (fun _ (_:Unit)=>true) (fun _ i=>[(0,gv (xs.map qk)),(1,gv (xs.map qk)),(5,aD i)]) (fun _=>[]) (fun b=>some (.bool b,([]:aC))) (fun s hs=>?_) (fun pre x post s e hx cQ hw h0 hm hI hi=>?_) () trivial
 ·simp only[E17,bq,EW,seval]
 ·have i1:=hi () trivial;simp only[E17,cQ,hx,hw,h0,aw,EW,seval];exact i1
def k17 xs hn:=cP (c17 xs hn)
end
def JZ{l:List mT}(h1:l.length<=1000)(h2:∀x,l[0]?=some x->x.kind=1)(h3:∀x,x∈l->0<=x.bF)(h4:(cp l).cs.length<=8)(h5:∀x,x∈l->sm x.op){K:Nat}{f:aa}(hf:FB K f)(hK:K<=80000):th 13 K f l:=by
 refine⟨⟨h1,h2,h3⟩,hf,aH,X3 h4,aH,hK,fun c hc=>?_⟩
 obtain⟨x,g1,g2,_⟩:=(zL l c hc).1;rw[<-g2];exact h5 x (aJ g1)
def okA:th 13 0 f0 ZJ:=JZ mw mw mw mw (by
 intro x hx;simp[ZJ] at hx;rcases hx with rfl|rfl|rfl|rfl<;>exact⟨mw,mw,mw⟩) fb0 aH
def okB:th 13 0 f0 hiB:=JZ mw mw mw mw (by
 intro x hx;simp[hiB] at hx;rcases hx with rfl|rfl|rfl|rfl<;>exact⟨mw,mw,mw⟩) fb0 aH
def okC:th 13 0 f0 hiC:=JZ mw mw mw mw (by
 intro x hx;simp[hiC] at hx;rcases hx with rfl|rfl|rfl|rfl<;>exact⟨mw,mw,mw⟩) fb0 aH
def okD:th 13 0 f0 hiD:=JZ mw mw mw mw (by
 intro x hx;simp[hiD] at hx;rcases hx with rfl|rfl|rfl<;>exact⟨mw,mw,mw⟩) fb0 aH
end Go.Proofs.YteoamaffclmdbaaGreatDoor
namespace Hs
open Go
variable {S O A:Type} {step:S->O->S×A}
theorem XR{α:Type}{P:List α->Prop}(h0:P [])(h1:∀l x,P l->P (l++[x]))(l:List α):P l:=by
 have:∀(n:Nat)(l:List _),l.length=n->P l:=by
  intro n;induction n with
  |zero=>grind
  |succ n ih =>
   intro l h;rcases kV l with rfl|⟨r,x,rfl⟩
   ·omega
   grind
 grind
theorem yh{α:Type}{l:List α}{i k:Nat}{f:α->α}{y:α}(h:(l.modify i f)[k]?=some y):∃x,l[k]?=some x/\y=if i=k then f x else x:=by
 grind
def w6(l:List (Ev O A)):Prop:=∀a x r,l=a++x::r->x.begin=false->∃c,(gD a).cs[(gD a).last x.cl]?=some c/\c.e=none
end Hs
namespace Hs
open Go
variable {S O A:Type} {step:S->O->S×A}
structure Swp(n:Nat)(t u:Cl O A):Prop where
 n':u.n=t.n
 last:u.last=t.last
 len:t.cs.length=u.cs.length
 at':∀(k:Nat)(c d:Call O A),t.cs[k]?=some c->u.cs[k]?=some d->d.op=c.op/\d.lQ=c.lQ/\(d.b=c.b\/(c.b=n+1/\d.b=n))/\(d.e=c.e\/(c.e=some n/\d.e=some (n+1)))
def Swp.next{n:Nat}{t u:Cl O A}(h:Swp n t u)(x:Ev O A):Swp n (jh t x) (jh u x):=by
 unfold jh;split
 ·refine⟨by simp[h.n'],by simp only[h.last,h.len],by simp[h.len],fun k c d hc hd=>?_⟩
  simp only at hc hd;rcases bA k t.cs.length with hk|hk
  ·rw[aO hk] at hc;rw[aO (by rw[<-h.len]; exact hk)] at hd
   exact h.at' k c d hc hd
  ·rw[bj hk] at hc;rw[bj (by rw[<-h.len]; exact hk),<-h.len] at hd
   cases hj:k-t.cs.length with
   |zero=>rw[hj] at hc hd; simp at hc hd; subst hc; subst hd; exact⟨rfl,rfl,.inl h.n',.inl rfl⟩
   |succ m=>rw[hj] at hc; simp at hc
 ·refine⟨by simp[h.n'],h.last,by simp[h.len],fun k c d hc hd=>?_⟩
  simp only at hc hd;rw[h.last] at hd;obtain⟨y,y1,rfl⟩:=yh hc;obtain⟨z,z1,rfl⟩:=yh hd;obtain⟨g1,g2,g3,g4⟩:=h.at' k y z y1 z1;split
  ·exact⟨g1,rfl,g3,.inl (by simp[h.n'])⟩
  ·exact⟨g1,g2,g3,g4⟩
end Hs
namespace Hs
open Go
variable {S O A:Type} {step:S->O->S×A}
structure aeW(t u:Cl O A):Prop where
 n':u.n=t.n
 last:u.last=t.last
 len:t.cs.length=u.cs.length
 at':∀(k:Nat)(c d:Call O A),t.cs[k]?=some c->u.cs[k]?=some d->d.op=c.op/\d.b=c.b/\d.e=c.e/\(c.e≠none->d.lQ=c.lQ)
theorem aeW.next{t u:Cl O A}(h:aeW t u)(x:Ev O A):aeW (jh t x) (jh u x):=by
 unfold jh;split
 ·refine⟨by simp[h.n'],by simp only[h.last,h.len],by simp[h.len],fun k c d hc hd=>?_⟩
  rcases bA k t.cs.length with hk|hk
  ·rw[aO hk] at hc;rw[aO (by rw[<-h.len]; omega)] at hd
   exact h.at' k c d hc hd
  ·rw[bj hk] at hc;rw[bj (by rw[<-h.len]; omega),<-h.len] at hd
   cases hj:k-t.cs.length with
   |zero=>rw[hj] at hc hd; simp at hc hd; subst hc; subst hd; exact⟨rfl,h.n',rfl,fun h=>absurd rfl h⟩
   |succ m=>rw[hj] at hc; simp_all
 ·refine⟨by simp[h.n'],h.last,by simp[h.len],fun k c d hc hd=>?_⟩
  rw[h.last] at hd;obtain⟨y,y1,rfl⟩:=yh hc;obtain⟨z,z1,rfl⟩:=yh hd;obtain⟨g1,g2,g3,g4⟩:=h.at' k y z y1 z1;split
  ·exact⟨g1,g2,by simp[h.n'],fun _=>rfl⟩
  grind
def yW(z:O)(l:List (Nat×O×A×A)):List (Ev O A):=l.flatMap fun q=>[⟨true,q.1,q.2.1,q.2.2.1⟩,⟨false,q.1,z,q.2.2.2⟩]
def rZ:List (Nat×O×A×A)->Nat->List (Call O A)
 | [],_=>[]
 |q::r,i=>⟨2*i,some (2*i+1),q.2.1,q.2.2.2⟩::rZ r (i+1)
theorem Ip(l:List (Nat×O×A×A))(q:Nat×O×A×A):∀i,rZ (l++[q]) i=rZ l i++[⟨2*(i+l.length),some (2*(i+l.length)+1),q.2.1,q.2.2.2⟩]:=by
 induction l<;>grind [rZ]
theorem KW(l:List (Nat×O×A×A)):∀i,(rZ l i).length=l.length:=by
 induction l<;>grind [rZ]
theorem Iq(z:O)(l:List (Nat×O×A×A)):(gD (yW z l)).cs=rZ l 0/\(gD (yW z l)).n=2*l.length:=by
 refine XR (P:=fun l=>(gD _).cs=rZ l 0/\(gD _).n=2*l.length) ⟨rfl,rfl⟩ (fun l q ih=>?_) l
 obtain⟨h1,h2⟩:=ih;have e:yW z (l++[q])=yW z l++[⟨true,q.1,q.2.1,q.2.2.1⟩]++[⟨false,q.1,z,q.2.2.2⟩]:=by simp[yW]
 rw[e,jN,jN];simp only[jh,h1,h2];rw[Ip];constructor
 ·apply ct
  grind
 grind
end Hs
namespace Hs
open Go
variable {S O A:Type} {step:S->O->S×A}
def w6.nil:w6 ([]:List (Ev O A)):=fun a x r h=>by simp at h
def w6.snoc{l:List (Ev O A)}(h:w6 l){x:Ev O A}(hx:x.begin=false->∃c,(gD l).cs[(gD l).last x.cl]?=some c/\c.e=none):w6 (l++[x]):=by
 intro a y r e hy;rcases kV r with rfl|⟨r',z,rfl⟩
 ·have:=List.append_inj_right' (s₁:=l) (s₂:=a) (t₁:=[x]) (t₂:=[y]) e rfl;have h2:=List.append_inj_left' (s₁:=l) (s₂:=a) (t₁:=[x]) (t₂:=[y]) e rfl;injection this with this
  subst this; subst h2;exact hx hy
 ·rw[List.concat_eq_append,<-aG,<-cm] at e;have h2:=List.append_inj_left' e rfl;exact h a y r' h2 hy
structure Shp(t u:Cl O A):Prop where
 n':u.n=t.n
 last:u.last=t.last
 be:u.cs.map (fun c=>(c.b,c.e))=t.cs.map fun c=>(c.b,c.e)
def Shp.next{t u:Cl O A}(h:Shp t u){x y:Ev O A}(hb:y.begin=x.begin)(hc:y.cl=x.cl):Shp (jh t x) (jh u y):=by
 have hl:u.cs.length=t.cs.length:=by simpa using congrArg List.length h.be
 unfold jh;rw[hb,hc,h.n',h.last,hl];split
 ·exact⟨rfl,rfl,by simp[h.be]⟩
 ·refine⟨rfl,rfl,?_⟩;simp only;apply ct;intro k;have hk:=congrArg (fun l=>l[k]?) h.be
  simp only[aX,iU] at hk ⊢;cases hu:u.cs[k]? with
  |none =>
   rw[hu] at hk;cases ht:t.cs[k]? with
   |none=>rfl
   |some c=>rw[ht] at hk; cases hk
  |some d =>
   rw[hu] at hk;cases ht:t.cs[k]? with
   |none=>rw[ht] at hk; cases hk
   |some c =>
    rw[ht] at hk;simp only[ep,ga,jY] at hk;split
    ·simp[hk.1]
    ·simp[hk.1,hk.2]
def shape:∀ {l m:List (Ev O A)},m.map (fun x=>(x.begin,x.cl))=l.map (fun x=>(x.begin,x.cl))->Shp (gD l) (gD m):=by
 have key:∀(l m:List (Ev O A)) (t u:Cl O A),m.map (fun x=>(x.begin,x.cl))=l.map (fun x=>(x.begin,x.cl))->Shp t u->Shp (l.foldl jh t) (m.foldl jh u):=by
  intro l;induction l with
  |nil=>intro m t u h hs; cases m with
   |nil=>exact hs
   |cons=>simp at h
  |cons x l ih=>intro m t u h hs; cases m with
   |nil=>simp at h
   |cons y m =>
    simp only[aK,oJ,jY] at h;exact ih m _ _ h.2 (hs.next h.1.1 h.1.2)
 exact fun {l m} h=>key l m _ _ h ⟨rfl,rfl,rfl⟩
def w6.anJ{l m:List (Ev O A)}(hl:w6 l)(h:m.map (fun x=>(x.begin,x.cl))=l.map (fun x=>(x.begin,x.cl))):w6 m:=by
 intro a y r e hy;rw[e,aW,aK] at h;obtain⟨b,s,rfl,h1,h2⟩:=List.map_eq_append_iff.1 h.symm;obtain⟨x,q,rfl,h3,h4⟩:=List.map_eq_cons_iff.1 h2;simp only[jY] at h3;obtain⟨c,c1,c2⟩:=hl b x q rfl (by rw[h3.1]; exact hy)
 have hs:=shape h1.symm;have hk:=congrArg (fun l=>l[(gD b).last x.cl]?) hs.be
 simp only[aX,c1,ep] at hk;obtain⟨d,d1,d2⟩:=aU.1 hk;simp only[jY] at d2;exact⟨d,by rw[hs.last,<-h3.2]; exact d1,by rw[d2.2]; exact c2⟩
end Hs
namespace Go.Proofs.YteoamaffclmdbaaGreatDoor
open Go Go.Abs
def ES(l:List mT):List (Int×Int):=l.map fun x=>(x.kind,x.bF)
theorem Qr{l m:List mT}(h:ES m=ES l):vP m=vP l:=by
 have key:∀(l m:List _)(o:Int->Bool),ES m=ES l->m.foldl (fun o x c=>if c=x.bF then x.kind==1 else o c) o=l.foldl (fun o x c=>if c=x.bF then x.kind==1 else o c) o:=by
  intro l;induction l with
  |nil=>simp_all [ES]
  |cons x l ih=>intro m o h; cases m<;>grind [ES]
 exact key _ _ _ h
theorem WF.anJ{l:List mT}(hw:WF l):∀ {m:List mT},ES m=ES l->WF m:=by
 induction hw with
 |nil=>intro m h; cases m with
  |nil=>exact .nil
  |cons=>grind [ES]
 | @snoc l x h1 h2 h3 h4 ih =>
  intro m h;rcases kV m with rfl|⟨m',y,rfl⟩
  ·simp_all [ES]
  ·rw[List.concat_eq_append] at h ⊢;simp only[ES,aW] at h;obtain⟨e1,e2⟩:=List.append_inj' h rfl;simp only[aK,aV,oJ,jY,and_true] at e2;exact .snoc (ih e1) (by rw[e2.2]; exact h2) (by rw[e2.1]; exact h3) (by rw[Qr e1,e2.1,e2.2]; omega)
theorem RX(l:List mT):(cp l).cs.length=(l.filter fun x=>x.kind==1).length :=
 Ol (P:=fun l=>(cp l).cs.length=(l.filter _).length) rfl (fun l x ih=>by
  rw[nj]
  grind [Hs.jh,xO]) l
theorem WF.kind{l:List mT}(h:WF l):∀x,x∈l->x.kind=1\/x.kind=2:=by
 induction h<;>grind
structure Hy(l:List mT):Prop where
 wf:WF l
 len:l.length<=30
 ev:∀x,x∈l->sm x.op/\x.bF<16/\(x.kind=1->x.op.bF=x.bF)
 Sr:(l.filter fun x=>x.kind==1).length<=8
def Hy.ord{l:List mT}(h:Hy l){f:aa}{K:Nat}(hf:FB K f)(hK:K<=80000):th 13 K f l :=
 JZ (by have:=h.len; omega) h.wf.first (Zl h.wf).cl (by rw[RX]; exact h.Sr) (fun x hx=>(h.ev x hx).1) hf hK
theorem Oh{α β:Type}(g:α->β){l:List α}{k:Nat}{x y:α}(hx:l[k]?=some x)(hg:g y=g x):(l.set k y).map g=l.map g:=by
 apply ct
 grind
def My{l:List mT}{k:Nat}{x y:mT}(hx:l[k]?=some x)(hg:y.kind=x.kind):((l.set k y).filter fun x=>x.kind==1).length=(l.filter fun x=>x.kind==1).length:=by
 have e:∀m:List mT,(m.filter fun x=>x.kind==1).length=((m.map fun x=>x.kind).filter fun k=>k==1).length:=fun m=>by
  rw[List.filter_map,cz]; rfl
 rw[e,e,Oh _ hx hg]
def Hy.set{l:List mT}(h:Hy l){k:Nat}{x:mT}(hx:l[k]?=some x)(a:sR):Hy (l.set k { x with lQ:=a }):=by
 refine⟨h.wf.anJ (Oh _ hx rfl),by rw[cA]; exact h.len,fun y hy=>?_,by rw[My (y:={ x with lQ:=a }) hx rfl]; exact h.Sr⟩
 rcases iA hy with hy|rfl
 ·exact h.ev y hy
 ·exact h.ev x (aJ hx)
def Hy.take{l:List mT}(h:Hy l)(n:Nat):Hy (l.take n) :=
 ⟨WF.pre _ (by rw[cH]; exact h.wf),by have:=h.len; rw[cf]; omega,fun x hx=>h.ev x (dB hx),by
  have:=((List.take_sublist n l).filter fun x=>x.kind==1).length_le
  have:=h.Sr;omega⟩
def afq(o:sR)(f:aa):Bk [cF (cN o),cF (cg f)]:=fun _ _ _=>rfl
def amE(M:aC)(f:aa):List.map (ag.oZ M) (cg f)=cg f:=rfl
def abI{l:List mT}{k:Nat}(x:mT)(a:sR):jo (l.map rR) k (putCells (rR x) 10 (cN a))=(l.set k { x with lQ:=a }).map rR:=by
 rw[fH,jg]; rfl
section
open Go.ChangeShapes Go.WideShapes Go.ChangeAt Go.RowKit Go.Deep
section
variable {H:Type} {enc:TypeId×Value->H}
def ahS:Tryz.prog.cellsOf 69=9:=ft
def Ov:Tryz.prog.underlying 23=some (.slice 69):=ft
set_option maxRecDepth 100000 in
def X5{w:World}{fuel:Nat}{cs:List Value}{x:DataW H×List MemPlace}(h:DataW.trod enc Tryz.prog w 0 (fun _=>true) true fuel 69 cs=some x):∃s:uJ,mX w (xi s) cs:=by
 obtain⟨xs,n,_,_,hl,hxl,hf⟩:=DataW.trod_struct underlying69 h;have h0:cs.length=9:=by rw[hl]; kernel_rfl
 match cs,h0 with
 | [v0,v1,v2,v3,v4,v5,v6,v7,v8],_ =>
  match xs,hxl with
  | [y0,y1],_ =>
   obtain⟨a0,r0⟩:=X6 ab8 (KC (k:=0) afs rfl (hf 0 _ rfl));have h1:=hf 1 _ rfl;change DataW.trod enc Tryz.prog w 0 (fun _=>true) true n 49 (List.take (Tryz.prog.cellsOf 49) _)=_ at h1
   rw[anM] at h1;obtain⟨a1,r1⟩:=W9 h1;exact⟨⟨a0,a1⟩,.app (.one r0) r1⟩
set_option maxRecDepth 100000 in
def QO{w:World}{r:Reach}{b:Nat}{v:Value}{d:DataW H}{ps:List MemPlace}(h:DataW.Trod enc Tryz.prog w 0 (fun _=>true) true 23 v d ps)(hv:Value.okWide Tryz.prog w r b 23 v):∃l:List uJ,gk Tt [] w (Cb l) v:=by
 obtain⟨a,len,cap,rfl⟩:=okWide_slice Ov hv;obtain⟨fuel,hf⟩:=h;obtain⟨l,h2,_⟩:=Az (eC:=xi) (mk:=Sh) Ov ahS aH (fun _=>rfl) (fun _=>rfl) (fun n cs y _ hy=>X5 hy) hf
 exact⟨l,.plain h2⟩
def ab6:Tryz.prog.underlying 43=some (.int .i64):=ft
def Za:Tryz.prog.cellsOf 43=1:=ft
def ab7:Tryz.prog.underlying 44=some (.slice 9):=ft
def Zb:Tryz.prog.cellsOf 44=1:=ft
set_option maxRecDepth 100000 in
def YR{w:World}{fuel:Nat}{cs:List Value}{x:DataW H×List MemPlace}(h:DataW.trod enc Tryz.prog w 0 (fun _=>true) true fuel 47 cs=some x):∃a:sR,mX w (cN a) cs:=by
 obtain⟨xs,n,_,_,hl,hxl,hf⟩:=DataW.trod_struct underlying47 h;have h0:cs.length=7:=by rw[hl]; kernel_rfl
 match cs,h0 with
 | [v0,v1,v2,v3,v4,v5,v6],_ =>
  match xs,hxl with
  | [y0,y1,y2,y3,y4,y5,y6],_ =>
   obtain⟨a0,r0⟩:=sq ab6 (KC (k:=0) Za rfl (hf 0 _ rfl));obtain⟨a1,r1⟩:=sq AE (KC (k:=1) zI rfl (hf 1 _ rfl));obtain⟨a2,r2⟩:=sq AE (KC (k:=2) zI rfl (hf 2 _ rfl));obtain⟨a3,r3⟩:=sq AE (KC (k:=3) zI rfl (hf 3 _ rfl));obtain⟨a4,r4⟩:=sq AE (KC (k:=4) zI rfl (hf 4 _ rfl));obtain⟨a5,r5⟩:=X0 ab7 X7 RV (KC (k:=5) Zb rfl (hf 5 _ rfl));obtain⟨a6,r6⟩:=FG Ou ab8 afs (KC (k:=6) MX rfl (hf 6 _ rfl));exact⟨⟨a0,a1,a2,a3,a4,a5,a6⟩,.app (.one r0) (.app (.one r1) (.app (.one r2) (.app (.one r3) (.app (.one r4) (.app (.one r5) (.one r6))))))⟩
set_option maxRecDepth 100000 in
def YT{w:World}{r:Reach}{b:Nat}{v:Value}{d:DataW H}{ps:List MemPlace}(h:DataW.Trod enc Tryz.prog w 0 (fun _=>true) true 47 v d ps)(hv:Value.okWide Tryz.prog w r b 47 v):∃a:sR,gk Tt [] w (.agg (cN a)) v:=by
 obtain⟨cs,rfl,o,hr⟩:=QU underlying47 h hv (fun n cs y hy=>YR hy)
 exact⟨o,YM hr⟩
end
end
def Ef{f:Nat}{vs:List ag}{M:aC}{x:ag×aC}(h:aR (aq bX) f vs M=some x):aR (aq Ku) f vs M=some x:=lH (lO (lT (lE h)))
def Yd(x:ag)(l:List ag)(n:Nat):wid (x::l) n=(x.cells.length=n/\wid l n):=by simp[wid]
section
attribute [local irreducible] eS fI lx gK dZ kr aq aR cu bJ
set_option maxRecDepth 100000 in
def c9:aq Ku 9 [] []=some (.bool true,[]):=by
 have q22:=fun(c:Int) (o:jz) (M:aC)=>Ef (cO (c22 c o) M)
 have q23:=fun(c:Int) (a:sR) (M:aC)=>Ef (cO (c23 c a) M)
 have b1:=q22 0 F1;have b2:=q22 1 FY;have n1:=q23 0 Ch;have n2:=q23 1 Ch;have n3:=q23 1 Ny;have q24:=fun M=>Ef (k24 M)
 have oA:=fun M=>lH (Tw okA M)
 have oB:=fun M=>lH (Tw okB M)
 have oC:=fun M=>lH (Tw okC M)
 have oD:=fun M=>lH (Tw okD M)
 have fB:=fun M=>lH (k18 okB M)
 have fC:=fun M=>lH (k18 okC M)
 have rA:=fun M=>Ef (cO (c11 ZJ mw) M)
 have rB:=fun M=>Ef (cO (c11 (ZJ.drop 1) mw) M)
 have s1:=fun M=>Ef (k17 [0,2] mw M)
 have s2:=fun M=>Ef (k17 [1,0] mw M)
 have s3:=fun M=>Ef (k17 [0,1] mw M)
 rw[orA] at oA;rw[orB] at oB fB;rw[orC] at oC fC;rw[orD] at oD;rw[rtA] at rA;rw[auY] at rB;have eA:(((some [0,1]:Option (List Nat)).getD []).map fun i=>qk (CL (cp ZJ).cs i))=[qk 0,qk 2]:=rfl
 have eB:(((some [1,0]:Option (List Nat)).getD []).map fun i=>qk (CL (cp hiB).cs i))=[qk 1,qk 0]:=rfl
 have eC:(((none:Option (List Nat)).getD []).map fun i=>qk (CL (cp hiC).cs i))=[]:=rfl
 have eD:(((some [0,1]:Option (List Nat)).getD []).map fun i=>qk (CL (cp hiD).cs i))=[qk 0,qk 1]:=rfl
 rw[eA] at oA;rw[eB] at oB;rw[eC] at oC;rw[eD] at oD;have v0:qk 0 = aD 0:=rfl;have v1:qk 1 = aD 1:=rfl;have v2:qk 2 = aD 2:=rfl;simp only[v0,v1,v2,uT,F1,FY,Ch,Ny,eW,cN,df,dr,aV,aK,rR,pS,CM,Ep,vq,AJ,ZJ,hiB,hiC,hiD,bQ,cU,oL,ly] at b1 b2 n1 n2 n3 oA oB oC oD fB fC rA rB s1 s2 s3;refine aB ?_;simp only[fn9,E9,b1,b2,n1,n2,n3,q24,Ab,nq,AD,yx,Bn,Fk,aF,oA,oB,oC,oD,fB,fC,rA,rB,s1,s2,s3,Yd,ag.cells,EW,seval]
 done
end
def B1(l:List Al):List wM:=Hs.rZ (l.map fun q=>(q.1,q.2.1,vq,q.2.2)) 0
def xV(l:List Al):(cp (vt l)).cs=B1 l:=by
 have e:(vt l).map xO=Hs.yW AJ (l.map fun q=>(q.1,q.2.1,vq,q.2.2)):=by
  unfold vt Hs.yW;rw[List.map_flatMap,List.flatMap_map];rfl
 unfold cp;rw[e];exact(Hs.Iq AJ _).1
def sn(l:List Al):(B1 l).length=l.length:=by unfold B1; rw[Hs.KW,cz]
def Fx:∀(l:List (Nat×jz×sR×sR)) (i k:Nat) (c:wM),(Hs.rZ l i)[k]?=some c->∃q,l[k]?=some q/\c=⟨2*(i+k),some (2*(i+k)+1),q.2.1,q.2.2.2⟩
 | [],i,k,c,h=>by cases h
 |q::r,i,0,c,h=>by
  rw[Hs.rZ] at h;simp at h;exact⟨q,rfl,h.symm⟩
 |q::r,i,k+1,c,h=>by
  rw[Hs.rZ] at h;obtain⟨p,p1,p2⟩:=Fx r (i+1) k c (by simpa using h)
  exact⟨p,by simpa using p1,by rw[p2,show i+1+k=i+(k+1) by omega]⟩
def w8{l:List Al}{k:Nat}{c:wM}(h:(B1 l)[k]?=some c):∃q,l[k]?=some q/\c=⟨2*k,some (2*k+1),q.2.1,q.2.2⟩:=by
 obtain⟨p,p1,p2⟩:=Fx _ 0 k c h;rw[aX] at p1;obtain⟨q,q1,rfl⟩:=aU.1 p1;exact⟨q,q1,by rw[p2,aI]⟩
def Ry:∀(l:List Al)(k:Nat)(q:Al),l[k]?=some q->(vt l)[2*k]?=some ⟨1,q.1,q.2.1,vq⟩/\(vt l)[2*k+1]?=some ⟨2,q.1,AJ,q.2.2⟩
 | [],k,q,h=>by cases h
 |p::r,0,q,h=>by simp at h; subst h; exact⟨rfl,rfl⟩
 |p::r,k+1,q,h=>by
  have:=Ry r k q (by simpa using h)
  exact this
def MN:∀(l:List Al)(k:Nat)(q:Al)(a:sR),l[k]?=some q->(vt l).set (2*k+1) ⟨2,q.1,AJ,a⟩=vt (l.set k (q.1,q.2.1,a))
 | [],k,q,a,h=>by cases h
 |p::r,0,q,a,h=>by simp at h; subst h; rfl
 |p::r,k+1,q,a,h=>by
  have:=MN r k q a (by simpa using h)
  show _=⟨1,p.1,p.2.1,vq⟩::⟨2,p.1,AJ,p.2.2⟩::vt (r.set k (q.1,q.2.1,a))
  rw[<-this];rfl
def YP{l:List Al}{x:mT}(h:x∈vt l):∃q,q∈l/\(x=⟨1,q.1,q.2.1,vq⟩\/x=⟨2,q.1,AJ,q.2.2⟩):=by
 unfold vt at h;obtain⟨q,q1,q2⟩:=iJ.1 h;exact⟨q,q1,by simpa using q2⟩
def one_le{α:Type}{l:List α}(hn:l.Nodup)(h:∀x,x∈l->∀y,y∈l->x=y):l.length<=1:=by
 match l with
 | []=>exact cI _
 | [_]=>exact av _
 |x::y::r =>
  have:=h x dw y dw;subst this;simp at hn
def YN(l:List Al)(done:List Nat):DA (B1 l) done (List.range (B1 l).length)<=1:=by
 refine one_le (List.nodup_range.filter _) fun x hx y hy=>?_
 obtain⟨x1,x2⟩:=dP.1 hx;obtain⟨y1,y2⟩:=dP.1 hy;rw[eY] at x1 y1;have x3:=(Hs.Ad x1).1 x2;have y3:=(Hs.Ad y1).1 y2
 have key:∀i j:Nat,i<(B1 l).length->j<(B1 l).length->i<j->Hs.Yi (B1 l) done j->i∈done:=fun i j hi hj hij hm=>by
  have ci:=ai hi;have cj:=ai hj;obtain⟨p,_,hp⟩:=w8 ci;obtain⟨q,_,hq⟩:=w8 cj;exact hm.2 i _ _ ci cj ⟨2*i+1,by rw[hp],by rw[hq]; show 2*i+1<2*j; omega⟩
 rcases ik x y with h|h|h
 ·exact absurd (key x y x1 y1 h y3) x3.1
 ·exact h
 ·exact absurd (key y x y1 x1 h x3) y3.1
def MM{l:List Al}(hl:l.length<=12)(ho:∀q,q∈l->sm q.2.1){f:aa}{K:Nat}(hf:FB K f)(hK:K<=80000):th 13 K f (vt l):=by
 have e:=xV l;have e1:=sn l;refine⟨⟨by rw[CV]; omega,fun x hx=>?_,fun x hx=>?_⟩,hf,by rw[e]; omega,⟨1,fun done _=>by rw[e]; exact YN l done,aeX _ (by rw[e]; omega)⟩,by rw[e]; omega,hK,fun c hc=>?_⟩
 ·cases l with
  |nil=>cases hx
  |cons q r=>cases hx; rfl
 ·obtain⟨q,_,rfl|rfl⟩:=YP hx<;>exact jA _
 ·rw[e] at hc;obtain⟨k,hk⟩:=bV hc;obtain⟨q,q1,rfl⟩:=w8 hk;exact ho q (aJ q1)
def Im(l:List Al)(f:aa)(ord:List Nat):Hs.pP oa (B1 l) f [] ord↔ord=List.range' 0 l.length/\Hs.Dc oa (B1 l) f:=by
 have:=Hs.OY (step:=oa) (cs:=B1 l) (fun i c hc=>by obtain⟨q,_,rfl⟩:=w8 hc; exact⟨rfl,rfl⟩) l.length 0 f ord (by rw[sn]; omega)
 exact this
def Il{l:List Al}(hl:l.length<=12)(f:aa):(Hs.Dc oa (B1 l) f->vn 13 f (vt l)=some (List.range' 0 l.length))/\((vn 13 f (vt l)).isSome=true->Hs.Dc oa (B1 l) f):=by
 have hs:=Qu (n:=13) (f:=f) (l:=vt l) (by rw[xV,sn]; omega)
 rw[xV] at hs;cases ho:vn 13 f (vt l) with
 |none =>
  rw[ho] at hs;exact⟨fun h=>absurd ⟨_,(Im l f _).2 ⟨rfl,h⟩⟩ hs,fun h=>by cases h⟩
 |some ord =>
  rw[ho] at hs;obtain⟨h1,h2⟩:=(Im l f ord).1 hs;exact⟨fun _=>by rw[h1],fun _=>h2⟩
def YO(l:List Al)(k:Nat)(q:Al)(a:sR)(h:l[k]?=some q):∃c,(B1 l)[k]?=some c/\c.lQ=q.2.2/\B1 (l.set k (q.1,q.2.1,a))=(B1 l).set k { c with lQ:=a }:=by
 have hk:=(aj.1 h).1;have hc:=ai (show k<(B1 l).length by rw[sn]; exact hk)
 generalize (B1 l)[k]'_=c at hc;obtain⟨p,p1,rfl⟩:=w8 hc;rw[h] at p1;injection p1 with p1
 subst p1;refine⟨_,hc,rfl,?_⟩;apply ct;intro i;rw[fK];rcases bA i l.length with hi|hi
 ·have c1:=ai (show i<(B1 (l.set k (q.1,q.2.1,a))).length by rw[sn,cA]; exact hi)
  generalize (B1 (l.set k (q.1,q.2.1,a)))[i]'_=d at c1;rw[c1];obtain⟨p,p1,rfl⟩:=w8 c1;rw[fK] at p1
  by_cases hki:k=i
  ·subst hki;rw[aZ rfl,aZ hk] at p1;injection p1 with p1
   subst p1;rw[aZ rfl,aZ (by rw[sn]; exact hk)]
  ·rw[aQ hki] at p1 ⊢;have c2:=ai (show i<(B1 l).length by rw[sn]; exact hi)
   generalize (B1 l)[i]'_=e at c2;rw[c2];obtain⟨p',p2,rfl⟩:=w8 c2;rw[p1] at p2;injection p2 with p2
   subst p2;rfl
 ·rw[fj (by rw[sn,cA]; exact hi)]
  rw[aQ aH,fj (by rw[sn]; exact hi)]
def Oa:∀(m:List uJ)(f:aa)(q:Al),q∈yJ f m->∃t,t∈m/\q.2.1=vm t
 | [],f,q,h=>by cases h
 |t::r,f,q,h=>by
  rw[yJ] at h;rcases bH.1 h with rfl|h
  ·exact⟨t,dw,rfl⟩
  ·obtain⟨t',h1,h2⟩:=Oa r _ q h;exact⟨t',by simp[h1],h2⟩
def N9:∀(m:List uJ)(f:aa)(K:Nat),FB K f->K+200*m.length<=89000->∀q,q∈yJ f m->zC q.2.2
 | [],_,_,_,_,_,h=>by cases h
 |t::r,f,K,hf,hK,q,h=>by
  rw[au] at hK;rw[yJ] at h;rcases bH.1 h with rfl|h
  ·exact CY hf.ok _
  ·exact N9 r _ (K+200) (Hf hf aH _) aH q h
def J8(m:List uJ)(f:aa):Hs.Dc oa (B1 (yJ f m)) f:=by
 have key:∀(m:List uJ)(f:aa)(i:Nat),Hs.Dc oa (Hs.rZ ((yJ f m).map fun q=>(q.1,q.2.1,vq,q.2.2)) i) f:=by
  intro m;induction m with
  |nil=>intro f i; exact trivial
  |cons t r ih=>intro f i; exact⟨rfl,ih _ _⟩
 exact key m f 0
def OV{f:aa}{m:List uJ}(hm:m.length<=12){j:Nat}{q:Al}(hq:(yJ f m)[j]?=some q)(o:sR):(vn 13 f (vt ((yJ f m).set j (q.1,q.2.1,o)))).isSome=decide (q.2.2=o):=by
 obtain⟨c,c1,c2,c3⟩:=YO _ _ _ o hq;have h1:=Il (l:=(yJ f m).set j (q.1,q.2.1,o)) (by rw[cA,C8]; exact hm) f
 have h2:=Hs.RE f j o c (J8 m f) c1;rw[c3,h2,c2] at h1;rw[cr,bh];exact⟨fun h=>(h1.2 h).symm,fun h=>by rw[h1.1 h.symm]; rfl⟩
def Rz(l:List Al):(List.range' 0 l.length).map (fun i=>qk (CL (cp (vt l)).cs i))=(List.range' 0 l.length).map fun i=>qk (2*i):=by
 refine cT fun i hi=>?_
 rw[List.mem_range'] at hi;obtain⟨k,hk,rfl⟩:=hi;rw[xV];have hl:0+1*k<(B1 l).length:=by rw[sn]; omega
 have hc:=ai hl;generalize (B1 l)[0+1*k]=c at hc;obtain⟨q,_,rfl⟩:=w8 hc;unfold CL;rw[hc]
end Go.Proofs.YteoamaffclmdbaaGreatDoor
