import Derived.Test.YteoamaffclmdbaaGreatDoorHwaF
set_option linter.unusedSimpArgs false
set_option linter.unusedVariables false
set_option linter.unusedSectionVars false
set_option linter.defProp false
open Go.Proofs.Tryz
namespace Go.Proofs.YteoamaffclmdbaaGreatDoor
open Go Go.Abs
abbrev Hh(cs:List xQ)(k:Nat):Bool:=match cs[k]? with
 |some c=>c.e.isSome
 |none=>false
theorem J4{α:Type}{P:List α->Prop}(h0:P [])(h1:∀l x,P l->P (l++[x]))(l:List α):P l:=by
 rw[<-l.reverse_reverse];induction l.reverse<;>grind
theorem zI(l:List lk):∀c,c∈(cj l).cs->(∃x,l[c.b]?=some x/\x.op=c.op/\x.kind=1)/\∀e,c.e=some e->∃y,l[e]?=some y/\y.lg=c.lg:=by
 refine J4 (P:=fun l=>∀c,c∈(cj l).cs->(∃x,l[c.b]?=some x/\x.op=c.op/\x.kind=1)/\∀e,c.e=some e->∃y,l[e]?=some y/\y.lg=c.lg) ?_ ?_ l
 ·simp[cj,Hs.fN]
 ·intro l x ih c hc;rw[nr] at hc;have last:(l++[x])[l.length]?=some x:=dv
  have hold:∀c,c∈(cj l).cs->(∃y,(l++[x])[c.b]?=some y/\y.op=c.op/\y.kind=1)/\∀e,c.e=some e->∃y,(l++[x])[e]?=some y/\y.lg=c.lg:=fun c hc=>by
   grind
  unfold Hs.ij at hc;split at hc
  ·rename_i hb;simp only[bo,bQ] at hc;rcases hc with hc|hc
   ·exact hold c hc
   ·subst hc;simp only[vt];refine⟨⟨x,last,rfl,?_⟩,fun e he=>ka⟩
    simpa[uG] using hb
  ·simp only at hc;obtain⟨i,hi⟩:=List.mem_iff_getElem?.1 hc;rw[fP] at hi;cases hci:(cj l).cs[i]? with
   |none=>rw[hci] at hi; cases hi
   |some d =>
    have hd:=hold d (aK hci);rw[hci] at hi;simp only[Option.map_eq_map,dL] at hi;split at hi
    ·cases hi;refine⟨hd.1,fun e he=>?_⟩
     simp only[vt] at he;cases he;exact⟨x,last,rfl⟩
    ·cases hi;exact hd
structure wB(n K:Nat)(f:aa)(l:List lk):Prop where
 h:aiC l
 fb:FB K f
 O9:(cj l).cs.length<=12
 tb:∃W,(∀done,Hs.Good (cj l).cs done->E3 (cj l).cs done (List.range (cj l).cs.length)<=W)/\Tb W ((cj l).cs.length+1)<=900000
 n:(cj l).cs.length+1<=n
 K:K<=80000
 ops:∀c,c∈(cj l).cs->sN c.op
def HA(cs:List xQ)(i k:Nat):List Nat:=(List.range cs.length).map fun j=>if j<i then bitsOf (fun k=>Hs.lR cs k j) cs.length else if j=i then bitsOf (fun k=>Hs.lR cs k i) k else 0
def bOf(f:aa)(l:List lk):Bs:=⟨f,l,(cj l).cs,bitsOf (Hh (cj l).cs) (cj l).cs.length,0,HA (cj l).cs (cj l).cs.length 0⟩
theorem C2(cs:List xQ)(i k:Nat):(HA cs i k).length=cs.length:=by simp[HA]
def HB{cs:List xQ}{i k j:Nat}(hj:j<cs.length):(HA cs i k)[j]?=some (if j<i then bitsOf (fun k=>Hs.lR cs k j) cs.length else if j=i then bitsOf (fun k=>Hs.lR cs k i) k else 0):=by
 simp_all [HA]
theorem WM(cs:List xQ)(i:Nat):HA cs i cs.length=HA cs (i+1) 0:=by
 refine cX fun j hj=>?_
 by_cases h1:j<i
 ·rw[aX h1,aX aI]
 ·rw[aL h1]
  by_cases h2:j=i
  ·grind
  ·rw[aL h2,aL aI]
   by_cases h3:j=i+1
   ·rw[aX h3]; rfl
   grind
theorem WN(cs:List xQ):HA cs 0 0=List.replicate cs.length 0:=by
 unfold HA;refine ct fun j=>?_
 rw[aY,ia]
 by_cases hj:j<cs.length
 ·rw[jj hj];simp only[dL,jL,aD];split<;>rfl
 grind
theorem JQ{cs:List xQ}{i k:Nat}(h:Hs.lR cs k i=false):HA cs i (k+1)=HA cs i k:=by
 grind [HA,bitsOf]
theorem abe{cs:List xQ}{i k:Nat}(h:Hs.lR cs k i=true):(HA cs i k).set i (bitsOf (fun k=>Hs.lR cs k i) k ||| 2 ^ k)=HA cs i (k+1):=by
 refine ct fun j=>?_
 rcases bD j _ with hj|hj
 ·rw[fJ,HB hj,HB hj,C2]
  by_cases h1:i=j
  ·subst h1;rw[aX rfl,aX hj,aL (ib _),aX rfl,bitsOf,h,aX rfl]
  grind
 grind [C2]
def amT{n K:Nat}{f:aa}{l:List lk}(h:wB n K f l):Lk (bOf f l):=by
 refine⟨by have:=h.O9; show(cj l).cs.length<=60; omega,rfl,C2 _ _ _,fun j hj=>?_,fun c hc=>?_,fun c hc e he=>?_⟩
 ·show(HA _ _ 0)[j]?=_
  have hj:j<(cj l).cs.length:=hj;rw[HB hj,aX hj]; rfl
 ·obtain⟨x,h1,h2,_⟩:=(zI l c hc).1;exact⟨x,h1,h2,h.ops c hc⟩
 ·exact(zI l c hc).2 e he
def aiG:∀r,r<=9->Tb 60 r<=900000:=mr
def Xu{cs:List xQ}(h:cs.length<=8):∃W,(∀done,Hs.Good cs done->E3 cs done (List.range cs.length)<=W)/\Tb W (cs.length+1)<=900000 :=
 ⟨60,fun done hg=>by have:=It hg; omega,aiG _ aI⟩
noncomputable def zl(n:Nat)(f:aa)(l:List lk):Option (List Nat):=(Hs.wS p8 jh (cj l).cs n f [] []).1
section
attribute [local irreducible] eX fM lC gK dX kr aq aU cr bJ
theorem ML(c:xQ):decide (0<=wg c)=c.e.isSome:=by
 grind [wg]
def c15{n K:Nat}{f:aa}{l:List lk}(h:wB n K f l):aq (rQ n) 15 [.agg (cg f),vw l] []=some (.tuple [gU (((zl n f l).getD []).map fun i=>mS (GV (cj l).cs i)),.bool (zl n f l).isSome],[]):=by
 have hfew:=h.O9;have qc:=fun M=>lT (n:=n) (lE (cO (c30 h.h) M))
 refine aB ?_;have hn:(cj l).cs.length<=12:=h.O9;obtain⟨W,hW,hTb⟩:=h.tb;simp only[afb,QM,qc,EW,seval]
 refine qL (xs:=(cj l).cs) aI (fun i (E:Nat)=>E=bitsOf (Hh (cj l).cs) i) (fun _ _=>()) (fun _ i=>[(2,cu 0),(3,cu 1),(6,cu 2),(7,cu 3),(20,gU ((cj l).cs.map qy)),(21,aH (cj l).cs.length),(22,aH i)])
  (fun E=>[cv (cg f),cv [vw l],cv [gU ((cj l).cs.map qy)],cv [xM E]]) (fun _=>_) (fun E hE=>?_) (fun pre x post E e hx cL hw h0 hm hE hi=>?_) 0 rfl
 ·have rmn:cq (cj l).cs.length 8=True:=qM;have hrep:List.replicate (cj l).cs.length (ag.agg [ag.int IntKind.u64 0]).norm=(HA (cj l).cs 0 0).map xM:=by rw[WN,gX]; rfl
  simp only[QM,bu,rmn,hrep,EW,seval]
  refine qL (xs:=(cj l).cs) aI (fun i (rd:List Nat)=>rd=HA (cj l).cs i 0) (fun _ _=>()) (fun _ i=>[(2,cu 0),(3,cu 1),(6,cu 2),(7,cu 3),(10,cu 5),(38,gU ((cj l).cs.map qy)),(39,aH (cj l).cs.length),(40,aH i)])
   (fun rd=>[cv (cg f),cv [vw l],cv [gU ((cj l).cs.map qy)],cv [xM E],.arr 1 0 (rd.map xM),cv [.cz 4 0 1 0 (cj l).cs.length]]) (fun _=>_) (fun rd hrd=>?_) (fun pre x post rd e hx cL hw h0 hm hrd hi=>?_) (HA (cj l).cs 0 0) rfl
  ·obtain⟨s',hin,hA⟩:=Xv (W:=W) (amT h) hW n ((cj l).cs.length+1) h.n f K [] [] ⟨[],[],0,[],0⟩ (by show(cj l).cs.length+1=_; simp) h.fb (by have:=h.K; omega) ⟨lF,fun k hk=>by cases hk⟩ (C9.nil 11 []) (fun k=>rfl) ka (av _) (by simp only; omega)
   have hin':=Kc hin;have ho:zl n f l=(Hs.wS p8 jh (bOf f l).cs n f [] []).1:=rfl;rw[ho];generalize Hs.wS p8 jh (bOf f l).cs n f [] []=X at hin' hA;obtain⟨o,lo⟩:=X;have hout:=hA.out;have hk:=hA.k;obtain⟨m2,r2,ov2,ox2,k2⟩:=s';simp only[mf,bOf,jh,yx,aR,C2,show eKu ([]:SM)=[] from rfl,show ph Lf []=[] from rfl,show xM 0 = .int .u64 0 from rfl] at hin'
   subst hE;subst hrd;simp only[List.take_nil,aQ] at hout hk;cases o with
   |none =>
    simp only[dp] at hin';simp only[QM,bu,ko,wy,hin',EW,seval];rfl
   |some ord =>
    simp only[bX] at hin'
    have hso:List.take k2 (List.map mS ox2)=ord.map fun i=>mS (GV (cj l).cs i):=by
     rw[<-eP,hout,gH]; rfl
    simp only[QM,bu,ko,wy,hin',hso,EW,seval];rfl
  ·have hpl:=(aj.1 hx).1;simp only[QM,cL,hx,jZ,kV,BM,Bg,EW,seval]
   refine qL (xs:=(cj l).cs) aI (fun k (rd:List Nat)=>rd=HA (cj l).cs pre.length k) (fun _ _=>()) (fun _ k=>[(2,cu 0),(3,cu 1),(6,cu 2),(7,cu 3),(10,cu 5),(11,mS pre.length),(12,cu 6),(38,gU ((cj l).cs.map qy)),(39,aH (cj l).cs.length),(40,mS pre.length),(45,gU ((cj l).cs.map qy)),(46,aH (cj l).cs.length),(47,aH k)])
    (fun rd=>[cv (cg f),cv [vw l],cv [gU ((cj l).cs.map qy)],cv [xM E],.arr 1 0 (rd.map xM),cv [.cz 4 0 1 0 (cj l).cs.length],cv (qC x)]) (fun _=>_) (fun rd' hrd'=>?_) (fun pre' y post' rd' e' hy hlt' hw' h0' hm' hrd' hi'=>?_) rd hrd
   ·have i1:=hi rd' (by rw[hrd',WM])
    simp only[QM,bu,hw,EW,seval];exact i1
   ·have hpl':=(aj.1 hy).1;have hen:=ML y;have hah:Hs.lR (cj l).cs pre'.length pre.length=(match y.e with|some e=>decide (e<x.b)|none=>false):=by simp only[Hs.lR,hx,hy]; cases y.e<;>rfl
    have hat:rd'[pre.length]?=some (bitsOf (fun k=>Hs.lR (cj l).cs k pre.length) pre'.length):=by rw[hrd',HB hpl,aL (ib _),aX rfl]
    have hlr:((pre.length:Int)<(((cj l).cs.length-0:Nat):Int))=True:=cL;have hsl:=Xe (k:=pre'.length) aI;simp only[eL] at hsl;have hor:=SO (xY (fun k=>Hs.lR (cj l).cs k pre.length) (n:=pre'.length) aI) (n:=2 ^ pre'.length) (lI aI aI)
    cases hye:y.e with
    |none =>
     rw[hye] at hen hah;have i1:=hi' rd' (by rw[hrd',JQ hah])
     simp only[QM,hlt',hy,hw',hen,dp,jZ,kV,BM,ve,Bg,EW,seval];exact i1
    |some e2 =>
     have hce:wg y=(e2:Int):=by unfold wg; rw[hye]
     rw[hye] at hen hah;cases hd:decide (e2<x.b)
     ·have i1:=hi' rd' (by rw[hrd',JQ (hah.trans hd)])
      have hd2:decide ((e2:Int)<(x.b:Int))=false:=by simp at hd ⊢; omega
      simp only[QM,hlt',hy,hw',hce,hd2,jZ,kV,BM,zk,ve,Bg,EW,seval];exact i1
     ·have i1:=hi' (rd'.set pre.length (bitsOf (fun k=>Hs.lR (cj l).cs k pre.length) pre'.length ||| 2 ^ pre'.length)) (by rw[hrd',abe (hah.trans hd)])
      have hd2:decide ((e2:Int)<(x.b:Int))=true:=by simp at hd ⊢; omega
      simp only[gj] at i1;have hsr:∀v,iP (List.map xM rd') pre.length v=(List.map xM rd').set pre.length v:=fun v=>fe _ _ _
      simp only[QM,hlt',hy,hw',hce,hd2,hlr,hat,hsl,hor,hsr,jZ,kV,BM,zk,ve,Bg,EW,seval];exact i1
 ·have hpl:=(aj.1 hx).1;have hEl:E<2 ^ 64:=by rw[hE]; exact xY _ aI
  have hsl:=Xe (k:=pre.length) aI;simp only[eL] at hsl;have hor:=SO hEl (n:=2 ^ pre.length) (lI aI aI);have hen:=ML x;have hib:Hh (cj l).cs pre.length=x.e.isSome:=by simp only[Hh,hx]
  cases hs:x.e.isSome
  ·have i1:=hi E (by rw[hE,bitsOf,hib,hs]; simp)
   simp only[QM,cL,hx,hw,hen,hs,jZ,kV,BM,ve,Bg,EW,seval];exact i1
  ·have i1:=hi (E ||| 2 ^ pre.length) (by rw[hE,bitsOf,hib,hs]; rfl)
   simp only[QM,cL,hx,hw,hen,hs,hsl,hor,jZ,kV,BM,ve,Bg,EW,seval];exact i1
def SV{n K:Nat}{f:aa}{l:List lk}(h:wB n K f l)(M:aC):aU (aq (rQ n)) 15 [.agg (cg f),vw l] M=some (.tuple [gU (((zl n f l).getD []).map fun i=>mS (GV (cj l).cs i)),.bool (zl n f l).isSome],M) :=
 cO (c15 h) M
def c18{n K:Nat}{f:aa}{l:List lk}(h:wB n K f l):aq (rQ n) 18 [.agg (cg f),vw l] []=some (.bool (zl n f l).isSome,[]):=by
 have q:=fun M=>SV h M
 refine aB ?_;simp only[ala,E18,ko,wy,vg,wO,za,aE,q,EW,seval]
 done
def k18{n K:Nat}{f:aa}{l:List lk}(h:wB n K f l)(M:aC):aU (aq (rQ n)) 18 [.agg (cg f),vw l] M=some (.bool (zl n f l).isSome,M) :=
 cO (c18 h) M
end
def Sy(cs:List xQ):Hs.Good cs []:=⟨lF,fun k hk=>by cases hk⟩
def P3{n:Nat}{f:aa}{l:List lk}(hn:(cj l).cs.length+1<=n):match zl n f l with
  |some ord=>Hs.pO p8 (cj l).cs f [] ord
  |none=>¬ ∃ord,Hs.pO p8 (cj l).cs f [] ord:=by
 have:=(Hs.Ke (step:=p8) (key:=jh) (fun a b h=>V0 h) (cs:=(cj l).cs) n f [] [] (Sy _) gm (fun p hp=>by cases hp)).2
 exact this
end Go.Proofs.YteoamaffclmdbaaGreatDoor
namespace Go.Abs
open Go
def wk(M X:aC)(k:Nat):nth (M++X) (M.length+k)=nth X k:=by rw[fc,fc,bg (kv _ _)]; simp
def vH(M X:aC):nth (M++X) M.length=nth X 0:=wk M X 0
def wu(M X:aC)(k:Nat)(c:cJ):iP (M++X) (M.length+k) c=M++iP X k c:=by
 rw[fe,fe,List.set_append_right _ _ (kv _ _)]; simp
def vN(M X:aC)(c:cJ):iP (M++X) M.length c=M++iP X 0 c:=wu M X 0 c
end Go.Abs
namespace Go.Proofs.YteoamaffclmdbaaGreatDoor
open Go Go.Abs
def uL(a:vU):(Ld a).cells=dA a:=rfl
structure RS where
 f:aa
 out:List lk
 st:List Nat
 ops:List jF
 lg:List vU
 calls:Nat
def py(t:wT):Nat:=t.bA.toNat % 3
def Wb(t:wT):jF:={ t.op with bA:=(py t:Nat) }
def Ax(dE:Nat)(s:RS)(t:wT):RS :=
 match (s.st[py t]?).getD 3 with
 |0=>if s.calls=dE then s else { s with out:=s.out++[AL (py t) t.op],st:=s.st.set (py t) 1,ops:=s.ops.set (py t) (Wb t),calls:=s.calls+1 }
 |1=>{ s with f:=(p8 s.f ((s.ops[py t]?).getD Ki)).1,lg:=s.lg.set (py t) (p8 s.f ((s.ops[py t]?).getD Ki)).2,st:=s.st.set (py t) 2 }
 |2=>{ s with out:=s.out++[CL (py t) ((s.lg[py t]?).getD CP)],st:=s.st.set (py t) 0 }
 |_=>s
def NS(f:aa):RS:=⟨f,[],[0,0,0],[Ki,Ki,Ki],[CP,CP,CP],0⟩
structure RI(K:Nat)(dE i:Nat)(s:RS):Prop where
 fb:FB (K+200*i) s.f
 out:s.out.length<=i
 st:s.st.length=3
 lt:∀(k v:Nat),s.st[k]?=some v->v<3
 ops:s.ops.length=3
 ok:∀o,o∈s.ops->sN o
 lg:s.lg.length=3
 calls:s.calls<=i
def zg(M0:aC)(s:RS)(ov:Nat)(X:aC):aC :=
 M0++(.cells (cg s.f) :: .cells rR :: .arr 17 ov (s.out.map tq) :: .arr 1 0 (s.st.map mS) :: .arr 8 0 (s.ops.map XK) :: .arr 7 0 (s.lg.map Ld)::X)
def DB(M0:aC)(m:List wT)(dE:Nat)(s:RS)(ov i:Nat):Env:=[(1,B3 m),(2,mS dE),(3,.ptr M0.length 0),(7,.ptr (M0.length+1) 0),(8,.cz (M0.length+2) ov 17 0 s.out.length),(9,.cz (M0.length+3) 0 1 0 3),(10,.cz (M0.length+4) 0 8 0 3),(11,.cz (M0.length+5) 0 7 0 3),(12,mS s.calls),(13,mS i)]
def QH:List Nat:=[1,2,3,7,8,9,10,11,12,13]
def Bk(M0:aC):Prop:=∀B M,M0.length<=B->M0.map (cJ.back B M)=M0
def OC{M0:aC}(h:Bk M0)(s:RS)(ov:Nat)(X:aC):iT (M0.length+6) (zg M0 s ov X)=zg M0 s ov []:=by
 unfold iT;generalize hM:zg M0 s ov X=M
 have e:M.take (M0.length+6)=zg M0 s ov []:=by
  rw[<-hM];unfold zg;rw[List.take_append,bB aI,show M0.length+6-M0.length=6 by omega]
  rfl
 rw[e];unfold zg;simp only[aW,h (M0.length+6) M aI,aF,aR,cJ.back,cg,rR,ag.jX,ag.jC,ba,ua,r8,kj,fH,cN]
noncomputable def Xp(n B:Nat)(k:List K)(bq:Env)(M:aC):Option (ag×aC):=eX (aq (rQ n)) [.tmp 6,.dH 7 10] B k (sub b14 63) bq M
noncomputable def vC(n B:Nat)(M0:aC)(m:List wT)(dE:Nat)(s:RS)(ov i:Nat):Option (ag×aC):=eX (aq (rQ n)) [.tmp 6,.dH 7 10] B [.block 0,.seq (sub b14 64)] (.loop QH (sub b14 17)) (DB M0 m dE s ov i) (zg M0 s ov [])
section
attribute [local irreducible] eX fM lC gK dX kr aq aU cr bJ
def Aw{n B:Nat}{k:List K}{bq:Env}{M:aC}:eX (aq (rQ n)) [.tmp 6,.dH 7 10] B k (sub b14 63) bq M=Xp n B k bq M:=rfl
def Md{n B:Nat}{M0:aC}(h:Bk M0){m:List wT}{dE:Nat}{s:RS}{ov i:Nat}(hi:i<1000)(X:aC){bq:Env}(he:jq bq QH=DB M0 m dE s ov i) :
  Xp n B [.loop QH (M0.length+6) (sub b14 17),.block 0,.seq (sub b14 64)] bq (zg M0 s ov X)=vC n B M0 m dE s ov (i+1):=by
 have hb:=OC h s ov X;simp only[jq,QH,DB,aF,aR,kO,iE,true_and,pQ] at he;obtain⟨g1,g2,g3,g7,g8,g9,g10,g11,g12,g13⟩:=he;unfold Xp vC DB QH;generalize zg M0 s ov X=M at hb;have e0:(M0.length<M0.length+6)=True:=sk;have e1:∀j,j<6->(M0.length+j<M0.length+6)=True:=fun j hj=>by simp only[fG,ja]; omega
 have e11:=e1 1 aI;have e12:=e1 2 aI;have e13:=e1 3 aI;have e14:=e1 4 aI;have e15:=e1 5 aI;have e3:IntKind.i64.wrap ((i:Int)+1)=((i+1:Nat):Int):=by rw[gw aI aI]; rfl
 simp only[E14,↓hb,g1,g2,g3,g7,g8,g9,g10,g11,g12,g13,e0,e11,e12,e13,e14,e15,e3,EW,seval]
def W9{n K:Nat}{M0:aC}(h:Bk M0){m:List wT}{dE:Nat}{s:RS}{ov i:Nat}{t:wT}(hI:RI K dE i s)(ht:m[i]?=some t)(hto:sN t.op)(hm:m.length<=100)(hK:K+200*(i+1)<=89000) :
  ∃ov',∀B,vC n B M0 m dE s ov i=vC n B M0 m dE (Ax dE s t) ov' (i+1):=by
 have hil:=(aj.1 ht).1;have cL:((i:Int)<(m.length:Int))=True:=sk;have hc3:py t<3:=kZ _ aI;have hw8:IntKind.i64.wrap (t.bA.toNat:Int)=(t.bA.toNat:Int):=by have:=t.bA.toNat_lt; rw[gw aI aI]
 have hrem:((t.bA.toNat:Nat):Int).tmod 3=((py t:Nat):Int):=by unfold py; rfl
 have hlt3:(((py t:Nat):Int)<3)=True:=sk;obtain⟨v,hv⟩:∃v,s.st[py t]?=some v:=⟨_,ai (by rw[hI.st]; exact hc3)⟩
 obtain⟨o,ho⟩:∃o,s.ops[py t]?=some o:=⟨_,ai (by rw[hI.ops]; exact hc3)⟩
 obtain⟨a,ha⟩:∃a,s.lg[py t]?=some a:=⟨_,ai (by rw[hI.lg]; exact hc3)⟩
 have hv3:=hI.lt _ _ hv;have hoo:=hI.ok o (aK ho);have hcal:=hI.calls;have hout:=hI.out;unfold Ax;rw[hv,ho,ha];simp only[bm];have fin:=fun(s':RS) (ov' B:Nat)=>fun X bq (he:jq bq QH=DB M0 m dE s' ov' i)=>Md (n:=n) (B:=B) h (s:=s') aI X he
 match v,hv3 with
 |0,_ =>
  by_cases hcm:s.calls=dE
  ·rw[aX hcm];refine⟨ov,fun B=>?_⟩
   have fin:=fin s ov B;have hcq:((s.calls:Int)==(dE:Int))=true:=gm;unfold vC at fin ⊢;rw[bG];simp only[DB,QH,zg] at fin ⊢;simp only[E14,↓Aw,cL,hcq,ht,hw8,hrem,hlt3,hv,ho,ha,wk,vH,wu,vN,bZ,aG,aQ,uN,pf,uL,dA,CC,EW,seval];exact fin [] _ rfl
  ·rw[aL hcm];refine⟨ov+1,fun B=>?_⟩
   have fin:=fin { s with out:=s.out++[AL (py t) t.op],st:=s.st.set (py t) 1,ops:=s.ops.set (py t) (Wb t),calls:=s.calls+1 } (ov+1) B
   have hcq:((s.calls:Int)==(dE:Int))=false:=gm;have rm:cq (s.out.length+1) 200=True:=qM;have hwc:IntKind.i64.wrap ((s.calls:Int)+1)=((s.calls+1:Nat):Int):=by rw[gw aI aI]; rfl
   have hs1:iP (s.st.map mS) (py t) (putCells (mS 0) 0 [ag.int IntKind.i64 ((IntKind.i64.wrap 1).tmod 3)])=(s.st.map mS).set (py t) (mS 1):=by
    have e:(IntKind.i64.wrap 1).tmod 3=((1:Nat):Int):=mr;rw[fe,e]; rfl
   have hs2:∀x,iP (s.ops.map XK) (py t) x=(s.ops.map XK).set (py t) x:=fun x=>fe _ _ _
   unfold vC at fin ⊢;rw[bG];simp only[DB,QH,zg,aW,aF,aR,gj,aA,au,aw,aJ] at fin ⊢;simp only[E14,↓Aw,cL,hcq,rm,hwc,hs1,hs2,oe,ht,hw8,hrem,hlt3,hv,ho,ha,wk,vH,wu,vN,bZ,aG,aQ,uN,pf,uL,dA,CC,EW,seval];exact fin [_] _ rfl
 |1,_ =>
  refine⟨ov,fun B=>?_⟩
  have fin:=fin { s with f:=(p8 s.f o).1,lg:=s.lg.set (py t) (p8 s.f o).2,st:=s.st.set (py t) 2 } ov B
  have qd:=fun M=>lT (n:=n) (k29 s.f o hI.fb.ok hoo M)
  have hs1:iP (s.st.map mS) (py t) (putCells (mS 1) 0 [ag.int IntKind.i64 ((IntKind.i64.wrap 2).tmod 3)])=(s.st.map mS).set (py t) (mS 2):=by
   have e:(IntKind.i64.wrap 2).tmod 3=((2:Nat):Int):=mr;rw[fe,e]; rfl
  have hs2:∀x,iP (s.lg.map Ld) (py t) x=(s.lg.map Ld).set (py t) x:=fun x=>fe _ _ _
  simp only[eW,dA] at qd;unfold vC at fin ⊢;rw[bG];simp only[DB,QH,zg,aW,aF,aR,gj,aA,au,aw,aJ] at fin ⊢;simp only[E14,↓Aw,cL,qd,hs1,hs2,ht,hw8,hrem,hlt3,hv,ho,ha,wk,vH,wu,vN,ko,wy,AQ,vg,za,wO,P8,aE,eW,bZ,aG,aQ,uN,pf,uL,dA,CC,EW,seval];exact fin [_,_] _ rfl
 |2,_ =>
  refine⟨ov+1,fun B=>?_⟩
  have fin:=fin { s with out:=s.out++[CL (py t) a],st:=s.st.set (py t) 0 } (ov+1) B
  have rm:cq (s.out.length+1) 200=True:=qM
  have hs1:iP (s.st.map mS) (py t) (putCells (mS 2) 0 [ag.int IntKind.i64 ((IntKind.i64.wrap 3).tmod 3)])=(s.st.map mS).set (py t) (mS 0):=by
   have e:(IntKind.i64.wrap 3).tmod 3=((0:Nat):Int):=mr;rw[fe,e]; rfl
  unfold vC at fin ⊢;rw[bG];simp only[DB,QH,zg,aW,aF,aR,gj,aA,au,aw,aJ] at fin ⊢;simp only[E14,↓Aw,cL,rm,hs1,oe,ht,hw8,hrem,hlt3,hv,ho,ha,wk,vH,wu,vN,bZ,aG,aQ,uN,pf,uL,dA,CC,EW,seval];exact fin [] _ rfl
end
end Go.Proofs.YteoamaffclmdbaaGreatDoor
namespace Go.Proofs.YteoamaffclmdbaaGreatDoor
open Go Go.Abs
def sI(l:List lk):Int->Bool:=l.foldl (fun o x c=>if c=x.bA then x.kind==1 else o c) fun _=>false
def nF(l:List lk)(x:lk)(c:Int):sI (l++[x]) c=if c=x.bA then x.kind==1 else sI l c:=by
 simp[sI]
inductive WF:List lk->Prop
 |nil:WF []
 |snoc {l:List lk} {x:lk}:WF l->0<=x.bA->(x.kind=1\/x.kind=2)->sI l x.bA = !(x.kind==1)->WF (l++[x])
def RG(c:Int):∀(r:List lk)(k:Nat),xg c r k = -1\/0<=xg c r k
 | [],_ => .inl rfl
 |x::r,k=>by
  rw[xg];split
  ·simp
  ·exact RG c r _
def y8(c:Int)(y:lk):∀(r:List lk)(k:Nat),xg c (r++[y]) k=if xg c r k = -1 then (if y.bA==c then ((k+r.length:Nat):Int) else -1) else xg c r k
 | [],k=>by
  rfl
 |x::r,k=>by
  rw[aG,xg,xg];split
  ·rw[aL dv]
  ·rw[y8 c y r _,au,show k+1+r.length=k+(r.length+1) by omega]
def AV{l:List lk}{x:lk}{k:Nat}(h:k<=l.length):(l++[x]).drop k=l.drop k++[x]:=ka
structure Ends(l:List lk):Prop where
 en:∀(i:Nat)(c:xQ),(cj l).cs[i]?=some c->∃x,l[c.b]?=some x/\xg x.bA (l.drop (c.b+1)) (c.b+1)=wg c/\(c.e=none->(cj l).last x.bA.toNat=i/\sI l x.bA=true)
 op:∀cl:Int,0<=cl->sI l cl=true->∃c,(cj l).cs[(cj l).last cl.toNat]?=some c/\c.e=none/\∃x,l[c.b]?=some x/\x.bA=cl
 cl:∀x,x∈l->0<=x.bA
theorem CS{l:List lk}(h:WF l):Ends l:=by
 induction h with
 |nil=>exact⟨fun i c h=>by simp[cj,Hs.fN] at h,fun cl _ h=>by simp[sI] at h,fun x h=>by cases h⟩
 | @snoc l x hw hc hk ho ih =>
  have up:∀(i:Nat)(y:lk),l[i]?=some y->(l++[x])[i]?=some y:=fun i y h=>by rw[aO (aj.1 h).1]; exact h
  have last:(l++[x])[l.length]?=some x:=dv
  have hcl:∀y,y∈l++[x]->0<=y.bA:=fun y hy=>by
   rcases bo.1 hy with hy|hy
   ·exact ih.cl y hy
   ·simp at hy; subst hy; exact hc
  cases hb:x.kind==1
  ·-- an end
   have hop:=ho;rw[hb] at hop;obtain⟨c0,h1,h2,x0,h3,h4⟩:=ih.op x.bA hc hop
   have hcs:(cj (l++[x])).cs=(cj l).cs.modify ((cj l).last x.bA.toNat) fun c=>{ c with e:=some l.length,lg:=x.lg }:=by
    rw[nr]; unfold Hs.ij uG; simp only[hb,af,aD,vt]
   have hla:(cj (l++[x])).last=(cj l).last:=by
    rw[nr]; unfold Hs.ij uG; simp only[hb,af,aD]
   refine⟨fun i c hi=>?_,fun cl hcl0 hopen=>?_,hcl⟩
   ·rw[hcs,fP] at hi;cases hci:(cj l).cs[i]? with
    |none=>rw[hci] at hi; cases hi
    |some d =>
     rw[hci] at hi;simp only[Option.map_eq_map,dL] at hi;obtain⟨y,g1,g2,g3⟩:=ih.en i d hci;have hbl:=(aj.1 g1).1;have hes:=y8 y.bA x (l.drop (d.b+1)) (d.b+1);rw[g2,hU,show d.b+1+(l.length-(d.b+1))=l.length by omega] at hes
     split at hi
     ·rename_i hii;injection hi with hi
      have hd:d=c0:=by rw[hii,hci] at h1; injection h1
      subst hi;subst hd;rw[g1] at h3;injection h3 with h3;subst h3;refine⟨y,up _ _ g1,?_,fun hn=>by cases hn⟩
      have e1:wg d = -1:=by unfold wg; rw[h2]
      show xg y.bA ((l++[x]).drop (d.b+1)) (d.b+1)=(l.length:Int)
      rw[AV aI,hes,aX e1,aX (by rw[h4]; simp)]
     ·rename_i hii;injection hi with hi
      subst hi;refine⟨y,up _ _ g1,?_,fun hn=>?_⟩
      ·rw[AV aI,hes]
       grind [wg]
      ·obtain⟨g4,g5⟩:=g3 hn;rw[hla,nF];refine⟨g4,?_⟩;rw[aL]
       ·exact g5
       ·intro hxy;exact hii (by rw[<-hxy]; exact g4)
   ·rw[nF] at hopen;split at hopen
    ·rw[hb] at hopen; cases hopen
    ·rename_i hne;obtain⟨c,k1,k2,z,k3,k4⟩:=ih.op cl hcl0 hopen;refine⟨c,?_,k2,z,up _ _ k3,k4⟩;rw[hla,hcs,fP,k1]
     grind
  ·-- a beginning
   have hcs:(cj (l++[x])).cs=(cj l).cs++[⟨l.length,none,x.op,x.lg⟩]:=by
    rw[nr]; unfold Hs.ij uG; simp only[hb,aE,vt]
   have hla:∀k,(cj (l++[x])).last k=if k=x.bA.toNat then (cj l).cs.length else (cj l).last k:=fun k=>by
    rw[nr]; unfold Hs.ij uG; simp only[hb,aE]
   have hnop:=ho;rw[hb] at hnop;refine⟨fun i c hi=>?_,fun cl hcl0 hopen=>?_,hcl⟩
   ·rw[hcs] at hi;rcases bD i (cj l).cs.length with hil|hil
    ·rw[aO hil] at hi;obtain⟨y,g1,g2,g3⟩:=ih.en i c hi;have hbl:=(aj.1 g1).1;have hes:=y8 y.bA x (l.drop (c.b+1)) (c.b+1);rw[g2] at hes;refine⟨y,up _ _ g1,?_,fun hn=>?_⟩
     ·rw[AV aI,hes]
      grind [wg]
     ·obtain⟨g4,g5⟩:=g3 hn;have hne:¬y.bA=x.bA:=fun e=>by rw[<-e,g5] at hnop; cases hnop
      have hy0:=ih.cl y (aK g1);rw[hla,nF,aL hne,aL aI];exact⟨g4,g5⟩
    ·rw[bg hil] at hi
     have hi0:i-(cj l).cs.length=0:=by
      have:=(aj.1 hi).1;simpa using this
     rw[hi0] at hi;simp at hi;subst hi;refine⟨x,last,?_,fun _=>⟨?_,?_⟩⟩
     ·rw[ir dv]; rfl
     ·rw[hla,aX rfl]; omega
     ·rw[nF,aX rfl,hb]
   ·rw[nF] at hopen;split at hopen
    ·rename_i he;subst he;refine⟨⟨l.length,none,x.op,x.lg⟩,?_,rfl,x,last,rfl⟩;rw[hla,aX rfl,hcs]; simp
    ·rename_i hne;obtain⟨c,k1,k2,z,k3,k4⟩:=ih.op cl hcl0 hopen;refine⟨c,?_,k2,z,up _ _ k3,k4⟩;rw[hla,aL aI,hcs,aO (aj.1 k1).1];exact k1
def Gg{o:jF}(h:sN o)(c:Int):sN { o with bA:=c }:=⟨h.dI,h.vh,h.data⟩
def RI.zero{K:Nat}{f:aa}(h:FB K f)(dE:Nat):RI K dE 0 (NS f):=by
 refine⟨h.mono aI,av _,rfl,fun k v hk=>?_,rfl,fun o ho=>?_,rfl,av _⟩
 ·have:v∈[0,0,0]:=aK hk;simp at this; omega
 ·simp[NS] at ho;subst ho;exact⟨by simp[Ki],by simp[Ki],by simp[Ki]⟩
def EO(dE:Nat)(s:RS)(t:wT){v:Nat}(hv:s.st[py t]?=some v)(hv3:v<3){o:jF}(ho:s.ops[py t]?=some o){a:vU}(ha:s.lg[py t]?=some a) :
  (v=0/\s.calls=dE/\Ax dE s t=s)\/(v=0/\s.calls≠dE/\Ax dE s t={ s with out:=s.out++[AL (py t) t.op],st:=s.st.set (py t) 1,ops:=s.ops.set (py t) (Wb t),calls:=s.calls+1 }) \/
  (v=1/\Ax dE s t={ s with f:=(p8 s.f o).1,lg:=s.lg.set (py t) (p8 s.f o).2,st:=s.st.set (py t) 2 })\/(v=2/\Ax dE s t={ s with out:=s.out++[CL (py t) a],st:=s.st.set (py t) 0 }):=by
 unfold Ax;rw[hv,ho,ha]
 match v,hv3 with
 |0,_ =>
  by_cases h:s.calls=dE
  ·exact .inl ⟨rfl,h,by simp[h]⟩
  ·exact .inr (.inl ⟨rfl,h,by simp[h]⟩)
 |1,_=>exact .inr (.inr (.inl ⟨rfl,rfl⟩))
 |2,_=>exact .inr (.inr (.inr ⟨rfl,rfl⟩))
def Ri(t:wT):py t<3:=kZ _ aI
def RI.alY{K dE i:Nat}{s:RS}(h:RI K dE i s)(t:wT):∃v o a,s.st[py t]?=some v/\v<3/\s.ops[py t]?=some o/\sN o/\s.lg[py t]?=some a:=by
 have hc:=Ri t;have h1:=ai (l:=s.st) (i:=py t) (by rw[h.st]; exact hc)
 have h2:=ai (l:=s.ops) (i:=py t) (by rw[h.ops]; exact hc)
 have h3:=ai (l:=s.lg) (i:=py t) (by rw[h.lg]; exact hc)
 exact⟨_,_,_,h1,h.lt _ _ h1,h2,h.ok _ (aK h2),h3⟩
def Mi{l:List Nat}(h:∀(k v:Nat),l[k]?=some v->v<3){c x:Nat}(hx:x<3)(k v:Nat)(hk:(l.set c x)[k]?=some v):v<3:=by
 rw[fJ] at hk;split at hk
 ·split at hk
  ·injection hk with hk; omega
  ·cases hk
 ·exact h k v hk
def RI.step{K dE i:Nat}{s:RS}(h:RI K dE i s){t:wT}(ht:sN t.op)(hK:K+200*(i+1)<=89000):RI K dE (i+1) (Ax dE s t):=by
 obtain⟨v,o,a,h1,h2,h3,h4,h5⟩:=h.alY t;have hfb:FB (K+200*(i+1)) s.f:=h.fb.mono aI;rcases EO dE s t h1 h2 h3 h5 with ⟨_,_,e⟩|⟨_,_,e⟩|⟨_,e⟩|⟨_,e⟩<;>rw[e]
 ·exact⟨hfb,by have:=h.out; omega,h.st,h.lt,h.ops,h.ok,h.lg,by have:=h.calls; omega⟩
 ·refine⟨hfb,by have:=h.out; simp; omega,by simp[h.st],Mi h.lt aI,by simp[h.ops],fun x hx=>?_,h.lg,by have:=h.calls; simp only; omega⟩
  rcases jG hx with hx|hx
  ·exact h.ok x hx
  ·subst hx; exact Gg ht _
 ·refine⟨?_,by have:=h.out; simp only; omega,by simp[h.st],Mi h.lt aI,h.ops,h.ok,by simp[h.lg],by have:=h.calls; simp only; omega⟩
  have:=Ry h.fb aI o;exact this.mono aI
 ·refine⟨hfb,by have:=h.out; simp; omega,by simp[h.st],Mi h.lt aI,h.ops,h.ok,h.lg,by have:=h.calls; simp only; omega⟩
def EA(s:RS):Hs.Rn aa jF vU:=⟨s.out.map uG,s.f,fun c=>(s.st[c]?).getD 0,fun c=>(s.ops[c]?).getD Ki,fun c=>(s.lg[c]?).getD CP⟩
structure RW(f:aa)(dE:Nat)(s:RS):Prop where
 ok:Hs.tU p8 f (EA s)
 wf:WF s.out
 op:∀c:Nat,sI s.out c = !((s.st[c]?).getD 0==0)
 ev:∀x,x∈s.out->0<=x.bA/\x.bA<3/\sN x.op/\(x.kind=1->x.op.bA=x.bA)/\(x.kind=1\/x.kind=2)
 calls:(cj s.out).cs.length=s.calls
 dE:s.calls<=dE
 an:∀x,x∈s.out->x.lg.names.length<=100000/\x.lg.data.length<=100000
 an2:∀a,a∈s.lg->a.names.length<=100000/\a.data.length<=100000
def RW.zero(f:aa)(dE:Nat):RW f dE (NS f):=by
 refine⟨?_,.nil,fun c=>?_,fun x h=>by simp[NS] at h,rfl,cQ _,fun x h=>by simp[NS] at h,fun a h=>?_⟩
 ·have:EA (NS f)=⟨[],f,fun _=>0,(EA (NS f)).op,(EA (NS f)).lg⟩:=by
   unfold EA NS;congr 1;funext c
   match c with
   |0|1|2=>rfl
   |n+3=>rfl
  rw[this];exact Hs.tU.new f _ _
 ·match c with
  |0|1|2=>rfl
  |n+3=>rfl
 ·simp[NS] at h;subst h;simp[CP]
def vB{α:Type}(l:List α)(c:Nat)(x d:α)(hc:c<l.length):(fun k=>((l.set c x)[k]?).getD d)=fun k=>if k=c then x else (l[k]?).getD d:=by
 funext k;rw[fJ]
 by_cases h:c=k
 ·subst h; rw[aX rfl,aX hc,aX rfl]; rfl
 ·rw[aL h,aL (fun e=>h e.symm)]
def RW.step{f:aa}{K dE i:Nat}{s:RS}(hI:RI K dE i s)(h:RW f dE s){t:wT}(ht:sN t.op):RW f dE (Ax dE s t):=by
 obtain⟨v,o,a,h1,h2,h3,h4,h5⟩:=hI.alY t;have hc:=Ri t;have hst:py t<s.st.length:=by rw[hI.st]; exact hc
 have hos:py t<s.ops.length:=by rw[hI.ops]; exact hc
 have has:py t<s.lg.length:=by rw[hI.lg]; exact hc
 have e1:(EA s).st (py t)=v:=by show(s.st[py t]?).getD 0=v; rw[h1]; rfl
 have e2:(EA s).op (py t)=o:=by show(s.ops[py t]?).getD Ki=o; rw[h3]; rfl
 have e3:(EA s).lg (py t)=a:=by show(s.lg[py t]?).getD CP=a; rw[h5]; rfl
 have hop:=h.op (py t);rw[h1] at hop;simp only[bm] at hop;have hg:=fun x=>congrFun (vB s.st (py t) x 0 hst)
 rcases EO dE s t h1 h2 h3 h5 with ⟨_,_,e⟩|⟨hv,hm,e⟩|⟨hv,e⟩|⟨hv,e⟩<;>rw[e]
 ·exact h
 ·subst hv;refine⟨?_,?_,fun c=>?_,fun x hx=>?_,?_,?_,fun x hx=>?_,h.an2⟩
  ·have:=h.ok.begin e1 (Wb t) CP;unfold EA at this ⊢;rw[aW];simp only[vB s.st (py t) 1 0 hst,vB s.ops (py t) (Wb t) Ki hos];exact this
  ·exact .snoc h.wf (kI _) (.inl rfl) (by rw[hop]; rfl)
  ·rw[nF];simp only[hg 1 c]
   by_cases hcc:c=py t
   ·subst hcc; simp
   ·rw[aL aI,aL hcc]; exact h.op c
  ·rcases bo.1 hx with hx|hx
   ·exact h.ev x hx
   ·simp at hx; subst hx;exact⟨kI _,by simp only; omega,Gg ht _,fun _=>rfl,.inl rfl⟩
  ·rw[nr];unfold Hs.ij uG;simp only[show((1:Int)==1)=true from rfl,aE,aA,au,aw,h.calls]
  ·have:=h.dE;simp only;omega
  ·rcases bo.1 hx with hx|hx
   ·exact h.an x hx
   ·simp at hx; subst hx; simp[CP]
 ·subst hv;refine⟨?_,h.wf,fun c=>?_,h.ev,h.calls,h.dE,h.an,fun x hx=>?_⟩
  ·have:=h.ok.ae3 e1;rw[e2] at this;unfold EA at this ⊢;simp only[vB s.st (py t) 2 0 hst,vB s.lg (py t) (p8 s.f o).2 CP has];exact this
  ·simp only[hg 2 c]
   by_cases hcc:c=py t
   ·subst hcc; rw[hop,aX rfl]; rfl
   ·rw[aL hcc]; exact h.op c
  ·rcases jG hx with hx|hx
   ·exact h.an2 x hx
   ·subst hx;have:=G5 hI.fb.ok o;exact⟨by have:=this.names; omega,by have:=this.data; omega⟩
 ·subst hv;refine⟨?_,?_,fun c=>?_,fun x hx=>?_,?_,h.dE,fun x hx=>?_,h.an2⟩
  ·have:=h.ok.ends e1 Ki;rw[e3] at this;unfold EA at this ⊢;rw[aW];simp only[vB s.st (py t) 0 0 hst];exact this
  ·exact .snoc h.wf (kI _) (.inr rfl) (by rw[hop]; rfl)
  ·rw[nF];simp only[hg 0 c]
   by_cases hcc:c=py t
   ·subst hcc; simp
   ·rw[aL aI,aL hcc]; exact h.op c
  ·rcases bo.1 hx with hx|hx
   ·exact h.ev x hx
   ·simp at hx; subst hx;exact⟨kI _,by simp only; omega,⟨by simp[Ki],by simp[Ki],by simp[Ki]⟩,fun hk=>by simp at hk,.inr rfl⟩
  ·rw[nr];unfold Hs.ij uG;simp only[show((2:Int)==1)=false from rfl,af,aD,jy,h.calls]
  ·rcases bo.1 hx with hx|hx
   ·exact h.an x hx
   ·simp at hx; subst hx;exact h.an2 a (aK h5)
def runN(f:aa)(m:List wT)(dE:Nat):RS:=m.foldl (Ax dE) (NS f)
def JZ{f:aa}{K dE:Nat}(hf:FB K f):∀(m:List wT),(∀t,t∈m->sN t.op)->K+200*m.length<=89000->RI K dE m.length (runN f m dE)/\RW f dE (runN f m dE):=by
 refine fun m=>J4 (P:=fun m=>(∀t,t∈m->sN t.op)->K+200*m.length<=89000->RI K dE m.length (runN f m dE)/\RW f dE (runN f m dE)) ?_ ?_ m
 ·intro _ _; exact⟨RI.zero hf dE,RW.zero f dE⟩
 ·intro l x ih ht hK;rw[aA,au,aw] at hK;obtain⟨h1,h2⟩:=ih (fun t h=>ht t (fq _ h)) aI
  have hx:=ht x dv;have e:runN f (l++[x]) dE=Ax dE (runN f l dE) x:=by unfold runN; rw[ll]; rfl
  rw[e,aA,au,aw];exact⟨h1.step hx aI,h2.step h1 hx⟩
def apx(B:Nat)(M:aC)(f:aa):List.map (ag.ki B M) (cg f)=cg f:=rfl
def apv(B:Nat)(M:aC)(f:aa):List.map (ag.jX B M) (cg f)=cg f:=rfl
def sE:rR.length=10:=rfl
def we:List.drop 10 rR=[]:=rfl
section
attribute [local irreducible] eX fM lC gK dX kr aq aU cr bJ
def J0{n K:Nat}{M0:aC}(h:Bk M0){m:List wT}{dE:Nat}(ht:∀t,t∈m->sN t.op)(hm:m.length<=100)(hK:K+200*m.length<=89000):∀(post pre:List wT)(s:RS)(ov:Nat),m=pre++post->RI K dE pre.length s ->
  ∃ov',∀B,vC n B M0 m dE s ov pre.length=vC n B M0 m dE (post.foldl (Ax dE) s) ov' m.length
 | [],pre,s,ov,e,_=>⟨ov,fun B=>by rw[e]; simp⟩
 |t::post,pre,s,ov,e,hI=>by
  have hi:m[pre.length]?=some t:=by rw[e]; simp
  have hl:pre.length+1<=m.length:=by rw[e,aA,au]; omega
  have hto:=ht t (aK hi);obtain⟨ov1,h1⟩:=W9 (n:=n) (K:=K) h hI hi hto hm aI (ov:=ov);obtain⟨ov2,h2⟩:=J0 h ht hm hK post (pre++[t]) (Ax dE s t) ov1 (by rw[e]; simp) (by rw[aA]; exact hI.step hto aI)
  rw[aA] at h2;exact⟨ov2,fun B=>(h1 B).trans (h2 B)⟩
def abh{n K:Nat}{M0:aC}(h:Bk M0){f:aa}(hf:FB K f){m:List wT}(dE:Nat)(ht:∀t,t∈m->sN t.op)(hm:m.length<=100)(hK:K+200*m.length<=89000) :
  ∃ov,eX (aq (rQ n)) Lr.results (M0.length+3) [] Lr.body (eG 0 [.agg (cg f),B3 m,mS dE]) M0=some (.tuple [.cz (M0.length+2) ov 17 0 (runN f m dE).out.length,.agg (cg (runN f m dE).f)],M0++[cv (cg (runN f m dE).f),cv (cg (runN f m dE).f),.arr 17 ov ((runN f m dE).out.map tq)]):=by
 obtain⟨ov,hl⟩:=J0 (n:=n) h ht hm hK m [] (NS f) 0 rfl (RI.zero hf dE);refine⟨ov,?_⟩;have hl:=hl (M0.length+3);have rr:∀b,b<=1000->cq 3 b=True:=fun b hb=>sq aI hb
 have e0:List.foldl (Ax dE) (NS f) m=runN f m dE:=rfl;rw[e0] at hl;generalize runN f m dE=r at hl;have hM:=fun M=>h (M0.length+3) M aI
 have htk:∀(a b c:cJ)(X:aC),List.take (M0.length+3) (M0++(a::b::c::X))=M0++[a,b,c]:=fun a b c X=>by
  rw[List.take_append,bB aI,show M0.length+3-M0.length=3 by omega]; rfl
 have hlt2:(M0.length+2<M0.length+3)=True:=sk
 have hend:vC n (M0.length+3) M0 m dE r ov m.length=some (.tuple [.cz (M0.length+2) ov 17 0 r.out.length,.agg (cg r.f)],M0++[cv (cg r.f),cv (cg r.f),.arr 17 ov (r.out.map tq)]):=by
  unfold vC;rw[bG];simp only[DB,QH,zg];simp only[E14,bu,wk,vH,wu,vN,sE,we,ko,wy,AQ,vg,za,wO,c8,hlt2,apx,apv,aW,hM,htk,aE,EW,seval]
 refine il ?_ (hl.trans hend);unfold vC;simp only[Lr,DB,QH,zg,NS,aF,aR,aw];simp only[E14,wk,vH,wu,vN,rr 8 aI,rr 64 aI,rr 56 aI,rr 48 aI,rr 72 aI,rr 80 aI,rr 88 aI,rr 96 aI,bZ,aG,aQ,vg,wO,aE,EW,seval];rfl
end
def ahN{n K:Nat}{M0:aC}(h:Bk M0){f:aa}(hf:FB K f){m:List wT}(dE:Nat)(ht:∀t,t∈m->sN t.op)(hm:m.length<=100)(hK:K+200*m.length<=89000) :
  ∃ov,JJ (aq (rQ n)) Lr 3 [.agg (cg f),B3 m,mS dE] M0=some (.tuple [.cz (M0.length+2) ov 17 0 (runN f m dE).out.length,.agg (cg (runN f m dE).f)],M0++[cv (cg (runN f m dE).f),cv (cg (runN f m dE).f),.arr 17 ov ((runN f m dE).out.map tq)]):=by
 obtain⟨ov,key⟩:=abh (n:=n) h hf dE ht hm hK;exact⟨ov,afp rfl key dv⟩
noncomputable def Kb:zB:=mi (mi (rQ 13) 20 (JJ (aq (rQ 13)) alc 2)) 14 (JJ (aq (rQ 13)) Lr 3)
def abm:vn Tryz.prog Kb:=p7 (p7 (Sv 13).1 fy (fun h=>(FV fy (Xk 13) func20 atC h).2)) fy (fun h=>(FV fy (Xk 13) func14 atz h).2)
def ahP:nP Tryz.prog (aq Kb):=qU fy abm
def lH'{f:Nat}{a:List ag}{M:aC}{x:ag×aC}(h:aq (rQ 13) f a M=some x):aq Kb f a M=some x:=rb rfl rfl (rb rfl rfl h)
def lH{f:Nat}{vs:List ag}{M:aC}{x:ag×aC}(h:aU (aq (rQ 13)) f vs M=some x):aU (aq Kb) f vs M=some x:=by
 obtain⟨a,B,y,h1,h2⟩:=pR h;exact h2 _ (lH' h1)
def r14{K:Nat}{M0:aC}(h:Bk M0){f:aa}(hf:FB K f){m:List wT}(dE:Nat)(ht:∀t,t∈m->sN t.op)(hm:m.length<=100)(hK:K+200*m.length<=89000) :
  ∃ov,aq Kb 14 [.agg (cg f),B3 m,mS dE] M0=some (.tuple [.cz (M0.length+2) ov 17 0 (runN f m dE).out.length,.agg (cg (runN f m dE).f)],M0++[cv (cg (runN f m dE).f),cv (cg (runN f m dE).f),.arr 17 ov ((runN f m dE).out.map tq)]):=by
 obtain⟨ov,h⟩:=ahN (n:=13) h hf dE ht hm hK;exact⟨ov,fg (g:=JJ (aq (rQ 13)) Lr 3) rfl h⟩
def WF.last{l:List lk}{x:lk}(h:WF (l++[x])):WF l/\0<=x.bA/\(x.kind=1\/x.kind=2)/\sI l x.bA = !(x.kind==1):=by
 generalize he:l++[x]=m at h;cases h with
 |nil=>simp at he
 |snoc h1 h2 h3 h4 =>
  obtain⟨e1,e2⟩:=List.append_inj' he rfl;injection e2 with e2 _
  subst e1; subst e2;exact⟨h1,h2,h3,h4⟩
def WF.pre{a:List lk}:∀(b:List lk),WF (a++b)->WF a:=fun b=>J4 (P:=fun b=>WF (a++b)->WF a) dv (fun l x ih h=>by
 rw[<-bZ] at h;exact ih h.last.1) b
def WF.at'{l pre post:List lk}{x:lk}(h:WF l)(e:l=pre++x::post):0<=x.bA/\(x.kind=1\/x.kind=2)/\sI pre x.bA = !(x.kind==1):=by
 have:WF (pre++[x]):=WF.pre post (by rw[bZ]; simpa[e] using h)
 exact this.last.2
def WF.first{l:List lk}(h:WF l)(x:lk)(hx:l[0]?=some x):x.kind=1:=by
 cases l with
 |nil=>cases hx
 |cons y r =>
  simp at hx;subst hx;have:=(h.at' (pre:=[]) (post:=r) rfl).2.2;simp[sI] at this;exact this
def JT{l:List lk}(h:WF l)(hc:∀x,x∈l->x.bA<16/\(x.kind=1->x.op.bA=x.bA)):∀(post pre:List lk)(s:List Bool),l=pre++post->s.length=16->(∀c:Nat,c<16->s[c]?=some (sI pre c))->wq post s=true
 | [],_,_,_,_,_=>rfl
 |x::post,pre,s,e,hs,ho=>by
  obtain⟨h1,h2,h3⟩:=h.at' e;have hxm:x∈l:=by rw[e]; simp
  obtain⟨h4,h5⟩:=hc x hxm;have hcn:((x.bA.toNat:Nat):Int)=x.bA:=aI;have hsc:=ho x.bA.toNat aI;rw[hcn,h3] at hsc;rw[wq,aL gm,hsc];rw[aL]
  ·refine JT h hc post (pre++[x]) _ (by rw[e]; simp) (by simpa using hs) fun c hc16=>?_
   rw[fJ,nF]
   by_cases hcc:x.bA.toNat=c
   ·subst hcc;rw[aX rfl,aX aI,aX hcn]
   ·rw[aL hcc,aL aI];exact ho c hc16
  ·simp only[bm,cS,bt,gN,nC,eu];rintro((⟨h6,h7⟩|h6)|⟨h6,h7⟩)
   ·rcases h2 with h2|h2
    ·rw[h2] at h6; cases h6
    ·exact h7 h2
   ·revert h6
    generalize (x.kind==1)=b;cases b<;>exact fun h=>by cases h
   ·exact h7 (h5 h6)
def W0{l:List lk}(h:WF l)(h6:l.length<=64)(hc:∀x,x∈l->x.bA<16/\(x.kind=1->x.op.bA=x.bA)):zo l=true:=by
 unfold zo;rw[aL aI];refine JT h hc l [] _ rfl rfl fun c hc=>?_
 rw[ia,aX hc]; rfl
def SA{l:List jF}{m:List wT}(h:zV l m=false):l.length<=50/\(∀o,o∈l->sN o)/\m.length<=24/\∀t,t∈m->sN t.op:=by
 simp only[zV,DQ,jQ,dz] at h;obtain⟨h1,h2,h3⟩:=h;split at h1
 ·cases h1
 rename_i h50;simp only[bj] at h50;rw[List.any_eq_false] at h1 h3;exact⟨aI,fun o ho=>Nq (by simpa using h1 o ho),aI,fun t ht=>Nq (by simpa using h3 t ht)⟩
def L5{f:aa}{K:Nat}(hf:FB K f)(hK:K<=70000){m:List wT}{dE:Nat}(hm:m.length<=24)(hmost:dE<=8)(ht:∀t,t∈m->sN t.op):wB 13 K f (runN f m dE).out/\WF (runN f m dE).out/\(runN f m dE).out.length<=24/\(∀x,x∈(runN f m dE).out->sN x.op/\x.bA<16/\(x.kind=1->x.op.bA=x.bA))/\Hs.Fits p8 (cj (runN f m dE).out).cs f:=by
 obtain⟨h1,h2⟩:=JZ hf (dE:=dE) m ht aI;have dD:=h1.out;have hc:=h2.calls;have hmo:=h2.dE;refine⟨⟨⟨aI,h2.wf.first,fun x hx=>(h2.ev x hx).1⟩,hf,aI,Xu aI,aI,aI,fun c hcm=>?_⟩,h2.wf,aI,fun x hx=>⟨(h2.ev x hx).2.2.1,by have:=(h2.ev x hx).2.1; omega,(h2.ev x hx).2.2.2.1⟩,?_⟩
 ·obtain⟨x,g1,g2,_⟩:=(zI _ c hcm).1;rw[<-g2];exact(h2.ev x (aK g1)).2.2.1
 ·have:=h2.ok.fits;exact this
def FO:jF:=⟨2,0,[47,97],[],1,0,0,[]⟩
def FN:jF:=⟨1,0,[47,97],[],0,0,0,[]⟩
def B8:vU:=⟨0,2,1,0,0,[],[]⟩
def Nb:vU:=⟨70,0,0,0,0,[],[]⟩
def Y4:List lk:=[AL 0 FO,CL 0 B8,AL 1 FN,CL 1 B8]
def hiB:List lk:=[AL 0 FO,AL 1 FN,CL 1 Nb,CL 0 B8]
def hiC:List lk:=[AL 0 FO,CL 0 B8,AL 1 FN,CL 1 Nb]
def hiD:List lk:=[AL 0 FO,AL 1 FN,CL 1 B8]
def orA:zl 13 f0 Y4=some [0,1]:=fy
def orB:zl 13 f0 hiB=some [1,0]:=fy
def orC:zl 13 f0 hiC=none:=fy
def orD:zl 13 f0 hiD=some [0,1]:=fy
def rtA:zo Y4=true:=mr
def at6:zo (Y4.drop 1)=false:=mr
section
attribute [local irreducible] eX fM lC gK dX kr aq aU cr bJ
def c17(xs:List Nat)(hn:xs.length<=1000):aq bW 17 [gU (xs.map mS),gU (xs.map mS)] []=some (.bool true,[]):=by
 refine aB ?_;simp only[ak9,E17,az,EW,seval];refine qL (xs:=xs) aI (fun _ _=>True) (fun _ (_:Unit)=>true) (fun _ i=>[(0,gU (xs.map mS)),(1,gU (xs.map mS)),(5,aH i)]) (fun _=>[]) (fun b=>some (.bool b,([]:aC))) (fun s hs=>?_) (fun pre x post s e hx cL hw h0 hm hI hi=>?_) () trivial
 ·simp only[E17,bu,EW,seval]
 ·have i1:=hi () trivial;simp only[E17,cL,hx,hw,h0,az,EW,seval];exact i1
def k17 xs hn:=cP (c17 xs hn)
end
def JG{l:List lk}(h1:l.length<=1000)(h2:∀x,l[0]?=some x->x.kind=1)(h3:∀x,x∈l->0<=x.bA)(h4:(cj l).cs.length<=8)(h5:∀x,x∈l->sN x.op){K:Nat}{f:aa}(hf:FB K f)(hK:K<=80000):wB 13 K f l:=by
 refine⟨⟨h1,h2,h3⟩,hf,aI,Xu h4,aI,hK,fun c hc=>?_⟩
 obtain⟨x,g1,g2,_⟩:=(zI l c hc).1;rw[<-g2];exact h5 x (aK g1)
def okA:wB 13 0 f0 Y4:=JG mr mr mr mr (by
 intro x hx;simp[Y4] at hx;rcases hx with rfl|rfl|rfl|rfl<;>exact⟨mr,mr,mr⟩) fb0 aI
def okB:wB 13 0 f0 hiB:=JG mr mr mr mr (by
 intro x hx;simp[hiB] at hx;rcases hx with rfl|rfl|rfl|rfl<;>exact⟨mr,mr,mr⟩) fb0 aI
def okC:wB 13 0 f0 hiC:=JG mr mr mr mr (by
 intro x hx;simp[hiC] at hx;rcases hx with rfl|rfl|rfl|rfl<;>exact⟨mr,mr,mr⟩) fb0 aI
def okD:wB 13 0 f0 hiD:=JG mr mr mr mr (by
 intro x hx;simp[hiD] at hx;rcases hx with rfl|rfl|rfl<;>exact⟨mr,mr,mr⟩) fb0 aI
end Go.Proofs.YteoamaffclmdbaaGreatDoor
set_option linter.unusedSectionVars false
namespace Hs
open Go
variable {S O A:Type} {step:S->O->S×A}
def tK{α:Type}{l:List α}{i k:Nat}{f:α->α}{y:α}(h:(l.modify i f)[k]?=some y):∃x,l[k]?=some x/\y=if i=k then f x else x:=by
 rw[fP] at h;obtain⟨x,h1,h2⟩:=aV.1 h;exact⟨x,h1,h2.symm⟩
def tQ(l:List (Ev O A)):Prop:=∀a x r,l=a++x::r->x.begin=false->∃c,(fN a).cs[(fN a).last x.cl]?=some c/\c.e=none
end Hs
set_option linter.unusedSectionVars false
namespace Hs
open Go
variable {S O A:Type} {step:S->O->S×A}
structure QY(n:Nat)(t u:Cl O A):Prop where
 n':u.n=t.n
 last:u.last=t.last
 len:t.cs.length=u.cs.length
 at':∀(k:Nat)(c d:Call O A),t.cs[k]?=some c->u.cs[k]?=some d->d.op=c.op/\d.lg=c.lg/\(d.b=c.b\/(c.b=n+1/\d.b=n))/\(d.e=c.e\/(c.e=some n/\d.e=some (n+1)))
def QY.next{n:Nat}{t u:Cl O A}(h:QY n t u)(x:Ev O A):QY n (ij t x) (ij u x):=by
 unfold ij;split
 ·refine⟨by simp[h.n'],by simp only[h.last,h.len],by simp[h.len],fun k c d hc hd=>?_⟩
  simp only at hc hd;rcases bD k t.cs.length with hk|hk
  ·rw[aO hk] at hc;rw[aO (by rw[<-h.len]; exact hk)] at hd
   exact h.at' k c d hc hd
  ·rw[bg hk] at hc;rw[bg (by rw[<-h.len]; exact hk),<-h.len] at hd
   cases hj:k-t.cs.length with
   |zero=>rw[hj] at hc hd; simp at hc hd; subst hc; subst hd; exact⟨rfl,rfl,.inl h.n',.inl rfl⟩
   |succ m=>rw[hj] at hc; simp at hc
 ·refine⟨by simp[h.n'],h.last,by simp[h.len],fun k c d hc hd=>?_⟩
  simp only at hc hd;rw[h.last] at hd;obtain⟨y,y1,rfl⟩:=tK hc;obtain⟨z,z1,rfl⟩:=tK hd;obtain⟨g1,g2,g3,g4⟩:=h.at' k y z y1 z1;split
  ·exact⟨g1,rfl,g3,.inl (by simp[h.n'])⟩
  ·exact⟨g1,g2,g3,g4⟩
def QY.fold{n:Nat}:∀(r:List (Ev O A)) {t u:Cl O A},QY n t u->QY n (r.foldl ij t) (r.foldl ij u)
 | [],_,_,h=>h
 |x::r,_,_,h=>QY.fold r (h.next x)
def QY.fits{n:Nat}{t u:Cl O A}(h:QY n t u){s:S}(hf:Fits step t.cs s):Fits step u.cs s:=by
 obtain⟨ord,hr⟩:=hf;refine⟨ord,pO.wider step h.len (fun k c d hc hd=>?_) (fun i k ci di ck dk hci hdi hck hdk he=>?_) hr⟩
 ·obtain⟨g1,g2,_,g4⟩:=h.at' k c d hc hd;refine⟨g1,fun _=>g2,?_⟩
  rcases g4 with g4|⟨g4,g5⟩
  ·rw[g4]
  ·rw[g4,g5]; simp
 ·obtain⟨_,_,b,_⟩:=h.at' i ci di hci hdi;obtain⟨_,_,_,e'⟩:=h.at' k ck dk hck hdk;obtain⟨e,e1,e2⟩:=he;rcases e' with e'|⟨e3,e4⟩
  ·exact⟨e,by rw[<-e']; exact e1,aI⟩
  ·rw[e4] at e1; injection e1 with e1
   exact⟨n,e3,aI⟩
def Fg{α:Type}(l r:List α)(i:Nat)(f:α->α)(h:i<l.length):(l++r).modify i f=l.modify i f++r:=by
 apply ct;intro k;rw[fP];rcases bD k l.length with hk|hk
 ·rw[aO hk,aO (by simpa using hk),fP]
 ·rw[bg hk,bg (by simpa using hk),jy]
  have:¬i=k:=aI;simp[this]
def A4{a r:List (Ev O A)}{x y:Ev O A}{s:S}(hx:x.begin=false)(hy:y.begin=true)(hne:x.cl≠y.cl)(ho:tQ (a++x::y::r))(hf:Fits step (fN (a++x::y::r)).cs s):Fits step (fN (a++y::x::r)).cs s:=by
 obtain⟨c,hc,_⟩:=ho a x (y::r) rfl hx;have hl:=(aj.1 hc).1;have e1:fN (a++x::y::r)=r.foldl ij (ij (ij (fN a) x) y):=by unfold fN; rw[ll]; rfl
 have e2:fN (a++y::x::r)=r.foldl ij (ij (ij (fN a) y) x):=by unfold fN; rw[ll]; rfl
 rw[e1] at hf;rw[e2];refine QY.fits (n:=(fN a).n) (QY.fold r ?_) hf;generalize fN a=t at hl;obtain⟨n,cs,last⟩:=t;simp only at hl;have hxb:¬x.begin=true:=by simp[hx]
 have hlast:(if x.cl=y.cl then cs.length else last x.cl)=last x.cl:=aL hne
 simp only[ij,hxb,hy,aE,aD,af,hlast,jy];rw[Fg _ _ _ _ hl];refine⟨rfl,rfl,dv,fun k c d hc hd=>?_⟩
 simp only at hc hd;rcases bD k cs.length with hk|hk
 ·rw[aO (by simpa using hk)] at hc hd
  obtain⟨z,z1,rfl⟩:=tK hc;obtain⟨w,w1,rfl⟩:=tK hd;rw[z1] at w1; cases w1;split
  ·exact⟨rfl,rfl,.inl rfl,.inr ⟨rfl,rfl⟩⟩
  ·exact⟨rfl,rfl,.inl rfl,.inl rfl⟩
 ·rw[bg (by simpa using hk),jy] at hc hd
  cases hj:k-cs.length with
  |zero=>rw[hj] at hc hd; simp at hc hd; subst hc; subst hd; exact⟨rfl,rfl,.inr ⟨rfl,rfl⟩,.inl rfl⟩
  |succ m=>rw[hj] at hc; simp at hc
end Hs
set_option linter.unusedSectionVars false
namespace Hs
open Go
variable {S O A:Type} {step:S->O->S×A}
structure QW(t u:Cl O A):Prop where
 n':u.n=t.n
 last:u.last=t.last
 len:t.cs.length=u.cs.length
 at':∀(k:Nat)(c d:Call O A),t.cs[k]?=some c->u.cs[k]?=some d->d.op=c.op/\d.b=c.b/\d.e=c.e/\(c.e≠none->d.lg=c.lg)
def QW.next{t u:Cl O A}(h:QW t u)(x:Ev O A):QW (ij t x) (ij u x):=by
 unfold ij;split
 ·refine⟨by simp[h.n'],by simp only[h.last,h.len],by simp[h.len],fun k c d hc hd=>?_⟩
  simp only at hc hd;rcases bD k t.cs.length with hk|hk
  ·rw[aO hk] at hc;rw[aO (by rw[<-h.len]; exact hk)] at hd
   exact h.at' k c d hc hd
  ·rw[bg hk] at hc;rw[bg (by rw[<-h.len]; exact hk),<-h.len] at hd
   cases hj:k-t.cs.length with
   |zero=>rw[hj] at hc hd; simp at hc hd; subst hc; subst hd; exact⟨rfl,h.n',rfl,fun h=>absurd rfl h⟩
   |succ m=>rw[hj] at hc; simp at hc
 ·refine⟨by simp[h.n'],h.last,by simp[h.len],fun k c d hc hd=>?_⟩
  simp only at hc hd;rw[h.last] at hd;obtain⟨y,y1,rfl⟩:=tK hc;obtain⟨z,z1,rfl⟩:=tK hd;obtain⟨g1,g2,g3,g4⟩:=h.at' k y z y1 z1;split
  ·exact⟨g1,g2,by simp[h.n'],fun _=>rfl⟩
  ·exact⟨g1,g2,g3,g4⟩
def QW.fits{t u:Cl O A}(h:QW t u){s:S}(hf:Fits step t.cs s):Fits step u.cs s:=by
 obtain⟨ord,hr⟩:=hf;refine⟨ord,pO.wider step h.len (fun k c d hc hd=>?_) (fun i k ci di ck dk hci hdi hck hdk he=>?_) hr⟩
 ·obtain⟨g1,_,g3,g4⟩:=h.at' k c d hc hd;exact⟨g1,g4,by rw[g3]⟩
 ·obtain⟨_,b,_,_⟩:=h.at' i ci di hci hdi;obtain⟨_,_,e',_⟩:=h.at' k ck dk hck hdk;rw[b,e'] at he; exact he
end Hs
set_option linter.unusedSectionVars false
namespace Hs
open Go
variable {S O A:Type} {step:S->O->S×A}
def tQ.nil:tQ ([]:List (Ev O A)):=fun a x r h=>by simp at h
def tQ.snoc{l:List (Ev O A)}(h:tQ l){x:Ev O A}(hx:x.begin=false->∃c,(fN l).cs[(fN l).last x.cl]?=some c/\c.e=none):tQ (l++[x]):=by
 intro a y r e hy;rcases nB r with rfl|⟨r',z,rfl⟩
 ·have:=List.append_inj_right' (s₁:=l) (s₂:=a) (t₁:=[x]) (t₂:=[y]) e rfl;have h2:=List.append_inj_left' (s₁:=l) (s₂:=a) (t₁:=[x]) (t₂:=[y]) e rfl;injection this with this
  subst this; subst h2;exact hx hy
 ·rw[List.concat_eq_append,<-aG,<-bZ] at e;have h2:=List.append_inj_left' e rfl;exact h a y r' h2 hy
structure Shp(t u:Cl O A):Prop where
 n':u.n=t.n
 last:u.last=t.last
 be:u.cs.map (fun c=>(c.b,c.e))=t.cs.map fun c=>(c.b,c.e)
def Shp.next{t u:Cl O A}(h:Shp t u){x y:Ev O A}(hb:y.begin=x.begin)(hc:y.cl=x.cl):Shp (ij t x) (ij u y):=by
 have hl:u.cs.length=t.cs.length:=by simpa using congrArg List.length h.be
 unfold ij;rw[hb,hc,h.n',h.last,hl];split
 ·exact⟨rfl,rfl,by simp[h.be]⟩
 ·refine⟨rfl,rfl,?_⟩;simp only;apply ct;intro k;have hk:=congrArg (fun l=>l[k]?) h.be
  simp only[aY,fP] at hk ⊢;cases hu:u.cs[k]? with
  |none =>
   rw[hu] at hk;cases ht:t.cs[k]? with
   |none=>rfl
   |some c=>rw[ht] at hk; cases hk
  |some d =>
   rw[hu] at hk;cases ht:t.cs[k]? with
   |none=>rw[ht] at hk; cases hk
   |some c =>
    rw[ht] at hk;simp only[dL,gd,iE] at hk;split
    ·simp[hk.1]
    ·simp[hk.1,hk.2]
def shape:∀ {l m:List (Ev O A)},m.map (fun x=>(x.begin,x.cl))=l.map (fun x=>(x.begin,x.cl))->Shp (fN l) (fN m):=by
 have key:∀(l m:List (Ev O A)) (t u:Cl O A),m.map (fun x=>(x.begin,x.cl))=l.map (fun x=>(x.begin,x.cl))->Shp t u->Shp (l.foldl ij t) (m.foldl ij u):=by
  intro l;induction l with
  |nil=>intro m t u h hs; cases m with
   |nil=>exact hs
   |cons=>simp at h
  |cons x l ih=>intro m t u h hs; cases m with
   |nil=>simp at h
   |cons y m =>
    simp only[aF,kO,iE] at h;exact ih m _ _ h.2 (hs.next h.1.1 h.1.2)
 exact fun {l m} h=>key l m _ _ h ⟨rfl,rfl,rfl⟩
def tQ.amS{l m:List (Ev O A)}(hl:tQ l)(h:m.map (fun x=>(x.begin,x.cl))=l.map (fun x=>(x.begin,x.cl))):tQ m:=by
 intro a y r e hy;rw[e,aW,aF] at h;obtain⟨b,s,rfl,h1,h2⟩:=List.map_eq_append_iff.1 h.symm;obtain⟨x,q,rfl,h3,h4⟩:=List.map_eq_cons_iff.1 h2;simp only[iE] at h3;obtain⟨c,c1,c2⟩:=hl b x q rfl (by rw[h3.1]; exact hy)
 have hs:=shape h1.symm;have hk:=congrArg (fun l=>l[(fN b).last x.cl]?) hs.be
 simp only[aY,c1,dL] at hk;obtain⟨d,d1,d2⟩:=aV.1 hk;simp only[iE] at d2;exact⟨d,by rw[hs.last,<-h3.2]; exact d1,by rw[d2.2]; exact c2⟩
end Hs
namespace Go.Proofs.YteoamaffclmdbaaGreatDoor
open Go Go.Abs
def CO(l:List lk):List (Int×Int):=l.map fun x=>(x.kind,x.bA)
def P0{l m:List lk}(h:CO m=CO l):sI m=sI l:=by
 have key:∀(l m:List lk)(o:Int->Bool),CO m=CO l->m.foldl (fun o x c=>if c=x.bA then x.kind==1 else o c) o=l.foldl (fun o x c=>if c=x.bA then x.kind==1 else o c) o:=by
  intro l;induction l with
  |nil=>intro m o h; cases m with
   |nil=>rfl
   |cons=>simp[CO] at h
  |cons x l ih=>intro m o h; cases m with
   |nil=>simp[CO] at h
   |cons y m =>
    simp only[CO,aF,kO,iE] at h;rw[cF,cF,h.1.1,h.1.2];exact ih m _ h.2
 exact key _ _ _ h
def WF.amS{l:List lk}(hw:WF l):∀ {m:List lk},CO m=CO l->WF m:=by
 induction hw with
 |nil=>intro m h; cases m with
  |nil=>exact .nil
  |cons=>simp[CO] at h
 | @snoc l x h1 h2 h3 h4 ih =>
  intro m h;rcases nB m with rfl|⟨m',y,rfl⟩
  ·simp[CO] at h
  ·rw[List.concat_eq_append] at h ⊢;simp only[CO,aW] at h;obtain⟨e1,e2⟩:=List.append_inj' h rfl;simp only[aF,aR,kO,iE,pQ] at e2;exact .snoc (ih e1) (by rw[e2.2]; exact h2) (by rw[e2.1]; exact h3) (by rw[P0 e1,e2.1,e2.2]; exact h4)
def Dp(l:List lk):(cj l).cs.length=(l.filter fun x=>x.kind==1).length :=
 J4 (P:=fun l=>(cj l).cs.length=(l.filter fun x=>x.kind==1).length) rfl (fun l x ih=>by
  rw[nr,iK,aA,<-ih];unfold Hs.ij uG;simp only;cases hb:x.kind==1<;>simp[hb]) l
def WF.kind{l:List lk}(h:WF l):∀x,x∈l->x.kind=1\/x.kind=2:=by
 induction h with
 |nil=>intro x h; cases h
 |snoc h1 h2 h3 h4 ih =>
  intro y hy;rcases bo.1 hy with hy|hy
  ·exact ih y hy
  ·simp at hy; subst hy; exact h3
def WF.ends{l:List lk}(h:WF l):Hs.tQ (l.map uG):=by
 induction h with
 |nil=>exact Hs.tQ.nil
 | @snoc l x h1 h2 h3 h4 ih =>
  rw[aW];refine ih.snoc fun hb=>?_
  have hb:(x.kind==1)=false:=hb;rw[hb] at h4;obtain⟨c,g1,g2,_⟩:=(CS h1).op x.bA h2 h4;exact⟨c,g1,g2⟩
structure Hy(l:List lk):Prop where
 wf:WF l
 len:l.length<=30
 ev:∀x,x∈l->sN x.op/\x.bA<16/\(x.kind=1->x.op.bA=x.bA)
 O9:(l.filter fun x=>x.kind==1).length<=8
def Hy.ord{l:List lk}(h:Hy l){f:aa}{K:Nat}(hf:FB K f)(hK:K<=80000):wB 13 K f l :=
 JG (by have:=h.len; omega) h.wf.first (CS h.wf).cl (by rw[Dp]; exact h.O9) (fun x hx=>(h.ev x hx).1) hf hK
def Hy.right{l:List lk}(h:Hy l):zo l=true:=W0 h.wf (by have:=h.len; omega) fun x hx=>(h.ev x hx).2
def Hy.fits{l:List lk}(h:Hy l)(f:aa):(zl 13 f l).isSome=true↔Hs.Fits p8 (cj l).cs f:=by
 have hs:=P3 (n:=13) (f:=f) (l:=l) (by rw[Dp]; have:=h.O9; omega)
 cases ho:zl 13 f l with
 |none=>rw[ho] at hs; exact⟨fun h=>(by cases h),fun h=>absurd h hs⟩
 |some ord=>rw[ho] at hs; exact⟨fun _=>⟨ord,hs⟩,fun _=>rfl⟩
def NU{α β:Type}(g:α->β){l:List α}{k:Nat}{x y:α}(hx:l[k]?=some x)(hg:g y=g x):(l.set k y).map g=l.map g:=by
 apply ct;intro i;rw[aY,aY,fJ];split
 ·rename_i e; subst e;rw[aX (aj.1 hx).1,hx,dL,dL,hg]
 ·rfl
def EG{l:List lk}{k:Nat}{x y:lk}(hx:l[k]?=some x)(hg:y.kind=x.kind):((l.set k y).filter fun x=>x.kind==1).length=(l.filter fun x=>x.kind==1).length:=by
 have e:∀m:List lk,(m.filter fun x=>x.kind==1).length=((m.map fun x=>x.kind).filter fun k=>k==1).length:=fun m=>by
  rw[List.filter_map,ef]; rfl
 rw[e,e,NU _ hx hg]
def Hy.set{l:List lk}(h:Hy l){k:Nat}{x:lk}(hx:l[k]?=some x)(a:vU):Hy (l.set k { x with lg:=a }):=by
 refine⟨h.wf.amS (NU (y:={ x with lg:=a }) (fun x:lk=>(x.kind,x.bA)) hx rfl),by rw[cG]; exact h.len,fun y hy=>?_,by rw[EG (y:={ x with lg:=a }) hx rfl]; exact h.O9⟩
 rcases jG hy with hy|rfl
 ·exact h.ev y hy
 ·exact h.ev x (aK hx)
def Hy.take{l:List lk}(h:Hy l)(n:Nat):Hy (l.take n) :=
 ⟨WF.pre (l.drop n) (by rw[cC]; exact h.wf),by have:=h.len; rw[cp]; omega,fun x hx=>h.ev x (dM hx),by
  have:=((List.take_sublist n l).filter fun x=>x.kind==1).length_le
  have:=h.O9;omega⟩
def swap_eq{x y:lk}:∀ {l:List lk} {i:Nat},l[i]?=some x->l[i+1]?=some y->l=l.take i++x::y::l.drop (i+2)/\(l.set i y).set (i+1) x=l.take i++y::x::l.drop (i+2)
 | [],_,h,_=>by simp at h
 | [_],0,_,h=>by simp at h
 |a::b::r,0,h1,h2=>by simp at h1 h2; subst h1; subst h2; exact⟨rfl,rfl⟩
 |a::r,i+1,h1,h2=>by
  obtain⟨g1,g2⟩:=swap_eq (l:=r) (i:=i) (by simpa using h1) (by simpa using h2)
  exact⟨by simp only[ml,ke,aG]; rw[<-g1],by simp only[List.set_cons_succ,ml,ke,aG]; rw[<-g2]⟩
def L4{a r:List lk}{x y:lk}(hne:x.bA≠y.bA):sI (a++y::x::r)=sI (a++x::y::r):=by
 unfold sI;rw[ll,ll,cF,cF,cF,cF];congr 1;funext c
 show(if c=x.bA then x.kind==1 else if c=y.bA then y.kind==1 else _)=if c=y.bA then y.kind==1 else if c=x.bA then x.kind==1 else _
 by_cases h1:c=x.bA
 ·rw[aX h1,aL aI,aX h1]
 ·rw[aL h1]
  by_cases h2:c=y.bA
  ·rw[aX h2,aX h2]
  ·rw[aL h2,aL h2,aL h1]
def WF.swap{a:List lk}{x y:lk}(hne:x.bA≠y.bA)(r:List lk):WF (a++x::y::r)->WF (a++y::x::r) :=
 J4 (P:=fun r=>WF (a++x::y::r)->WF (a++y::x::r)) (fun h=>by
  rw[show a++[x,y]=a++[x]++[y] by simp] at h
  rw[show a++[y,x]=a++[y]++[x] by simp]
  obtain⟨h,y1,y2,y3⟩:=h.last;obtain⟨h,x1,x2,x3⟩:=h.last;rw[nF,aL (eS hne)] at y3;exact .snoc (.snoc h y1 y2 y3) x1 x2 (by rw[nF,aL hne]; exact x3)) (fun r z ih h=>by
  rw[show a++x::y::(r++[z])=(a++x::y::r)++[z] by simp] at h
  rw[show a++y::x::(r++[z])=(a++y::x::r)++[z] by simp]
  obtain⟨h,z1,z2,z3⟩:=h.last;exact .snoc (ih h) z1 z2 (by rw[L4 hne]; exact z3)) r
def Hy.swap{l:List lk}(h:Hy l){i:Nat}{x y:lk}(hx:l[i]?=some x)(hy:l[i+1]?=some y)(hne:x.bA≠y.bA):Hy ((l.set i y).set (i+1) x):=by
 obtain⟨e1,e2⟩:=swap_eq hx hy;have hw:=h.wf;rw[e1] at hw;rw[e2];refine⟨hw.swap hne,?_,fun z hz=>h.ev z ?_,?_⟩
 ·have h1:=congrArg List.length e1;have:=h.len;simp only[aA,au] at h1 ⊢;omega
 ·rw[e1];simp only[bo,bI] at hz ⊢;rcases hz with h|h|h|h
  ·exact .inl h
  ·exact .inr (.inr (.inl h))
  ·exact .inr (.inl h)
  ·exact .inr (.inr (.inr h))
 ·have h1:=congrArg (fun l:List lk=>(l.filter fun x=>x.kind==1).length) e1
  have:=h.O9;simp only[iK,eZ,aA] at h1 ⊢
  revert h1
  cases x.kind==1<;>cases y.kind==1<;>simp<;>omega
def Hy.A4{l:List lk}(h:Hy l){i:Nat}{x y:lk}(hx:l[i]?=some x)(hy:l[i+1]?=some y)(hxe:x.kind≠1)(hyb:y.kind=1)(hne:x.bA≠y.bA){f:aa}(hf:Hs.Fits p8 (cj l).cs f):Hs.Fits p8 (cj ((l.set i y).set (i+1) x)).cs f:=by
 obtain⟨e1,e2⟩:=swap_eq hx hy;have ho:=h.wf.ends;have c1:=(CS h.wf).cl x (aK hx);have c2:=(CS h.wf).cl y (aK hy);unfold cj at hf ⊢;rw[e1] at hf ho;rw[e2];rw[aW,aF,aF] at hf ho ⊢;refine Hs.A4 (x:=uG x) (y:=uG y) ?_ ?_ ?_ ho hf
 ·unfold uG; simp[hxe]
 ·unfold uG; simp[hyb]
 ·unfold uG; simp only; omega
def G7(p:UInt8×UInt8):ag := .agg [pf p.1,pf p.2]
def aeM(p:UInt8×UInt8)(f:aa):Bk [cv [pf p.1,pf p.2],cv (cg f)]:=fun _ _ _=>rfl
abbrev Ja(x:lk)(v:Int):lk:={ x with lg:={ x.lg with ar:=v } }
def aa5{l:List lk}{k:Nat}(x:lk)(v:Int):iP (l.map tq) k (putCells (tq x) 11 [aH v])=(l.set k (Ja x v)).map tq:=by
 rw[fe,gj]; rfl
def NJ{l:List lk}{k:Nat}(x y:lk):iP (l.map tq) k (putCells (tq x) 0 (nV y))=(l.set k y).map tq:=by
 rw[fe,gj]; rfl
def al5{f:aa}{K:Nat}(hf:FB K f)(hK:K<=70000){m:List wT}{dE:Nat}(hm:m.length<=24)(hmost:dE<=8)(ht:∀t,t∈m->sN t.op):Hy (runN f m dE).out/\Hs.Fits p8 (cj (runN f m dE).out).cs f/\(runN f m dE).out.length<=24/\((runN f m dE).out.filter fun x=>x.kind==1).length<=dE:=by
 obtain⟨h1,h2,h3,h4,h5⟩:=L5 hf hK hm hmost ht;obtain⟨_,g2⟩:=JZ hf (dE:=dE) m ht aI;have g3:=g2.calls;have g4:=g2.dE;rw[Dp] at g3;exact⟨⟨h2,aI,h4,aI⟩,h5,h3,aI⟩
section
open Go.ChangeShapes Go.WideShapes Go.ChangeAt Go.RowKit Go.Deep
section
variable {H:Type} {enc:TypeId×Value->H}
def ahe:Tryz.prog.cellsOf 69=9:=fy
def N3:Tryz.prog.underlying 23=some (.slice 69):=fy
set_option maxRecDepth 100000 in
def Xw{w:World}{fuel:Nat}{cs:List Value}{x:DataW H×List MemPlace}(h:DataW.trod enc Tryz.prog w 0 (fun _=>true) true fuel 69 cs=some x):∃s:wT,nN w (uN s) cs:=by
 obtain⟨xs,n,_,_,hl,hxl,hf⟩:=DataW.trod_struct underlying69 h;have h0:cs.length=9:=by rw[hl]; kernel_rfl
 match cs,h0 with
 | [v0,v1,v2,v3,v4,v5,v6,v7,v8],_ =>
  match xs,hxl with
  | [y0,y1],_ =>
   obtain⟨a0,r0⟩:=HJ Xx (Yh (k:=0) aeO rfl (hf 0 _ rfl));have h1:=hf 1 _ rfl;change DataW.trod enc Tryz.prog w 0 (fun _=>true) true n 49 (List.take (Tryz.prog.cellsOf 49) _)=_ at h1
   rw[amV] at h1;obtain⟨a1,r1⟩:=Ww h1;exact⟨⟨a0,a1⟩,.app (.one r0) r1⟩
set_option maxRecDepth 100000 in
def Qm{w:World}{r:Reach}{b:Nat}{v:Value}{d:DataW H}{ps:List MemPlace}(h:DataW.Trod enc Tryz.prog w 0 (fun _=>true) true 23 v d ps)(hv:Value.okWide Tryz.prog w r b 23 v):∃l:List wT,gn SR [] w (B3 l) v:=by
 obtain⟨a,len,cap,rfl⟩:=okWide_slice N3 hv;obtain⟨fuel,hf⟩:=h;obtain⟨l,h2,_⟩:=EB (eC:=uN) (mk:=RE) N3 ahe aI (fun _=>rfl) (fun _=>rfl) (fun n cs y _ hy=>Xw hy) hf
 exact⟨l,.plain h2⟩
def adS:Tryz.prog.underlying 61=some (.array 2 5):=fy
set_option maxRecDepth 100000 in
def abt{w:World}{r:Reach}{b:Nat}{v:Value}{d:DataW H}{ps:List MemPlace}(h:DataW.Trod enc Tryz.prog w 0 (fun _=>true) true 61 v d ps)(hv:Value.okWide Tryz.prog w r b 61 v):∃p:UInt8×UInt8,gn SR [] w (G7 p) v:=by
 have hv1:=hv;simp only[Value.okWide,adS] at hv1;obtain⟨cs,rfl,_⟩:=hv1;obtain⟨fuel,hf⟩:=h;have hcs:(Value.agg cs).cells.toList=cs.toList:=rfl;rw[hcs] at hf;obtain⟨xs,n,_,_,hl,hxl,he⟩:=DataW.trod_array adS hf;have h0:cs.toList.length=2:=by rw[hl]; kernel_rfl
 have e0:=he 0 aI;have e1:=he 1 aI;rw[aeO] at e0 e1
 match hc:cs.toList,h0 with
 | [v0,v1],_ =>
  match xs,hxl with
  | [y0,y1],_ =>
   rw[hc] at e0 e1;obtain⟨a0,r0⟩:=HJ Xx e0;obtain⟨a1,r1⟩:=HJ Xx e1;exact⟨⟨a0,a1⟩,Ye (by rw[hc]; exact .app (.one r0) (.one r1))⟩
end
end
def D7{f:Nat}{vs:List ag}{M:aC}{x:ag×aC}(h:aU (aq bW) f vs M=some x):aU (aq Kb) f vs M=some x:=lH (lT (lE h))
def XD(x:ag)(l:List ag)(n:Nat):wid (x::l) n=(x.cells.length=n/\wid l n):=by simp[wid]
section
attribute [local irreducible] eX fM lC gK dX kr aq aU cr bJ
set_option maxRecDepth 100000 in
def c9:aq Kb 9 [] []=some (.bool true,[]):=by
 have q22:=fun(c:Int) (o:jF) (M:aC)=>D7 (cO (c22 c o) M)
 have q23:=fun(c:Int) (a:vU) (M:aC)=>D7 (cO (c23 c a) M)
 have b1:=q22 0 FO;have b2:=q22 1 FN;have n1:=q23 0 B8;have n2:=q23 1 B8;have n3:=q23 1 Nb;have q24:=fun M=>D7 (k24 M)
 have oA:=fun M=>lH (SV okA M)
 have oB:=fun M=>lH (SV okB M)
 have oC:=fun M=>lH (SV okC M)
 have oD:=fun M=>lH (SV okD M)
 have fB:=fun M=>lH (k18 okB M)
 have fC:=fun M=>lH (k18 okC M)
 have rA:=fun M=>D7 (cO (c11 Y4 mr) M)
 have rB:=fun M=>D7 (cO (c11 (Y4.drop 1) mr) M)
 have s1:=fun M=>D7 (k17 [0,2] mr M)
 have s2:=fun M=>D7 (k17 [1,0] mr M)
 have s3:=fun M=>D7 (k17 [0,1] mr M)
 rw[orA] at oA;rw[orB] at oB fB;rw[orC] at oC fC;rw[orD] at oD;rw[rtA] at rA;rw[at6] at rB;have eA:(((some [0,1]:Option (List Nat)).getD []).map fun i=>mS (GV (cj Y4).cs i))=[mS 0,mS 2]:=rfl
 have eB:(((some [1,0]:Option (List Nat)).getD []).map fun i=>mS (GV (cj hiB).cs i))=[mS 1,mS 0]:=rfl
 have eC:(((none:Option (List Nat)).getD []).map fun i=>mS (GV (cj hiC).cs i))=[]:=rfl
 have eD:(((some [0,1]:Option (List Nat)).getD []).map fun i=>mS (GV (cj hiD).cs i))=[mS 0,mS 1]:=rfl
 rw[eA] at oA;rw[eB] at oB;rw[eC] at oC;rw[eD] at oD;have v0:mS 0 = aH 0:=rfl;have v1:mS 1 = aH 1:=rfl;have v2:mS 2 = aH 2:=rfl;simp only[v0,v1,v2,vw,FO,FN,B8,Nb,eW,dA,cV,da,aR,aF,tq,nV,AL,CL,CP,Ki,Y4,hiB,hiC,hiD,bX,dp,ke,jx] at b1 b2 n1 n2 n3 oA oB oC oD fB fC rA rB s1 s2 s3;refine aB ?_;simp only[fn9,E9,b1,b2,n1,n2,n3,q24,sE,ko,wy,vg,wO,za,aE,oA,oB,oC,oD,fB,fC,rA,rB,s1,s2,s3,XD,ag.cells,EW,seval]
 done
end
end Go.Proofs.YteoamaffclmdbaaGreatDoor
