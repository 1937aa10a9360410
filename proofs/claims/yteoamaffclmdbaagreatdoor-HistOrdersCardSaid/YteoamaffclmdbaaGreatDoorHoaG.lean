import Derived.Test.YteoamaffclmdbaaGreatDoorHoaF
set_option linter.unusedSimpArgs false
set_option linter.unusedVariables false
set_option linter.unusedSectionVars false
set_option linter.defProp false
open Go.Proofs.Tryz
namespace Go.Proofs.YteoamaffclmdbaaGreatDoor
open Go Go.Abs
abbrev G8(cs:List ve)(k:Nat):Bool:=match cs[k]? with
 |some c=>c.e.isSome
 |none=>false
theorem JV{α:Type}{P:List α->Prop}(h0:P [])(h1:∀l x,P l->P (l++[x]))(l:List α):P l:=by
 rw[<-l.reverse_reverse];induction l.reverse<;>grind
theorem wZ(l:List nr):∀c,c∈(bN l).cs->(∃x,l[c.b]?=some x/\x.op=c.op/\x.kind=1)/\∀e,c.e=some e->∃y,l[e]?=some y/\y.ll=c.ll:=by
 refine JV (P:=fun l=>∀c,c∈(bN l).cs->(∃x,l[c.b]?=some x/\x.op=c.op/\x.kind=1)/\∀e,c.e=some e->∃y,l[e]?=some y/\y.ll=c.ll) ?_ ?_ l
 ·simp[bN,Hs.iE]
 ·intro l x ih c hc;rw[lf] at hc;have last:(l++[x])[l.length]?=some x:=dw
  have hold:∀c,c∈(bN l).cs->(∃y,(l++[x])[c.b]?=some y/\y.op=c.op/\y.kind=1)/\∀e,c.e=some e->∃y,(l++[x])[e]?=some y/\y.ll=c.ll:=fun c hc=>by
   grind
  unfold Hs.kN at hc;split at hc
  ·rename_i hb;simp only[bo,bQ] at hc;rcases hc with hc|hc
   ·exact hold c hc
   ·subst hc;simp only[sw];refine⟨⟨x,last,rfl,?_⟩,fun e he=>j6⟩
    simpa[wK] using hb
  ·simp only at hc;obtain⟨i,hi⟩:=kQ.1 hc;rw[ib] at hi;cases hci:(bN l).cs[i]? with
   |none=>rw[hci] at hi; cases hi
   |some d =>
    have hd:=hold d (aI hci);rw[hci] at hi;simp only[Option.map_eq_map,eL] at hi;split at hi
    ·cases hi;refine⟨hd.1,fun e he=>?_⟩
     simp only[sw] at he;cases he;exact⟨x,last,rfl⟩
    ·cases hi;exact hd
structure wo(n K:Nat)(f:aa)(l:List nr):Prop where
 h:aiq l
 fb:FB K f
 RD:(bN l).cs.length<=12
 tb:∃W,(∀done,Hs.Good (bN l).cs done->ET (bN l).cs done (List.range (bN l).cs.length)<=W)/\Tb W ((bN l).cs.length+1)<=900000
 n:(bN l).cs.length+1<=n
 K:K<=80000
 ops:∀c,c∈(bN l).cs->sg c.op
def Hp(cs:List ve)(i k:Nat):List Nat:=(List.range cs.length).map fun j=>if j<i then bitsOf (fun k=>Hs.lK cs k j) cs.length else if j=i then bitsOf (fun k=>Hs.lK cs k i) k else 0
def bOf(f:aa)(l:List nr):Bs:=⟨f,l,(bN l).cs,bitsOf (G8 (bN l).cs) (bN l).cs.length,0,Hp (bN l).cs (bN l).cs.length 0⟩
theorem CS(cs:List ve)(i k:Nat):(Hp cs i k).length=cs.length:=by simp[Hp]
def Hq{cs:List ve}{i k j:Nat}(hj:j<cs.length):(Hp cs i k)[j]?=some (if j<i then bitsOf (fun k=>Hs.lK cs k j) cs.length else if j=i then bitsOf (fun k=>Hs.lK cs k i) k else 0):=by
 simp_all [Hp]
theorem WB(cs:List ve)(i:Nat):Hp cs i cs.length=Hp cs (i+1) 0:=by
 refine cY fun j hj=>?_
 by_cases h1:j<i
 ·rw[aW h1,aW aH]
 ·rw[aP h1]
  by_cases h2:j=i
  ·grind
  ·rw[aP h2,aP aH]
   by_cases h3:j=i+1
   ·rw[aW h3]; rfl
   grind
theorem WC(cs:List ve):Hp cs 0 0=List.replicate cs.length 0:=by
 unfold Hp;refine cE fun j=>?_
 rw[aX,gm]
 by_cases hj:j<cs.length
 ·rw[gP hj];simp only[eL,jI,aD];split<;>rfl
 grind
theorem JI{cs:List ve}{i k:Nat}(h:Hs.lK cs k i=false):Hp cs i (k+1)=Hp cs i k:=by
 grind [Hp,bitsOf]
theorem aa2{cs:List ve}{i k:Nat}(h:Hs.lK cs k i=true):(Hp cs i k).set i (bitsOf (fun k=>Hs.lK cs k i) k ||| 2 ^ k)=Hp cs i (k+1):=by
 refine cE fun j=>?_
 rcases bE j _ with hj|hj
 ·rw[fL,Hq hj,Hq hj,CS]
  by_cases h1:i=j
  ·subst h1;rw[aW rfl,aW hj,aP (ic _),aW rfl,bitsOf,h,aW rfl]
  grind
 grind [CS]
def amG{n K:Nat}{f:aa}{l:List nr}(h:wo n K f l):Lk (bOf f l):=by
 refine⟨by have:=h.RD; show(bN l).cs.length<=60; omega,rfl,CS _ _ _,fun j hj=>?_,fun c hc=>?_,fun c hc e he=>?_⟩
 ·show(Hp _ _ 0)[j]?=_
  have hj:j<(bN l).cs.length:=hj;rw[Hq hj,aW hj]; rfl
 ·obtain⟨x,h1,h2,_⟩:=(wZ l c hc).1;exact⟨x,h1,h2,h.ops c hc⟩
 ·exact(wZ l c hc).2 e he
def aiu:∀r,r<=9->Tb 60 r<=900000:=mu
def Xk{cs:List ve}(h:cs.length<=8):∃W,(∀done,Hs.Good cs done->ET cs done (List.range cs.length)<=W)/\Tb W (cs.length+1)<=900000 :=
 ⟨60,fun done hg=>by have:=Ih hg; omega,aiu _ aH⟩
noncomputable def Bg(n:Nat)(f:aa)(l:List nr):Option (List Nat):=(Hs.wL pf jh (bN l).cs n f [] []).1
section
attribute [local irreducible] eX fJ lj gK dY kr aq aR cp bI
theorem MB(c:ve):decide (0<=rp c)=c.e.isSome:=by
 grind [rp]
def c15{n K:Nat}{f:aa}{l:List nr}(h:wo n K f l):aq (rf n) 15 [.agg (cf f),qR l] []=some (.tuple [gA (((Bg n f l).getD []).map fun i=>lh (rV (bN l).cs i)),.bool (Bg n f l).isSome],[]):=by
 have hfew:=h.RD;have qc:=fun M=>lT (n:=n) (lE (cO (c30 h.h) M))
 refine aB ?_;have hn:(bN l).cs.length<=12:=h.RD;obtain⟨W,hW,hTb⟩:=h.tb;simp only[aeY,QD,qc,EW,seval]
 refine nh (xs:=(bN l).cs) aH (fun i (E:Nat)=>E=bitsOf (G8 (bN l).cs) i) (fun _ _=>()) (fun _ i=>[(2,cv 0),(3,cv 1),(6,cv 2),(7,cv 3),(20,gA ((bN l).cs.map qq)),(21,aF (bN l).cs.length),(22,aF i)])
  (fun E=>[cA (cf f),cA [qR l],cA [gA ((bN l).cs.map qq)],cA [xE E]]) (fun _=>_) (fun E hE=>?_) (fun pre x post E e hx cJ hw h0 hm hE hi=>?_) 0 rfl
 ·have rmn:cr (bN l).cs.length 8=True:=qI;have hrep:List.replicate (bN l).cs.length (ag.agg [ag.int IntKind.u64 0]).norm=(Hp (bN l).cs 0 0).map xE:=by rw[WC,gZ]; rfl
  simp only[QD,bm,rmn,hrep,EW,seval]
  refine nh (xs:=(bN l).cs) aH (fun i (rd:List Nat)=>rd=Hp (bN l).cs i 0) (fun _ _=>()) (fun _ i=>[(2,cv 0),(3,cv 1),(6,cv 2),(7,cv 3),(10,cv 5),(38,gA ((bN l).cs.map qq)),(39,aF (bN l).cs.length),(40,aF i)])
   (fun rd=>[cA (cf f),cA [qR l],cA [gA ((bN l).cs.map qq)],cA [xE E],.arr 1 0 (rd.map xE),cA [.cB 4 0 1 0 (bN l).cs.length]]) (fun _=>_) (fun rd hrd=>?_) (fun pre x post rd e hx cJ hw h0 hm hrd hi=>?_) (Hp (bN l).cs 0 0) rfl
  ·obtain⟨s',hin,hA⟩:=Xl (W:=W) (amG h) hW n ((bN l).cs.length+1) h.n f K [] [] ⟨[],[],0,[],0⟩ (by show(bN l).cs.length+1=_; simp) h.fb (by have:=h.K; omega) ⟨lq,fun k hk=>by cases hk⟩ (C0.nil 11 []) (fun k=>rfl) j6 (au _) (by simp only; omega)
   have hin':=J3 hin;have ho:Bg n f l=(Hs.wL pf jh (bOf f l).cs n f [] []).1:=rfl;rw[ho];generalize Hs.wL pf jh (bOf f l).cs n f [] []=X at hin' hA;obtain⟨o,lo⟩:=X;have hout:=hA.out;have hk:=hA.k;obtain⟨m2,r2,ov2,ox2,k2⟩:=s';simp only[lY,bOf,jh,yq,aU,CS,show eKu ([]:SM)=[] from rfl,show o9 K6 []=[] from rfl,show xE 0 = .int .u64 0 from rfl] at hin'
   subst hE;subst hrd;simp only[List.take_nil,aO] at hout hk;cases o with
   |none =>
    simp only[dr] at hin';simp only[QD,bm,lX,yj,hin',EW,seval];rfl
   |some ord =>
    simp only[bX] at hin'
    have hso:List.take k2 (List.map lh ox2)=ord.map fun i=>lh (rV (bN l).cs i):=by
     rw[<-eP,hout,gG]; rfl
    simp only[QD,bm,lX,yj,hin',hso,EW,seval];rfl
  ·have hpl:=(aj.1 hx).1;simp only[QD,cJ,hx,jV,kM,BB,A3,EW,seval]
   refine nh (xs:=(bN l).cs) aH (fun k (rd:List Nat)=>rd=Hp (bN l).cs pre.length k) (fun _ _=>()) (fun _ k=>[(2,cv 0),(3,cv 1),(6,cv 2),(7,cv 3),(10,cv 5),(11,lh pre.length),(12,cv 6),(38,gA ((bN l).cs.map qq)),(39,aF (bN l).cs.length),(40,lh pre.length),(45,gA ((bN l).cs.map qq)),(46,aF (bN l).cs.length),(47,aF k)])
    (fun rd=>[cA (cf f),cA [qR l],cA [gA ((bN l).cs.map qq)],cA [xE E],.arr 1 0 (rd.map xE),cA [.cB 4 0 1 0 (bN l).cs.length],cA (qy x)]) (fun _=>_) (fun rd' hrd'=>?_) (fun pre' y post' rd' e' hy hlt' hw' h0' hm' hrd' hi'=>?_) rd hrd
   ·have i1:=hi rd' (by rw[hrd',WB])
    simp only[QD,bm,hw,EW,seval];exact i1
   ·have hpl':=(aj.1 hy).1;have hen:=MB y;have hah:Hs.lK (bN l).cs pre'.length pre.length=(match y.e with|some e=>decide (e<x.b)|none=>false):=by simp only[Hs.lK,hx,hy]<;>cases y.e<;>rfl
    have hat:rd'[pre.length]?=some (bitsOf (fun k=>Hs.lK (bN l).cs k pre.length) pre'.length):=by rw[hrd',Hq hpl,aP (ic _),aW rfl]
    have hlr:((pre.length:Int)<(((bN l).cs.length-0:Nat):Int))=True:=cJ;have hsl:=W0 (k:=pre'.length) aH;simp only[dJ] at hsl;have hor:=SE (xO (fun k=>Hs.lK (bN l).cs k pre.length) (n:=pre'.length) aH) (n:=2 ^ pre'.length) (lx aH aH)
    cases hye:y.e with
    |none =>
     rw[hye] at hen hah;have i1:=hi' rd' (by rw[hrd',JI hah])
     simp only[QD,hlt',hy,hw',hen,dr,jV,kM,BB,u6,A3,EW,seval];exact i1
    |some e2 =>
     have hce:rp y=(e2:Int):=by unfold rp; rw[hye]
     rw[hye] at hen hah;cases hd:decide (e2<x.b)
     ·have i1:=hi' rd' (by rw[hrd',JI (hah.trans hd)])
      have hd2:decide ((e2:Int)<(x.b:Int))=false:=by simp at hd ⊢; omega
      simp only[QD,hlt',hy,hw',hce,hd2,jV,kM,BB,zd,u6,A3,EW,seval];exact i1
     ·have i1:=hi' (rd'.set pre.length (bitsOf (fun k=>Hs.lK (bN l).cs k pre.length) pre'.length ||| 2 ^ pre'.length)) (by rw[hrd',aa2 (hah.trans hd)])
      have hd2:decide ((e2:Int)<(x.b:Int))=true:=by simp at hd ⊢; omega
      simp only[gH] at i1;have hsr:∀v,iT (List.map xE rd') pre.length v=(List.map xE rd').set pre.length v:=fun v=>fj _ _ _
      simp only[QD,hlt',hy,hw',hce,hd2,hlr,hat,hsl,hor,hsr,jV,kM,BB,zd,u6,A3,EW,seval];exact i1
 ·have hpl:=(aj.1 hx).1;have hEl:E<2 ^ 64:=by rw[hE]; exact xO _ aH
  have hsl:=W0 (k:=pre.length) aH;simp only[dJ] at hsl;have hor:=SE hEl (n:=2 ^ pre.length) (lx aH aH);have hen:=MB x;have hib:G8 (bN l).cs pre.length=x.e.isSome:=by simp only[G8,hx]
  cases hs:x.e.isSome
  ·have i1:=hi E (by rw[hE,bitsOf,hib,hs]; simp)
   simp only[QD,cJ,hx,hw,hen,hs,jV,kM,BB,u6,A3,EW,seval];exact i1
  ·have i1:=hi (E ||| 2 ^ pre.length) (by rw[hE,bitsOf,hib,hs]; rfl)
   simp only[QD,cJ,hx,hw,hen,hs,hsl,hor,jV,kM,BB,u6,A3,EW,seval];exact i1
def Qv{n K:Nat}{f:aa}{l:List nr}(h:wo n K f l)(M:aC):aR (aq (rf n)) 15 [.agg (cf f),qR l] M=some (.tuple [gA (((Bg n f l).getD []).map fun i=>lh (rV (bN l).cs i)),.bool (Bg n f l).isSome],M) :=
 cO (c15 h) M
def c18{n K:Nat}{f:aa}{l:List nr}(h:wo n K f l):aq (rf n) 18 [.agg (cf f),qR l] []=some (.bool (Bg n f l).isSome,[]):=by
 have q:=fun M=>Qv h M
 refine aB ?_;simp only[akY,E18,lX,yj,wh,yg,Cz,aE,q,EW,seval]
 done
def k18{n K:Nat}{f:aa}{l:List nr}(h:wo n K f l)(M:aC):aR (aq (rf n)) 18 [.agg (cf f),qR l] M=some (.bool (Bg n f l).isSome,M) :=
 cO (c18 h) M
end
def Sn(cs:List ve):Hs.Good cs []:=⟨lq,fun k hk=>by cases hk⟩
def PT{n:Nat}{f:aa}{l:List nr}(hn:(bN l).cs.length+1<=n):match Bg n f l with
  |some ord=>Hs.o7 pf (bN l).cs f [] ord
  |none=>¬ ∃ord,Hs.o7 pf (bN l).cs f [] ord:=by
 have:=(Hs.J5 (step:=pf) (key:=jh) (fun a b h=>VO h) (cs:=(bN l).cs) n f [] [] (Sn _) gh (fun p hp=>by cases hp)).2
 exact this
end Go.Proofs.YteoamaffclmdbaaGreatDoor
namespace Go.Abs
open Go
def wa(M X:aC)(k:Nat):nth (M++X) (M.length+k)=nth X k:=by rw[fe,fe,bt (kh _ _)]; simp
def vB(M X:aC):nth (M++X) M.length=nth X 0:=wa M X 0
def wg(M X:aC)(k:Nat)(c:cL):iT (M++X) (M.length+k) c=M++iT X k c:=by
 rw[fj,fj,List.set_append_right _ _ (kh _ _)]; simp
def vH(M X:aC)(c:cL):iT (M++X) M.length c=M++iT X 0 c:=wg M X 0 c
end Go.Abs
namespace Go.Proofs.YteoamaffclmdbaaGreatDoor
open Go Go.Abs
def uG(a:vN):(K5 a).cells=cT a:=rfl
structure RS where
 f:aa
 out:List nr
 st:List Nat
 ops:List jC
 ll:List vN
 calls:Nat
def pr(t:wU):Nat:=t.bC.toNat % 3
def V1(t:wU):jC:={ t.op with bC:=(pr t:Nat) }
def Al(dS:Nat)(s:RS)(t:wU):RS :=
 match (s.st[pr t]?).getD 3 with
 |0=>if s.calls=dS then s else { s with out:=s.out++[AA (pr t) t.op],st:=s.st.set (pr t) 1,ops:=s.ops.set (pr t) (V1 t),calls:=s.calls+1 }
 |1=>{ s with f:=(pf s.f ((s.ops[pr t]?).getD J9)).1,ll:=s.ll.set (pr t) (pf s.f ((s.ops[pr t]?).getD J9)).2,st:=s.st.set (pr t) 2 }
 |2=>{ s with out:=s.out++[CB (pr t) ((s.ll[pr t]?).getD CE)],st:=s.st.set (pr t) 0 }
 |_=>s
def NK(f:aa):RS:=⟨f,[],[0,0,0],[J9,J9,J9],[CE,CE,CE],0⟩
structure RI(K:Nat)(dS i:Nat)(s:RS):Prop where
 fb:FB (K+200*i) s.f
 out:s.out.length<=i
 st:s.st.length=3
 lt:∀(k v:Nat),s.st[k]?=some v->v<3
 ops:s.ops.length=3
 ok:∀o,o∈s.ops->sg o
 ll:s.ll.length=3
 calls:s.calls<=i
def y8(M0:aC)(s:RS)(ov:Nat)(X:aC):aC :=
 M0++(.cells (cf s.f) :: .cells rh :: .arr 17 ov (s.out.map zC) :: .arr 1 0 (s.st.map lh) :: .arr 8 0 (s.ops.map XB) :: .arr 7 0 (s.ll.map K5)::X)
def Dr(M0:aC)(m:List wU)(dS:Nat)(s:RS)(ov i:Nat):Env:=[(1,BR m),(2,lh dS),(3,.ptr M0.length 0),(7,.ptr (M0.length+1) 0),(8,.cB (M0.length+2) ov 17 0 s.out.length),(9,.cB (M0.length+3) 0 1 0 3),(10,.cB (M0.length+4) 0 8 0 3),(11,.cB (M0.length+5) 0 7 0 3),(12,lh s.calls),(13,lh i)]
def Qy:List Nat:=[1,2,3,7,8,9,10,11,12,13]
def Bk(M0:aC):Prop:=∀B M,M0.length<=B->M0.map (cL.back B M)=M0
def Ou{M0:aC}(h:Bk M0)(s:RS)(ov:Nat)(X:aC):iU (M0.length+6) (y8 M0 s ov X)=y8 M0 s ov []:=by
 unfold iU;generalize hM:y8 M0 s ov X=M
 have e:M.take (M0.length+6)=y8 M0 s ov []:=by
  rw[<-hM];unfold y8;rw[List.take_append,bB aH,show M0.length+6-M0.length=6 by omega]
  rfl
 rw[e];unfold y8;simp only[aZ,h (M0.length+6) M aH,aK,aU,cL.back,cf,rh,ag.jE,ag.jz,ba,tV,rY,ke,fI,cQ]
noncomputable def Xg(n B:Nat)(k:List K)(bq:Env)(M:aC):Option (ag×aC):=eX (aq (rf n)) [.tmp 6,.dG 7 10] B k (sub b14 63) bq M
noncomputable def vw(n B:Nat)(M0:aC)(m:List wU)(dS:Nat)(s:RS)(ov i:Nat):Option (ag×aC):=eX (aq (rf n)) [.tmp 6,.dG 7 10] B [.block 0,.seq (sub b14 64)] (.loop Qy (sub b14 17)) (Dr M0 m dS s ov i) (y8 M0 s ov [])
section
attribute [local irreducible] eX fJ lj gK dY kr aq aR cp bI
def Ak{n B:Nat}{k:List K}{bq:Env}{M:aC}:eX (aq (rf n)) [.tmp 6,.dG 7 10] B k (sub b14 63) bq M=Xg n B k bq M:=rfl
def L4{n B:Nat}{M0:aC}(h:Bk M0){m:List wU}{dS:Nat}{s:RS}{ov i:Nat}(hi:i<1000)(X:aC){bq:Env}(he:jn bq Qy=Dr M0 m dS s ov i) :
  Xg n B [.loop Qy (M0.length+6) (sub b14 17),.block 0,.seq (sub b14 64)] bq (y8 M0 s ov X)=vw n B M0 m dS s ov (i+1):=by
 have hb:=Ou h s ov X;simp only[jn,Qy,Dr,aK,aU,List.cons.injEq,pY,true_and,and_true] at he;obtain⟨g1,g2,g3,g7,g8,g9,g10,g11,g12,g13⟩:=he;unfold Xg vw Dr Qy;generalize y8 M0 s ov X=M at hb;have e0:(M0.length<M0.length+6)=True:=sH;have e1:∀j,j<6->(M0.length+j<M0.length+6)=True:=fun j hj=>by simp only[fx,ja]; omega
 have e11:=e1 1 aH;have e12:=e1 2 aH;have e13:=e1 3 aH;have e14:=e1 4 aH;have e15:=e1 5 aH;have e3:IntKind.i64.wrap ((i:Int)+1)=((i+1:Nat):Int):=by rw[gW aH aH]; rfl
 simp only[E14,↓hb,g1,g2,g3,g7,g8,g9,g10,g11,g12,g13,e0,e11,e12,e13,e14,e15,e3,EW,seval]
def WV{n K:Nat}{M0:aC}(h:Bk M0){m:List wU}{dS:Nat}{s:RS}{ov i:Nat}{t:wU}(hI:RI K dS i s)(ht:m[i]?=some t)(hto:sg t.op)(hm:m.length<=100)(hK:K+200*(i+1)<=89000) :
  ∃ov',∀B,vw n B M0 m dS s ov i=vw n B M0 m dS (Al dS s t) ov' (i+1):=by
 have hil:=(aj.1 ht).1;have cJ:((i:Int)<(m.length:Int))=True:=sH;have hc3:pr t<3:=nu _ aH;have hw8:IntKind.i64.wrap (t.bC.toNat:Int)=(t.bC.toNat:Int):=by have:=t.bC.toNat_lt; rw[gW aH aH]
 have hrem:((t.bC.toNat:Nat):Int).tmod 3=((pr t:Nat):Int):=by unfold pr; rfl
 have hlt3:(((pr t:Nat):Int)<3)=True:=sH;obtain⟨v,hv⟩:∃v,s.st[pr t]?=some v:=⟨_,ai (by rw[hI.st]; exact hc3)⟩
 obtain⟨o,ho⟩:∃o,s.ops[pr t]?=some o:=⟨_,ai (by rw[hI.ops]; exact hc3)⟩
 obtain⟨a,ha⟩:∃a,s.ll[pr t]?=some a:=⟨_,ai (by rw[hI.ll]; exact hc3)⟩
 have hv3:=hI.lt _ _ hv;have hoo:=hI.ok o (aI ho);have hcal:=hI.calls;have hout:=hI.out;unfold Al;rw[hv,ho,ha];simp only[bj];have fin:=fun(s':RS) (ov' B:Nat)=>fun X bq (he:jn bq Qy=Dr M0 m dS s' ov' i)=>L4 (n:=n) (B:=B) h (s:=s') aH X he
 match v,hv3 with
 |0,_ =>
  by_cases hcm:s.calls=dS
  ·rw[aW hcm];refine⟨ov,fun B=>?_⟩
   have fin:=fin s ov B;have hcq:((s.calls:Int)==(dS:Int))=true:=gh;unfold vw at fin ⊢;rw[bF];simp only[Dr,Qy,y8] at fin ⊢;simp only[E14,↓Ak,cJ,hcq,ht,hw8,hrem,hlt3,hv,ho,ha,wa,vB,wg,vH,bV,aG,aO,uI,qW,uG,cT,yn,EW,seval];exact fin [] _ rfl
  ·rw[aP hcm];refine⟨ov+1,fun B=>?_⟩
   have fin:=fin { s with out:=s.out++[AA (pr t) t.op],st:=s.st.set (pr t) 1,ops:=s.ops.set (pr t) (V1 t),calls:=s.calls+1 } (ov+1) B
   have hcq:((s.calls:Int)==(dS:Int))=false:=gh;have rm:cr (s.out.length+1) 200=True:=qI;have hwc:IntKind.i64.wrap ((s.calls:Int)+1)=((s.calls+1:Nat):Int):=by rw[gW aH aH]; rfl
   have hs1:iT (s.st.map lh) (pr t) (putCells (lh 0) 0 [ag.int IntKind.i64 ((IntKind.i64.wrap 1).tmod 3)])=(s.st.map lh).set (pr t) (lh 1):=by
    have e:(IntKind.i64.wrap 1).tmod 3=((1:Nat):Int):=mu;rw[fj,e]; rfl
   have hs2:∀x,iT (s.ops.map XB) (pr t) x=(s.ops.map XB).set (pr t) x:=fun x=>fj _ _ _
   unfold vw at fin ⊢;rw[bF];simp only[Dr,Qy,y8,aZ,aK,aU,gH,aA,av,az,aJ] at fin ⊢;simp only[E14,↓Ak,cJ,hcq,rm,hwc,hs1,hs2,se,ht,hw8,hrem,hlt3,hv,ho,ha,wa,vB,wg,vH,bV,aG,aO,uI,qW,uG,cT,yn,EW,seval];exact fin [_] _ rfl
 |1,_ =>
  refine⟨ov,fun B=>?_⟩
  have fin:=fin { s with f:=(pf s.f o).1,ll:=s.ll.set (pr t) (pf s.f o).2,st:=s.st.set (pr t) 2 } ov B
  have qd:=fun M=>lT (n:=n) (k29 s.f o hI.fb.ok hoo M)
  have hs1:iT (s.st.map lh) (pr t) (putCells (lh 1) 0 [ag.int IntKind.i64 ((IntKind.i64.wrap 2).tmod 3)])=(s.st.map lh).set (pr t) (lh 2):=by
   have e:(IntKind.i64.wrap 2).tmod 3=((2:Nat):Int):=mu;rw[fj,e]; rfl
  have hs2:∀x,iT (s.ll.map K5) (pr t) x=(s.ll.map K5).set (pr t) x:=fun x=>fj _ _ _
  simp only[eT,cT] at qd;unfold vw at fin ⊢;rw[bF];simp only[Dr,Qy,y8,aZ,aK,aU,gH,aA,av,az,aJ] at fin ⊢;simp only[E14,↓Ak,cJ,qd,hs1,hs2,ht,hw8,hrem,hlt3,hv,ho,ha,wa,vB,wg,vH,lX,yj,EU,wh,Cz,yg,JF,aE,eT,bV,aG,aO,uI,qW,uG,cT,yn,EW,seval];exact fin [_,_] _ rfl
 |2,_ =>
  refine⟨ov+1,fun B=>?_⟩
  have fin:=fin { s with out:=s.out++[CB (pr t) a],st:=s.st.set (pr t) 0 } (ov+1) B
  have rm:cr (s.out.length+1) 200=True:=qI
  have hs1:iT (s.st.map lh) (pr t) (putCells (lh 2) 0 [ag.int IntKind.i64 ((IntKind.i64.wrap 3).tmod 3)])=(s.st.map lh).set (pr t) (lh 0):=by
   have e:(IntKind.i64.wrap 3).tmod 3=((0:Nat):Int):=mu;rw[fj,e]; rfl
  unfold vw at fin ⊢;rw[bF];simp only[Dr,Qy,y8,aZ,aK,aU,gH,aA,av,az,aJ] at fin ⊢;simp only[E14,↓Ak,cJ,rm,hs1,se,ht,hw8,hrem,hlt3,hv,ho,ha,wa,vB,wg,vH,bV,aG,aO,uI,qW,uG,cT,yn,EW,seval];exact fin [] _ rfl
end
end Go.Proofs.YteoamaffclmdbaaGreatDoor
namespace Go.Proofs.YteoamaffclmdbaaGreatDoor
open Go Go.Abs
def wD(l:List nr):Int->Bool:=l.foldl (fun o x c=>if c=x.bC then x.kind==1 else o c) fun _=>false
def pR(l:List nr)(x:nr)(c:Int):wD (l++[x]) c=if c=x.bC then x.kind==1 else wD l c:=by
 simp[wD]
inductive WF:List nr->Prop
 |nil:WF []
 |snoc {l:List nr} {x:nr}:WF l->0<=x.bC->(x.kind=1\/x.kind=2)->wD l x.bC = !(x.kind==1)->WF (l++[x])
def Rs(c:Int):∀(r:List nr)(k:Nat),tW c r k = -1\/0<=tW c r k
 | [],_ => .inl rfl
 |x::r,k=>by
  rw[tW];split
  ·simp
  ·exact Rs c r _
def yU(c:Int)(y:nr):∀(r:List nr)(k:Nat),tW c (r++[y]) k=if tW c r k = -1 then (if y.bC==c then ((k+r.length:Nat):Int) else -1) else tW c r k
 | [],k=>by
  rfl
 |x::r,k=>by
  rw[aG,tW,tW];split
  ·rw[aP dw]
  ·rw[yU c y r _,av,show k+1+r.length=k+(r.length+1) by omega]
def AH{l:List nr}{x:nr}{k:Nat}(h:k<=l.length):(l++[x]).drop k=l.drop k++[x]:=j6
structure Ends(l:List nr):Prop where
 en:∀(i:Nat)(c:ve),(bN l).cs[i]?=some c->∃x,l[c.b]?=some x/\tW x.bC (l.drop (c.b+1)) (c.b+1)=rp c/\(c.e=none->(bN l).last x.bC.toNat=i/\wD l x.bC=true)
 op:∀cl:Int,0<=cl->wD l cl=true->∃c,(bN l).cs[(bN l).last cl.toNat]?=some c/\c.e=none/\∃x,l[c.b]?=some x/\x.bC=cl
 cl:∀x,x∈l->0<=x.bC
theorem MC{l:List nr}(h:WF l):Ends l:=by
 induction h with
 |nil=>exact⟨fun i c h=>by simp[bN,Hs.iE] at h,fun cl _ h=>by simp[wD] at h,fun x h=>by cases h⟩
 | @snoc l x hw hc hk ho ih =>
  have up:∀(i:Nat)(y:nr),l[i]?=some y->(l++[x])[i]?=some y:=fun i y h=>by rw[aQ (aj.1 h).1]; exact h
  have last:(l++[x])[l.length]?=some x:=dw
  have hcl:∀y,y∈l++[x]->0<=y.bC:=fun y hy=>by
   rcases bo.1 hy with hy|hy
   ·exact ih.cl y hy
   ·simp at hy; subst hy; exact hc
  cases hb:x.kind==1
  ·-- an end
   have hop:=ho;rw[hb] at hop;obtain⟨c0,h1,h2,x0,h3,h4⟩:=ih.op x.bC hc hop
   have hcs:(bN (l++[x])).cs=(bN l).cs.modify ((bN l).last x.bC.toNat) fun c=>{ c with e:=some l.length,ll:=x.ll }:=by
    rw[lf]; unfold Hs.kN wK; simp only[hb,af,aD,sw]
   have hla:(bN (l++[x])).last=(bN l).last:=by
    rw[lf]; unfold Hs.kN wK; simp only[hb,af,aD]
   refine⟨fun i c hi=>?_,fun cl hcl0 hopen=>?_,hcl⟩
   ·rw[hcs,ib] at hi;cases hci:(bN l).cs[i]? with
    |none=>rw[hci] at hi; cases hi
    |some d =>
     rw[hci] at hi;simp only[Option.map_eq_map,eL] at hi;obtain⟨y,g1,g2,g3⟩:=ih.en i d hci;have hbl:=(aj.1 g1).1;have hes:=yU y.bC x (l.drop (d.b+1)) (d.b+1);rw[g2,fS,show d.b+1+(l.length-(d.b+1))=l.length by omega] at hes
     split at hi
     ·rename_i hii;injection hi with hi
      have hd:d=c0:=by rw[hii,hci] at h1; injection h1
      subst hi;subst hd;rw[g1] at h3;injection h3 with h3;subst h3;refine⟨y,up _ _ g1,?_,fun hn=>by cases hn⟩
      have e1:rp d = -1:=by unfold rp; rw[h2]
      show tW y.bC ((l++[x]).drop (d.b+1)) (d.b+1)=(l.length:Int)
      rw[AH aH,hes,aW e1,aW (by rw[h4]; simp)]
     ·rename_i hii;injection hi with hi
      subst hi;refine⟨y,up _ _ g1,?_,fun hn=>?_⟩
      ·rw[AH aH,hes]
       grind [rp]
      ·obtain⟨g4,g5⟩:=g3 hn;rw[hla,pR];refine⟨g4,?_⟩;rw[aP]
       ·exact g5
       ·intro hxy;exact hii (by rw[<-hxy]; exact g4)
   ·rw[pR] at hopen;split at hopen
    ·rw[hb] at hopen; cases hopen
    ·rename_i hne;obtain⟨c,k1,k2,z,k3,k4⟩:=ih.op cl hcl0 hopen;refine⟨c,?_,k2,z,up _ _ k3,k4⟩;rw[hla,hcs,ib,k1]
     grind
  ·-- a beginning
   have hcs:(bN (l++[x])).cs=(bN l).cs++[⟨l.length,none,x.op,x.ll⟩]:=by
    rw[lf]; unfold Hs.kN wK; simp only[hb,aE,sw]
   have hla:∀k,(bN (l++[x])).last k=if k=x.bC.toNat then (bN l).cs.length else (bN l).last k:=fun k=>by
    rw[lf]; unfold Hs.kN wK; simp only[hb,aE]
   have hnop:=ho;rw[hb] at hnop;refine⟨fun i c hi=>?_,fun cl hcl0 hopen=>?_,hcl⟩
   ·rw[hcs] at hi;rcases bE i (bN l).cs.length with hil|hil
    ·rw[aQ hil] at hi;obtain⟨y,g1,g2,g3⟩:=ih.en i c hi;have hbl:=(aj.1 g1).1;have hes:=yU y.bC x (l.drop (c.b+1)) (c.b+1);rw[g2] at hes;refine⟨y,up _ _ g1,?_,fun hn=>?_⟩
     ·rw[AH aH,hes]
      grind [rp]
     ·obtain⟨g4,g5⟩:=g3 hn;have hne:¬y.bC=x.bC:=fun e=>by rw[<-e,g5] at hnop; cases hnop
      have hy0:=ih.cl y (aI g1);rw[hla,pR,aP hne,aP aH];exact⟨g4,g5⟩
    ·rw[bt hil] at hi
     have hi0:i-(bN l).cs.length=0:=by
      have:=(aj.1 hi).1;simpa using this
     rw[hi0] at hi;simp at hi;subst hi;refine⟨x,last,?_,fun _=>⟨?_,?_⟩⟩
     ·rw[iu dw]; rfl
     ·rw[hla,aW rfl]; omega
     ·rw[pR,aW rfl,hb]
   ·rw[pR] at hopen;split at hopen
    ·rename_i he;subst he;refine⟨⟨l.length,none,x.op,x.ll⟩,?_,rfl,x,last,rfl⟩;rw[hla,aW rfl,hcs]; simp
    ·rename_i hne;obtain⟨c,k1,k2,z,k3,k4⟩:=ih.op cl hcl0 hopen;refine⟨c,?_,k2,z,up _ _ k3,k4⟩;rw[hla,aP aH,hcs,aQ (aj.1 k1).1];exact k1
theorem GP(l:List nr):(∀(i j:Nat)(c d:ve),i<j->(bN l).cs[i]?=some c->(bN l).cs[j]?=some d->c.b<d.b)/\(∀c,c∈(bN l).cs->c.b<l.length)/\(∀(i:Nat)(x:nr),l[i]?=some x->x.kind=1->∃c,c∈(bN l).cs/\c.b=i):=by
 refine JV (P:=fun l=>(∀(i j:Nat)(c d:ve),i<j->(bN l).cs[i]?=some c->(bN l).cs[j]?=some d->c.b<d.b)/\(∀c,c∈(bN l).cs->c.b<l.length)/\(∀(i:Nat)(x:nr),l[i]?=some x->x.kind=1->∃c,c∈(bN l).cs/\c.b=i)) ?_ ?_ l
 ·grind [bN,Hs.iE]
 ·intro l x ⟨h1,h2,h3⟩
  have hold:∀(i:Nat)(y:nr),(l++[x])[i]?=some y->(l[i]?=some y/\i<l.length)\/(i=l.length/\y=x):=fun i y hy=>by
   grind
  cases hb:x.kind==1
  ·have hcs:(bN (l++[x])).cs=(bN l).cs.modify ((bN l).last x.bC.toNat) fun c=>{ c with e:=some l.length,ll:=x.ll }:=by
    rw[lf]; unfold Hs.kN wK; simp only[hb,af,aD,sw]
   have hbk:∀(i:Nat)(c:ve),(bN (l++[x])).cs[i]?=some c->∃d,(bN l).cs[i]?=some d/\d.b=c.b:=fun i c hi=>by
    rw[hcs,ib] at hi;cases hci:(bN l).cs[i]? with
    |none=>rw[hci] at hi; cases hi
    |some d =>
     rw[hci] at hi;simp only[Option.map_eq_map,eL] at hi;refine⟨d,rfl,?_⟩;split at hi<;>(cases hi; rfl)
   refine⟨fun i j c d hij hi hj=>?_,fun c hc=>?_,fun i y hy hk=>?_⟩
   ·obtain⟨c',a1,a2⟩:=hbk i c hi;obtain⟨d',b1,b2⟩:=hbk j d hj;have:=h1 i j c' d' hij a1 b1;omega
   ·obtain⟨i,hi⟩:=kQ.1 hc;obtain⟨c',a1,a2⟩:=hbk i c hi;have:=h2 c' (aI a1);simp; omega
   ·rcases hold i y hy with ⟨hy,_⟩|⟨_,rfl⟩
    ·obtain⟨c,hc,hcb⟩:=h3 i y hy hk;obtain⟨p,hp⟩:=kQ.1 hc
     have hp2:(bN (l++[x])).cs[p]?=some (if (bN l).last x.bC.toNat=p then { c with e:=some l.length,ll:=x.ll } else c):=by
      rw[hcs,ib,hp]; rfl
     refine⟨_,aI hp2,?_⟩;split<;>exact hcb
    ·rw[hk] at hb; cases hb
  ·have hcs:(bN (l++[x])).cs=(bN l).cs++[⟨l.length,none,x.op,x.ll⟩]:=by
    rw[lf]; unfold Hs.kN wK; simp only[hb,aE,sw]
   refine⟨fun i j c d hij hi hj=>?_,fun c hc=>?_,fun i y hy hk=>?_⟩
   ·rw[hcs] at hi hj;have hjl:=(aj.1 hj).1;simp at hjl;have hil:i<(bN l).cs.length:=aH;rw[aQ hil] at hi;rcases bE j (bN l).cs.length with hj2|hj2
    ·rw[aQ hj2] at hj;exact h1 i j c d hij hi hj
    ·rw[bt hj2,show j-(bN l).cs.length=0 by omega] at hj
     simp at hj;subst hj;exact h2 c (aI hi)
   ·rw[hcs] at hc
    grind
   ·rw[hcs];rcases hold i y hy with ⟨hy,_⟩|⟨rfl,rfl⟩
    ·grind
    ·exact⟨⟨l.length,none,y.op,y.ll⟩,dw,rfl⟩
def F9{o:jC}(h:sg o)(c:Int):sg { o with bC:=c }:=⟨h.dH,h.u9,h.data⟩
def RI.zero{K:Nat}{f:aa}(h:FB K f)(dS:Nat):RI K dS 0 (NK f):=by
 refine⟨h.mono aH,au _,rfl,fun k v hk=>?_,rfl,fun o ho=>?_,rfl,au _⟩
 ·have:v∈[0,0,0]:=aI hk;simp at this; omega
 ·simp[NK] at ho;subst ho;exact⟨by simp[J9],by simp[J9],by simp[J9]⟩
def EE(dS:Nat)(s:RS)(t:wU){v:Nat}(hv:s.st[pr t]?=some v)(hv3:v<3){o:jC}(ho:s.ops[pr t]?=some o){a:vN}(ha:s.ll[pr t]?=some a) :
  (v=0/\s.calls=dS/\Al dS s t=s)\/(v=0/\s.calls≠dS/\Al dS s t={ s with out:=s.out++[AA (pr t) t.op],st:=s.st.set (pr t) 1,ops:=s.ops.set (pr t) (V1 t),calls:=s.calls+1 }) \/
  (v=1/\Al dS s t={ s with f:=(pf s.f o).1,ll:=s.ll.set (pr t) (pf s.f o).2,st:=s.st.set (pr t) 2 })\/(v=2/\Al dS s t={ s with out:=s.out++[CB (pr t) a],st:=s.st.set (pr t) 0 }):=by
 unfold Al;rw[hv,ho,ha]
 match v,hv3 with
 |0,_ =>
  by_cases h:s.calls=dS
  ·exact .inl ⟨rfl,h,by simp[h]⟩
  ·exact .inr (.inl ⟨rfl,h,by simp[h]⟩)
 |1,_=>exact .inr (.inr (.inl ⟨rfl,rfl⟩))
 |2,_=>exact .inr (.inr (.inr ⟨rfl,rfl⟩))
def Q8(t:wU):pr t<3:=nu _ aH
def RI.alN{K dS i:Nat}{s:RS}(h:RI K dS i s)(t:wU):∃v o a,s.st[pr t]?=some v/\v<3/\s.ops[pr t]?=some o/\sg o/\s.ll[pr t]?=some a:=by
 have hc:=Q8 t;have h1:=ai (l:=s.st) (i:=pr t) (by rw[h.st]; exact hc)
 have h2:=ai (l:=s.ops) (i:=pr t) (by rw[h.ops]; exact hc)
 have h3:=ai (l:=s.ll) (i:=pr t) (by rw[h.ll]; exact hc)
 exact⟨_,_,_,h1,h.lt _ _ h1,h2,h.ok _ (aI h2),h3⟩
def L8{l:List Nat}(h:∀(k v:Nat),l[k]?=some v->v<3){c x:Nat}(hx:x<3)(k v:Nat)(hk:(l.set c x)[k]?=some v):v<3:=by
 rw[fL] at hk;split at hk
 ·split at hk
  ·injection hk with hk; omega
  ·cases hk
 ·exact h k v hk
def RI.step{K dS i:Nat}{s:RS}(h:RI K dS i s){t:wU}(ht:sg t.op)(hK:K+200*(i+1)<=89000):RI K dS (i+1) (Al dS s t):=by
 obtain⟨v,o,a,h1,h2,h3,h4,h5⟩:=h.alN t;have hfb:FB (K+200*(i+1)) s.f:=h.fb.mono aH;rcases EE dS s t h1 h2 h3 h5 with ⟨_,_,e⟩|⟨_,_,e⟩|⟨_,e⟩|⟨_,e⟩<;>rw[e]
 ·exact⟨hfb,by have:=h.out; omega,h.st,h.lt,h.ops,h.ok,h.ll,by have:=h.calls; omega⟩
 ·refine⟨hfb,by have:=h.out; simp; omega,by simp[h.st],L8 h.lt aH,by simp[h.ops],fun x hx=>?_,h.ll,by have:=h.calls; simp only; omega⟩
  rcases lM hx with hx|hx
  ·exact h.ok x hx
  ·subst hx; exact F9 ht _
 ·refine⟨?_,by have:=h.out; simp only; omega,by simp[h.st],L8 h.lt aH,h.ops,h.ok,by simp[h.ll],by have:=h.calls; simp only; omega⟩
  have:=K0 h.fb aH o;exact this.mono aH
 ·refine⟨hfb,by have:=h.out; simp; omega,by simp[h.st],L8 h.lt aH,h.ops,h.ok,h.ll,by have:=h.calls; simp only; omega⟩
def Es(s:RS):Hs.Rn aa jC vN:=⟨s.out.map wK,s.f,fun c=>(s.st[c]?).getD 0,fun c=>(s.ops[c]?).getD J9,fun c=>(s.ll[c]?).getD CE⟩
structure RW(f:aa)(dS:Nat)(s:RS):Prop where
 ok:Hs.tM pf f (Es s)
 wf:WF s.out
 op:∀c:Nat,wD s.out c = !((s.st[c]?).getD 0==0)
 ev:∀x,x∈s.out->0<=x.bC/\x.bC<3/\sg x.op/\(x.kind=1->x.op.bC=x.bC)/\(x.kind=1\/x.kind=2)
 calls:(bN s.out).cs.length=s.calls
 dS:s.calls<=dS
 an:∀x,x∈s.out->x.ll.names.length<=100000/\x.ll.data.length<=100000
 an2:∀a,a∈s.ll->a.names.length<=100000/\a.data.length<=100000
def RW.zero(f:aa)(dS:Nat):RW f dS (NK f):=by
 refine⟨?_,.nil,fun c=>?_,fun x h=>by simp[NK] at h,rfl,cR _,fun x h=>by simp[NK] at h,fun a h=>?_⟩
 ·have:Es (NK f)=⟨[],f,fun _=>0,(Es (NK f)).op,(Es (NK f)).ll⟩:=by
   unfold Es NK;congr 1;funext c
   match c with
   |0|1|2=>rfl
   |n+3=>rfl
  rw[this];exact Hs.tM.new f _ _
 ·match c with
  |0|1|2=>rfl
  |n+3=>rfl
 ·simp[NK] at h;subst h;simp[CE]
def vv{α:Type}(l:List α)(c:Nat)(x d:α)(hc:c<l.length):(fun k=>((l.set c x)[k]?).getD d)=fun k=>if k=c then x else (l[k]?).getD d:=by
 funext k;rw[fL]
 by_cases h:c=k
 ·subst h; rw[aW rfl,aW hc,aW rfl]; rfl
 ·rw[aP h,aP (fun e=>h e.symm)]
def RW.step{f:aa}{K dS i:Nat}{s:RS}(hI:RI K dS i s)(h:RW f dS s){t:wU}(ht:sg t.op):RW f dS (Al dS s t):=by
 obtain⟨v,o,a,h1,h2,h3,h4,h5⟩:=hI.alN t;have hc:=Q8 t;have hst:pr t<s.st.length:=by rw[hI.st]; exact hc
 have hos:pr t<s.ops.length:=by rw[hI.ops]; exact hc
 have has:pr t<s.ll.length:=by rw[hI.ll]; exact hc
 have e1:(Es s).st (pr t)=v:=by show(s.st[pr t]?).getD 0=v; rw[h1]; rfl
 have e2:(Es s).op (pr t)=o:=by show(s.ops[pr t]?).getD J9=o; rw[h3]; rfl
 have e3:(Es s).ll (pr t)=a:=by show(s.ll[pr t]?).getD CE=a; rw[h5]; rfl
 have hop:=h.op (pr t);rw[h1] at hop;simp only[bj] at hop;have hg:=fun x=>congrFun (vv s.st (pr t) x 0 hst)
 rcases EE dS s t h1 h2 h3 h5 with ⟨_,_,e⟩|⟨hv,hm,e⟩|⟨hv,e⟩|⟨hv,e⟩<;>rw[e]
 ·exact h
 ·subst hv;refine⟨?_,?_,fun c=>?_,fun x hx=>?_,?_,?_,fun x hx=>?_,h.an2⟩
  ·have:=h.ok.begin e1 (V1 t) CE;unfold Es at this ⊢;rw[aZ];simp only[vv s.st (pr t) 1 0 hst,vv s.ops (pr t) (V1 t) J9 hos];exact this
  ·exact .snoc h.wf (ky _) (.inl rfl) (by rw[hop]; rfl)
  ·rw[pR];simp only[hg 1 c]
   by_cases hcc:c=pr t
   ·subst hcc; simp
   ·rw[aP aH,aP hcc]; exact h.op c
  ·rcases bo.1 hx with hx|hx
   ·exact h.ev x hx
   ·simp at hx; subst hx;exact⟨ky _,by simp only; omega,F9 ht _,fun _=>rfl,.inl rfl⟩
  ·rw[lf];unfold Hs.kN wK;simp only[show((1:Int)==1)=true from rfl,aE,aA,av,az,h.calls]
  ·have:=h.dS;simp only;omega
  ·rcases bo.1 hx with hx|hx
   ·exact h.an x hx
   ·simp at hx; subst hx; simp[CE]
 ·subst hv;refine⟨?_,h.wf,fun c=>?_,h.ev,h.calls,h.dS,h.an,fun x hx=>?_⟩
  ·have:=h.ok.aeQ e1;rw[e2] at this;unfold Es at this ⊢;simp only[vv s.st (pr t) 2 0 hst,vv s.ll (pr t) (pf s.f o).2 CE has];exact this
  ·simp only[hg 2 c]
   by_cases hcc:c=pr t
   ·subst hcc; rw[hop,aW rfl]; rfl
   ·rw[aP hcc]; exact h.op c
  ·rcases lM hx with hx|hx
   ·exact h.an2 x hx
   ·subst hx;have:=CH hI.fb.ok o;exact⟨by have:=this.names; omega,by have:=this.data; omega⟩
 ·subst hv;refine⟨?_,?_,fun c=>?_,fun x hx=>?_,?_,h.dS,fun x hx=>?_,h.an2⟩
  ·have:=h.ok.ends e1 J9;rw[e3] at this;unfold Es at this ⊢;rw[aZ];simp only[vv s.st (pr t) 0 0 hst];exact this
  ·exact .snoc h.wf (ky _) (.inr rfl) (by rw[hop]; rfl)
  ·rw[pR];simp only[hg 0 c]
   by_cases hcc:c=pr t
   ·subst hcc; simp
   ·rw[aP aH,aP hcc]; exact h.op c
  ·rcases bo.1 hx with hx|hx
   ·exact h.ev x hx
   ·simp at hx; subst hx;exact⟨ky _,by simp only; omega,⟨by simp[J9],by simp[J9],by simp[J9]⟩,fun hk=>by simp at hk,.inr rfl⟩
  ·rw[lf];unfold Hs.kN wK;simp only[show((2:Int)==1)=false from rfl,af,aD,List.length_modify,h.calls]
  ·rcases bo.1 hx with hx|hx
   ·exact h.an x hx
   ·simp at hx; subst hx;exact h.an2 a (aI h5)
def runN(f:aa)(m:List wU)(dS:Nat):RS:=m.foldl (Al dS) (NK f)
def WU{f:aa}{K dS:Nat}(hf:FB K f):∀(m:List wU),(∀t,t∈m->sg t.op)->K+200*m.length<=89000->RI K dS m.length (runN f m dS)/\RW f dS (runN f m dS):=by
 refine fun m=>JV (P:=fun m=>(∀t,t∈m->sg t.op)->K+200*m.length<=89000->RI K dS m.length (runN f m dS)/\RW f dS (runN f m dS)) ?_ ?_ m
 ·intro _ _; exact⟨RI.zero hf dS,RW.zero f dS⟩
 ·intro l x ih ht hK;rw[aA,av,az] at hK;obtain⟨h1,h2⟩:=ih (fun t h=>ht t (eH _ h)) aH
  have hx:=ht x dw;have e:runN f (l++[x]) dS=Al dS (runN f l dS) x:=by unfold runN; rw[List.foldl_append]; rfl
  rw[e,aA,av,az];exact⟨h1.step hx aH,h2.step h1 hx⟩
def apm(B:Nat)(M:aC)(f:aa):List.map (ag.kd B M) (cf f)=cf f:=rfl
def apk(B:Nat)(M:aC)(f:aa):List.map (ag.jE B M) (cf f)=cf f:=rfl
def DY:rh.length=10:=rfl
def Mz:List.drop 10 rh=[]:=rfl
section
attribute [local irreducible] eX fJ lj gK dY kr aq aR cp bI
def JR{n K:Nat}{M0:aC}(h:Bk M0){m:List wU}{dS:Nat}(ht:∀t,t∈m->sg t.op)(hm:m.length<=100)(hK:K+200*m.length<=89000):∀(post pre:List wU)(s:RS)(ov:Nat),m=pre++post->RI K dS pre.length s ->
  ∃ov',∀B,vw n B M0 m dS s ov pre.length=vw n B M0 m dS (post.foldl (Al dS) s) ov' m.length
 | [],pre,s,ov,e,_=>⟨ov,fun B=>by rw[e]; simp⟩
 |t::post,pre,s,ov,e,hI=>by
  have hi:m[pre.length]?=some t:=by rw[e]; simp
  have hl:pre.length+1<=m.length:=by rw[e,aA,av]; omega
  have hto:=ht t (aI hi);obtain⟨ov1,h1⟩:=WV (n:=n) (K:=K) h hI hi hto hm aH (ov:=ov);obtain⟨ov2,h2⟩:=JR h ht hm hK post (pre++[t]) (Al dS s t) ov1 (by rw[e]; simp) (by rw[aA]; exact hI.step hto aH)
  rw[aA] at h2;exact⟨ov2,fun B=>(h1 B).trans (h2 B)⟩
def aa5{n K:Nat}{M0:aC}(h:Bk M0){f:aa}(hf:FB K f){m:List wU}(dS:Nat)(ht:∀t,t∈m->sg t.op)(hm:m.length<=100)(hK:K+200*m.length<=89000) :
  ∃ov,eX (aq (rf n)) Li.results (M0.length+3) [] Li.body (eF 0 [.agg (cf f),BR m,lh dS]) M0=some (.tuple [.cB (M0.length+2) ov 17 0 (runN f m dS).out.length,.agg (cf (runN f m dS).f)],M0++[cA (cf (runN f m dS).f),cA (cf (runN f m dS).f),.arr 17 ov ((runN f m dS).out.map zC)]):=by
 obtain⟨ov,hl⟩:=JR (n:=n) h ht hm hK m [] (NK f) 0 rfl (RI.zero hf dS);refine⟨ov,?_⟩;have hl:=hl (M0.length+3);have rr:∀b,b<=1000->cr 3 b=True:=fun b hb=>sn aH hb
 have e0:List.foldl (Al dS) (NK f) m=runN f m dS:=rfl;rw[e0] at hl;generalize runN f m dS=r at hl;have hM:=fun M=>h (M0.length+3) M aH
 have htk:∀(a b c:cL)(X:aC),List.take (M0.length+3) (M0++(a::b::c::X))=M0++[a,b,c]:=fun a b c X=>by
  rw[List.take_append,bB aH,show M0.length+3-M0.length=3 by omega]; rfl
 have hlt2:(M0.length+2<M0.length+3)=True:=sH
 have hend:vw n (M0.length+3) M0 m dS r ov m.length=some (.tuple [.cB (M0.length+2) ov 17 0 r.out.length,.agg (cf r.f)],M0++[cA (cf r.f),cA (cf r.f),.arr 17 ov (r.out.map zC)]):=by
  unfold vw;rw[bF];simp only[Dr,Qy,y8];simp only[E14,bm,wa,vB,wg,vH,DY,Mz,lX,yj,EU,wh,Cz,yg,db,hlt2,apm,apk,aZ,hM,htk,aE,EW,seval]
 refine im ?_ (hl.trans hend);unfold vw;simp only[Li,Dr,Qy,y8,NK,aK,aU,az];simp only[E14,wa,vB,wg,vH,rr 8 aH,rr 64 aH,rr 56 aH,rr 48 aH,rr 72 aH,rr 80 aH,rr 88 aH,rr 96 aH,bV,aG,aO,wh,yg,aE,EW,seval];rfl
end
def ahD{n K:Nat}{M0:aC}(h:Bk M0){f:aa}(hf:FB K f){m:List wU}(dS:Nat)(ht:∀t,t∈m->sg t.op)(hm:m.length<=100)(hK:K+200*m.length<=89000) :
  ∃ov,JA (aq (rf n)) Li 3 [.agg (cf f),BR m,lh dS] M0=some (.tuple [.cB (M0.length+2) ov 17 0 (runN f m dS).out.length,.agg (cf (runN f m dS).f)],M0++[cA (cf (runN f m dS).f),cA (cf (runN f m dS).f),.arr 17 ov ((runN f m dS).out.map zC)]):=by
 obtain⟨ov,key⟩:=aa5 (n:=n) h hf dS ht hm hK;exact⟨ov,afd rfl key dw⟩
noncomputable def J2:zo:=mb (mb (rf 13) 20 (JA (aq (rf 13)) akZ 2)) 14 (JA (aq (rf 13)) Li 3)
def aba:vi Tryz.prog J2:=pW (pW (Sk 13).1 fA (fun h=>(FN fA (Xb 13) func20 atm h).2)) fA (fun h=>(FN fA (Xb 13) func14 atj h).2)
def ahF:nI Tryz.prog (aq J2):=qP fA aba
def lH'{f:Nat}{a:List ag}{M:aC}{x:ag×aC}(h:aq (rf 13) f a M=some x):aq J2 f a M=some x:=qX rfl rfl (qX rfl rfl h)
def lH{f:Nat}{vs:List ag}{M:aC}{x:ag×aC}(h:aR (aq (rf 13)) f vs M=some x):aR (aq J2) f vs M=some x:=by
 obtain⟨a,B,y,h1,h2⟩:=pL h;exact h2 _ (lH' h1)
def r14{K:Nat}{M0:aC}(h:Bk M0){f:aa}(hf:FB K f){m:List wU}(dS:Nat)(ht:∀t,t∈m->sg t.op)(hm:m.length<=100)(hK:K+200*m.length<=89000) :
  ∃ov,aq J2 14 [.agg (cf f),BR m,lh dS] M0=some (.tuple [.cB (M0.length+2) ov 17 0 (runN f m dS).out.length,.agg (cf (runN f m dS).f)],M0++[cA (cf (runN f m dS).f),cA (cf (runN f m dS).f),.arr 17 ov ((runN f m dS).out.map zC)]):=by
 obtain⟨ov,h⟩:=ahD (n:=13) h hf dS ht hm hK;exact⟨ov,fg (g:=JA (aq (rf 13)) Li 3) rfl h⟩
def D4(l:List nr)(cs:List ve)(done:List Nat):List Bool:=(List.range l.length).map fun k=>done.any fun y=>rV cs y==k
def CQ{l:List nr}{cs:List ve}{done:List Nat}{k:Nat}(hk:k<l.length):(D4 l cs done)[k]?=some (done.any fun y=>rV cs y==k):=by
 unfold D4; rw[aX,gP hk]; rfl
def D5(l:List nr)(cs:List ve)(done:List Nat):(D4 l cs done).length=l.length:=by simp[D4]
def VT{l:List nr}{cs:List ve}{done:List Nat}{x:Nat}:(D4 l cs done).set (rV cs x) true=D4 l cs (done++[x]):=by
 refine cE fun j=>?_
 rcases bE j l.length with hj|hj
 ·rw[fL,CQ hj,CQ hj,D5,List.any_append]
  by_cases h:rV cs x=j
  ·subst h; rw[aW rfl,aW hj]; simp
  ·rw[aP h];have:(rV cs x==j)=false:=by simpa using h
   simp[this]
 ·rw[eS (by simp[D5]; omega),eS (by simp[D5]; omega)]
def H0(B:Nat)(M:aC)(f:aa):List.map (ag.jE B M) (cf f)=cf f:=rfl
def F1:rh.length=10:=rfl
def Im:List.drop 10 rh=[]:=rfl
section
attribute [local irreducible] eX fJ lj gK dY kr aq aR cp bI
def c21(a b:vN)(hn:a.names.length<=100000):aq cd 21 [.agg (cT a),.agg (cT b)] []=some (.bool (decide (a=b)),[]):=by
 rw[abx];refine aB ?_;simp only[ak1,Qo,cT,EW,seval];have hl:((a.names.length:Int)==(b.names.length:Int))=decide (a.names.length=b.names.length):=by rw[cu]; simp; omega
 have hb:(a.data==b.data)=decide (a.data=b.data):=by rw[cu]; simp
 cases c1:a.err==b.err
 ·simp only[Qo,bne,c1,dC,cI,EW,seval]
 cases c2:a.ar==b.ar
 ·simp only[Qo,bne,c1,c2,dC,ct,cI,cH,EW,seval]
 cases c3:a.kind==b.kind
 ·simp only[Qo,bne,c1,c2,c3,dC,ct,cI,cH,EW,seval]
 cases c4:a.n==b.n
 ·simp only[Qo,bne,c1,c2,c3,c4,dC,ct,cI,cH,EW,seval]
 cases c5:a.m==b.m
 ·simp only[Qo,bne,c1,c2,c3,c4,c5,dC,ct,cI,cH,EW,seval]
 by_cases c6:a.names.length=b.names.length
 rotate_left
 ·have e:decide (a.names=b.names)=false:=gn fun h=>c6 (by rw[h])
  simp only[Qo,bne,c1,c2,c3,c4,c5,hl,gn c6,e,dC,ct,cI,cH,EW,seval]
 cases c7:decide (a.data=b.data)
 ·simp only[Qo,bne,c1,c2,c3,c4,c5,hl,ik c6,hb,c7,vm,dC,ct,dM,cH,EW,seval]
 simp only[Qo,bne,c1,c2,c3,c4,c5,hl,ik c6,hb,c7,vm,ct,gb,cH,EW,seval];refine nh (xs:=a.names) aH (fun i (s:List Bytes)=>s=b.names.drop i) (fun r s=>decide (r=s)) (fun _ i=>[(2,cv 0),(3,cv 1),(5,aF i)]) (fun _=>[cA (cT a),cA (cT b)]) (fun q=>some (ag.bool q,([]:aC))) (fun s hs=>?_) (fun pre x post s e hx cJ hw h0 hm hs hi=>?_) b.names rfl
 ·have es:s=[]:=by rw[hs,c6,nF]
  subst es;simp only[cT];simp only[Qo,bm,decide_true,EW,seval]
 ·have hpl:pre.length<b.names.length:=by rw[<-c6,e]; simp
  have hy:=ai hpl;rw[cW hpl] at hs;have i1:=hi _ rfl;generalize b.names[pre.length]=y at hy hs;generalize b.names.drop (pre.length+1)=q at hs i1;subst hs;simp only[cT] at i1 ⊢;cases hxy:x==y
  ·have e2:decide (x::post=y::q)=false:=gn fun h=>by injection h with h; simp[h] at hxy
   rw[e2];simp only[Qo,cJ,hx,hw,h0,hy,bne,hxy,dC,EW,seval]
  ·have e2:decide (x::post=y::q)=decide (post=q):=by
    have:x=y:=by simpa using hxy
    rw[this]; simp
   rw[e2];simp only[Qo,cJ,hx,hw,h0,hy,bne,hxy,ct,EW,seval];exact i1
def k21(a:vN)(hn:a.names.length<=100000)(hd:a.data.length<=100000)(M:aC):aR (aq cd) 21 [.agg (cT a),.agg (cT a)] M=some (.bool true,M):=cO ((c21 a a hn).trans (by rw[ik rfl])) M
def c19{n K:Nat}{f:aa}{l:List nr}(hw:WF l)(hl:l.length<=1000)(ho:∀x,x∈l->sg x.op)(hf:FB K f){ord:List Nat}(hr:Hs.o7 pf (bN l).cs f [] ord)(hn:ord.length<=100)(hK:K+200*(ord.length+1)<=89000) :
  aq (rf n) 19 [.agg (cf f),qR l,gA (ord.map fun i=>lh (rV (bN l).cs i))] []=some (.bool true,[]):=by
 have hE:=MC hw;obtain⟨hs1,hs2,hs3⟩:=GP l;refine aB ?_;have rm:cr l.length 8=True:=qI
 have hrep:List.replicate l.length (ag.agg [ag.bool false]).norm=(D4 l (bN l).cs []).map ag.bool:=by
  unfold D4;refine cE fun j=>?_
  rw[aX,aX,gm]
  by_cases hj:j<l.length
  ·rw[gP hj,aW hj]; rfl
  ·rw[eS gh,aP hj]; rfl
 simp only[aeZ,QH,wh,yg,rm,hrep,EW,seval]
 refine nh (xs:=ord) aH (fun i (s:aa×List Bool)=>Hs.o7 pf (bN l).cs s.1 (ord.take i) (ord.drop i)/\FB (K+200*i) s.1/\s.2=D4 l (bN l).cs (ord.take i)) (fun _ _=>()) (fun s i=>[(1,qR l),(2,gA (ord.map fun i=>lh (rV (bN l).cs i))),(3,cv 0),(7,.cB 1 0 1 0 l.length),(8,aF i)])
  (fun s=>[cA (cf s.1),.arr 1 0 (s.2.map ag.bool)]) (fun _=>some (.bool true,([]:aC))) (fun s hs=>?_) (fun pre x post s e hx cJ hwr h0 hm hs hi=>?_) (f,D4 l (bN l).cs []) ⟨hr,hf.mono aH,rfl⟩
 ·obtain⟨g,mt⟩:=s;obtain⟨_,_,hmt⟩:=hs;simp only at hmt;rw[bH] at hmt;simp only[QH,bm,EW,seval];refine nh (xs:=l) aH (fun _ _=>True) (fun _ (_:Unit)=>()) (fun _ i=>[(1,qR l),(7,.cB 1 0 1 0 l.length),(15,aF i)]) (fun _=>[cA (cf g),.arr 1 0 (mt.map ag.bool)]) (fun _=>some (.bool true,([]:aC))) (fun _ _=>?_) (fun pre x post _ e hx cJ hwr h0 hm _ hi=>?_) () trivial
  ·simp only[QH,bm,EW,seval]
  ·have hil:=(aj.1 hx).1;have i1:=hi () trivial;have hlm:((pre.length:Int)<((l.length-0:Nat):Int))=True:=sH;have hma:mt[pre.length]?=some (ord.any fun y=>rV (bN l).cs y==pre.length):=by rw[hmt,CQ hil]
   cases hk:x.kind==1
   ·simp only[QH,cJ,hwr,hx,hk,nA,H0,yn,EW,seval];exact i1
   ·obtain⟨c,hcm,hcb⟩:=hs3 _ _ hx (by simpa using hk)
    obtain⟨p,hp⟩:=kQ.1 hcm;cases ha:ord.any fun y=>rV (bN l).cs y==pre.length
    ·rw[ha] at hma
     have hpo:p∉ord:=fun h=>by
      rw[<-Bool.not_eq_true,iJ] at ha;exact ha ⟨p,h,by unfold rV; rw[hp]; simpa using hcb⟩
     have hce:c.e=none:=by
      cases hce:c.e with
      |none=>rfl
      |some e2 =>
       rcases hr.all p c hp (by rw[hce]; simp) with h|h
       ·cases h
       ·exact absurd h hpo
     have hen:rp c = -1:=by unfold rp; rw[hce]
     obtain⟨y,hy1,hy2,_⟩:=hE.en p c hp;rw[hcb] at hy1 hy2;rw[hx] at hy1; cases hy1;have q37:=fun M=>lT (n:=n) (lE (k37 hl hx M))
     rw[hy2,hen] at q37;simp only[QH,cJ,hwr,hx,hk,hlm,hma,q37,nA,H0,yn,EW,seval];exact i1
    ·rw[ha] at hma;simp only[QH,cJ,hwr,hx,hk,hlm,hma,nA,H0,yn,EW,seval];exact i1
 ·obtain⟨g,mt⟩:=s;obtain⟨hR,hfb,hmt⟩:=hs;simp only at hR hfb hmt;have hil:=(aj.1 hx).1;have hdrop:ord.drop pre.length=x::post:=by rw[e,List.drop_left]
  have htk:ord.take pre.length=pre:=by rw[e,List.take_left]
  have htk1:ord.take (pre.length+1)=pre++[x]:=by rw[cz,htk,hx]; rfl
  have hdr1:ord.drop (pre.length+1)=post:=by rw[<-List.drop_drop,hdrop]; rfl
  rw[hdrop,htk] at hR;rw[htk] at hmt;cases hR with
  | @cons _ _ _ c _ hc hmay hans hrest =>
  have hcm:c∈(bN l).cs:=aI hc;obtain⟨⟨ev,hev1,hev2,hev3⟩,hnd⟩:=wZ l c hcm;obtain⟨y,hy1,hy2,_⟩:=hE.en x c hc;rw[hev1] at hy1; cases hy1;have hbl:c.b<l.length:=(aj.1 hev1).1;have hbt:rV (bN l).cs x=c.b:=by unfold rV; rw[hc]
  have hge:((l.length:Int)<=(c.b:Int))=False:=oyf;have hlm:((c.b:Int)<((l.length-0:Nat):Int))=True:=sH
  have hmf:mt[c.b]?=some false:=by
   rw[hmt,CQ hbl];congr 1;rw[<-Bool.not_eq_true,iJ];rintro⟨z,hz,hzb⟩;rw[dZ] at hzb;have hne:z≠x:=fun h=>hmay.1 (h▸hz)
   have hzl:z∈ord:=by rw[e]; exact eH _ hz
   have hzlt:=hr.lt z hzl;have hd:=ai hzlt;have hzb':(bN l).cs[z].b=c.b:=by unfold rV at hzb; rw[hd] at hzb; exact hzb
   rcases Nat.lt_or_gt_of_ne hne with h|h
   ·have:=hs1 z x _ _ h hd hc; omega
   ·have:=hs1 x z _ _ h hc hd; omega
  have hst:iT (List.map ag.bool mt) c.b (putCells (ag.bool false) 0 [ag.bool true])=(mt.set c.b true).map ag.bool:=by rw[fj,gH]; rfl
  have q37:=fun M=>lT (n:=n) (lE (k37 hl hev1 M))
  rw[hy2] at q37;simp only[QH,cJ,hx,hbt,hev1,hev3,hge,hlm,hmf,hst,nA,aw,Nt,yn,EW,seval];have hmt':mt.set c.b true=D4 l (bN l).cs (ord.take (pre.length+1)):=by rw[hmt,htk1,<-hbt,VT]
  refine nh (xs:=pre) aH (fun _ _=>True) (fun _ (_:Unit)=>()) (fun _ k=>[(1,qR l),(2,gA (ord.map fun i=>lh (rV (bN l).cs i))),(3,cv 0),(7,.cB 1 0 1 0 l.length),(8,lh pre.length),(9,lh c.b),(10,aF k)])
   (fun _=>[cA (cf g),.arr 1 0 ((mt.set c.b true).map ag.bool)]) (fun _=>some (.bool true,([]:aC))) (fun _ _=>?_) (fun pre' z post' _ e' hz hlt' hwr' h0' hm' _ hi'=>?_) () trivial
  ·have hoo:sg c.op:=by rw[<-hev2]; exact ho ev (aI hev1)
   have hfb':FB (K+200*(pre.length+1)) (pf g c.op).1:=by
    have:=K0 hfb aH c.op;exact this.mono aH
   have i1:=hi ((pf g c.op).1,mt.set c.b true) ⟨by rw[htk1,hdr1]; exact hrest,hfb',hmt'⟩
   have hae:=CH hfb.ok c.op;have qd:=fun M=>lT (n:=n) (k29 g c.op hfb.ok hoo M)
   rw[<-hev2] at qd i1 hans hae;simp only[eT,cT] at qd;cases hce:c.e with
   |none =>
    have hen:rp c = -1:=by unfold rp; rw[hce]
    rw[hen] at q37;simp only[QH,bm,hwr,q37,qd,hev1,nA,lX,yj,EU,wh,Cz,yg,JF,bV,aG,aO,F1,Im,H0,aE,yn,EW,seval];exact i1
   |some e2 =>
    have hen:rp c=(e2:Int):=by unfold rp; rw[hce]
    obtain⟨w,hw1,hw2⟩:=hnd e2 hce;have hwa:w.ll=(pf g ev.op).2:=by rw[hw2]; exact(hans (by rw[hce]; simp)).symm
    have qs:=fun M=>lT (n:=n) (lE (k21 (pf g ev.op).2 (by have:=hae.names; omega) (by have:=hae.data; omega) M))
    simp only[cT] at qs;rw[hen] at q37;simp only[QH,bm,hwr,q37,qd,qs,hev1,hw1,hwa,nA,lX,yj,EU,wh,Cz,yg,JF,bV,aG,aO,F1,Im,H0,aE,yn,EW,seval];exact i1
  ·have hpl':=(aj.1 hz).1;have hzo:ord[pre'.length]?=some z:=by rw[e,aQ hpl']; exact hz
   have i2:=hi' () trivial;cases hce:c.e with
   |none =>
    have hen:rp c = -1:=by unfold rp; rw[hce]
    rw[hen] at q37;simp only[QH,hlt',hwr',q37,yn,EW,seval];exact i2
   |some e2 =>
    have hen:rp c=(e2:Int):=by unfold rp; rw[hce]
    have hzlt:=hr.lt z (by rw[e]; exact eH _ hm')
    have hd:=ai hzlt;have hzb:rV (bN l).cs z=(bN l).cs[z].b:=by unfold rV; rw[hd]
    have hbk:=hr.back pre x post e z hm' c _ hc hd
    have hnlt:((e2:Int)<(rV (bN l).cs z:Int))=False:=by
     simp only[fx,p6];intro h;exact hbk ⟨e2,hce,aH⟩
    rw[hen] at q37;simp only[QH,hlt',hwr',q37,hzo,hnlt,yn,EW,seval];exact i2
def k19{n K:Nat}{f:aa}{l:List nr}(hw:WF l)(hl:l.length<=1000)(ho:∀x,x∈l->sg x.op)(hf:FB K f){ord:List Nat}(hr:Hs.o7 pf (bN l).cs f [] ord)(hn:ord.length<=100)(hK:K+200*(ord.length+1)<=89000)(M:aC) :
  aR (aq (rf n)) 19 [.agg (cf f),qR l,gA (ord.map fun i=>lh (rV (bN l).cs i))] M=some (.bool true,M):=cO (c19 hw hl ho hf hr hn hK) M
end
def WF.last{l:List nr}{x:nr}(h:WF (l++[x])):WF l/\0<=x.bC/\(x.kind=1\/x.kind=2)/\wD l x.bC = !(x.kind==1):=by
 generalize he:l++[x]=m at h;cases h with
 |nil=>simp at he
 |snoc h1 h2 h3 h4 =>
  obtain⟨e1,e2⟩:=List.append_inj' he rfl;injection e2 with e2 _
  subst e1; subst e2;exact⟨h1,h2,h3,h4⟩
def WF.pre{a:List nr}:∀(b:List nr),WF (a++b)->WF a:=fun b=>JV (P:=fun b=>WF (a++b)->WF a) dw (fun l x ih h=>by
 rw[<-bV] at h;exact ih h.last.1) b
def WF.at'{l pre post:List nr}{x:nr}(h:WF l)(e:l=pre++x::post):0<=x.bC/\(x.kind=1\/x.kind=2)/\wD pre x.bC = !(x.kind==1):=by
 have:WF (pre++[x]):=WF.pre post (by rw[bV]; simpa[e] using h)
 exact this.last.2
def WF.first{l:List nr}(h:WF l)(x:nr)(hx:l[0]?=some x):x.kind=1:=by
 cases l with
 |nil=>cases hx
 |cons y r =>
  simp at hx;subst hx;have:=(h.at' (pre:=[]) (post:=r) rfl).2.2;simp[wD] at this;exact this
def JL{l:List nr}(h:WF l)(hc:∀x,x∈l->x.bC<16/\(x.kind=1->x.op.bC=x.bC)):∀(post pre:List nr)(s:List Bool),l=pre++post->s.length=16->(∀c:Nat,c<16->s[c]?=some (wD pre c))->we post s=true
 | [],_,_,_,_,_=>rfl
 |x::post,pre,s,e,hs,ho=>by
  obtain⟨h1,h2,h3⟩:=h.at' e;have hxm:x∈l:=by rw[e]; simp
  obtain⟨h4,h5⟩:=hc x hxm;have hcn:((x.bC.toNat:Nat):Int)=x.bC:=aH;have hsc:=ho x.bC.toNat aH;rw[hcn,h3] at hsc;rw[we,aP gh,hsc];rw[aP]
  ·refine JL h hc post (pre++[x]) _ (by rw[e]; simp) (by simpa using hs) fun c hc16=>?_
   rw[fL,pR]
   by_cases hcc:x.bC.toNat=c
   ·subst hcc;rw[aW rfl,aW aH,aW hcn]
   ·rw[aP hcc,aP aH];exact ho c hc16
  ·simp only[bj,cU,bu,gN,nv,dZ];rintro((⟨h6,h7⟩|h6)|⟨h6,h7⟩)
   ·rcases h2 with h2|h2
    ·rw[h2] at h6; cases h6
    ·exact h7 h2
   ·revert h6
    generalize (x.kind==1)=b;cases b<;>exact fun h=>by cases h
   ·exact h7 (h5 h6)
def WQ{l:List nr}(h:WF l)(h6:l.length<=64)(hc:∀x,x∈l->x.bC<16/\(x.kind=1->x.op.bC=x.bC)):Bn l=true:=by
 unfold Bn;rw[aP aH];refine JL h hc l [] _ rfl rfl fun c hc=>?_
 rw[gm,aW hc]; rfl
def Sq{l:List jC}{m:List wU}(h:zJ l m=false):l.length<=50/\(∀o,o∈l->sg o)/\m.length<=24/\∀t,t∈m->sg t.op:=by
 simp only[zJ,DF,jN,dA] at h;obtain⟨h1,h2,h3⟩:=h;split at h1
 ·cases h1
 rename_i h50;simp only[bh] at h50;rw[List.any_eq_false] at h1 h3;exact⟨aH,fun o ho=>Nh (by simpa using h1 o ho),aH,fun t ht=>Nh (by simpa using h3 t ht)⟩
def LW{f:aa}{K:Nat}(hf:FB K f)(hK:K<=70000){m:List wU}{dS:Nat}(hm:m.length<=24)(hmost:dS<=8)(ht:∀t,t∈m->sg t.op):wo 13 K f (runN f m dS).out/\WF (runN f m dS).out/\(runN f m dS).out.length<=24/\(∀x,x∈(runN f m dS).out->sg x.op/\x.bC<16/\(x.kind=1->x.op.bC=x.bC))/\Hs.Fits pf (bN (runN f m dS).out).cs f:=by
 obtain⟨h1,h2⟩:=WU hf (dS:=dS) m ht aH;have dR:=h1.out;have hc:=h2.calls;have hmo:=h2.dS;refine⟨⟨⟨aH,h2.wf.first,fun x hx=>(h2.ev x hx).1⟩,hf,aH,Xk aH,aH,aH,fun c hcm=>?_⟩,h2.wf,aH,fun x hx=>⟨(h2.ev x hx).2.2.1,by have:=(h2.ev x hx).2.1; omega,(h2.ev x hx).2.2.2.1⟩,?_⟩
 ·obtain⟨x,g1,g2,_⟩:=(wZ _ c hcm).1;rw[<-g2];exact(h2.ev x (aI g1)).2.2.1
 ·have:=h2.ok.fits;exact this
def aaO{cs:List ve}{f:aa}{ord:List Nat}(h:Hs.o7 pf cs f [] ord):ord.length<=cs.length:=Hs.Good.len ⟨h.nodup,h.lt⟩
def aeA(f:aa):Bk [cA (cf f)]:=fun _ _ _=>rfl
def FG:jC:=⟨2,0,[47,97],[],1,0,0,[]⟩
def FF:jC:=⟨1,0,[47,97],[],0,0,0,[]⟩
def BW:vN:=⟨0,2,1,0,0,[],[]⟩
def M4:vN:=⟨70,0,0,0,0,[],[]⟩
def YR:List nr:=[AA 0 FG,CB 0 BW,AA 1 FF,CB 1 BW]
def hiB:List nr:=[AA 0 FG,AA 1 FF,CB 1 M4,CB 0 BW]
def hiC:List nr:=[AA 0 FG,CB 0 BW,AA 1 FF,CB 1 M4]
def hiD:List nr:=[AA 0 FG,AA 1 FF,CB 1 BW]
def orA:Bg 13 f0 YR=some [0,1]:=fA
def orB:Bg 13 f0 hiB=some [1,0]:=fA
def orC:Bg 13 f0 hiC=none:=fA
def orD:Bg 13 f0 hiD=some [0,1]:=fA
def rtA:Bn YR=true:=mu
def atP:Bn (YR.drop 1)=false:=mu
section
attribute [local irreducible] eX fJ lj gK dY kr aq aR cp bI
def c17(xs:List Nat)(hn:xs.length<=1000):aq cd 17 [gA (xs.map lh),gA (xs.map lh)] []=some (.bool true,[]):=by
 refine aB ?_;simp only[akX,E17,aw,EW,seval];refine nh (xs:=xs) aH (fun _ _=>True) (fun _ (_:Unit)=>true) (fun _ i=>[(0,gA (xs.map lh)),(1,gA (xs.map lh)),(5,aF i)]) (fun _=>[]) (fun b=>some (.bool b,([]:aC))) (fun s hs=>?_) (fun pre x post s e hx cJ hw h0 hm hI hi=>?_) () trivial
 ·simp only[E17,bm,EW,seval]
 ·have i1:=hi () trivial;simp only[E17,cJ,hx,hw,h0,aw,EW,seval];exact i1
def k17 xs hn:=cP (c17 xs hn)
end
def Jw{l:List nr}(h1:l.length<=1000)(h2:∀x,l[0]?=some x->x.kind=1)(h3:∀x,x∈l->0<=x.bC)(h4:(bN l).cs.length<=8)(h5:∀x,x∈l->sg x.op){K:Nat}{f:aa}(hf:FB K f)(hK:K<=80000):wo 13 K f l:=by
 refine⟨⟨h1,h2,h3⟩,hf,aH,Xk h4,aH,hK,fun c hc=>?_⟩
 obtain⟨x,g1,g2,_⟩:=(wZ l c hc).1;rw[<-g2];exact h5 x (aI g1)
def okA:wo 13 0 f0 YR:=Jw mu mu mu mu (by
 intro x hx;simp[YR] at hx;rcases hx with rfl|rfl|rfl|rfl<;>exact⟨mu,mu,mu⟩) fb0 aH
def okB:wo 13 0 f0 hiB:=Jw mu mu mu mu (by
 intro x hx;simp[hiB] at hx;rcases hx with rfl|rfl|rfl|rfl<;>exact⟨mu,mu,mu⟩) fb0 aH
def okC:wo 13 0 f0 hiC:=Jw mu mu mu mu (by
 intro x hx;simp[hiC] at hx;rcases hx with rfl|rfl|rfl|rfl<;>exact⟨mu,mu,mu⟩) fb0 aH
def okD:wo 13 0 f0 hiD:=Jw mu mu mu mu (by
 intro x hx;simp[hiD] at hx;rcases hx with rfl|rfl|rfl<;>exact⟨mu,mu,mu⟩) fb0 aH
end Go.Proofs.YteoamaffclmdbaaGreatDoor
set_option linter.unusedSectionVars false
namespace Hs
open Go
variable {S O A:Type} {step:S->O->S×A}
def CY(l:List (Ev O A)):Prop:=∀a x r,l=a++x::r->x.begin=false->∃c,(iE a).cs[(iE a).last x.cl]?=some c/\c.e=none
end Hs
set_option linter.unusedSectionVars false
namespace Hs
open Go
variable {S O A:Type} {step:S->O->S×A}
def CY.nil:CY ([]:List (Ev O A)):=fun a x r h=>by simp at h
def CY.snoc{l:List (Ev O A)}(h:CY l){x:Ev O A}(hx:x.begin=false->∃c,(iE l).cs[(iE l).last x.cl]?=some c/\c.e=none):CY (l++[x]):=by
 intro a y r e hy;rcases List.eq_nil_or_concat r with rfl|⟨r',z,rfl⟩
 ·have:=List.append_inj_right' (s₁:=l) (s₂:=a) (t₁:=[x]) (t₂:=[y]) e rfl;have h2:=List.append_inj_left' (s₁:=l) (s₂:=a) (t₁:=[x]) (t₂:=[y]) e rfl;injection this with this
  subst this; subst h2;exact hx hy
 ·rw[List.concat_eq_append,<-aG,<-bV] at e;have h2:=List.append_inj_left' e rfl;exact h a y r' h2 hy
end Hs
namespace Go.Proofs.YteoamaffclmdbaaGreatDoor
open Go Go.Abs
def Q5(l:List nr):(bN l).cs.length=(l.filter fun x=>x.kind==1).length :=
 JV (P:=fun l=>(bN l).cs.length=(l.filter fun x=>x.kind==1).length) rfl (fun l x ih=>by
  rw[lf,jv,aA,<-ih];unfold Hs.kN wK;simp only;cases hb:x.kind==1<;>simp[hb]) l
def WF.kind{l:List nr}(h:WF l):∀x,x∈l->x.kind=1\/x.kind=2:=by
 induction h with
 |nil=>intro x h; cases h
 |snoc h1 h2 h3 h4 ih =>
  intro y hy;rcases bo.1 hy with hy|hy
  ·exact ih y hy
  ·simp at hy; subst hy; exact h3
structure Hy(l:List nr):Prop where
 wf:WF l
 len:l.length<=30
 ev:∀x,x∈l->sg x.op/\x.bC<16/\(x.kind=1->x.op.bC=x.bC)
 RD:(l.filter fun x=>x.kind==1).length<=8
def Hy.ord{l:List nr}(h:Hy l){f:aa}{K:Nat}(hf:FB K f)(hK:K<=80000):wo 13 K f l :=
 Jw (by have:=h.len; omega) h.wf.first (MC h.wf).cl (by rw[Q5]; exact h.RD) (fun x hx=>(h.ev x hx).1) hf hK
def Hy.take{l:List nr}(h:Hy l)(n:Nat):Hy (l.take n) :=
 ⟨WF.pre (l.drop n) (by rw[cF]; exact h.wf),by have:=h.len; rw[cq]; omega,fun x hx=>h.ev x (dN hx),by
  have:=((List.take_sublist n l).filter fun x=>x.kind==1).length_le
  have:=h.RD;omega⟩
section
open Go.ChangeShapes Go.WideShapes Go.ChangeAt Go.RowKit Go.Deep
section
variable {H:Type} {enc:TypeId×Value->H}
def ag4:Tryz.prog.cellsOf 69=9:=fA
def NV:Tryz.prog.underlying 23=some (.slice 69):=fA
set_option maxRecDepth 100000 in
def Xm{w:World}{fuel:Nat}{cs:List Value}{x:DataW H×List MemPlace}(h:DataW.trod enc Tryz.prog w 0 (fun _=>true) true fuel 69 cs=some x):∃s:wU,oT w (uI s) cs:=by
 obtain⟨xs,n,_,_,hl,hxl,hf⟩:=DataW.trod_struct underlying69 h;have h0:cs.length=9:=by rw[hl]; kernel_rfl
 match cs,h0 with
 | [v0,v1,v2,v3,v4,v5,v6,v7,v8],_ =>
  match xs,hxl with
  | [y0,y1],_ =>
   obtain⟨a0,r0⟩:=Xn anM (X6 (k:=0) akI rfl (hf 0 _ rfl));have h1:=hf 1 _ rfl;change DataW.trod enc Tryz.prog w 0 (fun _=>true) true n 49 (List.take (Tryz.prog.cellsOf 49) _)=_ at h1
   rw[amI] at h1;obtain⟨a1,r1⟩:=Wm h1;exact⟨⟨a0,a1⟩,.app (.one r0) r1⟩
set_option maxRecDepth 100000 in
def Qb{w:World}{r:Reach}{b:Nat}{v:Value}{d:DataW H}{ps:List MemPlace}(h:DataW.Trod enc Tryz.prog w 0 (fun _=>true) true 23 v d ps)(hv:Value.okWide Tryz.prog w r b 23 v):∃l:List wU,gu jX0 [] w (BR l) v:=by
 obtain⟨a,len,cap,rfl⟩:=okWide_slice NV hv;obtain⟨fuel,hf⟩:=h;obtain⟨l,h2,_⟩:=Et (eC:=uI) (mk:=Rr) NV ag4 aH (fun _=>rfl) (fun _=>rfl) (fun n cs y _ hy=>Xm hy) hf
 exact⟨l,.plain h2⟩
end
end
def DX{f:Nat}{vs:List ag}{M:aC}{x:ag×aC}(h:aR (aq cd) f vs M=some x):aR (aq J2) f vs M=some x:=lH (lT (lE h))
def Xu(x:ag)(l:List ag)(n:Nat):wid (x::l) n=(x.cells.length=n/\wid l n):=by simp[wid]
section
attribute [local irreducible] eX fJ lj gK dY kr aq aR cp bI
set_option maxRecDepth 100000 in
def c9:aq J2 9 [] []=some (.bool true,[]):=by
 have q22:=fun(c:Int) (o:jC) (M:aC)=>DX (cO (c22 c o) M)
 have q23:=fun(c:Int) (a:vN) (M:aC)=>DX (cO (c23 c a) M)
 have b1:=q22 0 FG;have b2:=q22 1 FF;have n1:=q23 0 BW;have n2:=q23 1 BW;have n3:=q23 1 M4;have q24:=fun M=>DX (k24 M)
 have oA:=fun M=>lH (Qv okA M)
 have oB:=fun M=>lH (Qv okB M)
 have oC:=fun M=>lH (Qv okC M)
 have oD:=fun M=>lH (Qv okD M)
 have fB:=fun M=>lH (k18 okB M)
 have fC:=fun M=>lH (k18 okC M)
 have rA:=fun M=>DX (cO (c11 YR mu) M)
 have rB:=fun M=>DX (cO (c11 (YR.drop 1) mu) M)
 have s1:=fun M=>DX (k17 [0,2] mu M)
 have s2:=fun M=>DX (k17 [1,0] mu M)
 have s3:=fun M=>DX (k17 [0,1] mu M)
 rw[orA] at oA;rw[orB] at oB fB;rw[orC] at oC fC;rw[orD] at oD;rw[rtA] at rA;rw[atP] at rB;have eA:(((some [0,1]:Option (List Nat)).getD []).map fun i=>lh (rV (bN YR).cs i))=[lh 0,lh 2]:=rfl
 have eB:(((some [1,0]:Option (List Nat)).getD []).map fun i=>lh (rV (bN hiB).cs i))=[lh 1,lh 0]:=rfl
 have eC:(((none:Option (List Nat)).getD []).map fun i=>lh (rV (bN hiC).cs i))=[]:=rfl
 have eD:(((some [0,1]:Option (List Nat)).getD []).map fun i=>lh (rV (bN hiD).cs i))=[lh 0,lh 1]:=rfl
 rw[eA] at oA;rw[eB] at oB;rw[eC] at oC;rw[eD] at oD;have v0:lh 0 = aF 0:=rfl;have v1:lh 1 = aF 1:=rfl;have v2:lh 2 = aF 2:=rfl;simp only[v0,v1,v2,qR,FG,FF,BW,M4,eT,cT,c8,dj,aU,aK,zC,nA,AA,CB,CE,J9,YR,hiB,hiC,hiD,bX,dr,oy,pd] at b1 b2 n1 n2 n3 oA oB oC oD fB fC rA rB s1 s2 s3;refine aB ?_;simp only[fn9,E9,b1,b2,n1,n2,n3,q24,DY,lX,yj,wh,yg,Cz,aE,oA,oB,oC,oD,fB,fC,rA,rB,s1,s2,s3,Xu,ag.cells,EW,seval]
 done
end
end Go.Proofs.YteoamaffclmdbaaGreatDoor
