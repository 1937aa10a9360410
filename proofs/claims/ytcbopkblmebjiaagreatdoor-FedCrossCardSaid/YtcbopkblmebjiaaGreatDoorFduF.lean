import Derived.KernelRfl
import Derived.Test.YtcbopkblmebjiaaGreatDoorFduE
set_option linter.unusedSimpArgs false
set_option linter.unusedVariables false
set_option linter.unusedSectionVars false
set_option linter.defProp false
open Go.Proofs.Tryz
namespace Go.Proofs.YtcbopkblmebjiaaGreatDoor
open Go Go.Abs
section
attribute [local irreducible] fP fi kD gK dp kr aq aL ct bI
def k29(g:Int)(M:aK):aL (aq cY) 29 [.int .i64 g] M=some (bH (pr g),M):=by
 refine cO (aI ?_) M;simp only[af8,E29,EW,seval];rfl
def I4(l:List Piece):wid (l.map dn) 3=True:=mB dn _ (fun _=>rfl) l
def akQ(a b:Bytes):(!(strLt a b||a==b))=strLt b a:=by
 rcases qF a b with h|h|h
 ·rw[h,rR h]; rfl
 ·subst h; simp[ik]
 ·have hne:(a==b)=false:=by rw[bL]; rintro rfl; rw[ik] at h; cases h
  rw[h,rR h,hne]; rfl
def U8(p:Piece)(own:Nat)(s:Nat×List Piece×Bool)(x:Piece):(nc p own s x).2.1.length<=s.2.1.length+2:=by
 unfold nc;simp only;split<;>simp
def ajR{l:List Piece}(hl:jS l)(s:Bytes)(hs:s.length<=100000)(to:Int):aq cY 151 [bH l,.str s,.int .i64 to] []=some (.tuple [bH (uK l s to).1,.int .i64 (uK l s to).2],[]):=by
 refine aI ?_;have hm:=hl.many;have q1:=k25 hl s hs;have q2:=aa6 l (by omega) s
 rw[BR] at q2;unfold uK;unfold GF at q1
 by_cases hg1:0<=to
 rotate_left
 ·have e:mq to=false:=by simp[mq]; intro h; exact absurd h hg1
  have e1:(to<0)=True:=Az;rw[az e];simp only[zd,DC,e1,EW,seval]
 have e1:(to<0)=False:=Gp
 by_cases hg2:to<8
 rotate_left
 ·have e:mq to=false:=by simp[mq]; intro h; omega
  have e2:(8<=to)=True:=Az;rw[az e];simp only[zd,DC,e1,e2,EW,seval]
 have e2:(8<=to)=False:=Gp;have e:mq to=true:=by simp[mq,hg1,hg2]
 rw[ak (by simp[e])]
 by_cases he:(bw s).2=0
 rotate_left
 ·have hb:((bw s).2 != 0)=true:=by simpa using he
  rw[ak he] at q1;rw[az hb];simp only[zd,DC,e1,e2,q1,hb,EW,seval]
 have hb:((bw s).2 != 0)=false:=by simp[he]
 rw[az he] at q1;rw[ak (by simp[hb])]
 have cr:=hl.rV he;have hx0:=qR cr;have hok:=(hl.ok _ (p8 cr)).2;have hrow:=fun p hn he=>Nd (p:=p) hl hn he cr
 generalize df l s=own at *;have g0:(((own:Nat):Int)<0)=False:=by simp
 cases hp:rj l s with
 |some a =>
  rw[hp] at q2;have g1:((0:Int)<=((0+a:Nat):Int))=True:=by simp
  simp only at q2 ⊢;simp only[zd,DC,e1,e2,q1,q2,g1,an,EW,seval]
 |none =>
  rw[hp] at q2;have hne:=Di hp;simp only at q2 ⊢;cases h1:decide ((16:Int)<=l.length)
  rotate_left
  ·simp only[zd,DC,e1,e2,q1,q2,h1,an,aH,dH,aE,EW,seval]
  cases h2:decide (1099511627776<=(mD l own).dJ)
  rotate_left
  ·simp only[zd,DC,e1,e2,q1,q2,h1,h2,hx0,g0,dQ,gr,cL,bg,an,aH,dG,aE,EW,seval]
  have h2':(mD l own).dJ<1099511627776:=by simpa using h2
  have hw1:=wr1 hok.2.2.1 hok.2.2.2;rw[<-hrow ⟨s,to,(mD l own).dJ+1⟩ hne h2'];simp only[zd,DC,e1,e2,q1,q2,h1,h2,hx0,g0,hw1,zn,Ay,dQ,gr,cL,bg,an,aH,dE,af,aw,EW,seval];generalize (mD l own).dJ+1=ep;unfold PE
  refine gA (xs:=l) (by omega) (fun i (S:Nat×List Piece×Bool)=>S.1=i/\S.2.1.length<=2*i) (fun post S=>post.foldl (nc ⟨s,to,ep⟩ own) S) (fun S i=>[(0,bH l),(1,.str s),(8,.int .i64 own),(10,.ptr 0 0),(11,.slice (.own 1) (S.2.1.map dn)),(12,.bool S.2.2),(13,.int .i64 i)])
   (fun S=>[.cells [.str s,.int .i64 to,.int .i64 ep],.tick 3 S.2.1.length]) (fun S=>some (ag.tuple [bH (if S.2.2 then S.2.1 else S.2.1++[⟨s,to,ep⟩]),.int .i64 0],([]:aK))) (fun S hS=>?_) (fun pre x post S hh hx cr hw hz hmm hS hi=>?_) (0,[],false) ⟨rfl,ar _⟩
  ·obtain⟨i,out,done⟩:=S;obtain⟨_,hS⟩:=hS;simp only at hS;have r1:dL (out.length+1) 32=True:=xN;cases done
   ·simp only[DC,aH,bf,r1,gN,af,aw,I4,EW,seval];simp only[bH,bB,aV,bo];rfl
   ·simp only[DC,aH,bf,gN,aE,EW,seval]
  ·obtain⟨i,out,done⟩:=S;obtain⟨hS1,hS⟩:=hS;simp only at hS1 hS;subst hS1;have hlt':pre.length<l.length:=by have:=congrArg List.length hh; simp at this; omega
   have i1:=hi (nc ⟨s,to,ep⟩ own (pre.length,out,done) x) ⟨rfl,by have:=U8 ⟨s,to,ep⟩ own (pre.length,out,done) x; simp only at this; omega⟩
   rw[bA];generalize hY:post.foldl (nc ⟨s,to,ep⟩ own) (nc ⟨s,to,ep⟩ own (pre.length,out,done) x)=Y at i1 ⊢;have r1:dL (out.length+1) 32=True:=xN;have r2:dL (out.length+1+1) 32=True:=xN;have hwP:=I4 out;have hwQ:wid (List.map dn out++[.agg [.str s,.int .i64 to,.int .i64 ep]]) 3=True:=by have:=I4 (out++[⟨s,to,ep⟩]); rw[bB] at this; exact this
   have hgt:=akQ x.aR s;unfold nc at i1
   cases done<;>cases hc:strLt s x.aR<;>cases ho:((pre.length:Nat):Int)==(own:Int) <;>
    (first|(have ho2:(pre.length=own)=True:=eq_true (by (have:=ho; simp at this; omega)))|(have ho2:(pre.length=own)=False:=eq_false (by (have:=ho; simp at this; omega)))) <;>
    simp only[hc,ho2,aE,aw,cU,fS,cd,bP,eS,dI,dH,da,dE,dG,gk,af,bB,aV,bo,aJ,av,aG,aP,dn,cL,mG] at i1 <;>
    simp only[DC,aH,cr,hx,hw,hz,hgt,hc,ho,r1,r2,hwP,hwQ,dQ,gr,cL,EW,seval]<;>exact i1
def SB(s:Bytes):Eu s=fy s:=by
 unfold Eu fy;rw[tZ];split
 ·rfl
 ·rename_i h;refine fC ?_ (fC ?_ rfl)
  ·simp only[fp,List.getLast?_eq_getElem?]
  ·simp only[CR,ra,List.dropLast_eq_take]
def Qx(s:Bytes)(hs:s.length<=100000)(M:aK):aL (aq cY) 109 [.str s] M=some (.tuple [.str (fy s).1,.str (fy s).2.1,.int .i64 (fy s).2.2],M):=by
 rw[<-SB]; exact akY s hs M
def NL(par at':Nat)(e:Int)(s:Nat×List Piece)(x:Piece):(pW par at' e s x).2.length<=s.2.length+1:=by
 unfold pW;simp only;split<;>simp
def ajS{l:List Piece}(hl:jS l)(s:Bytes)(hs:s.length<=100000):aq cY 152 [bH l,.str s] []=some (.tuple [bH (lN l s).1,.int .i64 (lN l s).2],[]):=by
 refine aI ?_;have hm:=hl.many;have q1:=NQ s hs;have q2:=aa6 l (by omega) s
 rw[BR] at q2;have q3:=Qx s hs;have q4:=k25 hl (fy s).2.1 (by have:=tn s hs; omega)
 unfold lN
 by_cases he:(bw s).2=0
 rotate_left
 ·have h60:(bw s).2=60:=by rcases vE s with h|h<;>rw[h] at he ⊢; exact absurd rfl he
  have hb:((bw s).2 != 0)=true:=by simpa using he
  rw[az hb,h60];simp only[CF,Jc,q1,hb,EW,seval]
 have hb:((bw s).2 != 0)=false:=by simp[he]
 rw[ak (by simp[hb])]
 cases hp:rj l s with
 |none =>
  rw[hp] at q2;simp only at q2 ⊢;simp only[CF,Jc,q1,q2,hb,Int.reduceLT,Int.reduceNeg,EW,seval]
 |some b =>
  rw[hp] at q2;obtain⟨p,hx,hps⟩:=pw hp;have g1:((b:Int)<0)=False:=Gp;simp only[aP] at q2;cases b with
  |zero =>
   have h47:(s==[47])=true:=by
    obtain⟨p0,r,e0,h0⟩:=hl.fst;rw[e0] at hx; cases hx;rw[<-hps,h0]; rfl
   simp only;simp only[CF,Jc,q1,q2,hb,g1,h47,EW,seval]
  |succ a =>
   have hne:s≠[47]:=fun e=>by
    obtain⟨p0,r,e0,h0⟩:=hl.fst;have:=hl.only (i:=a+1) (j:=0) hx (by rw[e0]; rfl) (by rw[hps,h0,e])
    omega
   have h47:(s==[47])=false:=by rw[bL]; exact hne
   have hlast:=LU he hne;have hpar:=hl.rV hlast;unfold GF at q4;rw[az hlast] at q4;have hy:=qR hpar;have hok:=(hl.ok _ (aQ hx)).2;have hok2:=(hl.ok _ (p8 hpar)).2;have hat:mD l (a+1)=p:=by unfold mD; rw[hx]; rfl
   have hrow:=fun e=>Ke l (df l (fy s).2.1) (a+1) e
   simp only[hat];generalize df l (fy s).2.1=c at *;have g3:(((c:Nat):Int)<0)=False:=by simp
   generalize hem:max p.dJ (mD l c).dJ=e;have he2:=SY p.dJ (mD l c).dJ;rw[hem] at he2;have hle:1<=e/\e<=1099511627776:=by rw[<-hem,Int.max_def]; split<;>omega
   cases h2:decide (1099511627776<=e)
   rotate_left
   ·have h2':1099511627776<=e:=by simpa using h2
    rw[az h2'];simp only[CF,Jc,q1,q2,q3,q4,hb,g1,g3,h47,hx,hy,he2,h2,dQ,gr,cL,bg,EW,seval]
   ·have h2':¬1099511627776<=e:=by simpa using h2
    rw[ak h2'];rw[<-hrow (e+1)];have hw1:=wr1 hle.1 hle.2;simp only[CF,Jc,q1,q2,q3,q4,hb,g1,g3,h47,hx,hy,he2,h2,zn,Ay,dQ,gr,cL,bg,EW,seval]
    refine gA (xs:=l) (by omega) (fun i (S:Nat×List Piece)=>S.1=i/\S.2.length<=i) (fun post S=>post.foldl (pW c (a+1) (e+1)) S) (fun S i=>[(0,bH l),(8,.int .i64 ((a+1:Nat):Int)),(12,.int .i64 c),(14,.int .i64 e),(15,.slice (.own 0) (S.2.map dn)),(16,.int .i64 i)])
     (fun S=>[.tick 3 S.2.length]) (fun S=>some (ag.tuple [bH S.2,.int .i64 0],([]:aK))) (fun S hS=>?_) (fun pre x post S hh hx cr hw hz hmm hS hi=>?_) (0,[]) ⟨rfl,ar _⟩
    ·simp only[Jc,aH,bf,gN,EW,seval]
    ·obtain⟨i,out⟩:=S;obtain⟨hS1,hS⟩:=hS;simp only at hS1 hS;subst hS1;have hlt':pre.length<l.length:=by have:=congrArg List.length hh; simp at this; omega
     have i1:=hi (pW c (a+1) (e+1) (pre.length,out) x) ⟨rfl,by have:=NL c (a+1) (e+1) (pre.length,out) x; simp only at this; omega⟩
     rw[bA];generalize hY:post.foldl (pW c (a+1) (e+1)) (pW c (a+1) (e+1) (pre.length,out) x)=Y at i1 ⊢;have r1:dL (out.length+1) 32=True:=xN;have hwP:=I4 out;unfold pW at i1
     cases ho:((pre.length:Nat):Int)==(c:Int)<;>cases hn:((pre.length:Nat):Int) != ((a+1:Nat):Int) <;>
      (first|(have ho2:(pre.length=c)=True:=eq_true (by (have:=ho; simp at this; omega)))|(have ho2:(pre.length=c)=False:=eq_false (by (have:=ho; simp at this; omega)))) <;>
      (first|(have hn2:(pre.length != a+1)=true:=by (have:=hn; simp at this ⊢; omega))|(have hn2:(pre.length != a+1)=false:=by (have:=hn; simp at this ⊢; omega))) <;>
      simp only[ho2,hn2,aE,aw,af,bB,aV,bo,aJ,av,aG,aP,dn,cL] at i1 <;>
      simp only[Jc,aH,cr,hx,hw,hz,ho,hn,hw1,r1,hwP,dQ,gr,cL,EW,seval]<;>exact i1
def aa0(ae:List Node)(next ai au:Int)(s:Bytes)(ht:Small ⟨ae,next,ai⟩)(M:aK):aL (aq cY) 115 [.agg [aZ ae,.int .i64 next,.int .i64 ai],.int .i64 au,.str s] M =
  some (.agg [aZ (dr ae au s),.int .i64 next,.int .i64 ai],M):=cO (ajw ⟨ae,next,ai⟩ au s ht) M
def Wg{T:List ag}{n:Node}{e:ew}(hn:n.aM.length<=100000){k:List K}{R:List ew->Bool->Option (ag×aK)}
  (hx:∀out done v q,out.length<=300000->kr (aq cY) [.fD 8 3] 0 k ⟨.exit 0,[(2,.str e.name),(4,.ptr 0 0),(8,.ptr 1 0),(9,.ptr 2 0),(11,.ptr 3 0),(12,.slice (.own 4) (out.map gh)),(13,.bool done),(14,v),(30,q)],[.cells T,.cells zT,.cells (aU n),.cells (eo e),.tick 3 out.length]⟩=R out done)
  (hT:∀B M,T.map (ag.jz B M)=T) :
  ∀(l pre out:List ew)(done:Bool),n.aM=pre++l->out.length+2*l.length<=300000->fP (aq cY) [.fD 8 3] 0 k (.loop [2,4,8,9,11,12,13,14] VP) [(2,.str e.name),(4,.ptr 0 0),(8,.ptr 1 0),(9,.ptr 2 0),(11,.ptr 3 0),(12,.slice (.own 4) (out.map gh)),(13,.bool done),(14,.int .i64 pre.length)] [.cells T,.cells zT,.cells (aU n),.cells (eo e),.tick 3 out.length]=R (uS e l out done).1 (uS e l out done).2:=by
 intro l;induction l with
 |nil =>
  intro pre out done h ho;rw[bX];simp only[Fw,aU,ib,ot h,EN,seval];exact hx _ _ _ _ (by simp at ho; omega)
 |cons m r ih =>
  intro pre out done h ho;rw[bX];have eU:pre.length+1<=100000:=by rw[h] at hn; simp at hn; omega
  have hw:=GD pre m;have hi:=fun out done ho=>ih (pre++[m]) out done (by rw[h]; simp) ho
  simp only[av] at ho;have r1:dL (out.length+1) 32=True:=xN;have r2:dL (out.length+1+1) 32=True:=xN;have hg:(!(strLt m.name e.name||m.name==e.name))=Y2 m.name e.name:=rfl
  rw[uS];simp only[Fw,hg,aU,ib,mM h,jf h,eo,hT,zT,EN,seval]
  repeat' ((first|apply bK|apply cI|apply eW)<;>intro hb<;>simp only[hb,EN,Fw,jf h,hw,r1,r2,eo,hT,zT,hg,seval])
  all_goals try simp only[Fw,jf h,hw,r1,r2,eo,hT,zT,hg,EN,seval]
  all_goals first
   |(refine cW ?_ ((hi (out++[e]++[m]) true (by simp; omega)).trans ?_)
     ·simp only[bB,aV,bo,aJ,av,aG]; rfl
     ·clear hi ih hx hw h hT hg; simp_all; done)
   |(refine cW ?_ ((hi (out++[m]) done (by simp; omega)).trans ?_)
     ·simp only[bB,aV,bo,aJ,av,aG]; rfl
     ·clear hi ih hx hw h hT hg; simp_all; done)
def ajt(t:Tree)(au:Int)(s:Bytes)(of:Int)(ht:Small t):aq cY 111 [bJ t,.int .i64 au,.str s,.int .i64 of] []=some (bJ (gI t au s of),[]):=by
 refine aI ?_;have hd:=D7 ht au;unfold gI;simp only[P3,Fw,bJ,bc,F8,ht.ae,ck,EN,seval];generalize (find t.ae au).getD Node.zero=n at hd ⊢;simp only[Fw,aU,EN,seval];refine(Wg (e:=⟨s,of,t.ai⟩) (R:=fun out done=>some (bJ ⟨eI t.ae { n with aM:=out++(if done then [] else [⟨s,of,t.ai⟩]) },t.next,mG (t.ai+1)⟩,[])) hd (fun out done v e ho=>?_) (fun B M=>by simp only[Fw,EN,seval]) n.aM [] [] false rfl (by simp; omega)).trans (by simp[bJ,bc,sQ])
 have r1:dL (out.length+1) 32=True:=xN;cases done
 ·simp only[Fw,zT,aU,eo,r1,WI,HP,ht.ae,EN,seval];simp[bJ,bc]
 ·simp only[Fw,zT,aU,eo,r1,HP,ht.ae,EN,seval];simp[bJ,bc]
def Vy(ae:List Node)(next ai au:Int)(s:Bytes)(of:Int)(ht:Small ⟨ae,next,ai⟩)(M:aK):aL (aq cY) 111 [.agg [aZ ae,.int .i64 next,.int .i64 ai],.int .i64 au,.str s,.int .i64 of] M =
  some (bJ (gI ⟨ae,next,ai⟩ au s of),M):=cO (ajt ⟨ae,next,ai⟩ au s of ht) M
def Wl{t:Tree}(ht:t.ae.length<=100000){k:List K}{R:Nat->Option (ag×aK)}
  (hx:∀(d:Nat) v q,kr (aq cY) [.tmp 4] 0 k ⟨.exit 0,[(1,v),(2,.ptr 0 0),(5,.int .i64 d),(13,q)],[.cells (bc t)]⟩=R d) :
  ∀(m:Nat)(au:Int)(d:Nat),d+m=201->fP (aq cY) [.tmp 4] 0 k (.loop [1,2,5] VU) [(1,.int .i64 au),(2,.ptr 0 0),(5,.int .i64 d)] [.cells (bc t)]=R (vu t.ae m au d):=by
 intro m;induction m with
 |zero =>
  intro au d hd;rw[bX];have hd':((d:Int)<=200)=False:=by simp; omega
  simp only[Jb,EN,seval]
  repeat' ((first|apply bK|apply cI|apply eW)<;>intro hb<;>simp only[hb,EN,Jb,hd',seval])
  all_goals exact hx _ _ _
 |succ m ih =>
  intro au d hd;rw[bX];have hd':((d:Int)<=200)=True:=by simp; omega
  have hw:IntKind.i64.wrap ((d:Int)+1)=((d+1:Nat):Int):=by rw[gx (by omega) (by omega)]; rfl
  have hi:=fun au=>ih au (d+1) (by omega)
  rw[vu];simp only[Jb,EN,seval];refine cI (fun hb=>?_) (fun hb=>?_)
  ·simp only[Jb,hb,hd',hw,bc,F8,ht,ck,aU,EN,seval];have h1:¬au=1:=by simpa using hb
   rw[ak h1];exact hi _
  ·simp only[Jb,hb,hd',hw,bc,F8,ht,ck,aU,EN,seval];have h1:au=1:=by simpa using hb
   rw[az h1];exact hx _ _ _
def ajA(t:Tree)(au:Int)(ht:t.ae.length<=100000):aq cY 120 [bJ t,.int .i64 au] []=some (.int .i64 (ph t.ae au),[]):=by
 refine aI ?_;simp only[X1,Jb,bJ,EN,seval];exact Wl (R:=fun(d:Nat)=>some (.int .i64 d,[])) ht (fun d v q=>by simp only[Jb,EN,seval]) 201 au 0 rfl
def NM(ae:List Node)(next ai au:Int)(h:ae.length<=100000)(M:aK):aL (aq cY) 120 [.agg [aZ ae,.int .i64 next,.int .i64 ai],.int .i64 au] M=some (.int .i64 (ph ae au),M) :=
 cO (ajA ⟨ae,next,ai⟩ au h) M
def aj8(t:Tree)(n:Node)(ht:Small t):aq cY 179 [bJ t,ck n] []=some (.bool (CJ t n),[]):=by
 refine aI ?_;simp only[Yy,adX,bJ,bc,ck,aU,NM,ht.ae,EN,seval];unfold CJ
 repeat' ((first|apply bK|apply cI|apply eW)<;>intro hb<;>simp only[hb,EN,adX,NM,ht.ae,seval])
 all_goals simp_all
def aln(ae:List Node)(next ai a b c:Int)(d:Bytes)(e:List ew)(u:Int)(h:Small ⟨ae,next,ai⟩)(M:aK):aL (aq cY) 179 [.agg [aZ ae,.int .i64 next,.int .i64 ai],.agg [.int .i64 a,.int .i64 b,.int .i64 c,jo d,ib e,.int .i64 u]] M =
  some (.bool (CJ ⟨ae,next,ai⟩ ⟨a,b,c,d,e,u⟩),M):=cO (aj8 ⟨ae,next,ai⟩ ⟨a,b,c,d,e,u⟩ h) M
def ajs(t:Tree)(au:Int)(s:Bytes)(ht:Small t)(hs:s.length<=100000):aq cY 110 [bJ t,.int .i64 au,.str s] []=some (.int .i64 (mn t au s),[]):=by
 refine aI ?_;have hd:=ti ht au;have ht':Small ⟨t.ae,t.next,t.ai⟩:=ht
 simp only[XU,Fv,bJ,bc,Vz,ht.ae,ck,aU,EN,seval];unfold mn;refine bK (fun hb=>?_) (fun hb=>?_)
 ·simp only[Fv,EN,seval];simp_all
 ·simp only[Fv,Qy,hs,EN,seval];refine bK (fun hb'=>?_) (fun hb'=>?_)
  ·simp only[Fv,EN,seval];simp_all
  ·simp only[Fv,aa1,hd,EN,seval];rcases sU s (gw t.ae au).1.aM 0 with ⟨h1,h2⟩|⟨m,n,h1,h2,h3⟩
   ·rw[h2];simp only[Fv,aln,ht',EN,seval];refine bK (fun hb''=>?_) (fun hb''=>?_)
    ·simp only[Fv,EN,seval];simp_all
    ·simp only[Fv,EN,seval];simp_all
   ·rw[h3];simp only[Fv,EN,seval];simp_all
def aaY(ae:List Node)(next ai au:Int)(s:Bytes)(ht:Small ⟨ae,next,ai⟩)(hs:s.length<=100000)(M:aK):aL (aq cY) 110 [.agg [aZ ae,.int .i64 next,.int .i64 ai],.int .i64 au,.str s] M =
  some (.int .i64 (mn ⟨ae,next,ai⟩ au s),M):=cO (ajs ⟨ae,next,ai⟩ au s ht hs) M
def agV(ae:List Node)(next ai a b c u:Int)(h:ae.length<=100000)(M:aK):aL (aq cY) 112 [.agg [aZ ae,.int .i64 next,.int .i64 ai],.agg [.int .i64 a,.int .i64 b,.int .i64 c,.slice .sh [],.slice .sh [],.int .i64 u]] M =
  some (.agg [aZ (eI ae ⟨a,b,c,[],[],u⟩),.int .i64 next,.int .i64 ai],M):=HP ae next ai a b c [] [] u h M
def Ov{t:Tree}(hz:Sz 1000 t)(k u next ai a c:Int):Small ⟨eI t.ae ⟨a,k,c,[],[],u⟩,next,ai⟩:=(hz.with (by simp) (by simp) next ai).small (by omega)
set_option maxHeartbeats 1000000 in
def c54(t:Tree)(au:Int)(s:Bytes)(kind:Int)(hz:Sz 1000 t)(hs:s.length<=100000):aq cY 54 [bJ t,.int .i64 au,.str s,.int .i64 kind] []=some (.tuple [bJ (nk t au s kind).1,.int .i64 (nk t au s kind).2.1,.int .i64 (nk t au s kind).2.2],[]):=by
 obtain⟨ae,next,ai⟩:=t
 refine aI ?_;have ht:Small ⟨ae,next,ai⟩:=hz.small (by omega)
 have hn:ae.length<=100000:=ht.ae;have hw:=fun k u next' cookie' a c=>Ov hz k u next' cookie' a c
 simp only[agl,E54,bJ,bc,aaY,ht,hs,EN,seval]
 repeat' ((first|apply bK|apply cI|apply eW)<;>intro hb<;>simp only[hb,EN,E54,aaY,ht,hs,hn,agV,Vy,hw,bJ,bc,seval])
 all_goals (clear hw; simp_all only[nk,bJ,bc,vl,↓reduceIte,reduceCtorEq,an]; done)
def acK{t:Tree}{of:Int}(ht:t.ae.length<=100000){k:List K}{R:Bool->Option (ag×aK)}
  (hx:∀e,kr (aq cY) [.tmp 6] 0 k ⟨.exit 0,e,[.cells (bc t)]⟩=R false) (hr:∀b,kr (aq cY) [.tmp 6] 0 k ⟨.ret,[(6,.bool b)],[.cells (bc t)]⟩=R b) :
  ∀(m:Nat)(au:Int)(d:Nat),d+m=t.ae.length+1->fP (aq cY) [.tmp 6] 0 k (.loop [1,2,3,7] acB) [(1,.int .i64 au),(2,.int .i64 of),(3,.ptr 0 0),(7,.int .i64 d)] [.cells (bc t)]=R (mg t.ae of m au):=by
 intro m;induction m with
 |zero =>
  intro au d hd;rw[bX];have hd':((d:Int)<=(t.ae.length:Int))=False:=by simp; omega
  simp only[UG,bc,aZ,hd',EN,seval];exact hx _
 |succ m ih =>
  intro au d hd;rw[bX];have hd':((d:Int)<=(t.ae.length:Int))=True:=by simp; omega
  have hw:IntKind.i64.wrap ((d:Int)+1)=((d+1:Nat):Int):=by rw[gx (by omega) (by omega)]; rfl
  have hi:=fun au=>ih au (d+1) (by omega)
  rw[mg];simp only[UG,bc,aZ,hd',EN,seval];refine bK (fun hb=>?_) (fun hb=>?_)
  ·have h1:au=of:=by simpa using hb
   simp only[UG,EN,seval];rw[az h1];exact hr _
  ·have h1:¬au=of:=by simpa using hb
   simp only[UG,EN,seval];rw[ak h1];refine bK (fun hb=>?_) (fun hb=>?_)
   ·have h1:au=1:=by simpa using hb
    simp only[UG,EN,seval];rw[az h1];exact hr _
   ·have h1:¬au=1:=by simpa using hb
    simp only[UG,hw,F8,ht,ck,aU,EN,seval];rw[ak h1];exact hi _
def c27(t:Tree)(au of:Int)(ht:t.ae.length<=100000):aq cY 27 [bJ t,.int .i64 au,.int .i64 of] []=some (.bool (iR t.ae au of),[]):=by
 refine aI ?_;simp only[af7,UG,bJ,EN,seval];exact acK (R:=fun b=>some (.bool b,[])) ht (fun e=>by simp only[UG,EN,seval]) (fun b=>by simp only[UG,EN,seval]) (t.ae.length+1) au 0 (by omega)
def k27(ae:List Node)(next ai au of:Int)(h:ae.length<=100000)(M:aK):aL (aq cY) 27 [.agg [aZ ae,.int .i64 next,.int .i64 ai],.int .i64 au,.int .i64 of] M=some (.bool (iR ae au of),M) :=
 cO (c27 ⟨ae,next,ai⟩ au of h) M
def k54(ae:List Node)(next ai au:Int)(s:Bytes)(kind:Int)(hz:Sz 1000 ⟨ae,next,ai⟩)(hs:s.length<=100000)(M:aK):aL (aq cY) 54 [.agg [aZ ae,.int .i64 next,.int .i64 ai],.int .i64 au,.str s,.int .i64 kind] M =
  some (.tuple [bJ (nk ⟨ae,next,ai⟩ au s kind).1,.int .i64 (nk ⟨ae,next,ai⟩ au s kind).2.1,.int .i64 (nk ⟨ae,next,ai⟩ au s kind).2.2],M):=cO (c54 ⟨ae,next,ai⟩ au s kind hz hs) M
def c52(t:Tree)(au to:Int)(s:Bytes)(hz:Sz 1000 t)(hs:s.length<=100000):aq cY 52 [bJ t,.int .i64 au,.int .i64 to,.str s] []=some (.tuple [bJ (BC t au to s).1,.int .i64 (BC t au to s).2],[]):=by
 obtain⟨ae,next,ai⟩:=t
 refine aI ?_;have ht:Small ⟨ae,next,ai⟩:=hz.small (by omega)
 have hn:ae.length<=100000:=ht.ae;have hf:=hz.find au;have hw':∀l,Small ⟨eI ae { bD ae au with dj:=l },next,ai⟩:=fun l=>(hz.with (n:={ bD ae au with dj:=l }) (iw hf.1) hf.2 next ai).small (by omega)
 simp only[agk,E52,bJ,bc,F8,hn,ck,aU,EN,seval]
 repeat' ((first|apply bK|apply cI|apply eW)<;>intro hb<;>simp only[hb,EN,E52,aaY,ht,hs,hn,HP,Vy,hw',bJ,bc,seval])
 all_goals (clear hw' hf; simp_all only[BC,bJ,bc,vl,↓reduceIte,reduceCtorEq,an]; done)
def k52(ae:List Node)(next ai au to:Int)(s:Bytes)(hz:Sz 1000 ⟨ae,next,ai⟩)(hs:s.length<=100000)(M:aK):aL (aq cY) 52 [.agg [aZ ae,.int .i64 next,.int .i64 ai],.int .i64 au,.int .i64 to,.str s] M =
  some (.tuple [bJ (BC ⟨ae,next,ai⟩ au to s).1,.int .i64 (BC ⟨ae,next,ai⟩ au to s).2],M):=cO (c52 ⟨ae,next,ai⟩ au to s hz hs) M
def ajv(t:Tree)(au:Int)(ht:Small t):aq cY 114 [bJ t,.int .i64 au] []=some (bJ ⟨gi t.ae au,t.next,t.ai⟩,[]):=by
 obtain⟨ae,next,ai⟩:=t
 refine aI ?_;have hn:ae.length<=100000:=ht.ae;simp only[XW,adS,bJ,bc,F8,hn,ck,aU,EN,seval]
 repeat' ((first|apply bK|apply cI|apply eW)<;>intro hb<;>simp only[hb,EN,adS,hn,HP,ag2,bJ,bc,seval])
 all_goals (simp_all only[gi,bJ,bc,vl,↓reduceIte,reduceCtorEq,an]; done)
def aaZ(ae:List Node)(next ai au:Int)(ht:Small ⟨ae,next,ai⟩)(M:aK):aL (aq cY) 114 [.agg [aZ ae,.int .i64 next,.int .i64 ai],.int .i64 au] M =
  some (.agg [aZ (gi ae au),.int .i64 next,.int .i64 ai],M):=cO (ajv ⟨ae,next,ai⟩ au ht) M
def c55(t:Tree)(au:Int)(s:Bytes)(hz:Sz 1000 t)(hs:s.length<=100000):aq cY 55 [bJ t,.int .i64 au,.str s] []=some (.tuple [bJ (vF t au s).1,.int .i64 (vF t au s).2.1,.int .i64 (vF t au s).2.2],[]):=by
 obtain⟨ae,next,ai⟩:=t
 refine aI ?_;have ht:Small ⟨ae,next,ai⟩:=hz.small (by omega)
 have hn:ae.length<=100000:=ht.ae;have hl:Small ⟨dr ae au s,next,ai⟩:=(hz.left au s next ai).small (by omega)
 simp only[agm,E55,bJ,bc,k56,ht,hs,ck,aU,EN,seval]
 repeat' ((first|apply bK|apply cI|apply eW)<;>intro hb<;>simp only[hb,EN,E55,hn,ht,hs,F8,aa0,aaZ,hl,ck,aU,bJ,bc,seval])
 all_goals (simp_all only[vF,bJ,bc,vl,↓reduceIte,reduceCtorEq,an]; done)
def k55(ae:List Node)(next ai au:Int)(s:Bytes)(hz:Sz 1000 ⟨ae,next,ai⟩)(hs:s.length<=100000)(M:aK):aL (aq cY) 55 [.agg [aZ ae,.int .i64 next,.int .i64 ai],.int .i64 au,.str s] M =
  some (.tuple [bJ (vF ⟨ae,next,ai⟩ au s).1,.int .i64 (vF ⟨ae,next,ai⟩ au s).2.1,.int .i64 (vF ⟨ae,next,ai⟩ au s).2.2],M):=cO (c55 ⟨ae,next,ai⟩ au s hz hs) M
def c119(t:Tree)(x:Node)(y:Int)(ht:Small t):aq cY 119 [bJ t,ck x,.int .i64 y] []=some (.int .i64 (sv t.ae x.kind y),[]):=by
 obtain⟨ae,next,ai⟩:=t
 refine aI ?_;have hn:ae.length<=100000:=ht.ae;simp only[X0,adT,bJ,bc,F8,hn,ck,aU,EN,seval]
 repeat' ((first|apply bK|apply cI|apply eW)<;>intro hb<;>simp only[hb,EN,adT,seval])
 all_goals (simp_all only[sv,vl,↓reduceIte,reduceCtorEq,an]; done)
def agW(ae:List Node)(next ai a b c:Int)(d:Bytes)(e:List ew)(u y:Int)(ht:Small ⟨ae,next,ai⟩)(M:aK):aL (aq cY) 119 [.agg [aZ ae,.int .i64 next,.int .i64 ai],.agg [.int .i64 a,.int .i64 b,.int .i64 c,jo d,ib e,.int .i64 u],.int .i64 y] M =
  some (.int .i64 (sv ae b y),M):=cO (c119 ⟨ae,next,ai⟩ ⟨a,b,c,d,e,u⟩ y ht) M
def aj9(t:Tree)(au:Int)(ht:Small t):aq cY 180 [bJ t,.int .i64 au] []=some (.tuple [bJ (oN t au).1,.int .i64 (oN t au).2],[]):=by
 obtain⟨ae,next,ai⟩:=t
 refine aI ?_;have hn:ae.length<=100000:=ht.ae;simp only[Yz,adY,bJ,bc,F8,hn,ck,aU,EN,seval]
 repeat' ((first|apply bK|apply cI|apply eW)<;>intro hb<;>simp only[hb,EN,adY,hn,ag2,bJ,bc,seval])
 all_goals (simp_all only[oN,bJ,bc,vl,↓reduceIte,reduceCtorEq,an]; done)
def alo(ae:List Node)(next ai au:Int)(ht:Small ⟨ae,next,ai⟩)(M:aK):aL (aq cY) 180 [.agg [aZ ae,.int .i64 next,.int .i64 ai],.int .i64 au] M =
  some (.tuple [bJ (oN ⟨ae,next,ai⟩ au).1,.int .i64 (oN ⟨ae,next,ai⟩ au).2],M):=cO (aj9 ⟨ae,next,ai⟩ au ht) M
def c41:aq cY 41 [] []=some (bJ oO,[]):=by
 refine aI ?_;simp only[agd,E41,EN,seval];rfl
def k41:=cP c41
def Wm{ae:List Node}{next ai au at' d:Int}(ht:ae.length<=100000){k:List K}{R:Int->Option (ag×aK)}
  (hx:∀most v q,kr (aq cY) [.tmp 6] 0 k ⟨.exit 0,[(1,.int .i64 au),(2,.int .i64 at'),(3,.ptr 0 0),(7,.int .i64 most),(8,.int .i64 d),(9,v),(19,q)],[.cells (bc ⟨ae,next,ai⟩)]⟩=R most) :
  ∀(l pre:List Node)(most:Int),ae=pre++l->fP (aq cY) [.tmp 6] 0 k (.loop [1,2,3,7,8,9] VV) [(1,.int .i64 au),(2,.int .i64 at'),(3,.ptr 0 0),(7,.int .i64 most),(8,.int .i64 d),(9,.int .i64 pre.length)] [.cells (bc ⟨ae,next,ai⟩)]=R (vz ae au at' d l most):=by
 intro l;induction l with
 |nil =>
  intro pre most h;rw[bX];simp only[OY,bc,ot h,EN,seval];exact hx _ _ _
 |cons n r ih =>
  intro pre most h;rw[bX];have eU:pre.length+1<=100000:=by rw[h] at ht; simp at ht; omega
  have hw:=GD pre n;have hi:=fun most=>ih (pre++[n]) most (by rw[h]; simp)
  rw[vz];simp only[bc] at hi;generalize hst:sk ae au at' d n most=m1;simp only[OY,bc,mM h,jf h,aU,EN,seval]
  repeat' ((first|apply bK|apply cI|apply eW)<;>intro hb<;>simp only[hb,EN,OY,hw,k27,NM,ht,aU,seval])
  all_goals refine cW ?_ (hi m1)
  all_goals congr 1
  all_goals (subst hst; clear hi ih hx hw h ht; simp_all only[sk,mG,gt_iff_lt,aJ,av,aG,aP,vl,↓reduceIte,reduceCtorEq,an]; done)
def ajB(t:Tree)(au at':Int)(ht:t.ae.length<=100000):aq cY 121 [bJ t,.int .i64 au,.int .i64 at'] []=some (.int .i64 (Bc t.ae au at'),[]):=by
 obtain⟨ae,next,ai⟩:=t
 have ht:ae.length<=100000:=ht;refine aI ?_;simp only[X2,OY,bJ,bc,NM,ht,EN,seval];exact Wm (R:=fun z=>some (.int .i64 z,[])) ht (fun most v q=>by simp only[OY,EN,seval]) ae [] 0 rfl
def agX(ae:List Node)(next ai au at':Int)(h:ae.length<=100000)(M:aK):aL (aq cY) 121 [.agg [aZ ae,.int .i64 next,.int .i64 ai],.int .i64 au,.int .i64 at'] M=some (.int .i64 (Bc ae au at'),M) :=
 cO (ajB ⟨ae,next,ai⟩ au at' h) M
set_option maxHeartbeats 2000000 in
def c57(t:Tree)(mT:Int)(s:Bytes)(to:Int)(nm:Bytes)(hz:Sz 1000 t)(hs:s.length<=100000)(ha:nm.length<=100000):aq cY 57 [bJ t,.int .i64 mT,.str s,.int .i64 to,.str nm] [] =
  some (.tuple [bJ (wa t mT s to nm).1,.int .i64 (wa t mT s to nm).2.1,.int .i64 (wa t mT s to nm).2.2],[]):=by
 obtain⟨ae,next,ai⟩:=t
 have ht:Small ⟨ae,next,ai⟩:=hz.small (by omega)
 have hn:ae.length<=100000:=ht.ae;have hd:(gw ae to).1.aM.length<=100000:=ti ht to;have z1:Sz 1001 ⟨dr ae mT s,next,ai⟩:=hz.left mT s next ai
 have z2:Sz 1002 ⟨dr (dr ae mT s) to nm,next,ai⟩:=z1.left to nm next ai
 have z3:∀y,Sz 1003 ⟨gi (dr (dr ae mT s) to nm) y,next,ai⟩:=fun y=>z2.unnamed y next ai
 have hx:=hz.find (dR ae mT s).1;have z4:∀y,Sz 1004 ⟨eI (gi (dr (dr ae mT s) to nm) y) { bD ae (dR ae mT s).1 with up:=to },next,ai⟩:=fun y=>(z3 y).with (n:={ bD ae (dR ae mT s).1 with up:=to }) (bh hx.1 (by omega)) hx.2 next ai
 have z5:Sz 1002 ⟨eI (dr ae mT s) { bD ae (dR ae mT s).1 with up:=to },next,ai⟩:=z1.with (n:={ bD ae (dR ae mT s).1 with up:=to }) (bh hx.1 (by omega)) hx.2 next ai
 have s1:=z1.small (by omega)
 have s2:=z2.small (by omega)
 have s3:=fun y=>(z3 y).small (by omega)
 have s4:=fun y=>(z4 y).small (by omega)
 have s5:=z5.small (by omega)
 have n1:(dr ae mT s).length<=100000:=s1.ae;have n3:∀y,(gi (dr (dr ae mT s) to nm) y).length<=100000:=fun y=>(s3 y).ae
 clear z1 z2 z3 z4 z5 hx;refine aI ?_;simp only[ago,O6,bJ,bc,k56,ht,hs,EN,seval];refine bK (fun hb0=>?_) (fun hb0=>?_)
 ·simp only[O6,hb0,EN,seval];clear s1 s2 s3 s4 s5 n1 n3;simp_all only[wa,bJ,bc,vl,↓reduceIte,reduceCtorEq,an]
 simp only[O6,hb0,Vz,hn,ck,aU,EN,seval];refine bK (fun hb1=>?_) (fun hb1=>?_)
 ·simp only[O6,hb1,EN,seval];clear s1 s2 s3 s4 s5 n1 n3;simp_all only[wa,bJ,bc,vl,↓reduceIte,reduceCtorEq,an]
 simp only[O6,hb1,Qy,ha,EN,seval];refine bK (fun hb2=>?_) (fun hb2=>?_)
 ·simp only[O6,hb2,EN,seval];clear s1 s2 s3 s4 s5 n1 n3;simp_all only[wa,bJ,bc,vl,↓reduceIte,reduceCtorEq,an]
 simp only[O6,hb2,aa1,hd,EN,seval];rcases sU nm (gw ae to).1.aM 0 with ⟨h1,h2⟩|⟨m,n,h1,h2,h3⟩
 ·have hu:dY (gw ae to).1.aM nm=0:=by simp[dY,h1]
  rw[h2];simp only[O6,EN,seval]
  repeat' ((first|apply bK|apply cI|apply eW)<;>intro hb<;>simp only[hb,EN,O6,F8,hn,ht,ck,aU,k27,agW,NM,agX,aa0,aaZ,HP,Vy,s1,s2,s3,s4,s5,n1,n3,bJ,bc,seval])
  all_goals (clear s1 s2 s3 s4 s5 n1 n3 h2; simp_all only[wa,nU,manyN,hu,bJ,bc,vl,↓reduceIte,reduceCtorEq,an]; done)
 ·have hu:dY (gw ae to).1.aM nm=n.au:=by simp[dY,h2]
  rw[h3];simp only[O6,h1,eo,EN,seval]
  repeat' ((first|apply bK|apply cI|apply eW)<;>intro hb<;>simp only[hb,EN,O6,F8,hn,ht,ck,aU,k27,agW,NM,agX,aa0,aaZ,HP,Vy,s1,s2,s3,s4,s5,n1,n3,bJ,bc,seval])
  all_goals (clear s1 s2 s3 s4 s5 n1 n3 h3; simp_all only[wa,nU,manyN,hu,bJ,bc,vl,↓reduceIte,reduceCtorEq,an]; done)
def k57(ae:List Node)(next ai mT:Int)(s:Bytes)(to:Int)(nm:Bytes)(hz:Sz 1000 ⟨ae,next,ai⟩)(hs:s.length<=100000)(ha:nm.length<=100000)(M:aK):aL (aq cY) 57 [.agg [aZ ae,.int .i64 next,.int .i64 ai],.int .i64 mT,.str s,.int .i64 to,.str nm] M =
  some (.tuple [bJ (wa ⟨ae,next,ai⟩ mT s to nm).1,.int .i64 (wa ⟨ae,next,ai⟩ mT s to nm).2.1,.int .i64 (wa ⟨ae,next,ai⟩ mT s to nm).2.2],M):=cO (c57 ⟨ae,next,ai⟩ mT s to nm hz hs ha) M
end
def AW{t:Tree}(ht:Rt t){s:Bytes}{j:Int}(h:eB t s=(j,0)):∃n,find t.ae j=some n:=by
 obtain⟨cf,g⟩:=ht;obtain⟨l,_,hw⟩:=tu.1 h;obtain⟨r,hr,hrk,_⟩:=g.root;obtain⟨m,hm,_⟩:=g.MF (pI.1 hw) hr (by simp[jv,hrk])
 exact⟨m,hm⟩
def qx(t:Tree)(s:Bytes):Int×Bytes×Int:=if (fy s).2.2 != 0 then (0,[],(fy s).2.2) else ((eB t (fy s).2.1).1,(fy s).1,(eB t (fy s).2.1).2)
def Fb(t:Tree)(s:Bytes):(qx t s).2.2=(k6 t s).2.2:=by
 unfold qx k6;split
 ·rfl
 ·split
  ·rfl
  ·rename_i h; simpa using h
def IV{t:Tree}{s:Bytes}(h:((k6 t s).2.2 != 0)=false):qx t s=k6 t s:=by
 unfold qx k6 at *;split
 ·rfl
 ·rename_i h1;rw[ak h1] at h;split
  ·rename_i h2; rw[az h2] at h; simp only at h; rw[h] at h2; cases h2
  ·rename_i h2;have:(eB t (fy s).2.1).2=0:=by simpa using h2
   rw[this]
def Fc(t:Tree)(s:Bytes)(hs:s.length<=100000):(qx t s).2.1.length<=1000:=by
 have:=tn s hs;unfold qx;split
 ·simp
 ·simp only; omega
section
variable {t:Tree} {l:List Piece}
attribute [local irreducible] fP fi kD gK dp kr aq aL ct bI
def NP(t:Tree)(s:Bytes)(ht:Small t)(hs:s.length<=100000)(M:aK):aL (aq cY) 24 [.agg [aZ t.ae,.int .i64 t.next,.int .i64 t.ai],.str s] M=some (.tuple [.int .i64 (eB t s).1,.int .i64 (eB t s).2],M):=by
 rw[<-I1]; exact k24 t.ae t.next t.ai s ht hs M
def k51(t:Tree)(s:Bytes)(ht:Small t)(hs:s.length<=100000)(M:aK):aL (aq cY) 51 [.agg [aZ t.ae,.int .i64 t.next,.int .i64 t.ai],.str s] M=some (.tuple [.int .i64 (qx t s).1,.str (qx t s).2.1,.int .i64 (qx t s).2.2],M):=by
 refine cO (aI ?_) M;have q1:=Qx s hs;have hl:=tn s hs;have q2:=NP t (fy s).2.1 ht (by omega)
 unfold qx;generalize fy s=v at q1 q2 ⊢;generalize eB t v.2.1=w at q2 ⊢;cases h1:v.2.2 != 0
 ·simp only[aaI,E51,q1,q2,h1,af,aE,aw,EW,seval]
 ·simp only[aaI,E51,q1,h1,aE,EW,seval]
def c50(t:Tree)(ht:Rt t)(o:oS)(ho:BI o)(hk:o.kind=1\/o.kind=7\/o.kind=6):aq cY 50 [bJ t,ua o] []=some (sf (if (eX t o).2.2 != 0 then lQ (eX t o).2.2 else (eX t o).2.1),[]):=by
 refine aI ?_;have q1:=NP t o.aR ht.small (by have:=ho.aR; omega)
 have hwf:=fun {j}=>AW ht (s:=o.aR) (j:=j)
 have hn:=ht.sz.ae;have q2:=fun au M=>F8 t.ae t.next t.ai au (by omega) M
 have q3:=akX t ht;have hll:=Am ht
 have w1:(eX t o)=if o.kind=1 then rM t o else if o.kind=6 then tM t o else rP t o:=by
  unfold eX;rcases hk with h|h|h<;>simp[h]
 rw[w1];unfold rM tM rP;generalize eB t o.aR=v at q1 hwf ⊢;obtain⟨j,e⟩:=v
 by_cases he:e=0
 rotate_left
 ·have hb:(e != 0)=true:=by simpa using he
  simp only[J5,ZK,bJ,bc,ua,dK,q1,hb,EW,seval];rcases hk with h|h|h<;>simp[h,hb,lQ,sf,eA,zn,fL,jo]
 subst he;obtain⟨n,hf⟩:=hwf rfl;have hno:=(cg hf).2;have hnn:bD t.ae j=n:=by simp[bD,hf]
 have q2:=q2 j;rw[hf] at q2;simp only[bz,ck,aU] at q2;simp only[hnn,hno];rcases hk with h|h|h
 ·have h1:(o.kind==1)=true:=by simp[h]
  simp only[J5,ZK,bJ,bc,ua,dK,q1,q2,h,an,EW,seval];rfl
 ·simp only[J5,ZK,bJ,bc,ua,dK,q1,q2,h,an,EW,seval];rfl
 ·have q3:=q3 j o.n o.m;have hll:=hll j o.n o.m;generalize pZ t j o.n o.m=L at q3 hll ⊢;cases h1:L.2.2 != 0
  rotate_left
  ·simp only[J5,ZK,bJ,bc,ua,dK,q1,q2,q3,h,h1,an,EW,seval];rfl
  ·simp only[J5,ZK,bJ,bc,ua,dK,q1,q2,q3,h,h1,an,EW,seval];have e0:(L.2.2=0):=by simpa using h1
   refine cW (gA (xs:=L.1) (by omega) (fun j (S:List Bytes)=>S=(L.1.take j).map ew.name) (fun _ (_:List Bytes)=>()) (fun S i=>[(4,.ptr 2 0),(9,ib L.1),(10,.int .i64 L.2.1),(11,.slice (.own 4) (S.map ag.str)),(12,.int .i64 i)])
    (fun S=>[.cells [aZ t.ae,.int .i64 t.next,.int .i64 t.ai],.cells [.int .i64 6,.int .i64 o.jw,.str o.aR,.str o.rp,.int .i64 o.n,.int .i64 o.m,.int .i64 o.handle,jo o.data],.cells [.int .i64 0,.int .i64 0,.int .i64 0,.int .i64 0,.int .i64 0,.slice .c0 [],.slice .c0 []],.cells [.int .i64 n.au,.int .i64 n.kind,.int .i64 n.dj,jo n.data,ib n.aM,.int .i64 n.up],.tick 1 S.length])
    (fun _=>some (sf ⟨0,0,0,L.2.1,0,L.1.map ew.name,[]⟩,[])) (fun S hS=>?_) (fun pre e post S hh hx cr hw h0 hm hS hi=>?_) [] rfl) rfl
   ·rw[cQ] at hS;subst hS;simp only[ZK,bf,DB,EW,seval];rfl
   ·have hp:=(aC.1 hx).1;have hsl:S.length<=pre.length:=by rw[hS]; simp; omega
    have ht:(L.1.take (pre.length+1)).map ew.name=S++[e.name]:=by rw[dz,hx,bB,hS]; rfl
    have i1:=hi _ ht.symm;have r1:dL (S.length+1) 16=True:=xN;simp only[bB,aV,bo,aJ,av,aG,aP] at i1;simp only[ZK,cr,hx,hw,h0,r1,gh,eo,DB,EW,seval];exact i1
end
section
variable {t:Tree} {l:List Piece}
attribute [local irreducible] fP fi kD gK dp kr aq aL ct bI
def akZ{t:Tree}(ht:Rt t)(M:aK):aL (aq cY) 113 [.agg [aZ t.ae,.int .i64 t.next,.int .i64 t.ai]] M=some (.agg [aZ (fg t).ae,.int .i64 (fg t).next,.int .i64 (fg t).ai],M):=by
 refine cO (aI ?_) M;have hn:=ht.sz.ae;simp only[XV,ZB,EW,seval]
 refine cW (gA (xs:=t.ae) (by omega) (fun j (u:Tree)=>Rt u/\u=(t.ae.take j).foldl (fun u n=>if n.kind==1&&n.dj==0 then (oN u n.au).1 else u) t) (fun _ (_:Tree)=>()) (fun _ i=>[(1,.ptr 0 0),(2,.ptr 1 0),(3,.ptr 2 0),(4,.int .i64 i)])
  (fun u=>[.cells [aZ t.ae,.int .i64 t.next,.int .i64 t.ai],.cells [.slice .c0 [],.int .i64 0,.int .i64 0],.cells [aZ u.ae,.int .i64 u.next,.int .i64 u.ai]])
  (fun _=>some (.agg [aZ (fg t).ae,.int .i64 (fg t).next,.int .i64 (fg t).ai],[])) (fun u hu=>?_) (fun pre n post u hh hx cr hw h0 hm hu hi=>?_) t ⟨ht,rfl⟩) rfl
 ·obtain⟨-,hu⟩:=hu;rw[cQ] at hu;have hs:u=fg t:=hu;subst hs;simp only[ZB,bf,EW,seval]
 ·obtain⟨hu1,hu2⟩:=hu;have hT:(t.ae.take (pre.length+1)).foldl (fun u n=>if n.kind==1&&n.dj==0 then (oN u n.au).1 else u) t=if n.kind==1&&n.dj==0 then (oN u n.au).1 else u:=by rw[dz,hx,jk,<-hu2]; rfl
  have q:=alo u.ae u.next u.ai n.au hu1.small
  have i1:=hi _ ⟨by
   split
   ·exact hu1.free n.au
   ·exact hu1,hT.symm⟩
  simp only[bJ,bc] at q;cases h1:n.kind==1<;>cases h2:n.dj==0<;>simp only[h1,h2,bP,cd,dI,af,aE,aw] at i1 <;>
  simp only[ZB,cr,hx,hw,h0,h1,h2,q,ck,aU,bP,cd,dI,EW,seval]<;>exact i1
def zz(t:Tree)(u:Tree)(e au k:Int)(he:(e != 0)=true)(M:aK):aL (aq cY) 53 [.agg [aZ t.ae,.int .i64 t.next,.int .i64 t.ai],.agg [aZ u.ae,.int .i64 u.next,.int .i64 u.ai],.int .i64 e,.agg [.int .i64 0,.int .i64 au,.int .i64 k,.int .i64 0,.int .i64 0,.slice .sh [],.slice .sh []]] M =
  some (.tuple [.agg [aZ t.ae,.int .i64 t.next,.int .i64 t.ai],.agg [.int .i64 e,.int .i64 0,.int .i64 0,.int .i64 0,.int .i64 0,.slice .sh [],.slice .sh []]],M):=by
 refine cO (aI ?_) M;simp only[aaJ,E53,he,EW,seval]
def BW(t:Tree){u:Tree}(hu:Rt u)(au k:Int)(M:aK):aL (aq cY) 53 [.agg [aZ t.ae,.int .i64 t.next,.int .i64 t.ai],.agg [aZ u.ae,.int .i64 u.next,.int .i64 u.ai],.int .i64 0,.agg [.int .i64 0,.int .i64 au,.int .i64 k,.int .i64 0,.int .i64 0,.slice .sh [],.slice .sh []]] M =
  some (.tuple [.agg [aZ (fg u).ae,.int .i64 (fg u).next,.int .i64 (fg u).ai],.agg [.int .i64 0,.int .i64 au,.int .i64 k,.int .i64 0,.int .i64 0,.slice .sh [],.slice .sh []]],M):=by
 refine cO (aI ?_) M;have q:=akZ hu;simp only[aaJ,E53,q,an,EW,seval]
end
def Un{t:Tree}{o:oS}(hk:o.kind=1\/o.kind=7\/o.kind=6):(eX t o).1=t:=by
 unfold eX;rcases hk with h|h|h
 ·rw[az h]; unfold rM; split<;>rfl
 ·rw[ak (by omega),ak (by omega),ak (by omega),ak (by omega),ak (by omega),ak (by omega)]; unfold rP; dsimp only; split<;>rfl
 ·rw[ak (by omega),ak (by omega),ak (by omega),ak (by omega),ak (by omega),az h]; unfold tM; dsimp only; split
  ·rfl
  ·split<;>rfl
section
variable {t:Tree} {l:List Piece}
attribute [local irreducible] fP fi kD gK dp kr aq aL ct bI
def FI.plain{t:Tree}{l:List Piece}(hf:FI l t)(o:oS)(ho:BI o)(hk:1<=o.kind/\o.kind<=7):aq cY 16 [bJ t,ua o] []=some (.tuple [bJ (px t o).1,sf (px t o).2],[]):=by
 have hsw:fg t=t:=by obtain⟨cf,g⟩:=hf.rt; exact AR g hf.may
 have ht:Rt t:=hf.rt;have hp:o.aR.length<=100000:=by have:=ho.aR; omega
 have hp2:o.rp.length<=100000:=by have:=ho.rp; omega
 have hz:Sz 1000 t:=ht.sz.up (by omega)
 refine aI ?_
 by_cases hka:o.kind=1\/o.kind=7\/o.kind=6
 ·have q:=fun M=>cO (c50 t ht o ho hka) M
  have hw:=Un (t:=t) hka
  have hpt:px t o=(t,if (eX t o).2.2 != 0 then lQ (eX t o).2.2 else (eX t o).2.1):=by
   unfold px;rw[hw,hsw]; split<;>rfl
  rw[hpt];generalize (if (eX t o).2.2 != 0 then lQ (eX t o).2.2 else (eX t o).2.1)=a at q ⊢
  simp only[bJ,bc,ua,dK,sf,eA] at q;rcases hka with h|h|h<;>rw[h] at q <;>
  simp only[xL,Je,bJ,bc,ua,dK,sf,eA,q,h,EW,seval]
 have q1:=k51 t o.aR ht.small hp;have q2:=k51 t o.rp ht.small hp2;have e1:=Fb t o.aR;have e2:=Fb t o.rp;have l1:=Fc t o.aR hp;have l2:=Fc t o.rp hp2;have d1:=IV (t:=t) (s:=o.aR);have d2:=IV (t:=t) (s:=o.rp);rcases(show o.kind=3\/o.kind=2\/o.kind=4\/o.kind=5 by omega) with h|h|h|h
 ·have hw:eX t o=tL t o:=by unfold eX; rw[ak (by omega),ak (by omega),az h]
  unfold px;rw[hw];unfold tL;simp only;have q0:=NP t o.aR ht.small hp;have hwf:=fun {j}=>AW ht (s:=o.aR) (j:=j)
  rw[<-e2];cases h0:(eB t o.aR).2 != 0
  rotate_left
  ·simp only[xL,Je,bJ,bc,ua,dK,sf,eA,q0,h,h0,lQ,aE,EW,seval];rfl
  have h0':(eB t o.aR).2=0:=by simpa using h0
  obtain⟨n,hn⟩:=hwf (j:=(eB t o.aR).1) (fC rfl h0');have hnn:bD t.ae (eB t o.aR).1=n:=by simp[bD,hn]
  rw[hnn,(cg hn).2];generalize eB t o.aR=v at *;cases h1:(qx t o.rp).2.2 != 0
  rotate_left
  ·simp only[xL,Je,bJ,bc,ua,dK,sf,eA,q0,q2,h,h0,h1,lQ,aE,aw,af,EW,seval];rfl
  rw[<-d2 (by rw[<-e2]; exact h1)]
  generalize qx t o.rp=s at *;have q3:=k52 t.ae t.next t.ai v.1 s.1 s.2.1 hz (by omega)
  have hra:=ht.ln v.1 s.1 s.2.1;have qe:=zz t (BC t v.1 s.1 s.2.1).1 (BC t v.1 s.1 s.2.1).2 v.1 0;have qt:=BW t hra v.1 0;have eT:(⟨t.ae,t.next,t.ai⟩:Tree)=t:=rfl
  rw[eT] at q3;generalize BC t v.1 s.1 s.2.1=w at q3 hra qt qe ⊢;simp only[bJ,bc] at q3;cases h3:w.2 != 0
  ·have h3':w.2=0:=by simpa using h3
   rw[h3'] at q3;simp only[xL,Je,bJ,bc,ua,dK,sf,eA,q0,q2,q3,qt,h,h0,h1,aw,af,an,EW,seval];rfl
  ·have qe:=qe h3;simp only[xL,Je,bJ,bc,ua,dK,sf,eA,q0,q2,q3,qe,h,h0,h1,h3,lQ,aE,aw,af,EW,seval];rfl
 ·have hw:eX t o=uF t o:=by unfold eX; rw[ak (by omega),az h]
  unfold px;rw[hw];unfold uF;simp only;rw[<-e1];cases h1:(qx t o.aR).2.2 != 0
  rotate_left
  ·simp only[xL,Je,bJ,bc,ua,dK,sf,eA,q1,h,h1,lQ,aE,EW,seval];rfl
  rw[<-d1 (by rw[<-e1]; exact h1)]
  generalize qx t o.aR=v at *;have q3:=k54 t.ae t.next t.ai v.1 v.2.1 o.n hz (by omega)
  have hra:=ht.add v.1 v.2.1 o.n;have qe:=zz t (nk t v.1 v.2.1 o.n).1 (nk t v.1 v.2.1 o.n).2.2 (nk t v.1 v.2.1 o.n).2.1 o.n;have qt:=BW t hra (nk t v.1 v.2.1 o.n).2.1 o.n;have eT:(⟨t.ae,t.next,t.ai⟩:Tree)=t:=rfl
  rw[eT] at q3;generalize nk t v.1 v.2.1 o.n=w at q3 hra qt qe ⊢;simp only[bJ,bc] at q3;cases h3:w.2.2 != 0
  ·have h3':w.2.2=0:=by simpa using h3
   rw[h3'] at q3;simp only[xL,Je,bJ,bc,ua,dK,sf,eA,q1,q3,qt,h,h1,aw,af,an,EW,seval];rfl
  ·have qe:=qe h3;simp only[xL,Je,bJ,bc,ua,dK,sf,eA,q1,q3,qe,h,h1,h3,lQ,aE,aw,af,EW,seval];rfl
 ·have hw:eX t o=nF t o:=by unfold eX; rw[ak (by omega),ak (by omega),ak (by omega),az h]
  unfold px;rw[hw];unfold nF;simp only;rw[<-e1];cases h1:(qx t o.aR).2.2 != 0
  rotate_left
  ·simp only[xL,Je,bJ,bc,ua,dK,sf,eA,q1,h,h1,lQ,aE,EW,seval];rfl
  rw[<-d1 (by rw[<-e1]; exact h1)]
  generalize qx t o.aR=v at *;have q3:=k55 t.ae t.next t.ai v.1 v.2.1 hz (by omega)
  have hra:=ht.un v.1 v.2.1;have qe:=zz t (vF t v.1 v.2.1).1 (vF t v.1 v.2.1).2.2 (vF t v.1 v.2.1).2.1 0;have qt:=BW t hra (vF t v.1 v.2.1).2.1 0;have eT:(⟨t.ae,t.next,t.ai⟩:Tree)=t:=rfl
  rw[eT] at q3;generalize vF t v.1 v.2.1=w at q3 hra qt qe ⊢;simp only[bJ,bc] at q3;cases h3:w.2.2 != 0
  ·have h3':w.2.2=0:=by simpa using h3
   rw[h3'] at q3;simp only[xL,Je,bJ,bc,ua,dK,sf,eA,q1,q3,qt,h,h1,aw,af,an,EW,seval];rfl
  ·have qe:=qe h3;simp only[xL,Je,bJ,bc,ua,dK,sf,eA,q1,q3,qe,h,h1,h3,lQ,aE,aw,af,EW,seval];rfl
 ·have hw:eX t o=lI t o:=by unfold eX; rw[ak (by omega),ak (by omega),ak (by omega),ak (by omega),az h]
  unfold px;rw[hw];unfold lI;simp only;rw[<-e1,<-e2];cases h1:(qx t o.aR).2.2 != 0
  rotate_left
  ·simp only[xL,Je,bJ,bc,ua,dK,sf,eA,q1,h,h1,lQ,aE,EW,seval];rfl
  rw[<-d1 (by rw[<-e1]; exact h1)]
  generalize qx t o.aR=v at *;cases h2:(qx t o.rp).2.2 != 0
  rotate_left
  ·simp only[xL,Je,bJ,bc,ua,dK,sf,eA,q1,q2,h,h1,h2,lQ,aE,aw,af,EW,seval];rfl
  rw[<-d2 (by rw[<-e2]; exact h2)]
  generalize qx t o.rp=s at *;have q0:=k56 t.ae t.next t.ai v.1 v.2.1 ht.small (by omega)
  have q3:=k57 t.ae t.next t.ai v.1 v.2.1 s.1 s.2.1 hz (by omega) (by omega)
  have hra:=ht.mv v.1 v.2.1 s.1 s.2.1;have qe:=zz t (wa t v.1 v.2.1 s.1 s.2.1).1 (wa t v.1 v.2.1 s.1 s.2.1).2.2 (dR t.ae v.1 v.2.1).1 0;have qt:=BW t hra (dR t.ae v.1 v.2.1).1 0;have eT:(⟨t.ae,t.next,t.ai⟩:Tree)=t:=rfl
  rw[eT] at q3;generalize wa t v.1 v.2.1 s.1 s.2.1=w at q3 hra qt qe ⊢;simp only[bJ,bc] at q3;cases h3:w.2.2 != 0
  ·have h3':w.2.2=0:=by simpa using h3
   rw[h3'] at q3;simp only[xL,Je,bJ,bc,ua,dK,sf,eA,q0,q1,q2,q3,qt,h,h1,h2,aw,af,an,EW,seval];rfl
  ·have qe:=qe h3;simp only[xL,Je,bJ,bc,ua,dK,sf,eA,q0,q1,q2,q3,qe,h,h1,h2,h3,lQ,aE,aw,af,EW,seval];rfl
end
section
attribute [local irreducible] fP fi kD gK dp kr aq aL ct bI
def ah1(c:Piece)(s:Bytes)(g e:Int):putCells (dn c) 0 [.str s,.int .i64 g,.int .i64 e]=dn ⟨s,g,e⟩:=rfl
def ajT{l:List Piece}(hl:jS l)(s:Bytes)(hs:s.length<=100000)(to:Int):aq cY 153 [bH l,.str s,.int .i64 to] []=some (.tuple [bH (mU l s to).1,.int .i64 (mU l s to).2],[]):=by
 refine aI ?_;have hm:=hl.many;have q1:=NQ s hs;have q2:=aa6 l (by omega) s
 rw[BR] at q2;unfold mU
 by_cases hg1:0<=to
 rotate_left
 ·have e:mq to=false:=by simp[mq]; intro h; exact absurd h hg1
  have e1:(to<0)=True:=Az;rw[az e];simp only[Ba,MJ,e1,EW,seval]
 have e1:(to<0)=False:=Gp
 by_cases hg2:to<8
 rotate_left
 ·have e:mq to=false:=by simp[mq]; intro h; omega
  have e2:(8<=to)=True:=Az;rw[az e];simp only[Ba,MJ,e1,e2,EW,seval]
 have e2:(8<=to)=False:=Gp;have e:mq to=true:=by simp[mq,hg1,hg2]
 rw[ak (by simp[e])]
 by_cases he:(bw s).2=0
 rotate_left
 ·have h60:(bw s).2=60:=by rcases vE s with h|h<;>rw[h] at he ⊢; exact absurd rfl he
  have hb:((bw s).2 != 0)=true:=by simpa using he
  rw[az hb,h60];simp only[Ba,MJ,e1,e2,q1,hb,EW,seval]
 have hb:((bw s).2 != 0)=false:=by simp[he]
 rw[ak (by simp[hb])]
 cases hp:rj l s with
 |none =>
  rw[hp] at q2;simp only at q2 ⊢;simp only[Ba,MJ,e1,e2,q1,q2,hb,Int.reduceLT,Int.reduceNeg,EW,seval]
 |some b =>
  rw[hp] at q2;obtain⟨p,hx,hps⟩:=pw hp;have cr:=(aC.1 hx).1;have hat:mD l b=p:=by unfold mD; rw[hx]; rfl
  have hok:=(hl.ok _ (aQ hx)).2;have g1:((b:Int)<0)=False:=Gp;simp only[aP] at q2;simp only[hat];cases h2:decide (1099511627776<=p.dJ)
  rotate_left
  ·have h2':1099511627776<=p.dJ:=by simpa using h2
   rw[az h2'];simp only[Ba,MJ,e1,e2,q1,q2,hb,g1,hx,h2,dQ,gr,cL,bg,EW,seval]
  ·have h2':¬1099511627776<=p.dJ:=by simpa using h2
   rw[ak h2'];have hw1:=wr1 hok.2.2.1 hok.2.2.2;have r1:dL l.length 32=True:=xN;have hbl:((b:Int)<(l.length:Int))=True:=Az;have hne:(l.length==0)=false:=by rw[bL]; omega
   have hT:List.take l.length ((l.set b ⟨s,to,p.dJ+1⟩).map dn)=(l.set b ⟨s,to,p.dJ+1⟩).map dn:=cj (by simp)
   simp only[Ba,MJ,e1,e2,q1,q2,hb,g1,hx,h2,hw1,r1,hbl,hne,hT,I4,dQ,gr,cL,bg,aH,bU,aP,fz,tX l b p _ 0 _ (ah1 p s to (p.dJ+1)),ar,aE,EW,seval]
   trace_state
def jg(f:vX)(t:Tree)(o:oS):List ag:=[bH f.pieces,jQ f.eh,.int .i64 f.next,.int .i64 f.ai,aZ t.ae,.int .i64 t.next,.int .i64 t.ai,
 .int .i64 o.kind,.int .i64 o.jw,.str o.aR,.str o.rp,.int .i64 o.n,.int .i64 o.m,.int .i64 o.handle,jo o.data,
 .int .i64 0,.int .i64 0,.int .i64 0,.int .i64 0,.int .i64 0,.slice .c0 [],.slice .c0 []]
abbrev mX(f:vX)(t:Tree)(o:oS):cA := .cells (jg f t o)
def iH(f:vX)(t:Tree)(o:oS)(a:OQ)(x:ag):cA := .cells [bH f.pieces,jQ f.eh,.int .i64 f.next,.int .i64 f.ai,aZ t.ae,.int .i64 t.next,.int .i64 t.ai,
 .int .i64 o.kind,.int .i64 o.jw,.str o.aR,.str o.rp,.int .i64 o.n,.int .i64 o.m,.int .i64 o.handle,jo o.data,
 .int .i64 a.err,.int .i64 a.au,.int .i64 a.kind,.int .i64 a.n,.int .i64 a.m,x,.slice .c0 []]
def Row(x:ag)(xs:List ag):Prop:=x = .slice .sh xs\/(x = .slice .c0 []/\xs=[])
def x6(K:Nat)(f:vX)(t:Tree)(o:oS)(r:Wt):Prop :=
 ∃x,Row x (r.2.1.names.map ag.str)/\r.2.1.data=[]/\aq fO K [.ptr 0 0] [.cells (jg f t o)]=some (if r.2.2 != 0 then iV r.2.2 else .tuple [],[iH f r.1 o r.2.1 x])
def kWk{C:eL}{g p:Nat}{vs:List ag}{r:ag}{M:aK}{f:vX}{t:Tree}{o:oS}(hM:nth M p=some (mX f t o))(h:C g (.ptr 0 0::vs) [mX f t o]=some (r,[mX f t o]))
  (h1:vs.all ag.flat=true) (h2:vs.flatMap ag.ids=[]) (h3:r.wF=true) (h4:∀p,vs.map (ag.rn (iC [p]))=vs) (h5:∀p,r.BE (xg [p])=r) :
  aL C g (.ptr p 0::vs) M=some (r,M):=by
 have:=pC hM h h1 h2 h3 (h4 p) (h5 p) rfl rfl rfl rfl rfl;rwa[um hM] at this
def wG(l:List Piece):List Bytes->Int->Bool
 | [],n=>n != 0
 |p::r,n=>if (fy p).2.2 != 0 then false else wG l r (mG (n+(kB l p:Nat)))
def zN{l:List Piece}(hl:jS l)(s:Bytes):kB l s<=16:=bh kf hl.many
def agH{l:List Piece}(hl:jS l)(p:Bytes):wG l [p] 0=((fy p).2.2==0&&decide (0<kB l p)):=by
 have hc:=zN hl p;have hw:mG (0+(kB l p:Nat))=(kB l p:Nat):=by rw[Int.zero_add]; exact gx (by omega) (by omega)
 simp only[wG,hw];cases h:(fy p).2.2==0
 ·simp[bne,h]
 ·simp only[bne,h,cU,af,aw,bP];rw[eb]; simp; omega
def agI{l:List Piece}(hl:jS l)(p q:Bytes):wG l [p,q] 0=((fy p).2.2==0&&((fy q).2.2==0&&decide (0<kB l p+kB l q))):=by
 have hc:=zN hl p;have hd:=zN hl q;have hw:mG (0+(kB l p:Nat))=(kB l p:Nat):=by rw[Int.zero_add]; exact gx (by omega) (by omega)
 have hw2:mG ((kB l p:Nat)+(kB l q:Nat))=((kB l p+kB l q:Nat):Int):=by rw[mG,gx (by omega) (by omega)]; omega
 simp only[wG,hw,hw2];cases h:(fy p).2.2==0
 ·simp[bne,h]
 ·simp only[bne,h,cU,af,aw,bP];cases h':(fy q).2.2==0
  ·simp
  ·simp only[cU,af,aw,bP];rw[eb]; simp; omega
def ajf{l:List Piece}(hl:jS l)(t:Tree){o:oS}(hk:o.kind=4):((eB t o.aR).2==0&&wG l [o.aR] 0)=ub l t o:=by
 unfold ub; rw[az hk,agH hl]
def ajg{l:List Piece}(hl:jS l)(t:Tree){o:oS}(hk:o.kind=5):((eB t o.aR).2==0&&wG l [o.aR,o.rp] 0)=ub l t o:=by
 unfold ub; rw[ak (by omega),az hk,agI hl]
section
variable (f:vX) {t:Tree} (ht:Rt t) (o:oS)
include ht
theorem c90(aR:Bytes)(hp:aR.length<=100000):aq fO 90 [.ptr 0 0,.str aR] [mX f t o] =
  some (if (eB t aR).2 != 0 then iV (eB t aR).2 else .agg (aU (bD t.ae (eB t aR).1)),[mX f t o]):=by
 refine aI ?_;have q1:=VB t aR ht.small ht.jB hp;generalize eB t aR=v at q1 ⊢;have q2:=zg v.2;have q3:=fun M=>lS (Vx t v.1 ht.small ht.jB M)
 simp only[aU] at q3;simp only[aaP,E90,mX,jg,q1,EW,seval];cases he:v.2 != 0<;>simp only[he,af,aE,aw,iV] at q2 ⊢
 ·simp only[E90,q2,q3,aU,EW,seval]
 ·simp only[E90,q2,EW,seval]
theorem k90(aR:Bytes)(hp:aR.length<=100000){p:Nat}{M:aK}(hM:nth M p=some (mX f t o)):aL (aq fO) 90 [.ptr p 0,.str aR] M =
  some (if (eB t aR).2 != 0 then iV (eB t aR).2 else .agg (aU (bD t.ae (eB t aR).1)),M) :=
 kWk hM (c90 f ht o aR hp) rfl rfl (by split<;>rfl) (fun _=>rfl) (fun _=>by split<;>rfl)
theorem aj0(aR:Bytes)(hp:aR.length<=100000):aq fO 169 [.ptr 0 0,.str aR] [mX f t o] =
  some (if (k6 t aR).2.2 != 0 then iV (k6 t aR).2.2 else .tuple [.int .i64 (k6 t aR).1,.str (k6 t aR).2.1],[mX f t o]):=by
 refine aI ?_;have q1:=aa5 aR hp;have hl:=tn aR hp;have q4:=VB t (fy aR).2.1 ht.small ht.jB (by omega)
 unfold k6;generalize fy aR=l at q1 q4 ⊢;have q2:=zg l.2.2;generalize eB t l.2.1=v at q4 ⊢;have q3:=zg v.2;simp only[Yp,Uz,mX,jg,q1,EW,seval];cases he:l.2.2 != 0<;>simp only[he,af,aE,aw,iV] at q2 ⊢
 ·cases hv:v.2 != 0<;>simp only[hv,af,aE,aw,iV] at q3 ⊢
  ·simp only[Uz,q2,q4,q3,an,af,aw,EW,seval]
  ·simp only[Uz,q2,q4,q3,hv,aE,EW,seval]
 ·simp only[Uz,q2,he,aE,EW,seval]
theorem QA(aR:Bytes)(hp:aR.length<=100000){p:Nat}{M:aK}(hM:nth M p=some (mX f t o)):aL (aq fO) 169 [.ptr p 0,.str aR] M =
  some (if (k6 t aR).2.2 != 0 then iV (k6 t aR).2.2 else .tuple [.int .i64 (k6 t aR).1,.str (k6 t aR).2.1],M) :=
 kWk hM (aj0 f ht o aR hp) rfl rfl (by split<;>rfl) (fun _=>rfl) (fun _=>by split<;>rfl)
theorem VC{u:Tree}(au e:Int){p:Nat}{M:aK}(hM:nth M p=some (mX f t o)):aL (aq fO) 170 [.ptr p 0,.agg [aZ u.ae,.int .i64 u.next,.int .i64 u.ai],.int .i64 au,.int .i64 e] M =
  some (if e != 0 then iV e else .tuple [],if e != 0 then M else jZ M p (iH f u o ⟨0,au,0,0,0,[],[]⟩ (.slice .c0 []))):=by
 have q:=zg e;cases he:e != 0
 ·simp only[he,af,aw] at q ⊢
  have h:aq fO 170 [.ptr 0 0,.agg [aZ u.ae,.int .i64 u.next,.int .i64 u.ai],.int .i64 au,.int .i64 e] [mX f t o]=some (.tuple [],[iH f u o ⟨0,au,0,0,0,[],[]⟩ (.slice .c0 [])]):=by
   refine aI ?_;simp only[P9,adW,mX,jg,iH,q,EW,seval]
  exact pC hM h rfl rfl rfl rfl rfl rfl rfl rfl rfl rfl
 ·simp only[he,aE] at q ⊢
  have h:aq fO 170 [.ptr 0 0,.agg [aZ u.ae,.int .i64 u.next,.int .i64 u.ai],.int .i64 au,.int .i64 e] [mX f t o]=some (iV e,[mX f t o]):=by
   refine aI ?_;simp only[P9,adW,mX,jg,q,iV,EW,seval]
  have:=pC hM h rfl rfl rfl rfl rfl rfl rfl rfl rfl rfl;rwa[um hM] at this
theorem ag0{l:List Piece}(hl:jS l)(hf:f.pieces=l)(ps:List Bytes)(hps:∀p,p∈ps->p.length<=100000)(hn:ps.length<=100)(hp:o.aR.length<=100000){p:Nat}{M:aK}(hM:nth M p=some (mX f t o)):aL (aq fO) 173 [.ptr p 0,fL ps] M =
  some (if (eB t o.aR).2==0&&wG l ps 0 then iV 180 else .tuple [],M):=by
 refine kWk (f:=f) (t:=t) (o:=o) (vs:=[fL ps]) hM (aI ?_) rfl rfl (by split<;>rfl) (fun _=>rfl) (fun _=>by split<;>rfl)
 have q1:=VB t o.aR ht.small ht.jB hp;generalize eB t o.aR=v at q1 ⊢;simp only[Yt,ML,mX,jg,q1,EW,seval];cases he:v.2 != 0
 rotate_left
 ·have he2:(v.2==0)=false:=by simpa using he
  simp only[ML,he2,cd,af,aw,EW,seval]
 have he2:(v.2==0)=true:=by simpa using he
 simp only[ML,he2,bP,EW,seval];refine pj (xs:=ps) (by omega) (wG l) (fun n i=>[(0,.ptr 0 0),(6,.int .i64 n),(27,fL ps),(28,.int .i64 ps.length),(29,.int .i64 i)]) (fun _=>[mX f t o]) (fun b=>some (if b then iV 180 else .tuple [],[mX f t o])) (fun n=>?_) (fun pre x post n h hx cr hw h0 hm hi=>?_) 0
 ·have q2:=fun M=>Ur (n==0) 180 rfl M
  simp only[wG,mX,jg] at *;cases hn0:n==0<;>simp only[hn0,bne,cU,fS,af,aE,aw,iV] at q2 ⊢ <;> simp only[ML,bf,hn0,q2,iV,EW,seval]
 ·have q3:=aa5 x (hps x hm);obtain⟨r,hr,q4⟩:=alw l hl.many hl.On x (hps x hm);have i1:=hi (mG (n+(kB l x:Nat)));rw[<-hr] at i1;simp only[wG,<-hr];simp only[mX,jg,hf,mG] at i1 ⊢;cases h3:(fy x).2.2 != 0
  ·simp only[ML,cr,hx,hw,h0,q3,q4,h3,aH,af,aw,EW,seval];exact i1
  ·simp only[ML,cr,hx,hw,h0,q3,h3,aE,af,aw,EW,seval]
theorem c97(ho:BI o):x6 97 f t o (rM t o):=by
 unfold x6;have hp:o.aR.length<=100000:=by have:=ho.aR; omega
 have hto:o.rp.length<=100000:=by have:=ho.rp; omega
 refine⟨.slice .c0 [],.inr ⟨rfl,?_⟩,?_,aI ?_⟩
 ·unfold rM; (try simp only[]); split<;>rfl
 ·unfold rM; (try simp only[]); split<;>rfl
 unfold rM
 try simp only[]
 have q1:=fun {M}=>k90 f ht o o.aR hp (p:=0) (M:=M)
 generalize eB t o.aR=v at q1 ⊢;have q1:=@q1;generalize bD t.ae v.1=n at q1 ⊢
 try simp only[mX,jg,iH,aU,bc] at q1
 try simp only[mX,jg,iH,aU,bc] at q1
 cases h0:v.2 != 0
 ·simp only[aaR,E97,mX,jg,iH,mV,aU,q1,q1,h0,zg,an,af,aE,aw,EW,seval]
 ·simp only[aaR,E97,mX,jg,iH,mV,aU,q1,q1,h0,iV,zg,an,af,aE,aw,EW,seval]
theorem c98(ho:BI o):x6 98 f t o (rP t o):=by
 unfold x6;have hp:o.aR.length<=100000:=by have:=ho.aR; omega
 have hto:o.rp.length<=100000:=by have:=ho.rp; omega
 refine⟨.slice .c0 [],.inr ⟨rfl,?_⟩,?_,aI ?_⟩
 ·unfold rP; (try simp only[]); split<;>rfl
 ·unfold rP; (try simp only[]); split<;>rfl
 unfold rP
 try simp only[]
 have q1:=fun {M}=>k90 f ht o o.aR hp (p:=0) (M:=M)
 generalize eB t o.aR=v at q1 ⊢;have q1:=@q1;generalize bD t.ae v.1=n at q1 ⊢
 try simp only[mX,jg,iH,aU,bc] at q1
 try simp only[mX,jg,iH,aU,bc] at q1
 cases h0:v.2 != 0
 ·simp only[aaS,E98,mX,jg,iH,mV,aU,q1,q1,h0,zg,T7,an,af,aE,aw,EW,seval]
 ·simp only[aaS,E98,mX,jg,iH,mV,aU,q1,q1,h0,iV,zg,T7,an,af,aE,aw,EW,seval]
theorem ajj(ho:BI o):x6 100 f t o (uF t o):=by
 unfold x6;have hp:o.aR.length<=100000:=by have:=ho.aR; omega
 have hto:o.rp.length<=100000:=by have:=ho.rp; omega
 refine⟨.slice .c0 [],.inr ⟨rfl,?_⟩,?_,aI ?_⟩
 ·unfold uF; (try simp only[]); split<;>(try split)<;>rfl
 ·unfold uF; (try simp only[]); split<;>(try split)<;>rfl
 unfold uF
 try simp only[]
 have hl:=vg t o.aR hp;have q1:=fun {M}=>QA f ht o o.aR hp (p:=0) (M:=M)
 have hl:=hl;generalize k6 t o.aR=v at q1 hl ⊢;have q2:=ali t ht v.1 v.2.1 o.n (by omega)
 generalize nk t v.1 v.2.1 o.n=w at q2 ⊢;have q5:=fun {u au e M}=>VC f ht o (u:=u) au e (p:=0) (M:=M)
 try simp only[mX,jg,iH,aU,bc] at q1
 try simp only[mX,jg,iH,aU,bc] at q2
 try simp only[mX,jg,iH,aU,bc] at q5
 cases h0:v.2.2 != 0
 ·cases h1:w.2.2 != 0
  ·simp only[Lw,Zz,mX,jg,iH,mV,aU,q1,q2,q5,h0,h1,zg,an,af,aE,aw,EW,seval]
  ·simp only[Lw,Zz,mX,jg,iH,mV,aU,q1,q2,q5,h0,h1,iV,zg,an,af,aE,aw,EW,seval]
 ·simp only[Lw,Zz,mX,jg,iH,mV,aU,q1,q2,q5,h0,iV,zg,an,af,aE,aw,EW,seval]
theorem ajk(ho:BI o):x6 101 f t o (tL t o):=by
 unfold x6;have hp:o.aR.length<=100000:=by have:=ho.aR; omega
 have hto:o.rp.length<=100000:=by have:=ho.rp; omega
 refine⟨.slice .c0 [],.inr ⟨rfl,?_⟩,?_,aI ?_⟩
 ·unfold tL; (try simp only[]); split<;>(try split)<;>(try split)<;>rfl
 ·unfold tL; (try simp only[]); split<;>(try split)<;>(try split)<;>rfl
 unfold tL
 try simp only[]
 have q1:=fun {M}=>k90 f ht o o.aR hp (p:=0) (M:=M)
 generalize eB t o.aR=v at q1 ⊢;have q1:=@q1;generalize bD t.ae v.1=n at q1 ⊢;have hl:=vg t o.rp hto;have q2:=fun {M}=>QA f ht o o.rp hto (p:=0) (M:=M)
 have hl:=hl;generalize k6 t o.rp=s at q2 hl ⊢;have q3:=alj t ht n.au s.1 s.2.1 (by omega)
 generalize BC t n.au s.1 s.2.1=w at q3 ⊢;have q5:=fun {u au e M}=>VC f ht o (u:=u) au e (p:=0) (M:=M)
 try simp only[mX,jg,iH,aU,bc] at q1
 try simp only[mX,jg,iH,aU,bc] at q1
 try simp only[mX,jg,iH,aU,bc] at q2
 try simp only[mX,jg,iH,aU,bc] at q3
 try simp only[mX,jg,iH,aU,bc] at q5
 cases h0:v.2 != 0
 ·cases h1:s.2.2 != 0
  ·cases h2:w.2 != 0
   ·simp only[Hu,Ut,mX,jg,iH,mV,aU,q1,q1,q2,q3,q5,h0,h1,h2,zg,an,af,aE,aw,EW,seval]
   ·simp only[Hu,Ut,mX,jg,iH,mV,aU,q1,q1,q2,q3,q5,h0,h1,h2,iV,zg,an,af,aE,aw,EW,seval]
  ·simp only[Hu,Ut,mX,jg,iH,mV,aU,q1,q1,q2,q3,q5,h0,h1,iV,zg,an,af,aE,aw,EW,seval]
 ·simp only[Hu,Ut,mX,jg,iH,mV,aU,q1,q1,q2,q3,q5,h0,iV,zg,an,af,aE,aw,EW,seval]
theorem ajl(ho:BI o)(hl:jS f.pieces)(hk:o.kind=4):x6 102 f t o (if ub f.pieces t o then (t,mV,180) else nF t o):=by
 unfold x6;have hp:o.aR.length<=100000:=by have:=ho.aR; omega
 have hto:o.rp.length<=100000:=by have:=ho.rp; omega
 refine⟨.slice .c0 [],.inr ⟨rfl,?_⟩,?_,aI ?_⟩
 ·unfold nF; (try simp only[]); split<;>(try split)<;>(try split)<;>rfl
 ·unfold nF; (try simp only[]); split<;>(try split)<;>(try split)<;>rfl
 unfold nF
 try simp only[]
 have q0:=fun {M}=>ag0 f ht o hl rfl [o.aR] (by simp[hp,hto]) (by simp) hp (p:=0) (M:=M)
 simp only[ajf hl t hk] at q0
 try simp only[fL,aV,bo] at q0
 have hl1:=vg t o.aR hp;have q2:=fun {M}=>QA f ht o o.aR hp (p:=0) (M:=M)
 have hl1:=hl1;generalize k6 t o.aR=s at q2 hl1 ⊢;have q3:=alk t ht s.1 s.2.1 (by omega)
 generalize vF t s.1 s.2.1=w at q3 ⊢;have q5:=fun {u au e M}=>VC f ht o (u:=u) au e (p:=0) (M:=M)
 try simp only[mX,jg,iH,aU,bc] at q0
 try simp only[mX,jg,iH,aU,bc] at q2
 try simp only[mX,jg,iH,aU,bc] at q3
 try simp only[mX,jg,iH,aU,bc] at q5
 cases h0:ub f.pieces t o
 ·cases h1:s.2.2 != 0
  ·cases h2:w.2.2 != 0
   ·simp only[Hv,Uu,mX,jg,iH,mV,aU,q0,q2,q3,q5,h0,h1,h2,zg,an,af,aE,aw,EW,seval]
   ·simp only[Hv,Uu,mX,jg,iH,mV,aU,q0,q2,q3,q5,h0,h1,h2,iV,zg,an,af,aE,aw,EW,seval]
  ·simp only[Hv,Uu,mX,jg,iH,mV,aU,q0,q2,q3,q5,h0,h1,iV,zg,an,af,aE,aw,EW,seval]
 ·simp only[Hv,Uu,mX,jg,iH,mV,aU,q0,q2,q3,q5,h0,iV,zg,an,af,aE,aw,EW,seval]
theorem ajm(ho:BI o)(hl:jS f.pieces)(hk:o.kind=5):x6 103 f t o (if ub f.pieces t o then (t,mV,180) else lI t o):=by
 unfold x6;have hp:o.aR.length<=100000:=by have:=ho.aR; omega
 have hto:o.rp.length<=100000:=by have:=ho.rp; omega
 refine⟨.slice .c0 [],.inr ⟨rfl,?_⟩,?_,aI ?_⟩
 ·unfold lI; (try simp only[]); split<;>(try split)<;>(try split)<;>(try split)<;>rfl
 ·unfold lI; (try simp only[]); split<;>(try split)<;>(try split)<;>(try split)<;>rfl
 unfold lI
 try simp only[]
 have q0:=fun {M}=>ag0 f ht o hl rfl [o.aR,o.rp] (by simp[hp,hto]) (by simp) hp (p:=0) (M:=M)
 simp only[ajg hl t hk] at q0
 try simp only[fL,aV,bo] at q0
 have hl1:=vg t o.aR hp;have q1:=fun {M}=>QA f ht o o.aR hp (p:=0) (M:=M)
 have hl1:=hl1;generalize k6 t o.aR=s at q1 hl1 ⊢;have hl2:=vg t o.rp hto;have q2:=fun {M}=>QA f ht o o.rp hto (p:=0) (M:=M)
 have hl2:=hl2;generalize k6 t o.rp=u at q2 hl2 ⊢;have q3:=alP t ht s.1 s.2.1 (by omega)
 generalize dR t.ae s.1 s.2.1=l at q3 ⊢;have q4:=alm t ht s.1 s.2.1 u.1 u.2.1 (by omega) (by omega)
 generalize wa t s.1 s.2.1 u.1 u.2.1=w at q4 ⊢;have q5:=fun {u au e M}=>VC f ht o (u:=u) au e (p:=0) (M:=M)
 try simp only[mX,jg,iH,aU,bc] at q0
 try simp only[mX,jg,iH,aU,bc] at q1
 try simp only[mX,jg,iH,aU,bc] at q2
 try simp only[mX,jg,iH,aU,bc] at q3
 try simp only[mX,jg,iH,aU,bc] at q4
 try simp only[mX,jg,iH,aU,bc] at q5
 cases h0:ub f.pieces t o
 ·cases h1:s.2.2 != 0
  ·cases h2:u.2.2 != 0
   ·cases h3:w.2.2 != 0
    ·simp only[Ea,OX,mX,jg,iH,mV,aU,q0,q1,q2,q3,q4,q5,h0,h1,h2,h3,zg,an,af,aE,aw,EW,seval]
    ·simp only[Ea,OX,mX,jg,iH,mV,aU,q0,q1,q2,q3,q4,q5,h0,h1,h2,h3,iV,zg,an,af,aE,aw,EW,seval]
   ·simp only[Ea,OX,mX,jg,iH,mV,aU,q0,q1,q2,q3,q4,q5,h0,h1,h2,iV,zg,an,af,aE,aw,EW,seval]
  ·simp only[Ea,OX,mX,jg,iH,mV,aU,q0,q1,q2,q3,q4,q5,h0,h1,iV,zg,an,af,aE,aw,EW,seval]
 ·simp only[Ea,OX,mX,jg,iH,mV,aU,q0,q1,q2,q3,q4,q5,h0,iV,zg,an,af,aE,aw,EW,seval]
end
end
section
variable {t:Tree} {cf:Int->Nat}
attribute [local irreducible] fP fi kD gK dp kr aq aL ct bI
def WD{au:Int}{i:Int}{T N:cA}{d:Node}{k:List K}{r:Option (ag×aK)}(hd:d.aM.length<=1000)(P0:ag)(ns0:List Bytes)(h0:Row P0 (ns0.map ag.str))(hn:ns0.length<=1000)
  (hT:∀B M,cA.back B M T=T) (hN:∀B M,cA.back B M N=N)
  (hx:∀P z,Row P ((d.aM.foldl (lH au) ns0).map ag.str)->kr (aq cY) [.tmp 4] 0 k ⟨.exit 2,(1,.int .i64 au)::(2,.ptr 0 0)::(5,P)::(6,.int .i64 i)::(7,.ptr 1 0)::z,[T,N,.cells (aU d)]⟩=r) :
  fP (aq cY) [.tmp 4] 0 k (.loop [1,2,5,6,7,9,11] acC) [(1,.int .i64 au),(2,.ptr 0 0),(5,P0),(6,.int .i64 i),(7,.ptr 1 0),(9,.ptr 2 0),(11,.int .i64 0)] [T,N,.cells (aU d)]=r:=by
 refine gA (xs:=d.aM) (by omega) (fun j (s:ag×List Bytes)=>Row s.1 (s.2.map ag.str)/\s.2.length<=ns0.length+j/\(d.aM.drop j).foldl (lH au) s.2=d.aM.foldl (lH au) ns0) (fun _ (_:ag×List Bytes)=>()) (fun s j=>[(1,.int .i64 au),(2,.ptr 0 0),(5,s.1),(6,.int .i64 i),(7,.ptr 1 0),(9,.ptr 2 0),(11,.int .i64 j)])
  (fun _=>[T,N,.cells (aU d)]) (fun _=>r) (fun s hs=>?_) (fun pre x post s hh hz cr hw hz0 hm hs hi=>?_) (P0,ns0) ⟨h0,ar _,rfl⟩
 ·obtain⟨hs1,hs2,hs3⟩:=hs;rw[gH] at hs3;have hs3:s.2=d.aM.foldl (lH au) ns0:=hs3;rw[hs3] at hs1;simp only[aU] at hx;simp only[Jj,aU,aH,bf,EW,seval];exact hx _ _ hs1
 ·obtain⟨P,ns⟩:=s;obtain⟨hs1,hs2,hs3⟩:=hs;simp only at hs1 hs2 hs3;have hd1:d.aM.drop pre.length=x::post:=by rw[hh]; simp
  have hd2:d.aM.drop (pre.length+1)=post:=by rw[hh]; simp
  have hpl:pre.length<d.aM.length:=by have:=congrArg List.length hh; simp at this; omega
  rw[hd1,bA] at hs3;have r1:dL (1+ns.length) 16=True:=xN;have r0:dL 1 16=True:=xN;have hwd:wid (ns.map ag.str) 1=True:=mB ag.str 1 (fun _=>rfl) ns
  simp only[aU] at hi ⊢;cases hc:x.au==au
  ·have e:lH au ns x=ns:=by unfold lH; rw[hc]; rfl
   rw[e] at hs3;have i1:=hi (P,ns) ⟨hs1,by simp only; omega,by rw[hd2]; exact hs3⟩
   rcases hs1 with rfl|⟨rfl,_⟩ <;>
   simp only[Jj,eo,aH,cr,hz,hw,hz0,hc,hT,hN,EW,seval]<;>exact i1
  ·have e:lH au ns x=x.name::ns:=by unfold lH; rw[hc]; rfl
   rw[e] at hs3;have i1:=hi (.slice .sh ((x.name::ns).map ag.str),x.name::ns) ⟨.inl rfl,by simp; omega,by rw[hd2]; exact hs3⟩
   simp only[aV] at i1;rcases hs1 with rfl|⟨rfl,hn0⟩
   ·simp only[Jj,eo,aH,cr,hz,hw,hz0,hc,hT,hN,r1,hwd,EW,seval];exact i1
   ·rw[hn0] at i1;simp only[Jj,eo,aH,cr,hz,hw,hz0,hc,hT,hN,r0,EW,seval];exact i1
def WE(h:cn t cf 0){k:List K}{r:Option (ag×aK)}{Lf:List Bytes}
  (hx:∀P z1 z2,Row P (Lf.map ag.str)->kr (aq cY) [.tmp 4] 0 k ⟨.exit 0,(1,z1)::(2,.ptr 0 0)::(5,P)::z2,[.cells (bc t)]⟩=r) :
  ∀(m i:Nat)(L:List Bytes)(au:Int)(ns:List Bytes)(n:Node)(P:ag),i+m=t.ae.length->Way t.ae 1 L au->find t.ae au=some n->n.kind=2->L.length<=m->L++ns=Lf->Lf.length<=12->Row P (ns.map ag.str) ->
   fP (aq cY) [.tmp 4] 0 k (.loop [1,2,5,6] acD) [(1,.int .i64 au),(2,.ptr 0 0),(5,P),(6,.int .i64 i)] [.cells (bc t)]=r:=by
 intro m;have hnl:=h.ae;induction m with
 |zero =>
  intro i L au ns n P hi hw hf hk hL hLf h12 hP;have:L=[]:=cm (by omega)
  subst this;rw[aX] at hLf;subst hLf;rw[bX];have e1:((i:Int)<(t.ae.length:Int))=False:=Gp;simp only[bc] at hx ⊢;rcases hP with rfl|⟨rfl,hn⟩
  ·simp only[Jj,bc,aH,e1,EW,seval];exact hx _ _ _ (.inl rfl)
  ·simp only[Jj,bc,aH,e1,EW,seval];exact hx _ _ _ (.inr ⟨rfl,hn⟩)
 |succ m ih =>
  intro i L au ns n P hi hw hf hk hL hLf h12 hP;rw[bX];have e1:((i:Int)<(t.ae.length:Int))=True:=Az
  by_cases h1:au=1
  ·have e2:(au != 1)=false:=by simp[h1]
   obtain⟨rr,hr,hrk,_⟩:=h.root;subst h1;have:L=[]:=h.BX L.length rfl hw (L':=[]) rfl hr hrk;subst this;rw[aX] at hLf;subst hLf;simp only[bc] at hx ⊢;rcases hP with rfl|⟨rfl,hn⟩
   ·simp only[Jj,bc,aH,e1,an,EW,seval];exact hx _ _ _ (.inl rfl)
   ·simp only[Jj,bc,aH,e1,an,EW,seval];exact hx _ _ _ (.inr ⟨rfl,hn⟩)
  ·have e2:(au != 1)=true:=by simpa using h1
   rcases eF L with rfl|⟨Q,x,rfl⟩
   ·exact absurd hw.symm h1
   rw[eZ] at *;obtain⟨p,hp,d,e,hd,hdk,hxn,he,hee⟩:=ir.1 hw;rw[Way] at hee;obtain⟨he1,he2⟩:=eu he;obtain⟨m',hm',hu,_⟩:=h.step hd he;rw[hee,hf] at hm'; cases hm';have hup:n.up=p:=(hu hk).1;have hn:bD t.ae au=n:=by simp[bD,hf]
   have hd':bD t.ae p=d:=by simp[bD,hd]
   have hc:mW d.aM au<=1:=by
    have q1:=wz (n:=d) au (cg hd).1;have q2:=h.one _ _ hf hk h1;have q3:=h.dj _ _ hf;have q4:=(h.num _ _ hf).1;rw[q2,ak (by omega)] at q3
    omega
   have hfold:d.aM.foldl (lH au) ns=x::ns:=by rw[Df au d.aM ns e he1 hee hc,he2]
   have q1:=F8 t.ae t.next t.ai au (by omega)
   have q2:=F8 t.ae t.next t.ai p (by omega)
   have hnn:(find t.ae au).getD Node.zero=n:=hn;have hdd:(find t.ae p).getD Node.zero=d:=hd';have hw1:IntKind.i64.wrap ((i:Int)+1)=((i+1:Nat):Int):=by rw[gx (by omega) (by omega)]; omega
   have hde:=(h.xJ _ _ hd).2;have hnsl:ns.length<=12:=by rw[<-hLf] at h12; simp at h12; omega
   rw[hnn] at q1;rw[hdd] at q2;have hlen':Q.length<=m:=by simp at hL; omega
   have hLf':Q++(x::ns)=Lf:=by rw[<-hLf]; simp
   have ihn:=fun P' hP'=>ih (i+1) Q p (x::ns) d P' (by omega) hp hd hdk hlen' hLf' h12 hP'
   have la:=fun {k r} P0 h0 hx=>WD (au:=au) (i:=(i:Int)) (T := .cells [aZ t.ae,.int .i64 t.next,.int .i64 t.ai]) (N := .cells (aU n)) (d:=d) (k:=k) (r:=r) (by omega) P0 ns h0 (by omega) (fun _ _=>rfl) (fun _ _=>rfl) hx
   rw[hfold] at la;subst hup;simp only[bc,ck,aU] at q1 q2 la ihn ⊢;rcases hP with rfl|⟨rfl,hn0⟩
   ·simp only[Jj,aH,e1,e2,q1,q2,EW,seval];refine la _ (.inl rfl) (fun P' z hP'=>?_)
    have i1:=ihn P' hP';rcases hP' with rfl|⟨rfl,hP0⟩
    ·simp only[Jj,hw1,EW,seval];exact i1
    ·cases hP0
   ·simp only[Jj,aH,e1,e2,q1,q2,EW,seval];refine la _ (.inr ⟨rfl,hn0⟩) (fun P' z hP'=>?_)
    have i1:=ihn P' hP';rcases hP' with rfl|⟨rfl,hP0⟩
    ·simp only[Jj,hw1,EW,seval];exact i1
    ·cases hP0
def k40(h:cn t cf 0){L:List Bytes}{au:Int}{n:Node}(hw:Way t.ae 1 L au)(hi:find t.ae au=some n)(hk:n.kind=2)(M:aK):aL (aq cY) 40 [.agg [aZ t.ae,.int .i64 t.next,.int .i64 t.ai],.int .i64 au] M=some (.str (jP L),M):=by
 refine cO (aI ?_) M
 have hl:L.length<=t.ae.length:=by
  obtain⟨r,hr,hrk,_⟩:=h.root;have e:=h.td hw hr hrk hi hk;have:=h.yh hi hk;rw[h.y9] at e; omega
 have h12:=h.pJ hw;have hnm:=kO hw;have q:=k88 L (by omega) (fun x hx=>rO (hnm x hx))
 rw[CR] at q;have hl:=fun {k r} hx=>WE h (k:=k) (r:=r) (Lf:=L) hx t.ae.length 0 L au [] n (.slice .c0 []) (by omega) hw hi hk hl (by simp) h12 (.inr ⟨rfl,rfl⟩)
 simp only[bc,ga] at hl;simp only[aaF,Jj,EW,seval];refine hl (fun P z1 z2 hP=>?_)
 rcases hP with rfl|⟨rfl,hn⟩
 ·simp only[Jj,q,EW,seval]
 ·have:L=[]:=by simpa using hn
  subst this;simp only[fL,bo] at q;simp only[Jj,q,EW,seval]
end
def Mv{α:Type}{A B:List α}{j:Nat}{a:α}(hl:A.length=B.length)(ha:A[j]?=some a):(A.take j++B.drop j).set j a=A.take (j+1)++B.drop (j+1):=by
 have hj:=(aC.1 ha).1;have hB:B.drop j=B[j]'(by omega)::B.drop (j+1):=cB (by omega)
 have hA:A.take (j+1)=A.take j++[a]:=by rw[dz,ha]; rfl
 rw[hA,hB,List.set_append_right _ _ (by rw[gb]; omega),gb,Nat.min_eq_left (by omega),Nat.sub_self,List.set_cons_zero,cZ]
 rfl
def Vs{α:Type}{A B:List α}{j:Nat}(hl:A.length=B.length)(hj:j<A.length):(A.take j++B.drop j)[j]?=B[j]?:=by
 rw[bq (by simp[Nat.le_of_lt hj])]
 simp[Nat.min_eq_left (Nat.le_of_lt hj)]
def zu(ds:List Int)(b:Nat)(c d:Int):jZ (ds.map mj) b (putCells (mj c) 0 [.int .i64 d])=(ds.set b d).map mj:=by
 have:putCells (mj c) 0 [.int .i64 d]=mj d:=rfl;rw[this,fN,kR]
def pg(c:Int):(mj c).cells=[.int .i64 c]:=rfl
def Ao(own:Int)(e:ew)(ae:List Node)(out:List Int)(h:out.length=ae.length):(p6 own e ae out).length=ae.length:=by simp[p6,h]
section
variable {t:Tree} {cf:Int->Nat} {l:List Piece}
attribute [local irreducible] fP fi kD gK dp kr aq aL ct bI
def SO(hn:t.ae.length<=1000){v7 v9 v11:ag}{d:Node}{k:List K}{r:Option (ag×aK)}{e:ew}{own:Int}{j0:Nat}(he:d.aM[j0]?=some e)(out0:List Int)(ho:out0.length=t.ae.length)
  (h7:∀B M,ag.nS B M v7=v7)
  (hx:∀z,kr (aq cY) [.tmp 4] 0 k ⟨.exit 6,(0,bH l)::(3,.ptr 0 0)::(5,.dg 1 0 1 0 t.ae.length)::(7,v7)::(8,.ptr 2 0)::(9,.int .i64 own)::(11,.int .i64 j0)::z,[.cells (bc t),.arr 1 0 ((p6 own e t.ae out0).map mj),.cells (aU d)]⟩=r) :
  fP (aq cY) [.tmp 4] 0 k (.loop [0,3,5,7,8,9,11,12] V0) [(0,bH l),(3,.ptr 0 0),(5,.dg 1 0 1 0 t.ae.length),(7,v7),(8,.ptr 2 0),(9,.int .i64 own),(11,.int .i64 j0),(12,.int .i64 0)] [.cells (bc t),.arr 1 0 (out0.map mj),.cells (aU d)]=r:=by
 have hml:=Ao own e t.ae out0 ho
 refine gA (xs:=t.ae) (by omega) (fun j (out:List Int)=>out=(p6 own e t.ae out0).take j++out0.drop j) (fun _ (_:List Int)=>()) (fun _ j=>[(0,bH l),(3,.ptr 0 0),(5,.dg 1 0 1 0 t.ae.length),(7,v7),(8,.ptr 2 0),(9,.int .i64 own),(11,.int .i64 j0),(12,.int .i64 j)])
  (fun out=>[.cells (bc t),.arr 1 0 (out.map mj),.cells (aU d)]) (fun _=>r) (fun out hs=>?_) (fun pre x post out hh hz cr hw hz0 hm hs hi=>?_) out0 rfl
 ·have hs2:out=p6 own e t.ae out0:=by rw[hs,<-hml,cQ,hml,<-ho,gH,bV]
  subst hs2;simp only[bc,aU] at hx ⊢;simp only[xI,aH,bf,EW,seval];exact hx _
 ·have hpl:pre.length<t.ae.length:=by have:=congrArg List.length hh; simp at this; omega
  have hb0:=aj (show pre.length<out0.length by omega)
  have hget:out[pre.length]?=some out0[pre.length]:=by rw[hs,Vs (by omega) (by omega),hb0]
  have hmk:(p6 own e t.ae out0)[pre.length]?=some (if x.au != e.au||x.kind != 1 then out0[pre.length] else vH own out0[pre.length]):=by
   unfold p6;rw[List.getElem?_zipWith,hz,hb0]
  have hset:=fun a ha=>Mv (A:=p6 own e t.ae out0) (B:=out0) (j:=pre.length) (a:=a) (by omega) ha
  rw[<-hs] at hset;have hj0:((j0:Int)<0)=False:=by simp
  generalize out0[pre.length]=o at *;have hlt2:((pre.length:Int)<(t.ae.length:Int))=True:=cr;cases hc:(x.au != e.au||x.kind != 1)
  ·rw[hc] at hmk;simp only[jj] at hc;obtain⟨hc1,hc2⟩:=hc;have i1:=hi (out.set pre.length (vH own o)) (hset _ hmk);unfold vH at i1;cases hu:o == -1
   ·cases hv:o != own
    ·rw[hu,hv] at i1
     have hsame:out.set pre.length o=out:=by
      have:=aC.1 hget;rw[<-this.2]; exact List.set_getElem_self this.1
     simp only[af,aw,hsame] at i1;simp only[bc,aU] at i1 ⊢;simp only[xI,aH,cr,hz,hw,hz0,he,hj0,hc1,hc2,hget,hu,hv,aU,eo,h7,bg,bU,aP,fz,pg,EW,seval];exact i1
    ·rw[hu,hv] at i1;simp only[af,aw,aE] at i1;simp only[bc,aU] at i1 ⊢;simp only[xI,aH,cr,hz,hw,hz0,he,hj0,hc1,hc2,hget,hu,hv,aU,eo,h7,bg,bU,aP,fz,zu,pg,EW,seval]
     trace_state
     exact i1
   ·rw[hu] at i1;simp only[aE] at i1;simp only[bc,aU] at i1 ⊢;simp only[xI,aH,cr,hz,hw,hz0,he,hj0,hc1,hc2,hget,hu,aU,eo,h7,bg,bU,aP,fz,zu,pg,EW,seval];exact i1
  ·rw[hc] at hmk;simp only[aE] at hmk
   have i1:=hi out (by
    have:=hset _ hmk;rw[<-this];have h2:=aC.1 hget;rw[<-h2.2]; exact(List.set_getElem_self h2.1).symm)
   simp only[bc,aU] at i1 ⊢;cases hc1:x.au != e.au
   ·rw[hc1,da] at hc;simp only[xI,aH,cr,hz,hw,hz0,he,hj0,hc1,hc,aU,eo,h7,bg,EW,seval];exact i1
   ·simp only[xI,aH,cr,hz,hw,hz0,he,hj0,hc1,aU,eo,h7,bg,EW,seval];exact i1
end
def EE(own:Int)(ae:List Node):∀(es:List ew)(out:List Int),out.length=ae.length->(es.foldl (fun o e=>p6 own e ae o) out).length=ae.length
 | [],out,h=>h
 |e::es,out,h=>by rw[bA]; exact EE own ae es _ (Ao own e ae out h)
section
variable {t:Tree} {cf:Int->Nat} {l:List Piece}
attribute [local irreducible] fP fi kD gK dp kr aq aL ct bI
def SP(hn:t.ae.length<=1000){i7:Int}{d:Node}{k:List K}{r:Option (ag×aK)}{own:Int}(hd:d.aM.length<=1000)(out0:List Int)(ho:out0.length=t.ae.length)
  (hx:∀z,kr (aq cY) [.tmp 4] 0 k ⟨.exit 4,(0,bH l)::(3,.ptr 0 0)::(5,.dg 1 0 1 0 t.ae.length)::(7,.int .i64 i7)::(8,.ptr 2 0)::(9,.int .i64 own)::z,[.cells (bc t),.arr 1 0 ((d.aM.foldl (fun o e=>p6 own e t.ae o) out0).map mj),.cells (aU d)]⟩=r) :
  fP (aq cY) [.tmp 4] 0 k (.loop [0,3,5,7,8,9,11] V1) [(0,bH l),(3,.ptr 0 0),(5,.dg 1 0 1 0 t.ae.length),(7,.int .i64 i7),(8,.ptr 2 0),(9,.int .i64 own),(11,.int .i64 0)] [.cells (bc t),.arr 1 0 (out0.map mj),.cells (aU d)]=r:=by
 refine gA (xs:=d.aM) (by omega) (fun j (out:List Int)=>out.length=t.ae.length/\(d.aM.drop j).foldl (fun o e=>p6 own e t.ae o) out=d.aM.foldl (fun o e=>p6 own e t.ae o) out0) (fun _ (_:List Int)=>()) (fun _ j=>[(0,bH l),(3,.ptr 0 0),(5,.dg 1 0 1 0 t.ae.length),(7,.int .i64 i7),(8,.ptr 2 0),(9,.int .i64 own),(11,.int .i64 j)])
  (fun out=>[.cells (bc t),.arr 1 0 (out.map mj),.cells (aU d)]) (fun _=>r) (fun out hs=>?_) (fun pre x post out hh hz cr hw hz0 hm hs hi=>?_) out0 ⟨ho,rfl⟩
 ·rw[gH] at hs;have hs2:out=d.aM.foldl (fun o e=>p6 own e t.ae o) out0:=hs.2
  subst hs2;simp only[bc,aU] at hx ⊢;simp only[xI,aH,bf,EW,seval];exact hx _
 ·have hd1:d.aM.drop pre.length=x::post:=by rw[hh]; simp
  have hd2:d.aM.drop (pre.length+1)=post:=by rw[hh]; simp
  rw[hd1,bA] at hs;have la:=fun {k r} hx=>SO (t:=t) (l:=l) hn (v7 := .int .i64 i7) (v9 := .any) (v11 := .any) (d:=d) (k:=k) (r:=r) (e:=x) (own:=own) (j0:=pre.length) hz out hs.1 (fun _ _=>rfl) hx
  have i1:=hi (p6 own x t.ae out) ⟨Ao own x t.ae out hs.1,by rw[hd2]; exact hs.2⟩
  simp only[bc,aU] at la i1 ⊢;simp only[xI,aH,cr,hz0,EW,seval];refine la (fun z=>?_)
  simp only[xI,hw,EW,seval];exact i1
def agZ(h:cn t cf 0)(hl:jS l)(M:aK):aL (aq cY) 148 [bH l,.agg [aZ t.ae,.int .i64 t.next,.int .i64 t.ai]] M=some (lM (r8 l t.ae),M):=by
 refine cO (aI ?_) M;have hn:=h.ae;have hm:=hl.many
 obtain⟨r0,rest0,hr0,_⟩:∃r rest,t.ae=r::rest/\True:=by
  obtain⟨r,hr,_⟩:=h.root;have:=(cg hr).1;cases hnn:t.ae with
  |nil=>rw[hnn] at this; cases this
  |cons a b=>exact⟨a,b,rfl,trivial⟩
 have hpos:0<t.ae.length:=by rw[hr0]; simp
 have r1:dL t.ae.length 8=True:=xN;have hrep:List.replicate t.ae.length (ag.agg [.int .i64 0]).norm=(List.replicate t.ae.length (0:Int)).map mj:=by rw[List.map_replicate]; rfl
 simp only[P7,xI,aH,r1,hrep,EW,seval]
 refine cW (gA (xs:=t.ae) (by omega) (fun i (out:List Int)=>out=(t.ae.map fun _=>(-1:Int)).take i++(List.replicate t.ae.length (0:Int)).drop i) (fun _ (_:List Int)=>()) (fun _ i=>[(0,bH l),(3,.ptr 0 0),(5,.dg 1 0 1 0 t.ae.length),(6,.int .i64 i)])
  (fun out=>[.cells [aZ t.ae,.int .i64 t.next,.int .i64 t.ai],.arr 1 0 (out.map mj)]) (fun _=>some (lM (r8 l t.ae),[])) (fun out hs=>?_) (fun pre x post out hh hz cr hw hz0 hm hs hi=>?_) _ rfl) rfl
 ·have hs2:out=t.ae.map fun _=>(-1:Int):=by
   rw[hs,cj (by simp),List.drop_of_length_le (by simp),bV]
  subst hs2;simp only[xI,aH,bf,EW,seval]
  refine cW (gA (xs:=t.ae) (by omega) (fun i (S:Nat×List Int)=>S.1=i/\S.2.length=t.ae.length/\(t.ae.drop i).foldl (pF l t.ae) S=t.ae.foldl (pF l t.ae) (0,t.ae.map fun _ => -1)) (fun _ (_:Nat×List Int)=>()) (fun S i=>[(0,bH l),(3,.ptr 0 0),(5,.dg 1 0 1 0 t.ae.length),(7,.int .i64 i)])
   (fun S=>[.cells [aZ t.ae,.int .i64 t.next,.int .i64 t.ai],.arr 1 0 (S.2.map mj)]) (fun _=>some (lM (r8 l t.ae),[])) (fun S hs=>?_) (fun pre x post S hh hz cr hw hz0 hmx hs hi=>?_) (0,t.ae.map fun _=>(-1:Int)) ⟨rfl,by simp,rfl⟩) rfl
  ·obtain⟨i,out⟩:=S;obtain⟨_,hs2,hs3⟩:=hs;rw[gH] at hs3;have hs4:out=r8 l t.ae:=congrArg Prod.snd hs3;simp only at hs2;have hT:List.take t.ae.length (out.map mj)=out.map mj:=cj (by simp[hs2])
   simp only[xI,aH,bf,hT,EW,seval];rw[hs4]
  ·obtain⟨i,out⟩:=S;obtain⟨hs1,hs2,hs3⟩:=hs;simp only at hs1 hs2;subst hs1;have hd1:t.ae.drop pre.length=x::post:=by rw[hh]; simp
   have hd2:t.ae.drop (pre.length+1)=post:=by rw[hh]; simp
   rw[hd1,bA] at hs3;have hlt2:pre.length<t.ae.length:=by have:=congrArg List.length hh; simp at this; omega
   cases hk:x.kind != 2
   ·have hk2:x.kind=2:=by simpa using hk
    have hfx:=(ft h.jB.ju).2 ⟨hmx,rfl⟩;obtain⟨L,hw1,_⟩:=h.DA _ x.au x hfx hk2 rfl;have hnames:=kO hw1;have h12:=h.pJ hw1;have q1:=k40 h hw1 hfx hk2;have hsp:(bw (jP L)).2=0:=by rw[kb hnames h12]
    have q2:=k25 hl (jP L) (by rw[<-ra]; have:=uU L hnames h12; omega)
    unfold GF at q2;rw[az hsp] at q2
    have hown:vC l t.ae x=((df l (jP L):Nat):Int):=by
     unfold vC;rw[Iy h hw1 hfx hk2,KB hl hsp]
    have hst:pF l t.ae (pre.length,out) x=(pre.length+1,x.aM.foldl (fun o e=>p6 (vC l t.ae x) e t.ae o) (out.set pre.length (vC l t.ae x))):=by
     unfold pF; rw[hk]; rfl
    rw[hst,hown] at hs3;generalize ((df l (jP L):Nat):Int)=own at *;have hx0:=aj (show pre.length<out.length by omega)
    have hent:=(h.xJ _ _ hfx).2;have hset:(out.set pre.length own).length=t.ae.length:=by simp[hs2]
    have lb:=fun {k r} hx=>SP (t:=t) (l:=l) (by omega) (i7:=(pre.length:Int)) (d:=x) (k:=k) (r:=r) (own:=own) (by omega) (out.set pre.length own) hset hx
    have i1:=hi (pre.length+1,x.aM.foldl (fun o e=>p6 own e t.ae o) (out.set pre.length own)) ⟨rfl,EE _ _ _ _ hset,by rw[hd2]; exact hs3⟩
    generalize x.aM.foldl (fun o e=>p6 own e t.ae o) (out.set pre.length own)=out' at lb i1
    simp only[bc,aU] at lb i1 ⊢;simp only[xI,aH,cr,hz,hw,hz0,hk,hx0,q1,q2,aU,bU,aP,fz,bg,zu,pg,EW,seval];refine lb (fun z=>?_)
    simp only[xI,hw,EW,seval];exact i1
   ·have hst:pF l t.ae (pre.length,out) x=(pre.length+1,out):=by unfold pF; rw[hk]; rfl
    rw[hst] at hs3;have i1:=hi (pre.length+1,out) ⟨rfl,hs2,by rw[hd2]; exact hs3⟩
    simp only[xI,aH,cr,hz,hw,hz0,hk,aU,EW,seval];exact i1
 ·have hset:=Mv (A:=t.ae.map fun _=>(-1:Int)) (B:=List.replicate t.ae.length (0:Int)) (j:=pre.length) (a := -1) (by simp) (by rw[aY,hz]; rfl)
  rw[<-hs] at hset;have i1:=hi _ hset
  have hol:out.length=t.ae.length:=by
   have hlt2:pre.length<t.ae.length:=by have:=congrArg List.length hh; simp at this; omega
   rw[hs]; simp; omega
  have hlt2:pre.length<t.ae.length:=by have:=congrArg List.length hh; simp at this; omega
  have hx0:=aj (show pre.length<out.length by omega)
  simp only[xI,aH,cr,hw,hx0,bU,aP,fz,bg,zu,pg,EW,seval];exact i1
def k81(h:cn t cf 0)(hl:jS l)(M:aK):aL (aq cY) 81 [bH l,.agg [aZ t.ae,.int .i64 t.next,.int .i64 t.ai]] M=some (.bool (SZ l t),M):=by
 refine cO (aI ?_) M;have hn:=h.ae;have hm:=hl.many;have q1:=agZ h hl;have hpl:(r8 l t.ae).length=t.ae.length:=by rw[AA h]; simp
 unfold SZ;generalize r8 l t.ae=ps at q1 hpl ⊢;simp only[agC,Xx,EW,seval]
 refine pj (xs:=l) (by omega) (fun post (_:Unit)=>(post.all fun p=>(sq t.ae p.aR).2==0&&(bD t.ae (sq t.ae p.aR).1).kind==2)&&ps.all fun p => !decide (p<0)) (fun _ i=>[(0,bH l),(3,.ptr 0 0),(5,.int .i64 i)])
  (fun _=>[.cells [aZ t.ae,.int .i64 t.next,.int .i64 t.ai]]) (fun b=>some (ag.bool b,([]:aK))) (fun _=>?_) (fun pre x post _ hh hx cr hw hz0 hmx hi=>?_) ()
 ·simp only[Xx,aH,bf,q1,List.all_nil,bP,EW,seval];refine pj (xs:=ps) (by omega) (fun post (_:Unit)=>post.all fun p => !decide (p<0)) (fun _ i=>[(10,lM ps),(11,.int .i64 i)]) (fun _=>[.cells [aZ t.ae,.int .i64 t.next,.int .i64 t.ai]]) (fun b=>some (ag.bool b,([]:aK))) (fun _=>?_) (fun pre x post _ hh hx cr hw hz0 hmx hi=>?_) ()
  ·simp only[Xx,aH,bf,List.all_nil,EW,seval]
  ·have i1:=hi ();rw[j6];cases hc:decide (x<0)
   ·simp only[fS,bP];simp only[Xx,aH,cr,hx,hw,hz0,hc,pg,EW,seval];exact i1
   ·simp only[Xx,aH,cr,hx,hw,hz0,hc,pg,cU,cd,EW,seval]
 ·have i1:=hi ();rw[j6];have q2:=k24 t.ae t.next t.ai x.aR h.sz.KV (hl.On x hmx)
  have q3:∀M,aL (aq cY) 26 [.agg [aZ t.ae,.int .i64 t.next,.int .i64 t.ai],.int .i64 (sq t.ae x.aR).1] M=some (.tuple [ck (bD t.ae (sq t.ae x.aR).1),.bool (find t.ae (sq t.ae x.aR).1).isSome],M):=F8 t.ae t.next t.ai (sq t.ae x.aR).1 (by omega)
  generalize sq t.ae x.aR=v at q2 q3 ⊢;generalize bD t.ae v.1=n at q3 ⊢;simp only[ck,aU] at q3;cases hc:v.2==0
  ·have hc':(v.2 != 0)=true:=by simpa using hc
   simp only[Xx,aH,cr,hx,hw,hz0,hc',q2,q3,dQ,gr,cL,cd,EW,seval]
  ·have hc':(v.2 != 0)=false:=by simpa using hc
   cases hk:n.kind==2
   ·have hk':(n.kind != 2)=true:=by simpa using hk
    simp only[Xx,aH,cr,hx,hw,hz0,hc',hk',q2,q3,dQ,gr,cL,cd,dI,EW,seval]
   ·have hk':(n.kind != 2)=false:=by simpa using hk
    simp only[bP];simp only[Xx,aH,cr,hx,hw,hz0,hc',hk',q2,q3,dQ,gr,cL,EW,seval];exact i1
end
def Ia(w:ag->cA)(n:Node):List ew->aK
 | []=>[w (.slice .c0 []),.cells (aU n)]
 |e::es=>w (.slice (.own 3) (.str e.name::es.map fun x => .str x.name)) :: .cells (aU n) :: .cells (eo e) :: .tick 1 (es.length+1)::es.map fun x => .cells (eo x)
def MU(B:Nat)(M:aK)(es:List ew):(es.map fun x=>cA.cells (eo x)).map (cA.back B M)=es.map fun x => .cells (eo x):=by
 rw[fT];exact bW fun x _=>rfl
section
attribute [local irreducible] fP fi kD gK dp kr aq aL ct bI
def c99(f:vX){t:Tree}(ht:Rt t)(o:oS)(ho:BI o):x6 99 f t o (tM t o):=by
 unfold x6;have q1:=fun {M}=>k90 f ht o o.aR (by have:=ho.aR; omega) (p:=0) (M:=M)
 unfold tM;simp only[];generalize eB t o.aR=v at q1 ⊢;have q1:=@q1;generalize bD t.ae v.1=n at q1 ⊢;have q2:=alh t ht n.au o.n o.m;have hl:=Am ht n.au o.n o.m;generalize pZ t n.au o.n o.m=l at q2 hl ⊢;simp only[mX,jg,aU] at q1;cases h0:v.2 != 0
 rotate_left
 ·refine⟨.slice .c0 [],.inr ⟨rfl,rfl⟩,rfl,aI ?_⟩;simp only[Qk,ZQ,mX,jg,iH,mV,aU,q1,h0,iV,an,af,aE,aw,EW,seval]
 cases h1:l.2.2 != 0
 rotate_left
 ·refine⟨.slice .c0 [],.inr ⟨rfl,rfl⟩,rfl,aI ?_⟩;simp only[Qk,ZQ,mX,jg,iH,mV,aU,q1,q2,zg,h0,h1,iV,an,af,aE,aw,EW,seval]
 refine⟨if l.1=[] then .slice .c0 [] else fL (l.1.map ew.name),?_,rfl,aI ?_⟩
 ·by_cases he:l.1=[]
  ·rw[az he]; exact .inr ⟨rfl,by simp[he]⟩
  ·rw[ak he]; exact .inl rfl
 simp only[Qk,ZQ,mX,jg,iH,aU,q1,q2,zg,h0,h1,an,af,aE,aw,EW,seval]
 refine cW (Lu (xs:=l.1) (by omega) (fun i (done:List ew)=>done=l.1.take i) (fun _ (_:List ew)=>()) (fun _ i=>[(0,.ptr 0 0),(43,ib l.1),(44,.int .i64 l.1.length),(45,.int .i64 i)])
  (fun done=>Ia (iH f t o ⟨0,0,0,l.2.1,0,[],[]⟩) n done) (fun _=>some (.tuple [],[iH f t o ⟨0,0,0,l.2.1,0,l.1.map ew.name,[]⟩ (if l.1=[] then .slice .c0 [] else fL (l.1.map ew.name))])) (fun done hd=>?_) (fun pre x post done hh hx cr hw hz hm hd hi=>?_) [] (by simp)) rfl
 ·rw[cQ] at hd;subst hd;cases he:l.1 with
  |nil =>
   simp only[ZQ,Ia,iH,bf,EW,seval]
  |cons e es =>
   have e2:(List.map ew.name es).map ag.str=es.map fun x => .str x.name:=by rw[fT]; rfl
   simp only[ZQ,Ia,iH,fL,aV,e2,bf,reduceCtorEq,aw,EW,seval]
 ·have i1:=hi (l.1.take (pre.length+1)) rfl;have h1:l.1.take (pre.length+1)=pre++[x]:=by rw[hh,show pre++x::post=(pre++[x])++post by simp]; exact List.take_left' (by simp)
  have h2:l.1.take pre.length=pre:=by rw[hh]; simp
  rw[h2] at hd;rw[h1] at i1;have hd:=hd.symm;subst hd;have eU:pre.length+1<=100000:=by have:=congrArg List.length hh; simp at this; omega
  cases pre with
  |nil =>
   simp only[aG,ga] at cr hx hw hz;simp only[aX,Ia,bo,aG,ga,aP,iH,eo] at i1 ⊢;have r0:dL 1 16=True:=xN;simp only[ZQ,cr,hx,hw,hz,r0,eo,EW,seval];exact i1
  |cons e es =>
   have r1:dL (es.length+1+1) 16=True:=r9 (by simp at eU; omega) (by omega)
   simp only[aW,Ia,bB,aV,bo,aJ,av,aG,aP,iH] at i1 ⊢;simp only[av] at cr hx hw hz;have hZb:=fun B M=>MU B M es
   have hZl:(es.map fun x=>cA.cells (eo x)).length=es.length:=by simp
   generalize (es.map fun x=>cA.cells (eo x))=Z at i1 hZb hZl ⊢
   have n0:∀b Y,nth (Z++b::Y) Z.length=some b:=fun b Y=>by rw[eJ]; simp
   have s0:∀b c Y,jZ (Z++b::Y) Z.length c=Z++c::Y:=fun b c Y=>by rw[fN]; simp
   have bkZ:∀B M b,List.map (cA.back B M) (Z++[b])=Z++[cA.back B M b]:=fun B M b=>by rw[bB,hZb]; rfl
   have tkZ:∀b:cA,List.take (Z.length+1) (Z++[b])=Z++[b]:=fun b=>cj (by simp)
   have lt0:∀n,(0<n+1+1+1+1)=True:=fun n=>by simp
   have lt3:∀n,(3<n+1+1+1+1)=True:=fun n=>by simp
   have hwd:wid (ag.str e.name::es.map fun x=>ag.str x.name) 1=True:=mB (fun x:ew=>ag.str x.name) 1 (fun _=>rfl) (e::es)
   simp only[eo] at i1 ⊢;simp only[ZQ,cr,hx,hw,hz,r1,hwd,eo,n0,s0,bkZ,tkZ,lt0,lt3,aH,aW,EW,seval];exact i1
end
inductive RB
 |nd (n:Node)
 |tk (k:Nat)
def vO:RB->cA
 | .nd n => .cells (aU n)
 | .tk k => .tick 6 k
abbrev LM:=AM (Nat×List Node)
def Nj(p:Nat×List Node):ag := .slice (.own p.1) (p.2.map ck)
structure Lts(b:Nat)(s:LM×List RB):Prop where
 at':∀g id l,dq s.1 g=some (id,l)->∃i,id=b+i/\s.2[i]?=some (RB.tk l.length)
 ne:∀g g' id l l',dq s.1 g=some (id,l)->dq s.1 g'=some (id,l')->g=g'
def nT(b:Nat)(k:Node->Int)(s:LM×List RB)(n:Node):LM×List RB :=
 match dq s.1 (k n) with
 |none=>(kl s.1 (k n) (b+(s.2.length+1),[n]),s.2++[RB.nd n,RB.tk 1])
 |some (id,l)=>(kl s.1 (k n) (id,l++[n]),(s.2++[RB.nd n]).set (id-b) (RB.tk (l.length+1)))
def Sy{b:Nat}{k:Node->Int}{s:LM×List RB}(h:Lts b s)(n:Node):Lts b (nT b k s n):=by
 obtain⟨m,r⟩:=s;unfold nT;cases hg:dq m (k n) with
 |none =>
  simp only[hg]
  have hfar:∀g id l,dq m g=some (id,l)->id≠b+(r.length+1):=fun g id l hm e=>by
   obtain⟨i,h1,h2⟩:=h.at' g id l hm;have:=(aC.1 h2).1;simp only at this;omega
  refine⟨fun g id l hm=>?_,fun g g' id l l' hm hm'=>?_⟩
  ·simp only[fX] at hm;split at hm
   ·injection hm with hm; injection hm with h1 h2; subst h1; subst h2
    exact⟨r.length+1,rfl,by simp⟩
   ·obtain⟨i,h1,h2⟩:=h.at' g id l hm;refine⟨i,h1,?_⟩;have:=(aC.1 h2).1;simp only at this h2 ⊢;rw[bj this]; exact h2
  ·simp only[fX] at hm hm';split at hm<;>split at hm'
   ·rename_i a b; rw[a,b]
   ·injection hm with hm; injection hm with h1 h2; subst h1
    exact absurd rfl (hfar _ _ _ hm')
   ·injection hm' with hm'; injection hm' with h1 h2; subst h1
    exact absurd rfl (hfar _ _ _ hm)
   ·exact h.ne _ _ _ _ _ hm hm'
 |some p =>
  obtain⟨id0,l0⟩:=p;simp only[hg];obtain⟨i0,e0,a0⟩:=h.at' _ _ _ hg;have hi0:=(aC.1 a0).1;simp only at hi0 a0;have hsub:id0-b=i0:=by omega
  refine⟨fun g id l hm=>?_,fun g g' id l l' hm hm'=>?_⟩
  ·simp only[fX] at hm;split at hm
   ·injection hm with hm; injection hm with h1 h2; subst h1; subst h2
    refine⟨i0,e0,?_⟩;simp only[hsub];rw[er (by simp; omega)]; simp
   ·rename_i hne;obtain⟨i,h1,h2⟩:=h.at' g id l hm;have hi:=(aC.1 h2).1;simp only at hi h2;refine⟨i,h1,?_⟩;have:i≠i0:=fun e=>hne (h.ne _ _ id l l0 hm (by rw[hg,e0,h1,e]))
    simp only[hsub];rw[fu (by omega),bj hi]; exact h2
  ·simp only[fX] at hm hm';split at hm<;>split at hm'
   ·rename_i a b; rw[a,b]
   ·rename_i a b;injection hm with hm; injection hm with h1 h2; subst h1
    rw[a]; exact h.ne _ _ _ _ _ hg hm'
   ·rename_i a b;injection hm' with hm'; injection hm' with h1 h2; subst h1
    rw[b]; exact h.ne _ _ _ _ _ hm hg
   ·exact h.ne _ _ _ _ _ hm hm'
def EA(b:Nat)(k:Node->Int)(g:Int):∀(ae:List Node)(s:LM×List RB),(((dq (ae.foldl (nT b k) s).1 g).map Prod.snd).getD [])=((dq s.1 g).map Prod.snd).getD []++ae.filter fun n=>k n==g
 | [],s=>by simp
 |n::r,s=>by
  rw[bA,EA b k g r,hV]
  have:((dq (nT b k s n).1 g).map Prod.snd).getD []=((dq s.1 g).map Prod.snd).getD []++(if k n==g then [n] else []):=by
   unfold nT;cases hg:dq s.1 (k n) with
   |none =>
    simp only[fX]
    by_cases h:g=k n
    ·subst h; simp[hg]
    ·rw[ak h,ak (by simpa using fun e=>h e.symm)]; simp
   |some p =>
    obtain⟨id,l⟩:=p;simp only[fX]
    by_cases h:g=k n
    ·subst h; simp[hg]
    ·rw[ak h,ak (by simpa using fun e=>h e.symm)]; simp
  rw[this];split<;>simp
def SQ(b:Nat)(k:Node->Int)(g:Int)(ae:List Node):(((dq (ae.foldl (nT b k) ([],[])).1 g).map Prod.snd).getD [])=ae.filter fun n=>k n==g:=by
 rw[EA]; simp[dq]
def Cu(B:Nat)(M:aK)(r:List RB):(r.map vO).map (cA.back B M)=r.map vO:=by
 rw[fT];refine bW fun x _=>?_
 cases x<;>rfl
def Gh{α:Type}:∀ {m:AM α} {k:Int} {v:α} {p:Int×α},p∈kl m k v->p=(k,v)\/p∈m
 | [],k,v,p,h=>by simp[kl] at h; exact .inl h
 |(k',v')::m,k,v,p,h=>by
  simp only[kl] at h;split at h
  ·rcases bb.1 h with rfl|h
   ·exact .inl rfl
   ·exact .inr (aO _ h)
  ·rcases bb.1 h with rfl|h
   ·exact .inr aD
   ·exact(Gh h).imp id (aO _)
def aan{m:LM}{B:Nat}(h:∀p,p∈m->p.2.1<B)(M:aK):List.map (ag.jN B M) (qP Nj m)=qP Nj m:=by
 unfold qP;rw[fT];refine bW fun p hp=>?_
 show ag.jN B M (Nj p.2)=Nj p.2
 simp only[Nj,ag.jN,ag.jz,ag.jm,h p hp,aE]
def UI(s:LM×List RB):Prop:=∀p,p∈s.1->p.2.1<3+s.2.length
def NT{k:Node->Int}{s:LM×List RB}(hL:Lts 3 s)(h:UI s)(n:Node):UI (nT 3 k s n):=by
 obtain⟨m,r⟩:=s;unfold nT;cases hg:dq m (k n) with
 |none =>
  simp only[hg];intro p hp;rcases Gh hp with rfl|hp
  ·simp
  ·have:=h p hp; simp only[aJ,av,aG] at this ⊢; omega
 |some q =>
  obtain⟨id0,l0⟩:=q;simp only[hg];intro p hp;rcases Gh hp with rfl|hp
  ·obtain⟨i,h1,h2⟩:=hL.at' _ _ _ hg;have:=(aC.1 h2).1;simp only at this;simp; omega
  ·have:=h p hp; simp only[aJ,av,aG,ec] at this ⊢; omega
def Ki{b:Nat}{k:Node->Int}{s:LM×List RB}{i:Nat}(h:∀g id r,dq s.1 g=some (id,r)->r.length<=i)(n:Node):∀g id r,dq (nT b k s n).1 g=some (id,r)->r.length<=i+1:=by
 obtain⟨m,R⟩:=s;unfold nT;intro g id r;cases hg:dq m (k n) with
 |none =>
  simp only[fX];split
  ·intro e; injection e with e; injection e with e1 e2; subst e2; simp
  ·intro e; have:=h g id r e; omega
 |some q =>
  obtain⟨id0,l0⟩:=q;simp only[fX];split
  ·intro e; injection e with e; injection e with e1 e2; subst e2
   have:=h _ _ _ hg; simp; omega
  ·intro e; have:=h g id r e; omega
def Vc(m:SM):List ag:=m.map fun p => .str p.1
def D4(m:SM):List ag:=m.map fun p => .int .i64 p.2
def C3:∀(m:SM)(k:Bytes),uz .s (.str k) (Vc m) (D4 m)=some ((xO m k).map (ag.int .i64))
 | [],k=>rfl
 |(k',v)::m,k=>by
  show bI (ig .s (.str k) (.str k')) (fun b=>zk b (some (some (.int .i64 v))) (uz .s (.str k) (Vc m) (D4 m)))=_
  rw[C3 m k];simp only[ig,↓reduceIte,bZ,xO]
  by_cases h:k=k'
  ·rw[az h,show(k==k')=true by simpa using h,uZ]; rfl
  ·rw[ak h,show(k==k')=false by simpa using h,nA]
def Ij:∀(m:SM)(k:Bytes)(v:Int),sH .s (.str k) (.int .i64 v) (Vc m) (D4 m)=some (Vc (Gx m k v),D4 (Gx m k v))
 | [],k,v=>by
  show bI (ig .s (.str k) (.str k)) (fun _=>some ([ag.str k],[ag.int .i64 v]))=_
  simp only[ig,↓reduceIte,bZ];rfl
 |(k',v')::m,k,v=>by
  show bI (ig .s (.str k) (.str k')) (fun b=>zk b (some (ag.str k::Vc m,ag.int .i64 v::D4 m)) (bI (sH .s (.str k) (.int .i64 v) (Vc m) (D4 m)) fun x=>some (ag.str k'::x.1,ag.int .i64 v'::x.2)))=_
  rw[Ij m k v];simp only[ig,↓reduceIte,bZ,Gx]
  by_cases h:k=k'
  ·rw[az h,show(k==k')=true by simpa using h,uZ]; rfl
  ·rw[ak h,show(k==k')=false by simpa using h,nA]; rfl
def Bl(o:Option Int):mr (.int .i64 0) false (o.map (ag.int .i64)) = .int .i64 (o.getD 0):=by cases o<;>rfl
def SG(o:Option Int):mr (.int .i64 0) true (o.map (ag.int .i64)) = .tuple [.int .i64 (o.getD 0),.bool o.isSome]:=by cases o<;>rfl
def SI(a:Int):mr (.int .i64 0) true (some (.int .i64 a)) = .tuple [.int .i64 a,.bool true]:=rfl
def SH:mr (.int .i64 0) true none = .tuple [.int .i64 0,.bool false]:=rfl
def pV:ag := .func 105 [.ptr 0 0,.ptr 1 0,.ptr 2 0,.ptr 3 0,.ptr 4 0,.ptr 5 0]
def gj(t:Tree)(m:SM)(s:Hm):aK:=[.cells (bc t),.cells [.gD 6],.cells [.bool s.whole],.cells [.gD 7],.cells [.int .i64 s.met],.cells [pV],.map (wA s.jK) (qP (ag.int .i64) s.jK),.map (Vc m) (D4 m)]
def flI(l:AM Int):(qP (ag.int .i64) l).all ag.flat=true:=P1 _ (fun _=>rfl) l
def rnI(ρ:Nat->Nat)(l:AM Int):(qP (ag.int .i64) l).map (ag.rn ρ)=qP (ag.int .i64) l:=Zu _ _ (fun _=>rfl) l
def idI(l:AM Int):(qP (ag.int .i64) l).flatMap ag.ids=[]:=Y3 _ (fun _=>rfl) l
def bkI(B:Nat)(M:aK)(l:AM Int):List.map (ag.jN B M) (qP (ag.int .i64) l)=qP (ag.int .i64) l:=aao _ _ _ (fun _=>rfl) l
def flS(m:SM):(D4 m).all ag.flat=true:=bu.2 fun x hx=>by
 obtain⟨p,_,rfl⟩:=bR.1 hx;rfl
def rnS(ρ:Nat->Nat)(m:SM):(D4 m).map (ag.rn ρ)=D4 m:=by
 unfold D4; rw[fT]; exact bW fun p _=>rfl
def idS(m:SM):(D4 m).flatMap ag.ids=[]:=by
 unfold D4; rw[List.flatMap_map]; exact jE.2 fun p _=>rfl
def bkS(B:Nat)(M:aK)(m:SM):List.map (ag.jN B M) (D4 m)=D4 m:=by
 unfold D4; rw[fT]; exact bW fun p _=>rfl
def E1(t:Tree)(m:SM)(s:Hm):(gj t m s).map (cA.rn (iC [0,1,2,3,4,5,6,7]))=gj t m s/\(gj t m s).map (cA.rn (xg [0,1,2,3,4,5,6,7]))=gj t m s:=by
 constructor <;>
 ·simp only[gj,aV,bo,cA.rn,rnI,rnS]; rfl
def ahU(t:Tree)(m:SM)(s:Hm)(L:aK):ke (gj t m s++L) (iC [0,1,2,3,4,5,6,7]) [0,1,2,3,4,5,6,7]=some (gj t m s):=by
 have h:=(E1 t m s).1;simp only[gj,aV,bo] at h;injection h with h0 h; injection h with h1 h; injection h with h2 h; injection h with h3 h; injection h with h4 h; injection h with h5 h; injection h with h6 h; injection h with h7 h
 simp only[gj,aW,aX,ke,nth,h0,h1,h2,h3,h4,h5,h6,h7];simp only[cA.flat,flI,flS,aE];rfl
def akT(t:Tree)(m:SM)(s:Hm)(L:aK):sL (gj t m s++L) [0,1,2,3,4,5]=[6,7,0,1,2,3,4,5]/\sL (gj t m s++L) [0,1,2,3,4,5,6,7]=[6,7,0,1,2,3,4,5]:=by
 refine⟨rfl,?_⟩
 show[6,7,0,1,2,3,4,5]++((qP (ag.int .i64) s.jK).flatMap ag.ids++((D4 m).flatMap ag.ids++[]))=_
 rw[idI,idS]; rfl
def TU(t:Tree)(m:SM)(s:Hm)(L:aK):reach (gj t m s++L) [0,1,2,3,4,5]=[0,1,2,3,4,5,6,7]/\lR (gj t m s++L) [0,1,2,3,4,5,6,7]=[0,1,2,3,4,5,6,7]:=by
 obtain⟨h1,h2⟩:=akT t m s L;have e0:lP [] [0,1,2,3,4,5]=[0,1,2,3,4,5]:=rfl;have e1:lP [0,1,2,3,4,5] [6,7,0,1,2,3,4,5]=[0,1,2,3,4,5,6,7]:=rfl;have e2:lP [0,1,2,3,4,5,6,7] [6,7,0,1,2,3,4,5]=[0,1,2,3,4,5,6,7]:=rfl;simp only[reach,lR,e0,h1,e1,h2,e2,ky]
def adz(t:Tree)(m:SM)(s s':Hm)(L:aK):mw [0,1,2,3,4,5,6,7] (gj t m s++L) [0,1,2,3,4,5,6,7] (gj t m s')=gj t m s'++L:=by
 have h:=(E1 t m s').2;simp only[gj,aV,bo] at h;injection h with h0 h; injection h with h1 h; injection h with h2 h; injection h with h3 h; injection h with h4 h; injection h with h5 h; injection h with h6 h; injection h with h7 h
 simp only[gj,aW,aX,mw,h0,h1,h2,h3,h4,h5,h6,h7,jZ]
def XQ(t:Tree)(m:SM)(s:Hm):(gj t m s).all cA.flat=true:=by
 simp only[gj,j6,cA.flat,flI,flS]; rfl
abbrev sm(au:Int)(p:ag):List ag:=[.int .i64 au,p,.ptr 0 0,.ptr 1 0,.ptr 2 0,.ptr 3 0,.ptr 4 0,.ptr 5 0]
def afF{t:Tree}{m:SM}{au:Int}{p:List Bytes}{s s':Hm}{L:aK}(h:aq cY 105 (sm au (fL p)) (gj t m s)=some (.tuple [],gj t m s')) :
  aL (aq cY) 105 (sm au (fL p)) (gj t m s++L)=some (.tuple [],gj t m s'++L) :=
 lL (ids:=[0,1,2,3,4,5,6,7]) rfl (TU t m s L).1 (ahU t m s L) (TU t m s L).2 rfl h rfl rfl (XQ t m s') rfl (adz t m s s' L)
section
attribute [local irreducible] fP fi kD gK dp kr aq aL ct bI
def Pv(p:List Bytes)(hp:p.length<=100)(M:aK):AD (aq cY) 107 [fL p] M=some (.slice (.own M.length) (p.map ag.str),M++[.tick 1 p.length]):=by
 have hc:aq cY 107 [fL p] []=some (.slice (.own 0) (p.map ag.str),[.tick 1 p.length]):=by
  refine gy (g:=xA 1 16) rfl ?_;have hw:wid (p.map ag.str) 1:=by have:=mB ag.str 1 (fun _=>rfl) p; simpa using this
  unfold xA;simp only[];rw[fY ⟨hw,by have:=r9 (a:=p.length) (b:=16) (by omega) (by omega); simpa using this⟩]
  simp
 unfold AD; rw[az ⟨rfl,rfl⟩,hc,bZ]; rfl
def Wf{t:Tree}{n:Node}{f:Nat}{m:SM}{au:Int}{aR:List Bytes}{k:List K}{R:Hm->Option (ag×aK)}(ht:Small t)(hr:we t)(hn:n.aM.length<=100000)
  (hj:∀e,e∈n.aM->(∀x,x∈aR++[e.name]->dB x=true)/\(aR++[e.name]).length<=12)
  (ih:∀e,e∈n.aM->((bD t.ae e.au).kind==1)=false->∀s,aq cY 105 (sm e.au (fL (aR++[e.name]))) (gj t m s)=some (.tuple [],gj t m (lD t.ae m f e.au (aR++[e.name]) s)))
  (hx:∀s e,kr (aq cY) [] 8 k ⟨.exit 0,e,gj t m s++[.cells (aU n)]⟩=R s) :
  ∀(l pre:List ew)(s:Hm),n.aM=pre++l->fP (aq cY) [] 8 k (.loop [0,1,2,3,4,5,6,7,28,29,30] VM) [(0,.int .i64 au),(1,fL aR),(2,.ptr 0 0),(3,.ptr 1 0),(4,.ptr 2 0),(5,.ptr 3 0),(6,.ptr 4 0),(7,.ptr 5 0),(28,ib n.aM),(29,.int .i64 n.aM.length),(30,.int .i64 pre.length)] (gj t m s++[.cells (aU n)]) =
   R (l.foldl (oC (lD t.ae m f) t.ae m au aR) s):=by
 intro l;induction l with
 |nil =>
  intro pre s h;rw[bX];simp only[gj,MH,ot h,gN,EW,seval] at hx ⊢;exact hx _ _
 |cons x rest ihl =>
  intro pre s h;rw[bX];have eU:pre.length+1<=100000:=by rw[h] at hn; simp at hn; omega
  have hw:=GD pre x;rw[bA];have hxm:x∈n.aM:=by rw[h]; simp
  have hi1:=fun s=>ihl (pre++[x]) s (by rw[h]; simp)
  have q1:=Vx t x.au ht hr;obtain⟨hj1,hj2⟩:=hj x hxm
  have hd:oC (lD t.ae m f) t.ae m au aR s x=(if (bD t.ae x.au).kind==1 then ⟨kl s.jK x.au ((dq s.jK au).getD 0),s.met,s.whole&&(!((dq s.jK x.au).isSome)||(dq s.jK x.au).getD 0==(dq s.jK au).getD 0)⟩
   else match xO m (pq (aR++[x.name])) with
    |none=>lD t.ae m f x.au (aR++[x.name]) ⟨kl s.jK x.au ((dq s.jK au).getD 0),s.met,s.whole⟩
    |some a=>lD t.ae m f x.au (aR++[x.name]) ⟨kl (kl s.jK x.au ((dq s.jK au).getD 0)) x.au a,mG (s.met+1),s.whole⟩):=rfl
  rw[hd];generalize hF:oC (lD t.ae m f) t.ae m au aR=F at hi1 ⊢;cases hk:(bD t.ae x.au).kind==1
  ·have q2:=fun s=>afF (L:=[.cells (aU n),.cells (eo x),.cells (aU (bD t.ae x.au)),.tick 1 (aR.length+1)]) (ih x hxm hk s)
   have q3:=k65 (aR++[x.name]) hj1 hj2;have q4:=Pv aR (by simp at hj2; omega)
   have r1:dL (aR.length+1) 16=True:=r9 (by simp at hj2; omega) (by omega)
   simp only[af,aw];cases hs:xO m (pq (aR++[x.name])) with
   |none =>
    have q2:=q2 ⟨kl s.jK x.au ((dq s.jK au).getD 0),s.met,s.whole⟩;generalize lD t.ae m f x.au (aR++[x.name]) ⟨kl s.jK x.au ((dq s.jK au).getD 0),s.met,s.whole⟩=s' at q2 ⊢;have hi1:=hi1 s';simp only[gj,pV,bc,aU,eo,sm,fL,aJ,av,aG,aP,aW,aX,bB,aV,bo] at hi1 q1 q2 q3 q4;simp only[gj,pV,bc,aU,eo,mM h,jf h,MH,mu,tN,C3,Bl,SG,SI,SH,cz,lA,mapOf.eq_1,q1,hk,q4,r1,q3,hs,q2,hw,b0T,bkI,bkS,iW,af,aw,EW,seval];exact hi1
   |some a =>
    have q2:=q2 ⟨kl (kl s.jK x.au ((dq s.jK au).getD 0)) x.au a,mG (s.met+1),s.whole⟩;simp only[mG] at q2 ⊢;generalize lD t.ae m f x.au (aR++[x.name]) ⟨kl (kl s.jK x.au ((dq s.jK au).getD 0)) x.au a,IntKind.i64.wrap (s.met+1),s.whole⟩=s' at q2 ⊢;have hi1:=hi1 s';simp only[gj,pV,bc,aU,eo,sm,fL,aJ,av,aG,aP,aW,aX,bB,aV,bo] at hi1 q1 q2 q3 q4;simp only[gj,pV,bc,aU,eo,mM h,jf h,MH,mu,tN,C3,Bl,SG,SI,SH,cz,lA,mapOf.eq_1,q1,hk,q4,r1,q3,hs,q2,hw,b0T,bkI,bkS,c9,bz,af,aw,EW,seval];exact hi1
  ·have hi1:=hi1 ⟨kl s.jK x.au ((dq s.jK au).getD 0),s.met,s.whole&&(!((dq s.jK x.au).isSome)||(dq s.jK x.au).getD 0==(dq s.jK au).getD 0)⟩
   simp only[gj,pV,bc,aU,eo,sm,fL,aJ,av,aG,aP,aW,aX,bB,aV,bo] at hi1 q1
   cases hwh:s.whole<;>cases his:(dq s.jK x.au).isSome<;>simp only[hwh,his,cd,bP,fS,cU,dH,da] at hi1 ⊢ <;>
    simp only[gj,pV,bc,aU,eo,mM h,jf h,MH,mu,tN,Bl,SG,mapOf.eq_1,q1,hk,hwh,his,hw,b0T,bkI,bkS,aE,af,aw,EW,seval]<;>exact hi1
def ajo{t:Tree}{cf:Int->Nat}(h:cn t cf 0)(m:SM):∀(f:Nat)(au:Int)(aR:List Bytes)(s:Hm)(d:Node),find t.ae au=some d->d.kind=2->Way t.ae 1 aR au->13<f+cf au ->
  aq cY 105 (sm au (fL aR)) (gj t m s)=some (.tuple [],gj t m (lD t.ae m f au aR s)):=by
 intro f;induction f with
 |zero =>
  intro au aR s d hd hk _ hf;have:=(h.deep _ _ hd hk).1;omega
 |succ f ih =>
  intro au aR s d hd hk hw hf;have q1:=Vx t au h.sz.KV h.jB;have hn:bD t.ae au=d:=by simp[bD,hd]
  have hl:=Wf (t:=t) (n:=d) (f:=f) (m:=m) (au:=au) (aR:=aR) (k:=[.block 0]) (R:=fun s=>some (.tuple [],gj t m s)) h.sz.KV h.jB (by have:=(h.xJ _ _ hd).2; omega) ?_ ?_ (fun s e=>by simp only[gj,pV,MH,aU,b0T,bkI,bkS,EW,seval]) d.aM [] s rfl
  ·refine aI ?_;rw[lD,hn];rw[hn] at q1;simp only[gj,pV,aU,aW,aX,aG,ga] at hl q1;simp only[P2,MH,gj,pV,bc,aU,q1,EW,seval];exact hl
  ·intro e he;obtain⟨_,_,e1,hnm,m',hm',hu⟩:=h.wB _ _ _ hd he;have wayE:Way t.ae 1 (aR++[e.name]) e.au:=ir.2 ⟨au,hw,d,e,hd,hk,hnm,(ny (h.jB.aM _ (cg hd).1)).2 ⟨he,rfl⟩,rfl⟩;exact⟨kO wayE,h.pJ wayE⟩
  ·intro e he hek s;obtain⟨_,_,e1,hnm,m',hm',hu⟩:=h.wB _ _ _ hd he;have wayE:Way t.ae 1 (aR++[e.name]) e.au:=ir.2 ⟨au,hw,d,e,hd,hk,hnm,(ny (h.jB.aM _ (cg hd).1)).2 ⟨he,rfl⟩,rfl⟩;have hmn:bD t.ae e.au=m':=by simp[bD,hm']
   rw[hmn] at hek;have hmk:m'.kind=2:=(h.kind _ _ hm').resolve_left (by simpa using hek)
   have hdep:=(h.sy _ _ hm' hmk e1).1;rw[hu hmk] at hdep;exact ih e.au (aR++[e.name]) s m' hm' hmk wayE (by omega)
end
def LJ:ag := .func 105 [.ptr 0 0,.ptr 2 0,.ptr 6 0,.ptr 4 0,.ptr 5 0,.ptr 7 0]
def uv(t:Tree)(m:SM)(s:Hm):aK:=[.cells (bc t),.map (wA s.jK) (qP (ag.int .i64) s.jK),.cells [.gD 1],.map (Vc m) (D4 m),.cells [.gD 3],.cells [.int .i64 s.met],.cells [.bool s.whole],.cells [LJ]]
def aap{t:Tree}{m:SM}{au:Int}{s s':Hm}(h:aq cY 105 (sm au (fL [])) (gj t m s)=some (.tuple [],gj t m s')) :
  aL (aq cY) 105 [.int .i64 au,.slice .sh [],.ptr 0 0,.ptr 2 0,.ptr 6 0,.ptr 4 0,.ptr 5 0,.ptr 7 0] (uv t m s)=some (.tuple [],uv t m s'):=by
 have i1:sL (uv t m s) [0,2,6,4,5,7]=[1,3,0,2,6,4,5,7]:=rfl
 have i2:sL (uv t m s) [0,2,6,4,5,7,1,3]=[1,3,0,2,6,4,5,7]:=by
  show[1,3,0,2,6,4,5,7]++((qP (ag.int .i64) s.jK).flatMap ag.ids++((D4 m).flatMap ag.ids++[]))=_
  rw[idI,idS]; rfl
 have e0:lP [] [0,2,6,4,5,7]=[0,2,6,4,5,7]:=rfl;have e1:lP [0,2,6,4,5,7] [1,3,0,2,6,4,5,7]=[0,2,6,4,5,7,1,3]:=rfl;have e2:lP [0,2,6,4,5,7,1,3] [1,3,0,2,6,4,5,7]=[0,2,6,4,5,7,1,3]:=rfl
 have hr:reach (uv t m s) [0,2,6,4,5,7]=[0,2,6,4,5,7,1,3]/\lR (uv t m s) [0,2,6,4,5,7,1,3]=[0,2,6,4,5,7,1,3]:=by
  simp only[reach,lR,e0,i1,e1,i2,e2,ky]
 have hp:ke (uv t m s) (iC [0,2,6,4,5,7,1,3]) [0,2,6,4,5,7,1,3]=some (gj t m s):=by
  simp only[uv,ke,nth,cA.flat,flI,flS,bZ,aE,cA.rn,rnI,rnS];rfl
 refine lL (ids:=[0,2,6,4,5,7,1,3]) rfl hr.1 hp hr.2 rfl h rfl rfl (XQ t m s') rfl ?_;simp only[gj,uv,mw,cA.rn,rnI,rnS,jZ];rfl
def plI(l:AM Int):(qP (ag.int .i64) l).all ag.plain=true:=bu.2 fun x hx=>by
 obtain⟨p,_,rfl⟩:=bR.1 hx;rfl
def pkI(l:AM Int):(wA l).all ag.plainCell=true:=bu.2 fun x hx=>by
 obtain⟨p,_,rfl⟩:=bR.1 hx;rfl
section
variable {t:Tree} {cf:Int->Nat} {l:List Piece}
attribute [local irreducible] fP fi kD gK dp kr aq aL ct bI
def c49(h:cn t cf 0)(hl:jS l):aq cY 49 [bH l,bJ t] []=some (.tuple [.iB (wA (kV l t.ae).1) (qP (ag.int .i64) (kV l t.ae).1),.bool (kV l t.ae).2],[]):=by
 refine aI ?_;have hm:=hl.many;obtain⟨r,hr,hrk,_⟩:=h.root;have q:=aap (ajo h (lJ l) 14 1 [] ⟨[(1,0)],1,true⟩ r hr hrk rfl (by omega))
 have hS:lD t.ae (lJ l) 14 1 [] ⟨[(1,0)],1,true⟩=sF l t.ae:=rfl;rw[hS] at q;unfold kV;generalize sF l t.ae=s at q ⊢;have e0:wA [((1:Int),(0:Int))]=[.int .i64 1]:=rfl;have e1:qP (ag.int .i64) [((1:Int),(0:Int))]=[.int .i64 0]:=rfl;simp only[uv,e0,e1,LJ] at q;simp only[agj,E49,bJ,sH,ig,EW,seval]
 refine cW (gA (xs:=l) (by omega) (fun i s=>s.1=(i:Int)/\sZ (l.drop i) s.1 s.2=lJ l) (fun _ (_:Int×SM)=>()) (fun s i=>[(0,bH l),(3,.ptr 0 0),(6,.ptr 2 0),(7,.ptr 4 0),(16,bH l),(17,.int .i64 l.length),(18,.int .i64 i)])
  (fun s=>[.cells (bc t),.map [.int .i64 1] [.int .i64 0],.cells [.gD 1],.map (Vc s.2) (D4 s.2),.cells [.gD 3]])
  (fun _=>some (.tuple [.iB (wA s.jK) (qP (ag.int .i64) s.jK),.bool (s.whole&&(s.met==(l.length:Int)&&(s.jK.length:Int)==(t.ae.length:Int)))],[])) (fun s' hs=>?_) (fun pre x post s' hh hx cr hw h0 hm hI hi=>?_) (0,[]) ⟨rfl,rfl⟩) rfl
 ·obtain⟨_,hs⟩:=hs;rw[gH] at hs;have hs:s'.2=lJ l:=hs;simp only[bc] at q
  cases hwh:s.whole<;>cases hme:s.met==(l.length:Int)<;>rw[hwh] at q <;>
   simp only[E49,bf,hs,bc,q,hwh,hme,mapOf.eq_1,Vb,plI,pkI,cd,bP,eS,aE,EW,seval]
 ·obtain⟨i1,i2⟩:=hI;have hd:l.drop pre.length=x::post:=by rw[hh]; simp
  have hd2:l.drop (pre.length+1)=post:=by rw[hh]; simp
  rw[hd,sZ] at i2;have i3:=hi (s'.1+1,Gx s'.2 x.aR s'.1) ⟨by simp[i1],by simp only[hd2]; exact i2⟩
  simp only[i1] at i3;simp only[E49,cr,hx,hw,h0,Ij,dQ,gr,cL,b0T,bkS,EW,seval];exact i3
end
def HL(x:Node):List Node->List Node
 | []=>[x]
 |y::r=>if x.au<y.au then x::y::r else y::HL x r
def Bs:List Node->List Node
 | []=>[]
 |x::r=>HL x (Bs r)
def alO(n:Node):tJ 0 (ck n)=n.au:=rfl
def Em(x:Node):∀l:List Node,CP 0 (ck x) (l.map ck)=(HL x l).map ck
 | []=>rfl
 |y::r=>by
  simp only[aV,CP,HL,alO]
  by_cases h:x.au<y.au
  ·simp only[h,aE,aV]
  ·simp only[h,aw,aV,Em x r]
def Dn:∀l:List Node,rq 0 (l.map ck)=(Bs l).map ck
 | []=>rfl
 |x::r=>by simp only[aV,rq,Bs,Dn r,Em]
def Aj(x:Node):∀l,(HL x l).Perm (x::l)
 | []=>List.Perm.refl _
 |y::r=>by
  simp only[HL];split
  ·exact List.Perm.refl _
  ·exact((Aj x r).cons y).trans (List.Perm.swap x y r)
def yG:∀l,(Bs l).Perm l
 | []=>List.Perm.refl _
 |x::r=>(Aj x (Bs r)).trans ((yG r).cons x)
def HM(x:Node):∀l:List Node,nI l->(∀y,y∈l->y.au≠x.au)->nI (HL x l)
 | [],_,_=>List.pairwise_singleton _ _
 |y::r,h,hn=>by
  obtain⟨h1,h2⟩:=bF.1 h;simp only[HL];split
  ·rename_i hc;refine bF.2 ⟨fun z hz=>?_,h⟩
   rcases bb.1 hz with rfl|hz
   ·exact hc
   ·exact Int.lt_trans hc (h1 z hz)
  ·rename_i hc;have hne:=hn y aD;refine bF.2 ⟨fun z hz=>?_,HM x r h2 fun z hz=>hn z (aO _ hz)⟩
   rcases bb.1 ((Aj x r).mem_iff.1 hz) with rfl|hz
   ·show y.au<z.au; omega
   ·exact h1 z hz
def E7:∀l:List Node,(l.map Node.au).Nodup->nI (Bs l)
 | [],_=>List.Pairwise.nil
 |x::r,h=>by
  simp only[aV,gW] at h;refine HM x _ (E7 r h.2) fun y hy e=>h.1 ?_
  rw[<-e]; exact bR.2 ⟨y,(yG r).mem_iff.1 hy,rfl⟩
def T8{l ns:List Node}(h:nI ns)(hp:l.Perm ns):Bs l=ns :=
 Pk (E7 l ((hp.map Node.au).nodup_iff.2 (zI h))) h ((yG l).trans hp)
def Oo{l:List Node}{v:Nat}(hl:l.length<=1000000)(hn:(l.map Node.au).Nodup):aq cY 58 [.dg 0 v 6 0 l.length,.func 59 []] [.arr 6 v (l.map ck)]=some (.tuple [],[.arr 6 v ((Bs l).map ck)]):=by
 refine gy (g:=vU 6 0 59) rfl ?_;unfold vU;simp only[nth];have ht:(l.map ck).take l.length=l.map ck:=cj (by simp)
 have hd:(l.map ck).drop l.length=[]:=iL (by simp)
 rw[ht,hd,Dn,bV];rw[fY]
 ·rfl
 ·refine⟨trivial,trivial,trivial,by simp,trivial,by omega,?_,?_⟩
  ·intro x hx;obtain⟨n,_,rfl⟩:=bR.1 hx;rfl
  ·rw[fT];exact hn
def ahX(n:Nat)(xs:List ag)(b0 b1 b2:cA):ke [b0,b1,b2,.arr 6 n xs] (iC [3]) [3]=some [.arr 6 n xs]:=rfl
def I6(l:List qu):wid (l.map Ct) 2=True:=mB Ct _ (fun _=>rfl) l
def jH(x:qu):(Ct x).cells=ml x:=rfl
def oq(x:qu):(ml x).length=2:=rfl
section
attribute [local irreducible] fP fi kD gK dp kr aq aL ct bI
def c17{f:vX}{ns:List Node}(hns:nI ns)(hp:(f.eh.flatMap qu.ae).Perm ns)(hl:ns.length<=1000)(hn:f.eh.length<=1000):aq cY 17 [iZ f] []=some (bJ ⟨ns,f.next,f.ai⟩,[]):=by
 refine aI ?_;have eU:(f.eh.flatMap qu.ae).length<=1000:=by rw[hp.length_eq]; exact hl
 simp only[aax,E17,iZ,bC,zn,Ay,EW,seval]
 refine cW (gA (xs:=f.eh) (by omega) (fun i (s:Nat×List Node)=>s.2=(f.eh.take i).flatMap qu.ae) (fun _ (_:Nat×List Node)=>()) (fun _ i=>[(2,.ptr 1 0),(3,.ptr 2 0),(12,jQ f.eh),(13,.int .i64 f.eh.length),(14,.int .i64 i)])
  (fun s=>[.cells [bH f.pieces,jQ f.eh,.int .i64 f.next,.int .i64 f.ai],.cells [.slice .c0 [],.int .i64 0,.int .i64 0],.cells [.dg 3 s.1 6 0 s.2.length,.int .i64 f.next,.int .i64 f.ai],.arr 6 s.1 (s.2.map ck)])
  (fun _=>some (bJ ⟨ns,f.next,f.ai⟩,[])) (fun s hs=>?_) (fun pre x post s hh hx cr hw h0 hm hI hi=>?_) (0,[]) rfl) rfl
 ·obtain⟨v,acc⟩:=s;rw[cQ] at hs;simp only at hs;subst hs;have hps:=Oo (v:=v) (l:=f.eh.flatMap qu.ae) (by omega) ((hp.map Node.au).nodup_iff.2 (zI hns))
  rw[T8 hns hp] at hps
  have q:∀b0 b1 b2,aL (aq cY) 58 [.dg 3 v 6 0 (f.eh.flatMap qu.ae).length,.func 59 []] [b0,b1,b2,.arr 6 v ((f.eh.flatMap qu.ae).map ck)]=some (.tuple [],[b0,b1,b2,.arr 6 v (ns.map ck)]):=fun b0 b1 b2 =>
   lL (ids:=[3]) rfl rfl (ahX _ _ ..) rfl rfl hps rfl rfl rfl rfl rfl
  have ht:List.take (f.eh.flatMap qu.ae).length (ns.map ck)=ns.map ck:=cj (by simp[hp.length_eq])
  simp only[E17,bf,q,ht,EW,seval];rfl
 ·obtain⟨v,acc⟩:=s;simp only at hI;subst hI
  have hI2:(f.eh.take (pre.length+1)).flatMap qu.ae=(f.eh.take pre.length).flatMap qu.ae++x.ae:=by
   have h1:f.eh.take (pre.length+1)=pre++[x]:=by rw[hh,show pre++x::post=(pre++[x])++post by simp]; exact List.take_left' (by simp)
   have h2:f.eh.take pre.length=pre:=by rw[hh]; simp
   rw[h1,h2]; simp
  have hle:((f.eh.take pre.length).flatMap qu.ae).length+x.ae.length<=1000:=by
   have e:((f.eh.take pre.length).flatMap qu.ae++x.ae).length<=(f.eh.flatMap qu.ae).length:=by
    rw[<-hI2]
    conv=>rhs; rw[<-cD (pre.length+1) f.eh,jD]
    simp
   simp only[aJ] at e;omega
  have r1:dL (((f.eh.take pre.length).flatMap qu.ae).length+x.ae.length) 80=True:=xN;have i1:=fun v'=>hi (v',(f.eh.take (pre.length+1)).flatMap qu.ae) rfl
  rw[hI2] at i1;generalize (f.eh.take pre.length).flatMap qu.ae=acc at *;simp only[aJ,bB] at i1;cases he:x.ae.length==0
  ·simp only[E17,cr,hx,hw,h0,jH,oq,ml,r1,he,EW,seval];exact i1 _
  ·have hz:x.ae=[]:=cq.1 (by simpa using he)
   simp only[hz,aG,cS,bo,bV] at i1 r1;simp only[E17,cr,hx,hw,h0,jH,oq,ml,r1,hz,EW,seval];exact i1 _
end
def CZ(z:ag):mr z false none=z:=rfl
def C0(z a:ag):mr z false (some a)=a:=rfl
def wK(m:LM)(g:Nat):Option qu:=if decide ((((((dq m (g:Int)).map Prod.snd).getD []).length:Nat):Int)>0) then some ⟨g,((dq m (g:Int)).map Prod.snd).getD []⟩ else none
def LK{t:Tree}{cf:Int->Nat}{l:List Piece}(h:cn t cf 0)(hl:jS l)(m:ry l t.ae){n:Node}(hn:n∈t.ae):∃v:Nat,(dq (kV l t.ae).1 n.au).getD 0=(v:Int)/\l[v]?=some (mD l v)/\kj l t.ae n.au=(mD l v).group:=by
 have hf:=(ft h.jB.ju).2 ⟨hn,rfl⟩;obtain⟨k,hd⟩:=(po h hl m hf).dh h;obtain⟨h1,h2⟩:=hd.lt h hl;refine⟨(uN l t.ae n.au).toNat,?_,qR h2,rfl⟩
 show uN l t.ae n.au=_
 omega
def ED(m:LM)(k:Int)(id:Nat)(l:List Node):sH .i (.int .i64 k) (.slice (.own id) (l.map ck)) (wA m) (qP Nj m)=some (wA (kl m k (id,l)),qP Nj (kl m k (id,l))):=tN Nj m k (id,l)
section
variable {t:Tree} {cf:Int->Nat} {l:List Piece}
attribute [local irreducible] fP fi kD gK dp kr aq aL ct bI
def c28(h:cn t cf 0)(hl:jS l)(m:ry l t.ae):aq cY 28 [bH l,bJ t] []=some (iZ (bl l t),[]):=by
 refine aI ?_;have hm:=hl.many;have hnodes:=h.ae
 have q1:∀M,aL (aq cY) 49 [bH l,.agg (bc t)] M=some (.tuple [.iB (wA (kV l t.ae).1) (qP (ag.int .i64) (kV l t.ae).1),.bool (kV l t.ae).2],M):=fun M=>by
  refine cO (c49 h hl) M
 have hat:=fun n hn=>LK h hl m (n:=n) hn
 have hspr:∀g,(((dq (t.ae.foldl (nT 3 fun n=>kj l t.ae n.au) ([],[])).1 g).map Prod.snd).getD [])=t.ae.filter fun n=>kj l t.ae n.au==g:=fun g=>SQ _ _ _ _
 simp only[bc] at q1;simp only[aaC,Xw,bJ,bc,q1,EW,seval]
 refine cW (Lu (xs:=t.ae) (by omega) (fun i (s:LM×List RB)=>Lts 3 s/\UI s/\(t.ae.drop i).foldl (nT 3 fun n=>kj l t.ae n.au) s=t.ae.foldl (nT 3 fun n=>kj l t.ae n.au) ([],[])/\∀g id r,dq s.1 g=some (id,r)->r.length<=i) (fun _ (_:LM×List RB)=>())
  (fun _ i=>[(0,bH l),(3,.ptr 0 0),(4,.ptr 1 0),(5,.iB (wA (kV l t.ae).1) (qP (ag.int .i64) (kV l t.ae).1)),(7,.gD 2),(21,aZ t.ae),(22,.int .i64 t.ae.length),(23,.int .i64 i)])
  (fun s => .cells [aZ t.ae,.int .i64 t.next,.int .i64 t.ai] :: .cells [.slice .c0 [],.slice .c0 [],.int .i64 0,.int .i64 0] :: .map (wA s.1) (qP Nj s.1)::s.2.map vO)
  (fun _=>some (iZ (bl l t),[])) (fun s hs=>?_) (fun pre x post s hh hx cr hw h0 hmm hI hi=>?_) ([],[]) ⟨⟨fun _ _ _ h=>(by cases h),fun _ _ _ _ _ h=>(by cases h)⟩,fun _ h=>(by cases h),rfl,fun _ _ _ h=>(by cases h)⟩) rfl
 ·obtain⟨hL,hLow,hF,hB⟩:=hs;rw[gH] at hF;have hF:s=t.ae.foldl (nT 3 fun n=>kj l t.ae n.au) ([],[]):=hF
  rw[<-hF] at hspr;obtain⟨m,R⟩:=s;simp only at hspr;have lt0:∀n,(0<n+1+1+1)=True:=fun n=>by simp
  have lt1:∀n,(1<n+1+1+1)=True:=fun n=>by simp
  have lt2:∀n,(2<n+1+1+1)=True:=fun n=>by simp
  have n0:∀b Y,nth (R.map vO++b::Y) R.length=some b:=fun b Y=>by rw[eJ]; simp
  have s0:∀b c Y,jZ (R.map vO++b::Y) R.length c=R.map vO++c::Y:=fun b c Y=>by rw[fN]; simp
  simp only[Xw,bf,n0,s0,lt0,lt1,lt2,zn,Ay,cZ,aW,aX,EW,seval];have hrows:∀i:Nat,((List.range i).filterMap (wK m)).length<=i:=fun i=>bh (fK _ _) (by simp)
  have hend:(List.range 8).filterMap (wK m)=qm (fun n=>kj l t.ae n.au) t.ae:=by
   unfold qm;refine congrArg (fun f=>List.filterMap f (List.range 8)) (funext fun g=>?_)
   unfold wK;rw[hspr];cases t.ae.filter fun n=>kj l t.ae n.au==(g:Int)<;>simp
  have lt3:(R.length+1+1+1<R.length+2+1+1+1)=True:=by simp
  have lt4:(R.length+1+1+1+1<R.length+2+1+1+1)=True:=by simp
  have bkg:∀B M a b,List.map (cA.back B M) (List.map vO R++[a,b])=List.map vO R++[cA.back B M a,cA.back B M b]:=fun B M a b=>by rw[bB,Cu]; rfl
  have bkv:=fun M=>aan (m:=m) (B:=R.length+2+1+1+1) (fun p hp=>by have:=hLow p hp; simp only at this; omega) M
  have tk2:∀a b:cA,List.take (R.length+2) (List.map vO R++[a,b])=List.map vO R++[a,b]:=fun a b=>cj (by simp)
  have n1:∀a b,nth (List.map vO R++[a,b]) (R.length+1)=some b:=fun a b=>by rw[eJ]; simp
  have s1:∀a b c,jZ (List.map vO R++[a,b]) (R.length+1) c=List.map vO R++[a,c]:=fun a b c=>by rw[fN]; simp
  refine cW (gA (xs:=List.range 8) (by simp) (fun i (out:List qu)=>out=(List.range i).filterMap (wK m)) (fun _ (_:List qu)=>()) (fun _ i=>[(4,.ptr 1 0),(7,.gD 2),(11,.ptr (R.length+1+1+1) 0),(50,.int .i64 i)])
   (fun out => .cells [aZ t.ae,.int .i64 t.next,.int .i64 t.ai] :: .cells [.slice .c0 [],.slice .c0 [],.int .i64 0,.int .i64 0] :: .map (wA m) (qP Nj m)::(R.map vO++[.cells [.slice .sh (l.map dn),.slice (.own (R.length+1+1+1+1)) (out.map Ct),.int .i64 t.next,.int .i64 t.ai],.tick 2 out.length]))
   (fun _=>some (iZ (bl l t),[])) (fun out ho=>?_) (fun pre x post out hh hx cr hw h0 hmm ho hi=>?_) [] rfl) rfl
  ·rw[ku,hend] at ho;subst ho;have e8:(((List.range 8).length:Nat):Int)=8:=rfl;simp only[Xw,e8,n0,s0,n1,s1,lt0,lt1,lt2,bf,EW,seval];rfl
  ·have hpre:pre.length<8:=by have:=congrArg List.length hh; simp at this; omega
   have hxe:x=pre.length:=by rw[fJ hpre] at hx; injection hx with hx; exact hx.symm
   subst hxe;have hl8:((pre.length:Int)<8)=True:=by simp; omega
   have eU:=hrows pre.length;rw[<-ho] at eU;have r1:dL (out.length+1) 32=True:=xN;have i1:=hi ((List.range (pre.length+1)).filterMap (wK m)) rfl;rw[oc,kg,<-ho] at i1;simp only[k9,jV] at i1;cases hg:dq m (pre.length:Int) with
   |none =>
    have hla:wK m pre.length=none:=by unfold wK; rw[hg]; rfl
    rw[hla] at i1;simp only[bV] at i1;simp only[Xw,hl8,hw,hg,n0,s0,n1,s1,lt0,lt1,lt2,lt3,lt4,bkg,bkv,tk2,mapOf.eq_1,mu,CZ,C0,lA,aG,ga,bf,EW,seval];exact i1
   |some p =>
    obtain⟨id,r⟩:=p;cases hr:decide ((r.length:Int)>0)
    ·have hla:wK m pre.length=none:=by unfold wK; rw[hg]; simp only[cz,bz,hr]; rfl
     rw[hla] at i1;simp only[bV] at i1;have hr':((0:Int)<(r.length:Int))=False:=by simp only[fe,mb]; simpa using hr
     simp only[Xw,hl8,hw,hg,hr',n0,s0,n1,s1,lt0,lt1,lt2,lt3,lt4,bkg,bkv,tk2,mapOf.eq_1,mu,CZ,C0,Nj,cz,aH,EW,seval];exact i1
    ·have hla:wK m pre.length=some ⟨pre.length,r⟩:=by unfold wK; rw[hg]; simp only[cz,bz,hr]; rfl
     rw[hla] at i1;simp only[bB,aV,bo,aJ,av,aG,aP,Ct,ml] at i1;have hr':((0:Int)<(r.length:Int))=True:=by simp only[fe,jM]; simpa using hr
     have wl:=I6 out;simp only[Xw,hl8,hw,hg,hr',r1,wl,n0,s0,n1,s1,lt0,lt1,lt2,lt3,lt4,bkg,bkv,tk2,mapOf.eq_1,mu,CZ,C0,Nj,cz,aH,EW,seval];exact i1
 ·obtain⟨v,hv1,hv2,hv3⟩:=hat x hmm;obtain⟨hL,hLow,hF,hB⟩:=hI
  have hI':Lts 3 (nT 3 (fun n=>kj l t.ae n.au) s x)/\UI (nT 3 (fun n=>kj l t.ae n.au) s x)/\(t.ae.drop (pre.length+1)).foldl (nT 3 fun n=>kj l t.ae n.au) (nT 3 (fun n=>kj l t.ae n.au) s x)=t.ae.foldl (nT 3 fun n=>kj l t.ae n.au) ([],[])/\∀g id r,dq (nT 3 (fun n=>kj l t.ae n.au) s x).1 g=some (id,r)->r.length<=pre.length+1:=by
   have hd:t.ae.drop pre.length=x::post:=by rw[hh]; simp
   have hd2:t.ae.drop (pre.length+1)=post:=by rw[hh]; simp
   refine⟨Sy hL x,NT hL hLow x,?_,Ki hB x⟩;rw[hd] at hF;rw[hd2]; exact hF
  have hlow':=hI'.2.1;have lt0:∀n,(0<n+1+1+1)=True:=fun n=>by simp
  have lt1:∀n,(1<n+1+1+1)=True:=fun n=>by simp
  have lt2:∀n,(2<n+1+1+1)=True:=fun n=>by simp
  obtain⟨m,R⟩:=s;have g0:((v:Int)<0)=False:=by simp
  cases hg:dq m (kj l t.ae x.au) with
  |none =>
   have i1:=hi (nT 3 (fun n=>kj l t.ae n.au) (m,R) x) hI'
   ·have hid0:3+(R.length+1)=R.length+1+1+1+1:=by omega
    have hst:nT 3 (fun n=>kj l t.ae n.au) (m,R) x=(kl m (kj l t.ae x.au) (3+(R.length+1),[x]),R++[.nd x,.tk 1]):=by unfold nT; simp only[hg]
    rw[hst] at i1 hlow';have bkv:=fun M=>aan (B:=R.length+2+1+1+1) (fun p hp=>by have:=hlow' p hp; simp at this; omega) M
    rw[hid0] at bkv
    have bka:∀B M,List.map (cA.back B M) (List.map vO R++[cA.cells (aU x),.tick 6 1])=List.map vO R++[cA.cells (aU x),.tick 6 1]:=fun B M=>by
     rw[show List.map vO R++[cA.cells (aU x),.tick 6 1]=(R++[RB.nd x,RB.tk 1]).map vO by simp[vO]]; exact Cu _ _ _
    simp only[aU] at bka;have tk2:∀a b:cA,List.take (R.length+2) (List.map vO R++[a,b])=List.map vO R++[a,b]:=fun a b=>cj (by simp)
    simp only[hv3] at bkv;rw[hv3] at hg;have r1:dL (0+1) 80=True:=xN;have hid:3+(R.length+1)=R.length+1+1+1+1:=by omega
    have n0:∀b Y,nth (R.map vO++b::Y) R.length=some b:=fun b Y=>by rw[eJ]; simp
    have s0:∀b c Y,jZ (R.map vO++b::Y) R.length c=R.map vO++c::Y:=fun b c Y=>by rw[fN]; simp
    have mp:=ED m (mD l v).group (R.length+1+1+1+1) [x];simp only[aV,bo,ck,aU,jo,ib] at mp;simp only[hid,hv3,bB,aV,bo,vO,aU] at i1;simp only[Xw,cr,hx,hw,h0,hv1,hv2,g0,hg,r1,n0,s0,mp,lt0,lt1,lt2,bkv,bka,tk2,mapOf.eq_1,mapOf.eq_2,mu,Bl,CZ,C0,aU,dQ,gr,cL,bg,lA,cZ,aW,aX,EW,seval];exact i1
  |some p =>
   obtain⟨id,r⟩:=p;obtain⟨i,rfl,hi2⟩:=hL.at' _ _ _ hg;have hrl:=hB _ _ _ hg;simp only at hi2;have hil:=(aC.1 hi2).1;have i1:=hi (nT 3 (fun n=>kj l t.ae n.au) (m,R) x) hI'
   ·have hid:3+i=i+1+1+1:=by omega
    have hst:nT 3 (fun n=>kj l t.ae n.au) (m,R) x=(kl m (kj l t.ae x.au) (i+1+1+1,r++[x]),(R++[RB.nd x]).set i (RB.tk (r.length+1))):=by
     unfold nT; simp only[hg]; rw[hid]; rfl
    rw[hst] at i1 hlow';have bkv:=fun M=>aan (B:=((R++[RB.nd x]).set i (RB.tk (r.length+1))).length+1+1+1) (fun p hp=>by have:=hlow' p hp; simp only at this; omega) M
    simp only[hv3] at bkv;have tkX:∀X:List RB,List.take X.length (List.map vO X)=List.map vO X:=fun X=>cj (by simp)
    rw[hv3,hid] at hg;have hprl:pre.length<=200:=by have:=congrArg List.length hh; simp at this; omega
    have r1:dL (r.length+1) 80=True:=xN;have n0:∀b Y,nth (R.map vO++b::Y) R.length=some b:=fun b Y=>by rw[eJ]; simp
    have s0:∀b c Y,jZ (R.map vO++b::Y) R.length c=R.map vO++c::Y:=fun b c Y=>by rw[fN]; simp
    have nt:∀Y,nth (R.map vO++Y) i=some (.tick 6 r.length):=fun Y=>by
     rw[eJ,bj (by simpa using hil),aY,hi2]; rfl
    have st:∀c,jZ (R.map vO++[.cells (aU x)]) i (vO c)=((R++[RB.nd x]).set i c).map vO:=fun c=>by
     rw[fN,show List.map vO R++[cA.cells (aU x)]=(R++[RB.nd x]).map vO by simp[vO],kR]
    have st:=st (RB.tk (r.length+1));simp only[vO,aU] at st;have mp:=ED m (mD l v).group (i+1+1+1) (r++[x]);simp only[bB,aV,bo,ck,aU,jo,ib] at mp;simp only[hv3] at i1;simp only[Xw,cr,hx,hw,h0,hv1,hv2,g0,hg,r1,n0,s0,nt,st,mp,lt0,lt1,lt2,bkv,Cu,tkX,mapOf.eq_1,mapOf.eq_2,mu,Bl,CZ,C0,Nj,aU,dQ,gr,cL,bg,cz,cZ,aW,aX,aH,EW,seval];exact i1
end
def Oy(s:Bytes):(bw s).2<90:=by unfold bw; (repeat' split)<;>simp
def BL(l:List Node)(i:Int):(gw l i).2<90:=by unfold gw; (repeat' split)<;>simp
def CY(l:List Node)(i:Int)(s:Bytes):(dR l i s).2<90:=by unfold dR; (repeat' split)<;>first|exact BL _ _|simp
def Fj(l:List Node):∀(p:List Bytes)(i:Int),(pP l p i).2<90
 | [],i=>by simp[pP]
 |s::r,i=>by
  rw[pP]; split
  ·exact CY _ _ _
  ·exact Fj l r _
def wZ(t:Tree)(p:Bytes):(eB t p).2<90:=by unfold eB; split; exact Oy _; exact Fj _ _ _
def SC(s:Bytes):(fy s).2.2<90:=by unfold fy; split<;>simp
def zx(t:Tree)(p:Bytes):(k6 t p).2.2<90:=by unfold k6; (repeat' split)<;>first|exact SC _|exact wZ _ _|simp
def A7(t:Tree)(i:Int)(s:Bytes):mn t i s<90:=by unfold mn; (repeat' split)<;>first|exact BL _ _|simp
def UM(t:Tree)(i:Int)(s:Bytes)(k:Int):(nk t i s k).2.2<90:=by unfold nk; (repeat' split)<;>first|exact A7 _ _ _|simp
def acI(t:Tree)(i k:Int)(s:Bytes):(BC t i k s).2<90:=by unfold BC; (repeat' split)<;>first|exact A7 _ _ _|simp
def adv(t:Tree)(i:Int)(s:Bytes):(vF t i s).2.2<90:=by unfold vF; (repeat' split)<;>first|exact CY _ _ _|simp
def M4(l:List Node)(k y:Int):sv l k y<90:=by unfold sv; (repeat' split)<;>simp
def acQ(t:Tree)(i:Int)(s:Bytes)(k:Int)(n:Bytes):(wa t i s k n).2.2<90:=by unfold wa; (repeat' split)<;>first|exact CY _ _ _|exact BL _ _|exact M4 _ _ _|simp
def SF(t:Tree)(i z m:Int):(pZ t i z m).2.2<90:=by unfold pZ; (repeat' split)<;>first|exact BL _ _|simp
def UJ(r:Wt):Prop:=r.2.1.err=0/\r.2.2<90
def uX{c:Prop}[Decidable c]{a b:Wt}(ha:UJ a)(hb:UJ b):UJ (if c then a else b):=by split<;>assumption
def AZ(t:Tree)(o:oS):UJ (eX t o):=by
 refine uX ?_ (uX ?_ (uX ?_ (uX ?_ (uX ?_ (uX ?_ ?_)))))
 ·unfold rM; split<;>refine⟨rfl,?_⟩<;>(try dsimp only)<;>first|with_reducible exact wZ _ _|decide
 ·unfold uF; dsimp only; (repeat' split)<;>refine⟨rfl,?_⟩<;>(try dsimp only)<;>first|with_reducible exact zx _ _|with_reducible exact UM _ _ _ _|decide
 ·unfold tL; dsimp only; (repeat' split)<;>refine⟨rfl,?_⟩<;>(try dsimp only)<;>first|with_reducible exact wZ _ _|with_reducible exact zx _ _|with_reducible exact acI _ _ _ _|decide
 ·unfold nF; dsimp only; (repeat' split)<;>refine⟨rfl,?_⟩<;>(try dsimp only)<;>first|with_reducible exact zx _ _|with_reducible exact adv _ _ _|decide
 ·unfold lI; dsimp only; (repeat' split)<;>refine⟨rfl,?_⟩<;>(try dsimp only)<;>first|with_reducible exact zx _ _|with_reducible exact acQ _ _ _ _ _|decide
 ·unfold tM; dsimp only; (repeat' split)<;>refine⟨rfl,?_⟩<;>(try dsimp only)<;>first|with_reducible exact wZ _ _|with_reducible exact SF _ _ _ _|decide
 ·unfold rP; dsimp only; split<;>refine⟨rfl,?_⟩<;>(try dsimp only)<;>first|with_reducible exact wZ _ _|decide
section
variable {t:Tree} {cf:Int->Nat} {l:List Piece}
def JR{o:oS}(h:(mS l t o).2.err≠0):(mS l t o).1=t:=by
 unfold mS at h ⊢;split
 ·rfl
 split
 ·rfl
 split
 ·rfl
 split
 ·rfl
 ·rename_i h1 h2 h3 h4;rw[ak h1,ak h2,ak h3,ak h4] at h;exact absurd (AZ t o).1 h
def Hk{o:oS}(hk:pX o=true)(h1:(mS l t o).2.err≠91)(h2:(mS l t o).2.err≠180):mS l t o=px t o:=by
 unfold mS px at *;rw[ak (by simp[hk])] at h1 h2 ⊢
 split
 ·rename_i h; rw[az h] at h2; exact absurd rfl h2
 rename_i h;rw[ak h] at h1 h2;split
 ·rfl
 rename_i h';rw[ak h'] at h1 h2;split
 ·rename_i h''; rw[az h''] at h1; exact absurd rfl h1
 ·rfl
def yI:∀(r:List Node)(t:Tree),Rt t->∀k,k∈r->jv k=true->(find t.ae k.au=some k\/find t.ae k.au=none)->find (ov r t).ae k.au=none
 |n::r,t,h,k,hk,ho,hf=>by
  have key:∀u:Tree,Rt u->find u.ae k.au=none->find (ov r u).ae k.au=none:=fun u hu hn=>by
   rcases oj r u hu k.au with h1|⟨h1,_⟩
   ·rw[h1,hn]
   ·exact h1
  unfold ov;rw[bA];rcases bb.1 hk with rfl|hk
  ·rw[az (show(k.kind==1&&k.dj==0)=true from ho)]
   refine key _ (h.free k.au) ?_;rw[z7 h];rcases hf with h1|h1
   ·rw[az ⟨rfl,_,h1,ho⟩]
   ·split
    ·rfl
    ·exact h1
  ·split
   ·refine yI r _ (h.free n.au) k hk ho ?_;rw[z7 h];split
    ·exact .inr rfl
    ·exact hf
   ·exact yI r t h k hk ho hf
def K2(h:cn t cf 0):∀i n,find (fg t).ae i=some n->n.kind=1->∃d e,find (fg t).ae d.au=some d/\d.kind=2/\e∈d.aM/\e.au=i:=by
 intro i n hi hk;have h2:cn (fg t) cf 0:=pz t.ae t h;have hrt:Rt t:=⟨cf,h⟩;have hl:=h2.dj _ _ hi
 have hno:jv n=false:=by
  cases ho:jv n with
  |false=>rfl
  |true =>
   have hf:find t.ae i=some n:=by
    rcases oj t.ae t hrt i with h1|⟨h1,_⟩
    ·rw[<-h1]; exact hi
    ·unfold fg at hi; rw[h1] at hi; cases hi
   obtain⟨m1,m2⟩:=cg hf;have:=yI t.ae t hrt n m1 ho (.inl (by rw[m2]; exact hf))
   unfold fg at hi;rw[m2] at this;rw[this] at hi; cases hi
 have hc:0<qN (fg t).ae i:=by
  have h0:n.dj≠0:=fun e=>by simp[jv,hk,e] at hno
  have h1:=(h2.num _ _ hi).1;rw[ak (by omega)] at hl
  omega
 obtain⟨d,e,h3,h4,h5⟩:=qV.1 hc;have hd:=(ft h2.jB.ju).2 ⟨h3,rfl⟩;refine⟨d,e,hd,?_,h4,h5⟩;rcases h2.kind _ _ hd with h6|h6
 ·rw[(h2.file _ _ hd h6).1] at h4; cases h4
 ·exact h6
def WL{p:Piece}(hl:jS [p])(o:oS):ub [p] t o=false:=by
 have hroot:p.aR=[47]:=by
  obtain⟨q,r,h1,h2⟩:=hl.fst;injection h1 with h1 _
  rw[h1]; exact h2
 have key:∀s,(fy s).2.2=0->kB [p] s=0:=fun s hs=>by
  obtain⟨P,x,h1,_⟩:=HU (s:=s) (by simp[hs])
  unfold kB;rw[List.countP_eq_zero];intro q hq;rw[eO] at hq;subst hq;rw[hroot];intro ha;obtain⟨_,_,h4⟩:=mY.1 ha;rw[h1] at h4;have:=h4.length_le;have h0:(bw [47]).1=[]:=rfl;rw[h0] at this;simp at this
 unfold ub;split
 ·cases h1:(eB t o.aR).2==0<;>cases h2:(fy o.aR).2.2==0<;>simp
  exact key _ (by simpa using h2)
 split
 ·cases h1:(eB t o.aR).2==0<;>cases h2:(fy o.aR).2.2==0<;>cases h3:(fy o.rp).2.2==0<;>simp
  rw[key _ (by simpa using h2),key _ (by simpa using h3)]; exact⟨rfl,rfl⟩
 ·rfl
def Mf{p:Piece}(hl:jS [p])(h:cn t cf 0)(hk:∀i n,find t.ae i=some n->n.kind=1->∃d e,find t.ae d.au=some d/\d.kind=2/\e∈d.aM/\e.au=i):ry [p] t.ae:=by
 obtain⟨r,hr,hrk,_⟩:=h.root
 have hroot:p.aR=[47]:=by
  obtain⟨q,r,h1,h2⟩:=hl.fst;injection h1 with h1 _
  rw[h1]; exact h2
 have hh:∀s,df [p] s=0:=fun s=>by simp[df,qk]
 refine⟨fun q hq=>?_,hk,fun d e d' e' n v w _ _ _ _ _ _ _ hv hw=>?_⟩
 ·rw[eO] at hq;subst hq;refine⟨1,r,?_,hr,hrk⟩;rw[vT,hroot]; exact rfl
 ·obtain⟨_,_,rfl⟩:=hv;obtain⟨_,_,rfl⟩:=hw;rw[hh,hh]
def ac0(h:FI l t){o:oS}(hk:pX o=true)(he:(mS l t o).2.err=91\/(mS l t o).2.err=180):1<l.length:=by
 obtain⟨q,r,hl,hq⟩:=h.prt.fst;cases r with
 |cons a r=>rw[hl]; simp
 |nil =>
  exfalso;subst hl;obtain⟨cf,hg⟩:=h.rt;unfold mS at he;rw[ak (by simp[hk]),ak (by simp[WL h.prt o])] at he
  have hm:=AZ t o;split at he
  ·have:(lQ (eX t o).2.2).err=(eX t o).2.2:=rfl;rw[this] at he;have:=hm.2;omega
  ·obtain⟨dep',h1⟩:=zF hg o;have h2:cn (fg (eX t o).1) dep' 0:=pz _ _ h1;rw[ak (by rw[(uQ h2 h.prt).2 (Mf h.prt h2 (K2 h1))]; simp)] at he
   have:=hm.1;simp only[this] at he;omega
end
def uB:AM Nat:=[(1,97),(7,98),(6,99),(2,100),(3,101),(4,102),(5,103)]
def fnV(K:Nat):ag := .raw (.func (.func K) ⟨[]⟩ ⟨[]⟩)
def pM(l:List Piece)(t:Tree)(o:oS):Wt:=if ub l t o then (t,mV,180) else eX t o
section
attribute [local irreducible] fP fi kD gK dp kr aq aL ct bI
def c46:aq fO 46 [] []=some (.iB (wA uB) (qP fnV uB),[]):=by
 refine aI ?_;simp only[agf,E46,sH,ig,Int.reduceBEq,Int.reduceEq,↓reduceIte,an,EW,seval];rfl
def k46:=cP c46
def PH{f:vX}{t:Tree}{o:oS}{K:Nat}(hk:dq uB o.kind=some K)(ht:Rt t)(hl:jS f.pieces)(ho:BI o):x6 K f t o (pM f.pieces t o):=by
 have hm:=C5 _ _ _ hk;simp only[uB,bb,Prod.mk.injEq,List.not_mem_nil,or_false] at hm;rcases hm with ⟨h,rfl⟩|⟨h,rfl⟩|⟨h,rfl⟩|⟨h,rfl⟩|⟨h,rfl⟩|⟨h,rfl⟩|⟨h,rfl⟩
 ·have e:pM f.pieces t o=rM t o:=by unfold pM ub eX; simp[h]
  rw[e]; exact c97 f ht o ho
 ·have e:pM f.pieces t o=rP t o:=by unfold pM ub eX; simp[h]
  rw[e]; exact c98 f ht o ho
 ·have e:pM f.pieces t o=tM t o:=by unfold pM ub eX; simp[h]
  rw[e]; exact c99 f ht o ho
 ·have e:pM f.pieces t o=uF t o:=by unfold pM ub eX; simp[h]
  rw[e]; exact ajj f ht o ho
 ·have e:pM f.pieces t o=tL t o:=by unfold pM ub eX; simp[h]
  rw[e]; exact ajk f ht o ho
 ·have e:eX t o=nF t o:=by unfold eX; simp[h]
  unfold pM; rw[e]; exact ajl f ht o ho hl h
 ·have e:eX t o=lI t o:=by unfold eX; simp[h]
  unfold pM; rw[e]; exact ajm f ht o ho hl h
def c48{t:Tree}(ht:Rt t):aq fO 48 [bJ t] []=some (bJ (fg t),[]):=by
 refine aI ?_;have hn:t.ae.length<=200:=by obtain⟨cf,h⟩:=ht; exact h.ae
 simp only[agi,E48,bJ,bc,EW,seval]
 refine cW (gA (xs:=t.ae) (by omega) (fun i (u:Tree)=>Rt u/\ov (t.ae.drop i) u=fg t) (fun _ (_:Tree)=>()) (fun _ i=>[(1,.ptr 0 0),(2,.ptr 1 0),(6,aZ t.ae),(7,.int .i64 t.ae.length),(8,.int .i64 i)])
  (fun u=>[.cells [aZ u.ae,.int .i64 u.next,.int .i64 u.ai],.cells [.slice .c0 [],.int .i64 0,.int .i64 0]]) (fun _=>some (.agg [aZ (fg t).ae,.int .i64 (fg t).next,.int .i64 (fg t).ai],[])) (fun u hu=>?_) (fun pre x post u hh hx cr hw hz hm hu hi=>?_) t ⟨ht,rfl⟩) rfl
 ·rw[gH] at hu;have he:u=fg t:=hu.2;simp only[E48,bf,he,EW,seval]
 ·obtain⟨hr,hs⟩:=hu;have hd:t.ae.drop pre.length=x::post:=by rw[hh]; simp
  have hd2:t.ae.drop (pre.length+1)=post:=by rw[hh]; simp
  rw[hd,ov,bA] at hs;have q:=fun M=>lS (akW u x.au hr.small hr.jB M)
  simp only[bc] at q;cases h1:x.kind==1
  ·rw[h1] at hs;have i1:=hi u ⟨hr,by rw[hd2]; exact hs⟩
   simp only[E48,cr,hx,hw,hz,aU,h1,EW,seval];exact i1
  ·cases h2:x.dj==0
   ·rw[h1,h2] at hs;have i1:=hi u ⟨hr,by rw[hd2]; exact hs⟩
    simp only[E48,cr,hx,hw,hz,aU,h1,h2,EW,seval];exact i1
   ·rw[h1,h2] at hs;have i1:=hi (oN u x.au).1 ⟨hr.free x.au,by rw[hd2]; exact hs⟩
    simp only[E48,cr,hx,hw,hz,aU,h1,h2,q,EW,seval];exact i1
def k48{t:Tree}(ht:Rt t)(M:aK):aL (aq fO) 48 [.agg [aZ t.ae,.int .i64 t.next,.int .i64 t.ai]] M=some (.agg [aZ (fg t).ae,.int .i64 (fg t).next,.int .i64 (fg t).ai],M) :=
 cO (c48 ht) M
def k49{t:Tree}{cf:Int->Nat}{l:List Piece}(h:cn t cf 0)(hl:jS l)(M:aK):aL (aq fO) 49 [bH l,.agg [aZ t.ae,.int .i64 t.next,.int .i64 t.ai]] M=some (.tuple [.iB (wA (kV l t.ae).1) (qP (ag.int .i64) (kV l t.ae).1),.bool (kV l t.ae).2],M) :=
 lS (cO (c49 h hl) M)
end
def FY(f:vX)(o:oS)(w:cA):aK:=[.cells (dK o),.cells [.ptr 3 0],.cells (bC f),w]
def NS{o:oS}(h:dq uB o.kind=none):pX o=false:=by
 simp only[uB,dq] at h;unfold pX;rw[Bool.and_eq_false_iff];refine .inl ?_
 repeat' split at h
 all_goals first|(cases h; done)|skip
 rw[lZ];intro hc;simp only[bm,bt] at hc;omega
def Et{o:oS}{K:Nat}(h:dq uB o.kind=some K):pX o=(decide (0<=o.jw)&&decide (o.jw<16)):=by
 have hm:=C5 _ _ _ h;simp only[uB,bb,Prod.mk.injEq,List.not_mem_nil,or_false] at hm;unfold pX;rcases hm with ⟨h,_⟩|⟨h,_⟩|⟨h,_⟩|⟨h,_⟩|⟨h,_⟩|⟨h,_⟩|⟨h,_⟩<;>rw[h]<;>rfl
def GC(f:vX)(t:Tree)(o:oS):mX f t o=iH f t o mV (.slice .c0 []):=rfl
def afR(l:List Piece)(t:Tree){o:oS}(hk:pX o=true):mS l t o=if (pM l t o).2.2 != 0 then (t,lQ (pM l t o).2.2) else if (kV l (fg (pM l t o).1).ae).2=false then (t,lQ 91) else (fg (pM l t o).1,(pM l t o).2.1):=by
 unfold mS pM;rw[ak (by simp[hk])]
 cases hb:ub l t o
 ·simp only[af,aw]
 ·simp only[aE]; rfl
def OO{l:List Piece}{t:Tree}{cf:Int->Nat}(h:cn t cf 0)(o:oS):∃dep',cn (pM l t o).1 dep' 0:=by
 unfold pM;split
 ·exact⟨cf,h⟩
 ·exact zF h o
section
attribute [local irreducible] fP fi kD gK dp kr aq aL ct bI
def c45{f:vX}{t:Tree}{cf:Int->Nat}{o:oS}(h:cn t cf 0)(hl:jS f.pieces)(ho:BI o) :
  ∃u a x e,Row x (a.names.map ag.str)/\a.data=[]/\aq fO 45 [.ptr 0 0,.ptr 1 0,.ptr 2 0] (FY f o (mX f t o))=some (if e != 0 then iV e else .tuple [],FY f o (iH f u o a x)) /\
   mS f.pieces t o=(if e != 0 then (t,lQ e) else (u,a)):=by
 have ht:Rt t:=⟨cf,h⟩;have q0:=k46;have g:=mu fnV uB o.kind;cases hk:dq uB o.kind with
 |none =>
  refine⟨t,mV,.slice .c0 [],1,.inr ⟨rfl,rfl⟩,rfl,?_,?_⟩
  ·refine aI ?_;have q:=fun M=>Ur false 1 rfl M
   simp only[af,aw,iV] at q;rw[hk] at g;simp only[J4,E45,FY,dK,bC,<-GC,q0,g,q,iV,mapOf.eq_2,mr,lA,mZ,iW,an,af,aE,aw,EW,seval];rfl
  ·unfold mS; rw[az (NS hk)]; rfl
 |some K =>
  cases hc:decide (0<=o.jw)&&decide (o.jw<16)
  ·refine⟨t,mV,.slice .c0 [],1,.inr ⟨rfl,rfl⟩,rfl,?_,?_⟩
   ·refine aI ?_;have q:=fun M=>Ur false 1 rfl M
    simp only[af,aw,iV] at q;rw[hk] at g
    by_cases h1:0<=o.jw
    ·have h2:(o.jw<16)=False:=by simp only[h1,nv,bP,dk] at hc; simp only[fe,mb]; exact hc
     have h1:(0<=o.jw)=True:=by simp only[fe,jM]; exact h1
     simp only[J4,E45,FY,dK,bC,<-GC,q0,g,q,h1,h2,iV,fnV,mapOf.eq_2,mr,cz,bz,c9,an,af,aE,aw,EW,seval]<;>rfl
    ·have h1:(0<=o.jw)=False:=by simp only[fe,mb]; exact h1
     simp only[J4,E45,FY,dK,bC,<-GC,q0,g,q,h1,iV,fnV,mapOf.eq_2,mr,cz,bz,c9,an,af,aE,aw,EW,seval]<;>rfl
   ·unfold mS; rw[az (by rw[Et hk]; exact hc)]; rfl
  ·obtain⟨x,hx,hda,ha⟩:=PH hk ht hl ho;have hkB:pX o=true:=by rw[Et hk]; exact hc
   rw[afR f.pieces t hkB];obtain⟨dep',hr⟩:=OO (l:=f.pieces) h o;have q:=fun M=>Ur true 1 rfl M
   simp only[aE] at q;rw[hk] at g;simp only[bm,bt] at hc;have h1:(0<=o.jw)=True:=by simp only[fe,jM]; exact hc.1
   have h2:(o.jw<16)=True:=by simp only[fe,jM]; exact hc.2
   generalize pM f.pieces t o=r at hx hda ha hr ⊢;obtain⟨u,a,e⟩:=r;simp only at hx hda ha hr ⊢
   have q5:aL (aq fO) K [.ptr 3 0] (FY f o (mX f t o))=some (if e != 0 then iV e else .tuple [],FY f o (iH f u o a x)):=by
    unfold iH at ha ⊢;rcases hx with rfl|⟨rfl,_⟩<;>exact pC (vs:=[]) (p:=3) rfl ha rfl rfl (by split<;>rfl) rfl (by split<;>rfl) rfl rfl rfl rfl rfl
   have hs:cn (fg u) dep' 0:=pz _ _ hr;have q6:=k48 ⟨dep',hr⟩;have q7:=k49 hs hl;have cx:x.kW=true:=by rcases hx with h|⟨h,_⟩<;>rw[h]<;>rfl
   cases he:e != 0
   ·simp only[he,af,aw] at q5 ⊢;cases hm:(kV f.pieces (fg u).ae).2
    ·rw[hm] at q7;have q8:=fun M=>Ur false 91 rfl M
     simp only[af,aw,iV] at q8;refine⟨fg u,a,x,91,hx,hda,aI ?_,by simp⟩
     simp only[FY,dK,bC,mX,jg,iH] at q5;rcases hx with rfl|⟨rfl,_⟩ <;>
     simp only[J4,E45,FY,dK,bC,mX,jg,iH,q0,g,q,h1,h2,q5,q6,q7,q8,he,iV,fnV,mapOf.eq_2,mr,cz,bz,c9,an,af,aE,aw,EW,seval]<;>rfl
    ·rw[hm] at q7;have q8:=fun M=>Ur true 91 rfl M
     simp only[aE] at q8;refine⟨fg u,a,x,0,hx,hda,aI ?_,by simp⟩
     simp only[FY,dK,bC,mX,jg,iH] at q5;rcases hx with rfl|⟨rfl,_⟩ <;>
     simp only[J4,E45,FY,dK,bC,mX,jg,iH,q0,g,q,h1,h2,q5,q6,q7,q8,he,iV,fnV,mapOf.eq_2,mr,cz,bz,c9,an,af,aE,aw,EW,seval]<;>rfl
   ·simp only[he,aE,iV] at q5 ⊢;refine⟨u,a,x,e,hx,hda,aI ?_,by simp[he]⟩
    simp only[FY,dK,bC,mX,jg,iH] at q5;rcases hx with rfl|⟨rfl,_⟩ <;>
    simp only[J4,E45,FY,dK,bC,mX,jg,iH,q0,g,q,h1,h2,q5,he,iV,fnV,mapOf.eq_2,mr,cz,bz,c9,an,af,aE,aw,EW,seval]<;>rfl
end
def EX(c:Bool)(l:List ag)(M:aK)(k:Option Out):Om c ((.tuple l),M) k=k:=rfl
def Ml(c:Bool)  (M:aK)(k:Option Out):Om c (.any,M) k=k:=rfl
def W6(v:Value)(M:aK)(k:Option Out):Om true (.oy v,M) k=some ⟨.oy v,[],M⟩:=rfl
def Qo(e:Env)(M:aK)(k:Env->aK->Option Out):ur ⟨.normal,e,M⟩ k=k e M:=rfl
def aaU(v:Value)(e:Env)(M:aK)(k:Env->aK->Option Out):ur ⟨.oy v,e,M⟩ k=some ⟨.oy v,e,M⟩:=rfl
def aaV(e:Env)(M:aK)(k:Env->aK->Option Out):ur ⟨.ret,e,M⟩ k=some ⟨.ret,e,M⟩:=rfl
def aba(live:List Nat)(e:Env)(M:aK):Out.rb live ⟨.ret,e,M⟩=⟨.ret,e,M⟩:=rfl
def ac9(ks:List Nat)(br e:Env)(M:aK):BD ks br ⟨.ret,e,M⟩=⟨.ret,e,M⟩:=rfl
def Kf(live:List Nat)(e:Env)(M:aK):Out.rb live ⟨.normal,e,M⟩=⟨.normal,jr e live,M⟩:=rfl
def aa9(live:List Nat)(v:Value)(e:Env)(M:aK):Out.rb live ⟨.oy v,e,M⟩=⟨.oy v,e,M⟩:=rfl
def TB(ks:List Nat)(br e:Env)(M:aK):BD ks br ⟨.normal,e,M⟩=⟨.normal,e,M⟩:=rfl
def ac8(ks:List Nat)(br:Env)(v:Value)(e:Env)(M:aK):BD ks br ⟨.oy v,e,M⟩=⟨.oy v,jr br ks,M⟩:=rfl
def XB:(false==true)=false:=rfl
def XC:(true==false)=false:=rfl
def XA:(false==false)=true:=rfl
def XD:(true==true)=true:=rfl
def IA(c:Bool)(g:Nat)(l:List ag)(M:aK)(k:Option Out):Om c ((.func g l),M) k=k:=rfl
section
attribute [local irreducible] aq aL ct bI
def T1(f:ag)(M:aK):fh (aq fO) Lo (jY 0 [f]) M=some ⟨.normal,jr [(2,.ptr M.length 0),(0,f)] [0,2,3],M++[.cells [.int .i64 0]]⟩:=by
 simp only[Lo,fh,gP,ur,zm,Om,Kf,EV,seval]
def Gm(M:aK)(b:cA):nth (M++[b]) M.length=some b:=by rw[eJ]; simp
def T3(M:aK)(b c:cA):jZ (M++[b]) M.length c=M++[c]:=by rw[fN]; simp
def adk{g:Nat}{caps:List ag}{M M':aK}(hl:M'.length=M.length)(hc:aL (aq fO) g caps (M++[.cells [.int .i64 0]])=some (.tuple [],M'++[.cells [.int .i64 0]])) :
  wW (aq fO) [2] DY [(0,.func g caps),(2,.ptr M.length 0)] (M++[.cells [.int .i64 0]])=some ⟨.ret,[(2,.ptr M.length 0)],M'++[.cells [.int .i64 0]]⟩:=by
 have h1:nth (M'++[.cells [.int .i64 0]]) M.length=some (.cells [.int .i64 0]):=by rw[<-hl]; exact Gm _ _
 have h2:∀c,jZ (M'++[.cells [.int .i64 0]]) M.length c=M'++[c]:=fun c=>by rw[<-hl]; exact T3 _ _ _
 simp only[DY,TT,wW,fh,gP,hc,h1,h2,EX,Ml,IA,Qo,aaV,aba,ac9,Kf,TB,XB,XC,XA,XD,af,aE,aw,bV,bo,EV,seval]
def adj{g:Nat}{caps:List ag}{M M':aK}{e:Int}(hl:M'.length=M.length)(hc:aL (aq fO) g caps (M++[.cells [.int .i64 0]])=some (iV e,M'++[.cells [.int .i64 0]])) :
  wW (aq fO) [2] DY [(0,.func g caps),(2,.ptr M.length 0)] (M++[.cells [.int .i64 0]])=some ⟨.oy (.iface 34 (.int .i64 e)),[(2,.ptr M.length 0)],M'++[.cells [.int .i64 0]]⟩:=by
 simp only[iV] at hc;simp only[DY,TT,wW,fh,gP,hc,W6,EX,Ml,IA,Qo,aaU,aa9,ac8,Kf,TB,XB,XC,XA,XD,af,aE,aw,bV,bo,EV,seval]
end
def Fh:iM.sK 44=some ES:=by unfold iM nH; simp only[aE]
def Zx{g:Nat}{caps:List ag}{M M':aK}(hl:M'.length=M.length)(hb:jO M.length (M'++[.cells [.int .i64 0]])=M')(hc:aL (aq fO) g caps (M++[.cells [.int .i64 0]])=some (.tuple [],M'++[.cells [.int .i64 0]])):aq iM 44 [.func g caps] M=some (.int .i64 0,M'):=by
 refine gy Fh ?_;unfold ES;rw[az (show[ag.func g caps].length=1 from rfl),T1,bZ]
 have e1:il (jr [(2,ag.ptr M.length 0),(0,.func g caps)] [0,2,3]) 2 = .ptr M.length 0:=rfl;have e2:jr (jr [(2,ag.ptr M.length 0),(0,.func g caps)] [0,2,3]) [0,2]=[(0,.func g caps),(2,.ptr M.length 0)]:=rfl;simp only[e1,e2];rw[adk hl hc,bZ]
 have hr:pO [(2,.ptr M.length 0)] (M'++[.cells [.int .i64 0]]) Zv=some [.int .i64 0]:=by
  have h1:nth (M'++[.cells [.int .i64 0]]) M.length=some (.cells [.int .i64 0]):=by rw[<-hl]; exact Gm _ _
  simp only[Zv,pO,zq,il,h1,EV,seval]
 unfold BM;simp only[hr,bZ,hb];rfl
def Zw{g:Nat}{caps:List ag}{M M':aK}{e:Int}(hl:M'.length=M.length)(hb:jO M.length (M'++[.cells [.int .i64 e]])=M')(hc:aL (aq fO) g caps (M++[.cells [.int .i64 0]])=some (iV e,M'++[.cells [.int .i64 0]])):aq iM 44 [.func g caps] M=some (.int .i64 e,M'):=by
 refine gy Fh ?_;unfold ES;rw[az (show[ag.func g caps].length=1 from rfl),T1,bZ]
 have e1:il (jr [(2,ag.ptr M.length 0),(0,.func g caps)] [0,2,3]) 2 = .ptr M.length 0:=rfl;have e2:jr (jr [(2,ag.ptr M.length 0),(0,.func g caps)] [0,2,3]) [0,2]=[(0,.func g caps),(2,.ptr M.length 0)]:=rfl;simp only[e1,e2];rw[adj hl hc,bZ];have h0:(M'++[cA.cells [.int .i64 0]])[M.length]?=some (.cells [.int .i64 0]):=by rw[<-hl]; simp
 have h1:(M'++[cA.cells [.int .i64 0]]).set M.length (.cells [.int .i64 e])=M'++[.cells [.int .i64 e]]:=by rw[<-hl]; simp
 have hr:pO [(2,.ptr M.length 0)] (M'++[.cells [.int .i64 e]]) Zv=some [.int .i64 e]:=by
  have h1:nth (M'++[.cells [.int .i64 e]]) M.length=some (.cells [.int .i64 e]):=by rw[<-hl]; exact Gm _ _
  simp only[Zv,pO,zq,il,h1,EV,seval]
 unfold BM;simp only[h0,h1,hr,bZ,hb];rfl
def FI.whole{l:List Piece}{t:Tree}(h:FI l t):aq cY 17 [iZ (bl l t)] []=some (bJ t,[]):=by
 obtain⟨cf,hg⟩:=h.rt;have hn:=hg.ae;refine c17 (f:=bl l t) hg.jB.ju (tb hg h.prt h.may) (by omega) ?_
 have:(qm (fun n=>kj l t.ae n.au) t.ae).length<=8:=bh (fK _ _) (by simp)
 show(qm (fun n=>kj l t.ae n.au) t.ae).length<=1000
 omega
def FI.CV{l:List Piece}{t:Tree}(h:FI l t)(M:aK):aL (aq cY) 17 [.agg (bC (bl l t))] M=some (.agg [aZ t.ae,.int .i64 t.next,.int .i64 t.ai],M):=vq h.whole rfl rfl rfl rfl rfl M
def FI.xq{l:List Piece}{t:Tree}(h:FI l t)(M:aK):aL (aq cY) 28 [bH l,.agg [aZ t.ae,.int .i64 t.next,.int .i64 t.ai]] M=some (.agg (bC (bl l t)),M):=by
 obtain⟨cf,hg⟩:=h.rt;exact cO (c28 hg h.prt h.may) M
def ahT(f o w z:List ag)(b2 b3:cA)(hf:(cA.cells f).rn (iC [1,5,0,4]) = .cells f)(ho:(cA.cells o).rn (iC [1,5,0,4]) = .cells o)(hw:(cA.cells w).rn (iC [1,5,0,4]) = .cells w)(ff:(cA.cells f).flat=true)(fo:(cA.cells o).flat=true)(fw:(cA.cells w).flat=true) :
  ke [.cells f,.cells o,b2,b3,.cells w,.cells [.ptr 4 0]] (iC [1,5,0,4]) [1,5,0,4]=some [.cells o,.cells [.ptr 3 0],.cells f,.cells w]:=by
 simp only[ke,nth,hf,ho,hw,ff,fo,fw,aE,bZ];rfl
def ada(f:vX)(t:Tree)(o:oS):ke (FY f o (mX f t o)++[.cells [.int .i64 0]]) (iC [0,1,2,3]) [0,1,2,3]=some (FY f o (mX f t o)):=rfl
section
attribute [local irreducible] fP fi kD gK dp kr aq aL ct bI
def adp{f:vX}{t:Tree}{cf:Int->Nat}{o:oS}(h:cn t cf 0)(hl:jS f.pieces)(ho:BI o) :
  ∃u a x e,Row x (a.names.map ag.str)/\a.data=[]/\aq iM 44 [.func 45 [.ptr 0 0,.ptr 1 0,.ptr 2 0]] (FY f o (mX f t o))=some (.int .i64 e,FY f o (iH f u o a x)) /\
   mS f.pieces t o=(if e != 0 then (t,lQ e) else (u,a)):=by
 obtain⟨u,a,x,e,hx,hd,ha,hD⟩:=c45 h hl ho;refine⟨u,a,x,e,hx,hd,?_,hD⟩
 have hc:aL (aq fO) 45 [.ptr 0 0,.ptr 1 0,.ptr 2 0] (FY f o (mX f t o)++[.cells [.int .i64 0]])=some (if e != 0 then iV e else .tuple [],FY f o (iH f u o a x)++[.cells [.int .i64 0]]):=by
  rcases hx with rfl|⟨rfl,_⟩<;>exact lL (ids:=[0,1,2,3]) rfl rfl (ada f t o) rfl rfl ha rfl (by split<;>rfl) rfl (by split<;>rfl) rfl
 cases he:e != 0
 ·rw[he] at hc;have:e=0:=by simpa using he
  subst this;exact Zx rfl (by rcases hx with rfl|⟨rfl,_⟩<;>rfl) hc
 ·rw[he] at hc;exact Zw rfl (by rcases hx with rfl|⟨rfl,_⟩<;>rfl) hc
def c15{l:List Piece}{t:Tree}{o:oS}(hf:FI l t)(ho:BI o):aq iM 15 [iZ (bl l t),.agg (dK o)] []=some (.tuple [.agg (bC (bl l (mS l t o).1)),.agg (eA (mS l t o).2)],[]):=by
 obtain⟨cf,hg⟩:=hf.rt;refine aI ?_;have q1:=fun M=>lG (hf.CV M)
 have hf2:=hf.do o
 obtain⟨u,a,x,e,hx,hd,ha,hD⟩:=adp (f:=bl l t) (t:=t) hg hf.prt ho;have hD:mS l t o=(if e != 0 then (t,lQ e) else (u,a)):=hD
 rw[hD] at hf2 ⊢
 have q2:∀b2 b3,aL (aq iM) 44 [.func 45 [.ptr 1 0,.ptr 5 0,.ptr 0 0]] [.cells (bC (bl l t)),.cells (dK o),b2,b3,mX (bl l t) t o,.cells [.ptr 4 0]] =
   some (.int .i64 e,[.cells (bC (bl l t)),.cells (dK o),b2,b3,iH (bl l t) u o a x,.cells [.ptr 4 0]]):=fun b2 b3=>by
  rcases hx with rfl|⟨rfl,_⟩<;>exact lL (ids:=[1,5,0,4]) rfl rfl (ahT _ _ _ [] _ _ rfl rfl rfl rfl rfl rfl) rfl rfl ha rfl rfl rfl rfl rfl
 cases he:e != 0
 ·simp only[he,af,aw] at hf2 ⊢;have q3:=fun M=>lG (hf2.xq M)
  have hp:(bl l t).pieces=l:=rfl;obtain⟨err,au,kind,n,m,names,data⟩:=a;simp only at hd;subst hd;generalize bl l t=f at q1 q2 hp ⊢;generalize bl l u=F at q3 ⊢;simp only[bC,dK,mX,jg,iH,hp] at q1 q2 q3;rcases hx with rfl|⟨rfl,hxn⟩
  ·simp only[Vo,E15,iZ,bC,dK,q1,q2,q3,hp,he,eA,EW,seval];rfl
  ·simp only[Vo,E15,iZ,bC,dK,q1,q2,q3,hp,he,eA,fL,hxn,EW,seval];rfl
 ·simp only[he,aE] at hf2 ⊢;generalize bl l t=f at q1 q2 ⊢;simp only[bC,dK,mX,jg,iH] at q1 q2;simp only[Vo,E15,iZ,bC,dK,q1,q2,he,eA,lQ,EW,seval];rfl
end
def vZ(f:vX)(t:Tree):cA := .cells [bH f.pieces,jQ f.eh,.int .i64 f.next,.int .i64 f.ai,aZ t.ae,.int .i64 t.next,.int .i64 t.ai,
 .int .i64 0,.int .i64 0,.str [],.str [],.int .i64 0,.int .i64 0,.int .i64 0,.slice .c0 [],
 .int .i64 0,.int .i64 0,.int .i64 0,.int .i64 0,.int .i64 0,.slice .c0 [],.slice .c0 []]
def xK(f:vX)(t:Tree)(s:Bytes)(g:Int)(l:List Piece):aK:=[.cells [.ptr 4 0],.cells [.str s],.cells [bH l],.cells [.int .i64 g],vZ f t]
def W0(f:vX)(t:Tree)(s:Bytes)(g:Int)(l:List Piece):ke (xK f t s g l++[.cells [.int .i64 0]]) (iC [0,1,2,3,4]) [0,1,2,3,4]=some (xK f t s g l):=rfl
def TD(f:vX)(t:Tree)(s:Bytes)(g:Int)(l:List Piece)(b0 b3:cA):ke [b0,.cells [.str s],.cells [.int .i64 g],b3,vZ f t,.cells [.ptr 4 0],.cells [bH l]] (iC [5,1,6,2,4]) [5,1,6,2,4]=some (xK f t s g l):=rfl
section
attribute [local irreducible] fP fi kD gK dp kr aq aL ct bI
def alK(f:vX){t:Tree}(ht:Rt t)(aR:Bytes)(hp:aR.length<=100000){p:Nat}{M:aK}(hM:nth M p=some (vZ f t)):aL (aq fO) 90 [.ptr p 0,.str aR] M =
  some (if (eB t aR).2 != 0 then iV (eB t aR).2 else .agg (aU (bD t.ae (eB t aR).1)),M):=by
 have h:aq fO 90 [.ptr 0 0,.str aR] [vZ f t]=some (if (eB t aR).2 != 0 then iV (eB t aR).2 else .agg (aU (bD t.ae (eB t aR).1)),[vZ f t]):=by
  refine aI ?_;have q1:=VB t aR ht.small ht.jB hp;generalize eB t aR=v at q1 ⊢;have q2:=zg v.2;have q3:=fun M=>lS (Vx t v.1 ht.small ht.jB M)
  simp only[aU] at q3;simp only[aaP,E90,vZ,q1,EW,seval];cases he:v.2 != 0<;>simp only[he,af,aE,aw,iV] at q2 ⊢
  ·simp only[E90,q2,q3,aU,EW,seval]
  ·simp only[E90,q2,EW,seval]
 have:=pC (vs:=[.str aR]) hM h rfl rfl (by split<;>rfl) rfl (by split<;>rfl) rfl rfl rfl rfl rfl
 have h2:jZ M p (vZ f t)=M:=um hM;unfold vZ at h2;rwa[h2] at this
def c89{f:vX}{l:List Piece}{t:Tree}{cf:Int->Nat}(h:cn t cf 0)(hl:jS l)(s:Bytes)(hs:s.length<=100000)(g:Int) :
  ∃L e,aq fO 89 [.ptr 0 0,.ptr 1 0,.ptr 2 0,.ptr 3 0] (xK f t s g l)=some (if e != 0 then iV e else .tuple [],xK f t s g L)/\sx l t s g=(if e != 0 then (l,e) else (L,0)):=by
 have ht:Rt t:=⟨cf,h⟩;have q1:=alK f ht s hs (p:=4) (M:=xK f t s g l) rfl;have q2:∀M,aL (aq fO) 91 [bH l,.str s,.int .i64 g] M=some (.tuple [bH (uK l s g).1,.int .i64 (uK l s g).2],M):=fun M=>cO (c91 hl s hs g) M
 have q3:=k49 h (BK (s:=s) (to:=g) hl);unfold sx;generalize eB t s=v at q1 ⊢;generalize bD t.ae v.1=n at q1 ⊢;generalize uK l s g=c at q2 q3 ⊢;simp only[xK,vZ,aU] at q1;cases h0:v.2 != 0
 rotate_left
 ·rw[h0] at q1;refine⟨l,v.2,aI ?_,by simp[h0]⟩
  simp only[aE,iV] at q1;simp only[Nv,E89,xK,vZ,q1,h0,iV,aE,EW,seval]<;>rfl
 rw[h0] at q1;simp only[af,aw] at q1;cases h1:n.kind==2
 ·have q4:=fun M=>Ur false 73 rfl M
  simp only[af,aw,iV] at q4;refine⟨l,73,aI ?_,by simp[bne,h1]⟩
  simp only[Nv,E89,xK,vZ,q1,q4,h1,iV,aE,EW,seval]<;>rfl
 have q4:=fun M=>Ur true 73 rfl M
 simp only[aE] at q4;have q5:=zg c.2;cases h2:c.2 != 0
 rotate_left
 ·rw[h2] at q5;simp only[aE,iV] at q5;refine⟨l,c.2,aI ?_,by simp[bne,h1,h2]⟩
  simp only[Nv,E89,xK,vZ,q1,q2,q4,q5,h1,h2,iV,aE,EW,seval]<;>rfl
 rw[h2] at q5;simp only[af,aw] at q5;cases h3:(kV c.1 t.ae).2<;>rw[h3] at q3
 ·have q6:=fun M=>Ur false 91 rfl M
  simp only[af,aw,iV] at q6;refine⟨l,91,aI ?_,by simp[bne,h1,h2,h3]⟩
  simp only[Nv,E89,xK,vZ,q1,q2,q3,q4,q5,q6,h1,iV,aE,EW,seval]<;>rfl
 ·have q6:=fun M=>Ur true 91 rfl M
  simp only[aE] at q6;refine⟨c.1,0,aI ?_,by simp[bne,h1,h2,h3]⟩
  simp only[Nv,E89,xK,vZ,q1,q2,q3,q4,q5,q6,h1,an,af,aw,aE,EW,seval]<;>rfl
def Xl{f:vX}{l:List Piece}{t:Tree}{cf:Int->Nat}(h:cn t cf 0)(hl:jS l)(s:Bytes)(hs:s.length<=100000)(g:Int) :
  ∃L e,aq iM 44 [.func 89 [.ptr 0 0,.ptr 1 0,.ptr 2 0,.ptr 3 0]] (xK f t s g l)=some (.int .i64 e,xK f t s g L)/\sx l t s g=(if e != 0 then (l,e) else (L,0)):=by
 obtain⟨L,e,ha,hD⟩:=c89 (f:=f) h hl s hs g;refine⟨L,e,?_,hD⟩
 have hc:aL (aq fO) 89 [.ptr 0 0,.ptr 1 0,.ptr 2 0,.ptr 3 0] (xK f t s g l++[.cells [.int .i64 0]])=some (if e != 0 then iV e else .tuple [],xK f t s g L++[.cells [.int .i64 0]]) :=
  lL (ids:=[0,1,2,3,4]) rfl rfl (W0 f t s g l) rfl rfl ha rfl (by split<;>rfl) rfl (by split<;>rfl) rfl
 cases he:e != 0
 ·rw[he] at hc;have:e=0:=by simpa using he
  subst this;exact Zx rfl rfl hc
 ·rw[he] at hc;exact Zw rfl rfl hc
def c42{l:List Piece}{t:Tree}(hf:FI l t)(s:Bytes)(hs:s.length<=100000)(g:Int):aq iM 42 [iZ (bl l t),.str s,.int .i64 g] []=some (.tuple [.agg (bC (bl (sx l t s g).1 t)),.int .i64 (sx l t s g).2],[]):=by
 obtain⟨cf,hg⟩:=hf.rt;refine aI ?_;have q1:=fun M=>lG (hf.CV M)
 have hf2:=hf.cut s g;obtain⟨L,e,ha,hD⟩:=Xl (f:=bl l t) hg hf.prt s hs g;rw[hD] at hf2 ⊢
 have q2:∀b0 b3,aL (aq iM) 44 [.func 89 [.ptr 5 0,.ptr 1 0,.ptr 6 0,.ptr 2 0]] [b0,.cells [.str s],.cells [.int .i64 g],b3,vZ (bl l t) t,.cells [.ptr 4 0],.cells [bH l]] =
   some (.int .i64 e,[b0,.cells [.str s],.cells [.int .i64 g],b3,vZ (bl l t) t,.cells [.ptr 4 0],.cells [bH L]]):=fun b0 b3 =>
  lL (ids:=[5,1,6,2,4]) rfl rfl (TD _ _ _ _ _ _ _) rfl rfl ha rfl rfl rfl rfl rfl
 have hp:(bl l t).pieces=l:=rfl;cases he:e != 0
 ·simp only[he,af,aw] at hf2 ⊢;have q3:=fun M=>lG (hf2.xq M)
  generalize bl l t=f at q1 q2 hp ⊢;generalize bl L t=F at q3 ⊢;simp only[bC,vZ,hp] at q1 q2 q3;simp only[aaG,E42,iZ,bC,q1,q2,q3,hp,he,EW,seval]<;>rfl
 ·simp only[he,aE] at hf2 ⊢;generalize bl l t=f at q1 q2 hp ⊢;simp only[bC,vZ,hp] at q1 q2;simp only[aaG,E42,iZ,bC,q1,q2,hp,he,EW,seval]<;>rfl
def k94{l L:List Piece}{t:Tree}(hf:FI l t)(e:Int)(hL:FI L t)(hD:e≠0->L=l)(M:aK):aL (aq iM) 94 [.agg (bC (bl l t)),bH L,.int .i64 e] M=some (.tuple [.agg (bC (bl L t)),.int .i64 e],M):=by
 refine cO (aI ?_) M;have q1:=fun M=>lG (hf.CV M)
 have q2:=fun M=>lG (hL.xq M)
 cases he:e != 0
 ·have:e=0:=by simpa using he
  subst this;generalize bl l t=f at q1 ⊢;generalize bl L t=F at q2 ⊢;simp only[bC] at q1 q2;simp only[aaQ,E94,bC,q1,q2,he,EW,seval]<;>rfl
 ·have:=hD (by simpa using he)
  subst this;generalize bl L t=f at q1 ⊢;simp only[aaQ,E94,bC,he,EW,seval]<;>rfl
def CS{l:List Piece}{s:Bytes}(h:(lN l s).2≠0):(lN l s).1=l:=by
 unfold lN at h ⊢;split
 ·rfl
 rename_i h1;rw[ak h1] at h;cases hp:rj l s with
 |none=>rfl
 |some a =>
  rw[hp] at h;cases a with
  |zero=>rfl
  |succ a =>
   dsimp only at h ⊢;split
   ·rfl
   ·rename_i h2;rw[ak h2] at h;exact absurd rfl h
def C7{l:List Piece}{s:Bytes}{g:Int}(h:(mU l s g).2≠0):(mU l s g).1=l:=by
 unfold mU at h ⊢
 repeat' split
 all_goals first|rfl|skip
 all_goals simp_all
def c43{l:List Piece}{t:Tree}(hf:FI l t)(s:Bytes)(hs:s.length<=100000):aq iM 43 [iZ (bl l t),.str s] []=some (.tuple [.agg (bC (bl (lN l s).1 t)),.int .i64 (lN l s).2],[]):=by
 refine aI ?_;have q1:∀M,aL (aq iM) 93 [bH l,.str s] M=some (.tuple [bH (lN l s).1,.int .i64 (lN l s).2],M):=fun M=>lF (cO (c93 hf.prt s hs) M)
 have q2:=k94 hf (lN l s).2 (hf.join s) CS;have hp:(bl l t).pieces=l:=rfl;generalize lN l s=c at q1 q2 ⊢;generalize bl l t=f at q2 hp ⊢;generalize bl c.1 t=F at q2 ⊢;simp only[bC,hp] at q2;simp only[age,E43,iZ,bC,q1,q2,hp,EW,seval]<;>rfl
def c82{l:List Piece}{t:Tree}(hf:FI l t)(s:Bytes)(hs:s.length<=100000)(g:Int):aq iM 82 [iZ (bl l t),.str s,.int .i64 g] []=some (.tuple [.agg (bC (bl (mU l s g).1 t)),.int .i64 (mU l s g).2],[]):=by
 refine aI ?_;have q1:∀M,aL (aq iM) 150 [bH l,.str s,.int .i64 g] M=some (.tuple [bH (mU l s g).1,.int .i64 (mU l s g).2],M):=fun M=>lF (cO (ajQ hf.prt s hs g) M)
 have q2:=k94 hf (mU l s g).2 (hf.move s g) C7;have hp:(bl l t).pieces=l:=rfl;generalize mU l s g=c at q1 q2 ⊢;generalize bl l t=f at q2 hp ⊢;generalize bl c.1 t=F at q2 ⊢;simp only[bC,hp] at q2;simp only[agD,E82,iZ,bC,q1,q2,hp,EW,seval]<;>rfl
def k34{g:Int}(hg:mq g=true)(M:aK):aL (aq iM) 34 [.int .i64 g] M=some (.agg (bC (bl (pr g) oO)),M):=by
 refine cO (aI ?_) M;have q1:∀M,aL (aq iM) 77 [.int .i64 g] M=some (bH (pr g),M):=fun M=>lG (cO (c77 g) M)
 have q2:=fun M=>lG (k78 M)
 have q3:=fun M=>lG ((FI.new hg).xq M)
 generalize bl (pr g) oO=F at q3 ⊢;generalize pr g=p at q1 q3 ⊢;simp only[bc,bC] at q2 q3;simp only[aga,E34,bC,q1,q2,q3,EW,seval]<;>rfl
end
def ahW(xs:List ag):ke [.arr 3 0 xs] (iC [0]) [0]=some [.arr 3 0 xs]:=rfl
section
attribute [local irreducible] fP fi kD gK dp kr aq aL ct bI
def ak8(a b:Piece)(M:aK):aL (aq fO) 137 [.agg (cL a),.agg (cL b)] M=some (.int .i64 (Lib.compareBytes a.aR b.aR),M):=by
 have h:aq fO 137 [dn a,dn b] []=some (.int .i64 (Lib.compareBytes a.aR b.aR),[]):=by
  refine aI ?_;have q:=fun M=>lS (aa2 a.aR b.aR M)
  simp only[Yb,aiz,dn,cL,q,EW,seval]
 exact cO h M
def ala(a b:Piece)(M:aK):aL (aq fO) 141 [.agg (cL a),.agg (cL b)] M=some (.bool (a.aR==b.aR),M):=by
 have h:aq fO 141 [dn a,dn b] []=some (.bool (a.aR==b.aR),[]):=by
  refine aI ?_;simp only[Yf,aiE,dn,cL,EW,seval]
 exact cO h M
def ak9{p:Piece}(h:(bw p.aR).2=0/\0<=p.group/\p.group<8/\1<=p.dJ/\p.dJ<=1099511627776)(hp:p.aR.length<=100000)(M:aK):aL (aq fO) 139 [.agg (cL p)] M=some (.bool false,M):=by
 have h:aq fO 139 [dn p] []=some (.bool false,[]):=by
  refine aI ?_;obtain⟨h1,h2,h3,h4,h5⟩:=h;have q1:=Qz p.aR hp;have q2:=fun M=>lS (aa3 p.group M)
  have g1:Nw p.group=true:=by simp[Nw,h2,h3]
  have g2:(p.dJ<1)=False:=Gp;have g3:(1099511627776<p.dJ)=False:=Gp;simp only[Yd,aiB,dn,cL,q1,q2,h1,g1,g2,g3,dE,EW,seval]
 exact cO h M
def alb{l:List Piece}(h:jS l)(M:aK):aL (aq fO) 142 [bH l,.func 137 []] M=some (.bool true,M):=by
 have hm:=h.many
 have key:∀(i:Nat),i<l.length->∀ {k r},(∀e,kr (aq fO) [.tmp 4] 0 k ⟨.exit 0,e,[]⟩=r)->fP (aq fO) [.tmp 4] 0 k (.loop [0,1,5] VY) [(0,bH l),(1,.func 137 []),(5,.int .i64 i)] []=r:=by
  intro i;induction i with
  |zero =>
   intro _ k r hx;rw[bX];simp only[Uw,bf,ga,EW,seval];exact hx _
  |succ i ih =>
   intro hi k r hx;rw[bX];have h1:=aj hi;have h2:=aj (show i<l.length by omega)
   have cr:=bT.1 h.ju i (i+1) (by omega) hi (by omega)
   have q:(Lib.compareBytes l[i+1].aR l[i].aR<0)=False:=by
    rw[yY]; simp only[fe,mb]; rw[rR cr]; simp
   have g1:(0<((i+1:Nat):Int))=True:=Az;have g2:IntKind.i64.wrap (((i+1:Nat):Int)-1)=(i:Int):=by rw[gx (by omega) (by omega)]; omega
   have g3:(((i+1:Nat):Int)<0)=False:=Gp;have g4:((i:Int)<0)=False:=Gp;have i1:=ih (by omega) hx
   simp only[Uw,g1,g2,g3,g4,h1,h2,dQ,gr,IZ,IL,bg,ak8,q,EW,seval];exact i1
 refine cO (aI ?_) M;obtain⟨p,r,hl,_⟩:=h.fst;have hpos:0<l.length:=by rw[hl]; simp
 have g1:IntKind.i64.wrap ((l.length:Int)-1)=((l.length-1:Nat):Int):=by rw[gx (by omega) (by omega)]; omega
 have i1:=fun {k r} hx=>key (l.length-1) (by omega) (k:=k) (r:=r) hx
 simp only[Yg,Uw,g1,EW,seval];refine i1 fun e=>?_
 simp only[Uw,EW,seval]
def alc{l:List Piece}(h:jS l)(hp:∀p,p∈l->p.aR.length<=100000)(M:aK):aL (aq fO) 143 [bH l,.func 139 []] M=some (.bool false,M):=by
 have hm:=h.many
 have q:∀M,aL (aq fO) 200 [bH l,.func 139 []] M=some (.int .i64 (-1),M):=fun M=>by
  refine cO (aI ?_) M;simp only[YB,ZH,EW,seval];refine pj (xs:=l) (by omega) (fun _ (_:Unit)=>()) (fun _ i=>[(0,bH l),(1,.func 139 []),(7,.int .i64 l.length),(8,.int .i64 i)]) (fun _=>[]) (fun _=>some (ag.int .i64 (-1),([]:aK))) (fun _=>?_) (fun pre x post _ hh hx cr hw h0 hm hi=>?_) ()
  ·simp only[ZH,bf,EW,seval]
  ·have q:=fun M=>ak9 (h.ok x hm) (hp x hm) M
   have i1:=hi ();simp only[ZH,cr,hx,hw,h0,dQ,gr,IZ,IL,q,EW,seval];exact i1
 refine cO (aI ?_) M;simp only[Yh,aiF,q,EW,seval]
def ajN{l:List Piece}(h:jS l):aq fO 144 [.dg 0 0 3 0 l.length,.func 141 []] [.arr 3 0 (l.map dn)]=some (.dg 0 0 3 0 l.length,[.arr 3 0 (l.map dn)]):=by
 have hm:=h.many
 have key:∀(n i:Nat),0<i->i+n=l.length->∀ {k r},(∀e,kr (aq fO) [.tmp 4] 1 k ⟨.exit 0,(0,.dg 0 0 3 0 l.length)::e,[.arr 3 0 (l.map dn)]⟩=r)->fP (aq fO) [.tmp 4] 1 k (.loop [0,1,5] VZ) [(0,.dg 0 0 3 0 l.length),(1,.func 141 []),(5,.int .i64 i)] [.arr 3 0 (l.map dn)]=r:=by
  intro n;induction n with
  |zero =>
   intro i h0 hi k r hx;rw[bX];have e1:((i:Int)<(l.length:Int))=False:=Gp;simp only[MI,bU,e1,EW,seval];exact hx _
  |succ n ih =>
   intro i h0 hi k r hx;rw[bX];have hil:i<l.length:=by omega
   have h1:=aj hil;have h2:=aj (show i-1<l.length by omega)
   have cr:=bT.1 h.ju (i-1) i (by omega) hil (by omega)
   have q:(l[i].aR==l[i-1].aR)=false:=by
    rw[bL]; intro e; rw[e,ik] at cr; cases cr
   have e1:((i:Int)<(l.length:Int))=True:=Az;have g2:IntKind.i64.wrap ((i:Int)-1)=((i-1:Nat):Int):=by rw[gx (by omega) (by omega)]; omega
   have g3:IntKind.i64.wrap ((i:Int)+1)=((i+1:Nat):Int):=by rw[gx (by omega) (by omega)]; omega
   have g5:(((i-1:Nat):Int)<(l.length:Int))=True:=Az;have i1:=ih (i+1) (by omega) (by omega) hx
   simp only[MI,bU,e1,g2,g3,g5,h1,h2,dQ,gr,IZ,IL,bg,fz,aP,ala,q,EW,seval];exact i1
 refine aI ?_;obtain⟨p,r,hl,_⟩:=h.fst;have hpos:0<l.length:=by rw[hl]; simp
 have i1:=fun {k r} hx=>key (l.length-1) 1 (by omega) (by omega) (k:=k) (r:=r) hx
 simp only[Yi,MI,bU,EW,seval];refine bK (fun hb=>?_) (fun hb=>?_)
 ·simp only[MI,EW,seval]
 ·simp only[MI,EW,seval];refine i1 fun e=>?_
  simp only[MI,EW,seval]
def c74{l:List Piece}(h:jS l)(hp:∀p,p∈l->p.aR.length<=100000):aq fO 74 [bH l] []=some (.bool true,[]):=by
 refine aI ?_;obtain⟨p,r,hl,hp0⟩:=h.fst;have hm:=h.many;have hpos:0<l.length:=by rw[hl]; simp
 have g1:(((l.length:Nat):Int)==0)=false:=by simp; rw[hl]; simp
 have g2:((16:Int)<(l.length:Int))=False:=Gp;have g3:l[0]?=some p:=by rw[hl]; rfl
 have q1:=alb h;have q2:=alc h hp;have q3:=lS' (LH (f:=145) (bytes:=32) (sz:=3) dn rfl (fun _=>rfl) (by omega) (l:=l) (by rw[hl]; simp) (by omega) [])
 have q4:aL (aq fO) 144 [.dg 0 0 3 0 l.length,.func 141 []] [.arr 3 0 (l.map dn)]=some (.dg 0 0 3 0 l.length,[.arr 3 0 (l.map dn)]) :=
  lL (ids:=[0]) rfl rfl (ahW _) rfl rfl (ajN h) rfl rfl rfl rfl rfl
 simp only[aG,aX] at q3;simp only[Vp,E74,g1,g2,g3,q1,q2,q3,q4,hp0,dQ,gr,cL,bU,an,EW,seval]
def PU{X:Option (ag×aK)}{v:ag×aK}(h:∃r,r=v/\X=some r):X=some v:=by
 obtain⟨_,rfl,h⟩:=h;exact h
def ajH(a b:List ew)(ha:a.length<=100000):aq cY 132 [ib a,ib b] []=some (.bool (decide (a=b)),[]):=by
 refine aI ?_;cases h0:(a.length:Int) != (b.length:Int)
 ·have hl:a.length=b.length:=by simp at h0; omega
  simp only[P6,O0,h0,EW,seval];refine PU (J1 (xs:=a) (by omega) (fun m (_:Unit)=>a.take m=b.take m) (fun _ i=>[(0,ib a),(1,ib b),(5,.int .i64 i)]) (fun _=>[]) (fun r=>r=(.bool (decide (a=b)),[])) (fun _ hI=>?_) (fun pre x post _ e hx cr hw h0 hm hI hi=>?_) () rfl)
  ·refine⟨_,rfl,?_⟩;rw[oL (II hl hI)];simp only[O0,bf,EW,seval]
  ·have hp:=(aC.1 hx).1;obtain⟨y,hy⟩:∃y,b[pre.length]?=some y:=⟨_,aj (by omega)⟩
   cases h1:decide (x=y)
   ·have hd:decide (a=b)=false:=eH fun e=>of_decide_eq_false h1 (by rw[e,hy] at hx; injection hx with hx; exact hx.symm)
    refine⟨_,rfl,?_⟩;rw[hd];simp only[O0,cr,hx,hy,h0,h1,gh,PM,UO,EW,seval]
   ·have i1:=hi () (Fg hI hx (by rw[hy,c8 h1]))
    simp only[O0,cr,hx,hy,hw,h0,h1,gh,PM,UO,EW,seval];exact i1
 ·have hd:decide (a=b)=false:=eH fun e=>by rw[e] at h0; simp at h0
  rw[hd];simp only[P6,O0,h0,EW,seval]
def ak3 a b ha:=cP (ajH a b ha)
def c66(x y:Node)(hx:x.aM.length<=100000):aq cY 66 [.agg (aU x),.agg (aU y)] []=some (.bool (decide (x=y)),[]):=by
 rw[Za];have hk:=fun M=>ak3 x.aM y.aM hx M
 refine aI ?_;simp only[agt,E66,ck,aU,EN,seval]
 repeat' ((first|apply bK|apply cI|apply eW)<;>intro hb<;>simp only[hb,EN,E66,hk,yV,seval])
 all_goals clear hk
 all_goals simp_all [bne]
def k66 x y hx:=cP (c66 x y hx)
def c22(a b:List Node)(ha:a.length<=100000)(he:∀n,n∈a->n.aM.length<=100000):aq cY 22 [aZ a,aZ b] []=some (.bool (decide (a=b)),[]):=by
 refine aI ?_;cases h0:(a.length:Int) != (b.length:Int)
 ·have hl:a.length=b.length:=by simp at h0; omega
  simp only[aaz,E22,h0,EW,seval];refine PU (J1 (xs:=a) (by omega) (fun m (_:Unit)=>a.take m=b.take m) (fun _ i=>[(0,aZ a),(1,aZ b),(5,.int .i64 i)]) (fun _=>[]) (fun r=>r=(.bool (decide (a=b)),[])) (fun _ hI=>?_) (fun pre x post _ e hx cr hw h0 hm hI hi=>?_) () rfl)
  ·refine⟨_,rfl,?_⟩;rw[oL (II hl hI)];simp only[E22,bf,EW,seval]
  ·have hp:=(aC.1 hx).1;obtain⟨y,hy⟩:∃y,b[pre.length]?=some y:=⟨_,aj (by omega)⟩
   have q:=fun M=>k66 x y (he x hm) M
   simp only[aU] at q;cases h1:decide (x=y)<;>rw[h1] at q
   ·have hd:decide (a=b)=false:=eH fun e=>of_decide_eq_false h1 (by rw[e,hy] at hx; injection hx with hx; exact hx.symm)
    refine⟨_,rfl,?_⟩;rw[hd];simp only[E22,cr,hx,hy,h0,q,ck,aU,EW,seval]
   ·have i1:=hi () (Fg hI hx (by rw[hy,c8 h1]))
    simp only[E22,cr,hx,hy,hw,h0,q,ck,aU,EW,seval];exact i1
 ·have hd:decide (a=b)=false:=eH fun e=>by rw[e] at h0; simp at h0
  rw[hd];simp only[aaz,E22,h0,EW,seval]
def k22 a b ha he:=cP (c22 a b ha he)
def c20(a b:Tree)(ha:a.ae.length<=100000)(he:∀n,n∈a.ae->n.aM.length<=100000):aq cY 20 [bJ a,bJ b] []=some (.bool (decide (a=b)),[]):=by
 have hd:decide (a=b)=(a.next==b.next&&(a.ai==b.ai&&decide (a.ae=b.ae))):=by
  obtain⟨a1,a2,a3⟩:=a;obtain⟨b1,b2,b3⟩:=b;rw[eb]; simp; constructor
  ·rintro⟨h1,h2,h3⟩; exact⟨h2,h3,h1⟩
  ·rintro⟨h1,h2,h3⟩; exact⟨h3,h1,h2⟩
 rw[hd];have q:=fun M=>k22 a.ae b.ae ha he M
 refine aI ?_
 cases h1:a.next==b.next<;>cases h2:a.ai==b.ai <;>
  simp only[af3,E20,h1,h2,q,bJ,bc,bP,cd,dI,EW,seval]
def k20(a b:Tree)(ha:a.ae.length<=100000)(he:∀n,n∈a.ae->n.aM.length<=100000)(M:aK):aL (aq cY) 20 [.agg [aZ a.ae,.int .i64 a.next,.int .i64 a.ai],.agg [aZ b.ae,.int .i64 b.next,.int .i64 b.ai]] M=some (.bool (decide (a=b)),M):=cO (c20 a b ha he) M
end
def G7{α:Type}{xs pre:List α}(hp:pre.length<=1000000)(hl:pre.length<xs.length)(h1:0<pre.length):∃y,xs[pre.length-1]?=some y/\IntKind.i64.wrap ((pre.length:Int)-1)=((pre.length-1:Nat):Int)/\(((pre.length-1:Nat):Int)<0)=False/\(((pre.length-1:Nat):Int)<(xs.length:Int))=True :=
 ⟨_,aj (by omega),by rw[gx (by omega) (by omega)]; omega,by simp,by simp only[fe,jM]; omega⟩
def Mp{α:Type}{R:α->α->Prop}{xs:List α}(h:xs.Pairwise R){i j:Nat}{x y:α}(hx:xs[i]?=some x)(hy:xs[j]?=some y)(hl:i<j):R x y:=by
 obtain⟨h1,rfl⟩:=aC.1 hx;obtain⟨h2,rfl⟩:=aC.1 hy;exact bT.1 h i j h1 h2 hl
section
attribute [local irreducible] fP fi kD gK dp kr aq aL ct bI
abbrev AL:=AM Int
abbrev eK(l:AL):List ag:=wA l
abbrev eV(l:AL):List ag:=qP (ag.int .i64) l
def bkV(B:Nat)(M:aK)(l:AL):List.map (ag.jN B M) (eV l)=eV l:=aao _ B M (fun _=>rfl) l
def adg(l:AL):(eV l).all ag.plain=true:=bu.2 fun x hx=>by
 obtain⟨p,_,rfl⟩:=bR.1 hx;rfl
def adf(l:AL):(eK l).all ag.plainCell=true:=bu.2 fun x hx=>by
 obtain⟨p,_,rfl⟩:=bR.1 hx;rfl
def nb(d:Int)(mi:AL×AL)(e:ew):AL×AL:=(kl mi.1 e.au (mG ((dq mi.1 e.au).getD 0+1)),kl mi.2 e.au d)
def oA(ae:List Node):AL×AL:=ae.foldl (fun mi n=>n.aM.foldl (nb n.au) mi) ([],[])
def ajO(ae:List Node)(next ai:Int)(hn:ae.length<=100000)(he:∀n,n∈ae->n.aM.length<=100000):aq cY 146 [.ptr 0 0] [.cells [aZ ae,.int .i64 next,.int .i64 ai]] =
  some (.tuple [.iB (eK (oA ae).1) (eV (oA ae).1),.iB (eK (oA ae).2) (eV (oA ae).2)],[.cells [aZ ae,.int .i64 next,.int .i64 ai]]):=by
 refine aI ?_;simp only[Yj,O1,EW,seval]
 refine pj (xs:=ae) (by omega) (fun l mi=>l.foldl (fun mi n=>n.aM.foldl (nb n.au) mi) mi) (fun _ i=>[(4,.gD 1),(5,.gD 2),(16,aZ ae),(17,.int .i64 ae.length),(18,.int .i64 i)]) (fun mi=>[.cells [aZ ae,.int .i64 next,.int .i64 ai],.map (eK mi.1) (eV mi.1),.map (eK mi.2) (eV mi.2)])
  (fun mi=>some (.tuple [.iB (eK mi.1) (eV mi.1),.iB (eK mi.2) (eV mi.2)],[.cells [aZ ae,.int .i64 next,.int .i64 ai]])) (fun mi=>?_) (fun pre x post mi _ hx cr hw h0 hm hi=>?_) ([],[])
 ·simp only[O1,bf,gN,adg,adf,dU,dy,EW,seval]
 ·simp only[O1,cr,hx,h0,bA,bkV,ck,aU,EW,seval]
  refine pj (xs:=x.aM) (by have:=he x hm; omega) (fun l mi=>post.foldl (fun mi n=>n.aM.foldl (nb n.au) mi) (l.foldl (nb x.au) mi)) (fun _ i=>[(4,.gD 1),(5,.gD 2),(7,.ptr 3 0),(16,aZ ae),(17,.int .i64 ae.length),(18,.int .i64 pre.length),(23,ib x.aM),(24,.int .i64 x.aM.length),(25,.int .i64 i)]) (fun mi=>[.cells [aZ ae,.int .i64 next,.int .i64 ai],.map (eK mi.1) (eV mi.1),.map (eK mi.2) (eV mi.2),.cells [.int .i64 x.au,.int .i64 x.kind,.int .i64 x.dj,jo x.data,ib x.aM,.int .i64 x.up]])
   (fun mi=>some (.tuple [.iB (eK mi.1) (eV mi.1),.iB (eK mi.2) (eV mi.2)],[.cells [aZ ae,.int .i64 next,.int .i64 ai]])) (fun mi=>?_) (fun pre' y post' mi _ hy hlt' hw' h0' _ hi'=>?_) mi
  ·have i1:=hi mi;simp only[O1,bf,gN,hw,bkV,EW,seval];exact i1
  ·have i1:=hi' (nb x.au mi y);simp only[nb] at i1;simp only[O1,hlt',hy,h0',hw',gh,eo,mapOf,mu,tN,Bl,bkV,nb,bA,EW,seval];exact i1
def ald ae next ai hn he p M hM:=cM (p:=p) (M:=M) hM (ajO ae next ai hn he)
def CH(d k:Int):∀(l:List ew)(mi:AL×AL),0<=(dq mi.1 k).getD 0->(dq mi.1 k).getD 0+mW l k<=1000000000->(dq (l.foldl (nb d) mi).1 k).getD 0=(dq mi.1 k).getD 0+mW l k
 | [],mi,_,_=>by simp[uI]
 |x::l,mi,h0,hb=>by
  rw[bA];rw[rH] at hb ⊢
  have hs:(dq (nb d mi x).1 k).getD 0=(dq mi.1 k).getD 0+(if x.au=k then 1 else 0):=by
   simp only[nb];rw[fX]
   by_cases hx:x.au=k
   ·rw[az hx.symm,az hx,hx];rw[az hx] at hb;simp only[bz];exact gx (by omega) (by omega)
   ·rw[ak (fun hh=>hx hh.symm),ak hx]; omega
  rw[CH d k l _ (by rw[hs]; split<;>omega) (by rw[hs]; split at hb<;>simp_all<;>omega),hs]
  split<;>omega
def CI(k:Int):∀(l:List Node)(mi:AL×AL),0<=(dq mi.1 k).getD 0->(dq mi.1 k).getD 0+qN l k<=1000000000->(dq (l.foldl (fun mi n=>n.aM.foldl (nb n.au) mi) mi).1 k).getD 0=(dq mi.1 k).getD 0+qN l k
 | [],mi,_,_=>by simp[qN]
 |x::l,mi,h0,hb=>by
  rw[bA];rw[qU] at hb ⊢;have h1:=CH x.au k x.aM mi h0 (by omega)
  rw[CI k l _ (by rw[h1]; omega) (by rw[h1]; omega),h1]
  omega
def FX(ae:List Node)(k:Int)(hb:qN ae k<=1000000):(dq (oA ae).1 k).getD 0=qN ae k:=by
 have:=CI k ae ([],[]) (by simp[dq]) (by simp[dq]; omega)
 simpa[dq,oA] using this
def HB(d k u:Int):∀(l:List ew)(mi:AL×AL),(∀e,e∈l->e.au=k->d=u)->(dq mi.2 k=some u\/0<mW l k)->dq (l.foldl (nb d) mi).2 k=some u
 | [],mi,_,h=>by
  rcases h with h|h
  ·exact h
  ·simp[uI] at h
 |x::l,mi,hd,h=>by
  rw[bA];refine HB d k u l _ (fun e he=>hd e (aO _ he)) ?_
  simp only[nb];rw[fX]
  by_cases hx:x.au=k
  ·rw[az hx.symm,hd x aD hx]; exact .inl rfl
  ·rw[ak (fun hh=>hx hh.symm)]
   rcases h with h|h
   ·exact .inl h
   ·rw[rH,ak hx] at h; exact .inr h
def CG(d k:Int):∀(l:List ew)(mi:AL×AL),mW l k=0->dq (l.foldl (nb d) mi).2 k=dq mi.2 k
 | [],_,_=>rfl
 |x::l,mi,h=>by
  rw[rH] at h;have hx:¬x.au=k:=fun hh=>by rw[az hh] at h; omega
  rw[bA,CG d k l _ (by rw[ak hx] at h; exact h)]
  simp only[nb];rw[fX,ak (fun hh=>hx hh.symm)]
def HC(k u:Int):∀(l:List Node)(mi:AL×AL),(∀n,n∈l->∀e,e∈n.aM->e.au=k->n.au=u)->(dq mi.2 k=some u\/0<qN l k)->dq (l.foldl (fun mi n=>n.aM.foldl (nb n.au) mi) mi).2 k=some u
 | [],mi,_,h=>by
  rcases h with h|h
  ·exact h
  ·simp[qN] at h
 |x::l,mi,hd,h=>by
  rw[bA];refine HC k u l _ (fun n hn=>hd n (aO _ hn)) ?_
  rcases fA (mW x.aM k) with h0|h0
  ·rw[CG x.au k x.aM mi h0];rcases h with h|h
   ·exact .inl h
   ·rw[qU,h0] at h; exact .inr (by omega)
  ·exact .inl (HB x.au k u x.aM mi (hd x aD) (.inr h0))
def cn.JN{t:Tree}{cf:Int->Nat}(h:cn t cf 0){i:Int}{n:Node}(hi:find t.ae i=some n)(hk:n.kind=2)(h1:i≠1):dq (oA t.ae).2 i=some n.up:=by
 have hl:=h.dj _ _ hi;rw[ak (by have:=(h.num _ _ hi).1; omega),h.one _ _ hi hk h1] at hl
 refine HC i n.up t.ae ([],[]) (fun m hm e he hei=>?_) (.inr (by omega))
 obtain⟨_,_,_,_,q,hq,hu⟩:=h.wB _ _ e ((ft h.jB.ju).2 ⟨hm,rfl⟩) he;rw[hei,hi] at hq; cases hq;exact(hu hk).symm
def cn.Ul{t:Tree}{cf:Int->Nat}{x:Int}(h:cn t cf x):∀(m:Nat)(i:Int)(out:List Int)(n:Node),find t.ae i=some n->n.kind=2->cf i<=m->(ru t.ae m i (out++[i]))[out.length+cf i]?=some 1:=by
 intro m;induction m with
 |zero =>
  intro i out n hi hk hd
  have h1:i=1:=by
   rcases Int.decEq i 1 with h1|h1
   ·have:=(h.sy _ _ hi hk h1).1; omega
   ·exact h1
  have h0:cf i=0:=by omega
  rw[h0];simp[ru,h1]
 |succ m ih =>
  intro i out n hi hk hd;simp only[ru]
  by_cases h1:i=1
  ·subst h1; simp[h.y9]
  ·obtain⟨a,p,b,c⟩:=h.sy _ _ hi hk h1;simp only[gd,ne_eq,h1,mc,↓reduceIte,bD,hi,c9,cU,bz,hk,an,dE,af];have:=ih n.up (out++[i]) p b c (by omega)
   simp only[aJ,av,aG] at this;rw[a,show out.length+(cf n.up+1)=out.length+(0+1)+cf n.up by omega]
   exact this
def cn.OE{t:Tree}{cf:Int->Nat}{x:Int}(h:cn t cf x){i:Int}{n:Node}(hi:find t.ae i=some n)(hk:n.kind=2):(rS t.ae i)[cf i]?=some 1:=by
 have:=h.Ul t.ae.length i [] n hi hk (by have:=h.yh hi hk; omega)
 simpa[rS] using this
def eC(cs:List Int):List ag:=cs.map fun c => .int .i64 c
def eT(cs:List Int):List ag:=cs.map fun _ => .bool true
def Kv:∀(cs:List Int)(c:Int),c∉cs->uz .i (.int .i64 c) (eC cs) (eT cs)=some none
 | [],c,_=>rfl
 |x::cs,c,h=>by
  show bI (ig .i (.int .i64 c) (.int .i64 x)) (fun b=>zk b (some (some (.bool true))) (uz .i (.int .i64 c) (eC cs) (eT cs)))=_
  rw[Kv cs c (fun hh=>h (aO _ hh))]
  have:(c==x)=false:=by simp; rintro rfl; exact h aD
  simp only[ig,↓reduceIte,bZ,this,nA]
def Kw:∀(cs:List Int)(c:Int),c∉cs->sH .i (.int .i64 c) (.bool true) (eC cs) (eT cs)=some (eC (cs++[c]),eT (cs++[c]))
 | [],c,_=>by
  show bI (ig .i (.int .i64 c) (.int .i64 c)) (fun _=>some ([ag.int .i64 c],[ag.bool true]))=_
  simp only[ig,↓reduceIte,bZ];rfl
 |x::cs,c,h=>by
  show bI (ig .i (.int .i64 c) (.int .i64 x)) (fun b=>zk b (some (ag.int .i64 c::eC cs,ag.bool true::eT cs)) (bI (sH .i (.int .i64 c) (.bool true) (eC cs) (eT cs)) fun y=>some (ag.int .i64 x::y.1,ag.bool true::y.2)))=_
  rw[Kw cs c (fun hh=>h (aO _ hh))]
  have:(c==x)=false:=by simp; rintro rfl; exact h aD
  simp only[ig,↓reduceIte,bZ,this,nA];rfl
def bkT(B:Nat)(M:aK)(l:List Int):List.map (ag.jN B M) (eT l)=eT l:=by
 unfold eT;rw[fT];exact bW (fun p _=>rfl)
def S9{s:Bytes}(h:Nm s):oz s/\s.length<=100000/\dB s=true:=by
 refine⟨trivial,?_,h⟩;unfold Nm dB at h;simp only[bm,gS,jj,dk] at h;omega
def akc{t:Tree}{cf:Int->Nat}(hi:cn t cf 0)(ht:Small t){n:Node}{ni:Int}(hf:find t.ae ni=some n):aq cY 201 [.ptr 0 0,ck n] [.cells [aZ t.ae,.int .i64 t.next,.int .i64 t.ai]]=some (.bool true,[.cells [aZ t.ae,.int .i64 t.next,.int .i64 t.ai]]):=by
 obtain⟨ae,next,ai⟩:=t
 have he:=hi.few hf;have hE:oT n.aM:=hi.jB.aM n (cg hf).1;have hC:=(hi.xJ _ _ hf).1;have hl:decide ((n.aM.length:Int)<=64)=true:=oL (by omega)
 have hlk:mr (.bool false) false none = .bool false:=rfl;refine aI ?_;simp only[Qc,UA,ck,aU,EW,seval];refine PU (J1 (xs:=n.aM) (by omega) (fun m cs=>cs=(n.aM.take m).map ew.ai) (fun _ i=>[(0,.ptr 0 0),(3,.ptr 1 0),(5,.gD 2),(12,ib n.aM),(13,.int .i64 n.aM.length),(14,.int .i64 i)]) (fun cs=>[.cells [aZ ae,.int .i64 next,.int .i64 ai],.cells (aU n),.map (eC cs) (eT cs)]) _ (fun cs _=>?_) (fun pre x post cs e hx cr hw h0 hm hcs hi'=>?_) [] rfl)
 ·refine⟨_,rfl,?_⟩;simp only[aU];simp only[UA,bf,hl,EW,seval]
 ·have hp:=(aC.1 hx).1;have i1:=hi' (cs++[x.ai]) (by rw[dz,hx,hcs]; simp)
  obtain⟨x1,x2,_,x4,m,hm',_⟩:=hi.wB _ _ x hf hm;obtain⟨na,nl,no⟩:=S9 x4
  have hat:HO ae x.au (kY ae x.au)=true:=by
   rcases rT hi.jB.ju x.au with ⟨h1,_⟩|⟨_,h2⟩
   ·exact h1
   ·simp only at hm' h2; rw[hm'] at h2; cases h2
  have hcm:x.ai∉cs:=fun hc=>by
   rw[hcs,e,List.take_left] at hc;obtain⟨y,hy,hyc⟩:=bR.1 hc;rw[e,dw] at hC;exact hC.2.2 y hy x aD hyc
  have b1:decide (x.ai<1)=false:=eH (by omega)
  have b2:decide (ai<=x.ai)=false:=eH (by simp only at x2; omega)
  have q79:=fun a b M=>VH ae next ai x.au hi.jB.ju ht.ae 0 (.cells [aZ ae,.int .i64 next,.int .i64 ai]::a::b::M) rfl
  have q41:=fun M=>VA x.name nl na M
  simp only[aU] at i1 ⊢;cases h1:decide ((0:Int)<(pre.length:Int))
  ·simp only[UA,cr,hx,hw,h0,gh,eo,q79,q41,hat,no,b1,b2,mapOf,Kv _ _ hcm,Kw _ _ hcm,hlk,bkT,h1,EW,seval];exact i1
  ·obtain⟨y,c1,c2,c3,c4⟩:=G7 (xs:=n.aM) (pre:=pre) (by omega) hp (by simpa using h1)
   have hlt':strLt y.name x.name=true:=Mp hE c1 hx (by simp at h1; omega)
   simp only[UA,cr,hx,hw,h0,gh,eo,q79,q41,hat,no,b1,b2,mapOf,Kv _ _ hcm,Kw _ _ hcm,hlk,bkT,h1,c1,c2,c3,c4,hlt',EW,seval];exact i1
def alr{ae:List Node}{next ai:Int}{cf:Int->Nat}(hi:cn ⟨ae,next,ai⟩ cf 0)(ht:Small ⟨ae,next,ai⟩){n:Node}{ni:Int}(hf:find ae ni=some n)(p:Nat)(M:aK)(hM:nth M p=some (.cells [aZ ae,.int .i64 next,.int .i64 ai])) :
  aL (aq cY) 201 [.ptr p 0,.agg (aU n)] M=some (.bool true,M):=by
 have:=pC hM (akc hi ht hf) rfl rfl rfl rfl rfl rfl rfl rfl rfl rfl;rwa[um hM] at this
set_option maxHeartbeats 1000000 in
def ajP{t:Tree}{cf:Int->Nat}(hi:cn t cf 0)(ht:Small t){n:Node}{ni:Int}(hf:find t.ae ni=some n)(many jK:Int)(hm:many=qN t.ae ni)(hin:n.kind=2->ni≠1->jK=n.up) :
  aq cY 147 [.ptr 0 0,ck n,.int .i64 many,.int .i64 jK] [.cells [aZ t.ae,.int .i64 t.next,.int .i64 t.ai]]=some (.bool true,[.cells [aZ t.ae,.int .i64 t.next,.int .i64 t.ai]]):=by
 obtain⟨ae,next,ai⟩:=t
 have hno:n.au=ni:=hi.au hf;have hl:=hi.dj _ _ hf;rw[ak (by have:=(hi.num _ _ hf).1; omega)] at hl
 have hl:n.dj=(qN ae ni:Int):=by simpa using hl
 have hm:many=(qN ae ni:Int):=hm;have hlm:(n.dj==many)=true:=by rw[hm,hl]; simp
 have q108:=fun a M=>alr hi ht hf 0 (.cells [aZ ae,.int .i64 next,.int .i64 ai]::a::M) rfl
 have q44:=fun au a M=>VE ae next ai au hi.jB.ju ht.ae 0 (.cells [aZ ae,.int .i64 next,.int .i64 ai]::a::M) rfl
 simp only[aU] at q108;refine aI ?_;rcases hi.kind _ _ hf with hk|hk
 ·obtain⟨f1,f2,f3⟩:=hi.file _ _ hf hk;have b1:(n.kind==1)=true:=by simp[hk]
  have b2:((n.aM.length:Int)==0)=true:=by rw[f1]; rfl
  have b3:(n.up==0)=true:=by simp[f2]
  have b4:decide ((n.data.length:Int)<=4096)=true:=by rw[bt]; omega
  simp only[Hx,Ux,ck,aU,b1,b2,b3,b4,hlm,EN,seval]
 ·have hd:=hi.dir _ _ hf hk;have b1:(n.kind==1)=false:=by simp[hk]
  have b2:(n.kind != 2)=false:=by simp[hk]
  have b3:decide ((0:Int)<(n.data.length:Int))=false:=by rw[hd]; simp
  by_cases h1:ni=1
  ·subst h1;obtain⟨r,r1,r2,r3⟩:=hi.root;have hrn:r=n:=by simp only at r1 hf; rw[hf] at r1; injection r1 with r1; exact r1.symm
   subst hrn
   have c0:qN ae 1=0:=by
    rcases fA (qN ae 1) with h0|h0
    ·exact h0
    ·obtain⟨m,e,e1,e2,e3⟩:=qV.1 h0;exact absurd e3 (hi.wB _ _ e ((ft hi.jB.ju).2 ⟨e1,rfl⟩) e2).2.2.1
   have c1:(r.au==1)=true:=by simp[hno]
   have c2:(r.up==1)=true:=by simp[r3]
   have c3:(r.dj==0)=true:=by simp[hl,c0]
   have c4:(many==0)=true:=by simp[hm,c0]
   simp only[Hx,Ux,ck,aU,b1,b2,b3,q108,c1,c2,c3,c4,EN,seval]
  ·have hl1:=hi.one _ _ hf hk h1;have c1:(n.au==1)=false:=by rw[hno]; simpa using h1
   have c2:(many != 1)=false:=by simp; omega
   have c3:(jK != n.up)=false:=by simp[hin hk h1]
   have c4:(n.dj != 1)=false:=by simp[hl1]
   have hul:=hi.sn hf hk;have hlast:=hi.OE hf hk;obtain⟨dd1,dd2⟩:=hi.deep _ _ hf hk;simp only at hul hlast;have hw:IntKind.i64.wrap (((rS ae n.au).length:Int)-1)=(cf ni:Int):=by rw[hno,hul,gx (by omega) (by omega)]; omega
   have hg:(rS ae n.au)[cf ni]?=some 1:=by rw[hno]; exact hlast
   have w1:=zB (rS ae n.au)
   by_cases h12:cf ni<12
   ·have d1:decide ((cf ni:Int)<12)=true:=by rw[bt]; omega
    simp only[Hx,Ux,ck,aU,b1,b2,b3,q108,c1,c2,c3,c4,q44,hw,hg,w1,d1,EN,seval]
   ·have d1:decide ((cf ni:Int)<12)=false:=by rw[dk]; omega
    have d2:((cf ni:Int)==12)=true:=by rw[dM]; omega
    have d3:((n.aM.length:Int)==0)=true:=by rw[dd2 (by omega)]; rfl
    simp only[Hx,Ux,ck,aU,b1,b2,b3,q108,c1,c2,c3,c4,q44,hw,hg,w1,d1,d2,d3,EN,seval]
def ale{ae:List Node}{next ai:Int}{cf:Int->Nat}(hi:cn ⟨ae,next,ai⟩ cf 0)(ht:Small ⟨ae,next,ai⟩){n:Node}{ni:Int}(hf:find ae ni=some n)(many jK:Int)(hm:many=qN ae ni)(hin:n.kind=2->ni≠1->jK=n.up)(p:Nat)(M:aK)(hM:nth M p=some (.cells [aZ ae,.int .i64 next,.int .i64 ai])) :
  aL (aq cY) 147 [.ptr p 0,.agg (aU n),.int .i64 many,.int .i64 jK] M=some (.bool true,M):=by
 have:=pC hM (ajP hi ht hf many jK hm hin) rfl rfl rfl rfl rfl rfl rfl rfl rfl rfl;rwa[um hM] at this
def cn.first{t:Tree}{cf:Int->Nat}(h:cn t cf 0):∃r rest,t.ae=r::rest/\r.au=1/\r.kind=2:=by
 obtain⟨r,r1,r2,_⟩:=h.root;cases hn:t.ae with
 |nil=>rw[hn] at r1; cases r1
 |cons x l =>
  refine⟨x,l,rfl,?_⟩;have hxf:find t.ae x.au=some x:=(ft h.jB.ju).2 ⟨by rw[hn]; exact aD,rfl⟩
  obtain⟨q1,q2⟩:=cg r1;rw[hn] at q1;rcases bb.1 q1 with rfl|q1
  ·exact⟨q2,r2⟩
  ·have hp:=h.jB.ju;rw[hn] at hp;have:=(bF.1 hp).1 r q1;have:=(h.num _ _ hxf).1;omega
set_option maxHeartbeats 1000000 in
def c75{t:Tree}{cf:Int->Nat}(hi:cn t cf 0)(ht:Small t):aq cY 75 [bJ t] []=some (.bool true,[]):=by
 obtain⟨ae,next,ai⟩:=t
 obtain⟨r,rest,r1,r2,r3⟩:=hi.first
 simp only at r1;have hn:ae.length<=200:=hi.ae;have hl1:1<=ae.length:=by rw[r1]; simp
 have hnx:=hi.next
 have hck:=hi.ai;simp only at hnx hck;have b1:decide ((ae.length:Int)<1)=false:=eH (by omega)
 have b2:decide ((200:Int)<(ae.length:Int))=false:=eH (by omega)
 have h0:ae[0]?=some r:=by rw[r1]; rfl
 have b3:(r.au != 1)=false:=by simp[r2]
 have b4:(r.kind != 2)=false:=by simp[r3]
 have b5:decide ((1099511627776:Int)<next)=false:=eH (by omega)
 have b6:decide (ai<1)=false:=eH (by omega)
 have b7:decide ((1099511627776:Int)<ai)=false:=eH (by omega)
 have q72:=fun a M=>ald ae next ai ht.ae ht.aM 1 (a :: .cells [aZ ae,.int .i64 next,.int .i64 ai]::M) rfl
 have hz0:Int.toNat 0=0:=rfl;refine aI ?_;simp only[agy,E75,bJ,bc,b1,b2,h0,hz0,ck,aU,b3,b4,b5,b6,b7,fG,EW,seval];refine pj (xs:=ae) (by omega) (fun _ (_:Unit)=>()) (fun _ i=>[(3,.ptr 1 0),(79,aZ ae),(80,.int .i64 ae.length),(81,.int .i64 i)]) (fun _=>[.cells [aZ ae,.int .i64 next,.int .i64 ai],.cells [aZ ae,.int .i64 next,.int .i64 ai]]) (fun _=>some (ag.bool true,([]:aK))) (fun _=>?_) (fun pre x post _ _ hx cr hw h0' hm hi'=>?_) ()
 ·simp only[E75,bf,q72,EW,seval];refine pj (xs:=ae) (by omega) (fun _ (_:Unit)=>()) (fun _ i=>[(3,.ptr 1 0),(6,.iB (eK (oA ae).1) (eV (oA ae).1)),(7,.iB (eK (oA ae).2) (eV (oA ae).2)),(129,aZ ae),(130,.int .i64 ae.length),(131,.int .i64 i)]) (fun _=>[.cells [aZ ae,.int .i64 next,.int .i64 ai],.cells [aZ ae,.int .i64 next,.int .i64 ai]]) (fun _=>some (ag.bool true,([]:aK))) (fun _=>?_) (fun pre x post _ _ hx cr hw h0' hm hi'=>?_) ()
  ·simp only[E75,bf,EW,seval]
  ·have i1:=hi' ();have hf:find ae x.au=some x:=(ft hi.jB.ju).2 ⟨hm,rfl⟩
   have q73:=fun a b M=>ale hi ht hf _ _ (FX ae x.au (bh (hi.JL x.au) (by omega))) (fun hk h1=>by
    have:=hi.JN hf hk h1;simp only at this
    show(dq (oA ae).2 x.au).getD 0=x.up
    rw[this]; rfl) 1 (a :: .cells [aZ ae,.int .i64 next,.int .i64 ai]::b::M) rfl
   simp only[aU] at q73;simp only[E75,cr,hx,hw,h0',ck,aU,mapOf,mu,Bl,q73,EW,seval];exact i1
 ·have i1:=hi' ();have hp:=(aC.1 hx).1;have hf:find ae x.au=some x:=(ft hi.jB.ju).2 ⟨hm,rfl⟩;have c5:decide (next<=x.au)=false:=eH (by have:=(hi.num _ _ hf).2; simp only at this; omega)
  have c6:decide ((64:Int)<(x.aM.length:Int))=false:=eH (by have:=hi.few hf; omega)
  cases h1:decide ((0:Int)<(pre.length:Int))
  ·simp only[E75,cr,hx,hw,h0',ck,aU,h1,c5,c6,EW,seval];exact i1
  ·obtain⟨y,d1,d2,d3,d4⟩:=G7 (xs:=ae) (pre:=pre) (by omega) hp (by simpa using h1)
   have d5:decide (x.au<=y.au)=false:=eH (by have:=Mp hi.jB.ju d1 hx (by simp at h1; omega); omega)
   simp only[E75,cr,hx,hw,h0',ck,aU,h1,c5,c6,d1,d2,d3,d4,d5,EW,seval];exact i1
def k72{l:List Piece}(hn:l.length<=1000)(M:aK):aL (aq cY) 72 [bH l,bH l] M=some (.bool true,M):=by
 refine cO (aI ?_) M;simp only[aaL,E72,an,EW,seval];refine pj (xs:=l) (by omega) (fun _ (_:Unit)=>()) (fun _ i=>[(0,bH l),(1,bH l),(12,.int .i64 l.length),(13,.int .i64 i)]) (fun _=>[]) (fun _=>some (ag.bool true,([]:aK))) (fun _=>?_) (fun pre x post _ hh hx cr hw h0 hm hi=>?_) ()
 ·simp only[E72,bf,EW,seval]
 ·have i1:=hi ();simp only[E72,cr,hx,hw,h0,dQ,gr,cL,kK,ig,ei,pA,eS,EW,seval];exact i1
def k70{x:qu}(hs:Small ⟨x.ae,0,0⟩)(M:aK):aL (aq cY) 70 [.agg (ml x),.agg (ml x)] M=some (.bool true,M):=by
 refine cO (aI ?_) M;have q:=k71 ⟨x.ae,0,0⟩ ⟨x.ae,0,0⟩ hs;simp only[nv] at q;simp only[agv,E70,ml,ei,q,EW,seval]
def k73{l:List qu}(hn:l.length<=1000)(hs:∀x,x∈l->Small ⟨x.ae,0,0⟩)(M:aK):aL (aq cY) 73 [jQ l,jQ l,.func 70 []] M=some (.bool true,M):=by
 refine cO (aI ?_) M;simp only[agx,E73,an,EW,seval];refine pj (xs:=l) (by omega) (fun _ (_:Unit)=>()) (fun _ i=>[(1,jQ l),(2,.func 70 []),(15,jQ l),(16,.int .i64 l.length),(17,.int .i64 i)]) (fun _=>[]) (fun _=>some (ag.bool true,([]:aK))) (fun _=>?_) (fun pre x post _ hh hx cr hw h0 hm hi=>?_) ()
 ·simp only[E73,bf,EW,seval]
 ·have i1:=hi ();have q:=k70 (hs x hm);simp only[ml] at q;simp only[E73,cr,hx,hw,h0,q,jH,oq,ml,EW,seval];exact i1
end
def FI.small{l:List Piece}{t:Tree}(h:FI l t):∀x,x∈(bl l t).eh->Small ⟨x.ae,0,0⟩:=by
 intro x hx;have hs:Small t:=Rt.small h.rt;obtain⟨h1,_,_,_⟩:=wO hx;have hsub:∀n,n∈x.ae->n∈t.ae:=fun n hn=>by rw[h1] at hn; exact(ef.1 hn).1
 have eU:x.ae.length<=t.ae.length:=by rw[h1]; exact fa _ _
 exact⟨by have:=hs.ae; show x.ae.length<=100000; omega,fun n hn=>hs.aM n (hsub n hn),fun n hn=>hs.data n (hsub n hn)⟩
def FI.eh{l:List Piece}{t:Tree}(_h:FI l t):(bl l t).eh.length<=8:=bh (fK _ _) (by simp)
section
attribute [local irreducible] fP fi kD gK dp kr aq aL ct bI
def FI.Y6{l:List Piece}{t:Tree}(h:FI l t)(M:aK):aL (aq cY) 30 [.agg (bC (bl l t)),.agg (bC (bl l t))] M=some (.bool true,M):=by
 refine cO (aI ?_) M;have hm:=h.prt.many;have q1:=k72 (l:=(bl l t).pieces) (show l.length<=1000 by omega)
 have q2:=k73 (l:=(bl l t).eh) (by have:=h.eh; omega) h.small
 generalize bl l t=f at q1 q2 ⊢;simp only[aaD,E30,bC,q1,q2,ei,EW,seval]
def FI.right{l:List Piece}{t:Tree}(h:FI l t):aq fO 31 [iZ (bl l t)] []=some (.bool true,[]):=by
 obtain⟨cf,hg⟩:=h.rt;refine aI ?_;have q1:∀M,aL (aq fO) 74 [bH l] M=some (.bool true,M):=fun M=>cO (c74 h.prt h.prt.On) M
 have q2:=fun M=>lS (h.CV M)
 have q3:=fun M=>lS (h.xq M)
 have q4:=fun M=>lS (h.Y6 M)
 have q5:∀M,aL (aq fO) 75 [.agg [aZ t.ae,.int .i64 t.next,.int .i64 t.ai]] M=some (.bool true,M):=fun M=>lS (cO (c75 hg (Rt.small h.rt)) M)
 have q6:=k49 hg h.prt;rw[(uQ hg h.prt).2 h.may] at q6;have hl:=h.eh;have hsum:((bl l t).eh.flatMap qu.ae).length<=200:=by rw[(tb hg h.prt h.may).length_eq]; exact hg.ae
 have hp:(bl l t).pieces=l:=rfl;generalize bl l t=f at *;have g1:((8:Int)<(f.eh.length:Int))=False:=Gp;simp only[bC,hp] at q2 q3 q4;simp only[aaE,E31,iZ,bC,hp,q1,g1,EW,seval]
 refine cW (gA (xs:=f.eh) (by omega) (fun i (n:Nat)=>n=((f.eh.take i).flatMap qu.ae).length) (fun _ (_:Nat)=>()) (fun n i=>[(1,.ptr 0 0),(3,.int .i64 n),(20,jQ f.eh),(21,.int .i64 f.eh.length),(22,.int .i64 i)])
  (fun _=>[.cells [bH l,jQ f.eh,.int .i64 f.next,.int .i64 f.ai]]) (fun _=>some (.bool true,[])) (fun n hn=>?_) (fun pre x post n hh hx cr hw hz hm hn hi=>?_) 0 rfl) rfl
 ·rw[cQ] at hn;have g2:((200:Int)<(n:Int))=False:=Gp;simp only[E31,bf,g2,q2,q3,q4,q5,q6,EW,seval]
 ·have h1:f.eh.take (pre.length+1)=pre++[x]:=by rw[hh,show pre++x::post=(pre++[x])++post by simp]; exact List.take_left' (by simp)
  have h2:f.eh.take pre.length=pre:=by rw[hh]; simp
  have h3:n+x.ae.length<=200:=by
   have e:(pre.flatMap qu.ae).length+x.ae.length<=(f.eh.flatMap qu.ae).length:=by rw[hh]; simp
   rw[hn,h2]; omega
  have i1:=hi (n+x.ae.length) (by rw[h1,hn,h2]; simp)
  have hw2:IntKind.i64.wrap ((n:Int)+(x.ae.length:Int))=((n+x.ae.length:Nat):Int):=by rw[gx (by omega) (by omega)]; omega
  simp only[E31,cr,hx,hw,hw2,hz,jH,oq,ml,aH,EW,seval];exact i1
end
section
variable {t:Tree} {cf:Int->Nat} {l:List Piece}
attribute [local irreducible] fP fi kD gK dp kr aq aL ct bI
def FI.zb(hf:FI l t)(M:aK):aL (aq cY) 76 [bH l,.agg [aZ t.ae,.int .i64 t.next,.int .i64 t.ai]] M=some (.agg (bC (bl l t)),M):=by
 obtain⟨cf,h⟩:=hf.rt;have hl:=hf.prt;have hmay:=hf.may;refine cO (aI ?_) M;have hn:=h.ae;have hm:=hl.many;have q1:=agZ h hl;rw[Bn h hl hmay] at q1;have hat:∀n,n∈t.ae->∃v:Nat,uN l t.ae n.au=(v:Int)/\l[v]?=some (mD l v)/\kj l t.ae n.au=(mD l v).group:=fun n hn=>LK h hl hmay hn
 have hrows:∀i:Nat,((List.range i).filterMap fun(g:Nat)=>if (t.ae.filter fun n=>kj l t.ae n.au==(g:Int)).isEmpty=true then none else some (qu.mk g (t.ae.filter fun n=>kj l t.ae n.au==(g:Int)))).length<=i:=fun i=>bh (fK _ _) (by simp)
 simp only[aaM,ZO,q1,zn,Ay,EW,seval]
 refine cW (gA (xs:=List.range 8) (by simp) (fun i (out:List qu)=>out=(List.range i).filterMap fun(g:Nat)=>if (t.ae.filter fun n=>kj l t.ae n.au==(g:Int)).isEmpty=true then none else some ⟨g,t.ae.filter fun n=>kj l t.ae n.au==(g:Int)⟩) (fun _ (_:List qu)=>())
  (fun _ i=>[(0,bH l),(3,.ptr 0 0),(4,.ptr 1 0),(5,.ptr 2 0),(6,lM (t.ae.map fun n=>uN l t.ae n.au)),(7,.int .i64 i)])
  (fun out=>[.cells [aZ t.ae,.int .i64 t.next,.int .i64 t.ai],.cells [.slice .c0 [],.slice .c0 [],.int .i64 0,.int .i64 0],.cells [.slice .sh (l.map dn),.slice (.own 3) (out.map Ct),.int .i64 t.next,.int .i64 t.ai],.tick 2 out.length])
  (fun _=>some (iZ (bl l t),[])) (fun out ho=>?_) (fun pre x post out hh hx cr hw h0 hmm ho hi=>?_) [] rfl) rfl
 ·rw[ku] at ho;have ho:out=qm (fun n=>kj l t.ae n.au) t.ae:=ho
  subst ho;have e8:(((List.range 8).length:Nat):Int)=8:=rfl;simp only[ZO,e8,bf,EW,seval];rfl
 ·have hpre:pre.length<8:=by have:=congrArg List.length hh; simp at this; omega
  have hxe:x=pre.length:=by rw[fJ hpre] at hx; injection hx with hx; exact hx.symm
  subst hxe;have hl8:((pre.length:Int)<8)=True:=by simp; omega
  have eU:=hrows pre.length;rw[<-ho] at eU;have r1:dL (out.length+1) 32=True:=xN;have i1:=hi _ rfl;rw[oc,kg,<-ho] at i1;simp only[k9,jV] at i1;simp only[ZO,hl8,zn,Ay,EW,seval]
  refine cW (gA (xs:=t.ae) (by omega) (fun j (own:List Node)=>own=(t.ae.take j).filter fun n=>kj l t.ae n.au==((pre.length:Nat):Int)) (fun _ (_:List Node)=>())
   (fun own j=>[(0,bH l),(3,.ptr 0 0),(4,.ptr 1 0),(5,.ptr 2 0),(6,lM (t.ae.map fun n=>uN l t.ae n.au)),(7,.int .i64 ((pre.length:Nat):Int)),(8,.slice (.own 4) (own.map ck)),(9,.int .i64 j)])
   (fun own=>[.cells [aZ t.ae,.int .i64 t.next,.int .i64 t.ai],.cells [.slice .c0 [],.slice .c0 [],.int .i64 0,.int .i64 0],.cells [.slice .sh (l.map dn),.slice (.own 3) (out.map Ct),.int .i64 t.next,.int .i64 t.ai],.tick 2 out.length,.tick 6 own.length])
   (fun _=>some (iZ (bl l t),[])) (fun own hown=>?_) (fun pre2 n post2 own hh2 hx2 hlt2 hw2 h02 hmm2 hown hi2=>?_) [] rfl) rfl
  ·rw[cQ] at hown;rw[<-hown] at i1;have wl:=I6 out;cases own with
   |nil =>
    simp only[List.isEmpty_nil,aE,bV] at i1;simp only[ZO,aH,bf,aG,ga,hw,EW,seval];exact i1
   |cons a b =>
    have hp:((0:Int)<((b.length+1:Nat):Int))=True:=Az;simp only[List.isEmpty_cons,af,aw,bB,aV,bo,aJ,av,aG,aP,Ct,ml] at i1;simp only[ZO,aH,av,bf,hp,hw,r1,wl,EW,seval];exact i1
  ·obtain⟨v,hv1,hv2,hv3⟩:=hat n hmm2;have hpl2:pre2.length<t.ae.length:=by have:=congrArg List.length hh2; simp at this; omega
   have hol:own.length<=200:=by rw[hown]; exact bh (fa _ _) (by simp; omega)
   have r2:dL (own.length+1) 80=True:=xN;have i2:=hi2 _ rfl;have ht1:t.ae.take (pre2.length+1)=t.ae.take pre2.length++[n]:=by rw[dz,hx2]; rfl
   rw[ht1,List.filter_append,<-hown] at i2;have g0:((v:Int)<0)=False:=by simp
   have gz:((0:Int)<=(v:Int))=True:=by simp
   have hpv:(t.ae.map fun n=>uN l t.ae n.au)[pre2.length]?=some (v:Int):=by rw[aY,hx2]; exact congrArg some hv1
   have hpv':uN l t.ae n.au=(v:Int):=hv1;rw[hV,hv3,List.filter_nil] at i2;cases hc:(mD l v).group==((pre.length:Nat):Int)
   ·rw[hc] at i2;simp only[af,aw,bV] at i2;simp only[ZO,aH,hlt2,hx2,hw2,h02,hpv',gz,g0,hv2,hc,dQ,gr,cL,pg,mj,bg,cz,EW,seval];exact i2
   ·rw[hc] at i2;simp only[aE,bB,aV,bo,aJ,av,aG,aP,ck,aU] at i2;simp only[ZO,aH,hlt2,hx2,hw2,h02,hpv',gz,g0,hv2,hc,r2,dQ,gr,cL,pg,mj,aU,bg,cz,EW,seval];exact i2
end
def yN:List ag:=[.int .i64 0,.int .i64 0,.int .i64 0,.slice .c0 [],.slice .c0 [],.int .i64 0]
def NB(s:Int×Node)(B:List ag):Prop:=(B=yN/\s.1=0)\/B=aU s.2
def NB.step{s:Int×Node}{B:List ag}(last:Int)(x:Node)(h:NB s B):NB (fU last s x) (if decide (last<x.au)&&(s.1==0||decide (x.au<s.1)) then aU x else B):=by
 unfold fU;split
 ·exact .inr rfl
 ·exact h
section
attribute [local irreducible] fP fi kD gK dp kr aq aL ct bI
def Wx{f:vX}{i:Nat}{x:qu}{last:Int}{A:cA}(acc:List Node){k:List K}{r:Option (ag×aK)}(s0:Int×Node)(B0:List ag)(hb0:NB s0 B0)(hx:f.eh[i]?=some x)(hl:x.ae.length<=1000)
  (hA:∀B M,cA.back B M A=A)
  (hk:∀B z,NB (x.ae.foldl (fU last) s0) B->kr (aq cY) [.fD 2 3] 0 k ⟨.exit 4,(1,.ptr 0 0)::(2,.ptr 1 0)::(3,.ptr 2 0)::(4,.int .i64 last)::(5,.int .i64 (x.ae.foldl (fU last) s0).1)::(6,.ptr 4 0)::(7,.int .i64 i)::z,[.cells (bC f),A,.cells [.slice (.own 3) (acc.map ck),.int .i64 f.next,.int .i64 f.ai],.tick 6 acc.length,.cells B]⟩=r) :
  fP (aq cY) [.fD 2 3] 0 k (.loop [1,2,3,4,5,6,7,8] acy) [(1,.ptr 0 0),(2,.ptr 1 0),(3,.ptr 2 0),(4,.int .i64 last),(5,.int .i64 s0.1),(6,.ptr 4 0),(7,.int .i64 i),(8,.int .i64 0)] [.cells (bC f),A,.cells [.slice (.own 3) (acc.map ck),.int .i64 f.next,.int .i64 f.ai],.tick 6 acc.length,.cells B0]=r:=by
 refine gA (xs:=x.ae) (by omega) (fun j (s:(Int×Node)×List ag)=>NB s.1 s.2/\s.1=(x.ae.take j).foldl (fU last) s0) (fun _ (_:(Int×Node)×List ag)=>()) (fun s j=>[(1,.ptr 0 0),(2,.ptr 1 0),(3,.ptr 2 0),(4,.int .i64 last),(5,.int .i64 s.1.1),(6,.ptr 4 0),(7,.int .i64 i),(8,.int .i64 j)])
  (fun s=>[.cells (bC f),A,.cells [.slice (.own 3) (acc.map ck),.int .i64 f.next,.int .i64 f.ai],.tick 6 acc.length,.cells s.2]) (fun _=>r) (fun s hs=>?_) (fun pre n post s hh hz cr hw hz0 hm hs hi=>?_) (s0,B0) ⟨hb0,rfl⟩
 ·obtain⟨s,B⟩:=s;obtain⟨hs1,hs2⟩:=hs;rw[cQ] at hs2;simp only at hs1 hs2;subst hs2;have g0:((i:Int)<0)=False:=by simp
  simp only[bC] at hk ⊢;simp only[Uo,hx,g0,jH,oq,ml,bg,bf,EW,seval];exact hk B _ hs1
 ·obtain⟨⟨b,y⟩,B⟩:=s;obtain⟨hs1,hs2⟩:=hs;simp only at hs1 hs2;have ht:(x.ae.take (pre.length+1)).foldl (fU last) s0=fU last (b,y) n:=by rw[hs2,dz,hz,jk]; rfl
  have g0:((i:Int)<0)=False:=by simp
  have hst:=hs1.step last n;simp only[bC] at hi ⊢;cases h1:decide (last<n.au)<;>cases h2:b==0<;>cases h3:decide (n.au<b) <;>
  simp only[h1,h2,h3,dG,gk,eS,dI,aE,af,aw] at hst <;>
  have i1:=hi (fU last (b,y) n,_) ⟨hst,ht.symm⟩ <;>
  simp only[fU,h1,h2,h3,dG,gk,eS,dI,aE,af,aw] at i1 <;>
  rcases hs1 with ⟨rfl,-⟩|rfl <;>
  simp only[yN,aU] at i1 ⊢ <;>
  simp only[Uo,hx,cr,hz,hw,hz0,g0,h1,h2,h3,hA,mB ck 6 (fun _=>rfl) acc,jH,oq,ml,ck,aU,bg,EW,seval]<;>exact i1
def L4{f:vX}{last:Int}{A:cA}(acc:List Node){k:List K}{r:Option (ag×aK)}(hn:f.eh.length<=1000)(hl:∀x,x∈f.eh->x.ae.length<=1000)
  (hA:∀B M,cA.back B M A=A)
  (hk:∀B z,NB ((f.eh.flatMap qu.ae).foldl (fU last) (0,Node.zero)) B->kr (aq cY) [.fD 2 3] 0 k ⟨.exit 2,(1,.ptr 0 0)::(2,.ptr 1 0)::(3,.ptr 2 0)::(4,.int .i64 last)::(5,.int .i64 ((f.eh.flatMap qu.ae).foldl (fU last) (0,Node.zero)).1)::(6,.ptr 4 0)::z,[.cells (bC f),A,.cells [.slice (.own 3) (acc.map ck),.int .i64 f.next,.int .i64 f.ai],.tick 6 acc.length,.cells B]⟩=r) :
  fP (aq cY) [.fD 2 3] 0 k (.loop [1,2,3,4,5,6,7] acz) [(1,.ptr 0 0),(2,.ptr 1 0),(3,.ptr 2 0),(4,.int .i64 last),(5,.int .i64 0),(6,.ptr 4 0),(7,.int .i64 0)] [.cells (bC f),A,.cells [.slice (.own 3) (acc.map ck),.int .i64 f.next,.int .i64 f.ai],.tick 6 acc.length,.cells yN]=r:=by
 refine gA (xs:=f.eh) (by omega) (fun j (s:(Int×Node)×List ag)=>NB s.1 s.2/\s.1=((f.eh.take j).flatMap qu.ae).foldl (fU last) (0,Node.zero)) (fun _ (_:(Int×Node)×List ag)=>()) (fun s j=>[(1,.ptr 0 0),(2,.ptr 1 0),(3,.ptr 2 0),(4,.int .i64 last),(5,.int .i64 s.1.1),(6,.ptr 4 0),(7,.int .i64 j)])
  (fun s=>[.cells (bC f),A,.cells [.slice (.own 3) (acc.map ck),.int .i64 f.next,.int .i64 f.ai],.tick 6 acc.length,.cells s.2]) (fun _=>r) (fun s hs=>?_) (fun pre x post s hh hz cr hw hz0 hm hs hi=>?_) ((0,Node.zero),yN) ⟨.inl ⟨rfl,rfl⟩,rfl⟩
 ·obtain⟨s,B⟩:=s;obtain⟨hs1,hs2⟩:=hs;rw[cQ] at hs2;simp only at hs1 hs2;subst hs2;simp only[bC] at hk ⊢;simp only[Uo,bf,EW,seval];exact hk B _ hs1
 ·obtain⟨s,B⟩:=s;obtain⟨hs1,hs2⟩:=hs;simp only at hs1 hs2;have ht:((f.eh.take (pre.length+1)).flatMap qu.ae).foldl (fU last) (0,Node.zero)=x.ae.foldl (fU last) s:=by rw[hs2,dz,hz,jD,jk]; simp
  have la:=fun {k r} hk=>Wx (f:=f) (i:=pre.length) (x:=x) (last:=last) (A:=A) (k:=k) (r:=r) acc s B hs1 hz (hl x hm) hA hk
  simp only[bC] at hi la ⊢;simp only[Uo,cr,hA,mB ck 6 (fun _=>rfl) acc,EW,seval]
  refine la (fun B' z hB'=>?_)
  have i1:=hi (x.ae.foldl (fU last) s,B') ⟨hB',ht.symm⟩;rcases hB' with ⟨rfl,-⟩|rfl<;>simp only[yN,aU] at i1 ⊢ <;>
  simp only[Uo,hw,hA,mB ck 6 (fun _=>rfl) acc,EW,seval] <;>
  exact i1
def c23{f:vX}{ns:List Node}(hns:nI ns)(hp:(f.eh.flatMap qu.ae).Perm ns)(hl:ns.length<=1000)(hn:f.eh.length<=1000)(h1:∀n,n∈ns->1<=n.au):aq cY 23 [iZ f] []=some (bJ ⟨ns,f.next,f.ai⟩,[]):=by
 refine aI ?_;have eU:(f.eh.flatMap qu.ae).length<=1000:=by rw[hp.length_eq]; exact hl
 have hlx:∀x,x∈f.eh->x.ae.length<=1000:=fun x hx=>bh (List.sublist_flatten_of_mem (bR.2 ⟨x,hx,rfl⟩)).length_le (by rw[List.flatMap] at eU; exact eU)
 have wn:∀l:List Node,wid (l.map ck) 6=True:=mB ck _ fun _=>rfl
 have key:∀(post pre:List Node)(last:Int),ns=pre++post->0<=last->(∀x,x∈pre->x.au<=last)->(∀x,x∈post->last<x.au) ->
   fP (aq cY) [.fD 2 3] 0 [.block 0] (.loop [1,2,3,4] acA) [(1,.ptr 0 0),(2,.ptr 1 0),(3,.ptr 2 0),(4,.int .i64 last)] [.cells [bH f.pieces,jQ f.eh,.int .i64 f.next,.int .i64 f.ai],.cells [.slice .c0 [],.int .i64 0,.int .i64 0],.cells [.slice (.own 3) (pre.map ck),.int .i64 f.next,.int .i64 f.ai],.tick 6 pre.length]=some (bJ ⟨ns,f.next,f.ai⟩,[]):=by
  intro post;induction post with
  |nil =>
   intro pre last he h0 hlo hhi;have hnx:=Md hns hp he h0 hlo hhi Node.zero;have lb:=fun {k r} hk=>L4 (f:=f) (last:=last) (A := .cells [.slice .c0 [],.int .i64 0,.int .i64 0]) (acc:=pre) (k:=k) (r:=r) hn hlx (fun _ _=>rfl) hk
   simp only at hnx;rw[hnx] at lb;rw[bV] at he;subst he;rw[bX];simp only[bC,yN] at lb;simp only[Uo,EW,seval];refine lb (fun B z hB=>?_)
   simp only[Uo,wn,an,ei,EW,seval]
   trace_state
   rfl
  |cons x post ih =>
   intro pre last he h0 hlo hhi;have hnx:=Md hns hp he h0 hlo hhi Node.zero;have lb:=fun {k r} hk=>L4 (f:=f) (last:=last) (A := .cells [.slice .c0 [],.int .i64 0,.int .i64 0]) (acc:=pre) (k:=k) (r:=r) hn hlx (fun _ _=>rfl) hk
   simp only at hnx;rw[hnx] at lb;have hx1:=hhi x aD;have hx0:(x.au==0)=false:=by rw[bL]; omega
   have hpl:pre.length+1<=1000:=by rw[he] at hl; simp at hl; omega
   have r1:dL (pre.length+1) 80=True:=xN;rw[he] at hns;obtain⟨_,a2,a3⟩:=dw.1 hns
   have i1:=ih (pre++[x]) x.au (by rw[he]; simp) (by omega) (fun y hy=>by
    rcases bS.1 hy with hy|hy
    ·exact Int.le_of_lt (a3 y hy x aD)
    ·rw[eO.1 hy]; exact fG _) (fun y hy=>(bF.1 a2).1 y hy)
   rw[bX];simp only[bC,yN] at lb;simp only[Uo,EW,seval];refine lb (fun B z hB=>?_)
   rcases hB with ⟨-,hB⟩|rfl
   ·simp only at hB; omega
   simp only[bB,aV,bo,aJ,av,aG,aP,ck,aU] at i1;simp only[aU];simp only[Uo,hx0,wn,r1,ck,aU,EW,seval]
   trace_state
   exact i1
 simp only[aaA,Uo,iZ,bC,zn,Ay,EW,seval];have k0:=key ns [] 0 rfl (fG _) (by simp) (fun x hx=>by have:=h1 x hx; omega)
 simp only[bo,aG] at k0;exact k0
end
def FI.aas{l:List Piece}{t:Tree}(h:FI l t):aq cY 23 [iZ (bl l t)] []=some (bJ t,[]):=by
 obtain⟨cf,hg⟩:=h.rt;have hn:=hg.ae;refine c23 (f:=bl l t) hg.jB.ju (tb hg h.prt h.may) (by omega) ?_ ?_
 ·have:(qm (fun n=>kj l t.ae n.au) t.ae).length<=8:=bh (fK _ _) (by simp)
  show(qm (fun n=>kj l t.ae n.au) t.ae).length<=1000
  omega
 ·intro n hm;exact(hg.num _ _ ((ft hg.jB.ju).2 ⟨hm,rfl⟩)).1
def FI.vB{l:List Piece}{t:Tree}(h:FI l t)(M:aK):aL (aq cY) 23 [.agg (bC (bl l t))] M=some (.agg [aZ t.ae,.int .i64 t.next,.int .i64 t.ai],M):=vq h.aas rfl rfl rfl rfl rfl M
def W7(n:Nat):decide ((0:Int)<(n:Int))=decide (0<n):=by simp
section
attribute [local irreducible] fP fi kD gK dp kr aq aL ct bI
def alf(o:oS)(M:aK):aL (aq cY) 154 [.agg (dK o)] M=some (.bool (decide (1<=o.kind)&&decide (o.kind<=7)),M):=by
 refine cO (aI ?_) M
 by_cases h:1<=o.kind/\o.kind<=7
 ·have h2:(decide (1<=o.kind)&&decide (o.kind<=7))=true:=by simp[h]
  rw[h2];rcases(show o.kind=1\/o.kind=2\/o.kind=3\/o.kind=4\/o.kind=5\/o.kind=6\/o.kind=7 by omega) with g|g|g|g|g|g|g <;>
  simp only[P8,adV,dK,g,EW,seval]<;>rfl
 ·have h2:(decide (1<=o.kind)&&decide (o.kind<=7))=false:=by
   rw[lZ]; intro hh; simp at hh; exact h hh
  have g1:(o.kind==1)=false:=by rw[bL]; omega
  have g2:(o.kind==2)=false:=by rw[bL]; omega
  have g3:(o.kind==3)=false:=by rw[bL]; omega
  have g4:(o.kind==4)=false:=by rw[bL]; omega
  have g5:(o.kind==5)=false:=by rw[bL]; omega
  have g6:(o.kind==6)=false:=by rw[bL]; omega
  have g7:(o.kind==7)=false:=by rw[bL]; omega
  rw[h2];simp only[P8,adV,dK,g1,g2,g3,g4,g5,g6,g7,EW,seval]
def ag3(s:Bytes)(hs:s.length<=100000)(M:aK):aL (aq cY) 207 [.str s] M=some (.bool ((fy s).2.2==0),M):=by
 refine cO (aI ?_) M;have q:=Qx s hs;simp only[YE,aiP,q,EW,seval]
def alg{l:List Piece}{t:Tree}(hf:FI l t)(o:oS)(ho:BI o)(M:aK):aL (aq cY) 155 [.agg (bC (bl l t)),.agg [aZ t.ae,.int .i64 t.next,.int .i64 t.ai],.agg (dK o)] M=some (.bool (ub l t o),M):=by
 refine cO (aI ?_) M;have ht:Rt t:=hf.rt;have hp:o.aR.length<=100000:=by have:=ho.aR; omega
 have hp2:o.rp.length<=100000:=by have:=ho.rp; omega
 have q1:=NP t o.aR ht.small hp;have q2:=ag3 o.aR hp;have q3:=ag3 o.rp hp2;obtain⟨r1,hr1,q4⟩:=ag4 hf.prt o.aR hp;obtain⟨r2,hr2,q5⟩:=ag4 hf.prt o.rp hp2;have hpc:(bl l t).pieces=l:=rfl;have hbp:kB l o.aR<=l.length:=kf;have hbt:kB l o.rp<=l.length:=kf;have hm:=hf.prt.many;unfold ub;rw[<-hr1,<-hr2];generalize bl l t=f at hpc ⊢;generalize eB t o.aR=v at q1 ⊢
 by_cases k4:o.kind=4
 ·rw[az k4];cases h1:v.2==0<;>cases h2:(fy o.aR).2.2==0<;>rw[h2] at q2 <;>
  simp only[Lz,ZC,bC,dK,hpc,q1,q2,q4,k4,h1,h2,bne,W7,bP,cd,dI,EW,seval]
 rw[ak k4]
 by_cases k5:o.kind=5
 ·rw[az k5];have hw:IntKind.i64.wrap ((r1.length:Int)+(r2.length:Int))=((r1.length+r2.length:Nat):Int):=by rw[gx (by omega) (by omega)]; omega
  cases h1:v.2==0<;>cases h2:(fy o.aR).2.2==0<;>cases h3:(fy o.rp).2.2==0<;>rw[h2] at q2<;>rw[h3] at q3 <;>
  simp only[Lz,ZC,bC,dK,hpc,q1,q2,q3,q4,q5,k5,h1,h2,h3,hw,bne,W7,bP,cd,dI,EW,seval]
 rw[ak k5];have g4:(o.kind==4)=false:=by rw[bL]; omega
 have g5:(o.kind==5)=false:=by rw[bL]; omega
 simp only[Lz,ZC,bC,dK,q1,g4,g5,bne,EW,seval]
def EG{t:Tree}{cf:Int->Nat}{l:List Piece}(h:cn t cf 0)(hl:jS l):SZ l t=(kV l t.ae).2:=by
 rw[eb,S0 h hl,uQ h hl]
def c86{l:List Piece}{t:Tree}{o:oS}(hf:FI l t)(ho:BI o):aq cY 86 [iZ (bl l t),.agg (dK o)] []=some (.tuple [.agg (bC (bl l (mS l t o).1)),.agg (eA (mS l t o).2)],[]):=by
 refine aI ?_;have q0:=alf o
 by_cases hkk:(decide (1<=o.kind)&&decide (o.kind<=7))=true
 rotate_left
 ·have hkf:(decide (1<=o.kind)&&decide (o.kind<=7))=false:=by simpa using hkk
  have hkb:pX o=false:=by unfold pX; rw[hkf]; rfl
  have hd:mS l t o=(t,lQ 1):=by unfold mS; rw[az hkb]
  rw[hd];rw[hkf] at q0;generalize bl l t=f;simp only[dK] at q0;simp only[Hz,ZP,iZ,bC,dK,q0,eA,lQ,EW,seval];rfl
 rw[hkk] at q0;cases c0:decide (0<=o.jw)
 ·have hkb:pX o=false:=by unfold pX; rw[c0]; simp
  have hd:mS l t o=(t,lQ 1):=by unfold mS; rw[az hkb]
  have c0':decide (o.jw<0)=true:=by simpa using c0
  rw[hd];generalize bl l t=f;simp only[dK] at q0;simp only[Hz,ZP,iZ,bC,dK,q0,c0',eA,lQ,EW,seval];rfl
 cases c1:decide (o.jw<16)
 ·have hkb:pX o=false:=by unfold pX; rw[c1]; simp
  have hd:mS l t o=(t,lQ 1):=by unfold mS; rw[az hkb]
  have c0':decide (o.jw<0)=false:=by simpa using c0
  have c1':decide (16<=o.jw)=true:=by simpa using c1
  rw[hd];generalize bl l t=f;simp only[dK] at q0;simp only[Hz,ZP,iZ,bC,dK,q0,c0',c1',eA,lQ,EW,seval];rfl
 have c0':decide (o.jw<0)=false:=by simpa using c0
 have c1':decide (16<=o.jw)=false:=by simpa using c1
 have hkb:pX o=true:=by unfold pX; rw[hkk,c0,c1]; rfl
 have q1:=hf.vB;have q2:=alg hf o ho;cases hb:ub l t o<;>rw[hb] at q2
 rotate_left
 ·have hd:mS l t o=(t,lQ 180):=by unfold mS; rw[ak (by simp[hkb]),az hb]
  rw[hd];generalize bl l t=f at *;simp only[dK,bC] at q0 q1 q2;simp only[Hz,ZP,iZ,bC,dK,q0,q1,q2,c0',c1',eA,lQ,EW,seval];rfl
 have hkr:1<=o.kind/\o.kind<=7:=by simpa using hkk
 have q3:=fun M=>cO (hf.plain o ho hkr) M
 obtain⟨cf,hg⟩:=hf.rt;have hml:=AZ t o;cases he:(eX t o).2.2 != 0
 rotate_left
 ·have hd:mS l t o=(t,lQ (eX t o).2.2):=by unfold mS; rw[ak (by simp[hkb]),ak (by simp[hb]),az he]
  have hpl:px t o=(t,lQ (eX t o).2.2):=by unfold px; rw[az he]
  rw[hd];rw[hpl] at q3;generalize bl l t=f at *;simp only[ua,dK,bC,bJ,bc,sf,eA,lQ] at q0 q1 q2 q3;simp only[Hz,ZP,iZ,bC,dK,q0,q1,q2,q3,c0',c1',he,eA,lQ,EW,seval];rfl
 have hpl:px t o=(fg (eX t o).1,(eX t o).2.1):=by unfold px; rw[ak (by simp[he])]
 obtain⟨dep',h1⟩:=zF hg o;have h2:cn (fg (eX t o).1) dep' 0:=pz (eX t o).1.ae _ h1;rw[hpl] at q3;have hpc:(bl l t).pieces=l:=rfl;have hdo:=hf.do o
 have hae:((eX t o).2.1.err != 0)=false:=by rw[hml.1]; rfl
 have q4:=k81 h2 hf.prt;rw[EG h2 hf.prt] at q4;cases hm:(kV l (fg (eX t o).1).ae).2<;>rw[hm] at q4
 ·have hd:mS l t o=(t,lQ 91):=by unfold mS; rw[ak (by simp[hkb]),ak (by simp[hb]),ak (by simp[he]),az hm]
  rw[hd];generalize bl l t=f at *;generalize fg (eX t o).1=u at *;generalize (eX t o).2.1=a at *;simp only[ua,dK,bC,bJ,bc,sf,eA,hpc] at q0 q1 q2 q3 q4;simp only[Hz,ZP,iZ,bC,dK,q0,q1,q2,q3,q4,c0',c1',hae,hpc,eA,lQ,EW,seval];rfl
 ·have hd:mS l t o=(fg (eX t o).1,(eX t o).2.1):=by unfold mS; rw[ak (by simp[hkb]),ak (by simp[hb]),ak (by simp[he]),ak (by simp[hm])]
  rw[hd] at hdo ⊢;have q5:=hdo.zb;generalize bl l t=f at *;simp only at q5 ⊢;generalize fg (eX t o).1=u at *;generalize (eX t o).2.1=a at *;generalize bl l u=F at *;simp only[ua,dK,bC,bJ,bc,sf,eA,hpc] at q0 q1 q2 q3 q4 q5;simp only[Hz,ZP,iZ,bC,dK,q0,q1,q2,q3,q4,q5,c0',c1',hae,hpc,eA,EW,seval]
def c83{l:List Piece}{t:Tree}(hf:FI l t)(s:Bytes)(hs:s.length<=100000)(g:Int):aq cY 83 [iZ (bl l t),.str s,.int .i64 g] []=some (.tuple [.agg (bC (bl (sx l t s g).1 t)),.int .i64 (sx l t s g).2],[]):=by
 refine aI ?_;have hR:Rt t:=hf.rt;have hn:=hR.sz.ae;obtain⟨cf,hg⟩:=hf.rt;have q1:=hf.vB;have q2:=NP t s hR.small hs;have q4:=fun M=>cO (ajR hf.prt s hs g) M
 have hpc:(bl l t).pieces=l:=rfl;have hcut:=hf.cut s g;have hpr:=BK (s:=s) (to:=g) hf.prt;unfold sx at hcut ⊢;have q3:∀M,aL (aq cY) 26 [.agg [aZ t.ae,.int .i64 t.next,.int .i64 t.ai],.int .i64 (eB t s).1] M=some (.tuple [ck (bD t.ae (eB t s).1),.bool (find t.ae (eB t s).1).isSome],M):=F8 t.ae t.next t.ai (eB t s).1 (by omega)
 generalize eB t s=v at q2 q3 hcut ⊢;cases h1:v.2 != 0
 rotate_left
 ·simp only[aE];generalize bl l t=f at *;simp only[bC] at q1;simp only[Nu,E83,iZ,bC,q1,q2,h1,EW,seval]
  all_goals rfl
 generalize bD t.ae v.1=n at q3 hcut ⊢;simp only[ck,aU] at q3;cases h2:n.kind != 2
 rotate_left
 ·simp only[aE,af,aw];generalize bl l t=f at *;simp only[bC] at q1;simp only[Nu,E83,iZ,bC,q1,q2,q3,h1,h2,EW,seval]
  all_goals rfl
 have q5:=k81 hg hpr;rw[EG hg hpr] at q5;cases h3:(uK l s g).2 != 0
 rotate_left
 ·simp only[aE,af,aw];generalize uK l s g=c at *;generalize bl l t=f at *;simp only[bC,hpc] at q1;simp only[Nu,E83,iZ,bC,hpc,q1,q2,q3,q4,h1,h2,h3,EW,seval]
  all_goals rfl
 cases h4:(kV (uK l s g).1 t.ae).2<;>rw[h4] at q5
 ·simp only[aE,af,aw];generalize uK l s g=c at *;generalize bl l t=f at *;simp only[bC,hpc] at q1;simp only[Nu,E83,iZ,bC,hpc,q1,q2,q3,q4,q5,h1,h2,h3,EW,seval]
  all_goals rfl
 ·simp only[h1,h2,h3,h4,aE,af,aw,Bool.true_eq_false] at hcut ⊢;have q6:=hcut.zb;generalize uK l s g=c at *;generalize bl c.1 t=F at *;generalize bl l t=f at *;simp only[bC,hpc] at q1;simp only[bC] at q6;simp only[Nu,E83,iZ,bC,hpc,q1,q2,q3,q4,q5,q6,h1,h2,h3,EW,seval]
  all_goals rfl
def c84{l:List Piece}{t:Tree}(hf:FI l t)(s:Bytes)(hs:s.length<=100000):aq cY 84 [iZ (bl l t),.str s] []=some (.tuple [.agg (bC (bl (lN l s).1 t)),.int .i64 (lN l s).2],[]):=by
 refine aI ?_;have q1:=hf.vB;have q4:=fun M=>cO (ajS hf.prt s hs) M
 have hpc:(bl l t).pieces=l:=rfl;have q6:=(hf.join s).zb;have hje:=CS (l:=l) (s:=s);generalize lN l s=c at *;cases h3:c.2 != 0
 ·have h3':c.2=0:=by simpa using h3
  rw[h3'];generalize bl c.1 t=F at *;generalize bl l t=f at *;simp only[bC,hpc] at q1;simp only[bC] at q6;simp only[aaN,E84,iZ,bC,hpc,q1,q4,q6,h3,EW,seval]
  all_goals rfl
 ·rw[hje (by simpa using h3)]
  generalize bl l t=f at *;simp only[bC] at q1;simp only[aaN,E84,iZ,bC,hpc,q1,q4,h3,EW,seval]
  all_goals rfl
def c85{l:List Piece}{t:Tree}(hf:FI l t)(s:Bytes)(hs:s.length<=100000)(g:Int):aq cY 85 [iZ (bl l t),.str s,.int .i64 g] []=some (.tuple [.agg (bC (bl (mU l s g).1 t)),.int .i64 (mU l s g).2],[]):=by
 refine aI ?_;have q1:=hf.vB;have q4:=fun M=>cO (ajT hf.prt s hs g) M
 have hpc:(bl l t).pieces=l:=rfl;have q6:=(hf.move s g).zb;have hje:=C7 (l:=l) (s:=s) (g:=g);generalize mU l s g=c at *;cases h3:c.2 != 0
 ·have h3':c.2=0:=by simpa using h3
  generalize bl c.1 t=F at *;generalize bl l t=f at *;simp only[bC,hpc] at q1;simp only[bC] at q6;simp only[aaO,E85,iZ,bC,hpc,q1,q4,q6,h3',an,EW,seval]
 ·rw[hje (by simpa using h3)]
  generalize bl l t=f at *;simp only[aaO,E85,iZ,bC,hpc,q4,h3,EW,seval]
def c33{g:Int}(hg:mq g=true):aq cY 33 [.int .i64 g] []=some (iZ (bl (pr g) oO),[]):=by
 refine aI ?_;have q:=(FI.new hg).zb;have q1:=k41;have q2:=k29 g;generalize bl (pr g) oO=F at *;simp only[bJ,bc,bC] at q q1;simp only[af9,E33,iZ,bC,q,q1,q2,EW,seval]
def k61{l:List Piece}(hn:l.length<=1000)(M:aK):aL (aq cY) 61 [bH l,bH l] M=some (.bool true,M):=by
 refine cO (aI ?_) M;simp only[agq,E61,an,EW,seval];refine pj (xs:=l) (by omega) (fun _ (_:Unit)=>()) (fun _ i=>[(0,bH l),(1,bH l),(5,.int .i64 i)]) (fun _=>[]) (fun _=>some (ag.bool true,([]:aK))) (fun _=>?_) (fun pre x post _ hh hx cr hw h0 hm hi=>?_) ()
 ·simp only[E61,bf,EW,seval]
 ·have i1:=hi ();simp only[E61,cr,hx,hw,h0,dQ,gr,cL,kK,ig,ei,pA,eS,cU,EW,seval];exact i1
def FI.aa8{l:List Piece}{t:Tree}(h:FI l t)(M:aK):aL (aq cY) 18 [.agg (bC (bl l t)),.agg (bC (bl l t))] M=some (.bool true,M):=by
 refine cO (aI ?_) M;have hm:=h.prt.many;have q1:=k61 (l:=(bl l t).pieces) (show l.length<=1000 by omega)
 have hsm:=h.small;have hll:=h.eh;generalize bl l t=f at q1 hsm hll ⊢;simp only[af1,E18,bC,q1,an,EW,seval];refine pj (xs:=f.eh) (by omega) (fun _ (_:Unit)=>()) (fun _ i=>[(2,.ptr 0 0),(3,.ptr 1 0),(5,.int .i64 i)]) (fun _=>[.cells [bH f.pieces,jQ f.eh,.int .i64 f.next,.int .i64 f.ai],.cells [bH f.pieces,jQ f.eh,.int .i64 f.next,.int .i64 f.ai]]) (fun _=>some (ag.bool true,([]:aK))) (fun _=>?_) (fun pre x post _ hh hx cr hw h0 hm hi=>?_) ()
 ·simp only[E18,bf,EW,seval]
 ·have i1:=hi ();have hs:=hsm x hm;have q:=k22 x.ae x.ae hs.ae hs.aM;simp only[nv] at q;simp only[E18,cr,hx,hw,h0,q,jH,oq,ml,an,EW,seval];exact i1
def c37{x:List Piece×Tree}(hf:FI x.1 x.2){s:kc}(ho:BI s.op)(hs:s.aR.length<=1000):aq cY 37 [.agg (bC (cX x)),.agg (eE s)] []=some (.tuple [.agg (bC (cX (stepT x s).1)),.agg (eA (stepT x s).2)],[]):=by
 refine aI ?_;obtain⟨l,t⟩:=x;simp only[cX] at hf ⊢;have q1:=fun M=>cO (c83 hf s.aR (by omega) s.group) M
 have q2:=fun M=>cO (c84 hf s.aR (by omega)) M
 have q3:=fun M=>cO (c85 hf s.aR (by omega) s.group) M
 have q4:=fun M=>cO (c86 hf ho) M
 unfold stepT;have hk:s.kind.toNat % 5<5:=iE _ (by omega)
 have hr:((s.kind.toNat:Nat):Int).tmod 5=((s.kind.toNat % 5:Nat):Int):=rfl;generalize s.kind.toNat % 5=k at hk hr ⊢;simp only;generalize bl l t=f at *;simp only[iZ,bC,dK] at q1 q2 q3 q4;rcases(show k=0\/k=1\/k=2\/k=3\/k=4 by omega) with rfl|rfl|rfl|rfl|rfl
 ·generalize mS l t s.op=c at *;generalize bl l c.1=F at *;simp only[eA] at q4;simp only[Ns,E37,iZ,bC,eE,dK,eA,mF,aW,aX,hr,q4,sd,EW,seval]
  all_goals rfl
 ·generalize sx l t s.aR s.group=c at *;generalize bl c.1 t=F at *;simp only[Ns,E37,iZ,bC,eE,dK,eA,mF,aW,aX,hr,q1,sd,EW,seval]
  all_goals rfl
 ·generalize sx l t s.aR s.group=c at *;generalize bl c.1 t=F at *;simp only[Ns,E37,iZ,bC,eE,dK,eA,mF,aW,aX,hr,q1,sd,EW,seval]
  all_goals rfl
 ·generalize lN l s.aR=c at *;generalize bl c.1 t=F at *;simp only[Ns,E37,iZ,bC,eE,dK,eA,mF,aW,aX,hr,q2,sd,EW,seval]
  all_goals rfl
 ·generalize mU l s.aR s.group=c at *;generalize bl c.1 t=F at *;simp only[Ns,E37,iZ,bC,eE,dK,eA,mF,aW,aX,hr,q3,sd,EW,seval]
  all_goals rfl
def FI.stepT{x:List Piece×Tree}(h:FI x.1 x.2)(s:kc):FI (stepT x s).1.1 (stepT x s).1.2:=h.step s
def pU(n:UInt8):Int:=((n.toNat % 8:Nat):Int)
def qZ(n:UInt8):mq (pU n)=true:=by
 have:=iE n.toNat (show 8>0 by omega)
 unfold mq pU;generalize n.toNat % 8=k at this;have h1:(0:Int)<=(k:Int):=fz k;have h2:(k:Int)<8:=by omega
 simp[h2]
def c14(n:UInt8){xs:List kc}(hn:xs.length<=40)(ho:∀s,s∈xs->BI s.op/\s.aR.length<=1000):aq cY 14 [mF n,oM xs] []=some (.agg (bC (cX (uj (pU n) xs))),[]):=by
 refine aI ?_;have hr:IntKind.i64.wrap ((n.toNat:Nat):Int)=((n.toNat:Nat):Int):=gx (by have:=n.toNat_lt; omega) (by have:=n.toNat_lt; omega)
 have hr2:((n.toNat:Nat):Int).tmod 8=pU n:=rfl;have q0:=fun M=>cO (c33 (qZ n)) M
 have hx0:bl (pr (pU n)) oO=cX (pr (pU n),oO):=rfl;rw[hx0] at q0;simp only[iZ] at q0;simp only[af0,E14,mF,hr,hr2,q0,iZ,bC,sd,EW,seval]
 refine cW (gA (xs:=xs) (by omega) (fun j (x:List Piece×Tree)=>FI x.1 x.2/\x=(xs.take j).foldl (fun x s=>(stepT x s).1) (pr (pU n),oO)) (fun _ (_:List Piece×Tree)=>()) (fun _ i=>[(1,oM xs),(4,.ptr 0 0),(5,.ptr 1 0),(6,.int .i64 i)])
  (fun x=>[.cells [.slice .c0 [],.slice .c0 [],.int .i64 0,.int .i64 0],.cells [bH (cX x).pieces,jQ (cX x).eh,.int .i64 (cX x).next,.int .i64 (cX x).ai]])
  (fun _=>some (.agg (bC (cX (uj (pU n) xs))),[])) (fun x hx=>?_) (fun pre s post x hh hz cr hw h0 hm hx hi=>?_) (pr (pU n),oO) ⟨FI.new (qZ n),rfl⟩) rfl
 ·obtain⟨-,hx⟩:=hx;rw[cQ] at hx;have hs:x=uj (pU n) xs:=hx;subst hs;generalize cX (uj (pU n) xs)=F;simp only[E14,bf,bC,EW,seval]
  all_goals rfl
 ·obtain⟨hx1,hx2⟩:=hx;have hT:(xs.take (pre.length+1)).foldl (fun x s=>(stepT x s).1) (pr (pU n),oO)=(stepT x s).1:=by rw[dz,hz,jk,<-hx2]; rfl
  have q:=fun M=>cO (c37 hx1 (ho s hm).1 (ho s hm).2) M
  have i1:=hi _ ⟨hx1.stepT s,hT.symm⟩;generalize stepT x s=y at *;generalize cX y.1=F at *;generalize cX x=f at *;have hid:(List.flatMap ag.mL (eE s)=[])=True:=eq_true rfl;simp only[bC,eA] at q;simp only[E14,cr,hz,hw,h0,q,hid,sd,EW,seval];exact i1
def c36{x:List Piece×Tree}(hf:FI x.1 x.2){s:kc}(ho:BI s.op)(hs:s.aR.length<=1000):aq iM 36 [.agg (bC (cX x)),.agg (eE s)] []=some (.tuple [.agg (bC (cX (stepT x s).1)),.agg (eA (stepT x s).2)],[]):=by
 refine aI ?_;obtain⟨l,t⟩:=x;simp only[cX] at hf ⊢;have q1:=fun M=>cO (c42 hf s.aR (by omega) s.group) M
 have q2:=fun M=>cO (c43 hf s.aR (by omega)) M
 have q3:=fun M=>cO (c82 hf s.aR (by omega) s.group) M
 have q4:=fun M=>cO (c15 hf ho) M
 unfold stepT;have hk:s.kind.toNat % 5<5:=iE _ (by omega)
 have hr:((s.kind.toNat:Nat):Int).tmod 5=((s.kind.toNat % 5:Nat):Int):=rfl;generalize s.kind.toNat % 5=k at hk hr ⊢;simp only;generalize bl l t=f at *;simp only[iZ,bC,dK] at q1 q2 q3 q4;rcases(show k=0\/k=1\/k=2\/k=3\/k=4 by omega) with rfl|rfl|rfl|rfl|rfl
 ·generalize mS l t s.op=c at *;generalize bl l c.1=F at *;simp only[eA] at q4;simp only[DJ,UH,iZ,bC,eE,dK,eA,mF,aW,aX,hr,q4,sd,EW,seval]
  all_goals rfl
 ·generalize sx l t s.aR s.group=c at *;generalize bl c.1 t=F at *;simp only[DJ,UH,iZ,bC,eE,dK,eA,mF,aW,aX,hr,q1,sd,EW,seval]
  all_goals rfl
 ·generalize sx l t s.aR s.group=c at *;generalize bl c.1 t=F at *;simp only[DJ,UH,iZ,bC,eE,dK,eA,mF,aW,aX,hr,q1,sd,EW,seval]
  all_goals rfl
 ·generalize lN l s.aR=c at *;generalize bl c.1 t=F at *;simp only[DJ,UH,iZ,bC,eE,dK,eA,mF,aW,aX,hr,q2,sd,EW,seval]
  all_goals rfl
 ·generalize mU l s.aR s.group=c at *;generalize bl c.1 t=F at *;simp only[DJ,UH,iZ,bC,eE,dK,eA,mF,aW,aX,hr,q3,sd,EW,seval]
  all_goals rfl
end
def L7{α:Type}(k:α->Int)(g:Int):∀(l:List α)(m:AM Bool),(dq (l.foldl (fun m i=>kl m (k i) true) m) g).getD false=((dq m g).getD false||l.any fun i=>k i==g)
 | [],m=>by simp
 |x::r,m=>by
  rw[bA,L7 k g r,fX,List.any_cons]
  by_cases h:g=k x
  ·subst h; simp
  ·rw[ak h,show(k x==g)=false by simpa using fun e=>h e.symm,da]
def CL(l:List Piece)(s:Bytes):Int:=(mD l (df l s)).group
def Ca(l:List Piece)(s:Bytes)(m:AM Bool):AM Bool:=(List.range ((bw s).1.length+1)).foldl (fun m i=>kl m (CL l (pq ((bw s).1.take i))) true) m
def MQ(l:List Piece)(s:Bytes)(g:Int):(dq (Ca l s []) g).getD false=wm l s g:=by
 unfold Ca wm;rw[L7];simp[dq,CL]
def xR(l:List Piece)(s:Bytes):List Int:=(List.range 8).filterMap fun(g:Nat)=>if wm l s g then some (g:Int) else none
def Iq{l:List Piece}{s:Bytes}{g:Int}(h0:0<=g)(h8:g<8):g∈xR l s↔wm l s g=true:=by
 unfold xR;rw[jW];constructor
 ·rintro⟨k,_,h⟩;split at h
  ·rename_i hk; cases h; exact hk
  ·cases h
 ·intro h;have:((g.toNat:Nat):Int)=g:=by omega
  refine⟨g.toNat,fx.2 (by omega),?_⟩
  rw[this,az h]
def MR{l:List Piece}(hl:jS l)(s:Bytes):0<(xR l s).length:=by
 have h0:wm l s (CL l (pq []))=true:=by
  unfold wm;rw[List.any_eq_true];exact⟨0,fx.2 (by omega),by simp[CL]⟩
 have cr:=hl.rV (s:=pq []) rfl;have hg:=(hl.ok _ (p8 cr)).2;exact List.length_pos_of_mem ((Iq hg.1 hg.2.1).2 h0)
def G6(f:vX)(m:AM Bool):aK:=[.cells (bC f),.cells [.gD 2],.map (wA m) (qP ag.bool m)]
def flB(l:AM Bool):(qP ag.bool l).all ag.flat=true:=P1 _ (fun _=>rfl) l
def rnB(ρ:Nat->Nat)(l:AM Bool):(qP ag.bool l).map (ag.rn ρ)=qP ag.bool l:=Zu _ _ (fun _=>rfl) l
def bkB(B:Nat)(M:aK)(l:AM Bool):List.map (ag.jN B M) (qP ag.bool l)=qP ag.bool l:=aao _ _ _ (fun _=>rfl) l
def WZ(f:vX)(m:AM Bool)(b1:cA):ke [.cells (bC f),b1,.map (wA m) (qP ag.bool m),.cells [.gD 2]] (iC [0,3,2]) [0,3,2]=some (G6 f m):=by
 simp only[ke,nth,cA.flat,flB,bZ,aE,cA.rn,rnB];rfl
def akS(l:AM Bool):(qP ag.bool l).flatMap ag.ids=[]:=Y3 _ (fun _=>rfl) l
def U1{C:eL}{f:vX}{m m':AM Bool}{s:Bytes}(b1:cA)(h:C 62 [.str s,.ptr 0 0,.ptr 1 0] (G6 f m)=some (.tuple [],G6 f m')) :
  aL C 62 [.str s,.ptr 0 0,.ptr 3 0] [.cells (bC f),b1,.map (wA m) (qP ag.bool m),.cells [.gD 2]]=some (.tuple [],[.cells (bC f),b1,.map (wA m') (qP ag.bool m'),.cells [.gD 2]]):=by
 have i1:sL [.cells (bC f),b1,.map (wA m) (qP ag.bool m),.cells [.gD 2]] [0,3]=[2]:=rfl
 have i2:sL [.cells (bC f),b1,.map (wA m) (qP ag.bool m),.cells [.gD 2]] [0,3,2]=[2]:=by
  show[2]++((qP ag.bool m).flatMap ag.ids++[])=_
  rw[akS]; rfl
 have e0:lP [] [0,3]=[0,3]:=rfl;have e1:lP [0,3] [2]=[0,3,2]:=rfl;have e2:lP [0,3,2] [2]=[0,3,2]:=rfl
 have hr:reach [.cells (bC f),b1,.map (wA m) (qP ag.bool m),.cells [.gD 2]] [0,3]=[0,3,2]/\lR [.cells (bC f),b1,.map (wA m) (qP ag.bool m),.cells [.gD 2]] [0,3,2]=[0,3,2]:=by
  simp only[reach,lR,e0,i1,e1,i2,e2,ky]
 refine lL (ids:=[0,3,2]) rfl hr.1 (WZ f m b1) hr.2 rfl h rfl rfl ?_ rfl ?_
 ·simp only[G6,j6,cA.flat,flB]; rfl
 ·simp only[G6,mw,cA.rn,rnB,jZ];rfl
section
attribute [local irreducible] fP fi kD gK dp kr aq aL ct bI
def c62{f:vX}(hl:jS f.pieces)(s:Bytes)(hs:s.length<=100000)(m:AM Bool):aq fO 62 [.str s,.ptr 0 0,.ptr 1 0] (G6 f m)=some (.tuple [],G6 f (Ca f.pieces s m)):=by
 refine aI ?_;have q1:=k63 s hs;obtain⟨hn1,hn2⟩:=lx s;unfold Ca;generalize bw s=v at q1 hn1 hn2 ⊢;obtain⟨ns,e⟩:=v;simp only at q1 hn1 hn2 ⊢;have g1:IntKind.i64.wrap ((ns.length:Int)+1)=((ns.length+1:Nat):Int):=by rw[gx (by omega) (by omega)]; omega
 simp only[agr,E62,G6,bC,q1,g1,aH,EW,seval];have hr:(List.range (ns.length+1)).length=ns.length+1:=by simp
 refine pj (xs:=List.range (ns.length+1)) (by omega) (fun(post:List Nat) m=>post.foldl (fun m i=>kl m (CL f.pieces (pq (ns.take i))) true) m) (fun _ i=>[(1,.ptr 0 0),(2,.ptr 1 0),(4,fL ns),(16,.int .i64 ((ns.length+1:Nat):Int)),(17,.int .i64 i)])
  (fun m=>[.cells [bH f.pieces,jQ f.eh,.int .i64 f.next,.int .i64 f.ai],.cells [.gD 2],.map (wA m) (qP ag.bool m)]) (fun m=>some (.tuple [],[.cells [bH f.pieces,jQ f.eh,.int .i64 f.next,.int .i64 f.ai],.cells [.gD 2],.map (wA m) (qP ag.bool m)])) (fun m=>?_) (fun pre x post m hh hx cr hw h0 hmm hi=>?_) m
 ·rw[hr];simp only[E62,bf,bkB,gN,EW,seval]
 ·rw[hr] at cr;have hpre:pre.length<ns.length+1:=by have:=congrArg List.length hh; simp at this; omega
  have hxe:x=pre.length:=by rw[fJ hpre] at hx; injection hx with hx; exact hx.symm
  subst hxe;have hle:((pre.length:Int)<=(ns.length:Int))=True:=Az;have hz:((0:Int)<=((pre.length:Nat):Int))=True:=by simp
  have q2:=fun M=>lS (k65 (ns.take pre.length) (fun x hx=>hn1 x (di hx)) (by simp; omega) M)
  have hsp:(bw (pq (ns.take pre.length))).2=0:=by rw[ra,kb (fun x hx=>hn1 x (di hx)) (by simp; omega)]
  have q3:=k64 hl (pq (ns.take pre.length)) (by have:=uU (ns.take pre.length) (fun x hx=>hn1 x (di hx)) (by simp; omega); omega)
  unfold GF at q3;rw[az hsp] at q3;have hy:=qR (hl.rV hsp);have i1:=hi (kl m (CL f.pieces (pq (ns.take pre.length))) true);have g0:(((df f.pieces (pq (ns.take pre.length)):Nat):Int)<0)=False:=by simp
  have hgr:CL f.pieces (pq (ns.take pre.length))=(mD f.pieces (df f.pieces (pq (ns.take pre.length)))).group:=rfl;rw[bA];rw[hgr] at i1 ⊢;generalize df f.pieces (pq (ns.take pre.length))=c at *;simp only[fL,j7] at q2;simp only[E62,cr,hw,h0,hle,hz,q2,q3,hy,g0,mapOf.eq_1,tN,bkB,aH,bg,dQ,gr,cL,EW,seval];exact i1
def FI.asks{l:List Piece}{t:Tree}(h:FI l t){o:oS}(ho:BI o)(hk:o.kind≠3/\o.kind≠5)(M:aK):aL (aq fO) 21 [.agg (bC (bl l t)),.agg (dK o)] M=some (lM (xR l o.aR),M):=by
 refine cO (aI ?_) M;have hp:(bl l t).pieces=l:=rfl;have q:=fun b1=>U1 b1 (c62 (f:=bl l t) h.prt o.aR (by have:=ho.aR; omega) [])
 have hA:=fun g=>MQ l o.aR g
 rw[hp] at q;unfold xR;generalize Ca l o.aR []=m at q hA;generalize bl l t=f at q ⊢;have k3:(o.kind==3)=false:=by simpa using hk.1
 have k5:(o.kind==5)=false:=by simpa using hk.2
 have e0:wA ([]:AM Bool)=[]:=rfl;have e1:qP ag.bool []=[]:=rfl;simp only[bC,e0,e1] at q;simp only[aay,E21,bC,dK,q,k3,k5,zn,Ay,EW,seval];have hrows:∀i:Nat,((List.range i).filterMap fun(g:Nat)=>if wm l o.aR g then some (g:Int) else none).length<=i:=fun i=>bh (fK _ _) (by simp)
 refine cW (gA (xs:=List.range 8) (by simp) (fun i (out:List Int)=>out=(List.range i).filterMap fun(g:Nat)=>if wm l o.aR g then some (g:Int) else none) (fun _ (_:List Int)=>()) (fun out i=>[(5,.ptr 3 0),(7,.slice (.own 4) (out.map mj)),(27,.int .i64 i)])
  (fun out=>[.cells [bH f.pieces,jQ f.eh,.int .i64 f.next,.int .i64 f.ai],.cells (dK o),.map (wA m) (qP ag.bool m),.cells [.gD 2],.tick 1 out.length])
  (fun _=>some (lM ((List.range 8).filterMap fun(g:Nat)=>if wm l o.aR g then some (g:Int) else none),[])) (fun out hout=>?_) (fun pre x post out hh hx cr hw h0 hmm hout hi=>?_) [] rfl) rfl
 ·rw[ku] at hout;have e8:(((List.range 8).length:Nat):Int)=8:=rfl;simp only[E21,e8,bf,hout,EW,seval]
  trace_state
 ·have hpre:pre.length<8:=by have:=congrArg List.length hh; simp at this; omega
  have hxe:x=pre.length:=by rw[fJ hpre] at hx; injection hx with hx; exact hx.symm
  subst hxe;have hl8:((pre.length:Int)<8)=True:=by simp; omega
  have eU:=hrows pre.length;rw[<-hout] at eU;have r1:dL (out.length+1) 8=True:=xN;have i1:=hi _ rfl;rw[oc,kg,<-hout] at i1;simp only[k9,jV] at i1;have hAg:=hA (pre.length:Int);cases hb:wm l o.aR (pre.length:Int)<;>rw[hb] at hAg i1
  ·simp only[af,aw,bV] at i1;simp only[E21,hl8,hw,hAg,mapOf.eq_1,mu,Ic,bkB,EW,seval];exact i1
  ·simp only[aE,bB,aV,bo,aJ,av,aG,aP] at i1;simp only[E21,hl8,hw,hAg,r1,zA,mapOf.eq_1,mu,Ic,bkB,EW,seval]
   trace_state
   exact i1
end
def wb(k:Int)(p q:Bytes)(n:Int):oS:=⟨k,0,p,q,n,0,0,[]⟩
def za(x:List Piece×Tree)(o:oS):(List Piece×Tree)×OQ:=((x.1,(mS x.1 x.2 o).1),(mS x.1 x.2 o).2)
def hA:=za (pr 1,oO) (wb 2 [47,97] [] 2)
def hB:=za hA.1 (wb 2 [47,98] [] 2)
def hC:(List Piece×Tree)×Int:=(((sx hB.1.1 hB.1.2 [47,97] 5).1,hB.1.2),(sx hB.1.1 hB.1.2 [47,97] 5).2)
def hD:=za hC.1 (wb 2 [47,97,47,102] [] 1)
def hE:=za hD.1 (wb 3 [47,97,47,102] [47,103] 0)
def hG:=za hD.1 (wb 5 [47,97] [47,99] 0)
def hH:=za hD.1 (wb 5 [47,97,47,102] [47,98,47,102] 0)
def hI:(List Piece×Tree)×Int:=(((sx hD.1.1 hD.1.2 [47,97,47,102] 2).1,hD.1.2),(sx hD.1.1 hD.1.2 [47,97,47,102] 2).2)
def hJ:(List Piece×Tree)×Int:=(((lN hD.1.1 [47,97]).1,hD.1.2),(lN hD.1.1 [47,97]).2)
def facts:hA.2.au=2/\hB.2.au=3/\hC.2=0/\hD.2.au=4/\hE.2.err=91/\hG.2.err=180/\hH.2.au=4/\hI.2=73/\hJ.2=0:=by
 refine⟨?_,?_,?_,?_,?_,?_,?_,?_,?_⟩<;>kernel_rfl
def aau:(cX hD.1).eh.length=2/\(cX hH.1).eh.length=2/\(cX hJ.1).eh.length=1/\(cX hD.1).eh.map qu.group=[1,5]/\(cX hD.1).eh.map (fun x=>x.ae.length)=[2,2]/\(cX hH.1).eh.map (fun x=>x.ae.length)=[3,1]/\xR hD.1.1 [47,97,47,102]=[1,5]/\hD.1.1.length=2/\hJ.1.1.length=1:=by
 refine⟨?_,?_,?_,?_,?_,?_,?_,?_,?_⟩<;>kernel_rfl
section
attribute [local irreducible] fP fi kD gK dp kr aq aL ct bI
def c19(a:OQ)(hn:a.names.length<=100000)(hd:a.data.length<=100000):aq cY 19 [.agg (eA a),.agg (eA a)] []=some (.bool true,[]):=by
 refine aI ?_;simp only[af2,E19,eA,an,yV,EW,seval];refine pj (xs:=a.names) (by omega) (fun _ (_:Unit)=>()) (fun _ i=>[(2,.ptr 0 0),(3,.ptr 1 0),(5,.int .i64 i)]) (fun _=>[.cells (eA a),.cells (eA a)]) (fun _=>some (ag.bool true,([]:aK))) (fun _=>?_) (fun pre x post _ e hx cr hw h0 hm hi=>?_) ()
 ·simp only[eA];simp only[E19,bf,EW,seval]
 ·have i1:=hi ();simp only[eA] at i1 ⊢;simp only[E19,cr,hx,hw,h0,an,EW,seval];exact i1
def k38{l:List Int}(hn:l.length<=1000)(M:aK):aL (aq cY) 38 [lM l,lM l] M=some (.bool true,M):=by
 refine cO (aI ?_) M;simp only[agb,E38,an,EW,seval];refine pj (xs:=l) (by omega) (fun _ (_:Unit)=>()) (fun _ i=>[(0,lM l),(1,lM l),(5,.int .i64 i)]) (fun _=>[]) (fun _=>some (ag.bool true,([]:aK))) (fun _=>?_) (fun pre x post _ hh hx cr hw h0 hm hi=>?_) ()
 ·simp only[E38,bf,EW,seval]
 ·have i1:=hi ();simp only[E38,cr,hx,hw,h0,pg,mj,an,EW,seval];exact i1
def KT(f g:vX)(hl:f.pieces.length≠g.pieces.length)(M:aK):aL (aq cY) 30 [.agg (bC f),.agg (bC g)] M=some (.bool false,M):=by
 refine cO (aI ?_) M
 have q:∀M,aL (aq cY) 72 [bH f.pieces,bH g.pieces] M=some (.bool false,M):=by
  intro M;refine cO (aI ?_) M;have hb:((f.pieces.length:Int) != (g.pieces.length:Int))=true:=by simp; omega
  simp only[aaL,E72,hb,EW,seval]
 cases h1:f.next==g.next<;>cases h2:f.ai==g.ai<;>simp only[aaD,E30,bC,h1,h2,q,EW,seval]
def Xa(M:aK):aL (aq fO) 31 [.agg [.slice .sh [],.slice .sh [],.int .i64 0,.int .i64 0]] M=some (.bool false,M):=by
 refine cO (aI ?_) M
 have q:∀M,aL (aq fO) 74 [.slice .sh []] M=some (.bool false,M):=by
  intro M;refine cO (aI ?_) M;simp only[Vp,E74,EW,seval]
 simp only[aaE,E31,q,EW,seval]
end
def wU(k:Int)(p q:Bytes)(n:Int)(hp:p.length<=1000)(hq:q.length<=1000):BI (wb k p q n):=⟨by simp[wb]; omega,by simp[wb]; omega,by simp[wb]⟩
def FI.za{x:List Piece×Tree}(h:FI x.1 x.2)(o:oS):FI (za x o).1.1 (za x o).1.2:=h.do o
section
attribute [local irreducible] fP fi kD gK dp kr aq aL ct bI
def VI{x:List Piece×Tree}(hf:FI x.1 x.2){o:oS}(ho:BI o)(M:aK):aL (aq iM) 15 [.agg (bC (cX x)),.agg (dK o)] M=some (.tuple [.agg (bC (cX (za x o).1)),.agg (eA (za x o).2)],M):=cO (c15 hf ho) M
def FI.sR{x:List Piece×Tree}(h:FI x.1 x.2)(M:aK):aL (aq iM) 17 [.agg (bC (cX x))] M=some (.agg [aZ x.2.ae,.int .i64 x.2.next,.int .i64 x.2.ai],M):=lG (h.CV M)
def QB{t:Tree}(ht:Rt t)(M:aK):aL (aq iM) 20 [.agg [aZ t.ae,.int .i64 t.next,.int .i64 t.ai],.agg [aZ t.ae,.int .i64 t.next,.int .i64 t.ai]] M=some (.bool true,M):=by
 have:=k20 t t ht.small.ae ht.small.aM M;rw[oL rfl] at this;exact lG this
def FI.BO{x:List Piece×Tree}(h:FI x.1 x.2)(M:aK):aL (aq iM) 31 [.agg (bC (cX x))] M=some (.bool true,M):=lF (vq h.right rfl rfl rfl rfl rfl M)
set_option maxRecDepth 100000 in
def vy:aq iM 11 [] []=some (.bool true,[]):=by
 obtain⟨e1,e2,e3,e4,e5,e6,e7,e8,e9⟩:=facts;obtain⟨g1,g2,g3,g4,g5,g6,g7,g8,g9⟩:=aau;have s0:FI (pr 1,oO).1 (pr 1,oO).2:=FI.new rfl;have sA:FI hA.1.1 hA.1.2:=s0.za (wb 2 [47,97] [] 2);have sB:FI hB.1.1 hB.1.2:=sA.za (wb 2 [47,98] [] 2);have sC:FI hC.1.1 hC.1.2:=FI.cut sB [47,97] 5;have sD:FI hD.1.1 hD.1.2:=sC.za (wb 2 [47,97,47,102] [] 1);have sJ:FI hJ.1.1 hJ.1.2:=FI.join sD [47,97];have q0:=k34 (g:=1) rfl;have qA:=VI s0 (wU 2 [47,97] [] 2 (by decide) (by decide))
 have qB:=VI sA (wU 2 [47,98] [] 2 (by decide) (by decide))
 have qC:=fun M=>cO (c42 sB [47,97] (by decide) 5) M
 have qD:=VI sC (wU 2 [47,97,47,102] [] 1 (by decide) (by decide))
 have qE:=VI sD (wU 3 [47,97,47,102] [47,103] 0 (by decide) (by decide))
 have qG:=VI sD (wU 5 [47,97] [47,99] 0 (by decide) (by decide))
 have qH:=VI sD (wU 5 [47,97,47,102] [47,98,47,102] 0 (by decide) (by decide))
 have qI:=fun M=>cO (c42 sD [47,97,47,102] (by decide) 2) M
 have qJ:=fun M=>cO (c43 sD [47,97] (by decide)) M
 have w1:=sD.sR;have w2:=sJ.sR;have hJt:hJ.1.2=hD.1.2:=rfl;have qs:=QB sD.rt;have qf:=fun M=>lG (KT (cX hD.1) (cX hJ.1) (show hD.1.1.length≠hJ.1.1.length by omega) M)
 have qr:=sD.BO;have qz:=fun M=>lF (Xa M)
 have qa:=fun M=>lF (FI.asks sD (o:=wb 1 [47,97,47,102] [] 0) (wU _ _ _ _ (by decide) (by decide)) ⟨by decide,by decide⟩ M)
 have qi:=fun M=>lG (k38 (l:=[1,5]) (by decide) M)
 change ∀M,aL (aq iM) 34 _ M=some (.agg (bC (cX (pr 1,oO))),M) at q0;change ∀M,aL (aq iM) 15 _ M=some (.tuple [.agg (bC (cX hA.1)),.agg (eA hA.2)],M) at qA;change ∀M,aL (aq iM) 15 [.agg (bC (cX hA.1)),_] M=some (.tuple [.agg (bC (cX hB.1)),.agg (eA hB.2)],M) at qB;change ∀M,aL (aq iM) 42 [.agg (bC (cX hB.1)),_,_] M=some (.tuple [.agg (bC (cX hC.1)),.int .i64 hC.2],M) at qC;change ∀M,aL (aq iM) 15 [.agg (bC (cX hC.1)),_] M=some (.tuple [.agg (bC (cX hD.1)),.agg (eA hD.2)],M) at qD;change ∀M,aL (aq iM) 15 [.agg (bC (cX hD.1)),_] M=some (.tuple [.agg (bC (cX hE.1)),.agg (eA hE.2)],M) at qE;change ∀M,aL (aq iM) 15 [.agg (bC (cX hD.1)),_] M=some (.tuple [.agg (bC (cX hG.1)),.agg (eA hG.2)],M) at qG;change ∀M,aL (aq iM) 15 [.agg (bC (cX hD.1)),_] M=some (.tuple [.agg (bC (cX hH.1)),.agg (eA hH.2)],M) at qH;change ∀M,aL (aq iM) 42 [.agg (bC (cX hD.1)),_,_] M=some (.tuple [.agg (bC (cX hI.1)),.int .i64 hI.2],M) at qI;change ∀M,aL (aq iM) 43 [.agg (bC (cX hD.1)),_] M=some (.tuple [.agg (bC (cX hJ.1)),.int .i64 hJ.2],M) at qJ;change ∀M,aL (aq iM) 21 [.agg (bC (cX hD.1)),_] M=some (lM (xR hD.1.1 [47,97,47,102]),M) at qa;rw[hJt] at w2;rw[g7] at qa;generalize hD.1.2=tr at w1 w2 qs;have x2:∀l:List qu,l.length=2->∃a b,l=[a,b]:=fun l h=>by match l,h with|[a,b],_=>exact⟨a,b,rfl⟩
 obtain⟨a1,a2,hl1⟩:=x2 _ g1;obtain⟨b1,b2,hl2⟩:=x2 _ g2;rw[hl1] at g4 g5;rw[hl2] at g6;simp only[aV,bo,List.cons.injEq,and_true] at g4 g5 g6;obtain⟨g41,g42⟩:=g4;obtain⟨g51,g52⟩:=g5;obtain⟨g61,g62⟩:=g6;clear sA sB sC sD sJ s0;generalize cX (pr 1,oO)=F0 at *;generalize cX hA.1=FA at *;generalize cX hB.1=FB at *;generalize cX hC.1=FC at *;generalize cX hD.1=FD at *;generalize cX hE.1=FE at *;generalize cX hG.1=FG at *;generalize cX hH.1=FH at *;generalize cX hI.1=FI' at *;generalize cX hJ.1=FJ at *;generalize hA.2=A,hB.2=B,hC.2=C,hD.2=D,hE.2=E,hG.2=G,hH.2=H,hI.2=I,hJ.2=J at *;refine aI ?_;simp only[bC,eA,dK,wb,jo,aV,bo,hl1,hl2,jQ,lM,mj] at q0 qA qB qC qD qE qG qH qI qJ w1 w2 qs qf qr qz qa qi ⊢;simp only[aaw,E11,q0,qA,qB,qC,qD,qE,qG,qH,qI,qJ,w1,w2,qs,qf,qr,qz,qa,qi,e1,e2,e3,e4,e5,e6,e7,e8,e9,g3,g41,g51,g52,g61,hl1,hl2,aV,bo,av,aG,aH,jQ,jH,oq,ml,g42,g52,g62,mj,EW,seval]
end
def Lq{l:List Piece}{t:Tree}{s:Bytes}{g:Int}(h:(sx l t s g).2≠0):(sx l t s g).1=l:=by
 unfold sx at h ⊢
 repeat' split
 all_goals first
  |rfl
  |(rename_i h1 h2 h3 h4; rw[ak h1,ak h2,ak h3,ak h4] at h; exact absurd rfl h)
def Ue{x:List Piece×Tree}{s:kc}(h:(stepT x s).2.err≠0):(stepT x s).1=x:=by
 unfold stepT at h ⊢;have hk:s.kind.toNat % 5<5:=iE _ (by omega)
 generalize s.kind.toNat % 5=k at hk h ⊢;rcases(show k=0\/k=1\/k=2\/k=3\/k=4 by omega) with rfl|rfl|rfl|rfl|rfl
 ·exact fC rfl (JR h)
 ·exact fC (Lq h) rfl
 ·exact fC (Lq h) rfl
 ·exact fC (CS h) rfl
 ·exact fC (C7 h) rfl
section
attribute [local irreducible] fP fi kD gK dp kr aq aL ct bI
def Y5{x:List Piece×Tree}(h:FI x.1 x.2)(M:aK):aL (aq iM) 18 [.agg (bC (cX x)),.agg (bC (cX x))] M=some (.bool true,M):=lG (h.aa8 M)
set_option maxRecDepth 100000 in
def H0(n:UInt8)(xs:List kc)(s:kc):aq iM 8 [mF n,oM xs,qh s] []=some (.bool true,[]):=by
 refine aI ?_;have q1:=cP vy;have q2:=fun M=>lG (Uq xs M)
 have q3:=fun M=>lG (Uq [s] M)
 cases h1:sE xs<;>rw[h1] at q2
 case true=>simp only[fn8,E8,mF,qh,eE,dK,aW,aX,q1,q2,sd,EW,seval]
 cases h2:sE [s]<;>rw[h2] at q3<;>simp only[oM,qh,eE,dK,mF,jo,aV,bo,aW,aX] at q3
 case true =>
  simp only[fn8,E8,mF,qh,eE,dK,aW,aX,q1,q2,q3,sd,EW,seval]
 obtain⟨hn,ho⟩:=sj h1;obtain⟨-,hs⟩:=sj h2;obtain⟨hs1,hs2⟩:=hs s aD;have q4:=fun M=>cO (Y7 (c14 n hn ho)) M
 have hf:=FI.made (qZ n) xs;have q5:=fun M=>cO (c36 hf hs1 hs2) M
 have hf2:=hf.stepT s;have r1:=hf.BO;have r2:=hf2.BO;have qs:=Y5 hf;have he:=Ue (x:=uj (pU n) xs) (s:=s);generalize uj (pU n) xs=x at *;generalize stepT x s=y at *;simp only[mF] at q4;cases h3:y.2.err==0
 ·rw[he (by simpa using h3)] at q5 r2
  generalize cX x=f at *;simp only[bC,eE,dK,eA,mF,jo,aW,aX] at q4 q5 r1 qs;simp only[fn8,E8,mF,qh,eE,dK,aW,aX,q1,q2,q3,q4,q5,r1,qs,h3,sd,EW,seval]
 ·generalize cX x=f at *;generalize cX y.1=g at *;simp only[bC,eE,dK,eA,mF,jo,aW,aX] at q4 q5 r1 r2;simp only[fn8,E8,mF,qh,eE,dK,aW,aX,q1,q2,q3,q4,q5,r1,r2,h3,sd,EW,seval]
end
def K8(r:Wt):Prop:=r.2.1.names.length<=100000/\r.2.1.data=[]
def tp{c:Prop}[Decidable c]{a b:Wt}(ha:K8 a)(hb:K8 b):K8 (if c then a else b):=by split<;>assumption
def K6{t:Tree}(ht:Rt t)(o:oS):K8 (eX t o):=by
 refine tp ?_ (tp ?_ (tp ?_ (tp ?_ (tp ?_ (tp ?_ ?_)))))
 ·unfold rM; split<;>exact⟨cy _,rfl⟩
 ·unfold uF; dsimp only; (repeat' split)<;>exact⟨cy _,rfl⟩
 ·unfold tL; dsimp only; (repeat' split)<;>exact⟨cy _,rfl⟩
 ·unfold nF; dsimp only; (repeat' split)<;>exact⟨cy _,rfl⟩
 ·unfold lI; dsimp only; (repeat' split)<;>exact⟨cy _,rfl⟩
 ·unfold tM; dsimp only; (repeat' split)<;>first|exact⟨cy _,rfl⟩|exact⟨by simp only[aH]; exact Am ht _ _ _,rfl⟩
 ·unfold rP; dsimp only; split<;>exact⟨cy _,rfl⟩
def Bo{t:Tree}(ht:Rt t)(o:oS):(px t o).2.names.length<=100000/\(px t o).2.data.length<=100000:=by
 obtain⟨h1,h2⟩:=K6 ht o;unfold px;split
 ·exact⟨cy _,cy _⟩
 ·exact⟨h1,by simp[h2]⟩
section
attribute [local irreducible] fP fi kD gK dp kr aq aL ct bI
set_option maxRecDepth 100000 in
set_option maxHeartbeats 4000000 in
def HX(n:UInt8)(xs:List kc)(o:oS):aq iM 3 [mF n,oM xs,ua o] []=some (.bool true,[]):=by
 refine aI ?_;have q1:=cP vy;have q2:=fun M=>lG (Uq xs M)
 have q3:=fun M=>lG (k13 o M)
 cases h1:sE xs<;>rw[h1] at q2
 case true=>simp only[Y1,E3,mF,ua,dK,q1,q2,sd,EW,seval]
 cases h2:zi o<;>rw[h2] at q3
 case true =>
  simp only[dK] at q3;simp only[Y1,E3,mF,ua,dK,q1,q2,q3,sd,EW,seval]
 cases h3:decide (o.jw<0)
 case true =>
  simp only[dK] at q3;simp only[Y1,E3,mF,ua,dK,q1,q2,q3,h3,sd,EW,seval]
 cases h4:decide (16<=o.jw)
 case true =>
  simp only[dK] at q3;simp only[Y1,E3,mF,ua,dK,q1,q2,q3,h3,h4,sd,EW,seval]
 by_cases hk:1<=o.kind/\o.kind<=7
 rotate_left
 ·simp only[dK] at q3;have g1:(o.kind != 1)=true:=by rw[gd]; omega
  have g2:(o.kind != 2)=true:=by rw[gd]; omega
  have g3:(o.kind != 3)=true:=by rw[gd]; omega
  have g4:(o.kind != 4)=true:=by rw[gd]; omega
  have g5:(o.kind != 5)=true:=by rw[gd]; omega
  have g6:(o.kind != 6)=true:=by rw[gd]; omega
  have g7:(o.kind != 7)=true:=by rw[gd]; omega
  simp only[Y1,E3,mF,ua,dK,q1,q2,q3,h3,h4,g1,g2,g3,g4,g5,g6,g7,sd,EW,seval]
 obtain⟨hn,hs⟩:=sj h1;have ho:=Gf h2
 have hkb:pX o=true:=by
  simp only[dk] at h3 h4;unfold pX; simp; omega
 have q4:=fun M=>cO (Y7 (c14 n hn hs)) M
 have hf:=FI.made (qZ n) xs;generalize uj (pU n) xs=x at *;have q5:=VI hf ho;have w1:=hf.sR;have q6:=fun M=>cO (Y7 (hf.plain o ho hk)) M
 have hf2:=hf.za o;have w2:=hf2.sR;have hd:(za x o).2=(mS x.1 x.2 o).2:=rfl;have ht:(za x o).1.2=(mS x.1 x.2 o).1:=rfl;have eU:(cX x).pieces=x.1:=rfl
 by_cases he:(mS x.1 x.2 o).2.err=91\/(mS x.1 x.2 o).2.err=180
 ·have hone:=ac0 hf hkb he;have e0:=JR (l:=x.1) (t:=x.2) (o:=o) (by omega)
  have ex:(za x o).1=x:=fC rfl e0;have qs:=Y5 hf;have hl1:decide ((1:Int)<(x.1.length:Int))=true:=by simp; omega
  rw[ex,hd] at q5;rw[<-hd] at he;rw[<-hd] at q5;generalize (za x o).2=a at *;generalize cX x=f at *;simp only[bC,dK,eA,bJ,bc,ua,sf,mF,eU] at q3 q4 q5 q6 w1 qs;rcases he with he|he<;>rw[he] at q5 <;>
  rcases(show o.kind=1\/o.kind=2\/o.kind=3\/o.kind=4\/o.kind=5\/o.kind=6\/o.kind=7 by omega) with g|g|g|g|g|g|g<;>simp only[g] at q3 q5 q6 <;>
  simp only[Y1,E3,mF,ua,dK,q1,q2,q3,q4,q5,q6,w1,qs,h3,h4,g,hl1,eU,aH,sd,EW,seval]
 ·have hp:=Hk (l:=x.1) (t:=x.2) hkb (fun h=>he (.inl h)) (fun h=>he (.inr h))
  have e1:((mS x.1 x.2 o).2.err==91)=false:=by rw[bL]; exact fun h=>he (.inl h)
  have e2:((mS x.1 x.2 o).2.err==180)=false:=by rw[bL]; exact fun h=>he (.inr h)
  obtain⟨n1,n2⟩:=Bo hf.rt o;rw[<-hp] at q6 n1 n2;have qa:=fun M=>lG (cO (c19 _ n1 n2) M)
  have qt:=QB hf2.rt;rw[ht] at w2 qt;rw[hd] at q5;generalize mS x.1 x.2 o=d at *;generalize (za x o).1=y at *;obtain⟨u,a⟩:=d;simp only at q6 w2 qt qa e1 e2 q5;generalize cX x=f at *;generalize cX y=g at *;simp only[bC,dK,eA,bJ,bc,ua,sf,mF] at q3 q4 q5 q6 w1 w2 qa qt;rcases(show o.kind=1\/o.kind=2\/o.kind=3\/o.kind=4\/o.kind=5\/o.kind=6\/o.kind=7 by omega) with k|k|k|k|k|k|k<;>simp only[k] at q3 q5 q6 <;>
  simp only[Y1,E3,mF,ua,dK,q1,q2,q3,q4,q5,q6,w1,w2,qa,qt,h3,h4,k,e1,e2,sd,EW,seval]
end
end Go.Proofs.YtcbopkblmebjiaaGreatDoor
