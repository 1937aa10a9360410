import Derived.Test.YtcbopkblmebjiaaGreatDoorFduF
set_option linter.unusedSimpArgs false
set_option linter.unusedVariables false
set_option linter.unusedSectionVars false
set_option linter.defProp false
namespace Go.Proofs.YtcbopkblmebjiaaGreatDoor
open Go Go.Abs
section
attribute [local irreducible] fP fi kD gK dp kr aq aL ct bI
def KM{x:List Piece×Tree}(hf:FI x.1 x.2){s:kc}(hz:s.kind.toNat % 5≠0)(hs:s.aR.length<=1000):aq iM 36 [.agg (bC (cX x)),.agg (eE s)] []=some (.tuple [.agg (bC (cX (stepT x s).1)),.agg (eA (stepT x s).2)],[]):=by
 refine aI ?_;obtain⟨l,t⟩:=x;simp only[cX] at hf ⊢;have q1:=fun M=>cO (c42 hf s.aR (by omega) s.group) M
 have q2:=fun M=>cO (c43 hf s.aR (by omega)) M
 have q3:=fun M=>cO (c82 hf s.aR (by omega) s.group) M
 unfold stepT;have hk:s.kind.toNat % 5<5:=iE _ (by omega)
 have hr:((s.kind.toNat:Nat):Int).tmod 5=((s.kind.toNat % 5:Nat):Int):=rfl;generalize s.kind.toNat % 5=k at hk hr hz ⊢;simp only;generalize bl l t=f at *;simp only[iZ,bC,dK] at q1 q2 q3;rcases(show k=0\/k=1\/k=2\/k=3\/k=4 by omega) with rfl|rfl|rfl|rfl|rfl
 ·exact absurd rfl hz
 ·generalize sx l t s.aR s.group=c at *;generalize bl c.1 t=F at *;simp only[DJ,UH,iZ,bC,eE,dK,eA,mF,aW,aX,hr,q1,sd,EW,seval]
  all_goals rfl
 ·generalize sx l t s.aR s.group=c at *;generalize bl c.1 t=F at *;simp only[DJ,UH,iZ,bC,eE,dK,eA,mF,aW,aX,hr,q1,sd,EW,seval]
  all_goals rfl
 ·generalize lN l s.aR=c at *;generalize bl c.1 t=F at *;simp only[DJ,UH,iZ,bC,eE,dK,eA,mF,aW,aX,hr,q2,sd,EW,seval]
  all_goals rfl
 ·generalize mU l s.aR s.group=c at *;generalize bl c.1 t=F at *;simp only[DJ,UH,iZ,bC,eE,dK,eA,mF,aW,aX,hr,q3,sd,EW,seval]
  all_goals rfl
end
def WG{l:List Piece}{t:Tree}(h:FI l t){x:qu}(hx:x∈(bl l t).eh){n:Node}(hn:n∈x.ae)(hk:n.kind=2):∃L,Way t.ae 1 L n.au/\find t.ae n.au=some n/\GF l (jP L)=(((df l (jP L):Nat):Int),0)/\df l (jP L)<l.length/\(mD l (df l (jP L))).group=x.group:=by
 obtain⟨cf,hg⟩:=h.rt;obtain⟨h1,_⟩:=wO hx;rw[h1] at hn;simp only[ef,dM] at hn;obtain⟨hm,hgr⟩:=hn;have hf:=(ft hg.jB.ju).2 ⟨hm,rfl⟩;obtain⟨L,hL,_⟩:=hg.DA (cf n.au) n.au n hf hk rfl;have hs:(bw (jP L)).2=0:=by rw[kb (kO hL) (hg.pJ hL)]
 refine⟨L,hL,hf,by rw[GF,az hs],h.prt.rV hs,?_⟩
 rw[<-hgr,tG hg h.prt h.may hf (rf hf hk ⟨L,hL,rfl⟩)];simp
def Oz{x:List Piece×Tree}{s:kc}(h:s.kind.toNat % 5≠0):(stepT x s).1.2=x.2:=by
 unfold stepT;have hk:s.kind.toNat % 5<5:=iE _ (by omega)
 generalize s.kind.toNat % 5=k at hk h ⊢;rcases(show k=0\/k=1\/k=2\/k=3\/k=4 by omega) with rfl|rfl|rfl|rfl|rfl
 ·exact absurd rfl h
 ·rfl
 ·rfl
 ·rfl
 ·rfl
section
attribute [local irreducible] fP fi kD gK dp kr aq aL ct bI
def S6{l:List Piece}{t:Tree}(hf:FI l t){A B D:cA}{i:Nat}{c:Int}{x:qu}{k:List K}{r:Option (ag×aK)}(hx:(bl l t).eh[i]?=some x)(hl:x.ae.length<=1000)
  (hA:∀B M,cA.back B M A=A) (hB:∀C M,cA.back C M B=B) (hD:∀B M,cA.back B M D=D)
  (hk:∀z,kr (aq iM) [.tmp 6] 0 k ⟨.exit 2,(7,.bool true)::(9,.ptr 2 0)::(11,.int .i64 c)::(12,.int .i64 i)::z,[A,B,.cells (bC (bl l t)),D]⟩=r) :
  fP (aq iM) [.tmp 6] 0 k (.loop [7,9,11,12,13] aho) [(7,.bool true),(9,.ptr 2 0),(11,.int .i64 c),(12,.int .i64 i),(13,.int .i64 0)] [A,B,.cells (bC (bl l t)),D]=r:=by
 have g0:((i:Int)<0)=False:=by simp
 have q1:=fun M=>lG (hf.vB M)
 have hpc:(bl l t).pieces=l:=rfl;refine gA (xs:=x.ae) (by omega) (fun _ (_:Unit)=>True) (fun _ (_:Unit)=>()) (fun _ j=>[(7,.bool true),(9,.ptr 2 0),(11,.int .i64 c),(12,.int .i64 i),(13,.int .i64 j)]) (fun _=>[A,B,.cells (bC (bl l t)),D]) (fun _=>r) (fun _ _=>?_) (fun pre n post _ hh hz cr hw h0 hm _ hi=>?_) () trivial
 ·generalize bl l t=f at *;simp only[bC] at hk ⊢;simp only[E9,hx,g0,jH,oq,ml,bg,bf,EW,seval];exact hk _
 ·have i1:=hi () trivial;cases hc:n.kind != 2
  rotate_left
  ·generalize bl l t=f at *;simp only[bC] at i1 ⊢;simp only[E9,hx,cr,hz,hw,h0,g0,hc,hA,hB,hD,jH,oq,ml,ck,aU,bg,EW,seval];exact i1
  ·obtain⟨cf,hg⟩:=hf.rt;have hk2:n.kind=2:=by simpa using hc
   obtain⟨L,h1,h2,h3,h4,h5⟩:=WG hf (aQ hx) hm hk2;have q2:=fun M=>lG (k40 hg h1 h2 hk2 M)
   have q3:=fun M=>lG (k25 hf.prt (jP L) (by rw[<-ra]; have:=uU L (kO h1) (hg.pJ h1); omega) M)
   rw[h3] at q3;have hp:=qR h4;generalize df l (jP L)=v at *;generalize mD l v=p at *;have e1:((v:Int)<0)=False:=by simp
   have e2:decide ((v:Int)<0)=false:=by simp
   have e3:decide ((l.length:Int)<=(v:Int))=false:=by simp; omega
   have e4:((0:Int)<=(v:Int))=True:=by simp
   generalize bl l t=f at *;simp only[bC,hpc] at i1 q1 ⊢;simp only[E9,hx,cr,hz,hw,h0,g0,hc,hA,hB,hD,hpc,q1,q2,q3,hp,h5,e1,e2,e3,e4,jH,oq,ml,dQ,gr,cL,ck,aU,bg,aH,an,EW,seval];exact i1
def N3{l:List Piece}{t:Tree}(hf:FI l t){A B D:cA}{k:List K}{r:Option (ag×aK)}
  (hA:∀B M,cA.back B M A=A) (hB:∀C M,cA.back C M B=B) (hD:∀B M,cA.back B M D=D)
  (hk:∀z,kr (aq iM) [.tmp 6] 0 k ⟨.exit 0,(7,.bool true)::(9,.ptr 2 0)::(11,.int .i64 (t.ae.length:Int))::z,[A,B,.cells (bC (bl l t)),D]⟩=r) :
  fP (aq iM) [.tmp 6] 0 k (.loop [7,9,11,12] ahp) [(7,.bool true),(9,.ptr 2 0),(11,.int .i64 0),(12,.int .i64 0)] [A,B,.cells (bC (bl l t)),D]=r:=by
 obtain⟨cf,hg⟩:=hf.rt;have hpm:=tb hg hf.prt hf.may;have hnl:=hg.ae;have hln:=hf.eh;have hle:=hpm.length_eq;refine gA (xs:=(bl l t).eh) (by omega) (fun j (c:Nat)=>c=(((bl l t).eh.take j).flatMap qu.ae).length) (fun _ (_:Nat)=>()) (fun c j=>[(7,.bool true),(9,.ptr 2 0),(11,.int .i64 c),(12,.int .i64 j)]) (fun _=>[A,B,.cells (bC (bl l t)),D]) (fun _=>r) (fun c hc=>?_) (fun pre x post c hh hz cr hw h0 hm hc hi=>?_) 0 rfl
 ·rw[cQ,hle] at hc;subst hc;generalize bl l t=f at *;simp only[bC] at hk ⊢;simp only[E9,bf,EW,seval];exact hk _
 ·have ht1:(((bl l t).eh.take (pre.length+1)).flatMap qu.ae).length=c+x.ae.length:=by rw[dz,hz,jD,aJ,<-hc]; simp
  have hxl:c+x.ae.length<=1000:=by
   have e:(((bl l t).eh.take (pre.length+1)).flatMap qu.ae).length<=((bl l t).eh.flatMap qu.ae).length:=by
    conv=>rhs; rw[<-cD (pre.length+1) (bl l t).eh,jD]
    simp
   omega
  have i1:=hi (c+x.ae.length) ht1.symm;have la:=fun {k r} hk=>S6 hf (A:=A) (B:=B) (D:=D) (i:=pre.length) (c:=((c+x.ae.length:Nat):Int)) (x:=x) (k:=k) (r:=r) hz (by omega) hA hB hD hk
  have w2:IntKind.i64.wrap ((c:Int)+(x.ae.length:Int))=((c+x.ae.length:Nat):Int):=by rw[gx (by omega) (by omega)]; omega
  generalize bl l t=f at *;simp only[bC] at i1 la ⊢;simp only[E9,cr,hz,hw,h0,w2,hA,hB,hD,jH,oq,ml,aH,EW,seval];refine la (fun z=>?_)
  simp only[E9,hw,hA,hB,hD,EW,seval];exact i1
set_option maxRecDepth 100000 in
def HZ(n:UInt8)(xs:List kc)(s:kc):aq iM 9 [mF n,oM xs,qh s] []=some (.bool true,[]):=by
 refine aI ?_;have q1:=cP vy;have q2:=fun M=>lG (Uq xs M)
 have hr:((s.kind.toNat:Nat):Int).tmod 5=((s.kind.toNat % 5:Nat):Int):=rfl;cases h1:sE xs<;>rw[h1] at q2
 case true=>simp only[fn9,E9,mF,qh,eE,dK,aW,aX,q1,q2,sd,EW,seval]
 cases h2:decide ((1000:Int)<(s.aR.length:Int))
 case true=>simp only[fn9,E9,mF,qh,eE,dK,aW,aX,q1,q2,h2,sd,EW,seval]
 by_cases hz:s.kind.toNat % 5=0
 ·have hz':(((s.kind.toNat % 5:Nat):Int)==0)=true:=by simp[hz]
  simp only[fn9,E9,mF,qh,eE,dK,aW,aX,q1,q2,h2,hr,hz',sd,EW,seval]
 have hz':(((s.kind.toNat % 5:Nat):Int)==0)=false:=by rw[bL]; omega
 obtain⟨hn,ho⟩:=sj h1;have hs2:s.aR.length<=1000:=by simp only[dk] at h2; omega
 have q4:=fun M=>cO (Y7 (c14 n hn ho)) M
 have hf:=FI.made (qZ n) xs;have q5:=fun M=>cO (KM hf hz hs2) M
 have hf2:=hf.stepT s;have w1:=hf.sR;have w2:=hf2.sR;have ht:=Oz (x:=uj (pU n) xs) hz;have qt:=QB hf.rt;generalize uj (pU n) xs=x at *;generalize stepT x s=y at *;obtain⟨⟨l,t⟩,a⟩:=y;simp only at ht hf2 w2 q5;rw[<-ht] at w1 qt;cases h3:a.err != 0
 rotate_left
 ·generalize cX x=f at *;generalize cX (l,t)=g at *;simp only[bC,eE,dK,eA,mF,jo,aW,aX] at q4 q5 w1 w2;simp only[fn9,E9,mF,qh,eE,dK,aW,aX,q1,q2,h2,hr,hz',q4,q5,w1,w2,qt,h3,sd,EW,seval]
 ·have hg:cX (l,t)=bl l t:=rfl;have q6:=fun M=>lG (hf2.vB M)
  rw[<-hg] at q6;generalize cX x=f at *;simp only[bC,eE,dK,eA,mF,jo,aW,aX] at q4 q5 w1 w2 q6;simp only[fn9,E9,mF,qh,eE,dK,aW,aX,q1,q2,h2,hr,hz',q4,q5,w1,w2,qt,h3,sd,EW,seval];have eU:(cX (l,t)).pieces=l:=rfl
  have hal:l.length=1->(cX (l,t)).eh.length=1:=fun h=>by
   match l,h with
   | [p],_=>rw[hg,hf2.alone rfl]; rfl
  have hne:1<=l.length:=by obtain⟨p,r,e,_⟩:=hf2.prt.fst; rw[e]; simp
  have mo:=fun {A B D k r} hA hB hD hk=>N3 hf2 (A:=A) (B:=B) (D:=D) (k:=k) (r:=r) hA hB hD hk
  rw[<-hg] at mo;generalize cX (l,t)=g at *;simp only[bC] at mo;refine mo (fun _ _=>rfl) (fun _ _=>rfl) (fun _ _=>rfl) (fun z=>?_)
  simp only[eU] at q6 ⊢;cases h6:decide ((1:Int)<(l.length:Int))
  ·have e6:l.length=1:=by simp at h6; omega
   have e7:=hal e6;simp only[E9,q6,h6,e7,eU,aH,ei,EW,seval]
  ·simp only[E9,q6,h6,eU,aH,ei,EW,seval]
end
end Go.Proofs.YtcbopkblmebjiaaGreatDoor
