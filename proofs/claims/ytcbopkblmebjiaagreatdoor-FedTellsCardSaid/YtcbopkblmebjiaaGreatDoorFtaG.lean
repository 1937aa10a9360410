import Derived.Test.YtcbopkblmebjiaaGreatDoorFtaF
set_option linter.all false
namespace Go.Proofs.YtcbopkblmebjiaaGreatDoor
open Go Go.Abs
section
attribute [local irreducible] fP fm kM gK dH kr aq aL cH bP
def PQ(s:Bytes)(M:aO):aL (aq dp) 117 [.str s] M=some (.bool (dB s),M):=by
 by_cases h:s.length<=100000
 ·exact Oh s h M
 ·have d:decide ((32:Int)<(s.length:Int))=true:=fZ aM;have d1:decide ((s.length:Int)<1)=false:=da aM
  have no:dB s=false:=by
   unfold dB;have:decide ((s.length:Int)>32)=true:=d;rw[this]; simp
  rw[no];refine cO (aw ?_) M;simp only[QC,Gb,d1,d,EW,seval]
def anw{t:Tree}(ht:t.aa.length<=100000)(n:Node):∃b:Bool,aq dp 204 [bD t,bJ n] []=some (.bool b,[])/\(b=true↔th t.aa t.ae n.aK/\n.aK.length<=64):=by
 obtain⟨aa,next,ae⟩:=t
 simp only at ht;obtain⟨Q,hQ⟩:∃Q:ag×aO->Prop,∀r,Q r↔∃b:Bool,r=(.bool b,[])/\(b=true↔th aa ae n.aK/\n.aK.length<=64):=⟨_,fun _=>pD⟩
 have qn:¬(th aa ae n.aK/\n.aK.length<=64)->Q (.bool false,[]):=fun h=>(hQ _).2 ⟨false,rfl,rH h⟩
 have key:∃r,Q r/\aq dp 204 [bD ⟨aa,next,ae⟩,bJ n] []=some r:=by
  refine wV (fun x h=>aw h) ?_
  cases g:decide ((64:Int)<(n.aK.length:Int))
  rotate_left
  ·exact⟨_,qn fun h=>by have:=bN g; omega,by simp only[QM,Al,bD,aY,bJ,aI,g,EW,seval]⟩
  have hl:n.aK.length<=64:=by have:=aZ g; omega
  simp only[QM,Al,bD,aY,bJ,aI,g,EW,seval]
  refine qV (xs:=n.aK) aM (fun m (_:Unit)=>th aa ae (n.aK.take m)) (fun _ i=>[(2,dC 0),(3,dC 1),(5,aH i)])
   (fun _=>[cL [aV aa,aH next,aH ae],cL [aH n.ar,aH n.kind,aH n.df,mc n.data,iU n.aK,aH n.up]]) Q (fun _ hI=>?_) (fun pre x post _ e hx cA hw h0 hm hI hi'=>?_) () (th.nil _ _)
  ·rw[bT] at hI;exact⟨(.bool true,[]),(hQ _).2 ⟨true,rfl,fun _=>⟨hI,hl⟩,fun _=>rfl⟩,by simp only[Al,aX,EW,seval]⟩
  ·have hp:=(au.1 hx).1;have q69:=k69 aa next ae x.ar ht
   have q41:=PQ x.name;cases no:dB x.name
   ·exact⟨_,qn fun h=>by have:=(h.1.sX x hm).name; rw[no] at this; (cases this),by simp only[Al,cA,hx,hw,h0,gq,dJ,q69,q41,no,EW,seval]⟩
   cases b1:decide (x.ae<1)
   rotate_left
   ·exact⟨_,qn fun h=>by have:=(h.1.sX x hm).low; have:=bN b1; omega,by simp only[Al,cA,hx,hw,h0,gq,dJ,q69,q41,no,b1,EW,seval]⟩
   cases b2:decide (ae<=x.ae)
   rotate_left
   ·exact⟨_,qn fun h=>by have:=(h.1.sX x hm).high; have:=bN b2; omega,by simp only[Al,cA,hx,hw,h0,gq,dJ,q69,q41,no,b1,b2,EW,seval]⟩
   rcases wm x.ar aa 0 with ⟨p1,p2⟩|⟨m,n',p0,p1,p2⟩
   ·rw[p2] at q69;exact⟨_,qn fun h=>by have:=(h.1.sX x hm).there; rw[p1] at this; (cases this),by simp only[Al,cA,hx,hw,h0,gq,dJ,q69,q41,no,b1,b2,EW,seval]⟩
   rw[p2] at q69;have pz:(((0+m:Nat):Int)<0)=False:=GV;have hent:Vh aa ae x:=⟨by rw[p1]; rfl,no,by have:=aZ b1; omega,by have:=aZ b2; omega⟩
   have hcase:(∃y,n.aK[pre.length-1]?=some y/\strLt y.name x.name=false/\decide ((0:Int)<(pre.length:Int))=true)\/(∀y,(n.aK.take pre.length).getLast?=some y->strLt y.name x.name=true)/\(decide ((0:Int)<(pre.length:Int))=false\/decide ((0:Int)<(pre.length:Int))=true/\∃y,n.aK[pre.length-1]?=some y/\strLt y.name x.name=true):=by
    cases h1:decide ((0:Int)<(pre.length:Int))
    ·exact .inr ⟨fun y hy=>by have:=(n9 hy).1; have:=aZ h1; omega,.inl rfl⟩
    ·obtain⟨y,c1,_⟩:=sr (xs:=n.aK) (pre:=pre) aM hp (by simpa using h1)
     cases h2:strLt y.name x.name
     ·exact .inl ⟨y,c1,h2,rfl⟩
     ·exact .inr ⟨fun z hz=>by
       have:=(n9 hz).2 aM;rw[c1] at this; injection this with this; rw[<-this]; exact h2,.inr ⟨rfl,y,c1,h2⟩⟩
   have hbk:decide ((0:Int)<(pre.length:Int))=true->IntKind.i64.wrap ((pre.length:Int)-1)=((pre.length-1:Nat):Int)/\(((pre.length-1:Nat):Int)<0)=False/\(((pre.length-1:Nat):Int)<(n.aK.length:Int))=True:=fun h1=>by
    obtain⟨_,_,c⟩:=sr (xs:=n.aK) (pre:=pre) aM hp (by simpa using h1)
    exact c
   rcases hcase with ⟨y,c1,h2,h1⟩|⟨hlast,hcase⟩
   ·obtain⟨c2,c3,c4⟩:=hbk h1;exact⟨_,qn fun h=>by have:=uM h.1.iW c1 hx (by simp at h1; omega); rw[h2] at this; (cases this),by simp only[Al,cA,hx,hw,h0,gq,dJ,q69,q41,no,b1,b2,pz,h1,c1,c2,c3,c4,h2,EW,seval]⟩
   rcases hcase with h1|⟨h1,y,c1,h2⟩
   simp only[Al,cA,hx,hw,h0,gq,dJ,q69,q41,no,b1,b2,pz,h1,EW,seval]
   rotate_left
   (obtain⟨c2,c3,c4⟩:=hbk h1; simp only[Al,cA,hx,hw,h0,gq,dJ,q69,q41,no,b1,b2,pz,h1,c1,c2,c3,c4,h2,EW,seval])
   all_goals
    refine qV (xs:=pre) aM (fun m (_:Unit)=>∀z,z∈pre.take m->z.ae≠x.ae) (fun _ i=>[(2,dC 0),(3,dC 1),(5,aH pre.length),(6,dC 2),(7,aH i)])
     (fun _=>[cL [aV aa,aH next,aH ae],cL [aH n.ar,aH n.kind,aH n.df,mc n.data,iU n.aK,aH n.up],cL [.str x.name,aH x.ar,aH x.ae]]) Q (fun _ hK=>?_) (fun pre' z post' _ e' hz hlt' hw' hz' hm' hK hi2=>?_) () (fun _ h=>by cases h)
    ·rw[bT] at hK
     have i1:=hi' () (by
      rw[iG hx];exact hI.snoc hent hlast fun z hz=>hK z (by rw[e,List.take_left] at hz; exact hz))
     simp only[Al,cA,hx,hw,h0,aX,EW,seval];exact i1
    ·have hzn:n.aK[pre'.length]?=some z:=by
      rw[e,bh (au.1 hz).1]; exact hz
     have hzl:((pre'.length:Int)<(n.aK.length:Int))=True:=by
      have:=(au.1 hzn).1;simp only[fH,j5]; omega
     cases hc:(z.ae==x.ae)
     ·have i1:=hi2 () (fun w hw=>by
       rw[iG hz] at hw;rcases bC.1 hw with hw|hw
       ·exact hK w hw
       ·rw[bU] at hw; subst hw; simpa using hc)
      simp only[Al,hlt',hzn,hzl,hw',hz',hc,gq,dJ,EW,seval];exact i1
     ·have hz2:pre'.length<pre.length:=(au.1 hz).1;exact⟨_,qn fun h=>uM h.1.cks hzn hx hz2 (by simpa using hc),by simp only[Al,hlt',hzn,hzl,hw',hz',hc,gq,dJ,EW,seval]⟩
 obtain⟨r,h1,h2⟩:=key;obtain⟨b,rfl,h3⟩:=(hQ r).1 h1;exact⟨b,h2,h3⟩
def ams{aa:List Node}{next ae:Int}(hn:aa.length<=100000)(he:∀n,n∈aa->n.aK.length<=100000)(ar u:Int)(M:aO):aL (aq dp) 203 [.agg [aV aa,aH next,aH ae],aH ar,aH u] M=some (.tuple [aH (mJ aa ar),aH (yZ aa ar u)],M):=by
 refine cO (aw ?_) M;simp only[Zb,Jz,EW,seval]
 refine dj (gV (xs:=aa) aM (fun i (s:Nat×Nat)=>s.1<=100000*i/\s.2<=100000*i) (fun post (s:Nat×Nat)=>(s.1+mJ post ar,s.2+yZ post ar u)) (fun s i=>[(1,aH ar),(2,aH u),(3,dC 0),(8,aH s.1),(9,aH s.2),(10,aH i)])
  (fun _=>[cL [aV aa,aH next,aH ae]]) (fun(r:Nat×Nat)=>some (.tuple [aH r.1,aH r.2],[])) (fun s _=>?_) (fun pre x post s hh hx cA hw h0 hm hI hi=>?_) (0,0) ⟨ct _,ct _⟩) dk
 ·obtain⟨a,o⟩:=s;simp only[Jz,aX,EW,seval];rfl
 ·obtain⟨a,o⟩:=s;obtain⟨hI1,hI2⟩:=hI;simp only at hI1 hI2;have hpl:pre.length<100000:=by have:=congrArg List.length hh; simp at this; omega
  have hex:=he x hm;rw[nR,zV];simp only[Jz,cA,EW,seval]
  refine dj (gV (xs:=x.aK) aM (fun i (s:Nat×Nat)=>s.1<=100000*pre.length+i/\s.2<=100000*pre.length+i) (fun rest (s:Nat×Nat)=>(s.1+(jW rest ar+mJ post ar),s.2+((if x.ar=u then jW rest ar else 0)+yZ post ar u))) (fun s i=>[(1,aH ar),(2,aH u),(3,dC 0),(8,aH s.1),(9,aH s.2),(10,aH pre.length),(11,aH i)])
   (fun _=>[cL [aV aa,aH next,aH ae]]) (fun(r:Nat×Nat)=>some (.tuple [aH r.1,aH r.2],[])) (fun s hs=>?_) (fun pre' y post' s hh' hx' hlt' hw' h0' hm' hs hi'=>?_) (a,o) ⟨by simpa using hI1,by simpa using hI2⟩) rfl
  ·obtain⟨a,o⟩:=s;have i1:=hi (a,o) ⟨by have:=hs.1; simp only at this ⊢; omega,by have:=hs.2; simp only at this ⊢; omega⟩
   simp only[Jz,cA,hx,h0,hw,aX,sE,uh,aI,EW,seval];simp only[tZ,ite_self,aN];exact i1
  ·obtain⟨a,o⟩:=s;obtain⟨hs1,hs2⟩:=hs;simp only at hs1 hs2;have hpl':pre'.length<100000:=by have:=congrArg List.length hh'; simp at this; omega
   have w1:IntKind.i64.wrap ((a:Int)+1)=((a+1:Nat):Int):=by rw[gb aM aM]; omega
   have w2:IntKind.i64.wrap ((o:Int)+1)=((o+1:Nat):Int):=by rw[gb aM aM]; omega
   rw[rb];cases c1:y.ar==ar
   ·have i1:=hi' (a,o) ⟨by simp only; omega,by simp only; omega⟩
    have c1':¬y.ar=ar:=by simpa using c1
    simp only[Jz,cA,hx,h0,hlt',hx',h0',hw',c1,sE,uh,aI,gq,dJ,EW,seval];simp only[aj c1',aN];exact i1
   ·have c1':y.ar=ar:=by simpa using c1
    cases c2:x.ar==u
    ·have i1:=hi' (a+1,o) ⟨by simp only; omega,by simp only; omega⟩
     have c2':¬x.ar=u:=by simpa using c2
     simp only[Jz,cA,hx,h0,hlt',hx',h0',hw',c1,c2,w1,sE,uh,aI,gq,dJ,EW,seval];simp only[aj c2',av c1',aN] at i1 ⊢;rw[i1,show a+1+(jW post' ar+mJ post ar)=a+(jW post' ar+1+mJ post ar) by omega]
    ·have i1:=hi' (a+1,o+1) ⟨by simp only; omega,by simp only; omega⟩
     have c2':x.ar=u:=by simpa using c2
     simp only[Jz,cA,hx,h0,hlt',hx',h0',hw',c1,c2,w1,w2,sE,uh,aI,gq,dJ,EW,seval];simp only[av c2',av c1'] at i1 ⊢;rw[i1,show a+1+(jW post' ar+mJ post ar)=a+(jW post' ar+1+mJ post ar) by omega,show o+1+(jW post' ar+yZ post ar u)=o+(jW post' ar+1+yZ post ar u) by omega]
def anu{aa:List Node}{next ae:Int}(hn:aa.length<=100000)(he:∀n,n∈aa->n.aK.length<=100000)(n:Node):∃b:Bool,aq dp 149 [bD ⟨aa,next,ae⟩,bJ n] []=some (.bool b,[])/\(b=true↔Lw aa ae n):=by
 obtain⟨bl,q,hbl⟩:=anw (t:=⟨aa,next,ae⟩) hn n
 have q1:=ams (next:=next) (ae:=ae) hn he n.ar n.up
 have q2:∀M,aL (aq dp) 204 [.agg [aV aa,aH next,aH ae],.agg (aI n)] M=some (.bool bl,M):=cP q
 simp only[aI] at q2;simp only at hbl
 by_cases hk:n.kind=1
 ·have b1:(n.kind==1)=true:=by simp[hk]
  cases b2:((n.aK.length:Int)==0)
  ·exact⟨false,(by refine aw ?_; simp only[uF,Ak,bD,aY,bJ,aI,q1,b1,b2,EN,seval]),rH fun h=>by have:=(h.file hk).1; rw[this] at b2; simp at b2⟩
  cases b3:(n.up==0)
  ·exact⟨false,(by refine aw ?_; simp only[uF,Ak,bD,aY,bJ,aI,q1,b1,b2,b3,EN,seval]),rH fun h=>by have:=(h.file hk).2.1; rw[this] at b3; simp at b3⟩
  cases b4:decide ((n.data.length:Int)<=4096)
  ·exact⟨false,(by refine aw ?_; simp only[uF,Ak,bD,aY,bJ,aI,q1,b1,b2,b3,b4,EN,seval]),rH fun h=>by have:=(h.file hk).2.2.1; have:=aZ b4; omega⟩
  exact⟨n.df==(mJ aa n.ar:Int),(by refine aw ?_; simp only[uF,Ak,bD,aY,bJ,aI,q1,b1,b2,b3,b4,EN,seval]),fun h=>⟨.inl hk,fun _=>⟨cf.1 (by have:=eq_of_beq b2; omega),eq_of_beq b3,by have:=bN b4; omega,eq_of_beq h⟩,fun h=>aM,fun h=>aM,fun h=>aM⟩,fun h=>by rw[(h.file hk).2.2.2]; simp⟩
 have b1:(n.kind==1)=false:=by simpa using hk
 cases b2:(n.kind != 2)
 rotate_left
 ·exact⟨false,(by refine aw ?_; simp only[uF,Ak,bD,aY,bJ,aI,q1,b1,b2,EN,seval]),rH fun h=>by have:=h.kind; simp at b2; omega⟩
 have hk2:n.kind=2:=by simpa using b2
 cases b3:decide ((0:Int)<(n.data.length:Int))
 rotate_left
 ·exact⟨false,(by refine aw ?_; simp only[uF,Ak,bD,aY,bJ,aI,q1,b1,b2,b3,EN,seval]),rH fun h=>by have:=(h.dir hk2).1; rw[this] at b3; simp at b3⟩
 have hd:n.data=[]:=cf.1 (by have:=aZ b3; omega)
 cases bl
 ·exact⟨false,(by refine aw ?_; simp only[uF,Ak,bD,aY,bJ,aI,q1,q2,b1,b2,b3,EN,seval]),rH fun h=>by have:=hbl.2 (h.dir hk2).2; cases this⟩
 have hle:=hbl.1 rfl
 by_cases h1:n.ar=1
 ·have c1:(n.ar==1)=true:=by simp[h1]
  cases c2:(n.up==1)
  ·exact⟨false,(by refine aw ?_; simp only[uF,Ak,bD,aY,bJ,aI,q1,q2,b1,b2,b3,c1,c2,EN,seval]),rH fun h=>by have:=(h.root hk2 h1).1; rw[this] at c2; simp at c2⟩
  cases c3:(n.df==0)
  ·exact⟨false,(by refine aw ?_; simp only[uF,Ak,bD,aY,bJ,aI,q1,q2,b1,b2,b3,c1,c2,c3,EN,seval]),rH fun h=>by have:=(h.root hk2 h1).2.1; rw[this] at c3; simp at c3⟩
  exact⟨((mJ aa n.ar:Int)==0),(by refine aw ?_; simp only[uF,Ak,bD,aY,bJ,aI,q1,q2,b1,b2,b3,c1,c2,c3,EN,seval]),fun h=>⟨.inr hk2,fun h=>aM,fun _=>⟨hd,hle⟩,fun _ _=>⟨eq_of_beq c2,eq_of_beq c3,by have:=eq_of_beq h; omega⟩,fun _ h=>absurd h1 h⟩,fun h=>by rw[(h.root hk2 h1).2.2]; rfl⟩
 have c1:(n.ar==1)=false:=by simpa using h1
 cases c2:((mJ aa n.ar:Int)==1)
 ·exact⟨false,(by refine aw ?_; simp only[uF,Ak,bD,aY,bJ,aI,q1,q2,b1,b2,b3,c1,c2,EN,seval]),rH fun h=>by rw[(h.one hk2 h1).1] at c2; simp at c2⟩
 cases c3:((yZ aa n.ar n.up:Int)==1)
 ·exact⟨false,(by refine aw ?_; simp only[uF,Ak,bD,aY,bJ,aI,q1,q2,b1,b2,b3,c1,c2,c3,EN,seval]),rH fun h=>by rw[(h.one hk2 h1).2.1] at c3; simp at c3⟩
 exact⟨n.df==1,(by refine aw ?_; simp only[uF,Ak,bD,aY,bJ,aI,q1,q2,b1,b2,b3,c1,c2,c3,EN,seval]),fun h=>⟨.inr hk2,fun h=>aM,fun _=>⟨hd,hle⟩,fun _ h=>absurd h h1,fun _ _=>⟨by have:=eq_of_beq c2; omega,by have:=eq_of_beq c3; omega,eq_of_beq h⟩⟩,fun h=>by rw[(h.one hk2 h1).2.2]; rfl⟩
set_option maxHeartbeats 1000000 in
def x80{t:Tree}(ht:Small t):∃b:Bool,aq dp 80 [bD t] []=some (.bool b,[])/\(b=true↔DR t):=by
 obtain⟨aa,next,ae⟩:=t
 have hN:=ht.aa;simp only at hN;have hz0:Int.toNat 0=0:=rfl;cases b1:decide ((aa.length:Int)<1)
 rotate_left
 ·exact⟨false,(by refine aw ?_; simp only[Gw,BX,bD,aY,b1,EW,seval]),rH fun h=>by obtain⟨r,rest,e,_⟩:=h.head; simp only at e; rw[e] at b1; simp at b1; omega⟩
 cases b2:decide ((200:Int)<(aa.length:Int))
 rotate_left
 ·exact⟨false,(by refine aw ?_; simp only[Gw,BX,bD,aY,b1,b2,EW,seval]),rH fun h=>by have:=h.NS; have:=bN b2; simp only at *; omega⟩
 have hl1:1<=aa.length:=by have:=aZ b1; omega
 have hl2:aa.length<=200:=by have:=aZ b2; omega
 obtain⟨r,rest,r1⟩:∃r rest,aa=r::rest:=by cases aa with
  |nil=>simp at hl1
  |cons r rest=>exact⟨r,rest,rfl⟩
 have h0:aa[0]?=some r:=by rw[r1]; rfl
 have hh:∀ {P:Node->Prop},DR ⟨aa,next,ae⟩->(∀r' rest',aa=r'::rest'->r'.ar=1->r'.kind=2->P r')->P r:=fun h k=>by
  obtain⟨r',rest',e,e1,e2⟩:=h.head;simp only at e;have:=k r' rest' e e1 e2;rw[r1] at e; injection e with e; rw[e]; exact this
 cases b3:(r.ar != 1)
 rotate_left
 ·exact⟨false,(by refine aw ?_; simp only[Gw,BX,bD,aY,b1,b2,h0,hz0,bJ,aI,b3,cJ,EW,seval]),rH fun h=>by have:=hh (P:=fun r=>r.ar=1) h (fun _ _ _ a _=>a); simp[this] at b3⟩
 cases b4:(r.kind != 2)
 rotate_left
 ·exact⟨false,(by refine aw ?_; simp only[Gw,BX,bD,aY,b1,b2,h0,hz0,bJ,aI,b3,b4,cJ,EW,seval]),rH fun h=>by have:=hh (P:=fun r=>r.kind=2) h (fun _ _ _ _ a=>a); simp[this] at b4⟩
 cases b5:decide ((1099511627776:Int)<next)
 rotate_left
 ·exact⟨false,(by refine aw ?_; simp only[Gw,BX,bD,aY,b1,b2,h0,hz0,bJ,aI,b3,b4,b5,cJ,EW,seval]),rH fun h=>by have:=h.next; have:=bN b5; simp only at *; omega⟩
 cases b6:decide (ae<1)
 rotate_left
 ·exact⟨false,(by refine aw ?_; simp only[Gw,BX,bD,aY,b1,b2,h0,hz0,bJ,aI,b3,b4,b5,b6,cJ,EW,seval]),rH fun h=>by have:=h.ae.1; have:=bN b6; simp only at *; omega⟩
 cases b7:decide ((1099511627776:Int)<ae)
 rotate_left
 ·exact⟨false,(by refine aw ?_; simp only[Gw,BX,bD,aY,b1,b2,h0,hz0,bJ,aI,b3,b4,b5,b6,b7,cJ,EW,seval]),rH fun h=>by have:=h.ae.2; have:=bN b7; simp only at *; omega⟩
 obtain⟨Q,hQ⟩:∃Q:ag×aO->Prop,∀r,Q r↔∃b:Bool,r=(.bool b,[])/\(b=true↔DR ⟨aa,next,ae⟩):=⟨_,fun _=>pD⟩
 have qn:¬DR ⟨aa,next,ae⟩->Q (.bool false,[]):=fun h=>(hQ _).2 ⟨false,rfl,rH h⟩
 have key:∃r,Q r/\aq dp 80 [bD ⟨aa,next,ae⟩] []=some r:=by
  refine wV (fun x h=>aw h) ?_
  simp only[Gw,BX,bD,aY,b1,b2,h0,hz0,bJ,aI,b3,b4,b5,b6,b7,cJ,EW,seval];refine qV (xs:=aa) aM (fun m (_:Unit)=>ng (aa.take m)/\∀n,n∈aa.take m->n.ar<next/\n.aK.length<=64/\Lw aa ae n) (fun _ i=>[(1,dC 0),(3,aH i)]) (fun _=>[cL [aV aa,aH next,aH ae]]) Q (fun _ hI=>?_) (fun pre x post _ e hx cA hw h0' hm hI hi'=>?_) () ⟨List.Pairwise.nil,fun _ h=>by cases h⟩
  ·rw[bT] at hI;obtain⟨hA,hI⟩:=hI;simp only[BX,aX,EW,seval];refine qV (xs:=aa) aM (fun m (_:Unit)=>∀n,n∈aa.take m->n.kind=2->jr aa n.ar 1=true/\jx aa n.ar<=12/\(jx aa n.ar=12->n.aK=[])) (fun _ i=>[(1,dC 0),(5,aH i)]) (fun _=>[cL [aV aa,aH next,aH ae]]) Q (fun _ hJ=>?_) (fun pre x post _ e hx cA hw h0' hm hJ hi'=>?_) () (fun _ h=>by cases h)
   ·rw[bT] at hJ;exact⟨(.bool true,[]),(hQ _).2 ⟨true,rfl,fun _=>⟨⟨r,rest,r1,by simpa using b3,by simpa using b4⟩,hl2,by have:=aZ b5; simp only; omega,⟨by have:=aZ b6; simp only; omega,by have:=aZ b7; simp only; omega⟩,hA,hI,hJ⟩,fun _=>rfl⟩,by simp only[BX,aX,EW,seval]⟩
   ·have snoc:(x.kind=2->jr aa x.ar 1=true/\jx aa x.ar<=12/\(jx aa x.ar=12->x.aK=[]))->∀n,n∈aa.take (pre.length+1)->n.kind=2->jr aa n.ar 1=true/\jx aa n.ar<=12/\(jx aa n.ar=12->n.aK=[]):=fun h n hn=>by
     rw[iG hx] at hn;rcases bC.1 hn with hn|hn
     ·exact hJ n hn
     ·rw[bU] at hn; subst hn; exact h
    have q1:=KC aa next ae x.ar ht.aa
    have q2:=k27 aa next ae x.ar 1 ht.aa
    cases c1:(x.kind != 2)
    rotate_left
    ·have i1:=hi' () (snoc fun h=>by simp[h] at c1)
     simp only[BX,cA,hx,hw,h0',bJ,aI,c1,EW,seval];exact i1
    have hk:x.kind=2:=by simpa using c1
    cases c2:jr aa x.ar 1<;>rw[c2] at q2
    ·exact⟨_,qn fun h=>by have:=(h.deep x hm hk).1; simp only at this; rw[c2] at this; (cases this),by simp only[BX,cA,hx,hw,h0',bJ,aI,c1,q1,q2,EW,seval]⟩
    cases c3:decide ((12:Int)<(jx aa x.ar:Int))
    rotate_left
    ·exact⟨_,qn fun h=>by have:=(h.deep x hm hk).2.1; have:=bN c3; simp only at *; omega,by simp only[BX,cA,hx,hw,h0',bJ,aI,c1,q1,q2,c3,EW,seval]⟩
    cases c4:((jx aa x.ar:Int)==12)
    ·have i1:=hi' () (snoc fun _=>⟨c2,by have:=aZ c3; omega,fun h=>by rw[h] at c4; simp at c4⟩)
     simp only[BX,cA,hx,hw,h0',bJ,aI,c1,q1,q2,c3,c4,EW,seval];exact i1
    cases c5:decide ((0:Int)<(x.aK.length:Int))
    ·have i1:=hi' () (snoc fun _=>⟨c2,by have:=aZ c3; omega,fun _=>cf.1 (by have:=aZ c5; omega)⟩)
     simp only[BX,cA,hx,hw,h0',bJ,aI,c1,q1,q2,c3,c4,c5,EW,seval];exact i1
    ·exact⟨_,qn fun h=>by have:=(h.deep x hm hk).2.2 (by have:=eq_of_beq c4; simp only; omega); rw[this] at c5; simp at c5,by simp only[BX,cA,hx,hw,h0',bJ,aI,c1,q1,q2,c3,c4,c5,EW,seval]⟩
  ·have hp:=(au.1 hx).1;obtain⟨bn,n1,n2⟩:=anu (next:=next) (ae:=ae) ht.aa ht.aK x
   have qN:∀M,aL (aq dp) 149 [.agg [aV aa,aH next,aH ae],.agg (aI x)] M=some (.bool bn,M):=cP n1
   simp only[aI] at qN
   have next':(∀y,(aa.take pre.length).getLast?=some y->y.ar<x.ar)->x.ar<next->x.aK.length<=64->Lw aa ae x->∃r,Q r/\_:=fun h1 h2 h3 h4=>hi' () ⟨by rw[iG hx]; exact Hy hI.1 h1,fun n hn=>by
    rw[iG hx] at hn;rcases bC.1 hn with hn|hn
    ·exact hI.2 n hn
    ·rw[bU] at hn; subst hn; exact⟨h2,h3,h4⟩⟩
   have n5:next<=x.ar->¬DR ⟨aa,next,ae⟩:=fun c h=>by have:=(h.all x hm).1; simp only at this; omega
   have n6:64<x.aK.length->¬DR ⟨aa,next,ae⟩:=fun c h=>by have:=(h.all x hm).2.1; omega
   have n7:bn=false->¬DR ⟨aa,next,ae⟩:=fun c h=>by have:=n2.2 (h.all x hm).2.2; rw[c] at this; cases this
   cases h1:decide ((0:Int)<(pre.length:Int))
   ·cases c5:decide (next<=x.ar)
    rotate_left
    ·exact⟨_,qn (n5 (bN c5)),by simp only[BX,cA,hx,hw,h0',bJ,aI,h1,c5,EW,seval]⟩
    cases c6:decide ((64:Int)<(x.aK.length:Int))
    rotate_left
    ·exact⟨_,qn (n6 (by have:=bN c6; omega)),by simp only[BX,cA,hx,hw,h0',bJ,aI,h1,c5,c6,EW,seval]⟩
    cases bn
    ·exact⟨_,qn (n7 rfl),by simp only[BX,cA,hx,hw,h0',bJ,aI,h1,c5,c6,qN,EW,seval]⟩
    have i1:=next' (fun y hy=>by have:=(n9 hy).1; have:=aZ h1; omega) (by have:=aZ c5; omega) (by have:=aZ c6; omega) (n2.1 rfl)
    simp only[BX,cA,hx,hw,h0',bJ,aI,h1,c5,c6,qN,EW,seval];exact i1
   ·obtain⟨y,d1,d2,d3,d4⟩:=sr (xs:=aa) (pre:=pre) aM hp (by simpa using h1)
    cases d5:decide (x.ar<=y.ar)
    rotate_left
    ·exact⟨_,qn fun h=>by have:=uM h.iW d1 hx (by simp at h1; omega); have:=bN d5; omega,by simp only[BX,cA,hx,hw,h0',bJ,aI,h1,d1,d2,d3,d4,d5,EW,seval]⟩
    cases c5:decide (next<=x.ar)
    rotate_left
    ·exact⟨_,qn (n5 (bN c5)),by simp only[BX,cA,hx,hw,h0',bJ,aI,h1,c5,d1,d2,d3,d4,d5,EW,seval]⟩
    cases c6:decide ((64:Int)<(x.aK.length:Int))
    rotate_left
    ·exact⟨_,qn (n6 (by have:=bN c6; omega)),by simp only[BX,cA,hx,hw,h0',bJ,aI,h1,c5,c6,d1,d2,d3,d4,d5,EW,seval]⟩
    cases bn
    ·exact⟨_,qn (n7 rfl),by simp only[BX,cA,hx,hw,h0',bJ,aI,h1,c5,c6,qN,d1,d2,d3,d4,d5,EW,seval]⟩
    have i1:=next' (fun z hz=>by
     have:=(n9 hz).2 aM;rw[d1] at this; injection this with this; rw[<-this]; have:=aZ d5; omega) (by have:=aZ c5; omega) (by have:=aZ c6; omega) (n2.1 rfl)
    simp only[BX,cA,hx,hw,h0',bJ,aI,h1,c5,c6,qN,d1,d2,d3,d4,d5,EW,seval];exact i1
 obtain⟨r,h1,h2⟩:=key;obtain⟨b,rfl,h3⟩:=(hQ r).1 h1;exact⟨b,h2,h3⟩
end
def Hh.ex{f:rR}(h:Hh f):∃t,FI f.pieces t/\f=bG f.pieces t/\f.dV.length<=8/\(⟨tq (f.dV.flatMap nz.aa),f.next,f.ae⟩:Tree)=t:=by
 obtain⟨t,cz,hg,hl,hm,he⟩:=h;have hfi:FI f.pieces t:=⟨⟨cz,hg⟩,hl,hm⟩;refine⟨t,hfi,he,by rw[he]; exact hfi.dV,?_⟩
 have hp:=tF hg hl hm;rw[<-he] at hp;have h1:f.next=t.next:=by rw[he]; rfl
 have h2:f.ae=t.ae:=by rw[he]; rfl
 rw[CO hg.jK.iW hp fun n hn=>(hg.num _ _ ((fp hg.jK.iW).2 ⟨hn,rfl⟩)).1,h1,h2]
section
attribute [local irreducible] fP fm kM gK dH kr aq aL cH bP
def x35{f:rR}(hf:wU f):∃b:Bool,aq dp 35 [iV f] []=some (.bool b,[])/\(b=true↔Hh f):=by
 have no:∀ {P:Prop},¬P->(false=true↔P):=fun h=>⟨fun h=>(by cases h),fun g=>absurd g h⟩
 obtain⟨b1,s1,s2⟩:=x79 (l:=f.pieces) (by have:=hf.pieces; omega) (fun p hp=>by have:=hf.aQ p hp; omega)
 have q1:∀M,aL (aq dp) 79 [bV f.pieces] M=some (.bool b1,M):=cP s1;cases b1
 ·exact⟨false,(by refine aw ?_; simp only[NX,E35,iV,bL,q1,EW,seval]),no fun⟨_,_,_,hl,_⟩=>by have:=s2.2 hl; cases this⟩
 have hl:=s2.1 rfl;cases g1:decide ((8:Int)<(f.dV.length:Int))
 rotate_left
 ·exact⟨false,(by refine aw ?_; simp only[NX,E35,iV,bL,q1,g1,EW,seval]),no fun h=>by obtain⟨_,_,_,h,_⟩:=h.ex; have:=bN g1; omega⟩
 have q2:∀M,aL (aq dp) 23 [.agg (bL f)] M=some (.agg [aV (tq (f.dV.flatMap nz.aa)),aH f.next,aH f.ae],M):=fun M=>cO (w23 (f:=f) (by have:=hf.aa; omega) (by have:=hf.dV; omega)) M
 have hsm:Small ⟨tq (f.dV.flatMap nz.aa),f.next,f.ae⟩:=hf.Lh (by have:=hf.aa; have:=JX (f.dV.flatMap nz.aa); omega) (fun n hn=>JY hn) _ _
 have hex:=fun h=>Hh.ex (f:=f) h
 generalize tq (f.dV.flatMap nz.aa)=ns at q2 hsm hex;obtain⟨b2,t1,t2⟩:=x80 hsm;have q5:∀M,aL (aq dp) 80 [.agg [aV ns,aH f.next,aH f.ae]] M=some (.bool b2,M):=cP t1
 simp only[bL] at q2;cases b2
 ·exact⟨false,(by refine aw ?_; simp only[NX,E35,iV,bL,q1,q2,q5,g1,EW,seval]),no fun h=>by
   obtain⟨t,⟨⟨cz,hg⟩,_,_⟩,_,_,e⟩:=hex h;have:=t2.2 (by rw[e]; exact hg.dr); cases this⟩
 have hrg:=(t2.1 rfl).rg;have hg:=hrg.abw;have q6:=k81 hg hl;have hmd:=IL hg hl;cases h6:Ov f.pieces ⟨ns,f.next,f.ae⟩<;>rw[h6] at q6 hmd
 ·exact⟨false,(by refine aw ?_; simp only[NX,E35,iV,bL,q1,q2,q5,q6,g1,EW,seval]),no fun h=>by
   obtain⟨t,⟨_,_,hm⟩,_,_,e⟩:=hex h;have:=hmd.2 (by rw[e]; exact hm); cases this⟩
 have hmay:=hmd.1 rfl;have hfi:FI f.pieces ⟨ns,f.next,f.ae⟩:=⟨⟨_,hg⟩,hl,hmay⟩
 have q3:=hfi.xN;have q4:=fun M=>k18 (f:=f) (g:=bG f.pieces ⟨ns,f.next,f.ae⟩) (by have:=hf.pieces; omega) (by have:=hf.dV; omega) hf.small M
 have hfin:decide (f=bG f.pieces ⟨ns,f.next,f.ae⟩)=true↔Hh f:=⟨fun h=>LW hrg hl hmay (bN h),fun h=>by
  obtain⟨t,_,h1,_,e⟩:=hex h;rw[e]; exact fZ h1⟩
 generalize bG f.pieces ⟨ns,f.next,f.ae⟩=g at q3 q4 hfin
 simp only[bL] at q3 q4;exact⟨_,(by refine aw ?_; simp only[NX,E35,iV,bL,q1,q2,q3,q4,q5,q6,g1,EW,seval]),hfin⟩
end
def O0(P:Nat->Bool)(c:Nat):((List.range 8).map P).set c true=(List.range 8).map fun g=>P g||decide (c=g):=by
 apply List.ext_getElem
 ·simp
 ·intro i h1 h2;rw[List.getElem_set];simp only[List.getElem_map,List.getElem_range]
  by_cases h:c=i<;>simp[h]
def Cc(b:Bool):(ag.bool b).cells=[.bool b]:=rfl
abbrev AE(l:List Bool):ag := .slice .sh (l.map ag.bool)
section
attribute [local irreducible] fP fm kM gK dH kr aq aL cH bP
def k87{f:rR}(hl:kc f.pieces)(s:Bytes)(hs:s.length<=100000)(M:aO):aL (aq dp) 87 [.agg (bL f),.str s] M=some (AE ((List.range 8).map fun(g:Nat)=>qq f.pieces s g),M):=by
 refine cO (aw ?_) M;have q1:=Ig s hs;obtain⟨hn1,hn2⟩:=lV s;unfold qq;generalize bI s=v at q1 hn1 hn2 ⊢;obtain⟨ns,e⟩:=v;simp only at q1 hn1 hn2 ⊢;have r1:dY 8 8=True:=xt;simp only[abo,E87,bL,q1,r1,EW,seval];have hr:(List.range (ns.length+1)).length=ns.length+1:=dk
 refine dj (gV (xs:=List.range (ns.length+1)) ic (fun i (ds:List Bool)=>ds=(List.range 8).map fun(g:Nat)=>(List.range i).any fun j=>zJ f.pieces (mu (ns.take j))==(g:Int)) (fun _ (_:List Bool)=>()) (fun _ i=>[(2,dC 0),(5,.cY 1 0 1 0 8),(6,fX ns),(8,aH i)])
  (fun ds=>[cL [bV f.pieces,mf f.dV,aH f.next,aH f.ae],.arr 1 0 (ds.map ag.bool)]) (fun _=>some (AE ((List.range 8).map fun(g:Nat)=>(List.range (ns.length+1)).any fun j=>zJ f.pieces (mu (ns.take j))==(g:Int)),[])) (fun ds hd=>?_) (fun pre x post ds hh hx cA hw h0 hmm hd hi=>?_) (List.replicate 8 false) rfl) rfl
 ·rw[hr] at hd ⊢;subst hd;have e1:(((ns.length+1:Nat):Int)<=(ns.length:Int))=False:=GV;simp only[E87,e1,az,EW,seval];rfl
 ·have hpre:pre.length<ns.length+1:=by have:=congrArg List.length hh; simp at this; omega
  have hxe:x=pre.length:=by rw[eA hpre] at hx; injection hx with hx; exact hx.symm
  subst hxe;have hle:((pre.length:Int)<=(ns.length:Int))=True:=x7;have hz:((0:Int)<=((pre.length:Nat):Int))=True:=dk;have q2:=k88 (ns.take pre.length) ic (fun x hx=>qY (hn1 x (cR hx)))
  rw[zM,<-qF] at q2;have hsp:(bI (mu (ns.take pre.length))).2=0:=by rw[qF,lg (fun x hx=>hn1 x (cR hx)) ic]
  have q3:=k25 hl (mu (ns.take pre.length)) (by have:=vt (ns.take pre.length) (fun x hx=>hn1 x (cR hx)) ic; omega)
  unfold KX at q3;rw[av hsp] at q3;have cA:=hl.uH hsp;have hy:=sq cA;have hg:=(hl.ok _ (qQ cA)).2;have hgr:zJ f.pieces (mu (ns.take pre.length))=(nB f.pieces (dS f.pieces (mu (ns.take pre.length)))).group:=rfl;have g0:(((dS f.pieces (mu (ns.take pre.length)):Nat):Int)<0)=False:=dk;obtain⟨c,hc,hc8⟩:∃c:Nat,(nB f.pieces (dS f.pieces (mu (ns.take pre.length)))).group=(c:Int)/\c<8:=⟨(nB f.pieces (dS f.pieces (mu (ns.take pre.length)))).group.toNat,aM,aM⟩;have gc:((c:Int)<8)=True:=x7;have gc0:((c:Int)<0)=False:=dk
  have i1:=hi (ds.set c true) (by
   rw[hd,O0];refine cj fun g _=>?_
   simp only[kv,List.any_append,pQ,List.any_nil,fE,hgr,hc]
   by_cases h:c=g
   ·subst h; simp
   ·rw[da h,show((c:Int)==(g:Int))=false by rw[ck]; omega])
  have hdl:ds.length=8:=by rw[hd]; simp
  have hdc:ds[c]?=some (ds[c]'(by omega)):=ai aM
  have hdm:(ds.map ag.bool)[c]?=some (.bool (ds[c]'(by omega))):=by rw[bb,hdc]; rfl
  rw[<-OZ ds c (ds[c]'(by omega))] at i1
  simp only at q3;simp only[fX,jC] at q2;simp only[E87,hle,hw,hz,q2,q3,hy,g0,hc,gc,gc0,hdm,hdc,az,bj,cS,eI,cI,Cc,aD,aF,ak,aN,EW,seval];exact i1
def FI.aeW{l:List Piece}{t:Tree}(h:FI l t){o:qm}(ho:Ca o)(M:aO):aL (aq dp) 39 [.agg (bL (bG l t)),.agg (fD o)] M=some (nv (tW (CB l o)),M):=by
 refine cO (aw ?_) M;have q1:=k87 (f:=bG l t) h.prt o.aQ (by have:=ho.aQ; omega)
 have q2:=k87 (f:=bG l t) h.prt o.rj (by have:=ho.rj; omega)
 change ∀M,aL _ _ _ M=some (AE ((List.range 8).map fun(g:Nat)=>qq l o.aQ g),M) at q1
 change ∀M,aL _ _ _ M=some (AE ((List.range 8).map fun(g:Nat)=>qq l o.rj g),M) at q2
 generalize bG l t=f at q1 q2 ⊢;have hat:∀(s:Bytes)(i:Nat),i<8->((List.range 8).map fun(g:Nat)=>qq l s g)[i]?=some (qq l s i):=fun s i hi=>by rw[bb,eA hi]; rfl
 have hln:∀s,((List.range 8).map fun(g:Nat)=>qq l s g).length=8:=fun s=>dk
 simp only[bL] at q1 q2;simp only[abc,E39,bL,fD,q1,q2,vz,wi,EW,seval];have hA1:=hat o.aQ;have hA2:=hat o.rj;have hL1:=hln o.aQ;have hL2:=hln o.rj;have hP:∀g:Int,CB l o g=(qq l o.aQ g||((o.kind==3||o.kind==5)&&qq l o.rj g)):=fun _=>rfl
 generalize CB l o=P at hP ⊢;generalize (List.range 8).map (fun(g:Nat)=>qq l o.aQ g)=A at hA1 hL1 ⊢
 generalize (List.range 8).map (fun(g:Nat)=>qq l o.rj g)=B at hA2 hL2 ⊢
 have hrows:∀i:Nat,((List.range i).filterMap fun(g:Nat)=>if P g then some (g:Int) else none).length<=i:=fun i=>bg (fg _ _) dk
 refine dj (gV (xs:=List.range 8) dk (fun i (out:List Int)=>out=(List.range i).filterMap fun(g:Nat)=>if P g then some (g:Int) else none) (fun _ (_:List Int)=>()) (fun out i=>[(3,dC 1),(5,AE A),(6,AE B),(7,.slice (.own 2) (out.map mr)),(8,aH i)])
  (fun out=>[cL [bV f.pieces,mf f.dV,aH f.next,aH f.ae],cL (fD o),.tick 1 out.length])
  (fun _=>some (nv (tW P),[])) (fun out hout=>?_) (fun pre x post out hh hx cA hw h0 hmm hout hi=>?_) [] rfl) rfl
 ·rw[jB] at hout;have e8:(((List.range 8).length:Nat):Int)=8:=rfl;have hout:out=tW P:=hout;simp only[E39,e8,aX,hout,EW,seval]
 ·have hpre:pre.length<8:=by have:=congrArg List.length hh; simp at this; omega
  have hxe:x=pre.length:=by rw[eA hpre] at hx; injection hx with hx; exact hx.symm
  subst hxe;have hl8:((pre.length:Int)<8)=True:=ic;have fx:=hrows pre.length;rw[<-hout] at fx;have r1:dY (out.length+1) 8=True:=xt;have i1:=hi _ rfl;rw[kv,jo,<-hout] at i1;simp only[jR,jk] at i1;have hPg:=hP (pre.length:Int);have a1:=hA1 pre.length hpre;have a2:=hA2 pre.length hpre;simp only[fD] at i1 ⊢;cases hb:P (pre.length:Int)<;>rw[hb] at i1 hPg
  ·simp only[af,aC,cu] at i1;cases b1:qq l o.aQ (pre.length:Int)<;>rw[b1] at a1 hPg
   ·cases k3:o.kind==3<;>cases k5:o.kind==5<;>rw[k3,k5] at hPg<;>(try simp only[dE,dL,dz,dK,b9] at hPg)<;>(try rw[<-hPg] at a2) <;>
    simp only[E39,hl8,hw,h0,a1,a2,hL1,hL2,k3,k5,az,bj,Cc,EW,seval]<;>exact i1
   ·cases hPg
  ·simp only[aE,bH,a8,bE,aR,aD,aF,aN] at i1;cases b1:qq l o.aQ (pre.length:Int)<;>rw[b1] at a1 hPg
   ·cases k3:o.kind==3<;>cases k5:o.kind==5<;>rw[k3,k5] at hPg<;>(try simp only[dE,dL,dz,dK,b9,cp] at hPg)<;>(try cases hPg)<;>(try rw[<-hPg] at a2) <;>
    simp only[E39,hl8,hw,h0,a1,a2,hL1,hL2,k3,k5,r1,vI,az,bj,Cc,EW,seval]<;>exact i1
   ·simp only[E39,hl8,hw,h0,a1,hL1,r1,vI,az,bj,Cc,EW,seval];exact i1
end
end Go.Proofs.YtcbopkblmebjiaaGreatDoor
