import Derived.Test.YtcbopkblmebjiaaGreatDoorFtaG
set_option linter.all false
namespace Go.Proofs.YtcbopkblmebjiaaGreatDoor
open Go Go.Abs
section
attribute [local irreducible] fP fm kM gK dH kr aq aL cH bP
def Rl{x:List Piece×Tree}(h:FI x.1 x.2)(M:aO):aL (aq ko) 18 [.agg (bL (fh x)),.agg (bL (fh x))] M=some (.bool true,M):=lG ((h.KD (fh x) M).trans (by rw[show fh x=bG x.1 x.2 from rfl,fZ rfl]))
end
def Lx(r:Wt):Prop:=r.2.1.names.length<=100000/\r.2.1.data=[]
def tN{c:Prop}[Decidable c]{a b:Wt}(ha:Lx a)(hb:Lx b):Lx (if c then a else b):=by split<;>assumption
def Ls{t:Tree}(ht:Rt t)(o:qm):Lx (fQ t o):=by
 refine tN ?_ (tN ?_ (tN ?_ (tN ?_ (tN ?_ (tN ?_ ?_)))))
 ·unfold rZ; split<;>exact⟨ct _,rfl⟩
 ·unfold ve; dsimp only; (repeat' split)<;>exact⟨ct _,rfl⟩
 ·unfold uj; dsimp only; (repeat' split)<;>exact⟨ct _,rfl⟩
 ·unfold oa; dsimp only; (repeat' split)<;>exact⟨ct _,rfl⟩
 ·unfold pL; dsimp only; (repeat' split)<;>exact⟨ct _,rfl⟩
 ·unfold uk; dsimp only; (repeat' split)<;>first|exact⟨ct _,rfl⟩|exact⟨by simp only[az]; exact AV ht _ _ _,rfl⟩
 ·unfold sa; dsimp only; split<;>exact⟨ct _,rfl⟩
section
attribute [local irreducible] fP fm kM gK dH kr aq aL cH bP
end
def Qf{t:Tree}(ht:Rt t)(l:List Piece)(o:qm):(vL l t o).2.names.length<=100000/\(vL l t o).2.data.length<=100000:=by
 obtain⟨h1,h2⟩:=Ls ht o;unfold vL
 (repeat' split)<;>first|exact⟨ct _,ct _⟩|exact⟨h1,by simp[h2]⟩
def Ll{x:List Piece×Tree}(h:FI x.1 x.2)(s:qZ):(stepT x s).2.names.length<=100000/\(stepT x s).2.data.length<=100000:=by
 unfold stepT;split<;>first|exact⟨ct _,ct _⟩|exact Qf h.rt _ _
section
attribute [local irreducible] fP fm kM gK dH kr aq aL cH bP
def x32(f:rR):∃b:Bool,aq dp 32 [.agg (bL f)] []=some (.bool b,[])/\(b=true->wU f):=by
 obtain⟨Q,hQ⟩:∃Q:ag×aO->Prop,∀r,Q r↔∃b:Bool,r=(.bool b,[])/\(b=true->wU f):=⟨_,fun _=>pD⟩
 have qf:Q (.bool false,[]):=(hQ _).2 ⟨false,rfl,fun h=>by cases h⟩
 have key:∃r,Q r/\aq dp 32 [.agg (bL f)] []=some r:=by
  refine wV (fun x h=>aw h) ?_
  cases b1:decide ((30:Int)<(f.pieces.length:Int))
  rotate_left
  ·exact⟨_,qf,by simp only[V2,Nb,bL,az,b1,EW,seval]⟩
  cases b2:decide ((20:Int)<(f.dV.length:Int))
  rotate_left
  ·exact⟨_,qf,by simp only[V2,Nb,bL,az,b1,b2,EW,seval]⟩
  have hp:f.pieces.length<=30:=by have:=aZ b1; omega
  have hl:f.dV.length<=20:=by have:=aZ b2; omega
  simp only[V2,Nb,bL,az,b1,b2,EW,seval];refine qV (xs:=f.pieces) aM (fun m (_:Unit)=>∀p,p∈f.pieces.take m->p.aQ.length<=1000) (fun _ i=>[(1,dC 0),(3,aH 0),(4,aH i)]) (fun _=>[cL [bV f.pieces,mf f.dV,aH f.next,aH f.ae]]) Q (fun _ hI=>?_) (fun pre x post _ e hx cA hw hz hm hI hi=>?_) () (fun _ h=>by cases h)
  ·rw[bT] at hI;simp only[Nb,az,aX,EW,seval];refine qV (xs:=f.dV) aM (fun m (n:Nat)=>n=((f.dV.take m).flatMap nz.aa).length/\n<=210*m/\∀x,x∈f.dV.take m->∀n,n∈x.aa->n.aK.length<=70/\n.data.length<=5000) (fun n i=>[(1,dC 0),(3,aH n),(5,aH i)]) (fun _=>[cL [bV f.pieces,mf f.dV,aH f.next,aH f.ae]]) Q (fun n hJ=>?_) (fun pre x post n e hx cA hw hz hm hJ hi=>?_) 0 ⟨rfl,ak _,fun _ h=>by cases h⟩
   ·rw[bT] at hJ;exact⟨(.bool (decide ((n:Int)<=210)),[]),(hQ _).2 ⟨_,rfl,fun h=>⟨hp,hl,hI,by have:=bN h; rw[<-hJ.1]; omega,hJ.2.2⟩⟩,by simp only[Nb,az,aX,EW,seval]⟩
   ·obtain⟨hJ1,hJ2,hJ3⟩:=hJ;have hpl:pre.length<20:=by have:=(au.1 hx).1; omega
    cases c1:decide ((210:Int)<(x.aa.length:Int))
    rotate_left
    ·exact⟨_,qf,by simp only[Nb,az,cA,hx,hz,c1,lB,p7,nS,EW,seval]⟩
    have hxl:x.aa.length<=210:=by have:=aZ c1; omega
    have w2:IntKind.i64.wrap ((n:Int)+(x.aa.length:Int))=((n+x.aa.length:Nat):Int):=by rw[gb aM aM]; omega
    have nx:=hi (n+x.aa.length);simp only[Nb,az,cA,hx,hz,c1,w2,lB,p7,nS,EW,seval];refine qV (xs:=x.aa) aM (fun m (_:Unit)=>∀n,n∈x.aa.take m->n.aK.length<=70/\n.data.length<=5000) (fun _ i=>[(1,dC 0),(3,aH ((n+x.aa.length:Nat):Int)),(5,aH pre.length),(6,aH i)]) (fun _=>[cL [bV f.pieces,mf f.dV,aH f.next,aH f.ae]]) Q (fun _ hK=>?_) (fun pre' y post' _ e' hy hlt' hw' hz' hm' hK hi'=>?_) () (fun _ h=>by cases h)
    ·rw[bT] at hK
     have i1:=nx ⟨by rw[iG hx,lJ,aR,<-hJ1]; simp,aM,fun z hz=>by
      rw[iG hx] at hz;rcases bC.1 hz with hz|hz
      ·exact hJ3 z hz
      ·rw[bU] at hz; subst hz; exact hK⟩
     simp only[Nb,az,hx,hz,cA,hw,aX,lB,p7,nS,EW,seval];exact i1
    ·cases d1:decide ((70:Int)<(y.aK.length:Int))
     rotate_left
     ·exact⟨_,qf,by simp only[Nb,az,cA,hx,hz,hlt',hy,hz',d1,lB,p7,nS,bJ,aI,EW,seval]⟩
     cases d2:decide ((5000:Int)<(y.data.length:Int))
     rotate_left
     ·exact⟨_,qf,by simp only[Nb,az,cA,hx,hz,hlt',hy,hz',d1,d2,lB,p7,nS,bJ,aI,EW,seval]⟩
     have i1:=hi' () (fun z hz=>by
      rw[iG hy] at hz;rcases bC.1 hz with hz|hz
      ·exact hK z hz
      ·rw[bU] at hz; subst hz; exact⟨by have:=aZ d1; omega,by have:=aZ d2; omega⟩)
     simp only[Nb,az,cA,hx,hz,hlt',hy,hz',hw',d1,d2,lB,p7,nS,bJ,aI,EW,seval];exact i1
  ·cases c1:decide ((1000:Int)<(x.aQ.length:Int))
   rotate_left
   ·exact⟨_,qf,by simp only[Nb,az,cA,hx,hz,c1,cS,eI,cI,EW,seval]⟩
   have i1:=hi () (fun z hz=>by
    rw[iG hx] at hz;rcases bC.1 hz with hz|hz
    ·exact hI z hz
    ·rw[bU] at hz; subst hz; have:=aZ c1; omega)
   simp only[Nb,az,cA,hx,hz,hw,c1,cS,eI,cI,EW,seval];exact i1
 obtain⟨r,h1,h2⟩:=key;obtain⟨b,rfl,h3⟩:=(hQ r).1 h1;exact⟨b,h2,h3⟩
def adZ{f:rR}(hf:wU f):∃b:Bool,(∀M,aL (aq ko) 31 [.agg (bL f)] M=some (.bool b,M))/\∀M,aL (aq ko) 35 [.agg (bL f)] M=some (.bool b,M):=by
 obtain⟨a,a1,a2⟩:=x31 hf;obtain⟨b,b1,b2⟩:=x35 hf
 have h:a=b:=by
  cases b
  ·cases a
   ·rfl
   ·exact(b2.2 (a2 rfl)).symm
  ·obtain⟨t,hfi,he,_⟩:=(b2.1 rfl).ex;have:=hfi.right;rw[<-he,a1] at this;injection this with this; injection this with this; injection this
 subst h;exact⟨a,fun M=>lF (cO a1 M),fun M=>lG (cO b1 M)⟩
set_option maxRecDepth 100000 in
set_option maxHeartbeats 4000000 in
def Ik(r:rR)(n:UInt8)(xs:List qZ):aq ko 7 [.agg (bL r),Aj n,zE xs] []=some (.bool true,[]):=by
 refine aw ?_;have q1:=cP V7;have q2:=fun M=>lG (k12 xs M)
 cases h1:C7 xs<;>rw[h1] at q2
 case true=>simp only[fn7,E7,Aj,bL,q1,q2,Hg,EW,seval]
 obtain⟨hn,ho⟩:=Q0 h1;obtain⟨b,s1,s2⟩:=x32 r;have q3:=fun M=>lG (cO s1 M)
 cases b
 ·simp only[bL] at q3;simp only[fn7,E7,Aj,bL,q1,q2,q3,Hg,EW,seval]
 have hsf:=s2 rfl;obtain⟨br,r1,r2⟩:=adZ hsf;have hr:IntKind.i64.wrap ((n.toNat:Nat):Int)=((n.toNat:Nat):Int):=gb (by have:=n.toNat_lt; omega) (by have:=n.toNat_lt; omega)
 have hr2:((n.toNat:Nat):Int).tmod 8=Eb n:=rfl;have h0:FI (sI (Eb n),p8).1 (sI (Eb n),p8).2:=FI.new (Gy n);have q4:∀M,aL (aq ko) 33 [aH (Eb n)] M=some (.agg (bL (fh (sI (Eb n),p8))),M):=fun M=>cO (lG' (c33 (Gy n))) M
 have q5:∀M,aL (aq ko) 34 [aH (Eb n)] M=some (.agg (bL (fh (sI (Eb n),p8))),M):=k34 (Gy n);have q6:=Rl h0;generalize hx0:(sI (Eb n),p8)=x0 at h0 q4 q5 q6;simp only[bL] at q3 q4 q5 q6 r1 r2;simp only[fn7,E7,Aj,bL,q1,q2,q3,q4,q5,q6,r1,r2,hr,hr2,an,Hg,EW,seval];refine dj (gV (xs:=xs) aM (fun _ (y:List Piece×Tree)=>FI y.1 y.2) (fun _ (_:List Piece×Tree)=>()) (fun _ i=>[(2,zE xs),(3,dC 0),(7,.bool true),(8,dC 1),(9,aH i)]) (fun y=>[cL [bV r.pieces,mf r.dV,aH r.next,aH r.ae],cL [bV (fh y).pieces,mf (fh y).dV,aH (fh y).next,aH (fh y).ae]]) (fun _=>some (.bool true,[])) (fun y hy=>?_) (fun pre s post y hh hx cA hw hz hm hy hi=>?_) x0 h0) rfl
 ·have w2:=fun M=>lG (hy.xT M)
  have w3:=fun M=>lG (hy.wg M)
  have e1:=Rl hy;have hp:(fh y).pieces=y.1:=rfl;change ∀M,aL (aq ko) _ [.agg (bL (fh y))] M=_ at w2;change ∀M,aL (aq ko) _ _ M=some (.agg (bL (fh y)),M) at w3;rw[<-hp] at w3;generalize fh y=f at *;simp only[bL] at w2 w3 e1 ⊢;simp only[E7,az,aX,w2,w3,e1,EW,seval]
 ·obtain⟨ho1,ho2⟩:=ho s hm;have hf2:=hy.stepT s;have o1:=fun M=>cO (c36 hy ho1 ho2) M
  have o2:=fun M=>lG (cO (c37 hy ho1 ho2) M)
  obtain⟨n1,n2⟩:=Ll hy s;have e1:=Rl hf2;have e2:=fun M=>lG (cO (c19 _ n1 n2) M)
  have e3:=fun M=>lF (hy.Yg ho1 M)
  have e4:=fun M=>lG (hy.aeW ho1 M)
  have e5:=fun M=>lG (k38 (l:=tW (CB y.1 s.op)) (by have:=Nl (CB y.1 s.op); omega) M)
  have e6:=fun M=>lG (hy.Ml (fh (stepT y s).1) M)
  have e7:=fun M=>lG (hy.KD (fh (stepT y s).1) M)
  have e8:=fun M=>lG (hy.Ml r M)
  have e9:=fun M=>lG (hy.KD r M)
  have w1:=hy.GJ;have w2:=fun M=>lG (hy.xT M)
  have w3:=ahR hy.rt;have i1:=hi (stepT y s).1 hf2;change ∀M,aL (aq ko) _ [.agg (bL (fh y)),_] M=_ at e3;change ∀M,aL (aq ko) _ [.agg (bL (fh y)),_] M=_ at e4;change ∀M,aL (aq ko) _ [.agg (bL (fh y)),_] M=_ at e6;change ∀M,aL (aq ko) _ [.agg (bL (fh y)),_] M=_ at e7;change ∀M,aL (aq ko) _ [.agg (bL (fh y)),_] M=_ at e8;change ∀M,aL (aq ko) _ [.agg (bL (fh y)),_] M=_ at e9;change ∀M,aL (aq ko) _ [.agg (bL (fh y))] M=_ at w2;generalize decide (bG y.1 y.2=fh (stepT y s).1)=d1 at e6 e7;generalize decide (bG y.1 y.2=r)=d2 at e8 e9;generalize tW (CB y.1 s.op)=ask at e3 e4 e5;generalize fh y=f at *;generalize fh (stepT y s).1=g at *;generalize (stepT y s).2=a at *;simp only[bL,jH,fD,ga,Aj,mc,bp,bw] at o1 o2 e1 e2 e3 e4 e6 e7 e8 e9 w1 w2 i1 ⊢;simp only[E7,az,cA,hx,hz,hw,o1,o2,e1,e2,e3,e4,e5,e6,e7,e8,e9,w1,w2,w3,an,jH,fD,Aj,mc,bp,bw,Hg,EW,seval];exact i1
end
end Go.Proofs.YtcbopkblmebjiaaGreatDoor
