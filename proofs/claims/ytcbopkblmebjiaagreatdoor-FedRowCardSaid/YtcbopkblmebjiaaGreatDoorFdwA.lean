import Derived.Test.YtcbopkblmebjiaaGreatDoorFduF
set_option linter.unusedSimpArgs false
set_option linter.unusedVariables false
set_option linter.unusedSectionVars false
set_option linter.defProp false
open Go.Proofs.Tryz
namespace Go.Proofs.YtcbopkblmebjiaaGreatDoor
open Go Go.Abs
def K0{x:List Piece×Tree}{s:kc}(h:s.kind.toNat % 5≠0):(stepT x s).1.2=x.2:=by
 unfold stepT;have hk:s.kind.toNat % 5<5:=iE _ (by omega)
 generalize s.kind.toNat % 5=k at hk h ⊢;rcases(show k=0\/k=1\/k=2\/k=3\/k=4 by omega) with rfl|rfl|rfl|rfl|rfl
 ·exact absurd rfl h
 ·rfl
 ·rfl
 ·rfl
 ·rfl
section
attribute [local irreducible] fP fi kD gK dp kr aq aL ct bI
set_option maxHeartbeats 4000000 in
set_option maxRecDepth 100000 in
def NU(n:UInt8)(xs:List kc):aq iM 10 [mF n,oM xs] []=some (.bool true,[]):=by
 refine aI ?_;have q1:=cP vy;have q2:=fun M=>lG (Uq xs M)
 cases h1:sE xs<;>rw[h1] at q2
 case true=>simp only[aav,E10,mF,q1,q2,sd,EW,seval]
 obtain⟨hn,ho⟩:=sj h1;have hr:IntKind.i64.wrap ((n.toNat:Nat):Int)=((n.toNat:Nat):Int):=gx (by have:=n.toNat_lt; omega) (by have:=n.toNat_lt; omega)
 have hr2:((n.toNat:Nat):Int).tmod 8=pU n:=rfl;have q3:=k34 (qZ n);have q4:=fun M=>lG (k41 M)
 change ∀M,aL (aq iM) 34 _ M=some (.agg (bC (cX (pr (pU n),oO))),M) at q3;simp only[bC,bJ,bc] at q3 q4;simp only[aav,E10,mF,hr,hr2,q1,q2,q3,q4,sd,EW,seval]
 refine cW (gA (xs:=xs) (by omega) (fun _ (x:List Piece×Tree)=>FI x.1 x.2) (fun _ (_:List Piece×Tree)=>()) (fun _ i=>[(1,oM xs),(5,.bool true),(6,.ptr 0 0),(7,.ptr 1 0),(8,.int .i64 i)])
  (fun x=>[.cells [bH (cX x).pieces,jQ (cX x).eh,.int .i64 (cX x).next,.int .i64 (cX x).ai],.cells [aZ x.2.ae,.int .i64 x.2.next,.int .i64 x.2.ai]])
  (fun _=>some (.bool true,[])) (fun x hx=>?_) (fun pre s post x hh hz cr hw h0 hm hx hi=>?_) (pr (pU n),oO) (FI.new (qZ n))) rfl
 ·have w1:=hx.sR;have qt:=QB hx.rt;generalize cX x=f at *;simp only[bC] at w1;simp only[E10,bf,w1,qt,EW,seval]
 ·have q:=fun M=>cO (c36 hx (ho s hm).1 (ho s hm).2) M
  have hid:(List.flatMap ag.mL (eE s)=[])=True:=eq_true rfl;have hr3:((s.kind.toNat:Nat):Int).tmod 5=((s.kind.toNat % 5:Nat):Int):=rfl;have hx2:=hx.stepT s;have i1:=hi _ hx2;simp only[eE,dK,mF,aW,aX] at q hid
  by_cases hk:s.kind.toNat % 5=0
  rotate_left
  ·have hk':decide ((0:Int)<((s.kind.toNat % 5:Nat):Int))=true:=by simp; omega
   rw[K0 hk] at i1;generalize stepT x s=y at *;generalize cX y.1=F at *;generalize cX x=f at *;simp only[bC,eA] at q;simp only[E10,cr,hz,hw,h0,q,hid,hr3,hk',eE,dK,aW,aX,mF,sd,EW,seval];exact i1
  ·have hk':decide ((0:Int)<((s.kind.toNat % 5:Nat):Int))=false:=by simp; omega
   have hst:stepT x s=((x.1,(mS x.1 x.2 s.op).1),(mS x.1 x.2 s.op).2):=by unfold stepT; rw[hk]; rfl
   have hdx:(stepT x s).1.2=(mS x.1 x.2 s.op).1:=by rw[hst]
   have hda:(stepT x s).2=(mS x.1 x.2 s.op).2:=by rw[hst]
   rw[hdx] at i1;rw[hda] at q;generalize hF:cX (stepT x s).1=F at *;have he:=JR (l:=x.1) (t:=x.2) (o:=s.op)
   by_cases e1:(mS x.1 x.2 s.op).2.err=91\/(mS x.1 x.2 s.op).2.err=180\/(mS x.1 x.2 s.op).2.err=1
   ·rw[he (by omega)] at i1
    generalize mS x.1 x.2 s.op=d at *;generalize cX x=f at *;simp only[bC,eA] at q;rcases e1 with e1|e1|e1<;>rw[e1] at q <;>
    simp only[E10,cr,hz,hw,h0,q,hid,hr3,hk',eE,dK,aW,aX,mF,sd,EW,seval]<;>exact i1
   ·have hkb:pX s.op=true:=by
     rw[<-kq];intro hkf;have:(mS x.1 x.2 s.op).2.err=1:=by unfold mS; rw[az hkf]; rfl
     exact e1 (.inr (.inr this))
    have hkr:1<=s.op.kind/\s.op.kind<=7:=by unfold pX at hkb; simp at hkb; exact hkb.1
    have q5:=fun M=>cO (Y7 (hx.plain s.op (ho s hm).1 hkr)) M
    have hp:=Hk (l:=x.1) (t:=x.2) hkb (fun h=>e1 (.inl h)) (fun h=>e1 (.inr (.inl h)))
    obtain⟨n1,n2⟩:=Bo hx.rt s.op;rw[<-hp] at q5 n1 n2;have qa:=fun M=>lG (cO (c19 _ n1 n2) M)
    generalize mS x.1 x.2 s.op=d at *;generalize cX x=f at *;have f1:(d.2.err==91)=false:=by rw[bL]; exact fun h=>e1 (.inl h)
    have f2:(d.2.err==180)=false:=by rw[bL]; exact fun h=>e1 (.inr (.inl h))
    have f3:(d.2.err==1)=false:=by rw[bL]; exact fun h=>e1 (.inr (.inr h))
    simp only[bC,dK,eA,bJ,bc,ua,sf,jo] at q q5 qa;simp only[E10,cr,hz,hw,h0,q,q5,qa,hid,hr3,hk',f1,f2,f3,eE,dK,jo,aW,aX,mF,sd,EW,seval];exact i1
end
end Go.Proofs.YtcbopkblmebjiaaGreatDoor
