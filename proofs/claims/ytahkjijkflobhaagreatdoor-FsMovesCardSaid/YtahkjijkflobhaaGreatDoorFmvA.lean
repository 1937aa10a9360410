import Derived.Test.YtahkjijkflobhaaGreatDoorFsuG
set_option linter.unusedSimpArgs false
set_option linter.unusedVariables false
set_option linter.unusedSectionVars false
set_option linter.defProp false
namespace Go.Proofs.YtahkjijkflobhaaGreatDoor
open Go Go.Abs
def A8{k:Int}{p q:Bytes}(hp:p.length<=1000)(hq:q.length<=1000):wL (yc k p q):=⟨aW hp (by omega),aW hq (by omega),by simp[yc]⟩
def MW(t:Tree)(p:Bytes):(Ci t p).names.length<=100000/\(Ci t p).data.length<=100000:=by
 unfold Ci;split<;>simp[gk]
section
attribute [local irreducible] eV fZ je gK eo kr ar aU cA bH
set_option maxRecDepth 100000 in
def Ua(xs:List jk)(p q b:Bytes):ar tb 7 [C6 xs,.str p,.str q,.str b] []=some (.bool true,[]):=by
 refine az ?_;have q10:=cP Gx;have q11:=fun M=>lE (Pz xs M)
 cases hg:wY xs<;>rw[hg] at q11
 case true=>simp only[fn7,E7,q10,q11,uT,EW,seval]
 cases g1:decide (1000<(p.length:Int))
 case true=>simp only[fn7,E7,q10,q11,g1,uT,EW,seval]
 cases g2:decide (1000<(q.length:Int))
 case true=>simp only[fn7,E7,q10,q11,g1,g2,uT,EW,seval]
 cases g3:decide (1000<(b.length:Int))
 case true=>simp only[fn7,E7,q10,q11,g1,g2,g3,uT,EW,seval]
 have l1:p.length<=1000:=by have:=of_decide_eq_false g1; omega
 have l2:q.length<=1000:=by have:=of_decide_eq_false g2; omega
 have l3:b.length<=1000:=by have:=of_decide_eq_false g3; omega
 obtain⟨hn,ho⟩:=zI hg;obtain⟨f,qa,hf,hh,_⟩:=c13 xs hn ho;have q13:=fun M=>lE (cO qa M)
 have j1:=fun M=>lE (cO (c19 p b (by omega) (by omega)) M)
 have j2:=fun M=>lE (cO (c19 q b (by omega) (by omega)) M)
 have hf2:=pC hf (by omega) (yc 5 p q)
 obtain⟨m1,m2⟩:=alP hf.ok hh p q;have d1:=fun M=>uU f (yc 7 (iz p b) []) hf.ok (A8 (w7 p b) (by simp)) M
 have d2:=fun M=>uU f (yc 7 p []) hf.ok (A8 l1 (by simp)) M
 have d3:=fun M=>uU f (yc 5 p q) hf.ok (A8 l1 l2) M
 rw[Gn] at d1 d2;generalize lN f (yc 5 p q)=X at d3 m1 m2 hf2;obtain⟨g,a⟩:=X;simp only at d1 d2 d3 m1 m2 hf2;have d4:=fun M=>uU g (yc 7 (iz q b) []) hf2.ok (A8 (w7 q b) (by simp)) M
 have d5:=fun M=>uU g (yc 1 p []) hf2.ok (A8 l1 (by simp)) M
 have d6:=fun M=>uU g (yc 1 q []) hf2.ok (A8 l2 (by simp)) M
 rw[Gn] at d4;rw[W9] at d5 d6;have sa:=fun M=>lE (cO (c17 (Ci f.s.now (iz p b)) (MW _ _).1 (MW _ _).2) M)
 have rs:=fun M=>lE (k16 f hf.ok M)
 obtain⟨c,qc⟩:=ao1 f g hf.ok;have rx:=fun M=>lE (cO qc M)
 have hM:=fun h=>(m2 h).is
 have hI:=fun h=>(m2 h).an
 have hL:=fun h=>(m2 h).len
 have hO:=fun h=>(m2 h).tL
 have hB:=fun h=>(m2 h).below b
 clear m2;generalize Ci f.s.now (iz p b)=V8 at d1 sa hB;generalize Ci f.s.now p=own at d2 hM hI hB;generalize Ci g.s.now (iz q b)=now at d4 hB;generalize Wl g.s.now p=tL at d5 hO;generalize Wl g.s.now q=is at d6 hM;generalize iz p b=pb at j1 d1;generalize iz q b=qb at j2 d4;simp only[ck,eA,cQ,yc,cR,a8] at q13 d1 d2 d3 d4 d5 d6 sa rs rx;cases h1:a.err != 0
 case true =>
  have:=m1 (by simpa using h1)
  subst this;simp only[fn7,E7,q10,q11,g1,g2,g3,q13,j1,j2,d1,d2,d3,rs,h1,uT,EW,seval]
 have h0:a.err=0:=by simpa using h1
 obtain⟨i1,i2⟩:=hM h0;have n1:(is.err != 0)=false:=by simp[i1]
 have n2:(is.an != own.an)=false:=by simp[i2]
 have n3:(a.an != own.an)=false:=by simp[hI h0]
 have n4:decide ((f.s.now.ae.length:Int)<(g.s.now.ae.length:Int))=false:=by have:=hL h0; simp; omega
 have hc:g=f->c=true:=fun e=>by
  subst e;have a1:=rx [];have a2:=rs [];rw[a1] at a2;simpa using a2
 simp only[fn7,E7,q10,q11,g1,g2,g3,q13,j1,j2,d1,d2,d3,d4,d5,d6,h1,n1,n2,n3,n4,uT,EW,seval];clear q10 q11 q13 j1 j2 d1 d2 d3 d4 d5 d6 n1 n2 n3 n4 hL hM hI m1 rs
 have key:c=true\/(p != q)=false\/(tL.err==0)=false:=by
  rcases hO h0 with h|h|h
  ·exact .inl (hc h)
  ·exact .inr (.inl (by simp[h]))
  ·exact .inr (.inr (by simpa using h))
 have hw:=fun h k=>(hB h0 h k).symm
 clear hO hB hc;cases c
 case true =>
  simp only[E7,rx,uT,EW,seval];cases w1:V8.err != 0
  case true=>simp only[E7,w1,uT,EW,seval]
  cases w2:own.kind != 2
  case true=>simp only[E7,w1,w2,uT,EW,seval]
  have:=hw (by simpa using w1) (by simpa using w2)
  subst this;simp only[E7,w1,w2,sa,uT,EW,seval]
 cases o1:p != q
 case false =>
  simp only[E7,rx,o1,uT,EW,seval];cases w1:V8.err != 0
  case true=>simp only[E7,w1,uT,EW,seval]
  cases w2:own.kind != 2
  case true=>simp only[E7,w1,w2,uT,EW,seval]
  have:=hw (by simpa using w1) (by simpa using w2)
  subst this;simp only[E7,w1,w2,sa,uT,EW,seval]
 have o2:(tL.err==0)=false:=by
  rcases key with h|h|h
  ·cases h
  ·rw[o1] at h; cases h
  ·exact h
 simp only[E7,rx,o1,o2,uT,EW,seval];cases w1:V8.err != 0
 case true=>simp only[E7,w1,uT,EW,seval]
 cases w2:own.kind != 2
 case true=>simp only[E7,w1,w2,uT,EW,seval]
 have:=hw (by simpa using w1) (by simpa using w2)
 subst this;simp only[E7,w1,w2,sa,uT,EW,seval]
end
end Go.Proofs.YtahkjijkflobhaaGreatDoor
