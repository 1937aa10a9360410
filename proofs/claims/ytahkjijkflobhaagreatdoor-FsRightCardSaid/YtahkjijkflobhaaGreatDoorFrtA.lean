import Derived.Test.YtahkjijkflobhaaGreatDoorFsrG
set_option linter.unusedSimpArgs false
set_option linter.unusedVariables false
set_option linter.unusedSectionVars false
set_option linter.defProp false
namespace Go.Proofs.YtahkjijkflobhaaGreatDoor
open Go Go.Abs
section
attribute [local irreducible] eW fQ lh gK dW kr ar aM cq bI
set_option maxRecDepth 100000 in
def S3(xs:List jz)(o:jz):ar tJ 3 [Jg xs,N7 o] []=some (.bool true,[]):=by
 refine aw ?_;have q10:=cP Wz;have q11:=fun M=>lE (WE xs M)
 have q12:=fun M=>lE (WG o M)
 simp only[ep] at q12;cases hg:Cn xs<;>rw[hg] at q11
 case true=>simp only[fn3,E3,q10,q11,N7,ep,Ot,EW,seval]
 cases hl:y9 o<;>rw[hl] at q12
 case true=>simp only[fn3,E3,q10,q11,q12,N7,ep,Ot,EW,seval]
 obtain⟨hn,ho⟩:=P4 hg;obtain⟨f,qa,hf,hh,K,hK,hch⟩:=c13 xs hn ho;have hs:xW 10000 f.s:=(hch.ok (by omega)).mono hK
 have q13:=fun M=>lE (cO qa M)
 have d1:=fun M=>Bo f o hf.ok (Li hl) M
 have hf1:=uf hf (by omega) o
 have hs1:=(hs.do (by omega) hf.ok o).1
 have hh1:=V5 hf.ok hh o;have he:=V4 (f:=f) (o:=o);have r1:=fun M=>lE (k15 hf.ok hh hs (by omega) M)
 have r2:=fun M=>lE (k15 hf1.ok hh1 hs1 (by omega) M)
 have rs:=fun M=>lE (k16 f hf.ok M)
 generalize vz f o=X at d1 hf1 hs1 hh1 he r2;obtain⟨g,a⟩:=X;simp only at d1 he r2;cases h1:a.err==0
 ·obtain⟨rfl,e2⟩:=he (by simpa using h1)
  have sa:=fun M=>lE (cO (c17 a (by rw[e2]; simp[gw]) (by rw[e2]; simp[gw])) M)
  rw[e2] at d1 sa;generalize a.err=e at d1 sa h1;simp only[cG,ep,dr,gw,c9,cX,bc] at q13 d1 r1 rs sa;simp only[fn3,E3,q10,q11,q12,q13,d1,r1,rs,sa,h1,N7,ep,Ot,EW,seval]
 ·simp only[cG,ep,dr] at q13 d1 r1 r2;simp only[fn3,E3,q10,q11,q12,q13,d1,r1,r2,h1,N7,ep,Ot,EW,seval]
end
end Go.Proofs.YtahkjijkflobhaaGreatDoor
