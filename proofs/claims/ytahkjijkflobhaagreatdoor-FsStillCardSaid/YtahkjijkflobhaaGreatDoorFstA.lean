import Derived.Test.YtahkjijkflobhaaGreatDoorFseF
set_option linter.unusedSimpArgs false
set_option linter.unusedVariables false
set_option linter.unusedSectionVars false
set_option linter.defProp false
namespace Go.Proofs.YtahkjijkflobhaaGreatDoor
open Go Go.Abs
def Ez(f:aa)(o:dG):(il 61 f o).1=f:=by
 show(oX f o).1=f
 unfold oX; split<;>rfl
def Ey(f:aa)(o:dG):(il 66 f o).1=f:=by
 show(sf f o).1=f
 unfold sf; simp only[]; repeat' split
 all_goals rfl
def EC(f:aa)(o:dG):(il 67 f o).1=f:=by
 show(pf f o).1=f
 unfold pf; simp only[]; split<;>rfl
def EB(f:aa)(o:dG):(il 70 f o).1=f:=by
 show(ik f o).1=f
 unfold ik; repeat' split
 all_goals rfl
def EA(f:aa)(o:dG):(il 75 f o).1=f:=by
 show(sv f o).1=f
 unfold sv; simp only[]; repeat' split
 all_goals rfl
def mU{K:Nat}{f:aa}{o:dG}(hk:cD gL o.kind=some K)(h:(il K f o).1=f):(kd f o).1=f:=by
 unfold kd;rw[hk];simp only;split
 ·split
  ·exact h
  ·rfl
 ·rfl
def still{f:aa}{o:dG}(hk:o.kind=1\/o.kind=6\/o.kind=7\/o.kind=10\/o.kind=15):(kd f o).1=f:=by
 rcases hk with h|h|h|h|h
 ·exact mU (by rw[h]; rfl) (Ez f o)
 ·exact mU (by rw[h]; rfl) (Ey f o)
 ·exact mU (by rw[h]; rfl) (EC f o)
 ·exact mU (by rw[h]; rfl) (EB f o)
 ·exact mU (by rw[h]; rfl) (EA f o)
section
attribute [local irreducible] bS cz fu gK bG kr ag ar aQ aG
def Oh(xs:List dG)(o:dG):ag kM 4 [AZ xs,CN o] []=some (.bool true,[]):=by
 refine ai ?_;have q10:=cP Fk;have q11:=fun M=>lE (Qu xs M)
 have q12:=fun M=>lE (Qv o M)
 simp only[bB] at q12;cases hg:tJ xs<;>rw[hg] at q11
 case true=>simp only[fn4,E4,q10,q11,CN,bB,Af,EW,simprocAttr]
 cases hl:qk o<;>rw[hl] at q12
 case true=>simp only[fn4,E4,q10,q11,q12,CN,bB,Af,EW,simprocAttr]
 obtain⟨hn,ho⟩:=BE hg;obtain⟨f,qa,hf,_⟩:=c13 xs hn ho;have q13:=fun M=>lE (cO qa M)
 have q14:=fun M=>tc f o hf.ok (zM hl) M
 have q16:=fun M=>lE (k16 f hf.ok M)
 have hs:=still (f:=f) (o:=o);generalize kd f o=X at q14 hs;obtain⟨g,a⟩:=X;simp only at hs q14
 by_cases hk:o.kind=1\/o.kind=6\/o.kind=7\/o.kind=10\/o.kind=15
 ·have:=hs hk;subst this;simp only[aR,bB,bj] at q13 q14 q16
  cases k1:o.kind==1<;>cases k6:o.kind==6<;>cases k7:o.kind==7<;>cases k10:o.kind==10<;>cases k15:o.kind==15<;>first
   |(exfalso; simp at k1 k6 k7 k10 k15; omega)
   |simp only[fn4,E4,q10,q11,q12,q13,q14,q16,k1,k6,k7,k10,k15,CN,bB,Af,EW,simprocAttr]
 ·simp only[not_or] at hk;obtain⟨h1,h6,h7,h10,h15⟩:=hk;have k1:(o.kind==1)=false:=by simpa using h1
  have k6:(o.kind==6)=false:=by simpa using h6
  have k7:(o.kind==7)=false:=by simpa using h7
  have k10:(o.kind==10)=false:=by simpa using h10
  have k15:(o.kind==15)=false:=by simpa using h15
  simp only[aR,bB,bj] at q13 q14;simp only[fn4,E4,q10,q11,q12,q13,q14,k1,k6,k7,k10,k15,CN,bB,Af,EW,simprocAttr]
end
end Go.Proofs.YtahkjijkflobhaaGreatDoor
