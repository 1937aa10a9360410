import Derived.Test.YtahkjijkflobhaaGreatDoorFseF
set_option linter.unusedSimpArgs false
set_option linter.unusedVariables false
set_option linter.unusedSectionVars false
set_option linter.defProp false
namespace Go.Proofs.YtahkjijkflobhaaGreatDoor
open Go Go.Abs
def PK(c h:Int):p6 (rr c h):=⟨by simp[rr],by simp[rr],by simp[rr]⟩
section
attribute [local irreducible] bS cz fu gK bG kr ag ar aQ aG
def Og(xs:List dG)(o:dG)(a b:UInt8):ag kM 9 [AZ xs,CN o,hZ a,hZ b] []=some (.bool true,[]):=by
 refine ai ?_;have q10:=cP Fk;have q11:=fun M=>lE (Qu xs M)
 have q12:=fun M=>lE (Qv o M)
 simp only[bB] at q12;cases hg:tJ xs<;>rw[hg] at q11
 case true=>simp only[fn9,E9,q10,q11,CN,bB,hZ,Af,EW,simprocAttr]
 cases hl:qk o<;>rw[hl] at q12
 case true=>simp only[fn9,E9,q10,q11,q12,CN,bB,hZ,Af,EW,simprocAttr]
 obtain⟨hn,ho⟩:=BE hg;obtain⟨f,qa,hf,hh⟩:=c13 xs hn ho;have q13:=fun M=>lE (cO qa M)
 have la:=a.toNat_lt;have lb:=b.toNat_lt;have wa:IntKind.i64.wrap (a.toNat:Int)=(a.toNat:Int):=cL (by omega) (by omega)
 have wb:IntKind.i64.wrap (b.toNat:Int)=(b.toNat:Int):=cL (by omega) (by omega)
 obtain⟨c,hc,hc4⟩:∃c:Nat,((a.toNat:Int)).tmod 4=c/\c<4:=⟨a.toNat % 4,by rw[Int.tmod_eq_emod_of_nonneg (by omega)]; omega,by omega⟩
 obtain⟨h,hh',hh4⟩:∃c:Nat,((b.toNat:Int)).tmod 4=c/\c<4:=⟨b.toNat % 4,by rw[Int.tmod_eq_emod_of_nonneg (by omega)]; omega,by omega⟩
 have wc:IntKind.i64.wrap (c:Int)=(c:Int):=cL (by omega) (by omega)
 have wh:IntKind.i64.wrap (h:Int)=(h:Int):=cL (by omega) (by omega)
 have hf2:=mC hf (by omega) o
 have q14:=fun M=>tc f (rr c h) hf.ok (PK _ _) M
 have q15:=fun M=>tc f o hf.ok (zM hl) M
 have q16:=fun M=>tc (kd f o).1 (rr c h) hf2.ok (PK _ _) M
 have hap:=fun hn=>apart (o:=o) hf.ok hh (c:=c) (h:=h) (by omega) (by omega) hn
 generalize kd f o=X at q15 q16 hap;obtain⟨g,e⟩:=X;simp only at q15 q16 hap;generalize kd f (rr c h)=A at q14 hap;generalize kd g (rr c h)=B at q16 hap;obtain⟨g1,a1⟩:=A;obtain⟨g2,a2⟩:=B;simp only at q14 q16 hap;simp only[aR,bB,bj,rr,bc,List.map_nil] at q13 q14 q15 q16;unfold Ej at hap;simp only[fn9,E9,q10,q11,q12,q13,q14,q15,q16,wa,wb,wc,wh,hc,hh',CN,bB,hZ,Af,EW,simprocAttr]
 by_cases hn:Ej o c h
 ·obtain⟨e0,e1⟩:=hn;have k0:(o.aV==(c:Int))=true:=by simpa using e0
  rcases e1 with e1|⟨e1|e1,e2⟩
  ·have k1:(o.kind==17)=true:=by simpa using e1
   simp only[E9,k0,k1,Af,EW,simprocAttr]
  ·have k1:(o.kind==17)=false:=by simp; omega
   have k2:(o.kind==8)=true:=by simpa using e1
   have k4:(o.handle==(h:Int))=true:=by simpa using e2
   simp only[E9,k0,k1,k2,k4,Af,EW,simprocAttr]
  ·have k1:(o.kind==17)=false:=by simp; omega
   have k2:(o.kind==8)=false:=by simp; omega
   have k3:(o.kind==9)=true:=by simpa using e1
   have k4:(o.handle==(h:Int))=true:=by simpa using e2
   simp only[E9,k0,k1,k2,k3,k4,Af,EW,simprocAttr]
 ·obtain⟨e1,e2⟩:=hap hn;rw[e1,e2];unfold Ej at hn;cases k0:o.aV==(c:Int)
  case false=>simp only[E9,k0,Af,EW,simprocAttr]
  have e0:o.aV=c:=by simpa using k0
  have k1:(o.kind==17)=false:=by simpa using fun e=>hn ⟨e0,.inl e⟩
  cases k2:o.kind==8<;>cases k3:o.kind==9<;>cases k4:o.handle==(h:Int)<;>first
   |(exfalso; simp at k2 k3 k4; exact hn ⟨e0,.inr ⟨by omega,by omega⟩⟩)
   |simp only[E9,k0,k1,k2,k3,k4,Af,EW,simprocAttr]
end
end Go.Proofs.YtahkjijkflobhaaGreatDoor
