import Derived.Test.YteoamaffclmdbaaGreatDoorHcaG
set_option linter.unusedSimpArgs false
set_option linter.unusedVariables false
set_option linter.unusedSectionVars false
set_option linter.defProp false
namespace Go.Proofs.YteoamaffclmdbaaGreatDoor
open Go Go.Abs
section
attribute [local irreducible] eX fM lu gK dX kr aq aU cr bJ
def Jr(l:List jA)(m:List wO)(p:UInt8×UInt8)(y:UInt8):aq Kc 7 [IG l,B3 m,O7 p,pt y] []=some (.bool true,[]):=by
 have q9:=cP c9;have q10:=fun M=>D5 (cO (c10 l m) M)
 refine aB ?_;cases hg:zR l m
 rotate_left
 ·rw[hg] at q10;simp only[fn7,E7,q9,q10,O7,EW,seval]
 rw[hg] at q10;obtain⟨hl,hlo,hm,hmt⟩:=SH hg;obtain⟨f,hf0,hf,_⟩:=c13 l hl hlo;have q13:=fun M=>D5 (cO hf0 M)
 obtain⟨hy,hfits,hl24,hnb⟩:=amc hf aH hm (show 6<=8 by omega) hmt
 obtain⟨ov,qr⟩:=r14 (aeR p f) hf 6 hmt aH aH;generalize runN f m 6=r at hy hfits hl24 hnb qr;obtain⟨rf,e,_,_,_,_⟩:=r;simp only[show mO 6 = aF 6 from rfl,aw,az,aG,aI,aP,pt] at qr hy hfits hl24 hnb
 by_cases h0:e.length=0
 ·have h1:((e.length:Int)==0)=true:=by rw[h0]; rfl
  simp only[fn7,E7,q9,q10,q13,qr,h1,O7,pt,xg,CQ,lY,yo,E4,wL,CJ,y8,aJ,bO,EW,seval]
 have h1:((e.length:Int)==0)=false:=by simpa using h0
 have h2:((e.length:Int)=0)=False:=oyf;have hk:p.1.toNat % e.length<e.length:=kX _ aH;have u1:=p.1.toNat_lt;have u2:=p.2.toNat_lt;have u3:=y.toNat_lt;have w1:IntKind.i64.wrap (p.1.toNat:Int)=(p.1.toNat:Int):=gv aH aH;have w2:IntKind.i64.wrap (p.2.toNat:Int)=(p.2.toNat:Int):=gv aH aH;have w3:IntKind.i64.wrap (y.toNat:Int)=(y.toNat:Int):=gv aH aH;have t1:((p.1.toNat:Nat):Int).tmod (e.length:Int)=((p.1.toNat % e.length:Nat):Int):=rfl;have t2:((p.2.toNat:Nat):Int).tmod (e.length:Int)=((p.2.toNat % e.length:Nat):Int):=rfl;have hn:p.2.toNat % e.length<e.length:=kX _ aH;generalize p.1.toNat % e.length=k at hk t1;generalize p.2.toNat % e.length=n at hn t2;have k1:((k:Int)<(e.length:Int))=True:=sM;have hx:=ai hk;generalize e[k]=x at hx;generalize hv:IntKind.i64.wrap (x.ku.ar+((y.toNat:Nat):Int).tmod 2)=v;have pi:=aa8 (l:=e) (k:=k) x v;have hy':=hy.set hx { x.ku with ar:=v }
 have dJ:(e.set k (LF x v)).length=e.length:=cY;have htk:List.take e.length ((e.set k (LF x v)).map uZ)=(e.set k (LF x v)).map uZ:=bC dy;have h0':∃z,(e.set k (LF x v))[0]?=some z:=⟨_,ai (by rw[dJ]; omega)⟩
 rw[<-EE (y:=LF x v) hx rfl] at hnb;generalize e.set k (LF x v)=e' at pi hy' dJ htk h0' hnb;obtain⟨z,hz⟩:=h0';have qf:=fun M=>lH (k18 (hy'.ord hf aH) M)
 have ff:=hy'.fits f;cases hfe:(xx 13 f e').isSome
 ·rw[hfe] at qf;simp only[fn7,E7,q9,q10,q13,qr,qf,h1,h2,w1,w2,w3,t1,t2,k1,hx,hv,pi,htk,pf,O7,pt,xg,CQ,lY,yo,E4,wL,CJ,y8,aJ,bO,ag.ry,ag.oY,qz,bE,qY,na,dJ,ET,EW,seval]
  done
 rw[hfe] at qf ff;have hfit:=ff.1 rfl;have q2:=fun M=>lH (k18 ((hy'.take n).ord hf aH) M)
 rw[((hy'.take n).fits f).2 (hy'.A3 hfit n aH)] at q2;simp only[tW,eb] at q2;have n1:((n:Int)<=(e.length:Int))=True:=sM;have q22:=fun M=>D5 (cO (c22 3 z.op) M)
 obtain⟨hmo,hms⟩:=hy'.more (hy'.ev z (aK hz)).1 aH hf (show 10000<=80000 by omega) hfit
 have q3:=fun M=>lH (k18 hmo M)
 rw[hms] at q3;simp only[eS,uZ,pf,AD] at q22;simp only[tW,aW,aE,aQ,uZ,pf,AD,cZ,cR] at q3;have rm1:cp e.length 200=True:=qH;have rm2:cp (e.length+1) 200=True:=qH;simp only[fn7,E7,q9,q10,q13,qr,qf,q2,h1,h2,w1,w2,w3,t1,t2,k1,n1,hx,hv,hz,pi,htk,q22,rm1,rm2,pf,O7,pt,xg,CQ,lY,yo,E4,wL,CJ,y8,aJ,bO,ag.ry,ag.oY,qz,bE,qY,na,dJ,ET,EW,seval];simp only[q3,E7,EW,seval]
end
end Go.Proofs.YteoamaffclmdbaaGreatDoor
