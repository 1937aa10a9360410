import Derived.Test.YteoamaffclmdbaaGreatDoorHwaG
set_option linter.unusedSimpArgs false
set_option linter.unusedVariables false
set_option linter.unusedSectionVars false
set_option linter.defProp false
open Go.Proofs.Tryz
namespace Go.Proofs.YteoamaffclmdbaaGreatDoor
open Go Go.Abs
section
attribute [local irreducible] eX fM lC gK dX kr aq aU cr bJ
def Hn(l:List jF)(m:List wT)(p:UInt8×UInt8)(y:UInt8):aq Kb 8 [IA l,B3 m,G7 p,pf y] []=some (.bool true,[]):=by
 have q9:=cP c9;have q10:=fun M=>D7 (cO (c10 l m) M)
 refine aB ?_;cases hg:zV l m
 rotate_left
 ·rw[hg] at q10;simp only[YW,E8,q9,q10,G7,EW,seval]
 rw[hg] at q10;obtain⟨hl,hlo,hm,hmt⟩:=SA hg;obtain⟨f,hf0,hf,_⟩:=c13 l hl hlo;have q13:=fun M=>D7 (cO hf0 M)
 obtain⟨hy,hfits,hl24,hnb⟩:=al5 hf aI hm (show 6<=8 by omega) hmt
 obtain⟨ov,qr⟩:=r14 (aeM p f) hf 6 hmt aI aI;generalize runN f m 6=r at hy hfits hl24 hnb qr;obtain⟨rf,e,_,_,_,_⟩:=r;simp only[show mS 6 = aH 6 from rfl,au,aw,aJ,aG,aQ,pf] at qr hy hfits hl24 hnb
 by_cases h0:e.length<2
 ·have h1:((e.length:Int)<2)=True:=sk;simp only[YW,E8,q9,q10,q13,qr,h1,G7,pf,sE,we,ko,wy,AQ,vg,za,wO,aE,bK,EW,seval]
 have h1:((e.length:Int)<2)=False:=XQ;have h2:((e.length:Int)=0)=False:=XQ;have h3:(((e.length-1:Nat):Int)=0)=False:=XQ;have h4:(e.length==0)=false:=by rw[jl]; omega
 have hk:p.1.toNat % e.length<e.length:=kZ _ aI;have u1:=p.1.toNat_lt;have u2:=p.2.toNat_lt;have u3:=y.toNat_lt;have w1:IntKind.i64.wrap (p.1.toNat:Int)=(p.1.toNat:Int):=gw aI aI;have w2:IntKind.i64.wrap (p.2.toNat:Int)=(p.2.toNat:Int):=gw aI aI;have w3:IntKind.i64.wrap (y.toNat:Int)=(y.toNat:Int):=gw aI aI;have w4:IntKind.i64.wrap ((e.length:Int)-1)=((e.length-1:Nat):Int):=by rw[gw aI aI]; omega
 have t1:((p.1.toNat:Nat):Int).tmod (e.length:Int)=((p.1.toNat % e.length:Nat):Int):=rfl;have t2:((p.2.toNat:Nat):Int).tmod ((e.length-1:Nat):Int)=((p.2.toNat % (e.length-1):Nat):Int):=rfl;have hn:p.2.toNat % (e.length-1)<e.length-1:=kZ _ aI;generalize p.1.toNat % e.length=k at hk t1;generalize p.2.toNat % (e.length-1)=n at hn t2;have w5:IntKind.i64.wrap ((n:Int)+1)=((n+1:Nat):Int):=by rw[gw aI aI]; omega
 have k1:((k:Int)<(e.length:Int))=True:=sk;have n1:((n:Int)<(e.length:Int))=True:=sk;have n2:(((n+1:Nat):Int)<(e.length:Int))=True:=sk;have hx:=ai hk;generalize e[k]=x at hx;generalize hv:IntKind.i64.wrap (x.lg.ar+((y.toNat:Nat):Int).tmod 2)=v;have pi:=aa5 (l:=e) (k:=k) x v;have hy':=hy.set hx { x.lg with ar:=v }
 have dD:(e.set k (Ja x v)).length=e.length:=cG;have htk:List.take e.length ((e.set k (Ja x v)).map tq)=(e.set k (Ja x v)).map tq:=bB dv;have hzn:∃z,(e.set k (Ja x v))[n]?=some z:=⟨_,ai (by rw[dD]; omega)⟩
 have hzm:∃z,(e.set k (Ja x v))[n+1]?=some z:=⟨_,ai (by rw[dD]; omega)⟩
 rw[<-EG (y:=Ja x v) hx rfl] at hnb;generalize e.set k (Ja x v)=e' at pi hy' dD htk hzn hzm hnb;obtain⟨a,ha⟩:=hzn;obtain⟨b,hb⟩:=hzm;cases c1:a.kind==2
 ·simp only[YW,E8,q9,q10,q13,qr,h1,h2,h3,w1,w2,w3,w4,w5,t1,t2,k1,n1,n2,hx,ha,hb,hv,pi,htk,c1,bne,ew,nV,G7,pf,sE,we,ko,wy,AQ,vg,za,wO,aE,bK,ag.qX,ag.nY,pw,bF,oe,jx,dD,CC,EW,seval]
  done
 cases c2:b.kind==1
 ·simp only[YW,E8,q9,q10,q13,qr,h1,h2,h3,w1,w2,w3,w4,w5,t1,t2,k1,n1,n2,hx,ha,hb,hv,pi,htk,c1,c2,bne,ew,cU,nV,G7,pf,sE,we,ko,wy,AQ,vg,za,wO,aE,bK,ag.qX,ag.nY,pw,bF,oe,jx,dD,CC,EW,seval]
  done
 cases c3:a.bA==b.bA
 rotate_left
 ·simp only[YW,E8,q9,q10,q13,qr,h1,h2,h3,w1,w2,w3,w4,w5,t1,t2,k1,n1,n2,hx,ha,hb,hv,pi,htk,c1,c2,c3,bne,ew,cU,nV,G7,pf,sE,we,ko,wy,AQ,vg,za,wO,aE,bK,ag.qX,ag.nY,pw,bF,oe,jx,dD,CC,EW,seval]
  done
 have hw:=hy'.swap ha hb (by simpa using c3)
 have hfw:=fun(f:aa)=>hy'.A4 ha hb (by have:=eq_of_beq c1; omega) (eq_of_beq c2) (by simpa using c3) (f:=f)
 have p1:=NJ (l:=e') (k:=n) a b;have hb2:(e'.set n b)[n+1]?=some b:=by rw[eJ aI]; exact hb
 have p2:=NJ (l:=e'.set n b) (k:=n+1) b a;simp only[nV,da,cV] at p1 p2;have rm1:cq e.length 200=True:=qM;have hfw:=hfw f;have hlw:((e'.set n b).set (n+1) a).length=e.length:=by rw[cG,cG,dD]
 have htk2:List.take e.length (((e'.set n b).set (n+1) a).map tq)=((e'.set n b).set (n+1) a).map tq:=bB (by simp[dD])
 generalize (e'.set n b).set (n+1) a=w at hw hfw hlw htk2 p2;have q11:=fun M=>D7 (cO (c11 w aI) M)
 rw[hw.right] at q11;have qf:=fun M=>lH (k18 (hy'.ord hf aI) M)
 have qw:=fun M=>lH (k18 (hw.ord hf aI) M)
 have f1:=hy'.fits f;have f2:=hw.fits f;cases hfe:(zl 13 f e').isSome
 ·rw[hfe] at qf;simp only[YW,E8,q9,q10,q13,qr,h1,h2,h3,w1,w2,w3,w4,w5,t1,t2,k1,n1,n2,hx,ha,hb,hv,pi,htk,c1,c2,c3,h4,p1,hb2,p2,rm1,htk2,hlw,q11,qf,qw,bne,ew,cU,nV,G7,pf,sE,we,ko,wy,AQ,vg,za,wO,aE,bK,ag.qX,ag.nY,pw,bF,oe,jx,dD,CC,EW,seval]
  done
 rw[hfe] at qf f1;rw[f2.2 (hfw (f1.1 rfl))] at qw;simp only[YW,E8,q9,q10,q13,qr,h1,h2,h3,w1,w2,w3,w4,w5,t1,t2,k1,n1,n2,hx,ha,hb,hv,pi,htk,c1,c2,c3,h4,p1,hb2,p2,rm1,htk2,hlw,q11,qf,qw,bne,ew,cU,nV,G7,pf,sE,we,ko,wy,AQ,vg,za,wO,aE,bK,ag.qX,ag.nY,pw,bF,oe,jx,dD,CC,EW,seval]
 done
end
end Go.Proofs.YteoamaffclmdbaaGreatDoor
