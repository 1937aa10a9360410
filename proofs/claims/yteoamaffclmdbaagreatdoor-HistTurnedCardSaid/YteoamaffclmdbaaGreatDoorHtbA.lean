import Derived.Test.YteoamaffclmdbaaGreatDoorHtaG
set_option linter.all false
namespace Go.Proofs.YteoamaffclmdbaaGreatDoor
open Go Go.Abs
section
attribute [local irreducible] eX fJ lu gK eb kr aq aU cq bI
def Fi(l:List jD)(m:List wT)(a:UInt8)(o:tU):aq Kc 5 [IE l,B4 m,pZ a,.agg (cE o)] []=some (.bool true,[]):=by
 have q9:=cP c9;have q10:=fun M=>Fh (cO (c10 l m) M)
 refine aB ?_;cases hg:zU l m
 rotate_left
 ·rw[hg] at q10;simp only[fn5,E5,q9,q10,cE,pZ,EW,seval]
 rw[hg] at q10;cases g1:decide (70<(o.names.length:Int))
 rotate_left
 ·simp only[fn5,E5,q9,q10,g1,cE,pZ,cU,EW,seval]
 cases g2:decide (5000<(o.data.length:Int))
 rotate_left
 ·simp only[fn5,E5,q9,q10,g1,g2,cE,pZ,cU,EW,seval]
 obtain⟨hl,hlo,hm,hmt⟩:=SH hg;obtain⟨f,hf0,hf,_⟩:=c13 l hl hlo;have q13:=fun M=>Fh (cO hf0 M)
 obtain⟨hy,hfits,hl24,_⟩:=amj hf aJ hm (show 6<=8 by omega) hmt
 obtain⟨ov,qr⟩:=r14 (aeW o f) hf 6 hmt aJ aJ;generalize runN f m 6=r at hy hfits hl24 qr;obtain⟨rf,e,_,_,_,_⟩:=r;simp only[show lq 6 = aF 6 from rfl,aw,az,aK,aG,aP,cE] at qr hy hfits hl24
 by_cases h0:e.length=0
 ·have h1:((e.length:Int)==0)=true:=by rw[h0]; rfl
  have qf:=fun M=>lH (k18 (hy.ord hf aJ) M)
  rw[(hy.fits f).2 hfits] at qf;obtain rfl:=dz.1 h0;simp only[qJ,aQ] at qf;simp only[fn5,E5,q9,q10,q13,qr,qf,g1,g2,cE,pZ,cU,az,aQ,xn,CT,kI,wR,CG,vQ,zW,xl,afw,aI,bP,ag.rq,ag.n9,qm,p8,List.drop_nil,EW,seval]
 have h1:((e.length:Int)==0)=false:=by simpa using h0
 have h2:((e.length:Int)=0)=False:=XZ;have hk:a.toNat % e.length<e.length:=mj _ aJ;have u1:=a.toNat_lt;have w1:IntKind.i64.wrap (a.toNat:Int)=(a.toNat:Int):=gA aJ aJ;have t1:((a.toNat:Nat):Int).tmod (e.length:Int)=((a.toNat % e.length:Nat):Int):=rfl;generalize a.toNat % e.length=k at hk t1;have k1:((k:Int)<(e.length:Int))=True:=su;have hx:=ai hk;generalize e[k]=x at hx;have pa:=abe (l:=e) (k:=k) x o;simp only[cE,dj,cX] at pa;have hy':=hy.set hx o;have dQ:(e.set k { x with j4:=o }).length=e.length:=dh
 have htk:List.take e.length ((e.set k { x with j4:=o }).map wh)=(e.set k { x with j4:=o }).map wh:=bB dx
 have hbg:x.kind=1->Hs.Fits oU (bK (e.set k { x with j4:=o })).cs f:=fun h=>R2 hx h o hfits
 have hxk:=hy.wf.kind x (aE hx);have hz:(e.set k { x with j4:=o })[k]?=some { x with j4:=o }:=by rw[eE hk]
 generalize e.set k { x with j4:=o }=e' at pa hy' dQ htk hbg hz
 have hok:=hy'.ord hf aJ;have qo:=fun M=>lH (QJ hok M)
 have qf:=fun M=>lH (k18 hok M)
 have hsd:=Gn (n:=13) (f:=f) (l:=e') hok.n;cases ho:zm 13 f e' with
 |some ord =>
  rw[ho] at hsd qo qf;simp only at hsd;simp only[bW,bz] at qo qf;have hn:=aa9 hsd;have h8:=hok.Pc;have q19:=fun M=>lH (k19 hy'.wf aJ (fun x hx=>(hy'.ev x hx).1) hf hsd aJ aJ M)
  simp only[fn5,E5,q9,q10,q13,qr,g1,g2,h1,h2,w1,t1,k1,hx,pa,htk,qo,qf,q19,cE,mW,pZ,cU,xn,CT,kI,wR,CG,vQ,zW,xl,afw,aI,bP,ag.rq,ag.n9,qm,bF,ra,nc,dQ,yz,EW,seval]
 |none =>
  rw[ho] at hsd qo qf;simp only at hsd;simp only[cY,hZ,aQ] at qo qf
  have hx2:(x.kind==2)=true:=by
   rcases hxk with h|h
   ·exact absurd (hbg h) hsd
   ·simp[h]
  simp only[fn5,E5,q9,q10,q13,qr,g1,g2,h1,h2,w1,t1,k1,hx,pa,htk,qo,qf,hz,hx2,cE,mW,pZ,cU,xn,CT,kI,wR,CG,vQ,zW,xl,afw,aI,bP,ag.rq,ag.n9,qm,bF,ra,nc,dQ,yz,EW,seval]
end
end Go.Proofs.YteoamaffclmdbaaGreatDoor
