import Derived.Test.YteoamaffclmdbaaGreatDoorHlaG
set_option linter.all false
namespace Go.Proofs.YteoamaffclmdbaaGreatDoor
open Go Go.Abs
section
attribute [local irreducible] eS fI lx gK dZ kr aq aR cu bJ
def Hx(l:List jz)(m:List uJ)(a:UInt8)(o:sR):aq Ku 6 [I0 l,Cb m,qB a,.agg (cN o)] []=some (.bool true,[]):=by
 have q9:=cP c9;have q10:=fun M=>Ef (cO (c10 l m) M)
 refine aB ?_;cases hg:zY l m
 rotate_left
 ·rw[hg] at q10;simp only[fn6,E6,q9,q10,cN,qB,EW,seval]
 rw[hg] at q10;cases g1:decide (70<(o.names.length:Int))
 rotate_left
 ·simp only[fn6,E6,q9,q10,g1,cN,qB,cz,EW,seval]
 cases g2:decide (5000<(o.data.length:Int))
 rotate_left
 ·simp only[fn6,E6,q9,q10,g1,g2,cN,qB,cz,EW,seval]
 obtain⟨hl,hlo,hm,hmt⟩:=Tc hg;obtain⟨f,hf0,hf,_⟩:=c13 l hl hlo;have q13:=fun M=>Ef (cO hf0 M)
 obtain⟨ov,qa⟩:=r20 (afq o f) hf hmt aH aH;have hml:(m.take 12).length<=12:=by rw[cf]; omega
 have hmo:∀t,t∈m.take 12->sm t.op:=fun t ht=>hmt t (dB ht)
 generalize m.take 12=m' at qa hml hmo;generalize PH f m'=rf at qa;have hql:=C8 m' f
 have hqo:∀q,q∈yJ f m'->sm q.2.1:=fun q hq=>by
  obtain⟨t,h1,h2⟩:=Oa _ _ q hq;rw[h2]; exact yi (hmo t h1) _
 have hoth:=fun j q=>OV (f:=f) hml (j:=j) (q:=q)
 have hqa:∀q,q∈yJ f m'->zC q.2.2:=N9 m' f 10000 hf aH;have hok:=MM (by rw[hql]; exact hml) hqo hf (show 10000<=80000 by omega)
 have qo:=lH' (asF hok ((Il (by rw[hql]; exact hml) f).1 (J8 m' f)) (M:=[cF (cN o),cF (cg f),cF (cg rf),.arr 17 ov ((vt (yJ f m')).map rR)]) (id:=3) (ver:=ov) (sz:=17) rfl)
 rw[Rz] at qo;have dN:=CV (yJ f m');generalize yJ f m'=qs at qa qo hql hqo hoth dN hok hqa;have hq12:qs.length<=12:=by rw[hql]; exact hml
 simp only[au,az,aI,aG,aP,cN,dN] at qa qo;have w2:IntKind.i64.wrap (2*(qs.length:Int))=((2*qs.length:Nat):Int):=by rw[gx aH aH]; omega
 have b2:(((2*qs.length:Nat):Int) != ((2*qs.length:Nat):Int))=false:=dw;simp only[fn6,E6,q9,q10,q13,qa,qo,g1,g2,dN,w2,b2,cN,pS,qB,cz,List.length_range',Ab,Hg,nq,AD,IY,yx,Fk,Bn,amE,aF,bO,ag.rz,ag.oZ,qE,bE,sj,ly,G3,EW,seval];refine pq (xs:=List.range' 0 qs.length) gr (fun _ _=>True) (fun _ (_:Unit)=>()) (fun _ i=>[(2,.int .u8 a.toNat),(7,cC 0),(9,.bool true),(10,cC 1),(11,.cE 3 ov 17 0 (2*qs.length)),(12,gv ((List.range' 0 qs.length).map fun i=>qk (2*i))),(14,aD i)]) (fun _=>[cF (cN o),cF (cg f),cF (cg rf),.arr 17 ov ((vt qs).map rR)]) (fun _=>_) (fun _ _=>?_) (fun pre x post s e hx cQ hw h0 hm hI hi=>?_) () trivial
 ·have hz:((List.range' 0 qs.length).length:Int)=(qs.length:Int):=dw
  by_cases hn:qs.length=0
  ·have z1:(((2*qs.length:Nat):Int)==0)=true:=by rw[hn]; rfl
   simp only[E6,hz,bq,z1,bO,cz,List.length_range',EW,seval]
  have z1:(((2*qs.length:Nat):Int)==0)=false:=by rw[jm]; omega
  have h2:((qs.length:Int)=0)=False:=Yp;have hk:a.toNat % qs.length<qs.length:=nA _ aH;have u1:=a.toNat_lt;have w1:IntKind.i64.wrap (a.toNat:Int)=(a.toNat:Int):=gx aH aH;have t1:((a.toNat:Nat):Int).tmod (qs.length:Int)=((a.toNat % qs.length:Nat):Int):=rfl;generalize a.toNat % qs.length=k at hk t1;have w3:IntKind.i64.wrap (2*(k:Int))=((2*k:Nat):Int):=by rw[gx aH aH]; omega
  have w4:IntKind.i64.wrap (((2*k:Nat):Int)+1)=((2*k+1:Nat):Int):=by rw[gx aH aH]; omega
  have hkl:(((2*k+1:Nat):Int)<((2*qs.length:Nat):Int))=True:=sL;have hq:=ai hk;generalize qs[k]=q at hq;have hqm:=aJ hq;obtain⟨_,hx⟩:=Ry qs k q hq;have pa:=abI (l:=vt qs) (k:=2*k+1) ⟨2,q.1,AJ,q.2.2⟩ o;rw[MN qs k q o hq] at pa
  have hok':th 13 10000 f (vt (qs.set k (q.1,q.2.1,o))):=MM (by rw[cA]; exact hq12) (fun p hp=>by
   rcases iA hp with h|rfl
   ·exact hqo p h
   ·exact hqo q hqm) hf aH
  have qf:=fun M=>lH (k18 hok' M)
  rw[hoth k q hq o] at qf;have hlen':(vt (qs.set k (q.1,q.2.1,o))).length=2*qs.length:=by rw[CV,cA]
  have han:=(hqa q hqm).names;have qA:=fun M=>Ef (cO (c21 q.2.2 o aH) M)
  have ht:List.take (2*qs.length) ((vt (qs.set k (q.1,q.2.1,o))).map rR)=(vt (qs.set k (q.1,q.2.1,o))).map rR:=bt (by rw[cz,hlen']; exact av _)
  generalize vt (qs.set k (q.1,q.2.1,o))=l2 at pa qf ht;simp only[cN] at pa qA;simp only[E6,hz,bq,z1,h2,w1,t1,w3,w4,hkl,hx,pa,qA,qf,ht,bO,cz,List.length_range',cN,pS,Ab,Hg,nq,AD,IY,yx,Fk,Bn,amE,aF,ag.rz,ag.oZ,qE,bE,sj,ly,G3,EW,seval]
  done
 ·have hxl:=(aj.1 hx).1
  have hx2:x=pre.length:=by
   have:=(aj.1 hx).2;rw[List.getElem_range'] at this; omega
  subst hx2;have i1:=hi () trivial;have hxl':pre.length<qs.length:=by simpa using hxl
  have w5:IntKind.i64.wrap (2*(pre.length:Int))=((2*pre.length:Nat):Int):=by rw[gx aH aH]; omega
  have b5:(((2*pre.length:Nat):Int) != ((2*pre.length:Nat):Int))=false:=dw;simp only[E6,cQ,hx,hw,w5,b5,EW,seval];exact i1
end
end Go.Proofs.YteoamaffclmdbaaGreatDoor
