import Derived.Test.YteoamaffclmdbaaGreatDoorHoaG
set_option linter.unusedSimpArgs false
set_option linter.unusedVariables false
set_option linter.unusedSectionVars false
set_option linter.defProp false
namespace Go.Proofs.YteoamaffclmdbaaGreatDoor
open Go Go.Abs
section
attribute [local irreducible] eX fJ lj gK dY kr aq aR cp bI
def E7(l:List jC)(m:List wU):aq J2 4 [Iq l,BR m] []=some (.bool true,[]):=by
 have q9:=cP c9;have q10:=fun M=>DX (cO (c10 l m) M)
 refine aB ?_;cases hg:zJ l m
 ·rw[hg] at q10;obtain⟨hl,hlo,hm,hmt⟩:=Sq hg;obtain⟨f,hf0,hf,_⟩:=c13 l hl hlo;have q13:=fun M=>DX (cO hf0 M)
  obtain⟨hok,hwf,hln,hev,hfits⟩:=LW hf aH hm (au 8) hmt;obtain⟨ov,qr⟩:=r14 (aeA f) hf 8 hmt aH aH;simp only[show lh 8 = aF 8 from rfl,av,az,aJ,aG,aO] at qr
  have qo:=fun M=>lH (Qv hok M)
  have hsd:=PT (n:=13) (f:=f) (l:=(runN f m 8).out) hok.n;have hrt:=WQ hwf aH fun x hx=>(hev x hx).2
  have q11:=fun M=>DX (cO (c11 (runN f m 8).out aH) M)
  rw[hrt] at q11;cases ho:Bg 13 f (runN f m 8).out with
  |none=>rw[ho] at hsd; exact absurd hfits hsd
  |some ord =>
   rw[ho] at hsd qo;simp only at hsd;simp only[bX,bj] at qo;have hn:=aaO hsd;have h8:=hok.RD;have q19:=fun M=>lH (k19 hwf aH (fun x hx=>(hev x hx).1) hf hsd aH aH M)
   simp only[fn4,E4,q9,q10,q13,qr,qo,q11,q19,DY,Mz,lX,yj,EU,wh,Cz,yg,aE,ag.rM,ag.pa,qG,bH,se,pd,EW,seval]
 ·rw[hg] at q10;simp only[fn4,E4,q9,q10,EW,seval]
end
end Go.Proofs.YteoamaffclmdbaaGreatDoor
