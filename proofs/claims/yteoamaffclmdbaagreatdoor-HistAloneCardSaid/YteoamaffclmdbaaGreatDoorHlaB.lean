import Derived.Test.YteoamaffclmdbaaGreatDoorHlaA
set_option linter.all false
open Go.Proofs.Tryz
set_option maxRecDepth 100000
namespace Go.Proofs.YteoamaffclmdbaaGreatDoor
open Go Go.Abs
def fp{o:Option eE}{n:Nat}{r:List sV}{c:cG}(h:o=some (eE.mk n r c):=by kernel_rfl):o=some (eE.mk n r (sub c 0)):=okc h
def fO(r k:cG)(h:At r 0 k:=by exact ajq _):eqs r 0 k:=wm r k 0 h
def f9P{q:Prop}(r k:cG)(z:q)(h:At r 0 k:=by exact ajq _):=bR (fO r k h) z
def Vz:Ko [] f238:=eO
def akP:=Vz.1
def adR:=eE.mk 1 [.tmp 2] (sub akP 0)
def VB:Ko [] f240:=eO
def akR:=VB.1
def adT:=eE.mk 2 [.tmp 4,.tmp 5] (sub akR 0)
def U3:Ko [] f194:=eO
def akp:=U3.1
def ads:=eE.mk 2 [.dQ 4 6,.tmp 5] (sub akp 0)
def U6:Ko [] f197:=eO
def aks:=U6.1
def adu:=eE.mk 2 [.dQ 4 6,.tmp 5] (sub aks 0)
def U7:Ko [] f198:=eO
def afh:=U7.1
def Jj:=eE.mk 1 [.tmp 2] (sub afh 0)
abbrev NK:=sub afh 15
def anB:Ko [] f249:=eO
def ap8:=anB.1
def al8:=eE.mk 3 [.tmp 6,.tmp 7] (sub ap8 0)
def VG:Ko [] f250:=eO
def akV:=VG.1
def adX:=eE.mk 2 [.tmp 4] (sub akV 0)
def VH:Ko [] f251:=eO
def akW:=VH.1
def adY:=eE.mk 2 [.tmp 4] (sub akW 0)
def U8:Ko [] f199:=eO
def akt:=U8.1
def adv:=eE.mk 2 [.tmp 4,.tmp 5] (sub akt 0)
def pB:=by
 have h:=f9P akP Vz.1 (f9P akR VB.1 (f9P akp U3.1 (f9P aks U6.1 (f9P afh U7.1 (f9P akV VG.1 (f9P akW VH.1 (fO akt U8.1)))))));simp only[eO,Vz,VB,U3,U6,U7,VG,VH,U8,yQ,seval] at h;exact h
def ajd:=pB.1
def apH:=pB.2.1
def aeN:=pB.2.2.1
def YC:=pB.2.2.2.1
def wN:=pB.2.2.2.2.1
def apK:=pB.2.2.2.2.2.1
def apL:=pB.2.2.2.2.2.2.1
def apt:=pB.2.2.2.2.2.2.2
def Um:Ko [] f151:=eO
def ajX:=Um.1
def ac5:=eE.mk 3 [.tmp 6,.tmp 7] (sub ajX 0)
def U0:Ko [] f191:=eO
def akn:=U0.1
def adp:=eE.mk 2 [.dQ 4 6,.tmp 5] (sub akn 0)
def U9:Ko [9] f200:=eO
def afi:=U9.1
def SU:=eE.mk 2 [.tmp 4] (sub afi 0)
def aoc:sS [9] f200 SU:=fp
abbrev aay:=sub afi 7
def VA:Ko [] f239:=eO
def akQ:=VA.1
def adS:=eE.mk 2 [.tmp 4] (sub akQ 0)
def UR:Ko [1000241,1000242] f182:=eO
def akg:=UR.1
def SN:=eE.mk 2 [] (sub akg 0)
def an7:sS [1000241,1000242] f182 SN:=fp
def VC:Ko [1000241,1000283] f244:=eO
def akS:=VC.1
def SZ:=eE.mk 2 [] (sub akS 0)
def aog:sS [1000241,1000283] f244 SZ:=fp
def US:Ko [1000205,1000243,2000182] f183:=eO
def akh:=US.1
def SO:=eE.mk 4 [] (sub akh 0)
def an8:sS [1000205,1000243,2000182] f183 SO:=fp
def U4:Ko [1000205,1000248,2000182] f195:=eO
def akq:=U4.1
def SS:=eE.mk 3 [] (sub akq 0)
def aob:sS [1000205,1000248,2000182] f195 SS:=fp
def pC:=by
 have h:=f9P ajX Um.1 (f9P akn U0.1 (f9P afi U9.1 (f9P akQ VA.1 (f9P akg UR.1 (f9P akS VC.1 (f9P akh US.1 (fO akq U4.1)))))));simp only[eO,Um,U0,U9,VA,UR,VC,US,U4,yQ,seval] at h;exact h
def KK:=pC.1
def aps:=pC.2.1
def CJ:=pC.2.2.1
def apG:=pC.2.2.2.1
def aeM:=pC.2.2.2.2.1
def aeT:=pC.2.2.2.2.2.1
def Rj:=pC.2.2.2.2.2.2.1
def YB:=pC.2.2.2.2.2.2.2
def U5:Ko [] f196:=eO
def akr:=U5.1
def adt:=eE.mk 2 [] (sub akr 0)
def UQ:Ko [] f181:=eO
def akf:=UQ.1
def adl:=eE.mk 3 [.tmp 6] (sub akf 0)
def Vb:Ko [] f202:=eO
def akv:=Vb.1
def adx:=eE.mk 2 [.tmp 4] (sub akv 0)
def UX:Ko [] f187:=eO
def akk:=UX.1
def adn:=eE.mk 2 [.dQ 4 3,.tmp 5] (sub akk 0)
def Vq:Ko [] f225:=eO
def akJ:=Vq.1
def adN:=eE.mk 3 [.dQ 6 3,.tmp 7] (sub akJ 0)
def Ui:Ko [] f147:=eO
def ajU:=Ui.1
def ac2:=eE.mk 4 [.dQ 8 3,.tmp 9,.tmp 10] (sub ajU 0)
def Uk:Ko [] f149:=eO
def ajV:=Uk.1
def ac3:=eE.mk 4 [.dQ 8 3,.tmp 9] (sub ajV 0)
def Ul:Ko [] f150:=eO
def ajW:=Ul.1
def ac4:=eE.mk 3 [.dQ 6 3,.tmp 7,.tmp 8] (sub ajW 0)
def oc:=by
 have h:=f9P akr U5.1 (f9P akf UQ.1 (f9P akv Vb.1 (f9P akk UX.1 (f9P akJ Vq.1 (f9P ajU Ui.1 (f9P ajV Uk.1 (fO ajW Ul.1)))))));simp only[eO,U5,UQ,Vb,UX,Vq,Ui,Uk,Ul,yQ,seval] at h;exact h
def aeO:=oc.1
def H7:=oc.2.1
def ai9:=oc.2.2.1
def ai8:=oc.2.2.2.1
def YD:=oc.2.2.2.2.1
def aeF:=oc.2.2.2.2.2.1
def aeG:=oc.2.2.2.2.2.2.1
def Rh:=oc.2.2.2.2.2.2.2
def VI:Ko [] f252:=eO
def afn:=VI.1
def adZ:=eE.mk 2 [.tmp 4] (sub afn 0)
abbrev aaF:=sub afn 7
def Va:Ko [] f201:=eO
def aku:=Va.1
def adw:=eE.mk 2 [.tmp 4] (sub aku 0)
def VK:Ko [] f254:=eO
def akY:=VK.1
def ad1:=eE.mk 5 [.tmp 6] (sub akY 0)
def anG:Ko [] f287:=eO
def aqc:=anG.1
def amf:=eE.mk 2 [.tmp 4] (sub aqc 0)
def VJ:Ko [] f253:=eO
def akX:=VJ.1
def ad0:=eE.mk 2 [.tmp 4] (sub akX 0)
def Vc:Ko [] f203:=eO
def akw:=Vc.1
def ady:=eE.mk 3 [.tmp 6] (sub akw 0)
def Un:Ko [] f152:=eO
def afe:=Un.1
def ac6:=eE.mk 5 [.dQ 10 3,.tmp 11,.tmp 12] (sub afe 0)
abbrev N7:=sub afe 86
def anC:Ko [] f263:=eO
def ap9:=anC.1
def amb:=eE.mk 3 [.tmp 6,.tmp 7] (sub ap9 0)
def VW:Ko [] f278:=eO
def ak8:=VW.1
def ad9:=eE.mk 2 [.tmp 4] (sub ak8 0)
def Vf:Ko [] f209:=eO
def akz:=Vf.1
def adB:=eE.mk 2 [.tmp 4] (sub akz 0)
def oe:=by
 have h:=f9P afn VI.1 (f9P aku Va.1 (f9P akY VK.1 (f9P akX VJ.1 (f9P akw Vc.1 (f9P afe Un.1 (f9P ak8 VW.1 (fO akz Vf.1)))))));simp only[eO,VI,Va,VK,VJ,Vc,Un,VW,Vf,yQ,seval] at h;exact h
def KM:=oe.1
def apu:=oe.2.1
def ajf:=oe.2.2.1
def apM:=oe.2.2.2.1
def apv:=oe.2.2.2.2.1
def yR:=oe.2.2.2.2.2.1
def apV:=oe.2.2.2.2.2.2.1
def aja:=oe.2.2.2.2.2.2.2
def VL:Ko [] f257:=eO
def akZ:=VL.1
def ad2:=eE.mk 1 [.tmp 2] (sub akZ 0)
def agW:Ko [] f56:=eO
def b56:=agW.1
def amt:=eE.mk 2 [.tmp 4] (sub b56 0)
def TM:Ko [] f111:=eO
def ajB:=TM.1
def acJ:=eE.mk 2 [.tmp 4] (sub ajB 0)
def TN:Ko [] f112:=eO
def ajC:=TN.1
def acK:=eE.mk 2 [.tmp 4] (sub ajC 0)
def anw:Ko [] f113:=eO
def ap4:=anw.1
def alU:=eE.mk 2 [.tmp 4] (sub ap4 0)
def anx:Ko [] f114:=eO
def ap5:=anx.1
def alV:=eE.mk 3 [.tmp 6] (sub ap5 0)
def Uo:Ko [1000205] f153:=eO
def ajY:=Uo.1
def yH:=eE.mk 4 [.tmp 8,.tmp 9,.tmp 10] (sub ajY 0)
def anV:sS [1000205] f153 yH:=fp
def UA:Ko [] f166:=eO
def aj6:=UA.1
def ac9:=eE.mk 2 [.tmp 4] (sub aj6 0)
def Vd:Ko [] f204:=eO
def akx:=Vd.1
def adz:=eE.mk 2 [.tmp 4] (sub akx 0)
def Ve:Ko [] f206:=eO
def aky:=Ve.1
def adA:=eE.mk 2 [.tmp 3] (sub aky 0)
def oh:=by
 have h:=f9P akZ VL.1 (f9P b56 agW.1 (f9P ajB TM.1 (f9P ajC TN.1 (f9P ajY Uo.1 (f9P aj6 UA.1 (f9P akx Vd.1 (fO aky Ve.1)))))));simp only[eO,VL,agW,TM,TN,Uo,UA,Vd,Ve,yQ,seval] at h;exact h
def apN:=oh.1
def E56:=oh.2.1
def aiZ:=oh.2.2.1
def apg:=oh.2.2.2.1
def H6:=oh.2.2.2.2.1
def ai4:=oh.2.2.2.2.2.1
def apw:=oh.2.2.2.2.2.2.1
def apx:=oh.2.2.2.2.2.2.2
def anz:Ko [] f208:=eO
def ap6:=anz.1
def al0:=eE.mk 2 [.tmp 4] (sub ap6 0)
def agI:Ko [] f39:=eO
def b39:=agI.1
def amm:=eE.mk 0 [.dQ 0 3] (sub b39 0)
def UM:Ko [] f178:=eO
def Y1:=UM.1
def adi:=eE.mk 2 [.tmp 4,.tmp 5] (sub Y1 0)
abbrev aav:=sub Y1 19
abbrev aih:=sub Y1 39
def UO:Ko [] f180:=eO
def ake:=UO.1
def adk:=eE.mk 1 [.tmp 2,.tmp 3,.tmp 4] (sub ake 0)
def wZ:=by
 have h:=And.intro (fO b39 agI.1) (And.intro (fO Y1 UM.1) (fO ake UO.1));simp only[eO,agI,UM,UO,yQ,seval] at h;exact h
def E39:=wZ.1
def KL:=wZ.2.1
def YA:=wZ.2.2
end Go.Proofs.YteoamaffclmdbaaGreatDoor
set_option maxRecDepth 100000
namespace Go.Proofs.YteoamaffclmdbaaGreatDoor
open Go Go.Abs
def Vg:Ko [] f210:=eO
def akA:=Vg.1
def adC:=eE.mk 1 [.tmp 2] (sub akA 0)
def Vh:Ko [] f211:=eO
def afj:=Vh.1
def adE:=eE.mk 3 [.tmp 6,.tmp 7] (sub afj 0)
abbrev aaz:=sub afj 9
def Vi:Ko [] f212:=eO
def akB:=Vi.1
def adF:=eE.mk 3 [.tmp 6] (sub akB 0)
def Vj:Ko [] f213:=eO
def akC:=Vj.1
def adG:=eE.mk 1 [.tmp 2] (sub akC 0)
def VM:Ko [] f258:=eO
def ak0:=VM.1
def ad3:=eE.mk 1 [.dQ 2 2] (sub ak0 0)
def Vk:Ko [] f217:=eO
def akD:=Vk.1
def adH:=eE.mk 2 [.tmp 4] (sub akD 0)
def anA:Ko [] f216:=eO
def ap7:=anA.1
def al4:=eE.mk 2 [.tmp 4] (sub ap7 0)
def Vl:Ko [] f219:=eO
def akE:=Vl.1
def adI:=eE.mk 2 [.tmp 4] (sub akE 0)
def VO:Ko [] f262:=eO
def ak2:=VO.1
def ad4:=eE.mk 2 [.tmp 3] (sub ak2 0)
def pD:=by
 have h:=f9P akA Vg.1 (f9P afj Vh.1 (f9P akB Vi.1 (f9P akC Vj.1 (f9P ak0 VM.1 (f9P akD Vk.1 (f9P akE Vl.1 (fO ak2 VO.1)))))));simp only[eO,Vg,Vh,Vi,Vj,VM,Vk,Vl,VO,yQ,seval] at h;exact h
def ajb:=pD.1
def H8:=pD.2.1
def apy:=pD.2.2.1
def ajc:=pD.2.2.2.1
def apO:=pD.2.2.2.2.1
def apz:=pD.2.2.2.2.2.1
def apA:=pD.2.2.2.2.2.2.1
def apP:=pD.2.2.2.2.2.2.2
def UU:Ko [] f185:=eO
def aki:=UU.1
def SQ:=eE.mk 2 [.tmp 4] (sub aki 0)
def Us:Ko [1000215,1000214] f156:=eO
def aj0:=Us.1
def SI:=eE.mk 5 [.tmp 10,.tmp 11] (sub aj0 0)
def anX:sS [1000215,1000214] f156 SI:=fp
def Ut:Ko [1000215,1000218,2000219] f157:=eO
def aj1:=Ut.1
def Nk:=eE.mk 4 [.dQ 8 3,.tmp 9,.tmp 10] (sub aj1 0)
def anZ:sS [1000215,1000218,2000219] f157 Nk:=fp
def UD:Ko [] f169:=eO
def YZ:=UD.1
def ade:=eE.mk 3 [.dQ 6 3,.tmp 7] (sub YZ 0)
abbrev aan:=sub YZ 7
abbrev aif:=sub YZ 23
def Vp:Ko [] f224:=eO
def akI:=Vp.1
def adM:=eE.mk 3 [.tmp 6,.tmp 7] (sub akI 0)
def UT:Ko [3] f184:=eO
def Y2:=UT.1
def SP:=eE.mk 1 [.tmp 2] (sub Y2 0)
def an9:sS [3] f184 SP:=fp
abbrev aaw:=sub Y2 9
abbrev aii:=sub Y2 25
def U2:Ko [] f193:=eO
def ako:=U2.1
def adr:=eE.mk 2 [.tmp 4,.tmp 5] (sub ako 0)
def VF:Ko [] f247:=eO
def afm:=VF.1
def adW:=eE.mk 5 [] (sub afm 0)
abbrev aaE:=sub afm 8
def pE:=by
 have h:=f9P aki UU.1 (f9P aj0 Us.1 (f9P aj1 Ut.1 (f9P YZ UD.1 (f9P akI Vp.1 (f9P Y2 UT.1 (f9P ako U2.1 (fO afm VF.1)))))));simp only[eO,UU,Us,Ut,UD,Vp,UT,U2,VF,yQ,seval] at h;exact h
def ai7:=pE.1
def OE:=pE.2.1
def aeH:=pE.2.2.1
def OH:=pE.2.2.2.1
def aeQ:=pE.2.2.2.2.1
def OI:=pE.2.2.2.2.2.1
def Rk:=pE.2.2.2.2.2.2.1
def OJ:=pE.2.2.2.2.2.2.2
def Vr:Ko [] f226:=eO
def akK:=Vr.1
def adO:=eE.mk 2 [.tmp 4,.tmp 5] (sub akK 0)
def anE:Ko [] f267:=eO
def aqa:=anE.1
def amc:=eE.mk 3 [.tmp 6,.tmp 7] (sub aqa 0)
def VT:Ko [] f268:=eO
def ak6:=VT.1
def ad8:=eE.mk 2 [.tmp 4] (sub ak6 0)
def VX:Ko [] f284:=eO
def afo:=VX.1
def aea:=eE.mk 3 [] (sub afo 0)
abbrev aaH:=sub afo 4
def VE:Ko [] f246:=eO
def akU:=VE.1
def adV:=eE.mk 3 [.tmp 6] (sub akU 0)
def VY:Ko [] f285:=eO
def ak9:=VY.1
def aeb:=eE.mk 3 [.tmp 4] (sub ak9 0)
def VD:Ko [] f245:=eO
def akT:=VD.1
def adU:=eE.mk 2 [.tmp 4] (sub akT 0)
def Ux:Ko [1000189,1000227,1000228] f162:=eO
def aj4:=Ux.1
def Jg:=eE.mk 5 [.tmp 10,.tmp 11] (sub aj4 0)
def an1:sS [1000189,1000227,1000228] f162 Jg:=fp
def VN:Ko [] f259:=eO
def ak1:=VN.1
def S0:=eE.mk 1 [.tmp 2] (sub ak1 0)
def oj:=by
 have h:=f9P akK Vr.1 (f9P ak6 VT.1 (f9P afo VX.1 (f9P akU VE.1 (f9P ak9 VY.1 (f9P akT VD.1 (f9P aj4 Ux.1 (fO ak1 VN.1)))))));simp only[eO,Vr,VT,VX,VE,VY,VD,Ux,VN,yQ,seval] at h;exact h
def apD:=oj.1
def apT:=oj.2.1
def OM:=oj.2.2.1
def apI:=oj.2.2.2.1
def aeU:=oj.2.2.2.2.1
def aje:=oj.2.2.2.2.2.1
def OG:=oj.2.2.2.2.2.2.1
def H9:=oj.2.2.2.2.2.2.2
def agH:Ko [] f38:=eO
def b38:=agH.1
def aml:=eE.mk 1 [.dQ 2 8] (sub b38 0)
def Vo:Ko [] f223:=eO
def akH:=Vo.1
def adL:=eE.mk 3 [.tmp 6] (sub akH 0)
def VR:Ko [] f266:=eO
def ak5:=VR.1
def ad7:=eE.mk 3 [.tmp 4] (sub ak5 0)
def VQ:Ko [] f265:=eO
def ak4:=VQ.1
def ad6:=eE.mk 2 [.tmp 4] (sub ak4 0)
def anH:Ko [] f299:=eO
def aqd:=anH.1
def amg:=eE.mk 2 [.tmp 4] (sub aqd 0)
def Vm:Ko [] f221:=eO
def akF:=Vm.1
def adJ:=eE.mk 2 [.tmp 4] (sub akF 0)
def VP:Ko [] f264:=eO
def ak3:=VP.1
def ad5:=eE.mk 2 [.tmp 4] (sub ak3 0)
def Vn:Ko [] f222:=eO
def akG:=Vn.1
def adK:=eE.mk 2 [.tmp 4] (sub akG 0)
def Uu:Ko [8000220,1001004005] f158:=eO
def O2:=Uu.1
def SJ:=eE.mk 2 [.dQ 4 8] (sub O2 0)
def an0:sS [8000220,1001004005] f158 SJ:=fp
abbrev aak:=sub O2 17
abbrev aal:=sub O2 40
abbrev abM:=sub O2 62
abbrev abN:=sub O2 35
def om:=by
 have h:=f9P b38 agH.1 (f9P akH Vo.1 (f9P ak5 VR.1 (f9P ak4 VQ.1 (f9P akF Vm.1 (f9P ak3 VP.1 (f9P akG Vn.1 (fO O2 Uu.1)))))));simp only[eO,agH,Vo,VR,VQ,Vm,VP,Vn,Uu,yQ,seval] at h;exact h
def E38:=om.1
def apC:=om.2.1
def apS:=om.2.2.1
def apR:=om.2.2.2.1
def aeP:=om.2.2.2.2.1
def apQ:=om.2.2.2.2.2.1
def apB:=om.2.2.2.2.2.2.1
def GZ:=om.2.2.2.2.2.2.2
def Uy:Ko [8000229] f163:=eO
def aj5:=Uy.1
def SK:=eE.mk 2 [.dQ 4 8,.tmp 5,.tmp 6] (sub aj5 0)
def an3:sS [8000229] f163 SK:=fp
def Vs:Ko [6000012] f230:=eO
def O4:=Vs.1
def SV:=eE.mk 2 [.tmp 4,.tmp 5] (sub O4 0)
def aod:sS [6000012] f230 SV:=fp
abbrev aaA:=sub O4 9
abbrev aaB:=sub O4 30
abbrev abP:=sub O4 46
abbrev abQ:=sub O4 25
def VU:Ko [] f271:=eO
def Y3:=VU.1
def Nt:=eE.mk 5 [.tmp 6] (sub Y3 0)
abbrev aaG:=sub Y3 33
abbrev aij:=sub Y3 45
def anF:Ko [] f273:=eO
def aqb:=anF.1
def ame:=eE.mk 2 [.tmp 4] (sub aqb 0)
def Uz:Ko [] f164:=eO
def YY:=Uz.1
def ac8:=eE.mk 2 [.tmp 4,.tmp 5,.tmp 6] (sub YY 0)
abbrev aam:=sub YY 7
abbrev aie:=sub YY 27
def Vt:Ko [5] f232:=eO
def afk:=Vt.1
def SX:=eE.mk 2 [.tmp 4] (sub afk 0)
def aoe:sS [5] f232 SX:=fp
abbrev aaC:=sub afk 9
def Vu:Ko [] f233:=eO
def akL:=Vu.1
def adP:=eE.mk 2 [.tmp 3] (sub akL 0)
def Vv:Ko [5] f234:=eO
def afl:=Vv.1
def SY:=eE.mk 2 [.tmp 4] (sub afl 0)
def aof:sS [5] f234 SY:=fp
abbrev aaD:=sub afl 9
def Vw:Ko [] f235:=eO
def akM:=Vw.1
def adQ:=eE.mk 2 [.tmp 3] (sub akM 0)
def oo:=by
 have h:=f9P aj5 Uy.1 (f9P O4 Vs.1 (f9P Y3 VU.1 (f9P YY Uz.1 (f9P afk Vt.1 (f9P akL Vu.1 (f9P afl Vv.1 (fO akM Vw.1)))))));simp only[eO,Uy,Vs,VU,Uz,Vt,Vu,Vv,Vw,yQ,seval] at h;exact h
def ai3:=oo.1
def G2:=oo.2.1
def OL:=oo.2.2.1
def Yx:=oo.2.2.2.1
def YE:=oo.2.2.2.2.1
def apE:=oo.2.2.2.2.2.1
def YF:=oo.2.2.2.2.2.2.1
def apF:=oo.2.2.2.2.2.2.2
def UC:Ko [] f168:=eO
def aj8:=UC.1
def adb:=eE.mk 2 [.dQ 4 8,.tmp 5] (sub aj8 0)
def auk:Ko [] f57:=eO
def b57:=auk.1
def asO:=eE.mk 2 [.tmp 4] (sub b57 0)
def aul:Ko [] f58:=eO
def b58:=aul.1
def asP:=eE.mk 3 [.tmp 6] (sub b58 0)
def aum:Ko [] f59:=eO
def b59:=aum.1
def asQ:=eE.mk 2 [.tmp 4] (sub b59 0)
def auo:Ko [] f60:=eO
def b60:=auo.1
def asR:=eE.mk 2 [.tmp 4] (sub b60 0)
def aup:Ko [] f61:=eO
def b61:=aup.1
def asS:=eE.mk 2 [.tmp 4] (sub b61 0)
def ai5:=by
 have h:=fO aj8 UC.1;simp only[eO,UC,yQ,seval] at h;exact h
end Go.Proofs.YteoamaffclmdbaaGreatDoor
set_option maxRecDepth 100000
namespace Go.Proofs.YteoamaffclmdbaaGreatDoor
open Go Go.Abs
def agw:Ko [] f24:=eO
def b24:=agw.1
def al7:=eE.mk 0 [.dQ 0 10] (sub b24 0)
def agU:Ko [] f53:=eO
def b53:=agU.1
def amr:=eE.mk 2 [] (sub b53 0)
def TL:Ko [] f110:=eO
def ajA:=TL.1
def acI:=eE.mk 1 [] (sub ajA 0)
def Ug:Ko [] f145:=eO
def ajS:=Ug.1
def ac0:=eE.mk 2 [.dQ 4 6] (sub ajS 0)
def UN:Ko [] f179:=eO
def akd:=UN.1
def adj:=eE.mk 2 [.dQ 4 6] (sub akd 0)
def Uh:Ko [] f146:=eO
def ajT:=Uh.1
def ac1:=eE.mk 2 [.tmp 4,.tmp 5] (sub ajT 0)
def Uj:Ko [1000189] f148:=eO
def O1:=Uj.1
def SG:=eE.mk 3 [] (sub O1 0)
def anU:sS [1000189] f148 SG:=fp
abbrev aai:=sub O1 7
abbrev NI:=sub O1 32
abbrev N6:=sub O1 46
abbrev abL:=sub O1 23
def UW:Ko [] f186:=eO
def akj:=UW.1
def adm:=eE.mk 2 [.tmp 3] (sub akj 0)
def pF:=by
 have h:=f9P b24 agw.1 (f9P b53 agU.1 (f9P ajA TL.1 (f9P ajS Ug.1 (f9P akd UN.1 (f9P ajT Uh.1 (f9P O1 Uj.1 (fO akj UW.1)))))));simp only[eO,agw,agU,TL,Ug,UN,Uh,Uj,UW,yQ,seval] at h;exact h
def E24:=pF.1
def E53:=pF.2.1
def aez:=pF.2.2.1
def aeE:=pF.2.2.2.1
def apn:=pF.2.2.2.2.1
def Yv:=pF.2.2.2.2.2.1
def tq:=pF.2.2.2.2.2.2.1
def apo:=pF.2.2.2.2.2.2.2
def UY:Ko [] f188:=eO
def akl:=UY.1
def SR:=eE.mk 2 [.tmp 4] (sub akl 0)
def aoa:sS [] f188 SR:=fp
def UZ:Ko [] f190:=eO
def akm:=UZ.1
def ado:=eE.mk 2 [.tmp 3] (sub akm 0)
def U1:Ko [] f192:=eO
def O3:=U1.1
def adq:=eE.mk 2 [.tmp 4] (sub O3 0)
abbrev aax:=sub O3 31
abbrev abO:=sub O3 55
abbrev NJ:=sub O3 9
abbrev N8:=sub O3 56
def Ur:Ko [] f155:=eO
def ajZ:=Ur.1
def ac7:=eE.mk 1 [.tmp 2] (sub ajZ 0)
def ahk:Ko [] f93:=eO
def b93:=ahk.1
def afX:=eE.mk 1 [] (sub b93 0)
def ahl:Ko [] f94:=eO
def b94:=ahl.1
def S3:=eE.mk 1 [] (sub b94 0)
def ahm:Ko [] f95:=eO
def b95:=ahm.1
def PG:=eE.mk 1 [] (sub b95 0)
def ahn:Ko [] f96:=eO
def b96:=ahn.1
def S4:=eE.mk 1 [] (sub b96 0)
def pG:=by
 have h:=f9P akl UY.1 (f9P akm UZ.1 (f9P O3 U1.1 (f9P ajZ Ur.1 (f9P b93 ahk.1 (f9P b94 ahl.1 (f9P b95 ahm.1 (fO b96 ahn.1)))))));simp only[eO,UY,UZ,U1,Ur,ahk,ahl,ahm,ahn,yQ,seval] at h;exact h
def apq:=pG.1
def apr:=pG.2.1
def Dd:=pG.2.2.1
def apk:=pG.2.2.2.1
def E93:=pG.2.2.2.2.1
def E94:=pG.2.2.2.2.2.1
def E95:=pG.2.2.2.2.2.2.1
def E96:=pG.2.2.2.2.2.2.2
def aho:Ko [] f97:=eO
def b97:=aho.1
def LP:=eE.mk 1 [] (sub b97 0)
def ahp:Ko [] f98:=eO
def b98:=ahp.1
def ZC:=eE.mk 1 [] (sub b98 0)
def Uq:Ko [3] f154:=eO
def YX:=Uq.1
def SH:=eE.mk 1 [.tmp 2] (sub YX 0)
def anW:sS [3] f154 SH:=fp
abbrev aaj:=sub YX 9
abbrev aid:=sub YX 21
def ahq:Ko [] f99:=eO
def b99:=ahq.1
def afY:=eE.mk 1 [] (sub b99 0)
def TB:Ko [] f100:=eO
def ajr:=TB.1
def Nb:=eE.mk 1 [] (sub ajr 0)
def TC:Ko [] f101:=eO
def ajs:=TC.1
def Sx:=eE.mk 1 [] (sub ajs 0)
def Uv:Ko [] f159:=eO
def aj2:=Uv.1
def Nl:=eE.mk 1 [.dQ 2 6] (sub aj2 0)
def TD:Ko [] f102:=eO
def ajt:=TD.1
def Jc:=eE.mk 1 [] (sub ajt 0)
def oq:=by
 have h:=f9P b97 aho.1 (f9P b98 ahp.1 (f9P YX Uq.1 (f9P b99 ahq.1 (f9P ajr TB.1 (f9P ajs TC.1 (f9P aj2 Uv.1 (fO ajt TD.1)))))));simp only[eO,aho,ahp,Uq,ahq,TB,TC,Uv,TD,yQ,seval] at h;exact h
def E97:=oq.1
def E98:=oq.2.1
def Yw:=oq.2.2.1
def E99:=oq.2.2.2.1
def aew:=oq.2.2.2.2.1
def aiX:=oq.2.2.2.2.2.1
def aeI:=oq.2.2.2.2.2.2.1
def Yq:=oq.2.2.2.2.2.2.2
def Uw:Ko [] f161:=eO
def aj3:=Uw.1
def Nn:=eE.mk 3 [] (sub aj3 0)
def TE:Ko [1000160,2000161] f103:=eO
def aju:=TE.1
def yG:=eE.mk 1 [] (sub aju 0)
def anO:sS [1000160,2000161] f103 yG:=fp
def TF:Ko [] f104:=eO
def ajv:=TF.1
def Nc:=eE.mk 1 [] (sub ajv 0)
def TG:Ko [] f105:=eO
def ajw:=TG.1
def Jd:=eE.mk 1 [] (sub ajw 0)
def TH:Ko [] f106:=eO
def ajx:=TH.1
def Nd:=eE.mk 1 [] (sub ajx 0)
def TI:Ko [] f107:=eO
def O0:=TI.1
def Nf:=eE.mk 1 [] (sub O0 0)
abbrev Z1:=sub O0 15
abbrev Z2:=sub O0 34
abbrev abJ:=sub O0 52
abbrev abK:=sub O0 27
def UB:Ko [] f167:=eO
def aj7:=UB.1
def ada:=eE.mk 2 [.tmp 3] (sub aj7 0)
def TJ:Ko [] f108:=eO
def ajy:=TJ.1
def Sy:=eE.mk 1 [] (sub ajy 0)
def ot:=by
 have h:=f9P aj3 Uw.1 (f9P aju TE.1 (f9P ajv TF.1 (f9P ajw TG.1 (f9P ajx TH.1 (f9P O0 TI.1 (f9P aj7 UB.1 (fO ajy TJ.1)))))));simp only[eO,Uw,TE,TF,TG,TH,TI,UB,TJ,yQ,seval] at h;exact h
def aeJ:=ot.1
def H4:=ot.2.1
def aex:=ot.2.2.1
def Yr:=ot.2.2.2.1
def aey:=ot.2.2.2.2.1
def AK:=ot.2.2.2.2.2.1
def apl:=ot.2.2.2.2.2.2.1
def aiY:=ot.2.2.2.2.2.2.2
def TK:Ko [] f109:=eO
def ajz:=TK.1
def acH:=eE.mk 1 [] (sub ajz 0)
def agT:Ko [] f52:=eO
def b52:=agT.1
def amq:=eE.mk 0 [.tmp 0] (sub b52 0)
def agF:Ko [] f34:=eO
def b34:=agF.1
def amj:=eE.mk 2 [.tmp 4] (sub b34 0)
def agV:Ko [] f55:=eO
def b55:=agV.1
def ams:=eE.mk 2 [.tmp 4] (sub b55 0)
def uO:=by
 have h:=f9P ajz TK.1 (f9P b52 agT.1 (f9P b34 agF.1 (fO b55 agV.1)));simp only[eO,TK,agT,agF,agV,yQ,seval] at h;exact h
def apf:=uO.1
def E52:=uO.2.1
def E34:=uO.2.2.1
def E55:=uO.2.2.2
end Go.Proofs.YteoamaffclmdbaaGreatDoor
set_option maxRecDepth 100000
namespace Go.Proofs.YteoamaffclmdbaaGreatDoor
open Go Go.Abs
def VV:Ko [] f275:=eO
def ak7:=VV.1
def Nu:=eE.mk 2 [.tmp 4,.tmp 5] (sub ak7 0)
def VZ:Ko [] f302:=eO
def alb:=VZ.1
def Nv:=eE.mk 2 [.tmp 4,.tmp 5] (sub alb 0)
def V0:Ko [] f325:=eO
def alc:=V0.1
def Jk:=eE.mk 2 [.tmp 4] (sub alc 0)
def yT:=by
 have h:=And.intro (fO ak7 VV.1) (And.intro (fO alb VZ.1) (fO alc V0.1));simp only[eO,VV,VZ,V0,yQ,seval] at h;exact h
def apU:=yT.1
def YG:=yT.2.1
def YH:=yT.2.2
end Go.Proofs.YteoamaffclmdbaaGreatDoor
set_option maxRecDepth 100000
namespace Go.Proofs.YteoamaffclmdbaaGreatDoor
open Go Go.Abs
def agn:Ko [] f11:=eO
def b11:=agn.1
def afP:=eE.mk 1 [.tmp 2] (sub b11 0)
def agB:Ko [13000003] f30:=eO
def b30:=agB.1
def afQ:=eE.mk 1 [.tmp 2] (sub b30 0)
def auy:sS [13000003] f30 afQ:=fp
def agG:Ko [] f35:=eO
def b35:=agG.1
def amk:=eE.mk 2 [.tmp 4] (sub b35 0)
def agp:Ko [5000037,6000016,12000074] f15:=eO
def b15:=agp.1
def LL:=eE.mk 2 [.tmp 4,.tmp 5] (sub b15 0)
def auu:sS [5000037,6000016,12000074] f15 LL:=fp
def agC:Ko [11000006,12000077,15000088] f31:=eO
def KD:=agC.1
def afR:=eE.mk 9 [.tmp 11] (sub KD 0)
def auz:sS [11000006,12000077,15000088] f31 afR:=fp
def agE:Ko [] f33:=eO
def b33:=agE.1
def ami:=eE.mk 2 [.tmp 3] (sub b33 0)
def agr:Ko [] f18:=eO
def b18:=agr.1
def alY:=eE.mk 2 [.tmp 4] (sub b18 0)
def agD:Ko [] f32:=eO
def b32:=agD.1
def amh:=eE.mk 2 [.tmp 4] (sub b32 0)
def pH:=by
 have h:=f9P b11 agn.1 (f9P b30 agB.1 (f9P b35 agG.1 (f9P b15 agp.1 (f9P KD agC.1 (f9P b33 agE.1 (f9P b18 agr.1 (fO b32 agD.1)))))));simp only[eO,agn,agB,agG,agp,agC,agE,agr,agD,yQ,seval] at h;exact h
def E11:=pH.1
def E30:=pH.2.1
def E35:=pH.2.2.1
def Rg:=pH.2.2.2.1
def ON:=pH.2.2.2.2.1
def E33:=pH.2.2.2.2.2.1
def E18:=pH.2.2.2.2.2.2.1
def E32:=pH.2.2.2.2.2.2.2
def auj:Ko [] f54:=eO
def b54:=auj.1
def asN:=eE.mk 2 [.tmp 4] (sub b54 0)
def auq:Ko [] f62:=eO
def b62:=auq.1
def asT:=eE.mk 2 [.tmp 4] (sub b62 0)
def aur:Ko [] f63:=eO
def b63:=aur.1
def asU:=eE.mk 2 [.tmp 4] (sub b63 0)
end Go.Proofs.YteoamaffclmdbaaGreatDoor
set_option maxRecDepth 100000
namespace Go.Proofs.YteoamaffclmdbaaGreatDoor
open Go Go.Abs
def agm:Ko [] f10:=eO
def b10:=agm.1
def alT:=eE.mk 2 [.tmp 4] (sub b10 0)
def aug:Ko [13000008,5000019,5000020,5000021] f14:=eO
def b14:=aug.1
def alW:=eE.mk 3 [.tmp 6,.dQ 7 10] (sub b14 0)
def aut:sS [13000008,5000019,5000020,5000021] f14 alW:=fp
def ags:Ko [13000005] f20:=eO
def b20:=ags.1
def LM:=eE.mk 2 [.tmp 4] (sub b20 0)
def auw:sS [13000005] f20 LM:=fp
def agu:Ko [] f22:=eO
def b22:=agu.1
def al5:=eE.mk 2 [.dQ 4 17] (sub b22 0)
def agv:Ko [] f23:=eO
def b23:=agv.1
def al6:=eE.mk 2 [.dQ 4 17] (sub b23 0)
def auh:Ko [5000018] f19:=eO
def b19:=auh.1
def alZ:=eE.mk 3 [.tmp 6] (sub b19 0)
def auv:sS [5000018] f19 alZ:=fp
def aui:Ko [] f37:=eO
def b37:=aui.1
def asM:=eE.mk 2 [.tmp 4] (sub b37 0)
def agq:Ko [] f17:=eO
def b17:=agq.1
def alX:=eE.mk 2 [.tmp 4] (sub b17 0)
def ko9:Ko [] f9:=eO
def b9:=ko9.1
def fn9:=eE.mk 0 [.tmp 0] (sub b9 0)
def ko4:Ko [1000014,14000006007] f4:=eO
def b4:=ko4.1
def fn4:=eE.mk 2 [.tmp 4] (sub b4 0)
def ok4:sS [1000014,14000006007] f4 fn4:=fp
def ko5:Ko [1000014,2000018,14000010011] f5:=eO
def b5:=ko5.1
def fn5:=eE.mk 4 [.tmp 8] (sub b5 0)
def ok5:sS [1000014,2000018,14000010011] f5 fn5:=fp
def ko7:Ko [69,1000014,14000010011] f7:=eO
def b7:=ko7.1
def fn7:=eE.mk 4 [.tmp 8] (sub b7 0)
def ok7:sS [69,1000014,14000010011] f7 fn7:=fp
def ko8:Ko [1000014,13000091,14000010011,14000016015] f8:=eO
def b8:=ko8.1
def fn8:=eE.mk 4 [.tmp 8] (sub b8 0)
def ok8:sS [1000014,13000091,14000010011,14000016015] f8 fn8:=fp
def ko6:Ko [1000020,1000015,14000019011] f6:=eO
def b6:=ko6.1
def fn6:=eE.mk 4 [.tmp 8] (sub b6 0)
def ok6:sS [1000020,1000015,14000019011] f6 fn6:=fp
def qN:=by
 have h:=f9P b10 agm.1 (f9P b20 ags.1 (f9P b22 agu.1 (f9P b23 agv.1 (f9P b17 agq.1 (f9P b9 ko9.1 (fO b6 ko6.1))))));simp only[eO,agm,ags,agu,agv,agq,ko9,ko6,yQ,seval] at h;exact h
def E10:=qN.1
def E20:=qN.2.1
def E22:=qN.2.2.1
def E23:=qN.2.2.2.1
def E17:=qN.2.2.2.2.1
def E9:=qN.2.2.2.2.2.1
def E6:=qN.2.2.2.2.2.2
end Go.Proofs.YteoamaffclmdbaaGreatDoor
set_option maxRecDepth 100000
namespace Go.Proofs.YteoamaffclmdbaaGreatDoor
open Go Go.Abs
def agx:Ko [] f25:=eO
def b25:=agx.1
def al9:=eE.mk 1 [.tmp 2] (sub b25 0)
def agy:Ko [] f26:=eO
def b26:=agy.1
def ama:=eE.mk 1 [.tmp 2] (sub b26 0)
def ago:Ko [] f13:=eO
def b13:=ago.1
def Zz:=eE.mk 1 [.dQ 2 10] (sub b13 0)
def yU:=by
 have h:=And.intro (fO b25 agx.1) (And.intro (fO b26 agy.1) (fO b13 ago.1));simp only[eO,agx,agy,ago,yQ,seval] at h;exact h
def E25:=yU.1
def E26:=yU.2.1
def E13:=yU.2.2
end Go.Proofs.YteoamaffclmdbaaGreatDoor
set_option maxRecDepth 100000
namespace Go.Proofs.YteoamaffclmdbaaGreatDoor
open Go Go.Abs
def T4:Ko [] f130:=eO
def afd:=T4.1
def acU:=eE.mk 2 [.tmp 4] (sub afd 0)
abbrev aae:=sub afd 7
def ag5:Ko [] f74:=eO
def b74:=ag5.1
def amA:=eE.mk 2 [.dQ 4 6,.tmp 5] (sub b74 0)
def TX:Ko [] f123:=eO
def ajG:=TX.1
def acN:=eE.mk 2 [.dQ 4 6,.tmp 5] (sub ajG 0)
def TZ:Ko [] f125:=eO
def ae9:=TZ.1
def acP:=eE.mk 2 [.tmp 4] (sub ae9 0)
abbrev aaa:=sub ae9 7
def ag3:Ko [] f72:=eO
def b72:=ag3.1
def amy:=eE.mk 3 [.tmp 6,.tmp 7] (sub b72 0)
def TT:Ko [5] f119:=eO
def ae6:=TT.1
def SC:=eE.mk 2 [.dQ 4 3] (sub ae6 0)
def anQ:sS [5] f119 SC:=fp
abbrev Z4:=sub ae6 11
def UJ:Ko [5] f175:=eO
def afg:=UJ.1
def SL:=eE.mk 2 [.dQ 4 3] (sub afg 0)
def an4:sS [5] f175 SL:=fp
abbrev aar:=sub afg 9
def TW:Ko [9] f122:=eO
def ae7:=TW.1
def SD:=eE.mk 3 [.dQ 6 3] (sub ae7 0)
def anS:sS [9] f122 SD:=fp
abbrev Z8:=sub ae7 11
def pI:=by
 have h:=f9P afd T4.1 (f9P b74 ag5.1 (f9P ajG TX.1 (f9P ae9 TZ.1 (f9P b72 ag3.1 (f9P ae6 TT.1 (f9P afg UJ.1 (fO ae7 TW.1)))))));simp only[eO,T4,ag5,TX,TZ,ag3,TT,UJ,TW,yQ,seval] at h;exact h
def KJ:=pI.1
def E74:=pI.2.1
def Yt:=pI.2.2.1
def KH:=pI.2.2.2.1
def E72:=pI.2.2.2.2.1
def KE:=pI.2.2.2.2.2.1
def Ri:=pI.2.2.2.2.2.2.1
def KG:=pI.2.2.2.2.2.2.2
def TR:Ko [12] f118:=eO
def ae5:=TR.1
def SA:=eE.mk 4 [.dQ 8 3] (sub ae5 0)
def anP:sS [12] f118 SA:=fp
abbrev Z3:=sub ae5 15
def T2:Ko [] f128:=eO
def afb:=T2.1
def acS:=eE.mk 2 [.tmp 4] (sub afb 0)
abbrev aac:=sub afb 7
def T0:Ko [] f126:=eO
def afa:=T0.1
def acQ:=eE.mk 3 [.tmp 6] (sub afa 0)
abbrev aab:=sub afa 7
def UF:Ko [] f171:=eO
def aj9:=UF.1
def adg:=eE.mk 2 [.tmp 4] (sub aj9 0)
def TQ:Ko [] f117:=eO
def ajE:=TQ.1
def acL:=eE.mk 3 [.tmp 6] (sub ajE 0)
def ag1:Ko [] f70:=eO
def b70:=ag1.1
def amw:=eE.mk 4 [.dQ 8 3,.tmp 9,.tmp 10] (sub b70 0)
def agZ:Ko [] f68:=eO
def b68:=agZ.1
def amv:=eE.mk 4 [.dQ 8 3,.tmp 9] (sub b68 0)
def TV:Ko [] f121:=eO
def ajF:=TV.1
def acM:=eE.mk 2 [.dQ 4 3] (sub ajF 0)
def pJ:=by
 have h:=f9P ae5 TR.1 (f9P afb T2.1 (f9P afa T0.1 (f9P aj9 UF.1 (f9P ajE TQ.1 (f9P b70 ag1.1 (f9P b68 agZ.1 (fO ajF TV.1)))))));simp only[eO,TR,T2,T0,UF,TQ,ag1,agZ,TV,yQ,seval] at h;exact h
def GX:=pJ.1
def KI:=pJ.2.1
def GY:=pJ.2.2.1
def ai6:=pJ.2.2.2.1
def GW:=pJ.2.2.2.2.1
def E70:=pJ.2.2.2.2.2.1
def E68:=pJ.2.2.2.2.2.2.1
def ai0:=pJ.2.2.2.2.2.2.2
def ag2:Ko [] f71:=eO
def b71:=ag2.1
def amx:=eE.mk 3 [.dQ 6 3,.tmp 7,.tmp 8] (sub b71 0)
def T1:Ko [] f127:=eO
def ajH:=T1.1
def acR:=eE.mk 3 [.tmp 6] (sub ajH 0)
def T3:Ko [] f129:=eO
def afc:=T3.1
def acT:=eE.mk 3 [.tmp 6] (sub afc 0)
abbrev aad:=sub afc 11
def ag4:Ko [] f73:=eO
def b73:=ag4.1
def amz:=eE.mk 5 [.dQ 10 3,.tmp 11,.tmp 12] (sub b73 0)
def ahe:Ko [27] f83:=eO
def b83:=ahe.1
def afW:=eE.mk 3 [.dQ 6 3,.tmp 7] (sub b83 0)
def auK:sS [27] f83 afW:=fp
def Ub:Ko [] f137:=eO
def ajO:=Ub.1
def acZ:=eE.mk 2 [.dQ 4 3,.tmp 5] (sub ajO 0)
def agK:Ko [] f41:=eO
def b41:=agK.1
def amo:=eE.mk 0 [.dQ 0 3] (sub b41 0)
def TY:Ko [] f124:=eO
def ae8:=TY.1
def acO:=eE.mk 1 [.tmp 2] (sub ae8 0)
abbrev Z9:=sub ae8 15
def ou:=by
 have h:=f9P b71 ag2.1 (f9P ajH T1.1 (f9P afc T3.1 (f9P b73 ag4.1 (f9P b83 ahe.1 (f9P ajO Ub.1 (f9P b41 agK.1 (fO ae8 TY.1)))))));simp only[eO,ag2,T1,T3,ag4,ahe,Ub,agK,TY,yQ,seval] at h;exact h
def E71:=ou.1
def ai1:=ou.2.1
def Rc:=ou.2.2.1
def Rm:=ou.2.2.2.1
def E83:=ou.2.2.2.2.1
def ai2:=ou.2.2.2.2.2.1
def E41:=ou.2.2.2.2.2.2.1
def H5:=ou.2.2.2.2.2.2.2
end Go.Proofs.YteoamaffclmdbaaGreatDoor
set_option maxRecDepth 100000
namespace Go.Proofs.YteoamaffclmdbaaGreatDoor
open Go Go.Abs
def ahg:Ko [7] f85:=eO
def b85:=ahg.1
def PF:=eE.mk 1 [.tmp 2,.tmp 3] (sub b85 0)
def auM:sS [7] f85 PF:=fp
abbrev ahH:=sub b85 27
def UE:Ko [] f170:=eO
def aff:=UE.1
def adf:=eE.mk 1 [.tmp 2] (sub aff 0)
abbrev aao:=sub aff 17
def agR:Ko [] f48:=eO
def b48:=agR.1
def ZA:=eE.mk 3 [.dQ 6 3,.tmp 7] (sub b48 0)
def ahi:Ko [] f87:=eO
def b87:=ahi.1
def amC:=eE.mk 2 [.tmp 4] (sub b87 0)
def ahj:Ko [] f88:=eO
def b88:=ahj.1
def amD:=eE.mk 2 [.tmp 4] (sub b88 0)
def agX:Ko [] f66:=eO
def b66:=agX.1
def amu:=eE.mk 2 [.tmp 4,.tmp 5] (sub b66 0)
def ag7:Ko [13] f76:=eO
def b76:=ag7.1
def Hm:=eE.mk 4 [.tmp 8,.tmp 9,.tmp 10] (sub b76 0)
def auE:sS [13] f76 Hm:=fp
abbrev ahC:=sub b76 32
abbrev ahD:=sub b76 24
def ag8:Ko [92] f77:=eO
def b77:=ag8.1
def afU:=eE.mk 5 [.tmp 10,.tmp 11] (sub b77 0)
def auF:sS [92] f77 afU:=fp
abbrev ahE:=sub b77 49
def pL:=by
 have h:=f9P b85 ahg.1 (f9P aff UE.1 (f9P b48 agR.1 (f9P b87 ahi.1 (f9P b88 ahj.1 (f9P b66 agX.1 (f9P b76 ag7.1 (fO b77 ag8.1)))))));simp only[eO,ahg,UE,agR,ahi,ahj,agX,ag7,ag8,yQ,seval] at h;exact h
def Q4:=pL.1
def Yy:=pL.2.1
def E48:=pL.2.2.1
def E87:=pL.2.2.2.1
def E88:=pL.2.2.2.2.1
def E66:=pL.2.2.2.2.2.1
def KO:=pL.2.2.2.2.2.2.1
def YI:=pL.2.2.2.2.2.2.2
def ag9:Ko [17] f78:=eO
def b78:=ag9.1
def Fi:=eE.mk 5 [.tmp 10,.tmp 11] (sub b78 0)
def auG:sS [17] f78 Fi:=fp
abbrev ahF:=sub b78 49
def ahb:Ko [29] f80:=eO
def b80:=ahb.1
def PD:=eE.mk 4 [.dQ 8 3,.tmp 9,.tmp 10] (sub b80 0)
def auI:sS [29] f80 PD:=fp
def ahc:Ko [] f81:=eO
def b81:=ahc.1
def afV:=eE.mk 3 [.tmp 6,.tmp 7] (sub b81 0)
def Ue:Ko [] f140:=eO
def ajQ:=Ue.1
def SE:=eE.mk 2 [.tmp 4] (sub ajQ 0)
def Uf:Ko [] f141:=eO
def ajR:=Uf.1
def SF:=eE.mk 2 [.tmp 4] (sub ajR 0)
def TP:Ko [] f116:=eO
def ajD:=TP.1
def Ng:=eE.mk 1 [.tmp 2,.tmp 3,.tmp 4] (sub ajD 0)
def T5:Ko [] f131:=eO
def ajI:=T5.1
def acV:=eE.mk 2 [.tmp 4] (sub ajI 0)
def T6:Ko [] f132:=eO
def ajJ:=T6.1
def acW:=eE.mk 3 [.tmp 6] (sub ajJ 0)
def pM:=by
 have h:=f9P b78 ag9.1 (f9P b80 ahb.1 (f9P b81 ahc.1 (f9P ajQ Ue.1 (f9P ajR Uf.1 (f9P ajD TP.1 (f9P ajI T5.1 (fO ajJ T6.1)))))));simp only[eO,ag9,ahb,ahc,Ue,Uf,TP,T5,T6,yQ,seval] at h;exact h
def Ro:=pM.1
def E80:=pM.2.1
def E81:=pM.2.2.1
def Re:=pM.2.2.2.1
def Rf:=pM.2.2.2.2.1
def aeA:=pM.2.2.2.2.2.1
def api:=pM.2.2.2.2.2.2.1
def aeB:=pM.2.2.2.2.2.2.2
def T7:Ko [] f133:=eO
def ajK:=T7.1
def acX:=eE.mk 2 [.tmp 4] (sub ajK 0)
def T8:Ko [] f134:=eO
def ajL:=T8.1
def Nh:=eE.mk 2 [.tmp 4,.tmp 5] (sub ajL 0)
def T9:Ko [] f135:=eO
def ajM:=T9.1
def Ni:=eE.mk 2 [.tmp 4] (sub ajM 0)
def Ua:Ko [] f136:=eO
def ajN:=Ua.1
def acY:=eE.mk 2 [.tmp 4] (sub ajN 0)
def UK:Ko [5000014] f176:=eO
def RO:=UK.1
def Jh:=eE.mk 2 [.tmp 4] (sub RO 0)
def an5:sS [5000014] f176 Jh:=fp
abbrev aas:=sub RO 42
abbrev aat:=sub RO 24
abbrev aau:=sub RO 9
def Vx:Ko [] f236:=eO
def akN:=Vx.1
def Nr:=eE.mk 3 [.tmp 6] (sub akN 0)
def Vy:Ko [] f237:=eO
def akO:=Vy.1
def Ns:=eE.mk 2 [.tmp 4] (sub akO 0)
def pK:=by
 have h:=f9P ajK T7.1 (f9P ajL T8.1 (f9P ajM T9.1 (f9P ajN Ua.1 (f9P RO UK.1 (f9P akN Vx.1 (fO akO Vy.1))))));simp only[eO,T7,T8,T9,Ua,UK,Vx,Vy,yQ,seval] at h;exact h
def apj:=pK.1
def aeC:=pK.2.1
def aeD:=pK.2.2.1
def Yu:=pK.2.2.2.1
def CI:=pK.2.2.2.2.1
def aeR:=pK.2.2.2.2.2.1
def aeS:=pK.2.2.2.2.2.2
end Go.Proofs.YteoamaffclmdbaaGreatDoor
set_option maxRecDepth 100000
namespace Go.Proofs.YteoamaffclmdbaaGreatDoor
open Go Go.Abs
def agt:Ko [] f21:=eO
def b21:=agt.1
def al3:=eE.mk 2 [.tmp 4] (sub b21 0)
def agz:Ko [] f27:=eO
def b27:=agz.1
def amd:=eE.mk 0 [.dQ 0 10] (sub b27 0)
def agA:Ko [] f28:=eO
def b28:=agA.1
def uK:=eE.mk 2 [.dQ 4 10,.dQ 5 7] (sub b28 0)
def agJ:Ko [] f40:=eO
def b40:=agJ.1
def amn:=eE.mk 1 [.dQ 2 8] (sub b40 0)
def agL:Ko [] f42:=eO
def b42:=agL.1
def amp:=eE.mk 1 [.dQ 2 7] (sub b42 0)
def agM:Ko [] f43:=eO
def b43:=agM.1
def Hl:=eE.mk 2 [.dQ 4 10,.dQ 5 7] (sub b43 0)
def agN:Ko [14] f44:=eO
def b44:=agN.1
def zU:=eE.mk 2 [.dQ 4 10,.dQ 5 7] (sub b44 0)
def auA:sS [14] f44 zU:=fp
abbrev aht:=sub b44 52
def agO:Ko [] f45:=eO
def b45:=agO.1
def CR:=eE.mk 2 [.dQ 4 10,.dQ 5 7] (sub b45 0)
def pN:=by
 have h:=f9P b21 agt.1 (f9P b27 agz.1 (f9P b28 agA.1 (f9P b40 agJ.1 (f9P b42 agL.1 (f9P b43 agM.1 (f9P b44 agN.1 (fO b45 agO.1)))))));simp only[eO,agt,agz,agA,agJ,agL,agM,agN,agO,yQ,seval] at h;exact h
def Q2:=pN.1
def E27:=pN.2.1
def Fb:=pN.2.2.1
def E40:=pN.2.2.2.1
def E42:=pN.2.2.2.2.1
def E43:=pN.2.2.2.2.2.1
def OO:=pN.2.2.2.2.2.2.1
def Rl:=pN.2.2.2.2.2.2.2
def agP:Ko [17] f46:=eO
def b46:=agP.1
def LN:=eE.mk 2 [.dQ 4 7] (sub b46 0)
def auB:sS [17] f46 LN:=fp
abbrev ahu:=sub b46 54
abbrev ahv:=sub b46 31
abbrev ahw:=sub b46 87
def agQ:Ko [10,41] f47:=eO
def b47:=agQ.1
def S1:=eE.mk 2 [.dQ 4 8,.tmp 5] (sub b47 0)
def auC:sS [10,41] f47 S1:=fp
abbrev ahx:=sub b47 9
abbrev ahy:=sub b47 38
def agS:Ko [23,74] f49:=eO
def b49:=agS.1
def PC:=eE.mk 2 [.dQ 4 8] (sub b49 0)
def auD:sS [23,74] f49 PC:=fp
abbrev ahz:=sub b49 19
abbrev ahA:=sub b49 65
abbrev ahB:=sub b49 50
def agY:Ko [] f67:=eO
def b67:=agY.1
def afS:=eE.mk 2 [.tmp 4,.tmp 5,.tmp 6] (sub b67 0)
def ag0:Ko [] f69:=eO
def b69:=ag0.1
def ZB:=eE.mk 5 [.dQ 10 10,.dQ 11 7] (sub b69 0)
def ag6:Ko [] f75:=eO
def b75:=ag6.1
def afT:=eE.mk 1 [.tmp 2] (sub b75 0)
def aha:Ko [35] f79:=eO
def b79:=aha.1
def LO:=eE.mk 2 [.dQ 4 8,.tmp 5,.tmp 6] (sub b79 0)
def auH:sS [35] f79 LO:=fp
def ahd:Ko [7000011] f82:=eO
def b82:=ahd.1
def PE:=eE.mk 3 [.tmp 6] (sub b82 0)
def auJ:sS [7000011] f82 PE:=fp
abbrev L2:=sub b82 15
abbrev ahG:=sub b82 28
def pO:=by
 have h:=f9P b46 agP.1 (f9P b47 agQ.1 (f9P b49 agS.1 (f9P b67 agY.1 (f9P b69 ag0.1 (f9P b75 ag6.1 (f9P b79 aha.1 (fO b82 ahd.1)))))));simp only[eO,agP,agQ,agS,agY,ag0,ag6,aha,ahd,yQ,seval] at h;exact h
def KN:=pO.1
def E47:=pO.2.1
def Q3:=pO.2.2.1
def E67:=pO.2.2.2.1
def E69:=pO.2.2.2.2.1
def E75:=pO.2.2.2.2.2.1
def E79:=pO.2.2.2.2.2.2.1
def E82:=pO.2.2.2.2.2.2.2
def ahf:Ko [47] f84:=eO
def b84:=ahf.1
def S2:=eE.mk 2 [.tmp 4,.tmp 5,.tmp 6] (sub b84 0)
def auL:sS [47] f84 S2:=fp
def ahh:Ko [] f86:=eO
def b86:=ahh.1
def amB:=eE.mk 3 [.tmp 6] (sub b86 0)
def TU:Ko [8,14] f120:=eO
def RM:=TU.1
def Je:=eE.mk 3 [.dQ 6 10,.tmp 7] (sub RM 0)
def anR:sS [8,14] f120 Je:=fp
abbrev Z5:=sub RM 9
abbrev Z6:=sub RM 30
abbrev Z7:=sub RM 49
def Uc:Ko [] f138:=eO
def ajP:=Uc.1
def Nj:=eE.mk 2 [.tmp 4] (sub ajP 0)
def Ud:Ko [20,5000016] f139:=eO
def RN:=Ud.1
def Jf:=eE.mk 2 [.tmp 4,.tmp 5] (sub RN 0)
def anT:sS [20,5000016] f139 Jf:=fp
abbrev aaf:=sub RN 36
abbrev aag:=sub RN 56
abbrev aah:=sub RN 13
def UG:Ko [] f172:=eO
def aka:=UG.1
def adh:=eE.mk 2 [.tmp 4] (sub aka 0)
def UH:Ko [] f173:=eO
def Y0:=UH.1
def Np:=eE.mk 2 [.tmp 4] (sub Y0 0)
abbrev aap:=sub Y0 41
abbrev aaq:=sub Y0 27
def UI:Ko [] f174:=eO
def akb:=UI.1
def Nq:=eE.mk 2 [.tmp 4] (sub akb 0)
def ow:=by
 have h:=f9P b84 ahf.1 (f9P b86 ahh.1 (f9P RM TU.1 (f9P ajP Uc.1 (f9P RN Ud.1 (f9P aka UG.1 (f9P Y0 UH.1 (fO akb UI.1)))))));simp only[eO,ahf,ahh,TU,Uc,Ud,UG,UH,UI,yQ,seval] at h;exact h
def E84:=ow.1
def E86:=ow.2.1
def E8:=ow.2.2.1
def OC:=ow.2.2.2.1
def AL:=ow.2.2.2.2.1
def aeK:=ow.2.2.2.2.2.1
def Fa:=ow.2.2.2.2.2.2.1
def aeL:=ow.2.2.2.2.2.2.2
def UL:Ko [23] f177:=eO
def akc:=UL.1
def Ji:=eE.mk 2 [.tmp 4] (sub akc 0)
def an6:sS [23] f177 Ji:=fp
def Yz:=by
 have h:=fO akc UL.1;simp only[eO,UL,yQ,seval] at h;exact h
end Go.Proofs.YteoamaffclmdbaaGreatDoor
namespace Go.Abs
section
open Go Go.RowKit
theorem fe{α:Type}:∀(l:List α)(i:Nat),nth l i=l[i]?
 | [],_=>by rfl
 |_::_,0=>by rfl
 |_::l,n+1=>by simp[nth,fe l n]
theorem fH{α:Type}:∀(l:List α)(i:Nat)(x:α),jo l i x=l.set i x
 | [],_,_=>by rfl
 |_::_,0,_=>by rfl
 |_::l,n+1,x=>by simp[jo,fH l n]
def gH(j:J)(id:Nat)(ob:Option Nat):J:=⟨fun i=>if i=id then ob else j i,j.X⟩
structure Quiet(w w':World):Prop where
 size:w.heap.size<=w'.heap.size
 os:w'.os=w.os
 tape:w'.tape=w.tape
 output:w'.output=w.output
theorem lt_of_block{w:World}{b:Nat}{o:Obj}(h:w.heap[b]?=some o):b<w.heap.size:=by
 grind
theorem aN{α:Type}{l:List α}{i:Nat}{x:α}(h:l[i]?=some x):i<l.length:=jO
section
variable {j:J} {M:aC} {w w':World}
theorem qI{j':J}{M':aC}(hr:Rel j M w)(ext:Ext j M w j' M' w'){i sz ver:Nat}{xs:List ag}(h:M[i]?=some (.arr sz ver xs))(hj:j' i=j i)(hb:∀b,j i=some b->w'.heap[b]?=w.heap[b]?) :
  (xs=[]/\j' i=none)\/∃b vs t,j' i=some b/\w'.heap[b]?=some (.cells vs t (0,0))/\xs.length*sz<=vs.size/\(∀x,x∈xs->x.cells.length=sz) /\
  ∀(q:Nat)(x:ag)(k:Nat)(c:ag),xs[q]?=some x->x.cells[k]?=some c->∃v,vs[q*sz+k]?=some v/\fP w' (nM j' M' w') c v:=by
 rcases hr.arr i _ _ _ h with he|⟨b,vs,t,h1,h2,h3,h4,h5⟩
 ·grind
 refine .inr ⟨b,vs,t,hj.trans h1,(hb b h1).trans h2,h3,h4,fun q x k c hx hk=>?_⟩
 obtain⟨u,h6,h7⟩:=h5 q x k c hx hk;exact⟨u,h6,h7.mono ext.iv⟩
theorem Rel.w9(hr:Rel j M w){i sz ver b:Nat}{xs:List ag}(h:M[i]?=some (.arr sz ver xs))(hj:j i=some b):∃b vs t,j i=some b/\w.heap[b]?=some (.cells vs t (0,0))/\xs.length*sz<=vs.size/\(∀x,x∈xs->x.cells.length=sz) /\
  ∀(q:Nat)(x:ag)(k:Nat)(c:ag),xs[q]?=some x->x.cells[k]?=some c->∃v,vs[q*sz+k]?=some v/\fP w (nM j M w) c v:=by
 rcases hr.arr i _ _ _ h with ⟨_,he⟩|hh
 ·grind
 omega
def xW{bx:cV}{i:Nat}(h:i<M.length):(M++[bx])[i]?=M[i]?:=jO
def kh{bx:cV}:(M++[bx])[M.length]?=some bx:=dw
theorem Ext.push{ob:Option Nat}{bx:cV}(hob:∀b,ob=some b->w.heap.size<=b)(q:Quiet w w')(hb:∀b,b<w.heap.size->w'.heap[b]?=w.heap[b]?) :
  Ext j M w (gH j M.length ob) (M++[bx]) w' where
 len:=dw
 size:=q.size
 os:=q.os
 tape:=q.tape
 output:=q.output
 X:=rfl
 fix:=fun i bx h _=>by
  have hi:=aN h;exact⟨by simp[gH,gJ hi],bx,by rw[xW hi]; omega,rfl⟩
 tick:=fun i sz n h=>by
  have hi:=aN h;exact⟨n,av _,by rw[xW hi]; omega,fun _=>⟨by simp[gH,gJ hi],fun b vs t _ hv=>⟨vs,(hb b (lt_of_block hv)).trans hv,rfl⟩⟩⟩
 arr:=fun i sz v xs h=>by
  have hi:=aN h;exact .inr ⟨v,xs,by rw[xW hi]; omega,av _,fun _=>⟨by simp[gH,gJ hi],rfl,fun b vs t _ hv=>⟨vs,(hb b (lt_of_block hv)).trans hv,rfl⟩⟩⟩
 tags:=fun b0 vs0 t0 fr0 h=>⟨vs0,fr0,(hb b0 (lt_of_block h)).trans h,rfl⟩
 iv:=fun b off h=>by
  refine⟨⟨bw h.1 q.size,fun id hid hj=>?_,h.3⟩,World.cell?_of_block (hb b h.1)⟩
  by_cases he:id=M.length
  ·have:ob=some b:=by grind [gH]
   have:=hob b this;have:=h.1;omega
  ·have cQ:id<M.length:=jO;rw[xW cQ];exact h.2 id cQ (by grind [gH])
 tV:=fun b cQ h=>by
  grind [ob,gH]
theorem Rel.aow(hr:Rel j M w){ob:Option Nat}{bx:cV}(hob:∀b,ob=some b->w.heap.size<=b/\b<w'.heap.size)(q:Quiet w w')(hb:∀b,b<w.heap.size->w'.heap[b]?=w.heap[b]?)
  (hbox:bx.fixed=true->∃b,ob=some b/\(Ext j M w (gH j M.length ob) (M++[bx]) w'->Holds (gH j M.length ob) (M++[bx]) w' b bx))
  (htick:∀sz n b,bx = .tick sz n->ob=some b->∃vs t,w'.heap[b]?=some (.cells vs t (0,0)))
  (harr:∀sz ver xs,bx = .arr sz ver xs->(xs=[]/\ob=none)\/∃b vs t,ob=some b/\w'.heap[b]?=some (.cells vs t (0,0))/\xs.length*sz<=vs.size/\(∀x,x∈xs->x.cells.length=sz) /\
   ∀j' M',Ext j M w j' M' w'->∀(q:Nat)(x:ag)(k:Nat)(c:ag),xs[q]?=some x->x.cells[k]?=some c->∃v,vs[q*sz+k]?=some v/\fP w' (nM j' M' w') c v:=by intro _ _ _ h; cases h):Rel (gH j M.length ob) (M++[bx]) w':=by
 have ext:Ext j M w (gH j M.length ob) (M++[bx]) w':=Ext.push (fun b h=>(hob b h).1) q hb
 have up:∀i,i<M.length->gH j M.length ob i=j i:=fun i hi=>by simp[gH,gJ hi]
 have cas:∀i x,(M++[bx])[i]?=some x->(i<M.length/\M[i]?=some x)\/(i=M.length/\x=bx):=by
  grind
 refine⟨fun i i' b hi hi' h h'=>?_,fun i b hi h=>?_,fun i bx' h hf=>?_,fun i sz n b h hj=>?_,fun i sz ver xs h=>?_,fun i b hi h off hx=>?_,fun b off h=>bw (hr.zz b off h) q.size⟩
 ·simp only[aA,au,az] at hi hi'
  by_cases e:i=M.length<;>by_cases e':i'=M.length
  ·omega
  ·have h1:ob=some b:=by simpa[gH,e] using h
   rw[up i' aH] at h';have:=hr.lt i' b aH h';have:=(hob b h1).1;omega
  ·have h1:ob=some b:=by simpa[gH,e'] using h'
   rw[up i aH] at h;have:=hr.lt i b aH h;have:=(hob b h1).1;omega
  ·rw[up i aH] at h;rw[up i' aH] at h';exact hr.inj i i' b aH aH h h'
 ·simp only[aA,au,az] at hi
  by_cases e:i=M.length
  ·exact(hob b (by simpa[gH,e] using h)).2
  ·rw[up i aH] at h;exact bw (hr.lt i b aH h) q.size
 ·rcases cas i _ h with ⟨hi,h⟩|⟨rfl,hx⟩
  ·obtain⟨b,h1,h2⟩:=hr.fix i bx' h hf;exact⟨b,by rw[up i hi]; exact h1,h2.mono ext (hb b (hr.lt i b hi h1))⟩
  ·subst hx;obtain⟨b,h1,h2⟩:=hbox hf;exact⟨b,by simp[gH,h1],h2 ext⟩
 ·rcases cas i _ h with ⟨hi,h⟩|⟨rfl,hx⟩
  ·rw[up i hi] at hj;obtain⟨vs,t,h1⟩:=hr.tick i sz n b h hj;exact⟨vs,t,(hb b (lt_of_block h1)).trans h1⟩
  ·exact htick sz n b hx.symm (by simpa[gH] using hj)
 ·rcases cas i _ h with ⟨hi,h⟩|⟨rfl,hx⟩
  ·exact qI hr ext h (up i hi) fun b h1=>hb b (hr.lt i b hi h1)
  grind [gH]
 ·by_cases e:i=M.length
  ·have h1:=(hob b (by simpa[gH,e] using h)).1
   have h2:=hr.zz b off hx;omega
  ·exact hr.uM i b (by simp at hi; omega) (by rw[up i (by simp at hi; omega)] at h; exact h) off hx
def Rel.push(hr:Rel j M w){ob:Option Nat}{bx:cV}(hob:∀b,ob=some b->w.heap.size<=b/\b<w'.heap.size)(q:Quiet w w')(hb:∀b,b<w.heap.size->w'.heap[b]?=w.heap[b]?)
  (hbox:bx.fixed=true->∃b,ob=some b/\∀j' M',Ext j M w j' M' w'->Holds j' M' w' b bx)
  (htick:∀sz n b,bx = .tick sz n->ob=some b->∃vs t,w'.heap[b]?=some (.cells vs t (0,0)))
  (harr:∀sz ver xs,bx = .arr sz ver xs->(xs=[]/\ob=none)\/∃b vs t,ob=some b/\w'.heap[b]?=some (.cells vs t (0,0))/\xs.length*sz<=vs.size/\(∀x,x∈xs->x.cells.length=sz) /\
   ∀j' M',Ext j M w j' M' w'->∀(q:Nat)(x:ag)(k:Nat)(c:ag),xs[q]?=some x->x.cells[k]?=some c->∃v,vs[q*sz+k]?=some v/\fP w' (nM j' M' w') c v:=by intro _ _ _ h; cases h):Rel (gH j M.length ob) (M++[bx]) w' :=
 hr.aow hob q hb (fun hf=>(hbox hf).imp fun b h=>⟨h.1,fun hx=>h.2 _ _ hx⟩) htick harr
theorem ei{id:Nat}{bx:cV}(h:id<M.length):(M.set id bx)[id]?=some bx:=jO
def cX{id i:Nat}{bx:cV}(h:id≠i):(M.set id bx)[i]?=M[i]?:=jO
theorem Ext.store{id b:Nat}{bx bx':cV}(hM:M[id]?=some bx)(hfx:bx.fixed=true)(htag:bx'.tag=bx.tag)(hj:j id=some b)(hr:Rel j M w)(q:Quiet w w')
  (hb:∀b',b'≠b->b'<w.heap.size->w'.heap[b']?=w.heap[b']?) (htg:∀(vs:Array Value)(t:TypeId)(fr:Nat×Nat),w.heap[b]?=some (.cells vs t fr)->∃vs' fr',w'.heap[b]?=some (.cells vs' t fr')/\vs'.size=vs.size):Ext j M w j (M.set id bx') w' where
 len:=dw
 size:=q.size
 os:=q.os
 tape:=q.tape
 output:=q.output
 X:=rfl
 fix:=fun i b0 h _=>⟨rfl,by
  grind⟩
 tick:=fun i sz n h=>by
  have e:id≠i:=by rintro rfl; rw[hM] at h; cases h; cases hfx
  refine⟨n,av _,by rw[cX e]; omega,fun _=>⟨rfl,fun b' vs t hb' hv=>⟨vs,?_,rfl⟩⟩⟩
  refine(hb b' ?_ (lt_of_block hv)).trans hv;rintro rfl;exact e (hr.inj _ _ _ (aN hM) (aN h) hj hb')
 arr:=fun i sz v xs h=>by
  have e:id≠i:=by rintro rfl; rw[hM] at h; cases h; cases hfx
  refine .inr ⟨v,xs,by rw[cX e]; omega,av _,fun _=>⟨rfl,rfl,fun b' vs t hb' hv=>⟨vs,?_,rfl⟩⟩⟩
  refine(hb b' ?_ (lt_of_block hv)).trans hv;rintro rfl;exact e (hr.inj _ _ _ (aN hM) (aN h) hj hb')
 tags:=fun b0 vs0 t0 fr0 h=>by
  grind
 iv:=fun b0 off h=>by
  have hne:b0≠b:=by
   rintro rfl;obtain⟨sz,n,h1,_⟩:=h.2 id (aN hM) hj;rw[hM] at h1; cases h1; cases hfx
  refine⟨⟨bw h.1 q.size,fun i hi hji=>?_,h.3⟩,World.cell?_of_block (w:=w) (hb b0 hne h.1)⟩
  have e:id≠i:=jO;rw[cX e];exact h.2 i (by simpa using hi) hji
 tV:=fun b0 cQ h=>by
  grind
theorem Rel.store{id b:Nat}{bx bx':cV}(hM:M[id]?=some bx)(hfx:bx.fixed=true)(htag:bx'.tag=bx.tag)(hj:j id=some b)(hr:Rel j M w)(q:Quiet w w')
  (hb:∀b',b'≠b->b'<w.heap.size->w'.heap[b']?=w.heap[b']?) (htg:∀(vs:Array Value)(t:TypeId)(fr:Nat×Nat),w.heap[b]?=some (.cells vs t fr)->∃vs' fr',w'.heap[b]?=some (.cells vs' t fr')/\vs'.size=vs.size) (hh:∀j' M',Ext j M w j' M' w'->Holds j' M' w' b bx'):Rel j (M.set id bx') w':=by
 have ext  := Ext.store hM hfx htag hj hr q hb htg;refine⟨fun i i' b0 hi hi'=>hr.inj i i' b0 (by simpa using hi) (by simpa using hi'),fun i b0 hi h=>bw (hr.lt i b0 (by simpa using hi) h) q.size,fun i bx0 h hf=>?_,fun i sz n b0 h hji=>?_,fun i sz ver xs h=>?_,fun i b0 hi h=>hr.uM i b0 (by simpa using hi) h,fun b0 off h=>bw (hr.zz b0 off h) q.size⟩
 ·by_cases e:id=i
  ·grind
  ·rw[cX e] at h;obtain⟨b0,h1,h2⟩:=hr.fix i _ h hf;refine⟨b0,h1,h2.mono ext (hb b0 ?_ (hr.lt i b0 (aN h) h1))⟩;rintro rfl;exact e (hr.inj _ _ _ (aN hM) (aN h) hj h1)
 ·have e:id≠i:=by
   rintro rfl;rw[ei (aN hM)] at h;injection h with h
   have:=BO htag hfx;rw[h] at this; cases this
  rw[cX e] at h;obtain⟨vs,t0,h1⟩:=hr.tick i sz n b0 h hji;refine⟨vs,t0,(hb b0 ?_ (lt_of_block h1)).trans h1⟩;rintro rfl;exact e (hr.inj _ _ _ (aN hM) (aN h) hj hji)
 ·have e:id≠i:=by
   rintro rfl;rw[ei (aN hM)] at h;injection h with h
   have:=BO htag hfx;rw[h] at this; cases this
  rw[cX e] at h;refine qI hr ext h rfl fun b0 h1=>hb b0 ?_ (hr.lt i b0 (aN h) h1)
  rintro rfl;exact e (hr.inj _ _ _ (aN hM) (aN h) hj h1)
theorem Ext.HW{k b sz n n':Nat}{vs vs':Array Value}{t:TypeId}(hM:M[k]?=some (.tick sz n))(hj:j k=some b)(hr:Rel j M w)(q:Quiet w w')
  (hb:∀b',b'≠b->b'<w.heap.size->w'.heap[b']?=w.heap[b']?) (hw:w.heap[b]?=some (.cells vs t (0,0))) (hw':w'.heap[b]?=some (.cells vs' t (0,0))) (hvs:vs'.size=vs.size)
  (hq:∀p,p<n*sz->vs'[p]?=vs[p]?) (hn:n<=n'):Ext j M w j (M.set k (.tick sz n')) w' where
 len:=dw
 size:=q.size
 os:=q.os
 tape:=q.tape
 output:=q.output
 X:=rfl
 fix:=fun i b0 h hf=>⟨rfl,by
  have e:k≠i:=by rintro rfl; rw[hM] at h; cases h; cases hf
  grind⟩
 tick:=fun i sz0 n0 h=>by
  grind
 arr:=fun i sz v xs h=>by
  grind
 tags:=fun b0 vs0 t0 fr0 h=>by
  grind
 iv:=fun b0 off h=>by
  refine⟨⟨bw h.1 q.size,fun i hi hji=>?_,h.3⟩,?_⟩
  ·by_cases e:k=i
   ·subst e;obtain⟨sz0,n0,h1,h2⟩:=h.2 k (aN hM) hji;rw[hM] at h1;injection h1 with h1; injection h1 with e1 e2
    subst e1; subst e2;exact⟨sz,n',ei (aN hM),bw h2 (bd _ hn)⟩
   ·rw[cX e];exact h.2 i (by simpa using hi) hji
  ·by_cases e:b0=b
   ·subst e;obtain⟨sz0,n0,h1,h2⟩:=h.2 k (aN hM) hj;rw[hM] at h1
    grind [World.cell?]
   ·exact World.cell?_of_block (w:=w) (hb b0 e h.1)
 tV:=fun b0 cQ h=>by
  grind
theorem Rel.HW{k b sz n n':Nat}{vs vs':Array Value}{t:TypeId}(hM:M[k]?=some (.tick sz n))(hj:j k=some b)(hr:Rel j M w)(q:Quiet w w')
  (hb:∀b',b'≠b->b'<w.heap.size->w'.heap[b']?=w.heap[b']?) (hw:w.heap[b]?=some (.cells vs t (0,0))) (hw':w'.heap[b]?=some (.cells vs' t (0,0))) (hvs:vs'.size=vs.size)
  (hq:∀p,p<n*sz->vs'[p]?=vs[p]?) (hn:n<=n'):Rel j (M.set k (.tick sz n')) w':=by
 have ext:Ext j M w j (M.set k (.tick sz n')) w':=Ext.HW hM hj hr q hb hw hw' hvs hq hn;refine⟨fun i i' b0 hi hi'=>hr.inj i i' b0 jO jO,fun i b0 hi h=>bw (hr.lt i b0 jO h) q.size,fun i bx0 h hf=>?_,fun i sz0 n0 b0 h hji=>?_,fun i sz ver xs h=>?_,fun i b0 hi h=>hr.uM i b0 jO h,fun b0 off h=>bw (hr.zz b0 off h) q.size⟩
 ·have e:k≠i:=by rintro rfl; rw[ei (aN hM)] at h; cases h; cases hf
  rw[cX e] at h;obtain⟨b0,h1,h2⟩:=hr.fix i bx0 h hf;refine⟨b0,h1,h2.mono ext (hb b0 ?_ (hr.lt i b0 (aN h) h1))⟩;rintro rfl;exact e (hr.inj _ _ _ (aN hM) (aN h) hj h1)
 ·by_cases e:k=i
  ·grind
  ·rw[cX e] at h;obtain⟨vs0,t0,h1⟩:=hr.tick i sz0 n0 b0 h hji
   grind
 ·have e:k≠i:=jO;rw[cX e] at h;refine qI hr ext h rfl fun b0 h1=>hb b0 ?_ (hr.lt i b0 (aN h) h1)
  rintro rfl;exact e (hr.inj _ _ _ (aN hM) (aN h) hj h1)
theorem Ext.Db{k b' sz n n':Nat}(hM:M[k]?=some (.tick sz n))(q:Quiet w w')(hb:∀b,b<w.heap.size->w'.heap[b]?=w.heap[b]?)(hf:w.heap.size<=b')(hn:n<n') :
  Ext j M w (gH j k (some b')) (M.set k (.tick sz n')) w' where
 len:=dw
 size:=q.size
 os:=q.os
 tape:=q.tape
 output:=q.output
 X:=rfl
 fix:=fun i b0 h hf=>by
  have e:k≠i:=by rintro rfl; rw[hM] at h; cases h; cases hf
  exact⟨by simp[gH,eX e],b0,by rw[cX e]; omega,rfl⟩
 tick:=fun i sz0 n0 h=>by
  by_cases e:k=i
  ·grind
  ·exact⟨n0,av _,by rw[cX e]; omega,fun _=>⟨by simp[gH,eX e],fun b vs0 t0 _ hv=>⟨vs0,(hb b (lt_of_block hv)).trans hv,rfl⟩⟩⟩
 arr:=fun i sz v xs h=>by
  have e:k≠i:=jO;exact .inr ⟨v,xs,by rw[cX e]; omega,av _,fun _=>⟨by simp[gH,eX e],rfl,fun b vs0 t0 _ hv=>⟨vs0,(hb b (lt_of_block hv)).trans hv,rfl⟩⟩⟩
 tags:=fun b0 vs0 t0 fr0 h=>⟨vs0,fr0,(hb b0 (lt_of_block h)).trans h,rfl⟩
 iv:=fun b0 off h=>by
  refine⟨⟨bw h.1 q.size,fun i hi hji=>?_,h.3⟩,World.cell?_of_block (w:=w) (hb b0 h.1)⟩
  have e:k≠i:=by
   rintro rfl;have:b'=b0:=by grind [gH]
   have:=h.1;omega
  rw[cX e];exact h.2 i jO (by simp_all [gH,eX])
 tV:=fun b0 cQ h=>by
  grind [gH]
def Rel.Db{k b' sz n n':Nat}{vs:Array Value}{t:TypeId}(hM:M[k]?=some (.tick sz n))(hr:Rel j M w)(q:Quiet w w')(hb:∀b,b<w.heap.size->w'.heap[b]?=w.heap[b]?)
  (hf:w.heap.size<=b') (hw':w'.heap[b']?=some (.cells vs t (0,0))) (hn:n<n'):Rel (gH j k (some b')) (M.set k (.tick sz n')) w':=by
 have ext:Ext j M w (gH j k (some b')) (M.set k (.tick sz n')) w':=Ext.Db hM q hb hf hn;refine⟨fun i i' b0 hi hi' h h'=>?_,fun i b0 hi h=>?_,fun i bx0 h hf=>?_,fun i sz0 n0 b0 h hji=>?_,fun i sz ver xs h=>?_,fun i b0 hi h off hx=>?_,fun b0 off h=>bw (hr.zz b0 off h) q.size⟩
 ·simp only[cA] at hi hi'
  by_cases e:i=k<;>by_cases e':i'=k
  ·omega
  ·have h1:b'=b0:=by simpa[gH,e] using h
   have:=hr.lt i' b0 hi' (by simpa[gH,e'] using h')
   omega
  ·have h1:b'=b0:=by simpa[gH,e'] using h'
   have:=hr.lt i b0 hi (by simpa[gH,e] using h)
   omega
  ·exact hr.inj i i' b0 hi hi' (by simpa[gH,e] using h) (by simpa[gH,e'] using h')
 ·simp only[cA] at hi
  by_cases e:i=k
  ·have h1:b'=b0:=by simpa[gH,e] using h
   subst h1;exact lt_of_block hw'
  ·exact bw (hr.lt i b0 hi (by simpa[gH,e] using h)) q.size
 ·have e:k≠i:=by rintro rfl; rw[ei (aN hM)] at h; cases h; cases hf
  rw[cX e] at h;obtain⟨b0,h1,h2⟩:=hr.fix i bx0 h hf;exact⟨b0,by simpa[gH,eX e] using h1,h2.mono ext (hb b0 (hr.lt i b0 (aN h) h1))⟩
 ·by_cases e:i=k
  ·have h1:b'=b0:=by simpa[gH,e] using hji
   subst h1;exact⟨vs,t,hw'⟩
  ·rw[cX (eX e)] at h;obtain⟨vs0,t0,h1⟩:=hr.tick i sz0 n0 b0 h (by simpa[gH,e] using hji)
   exact⟨vs0,t0,(hb b0 (lt_of_block h1)).trans h1⟩
 ·have e:k≠i:=by rintro rfl; rw[ei (aN hM)] at h; cases h
  rw[cX e] at h;exact qI hr ext h (by simp[gH,eX e]) fun b0 h1=>hb b0 (hr.lt i b0 (aN h) h1)
 ·by_cases e:i=k
  ·have h1:b'=b0:=by simpa[gH,e] using h
   have h2:=hr.zz b0 off hx;omega
  ·exact hr.uM i b0 (by simpa using hi) (by simpa[gH,e] using h) off hx
end
section
variable {j:J} {M:aC} {w w':World}
def Fu(j:J)(M:aC)(w:World)(b sz:Nat)(xs:List ag):Prop:=∃vs t,w.heap[b]?=some (.cells vs t (0,0))/\xs.length*sz<=vs.size/\(∀x,x∈xs->x.cells.length=sz) /\
  ∀(q:Nat)(x:ag)(k:Nat)(c:ag),xs[q]?=some x->x.cells[k]?=some c->∃v,vs[q*sz+k]?=some v/\fP w (nM j M w) c v
def Ext.FA{id b sz ver ver':Nat}{xs xs':List ag}(hM:M[id]?=some (.arr sz ver xs))(hj:j id=some b)(hr:Rel j M w)(q:Quiet w w')
  (hb:∀b',b'≠b->b'<w.heap.size->w'.heap[b']?=w.heap[b']?) (hw:∀vs t,w.heap[b]?=some (.cells vs t (0,0))->∃vs',w'.heap[b]?=some (.cells vs' t (0,0))/\vs'.size=vs.size)
  (hv:ver<=ver') (hl:ver'=ver->xs'.length=xs.length):Ext j M w j (M.set id (.arr sz ver' xs')) w' where
 len:=dw
 size:=q.size
 os:=q.os
 tape:=q.tape
 output:=q.output
 X:=rfl
 fix:=fun i b0 h hf=>⟨rfl,by
  have e:id≠i:=by rintro rfl; rw[hM] at h; cases h; cases hf
  exact⟨b0,by rw[cX e]; exact h,rfl⟩⟩
 tick:=fun i sz0 n0 h=>by
  have e:id≠i:=by rintro rfl; rw[hM] at h; cases h
  refine⟨n0,av _,by rw[cX e]; exact h,fun _=>⟨rfl,fun b' vs0 t0 hb' hv=>⟨vs0,?_,rfl⟩⟩⟩
  refine(hb b' ?_ (lt_of_block hv)).trans hv;rintro rfl;exact e (hr.inj _ _ _ (aN hM) (aN h) hj hb')
 arr:=fun i sz0 v0 xs0 h=>by
  by_cases e:id=i
  ·subst e;rw[hM] at h;injection h with h; injection h with e1 e2 e3
   subst e1; subst e2; subst e3;refine .inr ⟨ver',xs',ei (aN hM),hv,fun he=>⟨rfl,hl he,fun b' vs t hb' hv=>?_⟩⟩
   rw[hj] at hb'; cases hb';exact hw vs t hv
  ·refine .inr ⟨v0,xs0,by rw[cX e]; exact h,av _,fun _=>⟨rfl,rfl,fun b' vs t hb' hv=>⟨vs,?_,rfl⟩⟩⟩
   refine(hb b' ?_ (lt_of_block hv)).trans hv;rintro rfl;exact e (hr.inj _ _ _ (aN hM) (aN h) hj hb')
 tags:=fun b0 vs0 t0 fr0 h=>by
  by_cases e:b0=b
  ·subst e;obtain⟨b',vs,t,g1,g2,_⟩:=hr.w9 hM hj;rw[hj] at g1; cases g1;rw[g2] at h; injection h with h; injection h with h1 h2 h3
   subst h1; subst h2;obtain⟨vs',k1,k2⟩:=hw vs t g2;exact⟨_,_,k1,k2⟩
  ·exact⟨vs0,fr0,(hb b0 e (lt_of_block h)).trans h,rfl⟩
 iv:=fun b0 off h=>by
  have hne:b0≠b:=by
   rintro rfl;obtain⟨sz,n,h1,_⟩:=h.2 id (aN hM) hj;rw[hM] at h1; cases h1
  refine⟨⟨bw h.1 q.size,fun i hi hji=>?_,h.3⟩,World.cell?_of_block (w:=w) (hb b0 hne h.1)⟩
  have e:id≠i:=by rintro rfl; rw[hj] at hji; injection hji with hji; exact hne hji.symm
  rw[cX e];exact h.2 i (by simpa using hi) hji
 tV:=fun b0 cQ h=>by
  have hne:b0≠b:=by rintro rfl; exact h id (aN hM) hj
  exact⟨hb b0 hne cQ,fun i hi=>h i (by simpa using hi)⟩
def Rel.FA{id b sz ver ver':Nat}{xs xs':List ag}(hM:M[id]?=some (.arr sz ver xs))(hj:j id=some b)(hr:Rel j M w)(q:Quiet w w')
  (hb:∀b',b'≠b->b'<w.heap.size->w'.heap[b']?=w.heap[b']?) (hw:∀vs t,w.heap[b]?=some (.cells vs t (0,0))->∃vs',w'.heap[b]?=some (.cells vs' t (0,0))/\vs'.size=vs.size)
  (hv:ver<=ver') (hl:ver'=ver->xs'.length=xs.length) (hh:∀j' M',Ext j M w j' M' w'->Fu j' M' w' b sz xs'):Rel j (M.set id (.arr sz ver' xs')) w':=by
 have ext:Ext j M w j (M.set id (.arr sz ver' xs')) w':=Ext.FA hM hj hr q hb hw hv hl;refine⟨fun i i' b0 hi hi'=>hr.inj i i' b0 (by simpa using hi) (by simpa using hi'),fun i b0 hi h=>bw (hr.lt i b0 (by simpa using hi) h) q.size,fun i bx0 h hf=>?_,fun i sz0 n0 b0 h hji=>?_,fun i sz0 v0 xs0 h=>?_,fun i b0 hi h=>hr.uM i b0 (by simpa using hi) h,fun b0 off h=>bw (hr.zz b0 off h) q.size⟩
 ·have e:id≠i:=by rintro rfl; rw[ei (aN hM)] at h; cases h; cases hf
  rw[cX e] at h;obtain⟨b0,h1,h2⟩:=hr.fix i bx0 h hf;refine⟨b0,h1,h2.mono ext (hb b0 ?_ (hr.lt i b0 (aN h) h1))⟩;rintro rfl;exact e (hr.inj _ _ _ (aN hM) (aN h) hj h1)
 ·have e:id≠i:=by rintro rfl; rw[ei (aN hM)] at h; cases h
  rw[cX e] at h;obtain⟨vs,t0,h1⟩:=hr.tick i sz0 n0 b0 h hji;refine⟨vs,t0,(hb b0 ?_ (lt_of_block h1)).trans h1⟩;rintro rfl;exact e (hr.inj _ _ _ (aN hM) (aN h) hj hji)
 ·by_cases e:id=i
  ·subst e;rw[ei (aN hM)] at h;injection h with h; injection h with e1 e2 e3
   subst e1; subst e2; subst e3;obtain⟨vs,t,g⟩:=hh _ _ ext;exact .inr ⟨b,vs,t,hj,g⟩
  ·rw[cX e] at h;refine qI hr ext h rfl fun b0 h1=>hb b0 ?_ (hr.lt i b0 (aN h) h1)
   rintro rfl;exact e (hr.inj _ _ _ (aN hM) (aN h) hj h1)
def Ext.freeze{id sz ver:Nat}{xs:List ag}(hM:M[id]?=some (.arr sz ver xs)):Ext j M w j (M.set id (.tick sz xs.length)) w where
 len:=dw
 size:=av _
 os:=rfl
 tape:=rfl
 output:=rfl
 X:=rfl
 fix:=fun i b0 h hf=>⟨rfl,by
  have e:id≠i:=by rintro rfl; rw[hM] at h; cases h; cases hf
  exact⟨b0,by rw[cX e]; exact h,rfl⟩⟩
 tick:=fun i sz0 n0 h=>by
  have e:id≠i:=by rintro rfl; rw[hM] at h; cases h
  exact⟨n0,av _,by rw[cX e]; exact h,fun _=>⟨rfl,fun b' vs0 t0 hb' hv=>⟨vs0,hv,rfl⟩⟩⟩
 arr:=fun i sz0 v0 xs0 h=>by
  by_cases e:id=i
  ·subst e;rw[hM] at h;injection h with h; injection h with e1 e2 e3
   subst e1; subst e2; subst e3;exact .inl ⟨_,ei (aN hM)⟩
  ·exact .inr ⟨v0,xs0,by rw[cX e]; exact h,av _,fun _=>⟨rfl,rfl,fun b' vs t hb' hv=>⟨vs,hv,rfl⟩⟩⟩
 tags:=fun b vs t fr h=>⟨vs,fr,h,rfl⟩
 iv:=fun b0 off h=>by
  refine⟨⟨h.1,fun i hi hji=>?_,h.3⟩,rfl⟩
  have e:id≠i:=by
   rintro rfl;obtain⟨sz,n,h1,_⟩:=h.2 id (aN hM) hji;rw[hM] at h1; cases h1
  rw[cX e];exact h.2 i (by simpa using hi) hji
 tV:=fun b0 cQ h=>⟨rfl,fun i hi=>h i (by simpa using hi)⟩
def Rel.freeze{id sz ver:Nat}{xs:List ag}(hM:M[id]?=some (.arr sz ver xs))(hr:Rel j M w):Rel j (M.set id (.tick sz xs.length)) w:=by
 have ext:Ext j M w j (M.set id (.tick sz xs.length)) w:=Ext.freeze hM;refine⟨fun i i' b0 hi hi'=>hr.inj i i' b0 (by simpa using hi) (by simpa using hi'),fun i b0 hi h=>hr.lt i b0 (by simpa using hi) h,fun i bx0 h hf=>?_,fun i sz0 n0 b0 h hji=>?_,fun i sz0 v0 xs0 h=>?_,fun i b0 hi h=>hr.uM i b0 (by simpa using hi) h,hr.zz⟩
 ·have e:id≠i:=by rintro rfl; rw[ei (aN hM)] at h; cases h; cases hf
  rw[cX e] at h;obtain⟨b0,h1,h2⟩:=hr.fix i bx0 h hf;exact⟨b0,h1,h2.mono ext rfl⟩
 ·by_cases e:id=i
  ·subst e;obtain⟨b,vs,t,g1,g2,_⟩:=hr.w9 hM hji;rw[hji] at g1; cases g1;exact⟨vs,t,g2⟩
  ·rw[cX e] at h;exact hr.tick i sz0 n0 b0 h hji
 ·have e:id≠i:=by rintro rfl; rw[ei (aN hM)] at h; cases h
  rw[cX e] at h;exact qI hr ext h rfl fun b0 h1=>rfl
end
def tJ{w:World}{iv saf':Nat->Nat->Prop}{b lo hi sz cap:Nat}{vs:Array Value}{t:TypeId}{xs:List ag}(hw:w.heap[b]?=some (.cells vs t (0,0)))(hwid:∀x,x∈xs->x.cells.length=sz)
  (hc:∀(q:Nat)(x:ag)(k:Nat)(c:ag),xs[q]?=some x->x.cells[k]?=some c->∃v,vs[q*sz+k]?=some v/\fP w iv c v) (hm:∀b off,iv b off->saf' b off) (hs:∀off,off<xs.length*sz->saf' b off)
  (h1:lo<=hi) (h2:hi<=xs.length) (h3:hi-lo<=cap):fP w saf' (.slice .sh ((xs.take hi).drop lo)) (.slice (some ⟨b,lo*sz,none⟩) (hi-lo) cap):=by
 have hget:∀(i:Nat)(x:ag),((xs.take hi).drop lo)[i]?=some x->xs[lo+i]?=some x/\lo+i<hi:=by
  intro i x h;rw[cS] at h;have cQ:lo+i<hi:=by have:=aN h; simp at this; omega
  rw[bG cQ] at h;exact⟨h,cQ⟩
 have idx:∀i k,lo*sz+(i*sz+k)=(lo+i)*sz+k:=fun i k=>by rw[bP]; omega
 refine .slice _ _ _ _ b (lo*sz) sz (fun p=>(vs[lo*sz+p]?).getD undef) gr aH (fun _=>rfl) (fun x hx=>hwid x (dB (dA hx))) (fun i x k c hx hk=>?_) fun i x k c hx hk=>?_
 ·obtain⟨g1,g2⟩:=hget i x hx;obtain⟨v,g3,g4⟩:=hc _ x k c g1 hk;have hk':k<sz:=by rw[<-hwid x (aJ g1)]; exact aN hk
  rw[idx];refine⟨by simp[World.cell?,hw,g3],hs _ ?_⟩
  calc (lo+i)*sz+k<(lo+i)*sz+sz:=aH
   _=(lo+i+1)*sz:=by rw[bP (lo+i) 1]; omega
   _<=xs.length*sz:=bd _ aH
 ·obtain⟨g1,g2⟩:=hget i x hx;obtain⟨v,g3,g4⟩:=hc _ x k c g1 hk;simp only[idx,g3,bC];exact g4.mono fun b off h=>⟨hm b off h,rfl⟩
section
variable [kx]
def iV(j:J)(M:aC)(w:World)(x:ag×aC)(v:Value)(w':World):Prop:=∃j',Rel j' x.2 w'/\Ext j M w j' x.2 w'/\gk j' x.2 w' x.1 v
def Ib(j:J)(M:aC)(w:World)(x:ag×aC)(u:Value)(w':World):Prop:=x.1 = .nH u/\∃j',Rel j' x.2 w'/\Ext j M w j' x.2 w'
def wa(j:J)(M:aC)(w:World)(x:ag×aC)(e:Ending)(w':World):Prop :=
 (∃v,e = .returned v/\iV j M w x v w')\/∃u,e = .panicked [{ v:=u,recovered:=false }]/\Ib j M w x u w'
def wa.ret{j:J}{M:aC}{w:World}{x:ag×aC}{e:Ending}{w':World}(h:wa j M w x e w')(hx:x.1.jr=false):∃v,e = .returned v/\iV j M w x v w':=by
 rcases h with h|⟨u,_,h,_⟩
 ·omega
 ·rw[h] at hx; cases hx
def dp(P:Program)(f:Nat)(args:List ag)(M:aC)(x:ag×aC):Prop :=
 ∀(j:J)(w:World)(vs:Array Value),Rel j M w->sW j M w->args.length=vs.size->(∀(i:Nat)(c:ag)(v:Value),args[i]?=some c->vs[i]?=some v->gk j M w c v) ->
  Calls P f vs w fun e w'=>wa j M w x e w'
def nN(P:Program)(f:Nat)(args:List ag)(M:aC)(x:ag×aC):Prop :=
 ∀(j:J)(w:World)(vs:Array Value),Rel j M w->sW j M w->args.length=vs.size->(∀(i:Nat)(c:ag)(v:Value),args[i]?=some c->vs[i]?=some v->gk j M w c v) ->
  Calls P f vs w fun e w'=>∃v j',e = .returned v/\Rel j' x.2 w'/\Ext j M w j' x.2 w'/\gk j' x.2 w' x.1 v
def nN.call{P:Program}{f:Nat}{args:List ag}{M:aC}{x:ag×aC}(h:nN P f args M x):dp P f args M x:=fun j w vs h1 h2 h3 h4 =>
 (h j w _ h1 h2 h3 h4).mono fun e w' ⟨v,j',he,g1,g2,g3⟩ => .inl ⟨v,he,j',g1,g2,g3⟩
def ny(P:Program)(C:eL):Prop:=∀f a M x,C f a M=some x->lG P f=true/\dp P f a M x
section
variable {j:J} {M:aC} {w:World} {P:Program}
def iV.still{v:Value}{y:ag}(hr:Rel j M w)(h:gk j M w y v):iV j M w (y,M) v w:=⟨j,hr,Ext.refl j M w,h⟩
theorem Ii{v:Value}{x:ag}(h:KS v=some x):gk j M w x v:=by
 unfold KS at h
 split at h<;>first
  |(cases h; first|exact .plain (.bool _)|exact .plain (.int _ _)|exact .plain (.str _)|exact .plain (.raw _ rfl)|exact .c0 _)
  |grind
theorem Ig{iv:Nat->Nat->Prop}:∀ {vs:List Value} {l:List ag},Ru vs=some l->l.length=vs.length/\∀(i:Nat)(c:ag)(v:Value),l[i]?=some c->vs[i]?=some v->fP w iv c v
 | [],l,h=>by
  grind [Ru]
 |v::r,l,h=>by
  simp[Ru] at h;rw[dC] at h;obtain⟨x,hx,h⟩:=h;rw[dC] at h;obtain⟨l',hl,h⟩:=h;cases h;obtain⟨h1,h2⟩:=Ig hl;refine⟨jO,fun i c u hc hu=>?_⟩
  cases i with
  |zero =>
   simp at hc hu; subst hc; subst hu;unfold acp at hx
   split at hx<;>first
    |(cases hx; first|exact .bool _|exact .int _ _|exact .str _|exact .raw _ rfl)
    |grind
  |succ i=>exact h2 i c u jO jO
theorem qH:∀ {vs:List Value} {l:List ag},tu vs=some l->l.length=vs.length/\∀(i:Nat)(c:ag)(v:Value),l[i]?=some c->vs[i]?=some v->gk j M w c v
 | [],l,h=>by
  grind [tu]
 |v::r,l,h=>by
  simp[tu] at h;rw[dC] at h;obtain⟨x,hx,h⟩:=h;rw[dC] at h;obtain⟨l',hl,h⟩:=h;injection h with h; obtain⟨h1,h2⟩:=qH hl
  grind [Ii]
theorem Ih{v:Value}{x:ag}(h:Rv v=some x):gk j M w x v:=by
 unfold Rv at h;split at h
 ·rw[dC] at h;obtain⟨l,hl,h⟩:=h;cases h;obtain⟨h1,h2⟩:=qH hl;exact .agg aH fun i c v hc hv=>h2 i c v hc jO
 grind [Ii]
theorem cZ{bp:Env}{a:Act}(he:cq j M w bp a){x:Operand}{y:fY}(h:eV x=some y):gk j M w (y.ev bp) (a.eval x):=by
 unfold eV at h;split at h
 ·cases h; exact he.at' _
 ·rw[dC] at h;obtain⟨z,hz,h⟩:=h;cases h;exact Ih hz
 ·cases h;exact .func (by rfl) fun i c v hc=>dw
 ·rename_i g;rw[dC] at h;obtain⟨vs,hg,h⟩:=h;rw[dC] at h;obtain⟨l,hl,h⟩:=h;cases h;obtain⟨h1,h2⟩:=Ig (w:=w) (iv:=nM j M w) hl;refine .jF (vs:=fun k=>(vs[k]?).getD undef) fun k c hk=>?_
  have hk':=aN hk;have hv:vs[k]?=some _:=ai aH;obtain⟨h3,h4⟩:=he.gl.g g _ k _ hg hv
  grind
theorem uu{bp:Env}{a:Act}(he:cq j M w bp a):∀ {xs:List Operand} {ys:List fY},vA xs=some ys ->
  ys.length=xs.length/\∀(i:Nat)(y:fY)(x:Operand),ys[i]?=some y->xs[i]?=some x->gk j M w (y.ev bp) (a.eval x)
 | [],ys,h=>by
  grind [vA]
 |x::r,ys,h=>by
  simp[vA] at h;rw[dC] at h;obtain⟨y,hy,h⟩:=h;rw[dC] at h;obtain⟨l,hl,h⟩:=h;injection h with h; obtain⟨h1,h2⟩:=uu he hl
  grind [cZ]
def gk.jE{b:Bool}{v:Value}(h:gk j M w (.bool b) v):v = .bool b:=by cases h with|plain h=>cases h; rfl
def gk.fW{k:IntKind}{n:Int}{v:Value}(h:gk j M w (.int k n) v):v = .int k n:=by cases h with|plain h=>cases h; rfl
def gk.kH{s:List UInt8}{v:Value}(h:gk j M w (.str s) v):v = .string (bs s):=by cases h with|plain h=>cases h; rfl
theorem gk.mY{cs:List ag}{v:Value}(h:gk j M w (.agg cs) v):∃vs,v = .agg vs/\cs.length=vs.size/\∀(i:Nat)(c:ag)(u:Value),cs[i]?=some c->vs[i]?=some u->gk j M w c u:=by
 cases h with
 |plain h=>cases h
 |agg hl h=>grind
theorem gk.tW{cs:List ag}{v:Value}(h:gk j M w (.tuple cs) v):∃vs,v = .tuple vs/\cs.length=vs.size/\∀(i:Nat)(c:ag)(u:Value),cs[i]?=some c->vs[i]?=some u->gk j M w c u:=by
 cases h with
 |plain h=>cases h
 |tuple hl h=>grind
theorem gk.rC{f:Nat}{cs:List ag}{v:Value}(h:gk j M w (.func f cs) v):∃vs,v = .func (.func f) #[] vs/\cs.length=vs.size/\∀(i:Nat)(c:ag)(u:Value),cs[i]?=some c->vs[i]?=some u->gk j M w c u:=by
 cases h with
 |plain h=>cases h
 |func hl h=>grind
theorem gk.qq{id off:Nat}{v:Value}(h:gk j M w (.ptr id off) v):∃b,id<M.length/\(∃cs,M[id]?=some (.cells cs))/\j id=some b/\v = .pointer (some ⟨b,off,none⟩):=by
 cases h with
 |plain h=>cases h
 |ptr h1 h2 h3=>grind
theorem gk.vM{id:Nat}{v:Value}(h:gk j M w (.iy id) v):∃b,(∃ks vs,M[id]?=some (.map ks vs))/\j id=some b/\v = .map (some b):=by
 cases h with
 |plain h=>cases h
 |iy h1 h2=>grind
theorem gk.D4{id:Nat}{v:Value}(h:gk j M w (.ka id) v):∃b,(∃s p,M[id]?=some (.nY s p))/\j id=some b/\v = .pointer (some ⟨b,0,none⟩):=by
 cases h with
 |plain h=>cases h
 |ka h1 h2=>grind
theorem gk.HB{f:Nat}{fs:List ag}{v:Value}(h:gk j M w (.rb f fs) v):∃vs:Array Value,v = .func (.func f) vs #[]/\fs.length=vs.size/\∀(i:Nat)(c:ag)(v:Value),fs[i]?=some c->vs[i]?=some v->AN w (nM j M w) c v:=by
 cases h with
 |plain h=>cases h
 |rb hl h=>grind
theorem gk.Jz{t id off:Nat}{v:Value}(h:gk j M w (.kv t id off) v):∃b:Nat,(∃cs,M[id]?=some (.cells cs))/\j id=some b/\v = .iface t (.pointer (some ⟨b,off,none⟩)):=by
 cases h with
 |plain h=>cases h
 |kv h1 h2=>grind
def gk.Jb{ks vs:List ag}{v:Value}(h:gk j M w (.kj ks vs) v):∃(b:Nat) (es:Array MapEntry) (clock:Nat),v = .map (some b)/\w.heap[b]?=some (.map es clock)/\ks.length=es.size/\vs.length=es.size /\
  (∀(i:Nat)(k:ag)(e:MapEntry),ks[i]?=some k->es[i]?=some e->fP w (nM j M w) k e.key)/\∀(i:Nat)(v:ag)(e:MapEntry),vs[i]?=some v->es[i]?=some e->AN w (nM j M w) v e.val:=by
 cases h with
 |plain h=>cases h
 |kj hb hf hx hw hk hv hks hvs=>exact⟨_,_,_,rfl,hw,hk,hv,hks,hvs⟩
def gk.nh{id ver sz lo hi:Nat}{v:Value}(h:gk j M w (.cE id ver sz lo hi) v):((∃b off c,v = .slice (some ⟨b,off,none⟩) (hi-lo) c/\hi-lo<=c)\/hi-lo=0/\∃A,v = .slice A 0 0)/\id<M.length/\(∀bx,M[id]?=some bx->bx.loose=true) /\
  ∀sz' v' xs,M[id]?=some (.arr sz' v' xs)->ver<=v'/\(v'=ver->sz'=sz/\lo<=hi/\hi<=xs.length/\((xs=[]/\j id=none/\∃A,v = .slice A 0 0)\/∃b cap vs t,j id=some b/\v = .slice (some ⟨b,lo*sz,none⟩) (hi-lo) cap/\hi-lo<=cap/\w.heap[b]?=some (.cells vs t (0,0))/\(lo+cap)*sz<=vs.size)):=by
 cases h with
 |plain h=>cases h
 |cE h0 h1 h2 h3=>exact⟨h0,h1,h2,h3⟩
theorem gk.zG{id ver sz lo hi:Nat}{v:Value}(h:gk j M w (.cE id ver sz lo hi) v):∃A cap,v = .slice A (hi-lo) cap:=by
 rcases h.nh.1 with ⟨b,off,c,e,_⟩|⟨e,A,e'⟩
 ·grind
 grind
def gk.YU{id ver sz lo hi:Nat}{v:Value}(h:gk j M w (.cE id ver sz lo hi) v)(hne:lo<hi):∃b off c,v = .slice (some ⟨b,off,none⟩) (hi-lo) c/\hi-lo<=c :=
 h.nh.1.resolve_right fun e=>aH
def gk.sF{id ver i off:Nat}{v:Value}(h:gk j M w (.jv id ver i off) v):(∃b o,v = .pointer (some ⟨b,o,none⟩))/\id<M.length/\(∀bx,M[id]?=some bx->bx.loose=true) /\
  ∀sz v' xs,M[id]?=some (.arr sz v' xs)->ver<=v'/\(v'=ver->i<xs.length/\∃b,j id=some b/\v = .pointer (some ⟨b,i*sz+off,none⟩)):=by
 cases h with
 |plain h=>cases h
 |jv h0 h1 h2 h3=>exact⟨h0,h1,h2,h3⟩
def gk.uz{cs:List ag}{v:Value}(h:gk j M w (.jF cs) v):∃(b off:Nat) (vs:Nat->Value),v = .pointer (some ⟨b,off,none⟩) /\
  ∀(k:Nat)(c:ag),cs[k]?=some c->w.cell? ⟨b,off+k,none⟩=some (vs k)/\nM j M w b (off+k)/\fP w (nM j M w) c (vs k):=by
 cases h with
 |plain h=>cases h
 | @jF _ b off vs h=>exact⟨b,off,vs,rfl,h⟩
def fP.nil(iv:Nat->Nat->Prop)(A:Option Addr)(cap:Nat):fP w iv (.slice .sh []) (.slice A 0 cap) :=
 .slice _ A 0 _ 0 0 0 (fun _=>undef) rfl (cI _) (fun h=>absurd rfl h) (fun x h=>jO) (fun i x k c h=>jO) (fun i x k c h=>jO)
def gk.er{tk:Tk}{xs:List ag}{v:Value}(h:gk j M w (.slice tk xs) v):fP w (nM j M w) (.slice .sh xs) v:=by
 cases h with
 |plain h=>cases h with|slice=>exact .slice _ _ _ _ _ _ _ _ aH aH aH aH aH aH
 |c0 A=>simp[fP.nil]
 |own _ _ h _=>omega
def fP.er{iv:Nat->Nat->Prop}{xs:List ag}{v:Value}(h:fP w iv (.slice .sh xs) v):∃(A:Option Addr) (cap b off sz:Nat) (vs:Nat->Value),v = .slice A xs.length cap/\xs.length<=cap/\(xs≠[]->A=some ⟨b,off,none⟩) /\
  (∀x,x∈xs->x.cells.length=sz)/\(∀(i:Nat)(x:ag)(k:Nat)(c:ag),xs[i]?=some x->x.cells[k]?=some c->w.cell? ⟨b,off+(i*sz+k),none⟩=some (vs (i*sz+k))/\iv b (off+(i*sz+k))) /\
  (∀(i:Nat)(x:ag)(k:Nat)(c:ag),xs[i]?=some x->x.cells[k]?=some c->fP w iv c (vs (i*sz+k))):=by
 cases h with
 |slice _ A len cap b off sz vs hl hc ha hz hs hr=>subst hl; exact⟨A,cap,b,off,sz,vs,rfl,hc,ha,hz,hs,hr⟩
end
def rj(P:Program)(o:Oper)(a:Act)(w:World)(v:Value)(w':World):Prop :=
 (execOp a.eval o).run P w = .ok (.value v) w'\/((execOp a.eval o).run P w = .ok .skip w'/\v=undef)
theorem bf{α β:Type}{x:Option α}{f:α->Option β}{y:β}(h:x.bind f=some y):∃a,x=some a/\f a=some y:=by
 cases x<;>grind
section
variable {P:Program} {C:eL} {o:Oper} {bp:Env} {M:aC} {j:J} {w:World} {a:Act} {x:ag×aC}
def eb{t:TypeId}{d:TypeDesc}(h:P.underlying t=some d):(underlying t).run P w = .ok d w:=by simp[underlying,h]
def pX{t:TypeId}{i:TypeInfo}(h:P.info? t=some i):(typeInfo t).run P w = .ok i w:=by simp[typeInfo,h]
theorem EY{t:TypeId}{n:Nat}(h:qG P t=some n):∃i,P.info? t=some i/\i.size=n:=by
 obtain⟨i,h1,h2⟩:=bf h
 grind
def js{t:TypeId}{n:Nat}(h:qG P t=some n):(sizeOf t).run P w = .ok n w:=by
 obtain⟨i,h1,h2⟩:=EY h;simp_all [sizeOf,pX]
def lK{t:TypeId}{g:Bool}(h:CK P t=some g):(isAgg t).run P w = .ok g w:=by
 obtain⟨d,h1,h2⟩:=bf h;injection h2 with h2
 subst h2;simp[isAgg,eb h1];cases d<;>rfl
def lV(b off n:Nat):(⟨b,off,none⟩:Addr).add n=⟨b,off+n,none⟩:=by
 simp[Addr.add]
def Ai(hr:Rel j M w)(he:cq j M w bp a){y:Operand}{z:fY}(hop:o.op = .move y\/o.op = .assign y)(hz:eV y=some z)(h:eo C bp M (.mv z)=some x) :
  ∃v w',rj P o a w v w'/\iV j M w x v w':=by
 cases h;exact⟨a.eval y,w,.inl (by rcases hop with hop|hop<;>simp[execOp,hop]),.still hr (cZ he hz)⟩
theorem abA(hr:Rel j M w)(he:cq j M w bp a){c p q:Operand}{c' p' q':fY}(hop:o.op = .pick c p q)(hc:eV c=some c')(hp:eV p=some p')(hq:eV q=some q')
  (h:eo C bp M (.pick c' p' q')=some x):∃v w',rj P o a w v w'/\iV j M w x v w':=by
 simp[eo] at h;have h1:=cZ he hc;split at h
 ·rename_i t ht;rw[ht] at h1;have h1:=h1.jE;rcases lI h with ⟨rfl,h⟩|⟨rfl,h⟩<;>(cases h)
  ·exact⟨a.eval p,w,.inl (by simp_all [execOp,asBool]),.still hr (cZ he hp)⟩
  ·exact⟨a.eval q,w,.inl (by simp_all [execOp,asBool]),.still hr (cZ he hq)⟩
 grind
theorem ah2(hr:Rel j M w)(he:cq j M w bp a){y:Operand}{z:fY}(hop:o.op = .nilCheck y)(hz:eV y=some z)(h:eo C bp M (.chk z)=some x) :
  ∃v w',rj P o a w v w'/\iV j M w x v w':=by
 simp[eo] at h;have h1:=cZ he hz;split at h
 ·rename_i id off e;cases h;rw[e] at h1;obtain⟨b,_,_,_,hv⟩:=h1.qq;exact⟨_,w,.inl (by simp_all [execOp]),.still hr (hv▸h1)⟩
 ·rename_i cs e;cases h;rw[e] at h1;obtain⟨b,off,vs,hv,_⟩:=h1.uz;exact⟨_,w,.inl (by simp_all [execOp]),.still hr (hv▸h1)⟩
 ·rename_i f caps e;cases h;rw[e] at h1;obtain⟨vs,hv,_⟩:=h1.rC;exact⟨_,w,.inl (by simp_all [execOp]),.still hr (hv▸h1)⟩
 ·rename_i id v0 i off e;cases h;rw[e] at h1;obtain⟨⟨b,q,hv⟩,_⟩:=h1.sF;exact⟨_,w,.inl (by simp_all [execOp]),.still hr (hv▸h1)⟩
 grind
theorem ah4(hr:Rel j M w)(he:cq j M w bp a){y:Operand}{z:fY}{t:TypeId}(hop:o.op = .unOp .not t y)(hz:eV y=some z)(h:eo C bp M (.not z)=some x) :
  ∃v w',rj P o a w v w'/\iV j M w x v w':=by
 simp[eo] at h;have h1:=cZ he hz;split at h
 ·rename_i b e;cases h;rw[e] at h1;exact⟨_,w,.inl (by simp[execOp,hop,h1.jE]; rfl),.still hr (.plain (.bool _))⟩
 grind
theorem ah3(hr:Rel j M w)(he:cq j M w bp a){y:Operand}{z:fY}{t:TypeId}(hop:o.op = .unOp .neg t y)(hz:eV y=some z)(h:eo C bp M (.neg z)=some x) :
  ∃v w',rj P o a w v w'/\iV j M w x v w':=by
 simp only[eo] at h;have h1:=cZ he hz;split at h
 ·rename_i k n e;cases h;rw[e] at h1;exact⟨_,w,.inl (by simp only[execOp,hop,h1.fW]; rfl),.still hr (.plain (.int _ _))⟩
 grind
theorem abr(hr:Rel j M w)(he:cq j M w bp a){y:Operand}{z:fY}{s d:TypeId}{k0 k:IntKind}(hop:o.op = .convert s d y)(hs:P.underlying s=some (.int k0))(hd:P.underlying d=some (.int k))
  (hz:eV y=some z) (h:eo C bp M (.conv k z)=some x):∃v w',rj P o a w v w'/\iV j M w x v w':=by
 simp[eo] at h;have h1:=cZ he hz;split at h
 ·rename_i k1 n e;cases h;rw[e] at h1;refine⟨.int k _,w,.inl ?_,.still hr (.plain (.int _ _))⟩;simp[execOp,hop,convert,eb hs,eb hd,h1.fW,Conv.intToInt]
 grind
theorem abC(hr:Rel j M w)(he:cq j M w bp a){y:Operand}{z:fY}{s d:TypeId}(hop:o.op = .convert s d y)(hs:P.underlying s=some .string)(hd:P.underlying d=some .string)
  (hz:eV y=some z) (h:eo C bp M (.same z)=some x):∃v w',rj P o a w v w'/\iV j M w x v w':=by
 simp[eo] at h;have h1:=cZ he hz;split at h
 ·rename_i l e;cases h;rw[e] at h1;refine⟨.string _,w,.inl ?_,.still hr (.plain (.str _))⟩;simp[execOp,hop,convert,eb hs,eb hd,h1.kH]
 grind
theorem aok(hr:Rel j M w)(he:cq j M w bp a){f:Nat}{first caps:Array Operand}{zs:List fY}(hop:o.op = .makeFunc (.func f) first caps)(hf:first.isEmpty=true)(hz:vA caps.toList=some zs)
  (h:eo C bp M (.fn f zs)=some x):∃v w',rj P o a w v w'/\iV j M w x v w':=by
 cases h;obtain⟨h1,h2⟩:=uu he hz;have hf':first = #[]:=jO
 refine⟨.func _ _ (caps.map a.eval),w,.inl ?_,.still hr (.func jO fun i c v hc hv=>?_)⟩
 ·simp[execOp,hop,Instr.makeFunc,hf']
 grind
theorem Mn(hr:Rel j M w)(he:cq j M w bp a){y:Operand}{z:fY}{i:Nat}(hop:o.op = .extract y i)(hz:eV y=some z)(h:eo C bp M (.extract z i)=some x) :
  ∃v w',rj P o a w v w'/\iV j M w x v w':=by
 simp[eo] at h;have h1:=cZ he hz;split at h
 ·rename_i vs e;obtain⟨c,hc,h⟩:=bm h;cases h;rw[e] at h1;obtain⟨us,hv,hl,hu⟩:=h1.tW;rw[fe] at hc;have hi:=aN hc;have hui:us[i]?=some _:=bg aH;exact⟨_,w,.inl (by simp[execOp,hop,Instr.extract,hv,hui]),.still hr (hu i c _ hc hui)⟩
 grind
theorem abv(hr:Rel j M w)(he:cq j M w bp a){c:Call}{y:Operand}{z:fY}{t:TypeId}(hop:o.op = .call c)(hb:c.callee = .builtin .len)(ha:c.args.toList=[y])
  (ht:c.argTypes[0]?=some t) (hs:P.underlying t=some .string) (hz:eV y=some z) (h:eo C bp M (.V5 z)=some x):∃v w',rj P o a w v w'/\iV j M w x v w':=by
 simp only[eo] at h;have h1:=cZ he hz;split at h
 ·rename_i l e;cases h;rw[e] at h1;have ha':c.args = #[y]:=by rw[<-ha]
  refine⟨.int .i64 _,w,.inl ?_,.still hr (.plain (.int _ _))⟩;have hsz:(bs l).size=l.length:=by rfl
  simp[execOp,hop,resolve,hb,invoke,builtin,Builtin.len_,ha',ht,eb hs,h1.kH,goInt,hsz]
 grind
theorem abw(hr:Rel j M w)(he:cq j M w bp a){c:Call}{y:Operand}{z:fY}{t e:TypeId}(hop:o.op = .call c)(hb:c.callee = .builtin .len)(ha:c.args.toList=[y])
  (ht:c.argTypes[0]?=some t) (hs:P.underlying t=some (.slice e)) (hz:eV y=some z) (h:eo C bp M (.Aa z)=some x):∃v w',rj P o a w v w'/\iV j M w x v w':=by
 simp only[eo] at h;have h1:=cZ he hz;split at h
 ·rename_i tk l e;cases h;rw[e] at h1;have ha':c.args = #[y]:=by rw[<-ha]
  obtain⟨A,cap,b,off,sz,vs,hv,_⟩:=h1.er.er;refine⟨.int .i64 l.length,w,.inl ?_,.still hr (.plain (.int _ _))⟩;simp[execOp,hop,resolve,hb,invoke,builtin,Builtin.len_,ha',ht,eb hs,hv,goInt]
 ·rename_i id v0 sz lo hi e;cases h;rw[e] at h1;have ha':c.args = #[y]:=by rw[<-ha]
  obtain⟨A,cap,hv⟩:=h1.zG;refine⟨.int .i64 (hi-lo:Nat),w,.inl ?_,.still hr (.plain (.int _ _))⟩;simp[execOp,hop,resolve,hb,invoke,builtin,Builtin.len_,ha',ht,eb hs,hv,goInt]
 grind
theorem Gs(hr:Rel j M w)(he:cq j M w bp a){c:Call}{y y':Operand}{z z':fY}{mx:Bool}(hop:o.op = .call c)(hb:c.callee = .builtin (if mx then .max else .min))(ha:c.args.toList=[y,y'])
  (hz:eV y=some z) (hz':eV y'=some z') (h:eo C bp M (.Bw mx z z')=some x):∃v w',rj P o a w v w'/\iV j M w x v w':=by
 simp only[eo] at h;have h1:=cZ he hz;have h2:=cZ he hz';split at h
 ·rename_i k n k' n' e e';cases h;rw[e] at h1;rw[e'] at h2;have ha':c.args = #[y,y']:=by rw[<-ha]
  refine⟨_,w,.inl ?_,.still hr (.plain (.int _ _))⟩;cases mx
  ·simp[execOp,hop,resolve,hb,invoke,builtin,Builtin.min_,Builtin.min2,ha',h1.fW,h2.fW,List.foldlM]
  ·simp[execOp,hop,resolve,hb,invoke,builtin,Builtin.max_,Builtin.max2,ha',h1.fW,h2.fW]
 grind
theorem Qm(hr:Rel j M w)(he:cq j M w bp a){y i:Operand}{z z':fY}{t:TypeId}(hop:o.op = .index t y i)(ht:P.underlying t=some .string)(hz:eV y=some z)(hz':eV i=some z')
  (h:eo C bp M (.Bj z z')=some x):∃v w',rj P o a w v w'/\iV j M w x v w':=by
 simp only[eo] at h;have h1:=cZ he hz;have h2:=cZ he hz';split at h
 ·rename_i l k n e e';obtain⟨hn,h⟩:=dq h;obtain⟨b,hb,h⟩:=bm h;cases h;rw[e] at h1;rw[e'] at h2;refine⟨.int .u8 b.toNat,w,.inl ?_,.still hr (.plain (.int _ _))⟩
  have hg:(bs l)[n.toNat]?=some b:=by
   have cQ:=aN hb;have:n.toNat<(bs l).size:=by simp_all [bs,ByteArray.size]
   rw[getElem?_pos (bs l) n.toNat this];congr 1
   have h3:l[n.toNat]=b:=by
    have:=ai cQ
    grind
   exact h3
  simp[execOp,hop,Instr.index,asIntOf,eb ht,h1.kH,h2.fW,hn,hg]
 ·cases h
theorem Qj(hr:Rel j M w)(he:cq j M w bp a){y:Operand}{z:fY}{s:TypeId}{fs:Array Field}{f:Field}{i:Nat}(hop:o.op = .field s y i)(hs:P.underlying s=some (.struct fs))(hf:fs[i]?=some f)
  (hg:CK P f.type=some false) (hz:eV y=some z) (h:eo C bp M (.DK f.offset z)=some x):∃v w',rj P o a w v w'/\iV j M w x v w':=by
 simp[eo] at h;have h1:=cZ he hz;split at h
 ·rename_i cs e;obtain⟨c,hc,h⟩:=bm h;cases h;rw[e] at h1;obtain⟨us,hv,hl,hu⟩:=h1.mY;rw[fe] at hc;have hi:=aN hc;have hui:us[f.offset]?=some _:=bg aH;refine⟨_,w,.inl ?_,.still hr (hu _ c _ hc hui)⟩;simp[execOp,hop,Instr.field,eb hs,hf,asAgg,hv,part,lK hg,hui]
 grind
theorem Qk(hr:Rel j M w)(he:cq j M w bp a){y:Operand}{z:fY}{s:TypeId}{fs:Array Field}{f:Field}{i n:Nat}(hop:o.op = .field s y i)(hs:P.underlying s=some (.struct fs))(hf:fs[i]?=some f)
  (hg:CK P f.type=some true) (hn:qG P f.type=some n) (hz:eV y=some z) (h:eo C bp M (.DL f.offset n z)=some x):∃v w',rj P o a w v w'/\iV j M w x v w':=by
 simp only[eo] at h;have h1:=cZ he hz;split at h
 ·rename_i cs e;split at h
  ·cases h;rw[e] at h1;obtain⟨us,hv,hl,hu⟩:=h1.mY;refine⟨.agg (us.extract f.offset (f.offset+n)),w,.inl ?_,.still hr (.agg jO fun p c u hc hu'=>?_)⟩
   ·simp[execOp,hop,Instr.field,eb hs,hf,asAgg,hv,part,lK hg,js hn]
   grind
  ·cases h
 ·cases h
theorem WT(hr:Rel j M w)(he:cq j M w bp a){y:Operand}{z:fY}{s:TypeId}{fs:Array Field}{f:Field}{i:Nat}(hop:o.op = .fieldAddr s y i)(hs:P.underlying s=some (.struct fs))(hf:fs[i]?=some f)
  {n:Nat} (hn:qG P f.type=some n) (hpos:0<n) (hz:eV y=some z) (h:eo C bp M (.yF f.offset z)=some x):∃v w',rj P o a w v w'/\iV j M w x v w':=by
 simp only[eo] at h;have h1:=cZ he hz
 have hrun:∀b off,a.eval y = .pointer (some ⟨b,off,none⟩)->(execOp a.eval o).run P w = .ok (.value (.pointer (some ⟨b,off+f.offset,none⟩))) w:=by
  intro b off hv;have hne:n≠0:=aH;simp[execOp,hop,Instr.fieldAt,eb hs,hf,Instr.sureAddr,hv,fieldPlace,js hn,hne,lV]
 split at h
 ·rename_i id off e;cases h;rw[e] at h1;obtain⟨b,h2,h3,h4,hv⟩:=h1.qq;exact⟨_,w,.inl (hrun _ _ hv),.still hr (.ptr h2 h3 h4)⟩
 ·rename_i cs e;cases h;rw[e] at h1;obtain⟨b,off,vs,hv,hc⟩:=h1.uz;refine⟨_,w,.inl (hrun _ _ hv),.still hr (.jF (vs:=fun k=>vs (f.offset+k)) fun k c hk=>?_)⟩
  rw[cS] at hk;have:=hc _ c hk;rw[Nat.add_assoc];omega
 ·rename_i id v0 i0 o0 e;cases h;rw[e] at h1;obtain⟨⟨b,q,hv⟩,h2,h3,h4⟩:=h1.sF;refine⟨_,w,.inl (hrun _ _ hv),.still hr (.jv ⟨_,_,rfl⟩ h2 h3 fun sz v' xs hM=>?_)⟩
  grind
 grind
end
theorem Y9(l:List UInt8):∀(n i:Nat)(acc:List UInt8),i+n=l.length->ByteArray.toList.loop (bs l) i acc=acc.reverse++l.drop i:=by
 intro n;induction n with
 |zero =>
  simp_all [bs,ByteArray.size,ByteArray.toList.loop]
 |succ n ih =>
  intro i acc h;have hs:(bs l).size=l.length:=by rfl
  rw[ByteArray.toList.loop,aZ aH]
  grind [bs,ByteArray.get!,List.reverse_cons,List.append_assoc,List.singleton_append,List.drop_eq_getElem_cons]
def vy(l:List UInt8):(bs l).toList=l:=by
 rw[ByteArray.toList,Y9 l l.length 0 _ dw]; rfl
def MV(l:List UInt8):(bs l).size=l.length:=by rfl
def Ks:∀a b:List UInt8,Op.bytesLess a b=strLt a b
 | [],[]=>rfl
 | [],_::_=>rfl
 |_::_,[]=>rfl
 |a::x,b::y=>by simp[Op.bytesLess,strLt,Ks x y]
def yY(a:List UInt8)(l h:Nat):(bs a).extract l h=bs ((a.take h).drop l):=by
 apply ByteArray.ext;simp[bs,List.drop_take]
section
variable {P:Program} {C:eL} {o:Oper} {bp:Env} {M:aC} {j:J} {w:World} {a:Act} {x:ag×aC}
def PK(op:BinOp)(t:TypeId)(y z:Operand)(k k':IntKind)(m n:Int):(eqGuard op t y z (.int k m) (.int k' n)).run P w = .ok () w:=by
 simp[eqGuard]
def PL(op:BinOp)(t:TypeId)(y z:Operand)(m n:ByteArray):(eqGuard op t y z (.string m) (.string n)).run P w = .ok () w:=by
 simp[eqGuard]
def DY(op:BinOp)(t:TypeId)(y z:Operand)(m n:Bool):(eqGuard op t y z (.bool m) (.bool n)).run P w = .ok () w:=by
 simp[eqGuard]
theorem Y5{op:BinOp}{b:OB}(hb:O9 op=some b){t:TypeId}{k k':IntKind}{m n:Int}{r:ag}(h:p7 b (.int k m) (.int k' n)=some r) :
  ∃v,(binOp op t (.int k m) (.int k' n)).run P w = .ok v w/\fP w (nM j M w) r v:=by
 cases op<;>simp only[O9,reduceCtorEq,ga] at hb<;>subst hb<;>simp only[p7] at h
 case shl =>
  split at h
  ·rename_i hn;cases h;exact⟨_,by simp[binOp,Op.shift,Int.not_lt.2 hn],.int _ _⟩
  ·cases h
 case shr =>
  split at h
  ·rename_i hn;cases h;exact⟨_,by simp[binOp,Op.shift,Int.not_lt.2 hn],.int _ _⟩
  grind
 case quo =>
  split at h
  ·cases h
  ·rename_i hk;split at h
   ·cases h
   ·rename_i hn;cases h;have hk:k=k':=jO;subst hk;exact⟨_,by simp[binOp,Op.intDiv,hn],.int _ _⟩
 case rem =>
  split at h
  ·cases h
  ·rename_i hk;split at h
   ·cases h
   ·rename_i hn;cases h;have hk:k=k':=jO;subst hk;exact⟨_,by simp[binOp,Op.intDiv,hn],.int _ _⟩
 case and =>
  split at h
  ·cases h
  ·rename_i hk;cases h;have hk:k=k':=jO;subst hk;exact⟨_,by simp[binOp,Op.intBits]; rfl,.int _ _⟩
 case or =>
  split at h
  ·grind
  ·rename_i hk;cases h;have hk:k=k':=jO;subst hk;exact⟨_,by simp[binOp,Op.intBits]; rfl,.int _ _⟩
 case andNot =>
  split at h
  ·grind
  ·rename_i hk;cases h;have hk:k=k':=jO;subst hk;exact⟨.int k (Ho k m n),by simp[binOp,Op.intBits,Ho],.int _ _⟩
 all_goals
  split at h
  ·cases h
  ·rename_i hk;cases h;have hk:k=k':=by simpa using hk
   subst hk
   first
    |exact⟨_,by simp[binOp,Op.intArith],.int _ _⟩
    |exact⟨_,by simp[binOp,Op.intCmp],.bool _⟩
theorem Y6{op:BinOp}{b:OB}(hb:O9 op=some b){t:TypeId}{m n:List UInt8}{r:ag}(h:p7 b (.str m) (.str n)=some r) :
  ∃v,(binOp op t (.string (bs m)) (.string (bs n))).run P w = .ok v w/\fP w (nM j M w) r v:=by
 cases op<;>simp only[O9,reduceCtorEq,ga] at hb<;>subst hb<;>simp only[p7,reduceCtorEq] at h
 case add =>
  split at h
  ·grind
  ·cases h;refine⟨.string (bs m++bs n),?_,by exact .str _⟩
   simp_all [binOp,Op.stringOp,MV,aQ]
 all_goals
  cases h;exact⟨_,by simp only[binOp,Op.stringOp,vy,Ks]; rfl,.bool _⟩
def WL(hr:Rel j M w)(he:cq j M w bp a){op:BinOp}{b:OB}{y y':Operand}{z z':fY}{t t':TypeId}(hop:o.op = .binOp op t y y' t')(hb:O9 op=some b)(hz:eV y=some z)(hz':eV y'=some z')
  (h:eo C bp M (.bin b z z')=some x):∃v w',rj P o a w v w'/\iV j M w x v w':=by
 simp only[eo] at h;have h1:=cZ he hz;have h2:=cZ he hz';obtain⟨r,hr',h⟩:=bm h;cases h;generalize hu:z.ev bp=u at *;generalize hu':z'.ev bp=u' at *;cases u<;>cases u'<;>try (simp[p7] at hr'; done)
 ·rename_i k m k' n;obtain⟨v,hv,hp⟩:=Y5 (P:=P) (w:=w) (j:=j) (M:=M) (t:=t) hb hr';exact⟨v,w,.inl (by simp[execOp,hop,h1.fW,h2.fW,PK,hv]),.still hr (.plain hp)⟩
 ·rename_i m n;obtain⟨v,hv,hp⟩:=Y6 (P:=P) (w:=w) (j:=j) (M:=M) (t:=t) hb hr';exact⟨v,w,.inl (by simp[execOp,hop,h1.kH,h2.kH,PL,hv]),.still hr (.plain hp)⟩
theorem WS(hr:Rel j M w)(he:cq j M w bp a){neg:Bool}{y y':Operand}{z z':fY}{t t':TypeId}(hop:o.op = .binOp (if neg then .neq else .eql) t y y' t')(ht:P.underlying t=some .bool)
  (hz:eV y=some z) (hz':eV y'=some z') (h:eo C bp M (.eqB neg z z')=some x):∃v w',rj P o a w v w'/\iV j M w x v w':=by
 simp only[eo] at h;have h1:=cZ he hz;have h2:=cZ he hz';split at h
 ·rename_i m n e e';cases h;rw[e] at h1;rw[e'] at h2
  have heq:(Op.equal t (.bool m) (.bool n)).run P w = .ok (m==n) w:=by
   unfold Op.equal;rw[show Op.maxDepth=9999+1 from rfl,Op.equalIn]
   simp[eb ht]
  cases neg
  ·exact⟨.bool (m==n),w,.inl (by simp[execOp,hop,h1.jE,h2.jE,DY,binOp,heq]),.still hr (.plain (.bool _))⟩
  ·exact⟨.bool (!(m==n)),w,.inl (by simp[execOp,hop,h1.jE,h2.jE,DY,binOp,heq]),.still hr (.plain (.bool _))⟩
 grind
theorem qX{bp:Env}{a:Act}(he:cq j M w bp a){y:Operand}{z:fY}(hz:eV y=some z){n:Nat}{i:Int}(h:gA bp n (some z)=some i){m:Nat}(h0:0<=i)(h1:i<=m)(code:BoundsCode) :
  (Instr.sliceBound (a.eval y) m code).run P w = .ok i.toNat w:=by
 unfold gA at h;have h2:=cZ he hz;simp at h;split at h
 ·rename_i k i' e;cases h;rw[e] at h2;simp[Instr.sliceBound,h2.fW,asIntOf,h0,h1]
 grind
theorem qJ{y:Option Operand}{z:Option fY}(h:yZ y=some z):(y=none/\z=none)\/∃y' z',y=some y'/\z=some z'/\eV y'=some z':=by
 cases y with
 |none=>grind [yZ]
 |some y =>
  obtain⟨z',h1,h2⟩:=bf h
  grind
def we{bp:Env}{a:Act}(he:cq j M w bp a){lo hi:Option Operand}{lo' hi':Option fY}(hlo:yZ lo=some lo')(hhi:yZ hi=some hi'){len cap:Nat}{l h:Int}
  (h1:gA bp len hi'=some h) (h2:gA bp 0 lo'=some l) (hh0:0<=h) (hh:h<=len) (hl0:0<=l) (hl:l<=h) (hc:len<=cap) (isS:Bool) :
  (Instr.sliceBounds isS len cap (lo.map a.eval) (hi.map a.eval) none).run P w = .ok (l.toNat,h.toNat,cap) w:=by
 unfold Instr.sliceBounds;rcases qJ hhi with ⟨rfl,rfl⟩|⟨y,z,rfl,rfl,hz⟩<;>rcases qJ hlo with ⟨rfl,rfl⟩|⟨y',z',rfl,rfl,hz'⟩
 ·simp[gA] at h1 h2; subst h1; subst h2; rfl
 ·simp[gA] at h1; subst h1;have:=qX (P:=P) he hz' h2 hl0 aH .sliceB;simp_all
 ·simp[gA] at h2; subst h2;have:=qX (P:=P) he hz h1 hh0 (m:=cap) aH (if isS then .sliceAcap else .sliceAlen)
  simp_all
 ·have t1:=qX (P:=P) he hz h1 hh0 (m:=cap) aH (if isS then .sliceAcap else .sliceAlen)
  have t2:=qX (P:=P) he hz' h2 hl0 (m:=h.toNat) aH .sliceB;simp_all
theorem Qn(hr:Rel j M w)(he:cq j M w bp a){y:Operand}{lo hi:Option Operand}{z:fY}{lo' hi':Option fY}{t:TypeId}(hop:o.op = .slice t y lo hi none)(ht:P.underlying t=some .string)
  (hz:eV y=some z) (hlo:yZ lo=some lo') (hhi:yZ hi=some hi') (h:eo C bp M (.BI z lo' hi')=some x):∃v w',rj P o a w v w'/\iV j M w x v w':=by
 simp[eo] at h;have h1:=cZ he hz;split at h
 ·rename_i s e;obtain⟨hh,h2,h⟩:=bm h;obtain⟨l,h3,h⟩:=bm h;obtain⟨⟨c1,c2,c3,c4⟩,h⟩:=dq h;cases h;rw[e] at h1;have hb:=we (P:=P) he hlo hhi h2 h3 c1 c2 c3 c4 (av _) false;refine⟨.string _,w,.inl ?_,.still hr (.plain (.str _))⟩;simp[execOp,hop,Instr.sliceAt,eb ht,Instr.slice,h1.kH,MV,hb,yY]
 grind
theorem fP.part{iv:Nat->Nat->Prop}{xs:List ag}{A:Option Addr}{cap m l h n:Nat}(hx:fP w iv (.slice .sh xs) (.slice A xs.length cap))(hw:wid xs n)(hl:l<=h)(hh:h<=xs.length)(hm:h<=m) :
  fP w iv (.slice .sh ((xs.take h).drop l)) (.slice (if m=l then A else A.map (·.add (l*n))) (h-l) (m-l)):=by
 obtain⟨A',cap',b,off,sz,vs,hv,hc,ha,hz,hs,hrp⟩:=hx.er;injection hv with e1 e2 e3
 subst e1; subst e3;have dN:((xs.take h).drop l).length=h-l:=by simp_all
 refine .slice _ _ _ _ b (off+l*sz) sz (fun p=>vs (l*sz+p)) dN.symm aH (fun hne=>?_) (fun x hx=>hz x (dB (dA hx))) (fun i x k c hi hk=>?_) (fun i x k c hi hk=>?_)
 ·have:0<h-l:=by
   rw[<-dN]; exact gP.2 hne
  rw[aQ aH];have hne':xs≠[]:=jO;rw[ha hne']
  have:n=sz:=by
   obtain⟨x,r,rfl⟩:=fi hne';rw[<-hw x dw,hz x dw]
  simp[lV,this]
 ·grind
 grind
theorem abt(hr:Rel j M w)(he:cq j M w bp a){y:Operand}{lo hi mx:Option Operand}{z hi':fY}{t e:TypeId}{n:Nat}(hop:o.op = .slice t y lo hi mx)(ht:P.underlying t=some (.slice e))
  (hn:qG P e=some n) (hz:eV y=some z) (hlo:yZ lo=some none) (hhi:yZ hi=some (some hi')) (hmx:yZ mx=some none)
  (h:eo C bp M (.Pn n z hi')=some x):∃v w',rj P o a w v w'/\iV j M w x v w':=by
 simp only[eo] at h;have h1:=cZ he hz;split at h
 ·rename_i id v0 sz' al ah k hh ez eh;obtain⟨⟨hsz,ha,c1,c2⟩,h⟩:=dq h;cases h;subst hsz; subst ha;rw[ez] at h1;obtain⟨hs0,g1,g2,g3⟩:=h1.nh
  obtain⟨A,cap,hv,hc,hA⟩:∃A cap,a.eval y = .slice A (ah-0) cap/\ah-0<=cap/\(0<ah-0->∃b off,A=some ⟨b,off,none⟩):=by
   grind
  obtain⟨b,off,rfl⟩:=hA aH;rcases qJ hmx with ⟨rfl,_⟩|⟨_,_,_,hx,_⟩
  case inr=>cases hx
  have h2:gA bp (ah-0) (some hi')=some hh:=by simp[gA,eh]
  have hb:=we (P:=P) he hlo hhi (cap:=cap) h2 (l:=0) (by simp[gA]) c1 aH (dS _) c1 hc true
  rw[bO] at hb
  have hrun:(execOp a.eval o).run P w = .ok (.value (.slice (some ⟨b,off,none⟩) hh.toNat cap)) w:=by
   simp[execOp,hop,Instr.sliceAt,eb ht,Instr.slice,hv,hb,js hn,lV,show cap≠0 by omega]
  refine⟨_,w,.inl hrun,.still hr ?_⟩;refine .cE (.inl ⟨b,off,cap,dw,aH⟩) g1 g2 fun sz v' xs hM=>?_
  obtain⟨k1,k2⟩:=g3 sz v' xs hM;refine⟨k1,fun hev=>?_⟩
  obtain⟨l0,l1,l2,⟨rfl,_⟩|⟨b',cap',vs,t',l3,l4,l5,l6,l7⟩⟩:=k2 hev
  ·simp at l2; omega
  rw[hv] at l4;injection l4 with l4 l4' l4''
  injection l4 with l4; injection l4 with e1 e2 e3
  subst e1; subst e2; subst l4'';exact⟨l0,aH,aH,.inr ⟨b,cap,vs,t',l3,dw,aH,l6,l7⟩⟩
 ·cases h
theorem Gu(hr:Rel j M w)(he:cq j M w bp a){y:Operand}{lo hi mx:Option Operand}{z:fY}{lo' hi' mx':Option fY}{t e:TypeId}{n:Nat}(hop:o.op = .slice t y lo hi mx)(ht:P.underlying t=some (.slice e))
  (hn:qG P e=some n) (hz:eV y=some z) (hlo:yZ lo=some lo') (hhi:yZ hi=some hi') (hmx:yZ mx=some mx') (hmh:mx'.isNone=true\/hi'.isSome=true)
  (h:eo C bp M (.uA n z lo' hi' mx')=some x):∃v w',rj P o a w v w'/\iV j M w x v w':=by
 simp only[eo] at h;have h1:=cZ he hz;split at h
 ·rename_i tk xs ez;obtain⟨hw,h⟩:=dq h;obtain⟨hh,h2,h⟩:=bm h;obtain⟨l,h3,h⟩:=bm h;rw[ez] at h1;have hp:=h1.er;obtain⟨A,cap,b,off,sz,vs,hv,hc,_⟩:=hp.er;rw[hv] at hp;rcases qJ hmx with ⟨rfl,rfl⟩|⟨my,mz,rfl,rfl,hmz⟩
  ·simp only at h;obtain⟨⟨c1,c2,c3,c4⟩,h⟩:=dq h;cases h;have hb:=we (P:=P) he hlo hhi (cap:=cap) h2 h3 c1 c2 c3 c4 hc true;refine⟨_,w,.inl ?_,.still hr (.plain (hp.part (m:=cap) (l:=l.toNat) (h:=hh.toNat) hw aH aH aH))⟩;simp[execOp,hop,Instr.sliceAt,eb ht,Instr.slice,hv,hb,js hn]
  ·simp only at h;split at h
   ·rename_i mk m em;obtain⟨⟨c0,c0',c1,c2,c3,c4⟩,h⟩:=dq h;have hm:=cZ he hmz;rw[em] at hm
    have hmr:(Instr.sliceBound (a.eval my) cap .slice3Acap).run P w = .ok m.toNat w:=by
     simp[Instr.sliceBound,hm.fW,asIntOf,c0,show m<=cap by omega]
    have hbs:(Instr.sliceBounds true xs.length cap (lo.map a.eval) (hi.map a.eval) (some (a.eval my))).run P w = .ok (l.toNat,hh.toNat,m.toNat) w:=by
     unfold Instr.sliceBounds;rcases qJ hhi with ⟨rfl,rfl⟩|⟨hy,hz',rfl,rfl,hhz⟩
     ·simp at hmh
     ·have t1:=qX (P:=P) he hhz h2 c1 (m:=m.toNat) aH .slice3B;rcases qJ hlo with ⟨rfl,rfl⟩|⟨y',z',rfl,rfl,hz'⟩
      ·simp[gA] at h3; subst h3;simp[hmr,t1]
      ·have t2:=qX (P:=P) he hz' h3 c3 (m:=hh.toNat) aH .slice3C;simp[hmr,t1,t2]
    have hrun:(execOp a.eval o).run P w = .ok (.value (.slice (if m.toNat=l.toNat then A else A.map (·.add (l.toNat*n))) (hh.toNat-l.toNat) (m.toNat-l.toNat))) w:=by
     simp[execOp,hop,Instr.sliceAt,eb ht,Instr.slice,hv,hbs,js hn]
    rcases lI h with ⟨hm0,h⟩|⟨hm0,h⟩<;>(cases h)
    ·have hm0:m=0:=by simpa using hm0
     subst hm0;have e1:hh=0:=aH;have e2:l=0:=aH;subst e1; subst e2;exact⟨_,w,.inl hrun,.still hr (.c0 _)⟩
    ·exact⟨_,w,.inl hrun,.still hr (.plain (hp.part (m:=m.toNat) hw aH aH aH))⟩
   ·cases h
 ·rename_i id v0 sz' al ah ez;obtain⟨hsz,h⟩:=dq h;subst hsz;obtain⟨hh,h2,h⟩:=bm h;obtain⟨l,h3,h⟩:=bm h;rw[ez] at h1;obtain⟨hs0,g1,g2,g3⟩:=h1.nh
  obtain⟨A,cap,hv,hc,hA⟩:∃A cap,a.eval y = .slice A (ah-al) cap/\ah-al<=cap/\(0<ah-al->∃b off,A=some ⟨b,off,none⟩):=by
   grind
  have key:∀m:Nat,m<=cap->0<=l->l<hh->hh<=m->hh<=(ah-al:Nat)->gk j M w (.cE id v0 sz' (al+l.toNat) (al+hh.toNat)) (.slice (A.map (·.add (l.toNat*sz'))) (hh.toNat-l.toNat) (m-l.toNat)):=by
   intro m hmc hl0 hlh hhm hha;obtain⟨b,off,rfl⟩:=hA aH;simp only[ep,lV];have e0:al+hh.toNat-(al+l.toNat)=hh.toNat-l.toNat:=aH;have e6:hh.toNat-l.toNat<=m-l.toNat:=by clear g3 g2 h1 hv; omega
   have e7:al+l.toNat+(m-l.toNat)<=al+cap:=aH;have e8:al+l.toNat<=al+hh.toNat:=aH;have e9:al+hh.toNat<=ah:=by clear g3 g2 h1 hv; omega
   refine .cE (.inl ⟨b,off+l.toNat*sz',m-l.toNat,by rw[e0],by rw[e0]; exact e6⟩) g1 g2 fun sz v' xs hM=>?_
   obtain⟨k1,k2⟩:=g3 sz v' xs hM;refine⟨k1,fun hev=>?_⟩
   obtain⟨l0,l1,l2,⟨rfl,_⟩|⟨b',cap',vs,t',l3,l4,l5,l6,l7⟩⟩:=k2 hev
   ·simp at l2; omega
   rw[hv] at l4;injection l4 with l4 l4' l4''
   injection l4 with l4; injection l4 with e1 e2 e3
   subst e1; subst e2; subst l4'';exact⟨l0,e8,aY e9 l2,.inr ⟨b,m-l.toNat,vs,t',l3,by rw[e0,bP],by rw[e0]; exact e6,l6,aY (bd _ e7) l7⟩⟩
  rcases qJ hmx with ⟨rfl,rfl⟩|⟨my,mz,rfl,rfl,hmz⟩
  ·simp only at h;obtain⟨⟨c1,c2,c3,c4⟩,h⟩:=dq h;have hb:=we (P:=P) he hlo hhi (cap:=cap) h2 h3 c1 c2 c3 c4 hc true
   have hrun:(execOp a.eval o).run P w = .ok (.value (.slice (if cap=l.toNat then A else A.map (·.add (l.toNat*sz'))) (hh.toNat-l.toNat) (cap-l.toNat))) w:=by
    simp[execOp,hop,Instr.sliceAt,eb ht,Instr.slice,hv,hb,js hn]
   rcases lI h with ⟨hm0,h⟩|⟨hm0,h⟩<;>(cases h)
   ·have:l=hh:=by simpa using hm0
    subst this;refine⟨_,w,.inl hrun,.still hr (.plain ?_)⟩;rw[Nat.sub_self];exact fP.nil _ _ _
   ·have:l≠hh:=by simpa using hm0
    rw[aQ aH] at hrun;exact⟨_,w,.inl hrun,.still hr (key cap (av _) c3 aH aH c2)⟩
  ·simp only at h;split at h
   ·rename_i mk m em;obtain⟨⟨c0,c0',c1,c2,c3,c4⟩,h⟩:=dq h;have hm:=cZ he hmz;rw[em] at hm
    have hmr:(Instr.sliceBound (a.eval my) cap .slice3Acap).run P w = .ok m.toNat w:=by
     simp[Instr.sliceBound,hm.fW,asIntOf,c0,show m<=cap by omega]
    have hbs:(Instr.sliceBounds true (ah-al) cap (lo.map a.eval) (hi.map a.eval) (some (a.eval my))).run P w = .ok (l.toNat,hh.toNat,m.toNat) w:=by
     unfold Instr.sliceBounds;rcases qJ hhi with ⟨rfl,rfl⟩|⟨hy,hz',rfl,rfl,hhz⟩
     ·simp at hmh
     ·have t1:=qX (P:=P) he hhz h2 c1 (m:=m.toNat) aH .slice3B;rcases qJ hlo with ⟨rfl,rfl⟩|⟨y',z',rfl,rfl,hz'⟩
      ·simp[gA] at h3; subst h3;simp[hmr,t1]
      ·have t2:=qX (P:=P) he hz' h3 c3 (m:=hh.toNat) aH .slice3C;simp[hmr,t1,t2]
    have hrun:(execOp a.eval o).run P w = .ok (.value (.slice (if m.toNat=l.toNat then A else A.map (·.add (l.toNat*sz'))) (hh.toNat-l.toNat) (m.toNat-l.toNat))) w:=by
     simp[execOp,hop,Instr.sliceAt,eb ht,Instr.slice,hv,hbs,js hn]
    rcases lI h with ⟨hm0,h⟩|⟨hm0,h⟩
    ·cases h;have hm0:m=0:=by simpa using hm0
     subst hm0;have e1:hh=0:=aH;have e2:l=0:=aH;subst e1; subst e2;exact⟨_,w,.inl hrun,.still hr (.c0 _)⟩
    ·rcases lI h with ⟨hm1,h⟩|⟨hm1,h⟩<;>(cases h)
     ·have:l=hh:=by simpa using hm1
      subst this;refine⟨_,w,.inl hrun,.still hr (.plain ?_)⟩;rw[Nat.sub_self];exact fP.nil _ _ _
     ·have:l≠hh:=by simpa using hm1
      rw[aQ aH] at hrun;exact⟨_,w,.inl hrun,.still hr (key m.toNat aH c3 aH aH aH)⟩
   ·cases h
 ·cases h
theorem WU(hr:Rel j M w)(he:cq j M w bp a){y i:Operand}{z z':fY}{t e:TypeId}{n:Nat}(hop:o.op = .indexAddr t y i)(ht:P.underlying t=some (.slice e))(hn:qG P e=some n)
  (hz:eV y=some z) (hz':eV i=some z') (h:eo C bp M (.ui n z z')=some x):∃v w',rj P o a w v w'/\iV j M w x v w':=by
 simp only[eo] at h;have h1:=cZ he hz;have h2:=cZ he hz';split at h
 ·rename_i tk xs k m ez ez';obtain⟨h0,h⟩:=dq h;obtain⟨el,hel,h⟩:=bm h;split at h
  ·rename_i hwd;cases h;rw[ez] at h1;rw[ez'] at h2;obtain⟨A,cap,b,off,sz,vs,hv,hc,ha,hsz,hs,hrp⟩:=h1.er.er;have cQ:=aN hel;have hne:xs≠[]:=by rintro rfl; simp at cQ
   have hA:=ha hne;have hsz':sz=n:=by rw[<-hwd]; exact(hsz el (aJ hel)).symm
   subst hsz';subst hA;refine⟨.pointer (some ⟨b,off+m.toNat*sz,none⟩),w,.inl ?_,.still hr (.jF (vs:=fun q=>vs (m.toNat*sz+q)) fun q c hq=>?_)⟩
   ·have hm:m<xs.length:=aH;simp[execOp,hop,Instr.indexAt,eb ht,hv,h2.fW,asIntOf,h0,hm,js hn,lV]
   grind
  ·cases h
 ·rename_i id v0 sz' lo hi k m ez ez';obtain⟨⟨h0,hm,hsz⟩,h⟩:=dq h;cases h;subst hsz;rw[ez] at h1;rw[ez'] at h2;have hlt0:lo+m.toNat<hi:=aH;obtain⟨b,off,cap,hv,hcap⟩:=h1.YU aH;obtain⟨_,g1,g2,g3⟩:=h1.nh;refine⟨.pointer (some ⟨b,off+m.toNat*sz',none⟩),w,.inl ?_,.still hr (.jv ⟨_,_,rfl⟩ g1 g2 fun sz v' xs hM=>?_)⟩
  ·simp[execOp,hop,Instr.indexAt,eb ht,hv,h2.fW,asIntOf,h0,hm,js hn,lV]
  ·obtain⟨k1,k2⟩:=g3 sz v' xs hM;refine⟨k1,fun he=>?_⟩
   obtain⟨rfl,l1,l2,⟨rfl,_⟩|⟨b',cap',vs,t',l3,l4,l5,l6,l7⟩⟩:=k2 he
   ·exact absurd (bw hlt0 l2) dw
   rw[hv] at l4
   grind [Nat.lt_of_lt_of_le,Nat.add_mul]
 ·cases h
def Hz(b off:Nat)(u:Nat->Value):∀(n i:Nat)(acc:Array Value),(∀k,k<n->w.cell? ⟨b,off+(i+k),none⟩=some (u (i+k))) ->
  (loadCellsFrom ⟨b,off,none⟩ i n acc).run P w = .ok (acc++((List.range n).map fun k=>u (i+k)).toArray) w:=by
 intro n;induction n with
 |zero=>simp[loadCellsFrom]
 |succ n ih =>
  intro i acc h;have h0:=h 0 dw;simp_all [loadCellsFrom,lV,List.range_succ_eq_map,Function.comp_def,Nat.add_comm,Nat.add_left_comm]
theorem pc(b off n:Nat)(u:Nat->Value)(h:∀k,k<n->w.cell? ⟨b,off+k,none⟩=some (u k)) :
  (loadCells ⟨b,off,none⟩ n).run P w = .ok (((List.range n).map u).toArray) w:=by
 have:=Hz (P:=P) (w:=w) b off u n 0 #[] jO
 grind [loadCells]
theorem xd{id b:Nat}{cs:List ag}(hr:Rel j M w)(hM:M[id]?=some (.cells cs))(hj:j id=some b):∃vs t,w.heap[b]?=some (.cells vs t (0,0))/\cs.length=vs.size /\
  (∀(q:Nat)(c:ag)(v:Value),cs[q]?=some c->vs[q]?=some v->gk j M w c v)/\∀q,w.cell? ⟨b,q,none⟩=vs[q]?:=by
 obtain⟨b',vs,t,h1,h2,h3,h4⟩:=hr.box _ _ hM
 grind [World.cell?]
theorem Iw(hr:Rel j M w){id ver i off sz:Nat}{xs:List ag}{v:Value}{el:ag}(hM:M[id]?=some (.arr sz ver xs))(h:gk j M w (.jv id ver i off) v)(hel:xs[i]?=some el) :
  ∃b,v = .pointer (some ⟨b,i*sz+off,none⟩)/\∀(k:Nat)(c:ag),el.cells[off+k]?=some c->∃u,w.cell? ⟨b,i*sz+off+k,none⟩=some u/\fP w (nM j M w) c u:=by
 obtain⟨_,_,_,g⟩:=h.sF;obtain⟨g1,b,g2,g3⟩:=(g _ _ _ hM).2 rfl;obtain⟨b',vs,t,k1,k2,k3,k4,k5⟩:=hr.w9 hM g2
 grind [World.cell?]
theorem WX(hr:Rel j M w)(he:cq j M w bp a){y:Operand}{z:fY}{t:TypeId}(hop:o.op = .load t y)(hg:CK P t=some false)(hz:eV y=some z)(h:eo C bp M (.rE z)=some x) :
  ∃v w',rj P o a w v w'/\iV j M w x v w':=by
 simp only[eo] at h;have h1:=cZ he hz;split at h
 ·rename_i id off e;rw[e] at h1;obtain⟨b,_,_,hj,hv⟩:=h1.qq;rw[fe] at h;split at h
  ·rename_i cs hM;obtain⟨c,hc,h⟩:=bm h;cases h;rw[fe] at hc;obtain⟨vs,t0,hw,hl,hcs,hcell⟩:=xd hr hM hj;have cQ:=aN hc;have hu:vs[off]?=some (vs[off]'(by omega)):=bg aH
   refine⟨_,w,.inl ?_,.still hr (hcs _ c _ hc hu)⟩;simp[execOp,hop,Instr.loadAt,Instr.sureAddr,hv,loadVar,lK hg,hcell,hu]
  grind
 ·rename_i cs e;rw[e] at h1;obtain⟨b,off,vs,hv,hc⟩:=h1.uz;obtain⟨c,hc0,h⟩:=bm h;cases h;rw[fe] at hc0;obtain⟨h2,_,h3⟩:=hc 0 c hc0;refine⟨_,w,.inl ?_,.still hr (.plain h3)⟩;simp_all [execOp,Instr.loadAt,Instr.sureAddr,loadVar,lK]
 ·rename_i id ver i off e;rw[e] at h1;rw[fe] at h;split at h
  ·rename_i sz v0 xs hM;split at h
   ·rename_i hv0;subst hv0;obtain⟨el,hel,h⟩:=bm h;obtain⟨c,hc,h⟩:=bm h;cases h;rw[fe] at hc;obtain⟨b,hv,hcell⟩:=Iw hr hM h1 hel;obtain⟨u,l1,l2⟩:=hcell 0 c aH;refine⟨u,w,.inl ?_,.still hr (.plain l2)⟩;simp_all [execOp,Instr.loadAt,Instr.sureAddr,loadVar,lK]
   grind
  ·cases h
 grind
theorem WY(hr:Rel j M w)(he:cq j M w bp a){y:Operand}{z:fY}{t:TypeId}{n:Nat}(hop:o.op = .load t y)(hg:CK P t=some true)(hn:qG P t=some n)(hz:eV y=some z)
  (h:eo C bp M (.mM n z)=some x):∃v w',rj P o a w v w'/\iV j M w x v w':=by
 simp only[eo] at h;have h1:=cZ he hz;split at h
 ·rename_i id off e;rw[e] at h1;obtain⟨b,_,_,hj,hv⟩:=h1.qq;rw[fe] at h;split at h
  ·rename_i cs hM;split at h
   ·rename_i hle;cases h;obtain⟨vs,t0,hw,hl,hcs,hcell⟩:=xd hr hM hj
    have hrun:=pc (P:=P) (w:=w) b off n (fun k=>(vs[off+k]?).getD undef) fun k hk=>by
     rw[hcell,bg aH]; simp
    refine⟨_,w,.inl (by simp[execOp,hop,Instr.loadAt,Instr.sureAddr,hv,loadVar,lK hg,js hn,hrun]; rfl),.still hr (.agg jO fun p c u hc hu=>?_)⟩
    grind
   ·cases h
  ·cases h
 ·rename_i cs e;split at h
  ·rename_i hle;cases h;rw[e] at h1;obtain⟨b,off,vs,hv,hc⟩:=h1.uz;have hrun:=pc (P:=P) (w:=w) b off n vs fun k hk=>(hc k _ (ai aH)).1
   refine⟨_,w,.inl (by simp[execOp,hop,Instr.loadAt,Instr.sureAddr,hv,loadVar,lK hg,js hn,hrun]; rfl),.still hr (.agg gr fun p c u hc' hu=>?_)⟩
   have hp:p<n:=by have:=aN hc'; simp_all
   rw[bG hp] at hc';have hu':u=vs p:=by simp_all
   subst hu';exact .plain (hc p c hc').2.2
  ·cases h
 ·rename_i id ver i off e;rw[e] at h1;rw[fe] at h;split at h
  ·rename_i sz v0 xs hM;split at h
   ·rename_i hv0;subst hv0;obtain⟨el,hel,h⟩:=bm h;split at h
    ·rename_i hle;cases h;obtain⟨b,hv,hcell⟩:=Iw hr hM h1 hel
     have hrun:=pc (P:=P) (w:=w) b (i*sz+off) n (fun k=>(w.cell? ⟨b,i*sz+off+k,none⟩).getD undef) fun k hk=>by
      obtain⟨u,l1,_⟩:=hcell k _ (ai aH);rw[l1]; rfl
     refine⟨_,w,.inl (by simp[execOp,hop,Instr.loadAt,Instr.sureAddr,hv,loadVar,lK hg,js hn,hrun]; rfl),.still hr (.agg gr fun p c u hc' hu=>?_)⟩
     have hp:p<n:=by have:=aN hc'; simp at this; omega
     rw[bG hp,cS] at hc';obtain⟨u',l1,l2⟩:=hcell p c hc';have hu':u=(w.cell? ⟨b,i*sz+off+p,none⟩).getD undef:=by simp_all
     rw[l1] at hu';subst hu';exact .plain l2
    ·cases h
   ·cases h
  ·cases h
 ·cases h
end
section
variable {P:Program} {C:eL} {o:Oper} {bp:Env} {M:aC} {j:J} {w:World} {a:Act} {x:ag×aC}
def tL{y:ag}{v:Value}{cs:List ag}(h:gk j M w y v)(hc:y.cells?=some cs):RC j M w cs v.cells:=by
 cases y<;>simp only[ag.cells?,ga,reduceCtorEq] at hc
 case agg cs' =>
  subst hc;obtain⟨vs,rfl,h1,h2⟩:=h.mY;exact⟨h1,h2⟩
 case raw u =>
  cases h with
  |plain h =>
   cases h with
   |raw _ h1 =>
    cases v<;>simp at hc<;>subst hc <;>
     exact⟨rfl,fun i c v hc hv=>by
      cases i with
      |zero=>simp[Value.cells] at hc hv; subst hc; subst hv; exact .plain (.raw _ h1)
      |succ i=>simp at hc⟩
 all_goals
  subst hc
  have hv:v.cells = #[v]:=by
   first
    |(have:=h.jE; subst this; rfl)
    |(have:=h.fW; subst this; rfl)
    |(have:=h.kH; subst this; rfl)
    |(obtain⟨A,cap,b,off,sz,vs,e,_⟩:=h.er.er; subst e; rfl)
    |(obtain⟨b,_,_,_,e⟩:=h.qq; subst e; rfl)
    |(obtain⟨b,off,vs,e,_⟩:=h.uz; subst e; rfl)
    |(obtain⟨vs,e,_⟩:=h.rC; subst e; rfl)
    |(obtain⟨b,_,_,e⟩:=h.vM; subst e; rfl)
    |(obtain⟨b,_,_,e⟩:=h.D4; subst e; rfl)
    |(obtain⟨b,es,cl,e,_⟩:=h.Jb; subst e; rfl)
    |(obtain⟨_,_,e⟩:=h.zG; subst e; rfl)
    |(obtain⟨⟨_,_,e⟩,_⟩:=h.sF; subst e; rfl)
    |(obtain⟨_,e,_⟩:=h.HB; subst e; rfl)
    |(obtain⟨_,_,_,e⟩:=h.Jz; subst e; rfl)
  rw[hv]
  exact⟨rfl,fun i c u hc hu=>by
   cases i with
   |zero=>simp at hc hu; subst hc; subst hu; exact h
   |succ i=>simp at hc⟩
theorem Dx{c:ag}{v:Value}(h:gk j M w c v)(hc:c.je=true):v.oneCell'=true:=by
 cases c<;>simp only[ag.je,af] at hc
 case bool=>have:=h.jE; subst this; rfl
 case int=>have:=h.fW; subst this; rfl
 case str=>have:=h.kH; subst this; rfl
 case slice=>obtain⟨A,cap,b,off,sz,vs,e,_⟩:=h.er.er; subst e; rfl
 case ptr=>obtain⟨b,_,_,_,e⟩:=h.qq; subst e; rfl
 case jF=>obtain⟨b,off,vs,e,_⟩:=h.uz; subst e; rfl
 case func=>obtain⟨vs,e,_⟩:=h.rC; subst e; rfl
 case iy=>obtain⟨b,_,_,e⟩:=h.vM; subst e; rfl
 case ka=>obtain⟨b,_,_,e⟩:=h.D4; subst e; rfl
 case kj=>obtain⟨b,es,cl,e,_⟩:=h.Jb; subst e; rfl
 case cE=>obtain⟨_,_,e⟩:=h.zG; subst e; rfl
 case jv=>obtain⟨⟨_,_,e⟩,_⟩:=h.sF; subst e; rfl
 case rb=>obtain⟨_,e,_⟩:=h.HB; subst e; rfl
 case kv=>obtain⟨_,_,_,e⟩:=h.Jz; subst e; rfl
 case raw u =>
  cases h with
  |plain h=>cases h<;>grind
theorem HC(hr:Rel j M w){cs:List ag}{vs:Array Value}(hc:RC j M w cs vs)(t:TypeId) :
  iV j M w (.ptr M.length 0,M++[.cells cs]) (.pointer (some ⟨w.heap.size,0,none⟩)) { w with heap:=w.heap.push (.cells vs t (0,0)) }:=by
 have q:Quiet w { w with heap:=w.heap.push (.cells vs t (0,0)) }:=⟨dw,rfl,rfl,rfl⟩
 have hb:∀b,b<w.heap.size->({ w with heap:=w.heap.push (.cells vs t (0,0)) }:World).heap[b]?=w.heap[b]?:=fun b hb=>by
  grind
 have hn:({ w with heap:=w.heap.push (.cells vs t (0,0)) }:World).heap[w.heap.size]?=some (.cells vs t (0,0)):=dw
 refine⟨gH j _ (some w.heap.size),hr.push (fun b h=>?_) q hb (fun _=>?_) (fun sz n b h=>jO),Ext.push (fun b h=>?_) q hb,.ptr dw ⟨cs,dw⟩ (by simp[gH])⟩
 ·grind
 ·exact⟨_,rfl,fun j' M' hx=>⟨vs,t,hn,hc.1,fun i c v h1 h2=>(hc.2 i c v h1 h2).mono hx⟩⟩
 grind
def ah1(hr:Rel j M w)(he:cq j M w bp a){y:Operand}{z:fY}{t:TypeId}(hop:o.op = .box t y)(hz:eV y=some z)(h:eo C bp M (.box z)=some x) :
  ∃v w',rj P o a w v w'/\iV j M w x v w':=by
 obtain⟨cs,hc,h⟩:=bm h;cases h;exact⟨_,_,.inl (by simp_all [execOp,Instr.box,newVar,newRow]),HC hr (tL (cZ he hz) hc) t⟩
def NZ(hr:Rel j M w){t:TypeId}{i:TypeInfo}{zv:Value}{l:List ag}(hop:o.op = .alloc t)(hi:P.info? t=some i)(hzv:i.zero=some zv)(hl:tu zv.cells.toList=some l)
  (h:eo C bp M (.yX l)=some x):∃v w',rj P o a w v w'/\iV j M w x v w':=by
 cases h;obtain⟨h1,h2⟩:=qH hl;refine⟨_,_,.inl (by simp[execOp,hop,Instr.alloc,zeroValue,pX hi,hzv]; rfl),HC hr ⟨aH,fun i c v hc hv=>h2 i c v hc jO⟩ t⟩
def W7(hr:Rel j M w)(he:cq j M w bp a){y:Operand}{z:fY}{n:Nat}(hop:o.op = .assign y)(hz:eV y=some z)(h:eo C bp M (.own n z)=some x) :
  ∃v w',rj P o a w v w'/\iV j M w x v w':=by
 simp only[eo] at h;split at h
 ·rename_i ez;cases h;have h1:=cZ he hz;rw[ez] at h1;have q:Quiet w w:=⟨av _,rfl,rfl,rfl⟩
  obtain⟨A,hA⟩:∃A,a.eval y = .slice A 0 0:=by
   generalize a.eval y=v at h1;cases h1 with
   |plain h=>cases h
   |c0 A=>simp
  refine⟨a.eval y,w,.inl (by simp_all [execOp]),gH j M.length none,?_⟩
  rw[hA];unfold Qw Qv;split
  ·refine⟨hr.push (ob:=none) (fun b h=>by cases h) q (fun _ _=>rfl) (fun h=>by cases h) (fun sz n b h h'=>by cases h') (fun sz ver xs h=>by injection h with e1 e2 e3; exact .inl ⟨e3.symm,rfl⟩),Ext.push (fun b h=>by cases h) q (fun _ _=>rfl),?_⟩
   refine .cE (.inr ⟨rfl,A,rfl⟩) dw (fun bx hbx=>by rw[kh] at hbx; cases hbx; rfl) fun sz' v' zs hx=>?_
   rw[kh] at hx; injection hx with hx; injection hx with e1 e2 e3
   subst e1; subst e2; subst e3;exact⟨av _,fun _=>⟨rfl,av _,av _,.inl ⟨rfl,by simp[gH],A,rfl⟩⟩⟩
  ·refine⟨hr.push (fun b h=>jO) q (fun _ _=>rfl) (fun h=>by cases h) (fun sz n b h h'=>jO),Ext.push (fun b h=>jO) q (fun _ _=>rfl),?_⟩
   exact .own (sz:=n) dw dw (fP.nil _ _ _) fun _ => .inl ⟨by simp[gH],rfl,A,rfl⟩
 ·exact Ai (C:=C) hr he (.inr hop) hz h
def pz(w:World)(b:Nat):Nat->List Value->World
 |_,[]=>w
 |off,v::r=>pz (w.setCell ⟨b,off,none⟩ v) b (off+1) r
def mu{b:Nat}{t:TypeId}:∀(l:List Value)(w:World)(off:Nat)(vs:Array Value),w.heap[b]?=some (.cells vs t (0,0))->off+l.length<=vs.size ->
  (pz w b off l).heap.size=w.heap.size/\(pz w b off l).os=w.os/\(pz w b off l).tape=w.tape/\(pz w b off l).output=w.output /\
  (∀b',b'≠b->(pz w b off l).heap[b']?=w.heap[b']?) /\
  ∃vs',(pz w b off l).heap[b]?=some (.cells vs' t (0,0))/\vs'.size=vs.size/\(∀p,p<off\/off+l.length<=p->vs'[p]?=vs[p]?)/\∀p,p<l.length->vs'[off+p]?=l[p]?:=by
 intro l;induction l with
 |nil=>intro w off vs h _; exact⟨rfl,rfl,rfl,rfl,fun _ _=>rfl,vs,h,rfl,fun _ _=>rfl,fun p hp=>by simp at hp⟩
 |cons v r ih =>
  intro w off vs h hle;simp only[au] at hle
  have hs:(w.setCell ⟨b,off,none⟩ v).heap[b]?=some (.cells (vs.setIfInBounds off v) t (0,0)):=by
   simp[World.setCell,gU,h]
  obtain⟨h1,h2,h3,h4,h5,vs',h6,h7,h8,h9⟩:=ih (w.setCell ⟨b,off,none⟩ v) (off+1) (vs.setIfInBounds off v) hs gr;refine⟨by simp only[pz]; rw[h1]; simp[World.setCell],by simp only[pz]; rw[h2]; rfl,by simp only[pz]; rw[h3]; rfl,by simp only[pz]; rw[h4]; rfl,fun b' hb'=>?_,vs',h6,by rw[h7]; simp,fun p hp=>?_,fun p hp=>?_⟩
  ·simp only[pz];rw[h5 b' hb'];simp[World.setCell,gU,eX hb']
  ·simp only[au] at hp;rw[h8 p aH,fE aH]
  ·cases p with
   |zero =>
    have:vs'[off]?=(vs.setIfInBounds off v)[off]?:=h8 off aH;rw[dj,this];simp[gZ];omega
   |succ p =>
    have:=h9 p (by simpa using hp)
    rw[show off+(p+1)=off+1+p by omega,this]
    simp
def nC{b:Nat}{t:TypeId}:∀(l:List Value)(w:World)(off i:Nat)(vs:Array Value),w.heap[b]?=some (.cells vs t (0,0))->off+i+l.length<=vs.size->(∀v,v∈l->v.oneCell'=true) ->
  (storeCells ⟨b,off,none⟩ l i).run P w = .ok () (pz w b (off+i) l):=by
 intro l;induction l with
 |nil=>simp[storeCells,pz]
 |cons v r ih =>
  intro w off i vs h hle hv;simp only[au] at hle
  have hs:(w.setCell ⟨b,off+i,none⟩ v).heap[b]?=some (.cells (vs.setIfInBounds (off+i) v) t (0,0)):=by
   simp[World.setCell,gU,h]
  have hc:w.cell? ⟨b,off+i,none⟩=some (vs[off+i]'(by omega)):=by
   simp[World.cell?,h]
  have hf:w.frozen? ⟨b,off+i,none⟩=false:=by simp[World.frozen?,h]
  have hi:=ih _ off (i+1) _ hs gr (fun u hu=>hv u (bu _ hu))
  simp[storeCells,lV,run_store P w _ v .plain (hv v _),hc,hf,aE,Result.andThen_ok,hi];rfl
theorem re{cs new:List ag}{off:Nat}(h:off+new.length<=cs.length)(p:Nat) :
  (mQ cs off new)[p]?=if off<=p/\p<off+new.length then new[p-off]? else cs[p]?:=by
 grind [mQ]
theorem vf{cs new:List ag}{off:Nat}(h:off+new.length<=cs.length):(mQ cs off new).length=cs.length:=by
 grind [mQ]
theorem AB{c:ag}{v:Value}(h:gk j M w c v)(hp:c.shut.plainCell=true):fP w (nM j M w) c.shut v:=by
 cases c<;>simp[ag.shut,ag.plainCell] at hp ⊢
 case bool=>have:=h.jE; subst this; exact .bool _
 case int=>have:=h.fW; subst this; exact .int _ _
 case str=>have:=h.kH; subst this; exact .str _
 case slice=>exact h.er
 case raw=>cases h<;>grind
theorem Cy{c:ag}(h:c.shut.plainCell=true):c.je=true:=by
 cases c<;>simp[ag.shut,ag.plainCell] at h<;>try rfl
 rename_i v;cases v<;>first|rfl|grind
def HI{c:ag}(h:c.plainCell=true):c.cells=[c]:=by
 cases c<;>first|rfl|cases h
theorem EH{e:ag}{off:Nat}{new:List ag}(h:off+new.length<=e.cells.length)(hp:new.all ag.plainCell=true):(putCells e off new).cells=mQ e.cells off new:=by
 by_cases hag:∃cs,e = .agg cs
 ·obtain⟨cs,rfl⟩:=hag;cases new<;>rfl
 ·have h1:e.cells=[e]:=by cases e<;>first|rfl|grind
  rw[h1] at h ⊢
  match new,h,hp with
  | [],h,_ =>
   have:putCells e off []=e:=by cases e<;>first|rfl|grind
   rw[this,h1]
   match off,h with
   |0,_=>rfl
   |1,_=>rfl
  | [c],h,hp =>
   have:putCells e off [c]=c:=by cases e<;>first|rfl|grind
   have h0:off=0:=jO;subst h0;rw[this,HI jO];rfl
  |_::_::_,h,_=>grind
theorem Ex(hr:Rel j M w)(he:cq j M w bp a){y y':Operand}{z z':fY}{t:TypeId}{n:Nat}(hop:o.op = .store t y y')(hn:qG P t=some n)(hz:eV y=some z)(hz':eV y'=some z')
  (h:eo C bp M (.store n z z')=some x):∃v w',rj P o a w v w'/\iV j M w x v w':=by
 simp only[eo] at h;have h1:=cZ he hz;have h2:=cZ he hz';split at h
 ·rename_i id off e;rw[e] at h1;obtain⟨b,_,_,hj,hv⟩:=h1.qq;rw[fe] at h;split at h
  ·rename_i cs hM;obtain⟨new,jq,h⟩:=bm h;split at h
   ·rename_i hcond;obtain⟨c1,c2,c3⟩:=hcond;cases h;obtain⟨vs,t0,hw,hl,hcs,hcell⟩:=xd hr hM hj;obtain⟨n1,n2⟩:=tL h2 jq
    have hone:∀v,v∈(a.eval y').cells.toList->v.oneCell'=true:=by
     intro v hv;obtain⟨p,hp,rfl⟩:=kg hv;have hp':p<(a.eval y').cells.size:=by simpa using hp
     have hpl:p<new.length:=aH;have hr':=n2 p _ _ (ai hpl) (bg hp');have:=Dx hr' (bK.1 c3 _ (jt hpl));simpa using this
    have hrun:=nC (P:=P) (a.eval y').cells.toList w off 0 vs hw gr hone;obtain⟨s1,s2,s3,s4,s5,vs',s6,s7,s8,s9⟩:=mu (a.eval y').cells.toList w off vs hw gr;have q:Quiet w (pz w b off (a.eval y').cells.toList):=⟨aH,s2,s3,s4⟩;have hle:off+new.length<=cs.length:=aH;rw[fH];refine⟨undef,pz w b off (a.eval y').cells.toList,.inr ⟨?_,rfl⟩,j,Rel.store hM rfl rfl hj hr q (fun b' hb' _=>s5 b' hb') (fun vs0 t1 fr h=>by rw[hw] at h; grind) (fun j' M' hx=>⟨vs',t0,s6,by rw[vf hle]; omega,fun p c v hc hv'=>gk.mono hx ?_⟩),Ext.store hM rfl rfl hj hr q (fun b' hb' _=>s5 b' hb') (fun vs0 t1 fr h=>by rw[hw] at h; grind),.any _⟩
    ·simp_all [dj,execOp,Instr.storeAt,Instr.sureAddr,storeVar,js]
    ·rw[re hle] at hc;split at hc
     ·rename_i hp;have h9:=s9 (p-off) gr;rw[show off+(p-off)=p by omega,hv'] at h9
      exact n2 (p-off) c v hc (by simpa using h9.symm)
     grind
   ·cases h
  ·cases h
 ·rename_i id ver i off e;rw[e] at h1;rw[fe] at h;split at h
  ·rename_i sz v0 xs hM;obtain⟨new,jq,h⟩:=bm h;obtain⟨el,hel,h⟩:=bm h;split at h
   ·rename_i hcond;obtain⟨hv0,c1,c2,c3⟩:=hcond;subst hv0;cases h;obtain⟨_,hid,_,hv⟩:=h1.sF;obtain⟨hi,b,hj,hv⟩:=(hv sz v0 xs hM).2 rfl;obtain⟨b',vs,t0,k1,hw,k3,k4,k5⟩:=hr.w9 hM hj;rw[hj] at k1; cases k1;have hsz:el.cells.length=sz:=k4 el (aJ hel)
    have hbd:i*sz+sz<=vs.size:=by
     refine aY ?_ k3
     calc i*sz+sz=(i+1)*sz:=by rw[bP]; omega
      _<=xs.length*sz:=bd _ hi
    obtain⟨n1,n2⟩:=tL h2 jq
    have hpl:∀(p:Nat)(c:ag),new[p]?=some c->c.shut.plainCell=true:=fun p c hc=>by
     rw[List.all_map,bK] at c3;exact c3 c (aJ hc)
    have hone:∀v,v∈(a.eval y').cells.toList->v.oneCell'=true:=by
     intro v hv;obtain⟨p,hp,rfl⟩:=kg hv;have hp':p<(a.eval y').cells.size:=by simpa using hp
     have hpl':p<new.length:=aH;have hr':=n2 p _ _ (ai hpl') (bg hp');have:=Dx hr' (Cy (hpl p _ (ai hpl')));simpa using this
    have hrun:=nC (P:=P) (a.eval y').cells.toList w (i*sz+off) 0 vs hw gr hone;obtain⟨s1,s2,s3,s4,s5,vs',s6,s7,s8,s9⟩:=mu (a.eval y').cells.toList w (i*sz+off) vs hw gr;have q:Quiet w (pz w b (i*sz+off) (a.eval y').cells.toList):=⟨aH,s2,s3,s4⟩;have hle:off+(new.map ag.shut).length<=el.cells.length:=gr;have hput:=EH hle c3
    have hw':∀vs0 t1,w.heap[b]?=some (.cells vs0 t1 (0,0))->∃vs1,(pz w b (i*sz+off) (a.eval y').cells.toList).heap[b]?=some (.cells vs1 t1 (0,0))/\vs1.size=vs0.size:=fun vs0 t1 h=>by
     rw[hw] at h; grind
    rw[fH,fH];refine⟨undef,pz w b (i*sz+off) (a.eval y').cells.toList,.inr ⟨?_,rfl⟩,j,Rel.FA hM hj hr q (fun b' hb' _=>s5 b' hb') hw' (av _) (fun _=>dw) (fun j' M' hx=>⟨vs',t0,s6,gr,fun x hx'=>?_,fun p x k c hp hk=>?_⟩),Ext.FA hM hj hr q (fun b' hb' _=>s5 b' hb') hw' (av _) (fun _=>dw),.any _⟩
    ·simp only[dj] at hrun;simp[execOp,hop,Instr.storeAt,Instr.sureAddr,hv,storeVar,js hn,show(a.eval y').cells.size=n by omega,hrun]
    ·rcases iA hx' with hx'|rfl
     ·exact k4 x hx'
     ·rw[hput,vf hle,hsz]
    ·have dN:(a.eval y').cells.toList.length=n:=gr
     by_cases hpi:i=p
     ·subst hpi;rw[fa hi] at hp;cases hp;rw[hput,re hle] at hk;split at hk
      ·rename_i hin;simp only[cz] at hin;rw[aX,aU] at hk;obtain⟨c0,hc0,rfl⟩:=hk;have h9:=s9 (k-off) aH;rw[show i*sz+off+(k-off)=i*sz+k by omega] at h9
       have cQ:k-off<(a.eval y').cells.size:=aH;have hu:(a.eval y').cells[k-off]?=some (a.eval y').cells[k-off]:=bg cQ;exact⟨_,by rw[h9]; simp,(AB (n2 _ c0 _ hc0 hu) (hpl _ c0 hc0)).mono hx.iv⟩
      ·rename_i hin;simp only[cz] at hin;obtain⟨u,u1,u2⟩:=k5 i el k c hel hk;exact⟨u,by rw[s8 _ aH]; exact u1,u2.mono hx.iv⟩
     ·rw[fc hpi] at hp;obtain⟨u,u1,u2⟩:=k5 p x k c hp hk;have hk':k<sz:=by rw[<-k4 x (aJ hp)]; exact aN hk
      refine⟨u,(s8 _ ?_).trans u1,u2.mono hx.iv⟩;rcases bA p i with cQ|hge
      ·left;have:=bd sz (show p+1<=i from cQ)
       rw[bP] at this;omega
      ·right;have:=bd sz (show i+1<=p by omega)
       rw[bP] at this;omega
   ·cases h
  ·cases h
 ·cases h
end
def XE(off:Nat):∀(l:List Value)(k:Nat)(cells:Array Value),
  ((l.zipIdx k).foldl (fun(cs:Array Value) (x:Value×Nat)=>cs.setIfInBounds (off+x.2) x.1) cells).size=cells.size /\
  ∀p,((l.zipIdx k).foldl (fun(cs:Array Value) (x:Value×Nat)=>cs.setIfInBounds (off+x.2) x.1) cells)[p]? =
   if off+k<=p/\p<off+k+l.length/\p<cells.size then l[p-(off+k)]? else cells[p]?:=by
 intro l;induction l with
 |nil=>intro k cells; exact⟨rfl,fun p=>gr⟩
 |cons v r ih =>
  intro k cells;rw[List.zipIdx_cons,eK];obtain⟨h1,h2⟩:=ih (k+1) (cells.setIfInBounds (off+k) v);refine⟨by rw[h1]; simp,fun p=>?_⟩
  rw[h2];simp only[Array.size_setIfInBounds,au]
  by_cases c1:off+(k+1)<=p/\p<off+(k+1)+r.length/\p<cells.size
  ·rw[aZ c1,aZ aH,show p-(off+k)=(p-(off+(k+1)))+1 by omega]
   simp
  ·rw[aQ c1]
   by_cases c2:p=off+k/\p<cells.size
   ·obtain⟨rfl,cQ⟩:=c2;rw[aZ aH];simp[gZ,cQ]
   ·rw[aQ aH]
    by_cases c3:p=off+k
    ·have:¬p<cells.size:=fun h=>c2 ⟨c3,h⟩
     rw[im gr,im aH]
    ·rw[fE aH]
def putRow(cells:Array Value)(off:Nat)(vs:Array Value):Array Value:=vs.zipIdx.foldl (fun cs (c,k)=>cs.setIfInBounds (off+k) c) cells
def Cw(cells:Array Value)(off:Nat)(vs:Array Value):(putRow cells off vs).size=cells.size /\
  ∀p,(putRow cells off vs)[p]?=if off<=p/\p<off+vs.size/\p<cells.size then vs[p-off]? else cells[p]?:=by
 have h:=XE off vs.toList 0 cells
 have e:putRow cells off vs=(vs.toList.zipIdx 0).foldl (fun(cs:Array Value) (x:Value×Nat)=>cs.setIfInBounds (off+x.2) x.1) cells:=by
  unfold putRow;rw[<-Array.foldl_toList];simp
 rw[e];exact⟨h.1,fun p=>by rw[h.2 p]; simp⟩
section
variable {P:Program} {C:eL} {o:Oper} {bp:Env} {M:aC} {j:J} {w:World} {a:Act} {x:ag×aC}
def RC.write{cs new:List ag}{cells vs:Array Value}{off:Nat}(h:RC j M w cs cells)(hn:RC j M w new vs)(hle:off+new.length<=cs.length):RC j M w (mQ cs off new) (putRow cells off vs):=by
 obtain⟨p1,p2⟩:=Cw cells off vs;have h1:=h.1;have h2:=hn.1;refine⟨by rw[vf hle,p1]; exact h1,fun i c v hc hv=>?_⟩
 rw[re hle] at hc;rw[p2] at hv
 have hi:i<cells.size:=by
  rcases bA i cells.size with hi|hi
  ·exact hi
  ·rw[aQ aH,im hi] at hv; cases hv
 split at hc
 ·rename_i hp;rw[aZ aH] at hv;exact hn.2 _ c v hc hv
 ·rename_i hp;rw[aQ aH] at hv;exact h.2 _ c v hc hv
def Wx{α β:Type}{g:α->Sem β}{f:α->β}:∀(l:List α),(∀x,x∈l->(g x).run P w = .ok (f x) w)->(l.mapM g).run P w = .ok (l.map f) w:=by
 intro l;induction l with
 |nil=>intro _; simp
 |cons y r ih =>
  intro h;simp[List.mapM_cons,h y dw,ih fun x hx=>h x (by simp[hx])]
def I7{fs:Array Field}(he:cq j M w bp a)(hfs:∀f,f∈fs.toList->(P.info? f.type).isSome=true):∀ {parts:List (Nat×Operand)} {ps:List (Nat×Nat×fY)} {cs cs':List ag} {cells:Array Value},
  AX P fs parts=some ps->mo bp cs ps=some cs'->RC j M w cs cells ->
  ∃cells',Instr.fill (fun i=>(fs.map fun f=>(f.offset,P.cellsOf f.type))[i]?) cells (parts.map fun p=>(p.1,a.eval p.2))=some cells'/\RC j M w cs' cells':=by
 intro parts;induction parts with
 |nil =>
  intro ps cs cs' cells h1 h2 h3;simp[AX] at h1; subst h1;simp[mo] at h2; subst h2;exact⟨cells,rfl,h3⟩
 |cons p r ih =>
  intro ps cs cs' cells h1 h2 h3;obtain⟨i,y⟩:=p;simp only[AX] at h1;obtain⟨f,hf,h1⟩:=bf h1;obtain⟨n,hn,h1⟩:=bf h1;obtain⟨z,hz,h1⟩:=bf h1;obtain⟨l,hl,h1⟩:=bf h1;cases h1;simp only[mo] at h2;obtain⟨new,jq,h2⟩:=bm h2;split at h2
  ·rename_i hc;obtain⟨c1,c2⟩:=hc;have hrc:=tL (cZ he hz) jq;obtain⟨inf,hinf,hsz⟩:=EY hn;have hco:P.cellsOf f.type=n:=by simp[Program.cellsOf,hinf,hsz]
   obtain⟨cells',e1,e2⟩:=ih hl h2 (h3.write (off:=f.offset) hrc aH);refine⟨cells',?_,e2⟩;have hs1:=hrc.1;have hs2:=h3.1;have hpl:(fs.map fun f=>(f.offset,P.cellsOf f.type))[i]?=some (f.offset,n):=by simp[hf,hco]
   simp only[aK,Instr.fill,hpl];rw[aQ gr];exact e1
  ·cases h2
def WN(hr:Rel j M w)(he:cq j M w bp a){t:TypeId}{parts:Array (Nat×Operand)}{fs:Array Field}{i:TypeInfo}{zv:Value}{l:List ag}{ps:List (Nat×Nat×fY)}(hop:o.op = .build t parts)
  (ht:P.underlying t=some (.struct fs)) (hi:P.info? t=some i) (hzv:i.zero=some zv) (hl:tu zv.cells.toList=some l) (hps:AX P fs parts.toList=some ps) (hfs:fs.all (fun f=>(P.info? f.type).isSome)=true)
  (h:eo C bp M (.build l ps)=some x):∃v w',rj P o a w v w'/\iV j M w x v w':=by
 simp only[eo] at h;obtain⟨cs,hcs,h⟩:=bm h;cases h;obtain⟨h1,h2⟩:=qH (j:=j) (M:=M) (w:=w) hl
 have hfs':∀f,f∈fs.toList->(P.info? f.type).isSome=true:=fun f hf=>by
  have:=Array.all_eq_true'.1 hfs f (by simpa using hf)
  simpa using this
 obtain⟨cells',e1,e2⟩:=I7 (P:=P) he hfs' hps hcs (cells:=zv.cells) ⟨by simpa using h1,fun i c v hc hv=>h2 i c v hc (by simpa using hv)⟩
 have hmap:(fs.mapM fun f=>do pure (f.offset,<-sizeOf f.type):Sem _).run P w = .ok (fs.map fun f=>(f.offset,P.cellsOf f.type)) w:=by
  rw[lP]
  have hm:=Wx (P:=P) (w:=w) (g:=fun f:Field=>(do pure (f.offset,<-sizeOf f.type):Sem _)) (f:=fun f:Field=>(f.offset,P.cellsOf f.type)) fs.toList fun f hf=>by
   obtain⟨inf,hinf⟩:=fA.1 (hfs' f hf);simp[sizeOf,pX hinf,Program.cellsOf,hinf]
  rw[Sem.run_map,hm,<-Array.toList_map];simp only[Result.andThen_ok,Array.toArray_toList]
 refine⟨.agg cells',w,.inl ?_,.still hr (.agg e2.1 e2.2)⟩;have e1':Instr.fill (fun i=>(fs.map fun f=>(f.offset,P.cellsOf f.type))[i]?) zv.cells (parts.map fun p=>(p.1,a.eval p.2)).toList=some cells':=by simpa using e1
 simp only[execOp,hop,Instr.build,zeroValue,Sem.run_bind,pX hi,Result.andThen_ok,hzv,Sem.run_pure,eb ht,hmap];simp only[e1',Sem.run_pure,Result.andThen_ok]
def Cx{y:ag}{v:Value}(h:gk j M w y v)(hp:y.fU.plain=true):y.fU.cells.length=v.cells.size /\
  ∀(k:Nat)(c:ag)(u:Value),y.fU.cells[k]?=some c->v.cells[k]?=some u->fP w (nM j M w) c u:=by
 by_cases hag:∃cs,y = .agg cs
 ·obtain⟨cs,rfl⟩:=hag;obtain⟨vs,rfl,h1,h2⟩:=h.mY;simp only[ag.fU,ag.plain,ag.cells,Value.cells] at hp ⊢;refine⟨by simpa using h1,fun k c u hc hu=>?_⟩
  rw[aX,aU] at hc;obtain⟨c0,hc0,rfl⟩:=hc;refine AB (h2 k c0 u hc0 hu) ?_;have:=bK.1 hp c0.shut (eJ.2 ⟨c0,aJ hc0,rfl⟩);exact this
 ·have hs:y.fU=y.shut:=by cases y<;>first|rfl|exact absurd ⟨_,rfl⟩ hag
  have hpl:y.shut.plainCell=true:=by
   rw[hs] at hp;cases y<;>first|exact hp|exact absurd ⟨_,rfl⟩ hag
  have hr:=AB h hpl;have hc1:y.shut.cells=[y.shut]:=by cases y<;>first|rfl|exact absurd ⟨_,rfl⟩ hag
  have hv1:v.cells = #[v]:=by
   cases y<;>simp only[ag.shut,ag.plainCell,af] at hpl
   case bool=>have:=h.jE; subst this; rfl
   case int=>have:=h.fW; subst this; rfl
   case str=>have:=h.kH; subst this; rfl
   case slice=>obtain⟨A,cap,b,off,sz,vs,e,_⟩:=h.er.er; subst e; rfl
   case raw=>cases h with|plain h=>cases h; cases v<;>simp_all [Value.cells]
  rw[hs,hc1,hv1];refine⟨rfl,fun k c u hc hu=>?_⟩
  cases k with
  |zero=>simp at hc hu; subst hc; subst hu; exact hr
  |succ k=>simp at hc
def Su{sz:Nat}:∀(l:List Value)(k:Nat)(cells:Array Value),(∀v,v∈l->v.cells.size=sz)->(k+l.length)*sz<=cells.size ->
  ∃cells',Instr.fill (fun i=>some (i*sz,sz)) cells ((l.zipIdx k).map fun x=>(x.2,x.1))=some cells'/\cells'.size=cells.size/\(∀p,p<k*sz->cells'[p]?=cells[p]?) /\
   ∀i v q,l[i]?=some v->q<sz->cells'[(k+i)*sz+q]?=v.cells[q]?:=by
 intro l;induction l with
 |nil=>intro k cells _ _; exact⟨cells,rfl,rfl,fun _ _=>rfl,fun i v q h=>by simp at h⟩
 |cons v r ih =>
  intro k cells hv hle;have hv0:=hv v dw;have hk1:(k+1)*sz=k*sz+sz:=mU k sz
  have hle':k*sz+sz<=cells.size:=by
   have:(k+1)*sz<=(k+(r.length+1))*sz:=bd _ aH;simp only[au] at hle;omega
  obtain⟨p1,p2⟩:=Cw cells (k*sz) v.cells;obtain⟨cells',e1,e2,e3,e4⟩:=ih (k+1) (putRow cells (k*sz) v.cells) (fun u hu=>hv u (by simp[hu])) (by rw[p1]; simp only[au] at hle; rw[show k+1+r.length=k+(r.length+1) by omega]; exact hle)
  refine⟨cells',?_,by rw[e2,p1],fun p hp=>?_,fun i u q hi hq=>?_⟩
  ·rw[List.zipIdx_cons,aK];simp only[Instr.fill];rw[aQ gr];exact e1
  ·rw[e3 p aH,p2,aQ aH]
  ·cases i with
   |zero =>
    simp at hi; subst hi;rw[dj,e3 _ aH,p2,aZ aH];congr 1;omega
   |succ i =>
    have:=e4 i u q (by simpa using hi) hq
    rw[show k+1+i=k+(i+1) by omega] at this
    exact this
def FH:∀ {l:List (Nat×Operand)} {k:Nat} {zs:List fY},G7 k l=some zs->∃ys:List Operand,l=(ys.zipIdx k).map (fun x=>(x.2,x.1))/\vA ys=some zs
 | [],k,zs,h=>by simp[G7] at h; subst h; exact⟨[],rfl,rfl⟩
 |(i,y)::r,k,zs,h=>by
  simp only[G7] at h;split at h
  ·rename_i hi;obtain⟨z,hz,h⟩:=bf h;obtain⟨l,hl,h⟩:=bf h;cases h;obtain⟨ys,e1,e2⟩:=FH hl;exact⟨y::ys,by rw[List.zipIdx_cons,aK,hi,e1],by simp[vA,hz,e2]⟩
  ·cases h
def Gl:∀ {zs:List fY} {sz:Nat} {l:List ag},tc bp sz zs=some l->l.length=zs.length /\
  ∀(i:Nat)(y:ag)(z:fY),l[i]?=some y->zs[i]?=some z->y=(z.ev bp).fU/\y.plain=true/\y.cells.length=sz
 | [],sz,l,h=>by simp[tc] at h; subst h; exact⟨rfl,fun i y z h=>by simp at h⟩
 |z::r,sz,l,h=>by
  simp only[tc] at h;split at h
  ·rename_i hc;obtain⟨l',hl,h⟩:=bm h;cases h;obtain⟨h1,h2⟩:=Gl hl;refine⟨by simp[h1],fun i y z' hy hz=>?_⟩
   cases i with
   |zero=>simp at hy hz; subst hy; subst hz; exact⟨rfl,hc.1,hc.2⟩
   |succ i=>exact h2 i y z' (by simpa using hy) (by simpa using hz)
  ·cases h
def pj(o:Obj):Quiet w { w with heap:=w.heap.push o }/\(∀b,b<w.heap.size->({ w with heap:=w.heap.push o }:World).heap[b]?=w.heap[b]?)/\({ w with heap:=w.heap.push o }:World).heap[w.heap.size]?=some o :=
 ⟨⟨dw,rfl,rfl,rfl⟩,fun b hb=>by
  show(w.heap.push _)[b]?=_
  rw[fV,aQ aH],dw⟩
def Br(he:cq j M w bp a){t e:TypeId}{len:Nat}{parts:Array (Nat×Operand)}{i:TypeInfo}{zs:List fY}{l:List ag}(hop:o.op = .buildSlice t len parts)(ht:P.underlying t=some (.slice e))
  (hi:P.info? e=some i) (hzs:G7 0 parts.toList=some zs) (dN:zs.length=len) (hroom:len*i.size<=2 ^ 24) (hzero:(i.zero.map fun z=>z.cells.size)=some i.size)
  (hl:tc bp i.size zs=some l):l.length=len/\wid l i.size/\∃cells':Array Value,cells'.size=len*i.size /\
   (execOp a.eval o).run P w = .ok (.value (.slice (some ⟨w.heap.size,0,none⟩) len len)) { w with heap:=w.heap.push (.cells cells' e (0,0)) } /\
   ∀(n:Nat)(y:ag)(k:Nat)(c:ag),l[n]?=some y->y.cells[k]?=some c->∃u,cells'[n*i.size+k]?=some u/\fP w (nM j M w) c u:=by
 obtain⟨ys,hys,hyz⟩:=FH hzs;obtain⟨l1,l2⟩:=Gl hl;obtain⟨y1,y2⟩:=uu he hyz
 obtain⟨zv,hzv,hzs'⟩:∃zv,i.zero=some zv/\zv.cells.size=i.size:=by
  cases hz:i.zero with
  |none=>rw[hz] at hzero; cases hzero
  |some zv=>rw[hz] at hzero; exact⟨zv,rfl,by simpa using hzero⟩
 have hvs:∀v,v∈ys.map a.eval->v.cells.size=i.size:=by
  intro v hv;obtain⟨y,hy,rfl⟩:=eJ.1 hv;obtain⟨p,hp,rfl⟩:=kg hy;have hpz:p<zs.length:=aH;have hpl:p<l.length:=aH;have hrep:=y2 p _ _ (ai hpz) (ai hp);obtain⟨e1,e2,e3⟩:=l2 p _ _ (ai hpl) (ai hpz);have:=(Cx hrep (by rw[<-e1]; exact e2)).1
  rw[<-e1] at this;omega
 let zero:Array Value:=if len*i.size=0 then #[] else zv.cells
 let cells0:Array Value:=(Array.range (len*i.size)).map (zero[· % zero.size]!)
 obtain⟨cells',f1,f2,f3,f4⟩:=Su (sz:=i.size) (ys.map a.eval) 0 cells0 hvs (by simp[cells0,<-dN,y1])
 have hfill:Instr.fill (fun k=>some (k*i.size,i.size)) cells0 (parts.map fun p=>(p.1,a.eval p.2)).toList=some cells':=by
  have:(parts.map fun p=>(p.1,a.eval p.2)).toList=((ys.map a.eval).zipIdx 0).map fun x=>(x.2,x.1):=by
   rw[Array.toList_map,hys,gI,List.zipIdx_map,gI];rfl
  rw[this]; exact f1
 have hrun:(execOp a.eval o).run P w = .ok (.value (.slice (some ⟨w.heap.size,0,none⟩) len len)) { w with heap:=w.heap.push (.cells cells' e (0,0)) }:=by
  simp only[execOp,hop,Instr.buildSlice,Sem.run_bind,eb ht,Result.andThen_ok,js (show qG P e=some i.size by simp[qG,hi]),aQ (show ¬len*i.size>2 ^ 24 by omega),Sem.run_pure]
  simp only[cells0] at hfill
  by_cases hc:len*i.size=0
  ·have hz:zero = #[]:=aZ hc;rw[hz] at hfill;rw[aZ hc];simp only[Sem.run_bind,Sem.run_pure,Result.andThen_ok,hfill];simp[newRow]
  ·have hz:zero=zv.cells:=aQ hc;rw[hz] at hfill;rw[aQ hc];simp only[zeroValue,Sem.run_bind,pX hi,Result.andThen_ok,hzv,Sem.run_pure,hfill];simp[newRow]
 have hel:∀(n:Nat)(y:ag)(k:Nat)(c:ag),l[n]?=some y->y.cells[k]?=some c->∃u,cells'[n*i.size+k]?=some u/\fP w (nM j M w) c u:=by
  intro n y k c hn hk;have hnl:=aN hn;have hz:=ai (show n<zs.length by omega)
  have hy:=ai (show n<ys.length by omega)
  obtain⟨e1,e2,e3⟩:=l2 n y _ hn hz;have hrep:=y2 n _ _ hz hy;obtain⟨s1,s2⟩:=Cx hrep (by rw[<-e1]; exact e2)
  rw[<-e1] at s1 s2;have hkl:=aN hk;have hu:=bg (show k<(a.eval ys[n]).cells.size by omega)
  have f:=f4 n (a.eval ys[n]) k (by simp[hy]) aH
  rw[aI] at f;exact⟨_,f.trans hu,s2 k c _ hk hu⟩
 refine⟨aH,fun y hy=>?_,cells',by first|(simp[f2,cells0])|(simp[f3,cells0]),hrun,hel⟩
 obtain⟨p,hp,rfl⟩:=kg hy;exact(l2 p _ _ (ai hp) (ai aH)).2.2
def N0(hr:Rel j M w)(he:cq j M w bp a){t e:TypeId}{len:Nat}{parts:Array (Nat×Operand)}{i:TypeInfo}{zs:List fY}(hop:o.op = .buildSlice t len parts)(ht:P.underlying t=some (.slice e))
  (hi:P.info? e=some i) (hzs:G7 0 parts.toList=some zs) (dN:zs.length=len) (hroom:len*i.size<=2 ^ 24) (hzero:(i.zero.map fun z=>z.cells.size)=some i.size)
  (h:eo C bp M (.lits i.size zs)=some x):∃v w',rj P o a w v w'/\iV j M w x v w':=by
 simp only[eo] at h;obtain⟨l,hl,h⟩:=bm h;obtain⟨hll,hwd,cells',_,hrun,hel⟩:=Br (w:=w) he hop ht hi hzs dN hroom hzero hl;obtain⟨q,hb,jq⟩:=pj (w:=w) (.cells cells' e (0,0));refine⟨_,_,.inl hrun,?_⟩;have ext:Ext j M w j M { w with heap:=w.heap.push (.cells cells' e (0,0)) }:=Ext.grow q.size rfl rfl rfl hb
 have rel:Rel j M { w with heap:=w.heap.push (.cells cells' e (0,0)) }:=hr.grow q.size rfl rfl rfl hb
 have key:fP { w with heap:=w.heap.push (.cells cells' e (0,0)) } (nM j M { w with heap:=w.heap.push (.cells cells' e (0,0)) }) (.slice .sh l) (.slice (some ⟨w.heap.size,0,none⟩) len len):=by
  refine .slice l _ _ _ w.heap.size 0 i.size (fun p=>(cells'[p]?).getD undef) hll.symm (av _) (fun _=>rfl) hwd (fun n y k c hn hk=>?_) (fun n y k c hn hk=>?_)
  ·obtain⟨u,hu,_⟩:=hel n y k c hn hk;refine⟨?_,dw,fun id hid hj=>?_,fun hx=>absurd (hr.zz _ _ hx) (ia _)⟩
   ·simp only[World.cell?,jq,aI,hu];rfl
   ·have:=hr.lt id _ hid hj;omega
  ·obtain⟨u,hu,hru⟩:=hel n y k c hn hk;rw[hu];exact hru.mono ext.iv
 injection h with h
 subst h;cases l with
 |nil =>
  have:len=0:=by simpa using hll.symm
  subst this;exact⟨j,rel,ext,.c0 _⟩
 |cons y r=>exact⟨j,rel,ext,.plain key⟩
def WW(hr:Rel j M w)(he:cq j M w bp a){t e:TypeId}{len:Nat}{parts:Array (Nat×Operand)}{i:TypeInfo}{zs:List fY}(hop:o.op = .buildSlice t len parts)(ht:P.underlying t=some (.slice e))
  (hi:P.info? e=some i) (hzs:G7 0 parts.toList=some zs) (dN:zs.length=len) (hroom:len*i.size<=2 ^ 24) (hzero:(i.zero.map fun z=>z.cells.size)=some i.size)
  (h:eo C bp M (.Gk i.size zs)=some x):∃v w',rj P o a w v w'/\iV j M w x v w':=by
 simp only[eo] at h;obtain⟨l,hl,h⟩:=bm h;cases h;obtain⟨hll,hwd,cells',hcs,hrun,hel⟩:=Br (w:=w) he hop ht hi hzs dN hroom hzero hl;obtain⟨q,hb,jq⟩:=pj (w:=w) (.cells cells' e (0,0));have hob:∀b,some w.heap.size=some b->w.heap.size<=b/\b<({ w with heap:=w.heap.push (.cells cells' e (0,0)) }:World).heap.size:=fun b h=>by cases h; simp
 have ext:Ext j M w (gH j M.length (some w.heap.size)) (M++[.tick i.size l.length]) { w with heap:=w.heap.push (.cells cells' e (0,0)) }:=Ext.push (fun b hb=>(hob b hb).1) q hb
 refine⟨_,_,.inl hrun,gH j M.length (some w.heap.size),hr.push hob q hb (fun h=>by cases h) (fun sz n b _ hb=>by cases hb; exact⟨cells',e,jq⟩),ext,?_⟩
 refine .own (sz:=i.size) (n:=l.length) dw (av _) ?_ fun _ => .inr ⟨w.heap.size,len,cells',e,by simp[gH],by rw[hll],jq,aH,aH⟩
 refine .slice l _ _ _ w.heap.size 0 i.size (fun p=>(cells'[p]?).getD undef) hll.symm (av _) (fun _=>rfl) hwd (fun n y k c hn hk=>?_) (fun n y k c hn hk=>?_)
 ·obtain⟨u,hu,_⟩:=hel n y k c hn hk;have hk':k<i.size:=by rw[<-hwd y (aJ hn)]; exact aN hk
  refine⟨?_,dw,fun id hid hj=>?_,fun hx=>absurd (hr.zz _ _ (by rw[<-ext.X]; exact hx)) (ia _)⟩
  ·simp only[World.cell?,jq,aI,hu];rfl
  ·have hid':id=M.length:=by
    rcases bA id M.length with h|h
    ·rw[show gH j M.length (some w.heap.size) id=j id by simp[gH,gJ h]] at hj
     exact absurd (hr.lt id _ h hj) (ia _)
    ·simp at hid; omega
   subst hid';refine⟨i.size,l.length,dw,?_⟩;have:=bd i.size (show n+1<=l.length from aN hn)
   rw[bP] at this;omega
 ·obtain⟨u,hu,hru⟩:=hel n y k c hn hk;rw[hu];exact hru.mono ext.iv
end
def gk.Dv{j:J}{M:aC}{w:World}{xs:List ag}{v:Value}(h:gk j M w (.slice .c0 xs) v):∃A,v = .slice A 0 0:=by
 cases h with
 |plain h=>cases h
 |c0 A=>simp
theorem gk.abF{j:J}{M:aC}{w:World}{k:Nat}{xs:List ag}{v:Value}(h:gk j M w (.slice (.own k) xs) v) :
  ∃sz n,M[k]?=some (.tick sz n)/\xs.length<=n/\fP w (nM j M w) (.slice .sh xs) v/\(xs.length=n->Ic j w k sz n v):=by
 cases h with
 |plain h=>cases h
 |own hk hn h ht=>grind
theorem FX(n:Nat):∀(r c:Nat),c<=2*n+1000->Builtin.growBy n r c<=2*n+1000
 |0,c,h=>h
 |r+1,c,h=>by
  unfold Builtin.growBy;split
  ·omega
  ·exact FX n r _ aH
theorem Er{n c:Nat}(h:c<n):Builtin.nextslicecap n c<=2*n+1000:=by
 grind [Builtin.nextslicecap,FX]
def fP.one{w:World}{iv:Nat->Nat->Prop}{c:ag}{v:Value}(h:fP w iv c v):v.oneCell'=true:=by
 cases h<;>first|rfl|omega
section
variable {P:Program} {C:eL} {o:Oper} {bp:Env} {M:aC} {j:J} {w:World} {a:Act} {x:ag×aC}
theorem FQ{iv:Nat->Nat->Prop}{xs:List ag}{v:Value}{size:Nat}(hx:fP w iv (.slice .sh xs) v)(hw:wid xs size)(hpos:0<size) :
  ∃u:Nat->Value,(∀w':World,w'.heap=w.heap->(Builtin.firstCells size xs.length v).run P w' = .ok (((List.range (xs.length*size)).map u).toArray) w') /\
   (∀(i:Nat)(y:ag)(k:Nat)(c:ag),xs[i]?=some y->y.cells[k]?=some c->fP w iv c (u (i*size+k))) /\
   ∀b,(∃n cap,v = .slice (some ⟨b,0,none⟩) n cap)->∀p,p<xs.length*size->w.cell? ⟨b,p,none⟩=some (u p):=by
 obtain⟨A,cap,b,off,sz,vs,hv,hc,ha,hz,hs,hr⟩:=hx.er
 by_cases hne:xs=[]
 ·subst hne;rw[hv];cases A<;>simp_all [Builtin.firstCells,loadCells,loadCellsFrom]
 ·have hsz:sz=size:=by
   obtain⟨y,r,rfl⟩:=fi hne;rw[<-hz y dw,hw y dw]
  subst hsz;have hA:=ha hne;subst hA
  have hcell:∀p,p<xs.length*sz->w.cell? ⟨b,off+p,none⟩=some (vs p):=by
   intro p hp;have hd:p / sz<xs.length:=(kX hpos).2 hp;have hm:p % sz<sz:=nA _ hpos;have hy:=ai hd;have hcl:=hw _ (jt hd);have:=(hs (p / sz) _ (p % sz) _ hy (ai aH)).1;rw[Nat.div_add_mod'] at this;omega
  refine⟨vs,fun w' hw'=>?_,hr,fun b' hb' p hp=>?_⟩
  ·rw[hv]
   have hc':∀p,p<xs.length*sz->w'.cell? ⟨b,off+p,none⟩=some (vs p):=fun p hp=>by
    grind [World.cell?]
   exact pc (P:=P) b off (xs.length*sz) vs hc'
  grind
theorem fP.join{w':World}{saf':Nat->Nat->Prop}{xs ys:List ag}{size:Nat}(hwx:wid xs size)(hwy:wid ys size)(hpos:0<size){ux uy:Nat->Value}
  (hx:∀(i:Nat)(y:ag)(k:Nat)(c:ag),xs[i]?=some y->y.cells[k]?=some c->fP w' saf' c (ux (i*size+k)))
  (hy:∀(i:Nat)(y:ag)(k:Nat)(c:ag),ys[i]?=some y->y.cells[k]?=some c->fP w' saf' c (uy (i*size+k)))
  {b:Nat} {arr:Array Value} {t:TypeId} (harr:w'.heap[b]?=some (.cells arr t (0,0))) (h1:∀p,p<xs.length*size->arr[p]?=some (ux p)) (h2:∀p,p<ys.length*size->arr[xs.length*size+p]?=some (uy p))
  (hs:∀p,p<(xs.length+ys.length)*size->saf' b p) {cap:Nat} (hc:xs.length+ys.length<=cap):fP w' saf' (.slice .sh (xs++ys)) (.slice (some ⟨b,0,none⟩) (xs.length+ys.length) cap):=by
 have cQ:∀(i k n:Nat),i<n->k<size->i*size+k<n*size:=by
  intro i k n hi hk;have:(i+1)*size<=n*size:=bd _ hi;rw[mU] at this;omega
 have cas:∀(i:Nat)(y:ag),(xs++ys)[i]?=some y->(i<xs.length/\xs[i]?=some y)\/(∃i',i=xs.length+i'/\ys[i']?=some y):=by
  grind
 refine .slice _ _ _ _ b 0 size (fun p=>if p<xs.length*size then ux p else uy (p-xs.length*size)) dw hc (fun _=>rfl) (fun y hy'=>?_) (fun i y k c hi hk=>?_) (fun i y k c hi hk=>?_)
 ·rcases bo.1 hy' with h|h
  ·exact hwx y h
  ·exact hwy y h
 ·have hkl:=aN hk;rw[aI];rcases cas i y hi with ⟨hil,hxi⟩|⟨i',rfl,hyi⟩
  ·have hk':k<size:=by rw[<-hwx y (aJ hxi)]; omega
   have hp:=cQ i k _ hil hk';refine⟨?_,hs _ (cQ i k _ aH hk')⟩;rw[aZ hp,<-h1 _ hp];simp[World.cell?,harr]
  ·have hk':k<size:=by rw[<-hwy y (aJ hyi)]; exact hkl
   have hil:=aN hyi;have hp:=cQ i' k _ hil hk';refine⟨?_,hs _ (cQ _ k _ aH hk')⟩;have he:(xs.length+i')*size+k=xs.length*size+(i'*size+k):=by rw[bP]; omega
   rw[he,aQ dw,iY,<-h2 _ hp];simp[World.cell?,harr]
 ·have hkl:=aN hk;rcases cas i y hi with ⟨hil,hxi⟩|⟨i',rfl,hyi⟩
  ·have hk':k<size:=by rw[<-hwx y (aJ hxi)]; exact hkl
   rw[aZ (cQ i k _ hil hk')];exact hx i y k c hxi hk
  ·have he:(xs.length+i')*size+k=xs.length*size+(i'*size+k):=by rw[bP]; omega
   rw[he,aQ dw,iY]
   grind
theorem qO{t t' e:TypeId}{d':TypeDesc}{v':Value}{i:TypeInfo}{zv:Value}(hs:P.underlying t=some (.slice e))(hs':P.underlying t'=some d')(hd':∀k,d' ≠ .int k)(hi:P.info? e=some i)(hz:i.zero=some zv)(hb0:0<i.bytes)(hb1:i.bytes<=2 ^ 20)
  (ty:TypeId) {bS:Option Addr} {n cap m:Nat} {tV new:Array Value} (dN:∀w':World,(Builtin.lenOf v').run P w' = .ok m w')
  (hold:∀w':World,w'.heap=w.heap->(Builtin.firstCells i.size n (.slice bS n cap)).run P w' = .ok tV w') (jq:∀w':World,w'.heap=w.heap->(Builtin.firstCells i.size m v').run P w' = .ok new w')
  (hroom:(n+m)*i.bytes<=2 ^ 44) :
  (n+m<=cap->∀w',(match bS with|some ad=>(storeCells (ad.add (n*i.size)) new.toList).run P w = .ok () w'|none=>w'=w)->(Builtin.append_ #[t,t'] ty #[.slice bS n cap,v']).run P w = .ok (.slice bS (n+m) cap) w') /\
  (cap<n+m->∃newCap rest,n+m<=newCap/\rest.size=(newCap-(n+m))*zv.cells.size /\
   (Builtin.append_ #[t,t'] ty #[.slice bS n cap,v']).run P w = .ok (.slice (some ⟨w.heap.size,0,none⟩) (n+m) newCap) { w with heap:=w.heap.push (.cells (tV++new++rest) e (0,0)),drawn:=w.drawn+1 }):=by
 have hsz:(sizeOf e).run P w = .ok i.size w:=js (by grind [qG])
 refine⟨fun hle w' hst=>?_,fun cQ=>?_⟩
 ·have h1:=jq w rfl;unfold Builtin.append_;simp only[List.getElem?_toArray,gm,da,Sem.run_bind,eb hs,eb hs',Result.andThen_ok,hsz,Sem.run_pure];simp only[af,aE,dN,Result.andThen_ok,dH,aF,aZ hle,h1,Sem.run_bind];cases bS with
  |none=>simp_all
  |some ad=>simp_all
 ·have hcapb:¬Builtin.nextslicecap (n+m) cap*i.bytes>2 ^ 48:=by
   have h1:=Er cQ;have h2:Builtin.nextslicecap (n+m) cap*i.bytes<=(2*(n+m)+1000)*i.bytes:=bd _ h1
   grind
  let q:Question := .appendCap (n+m) cap e
  refine⟨q.cut (w.tape w.drawn q),Builtin.zeroCells zv.cells (q.cut (w.tape w.drawn q)-(n+m)),by grind [Question.cut],by simp[Builtin.zeroCells],?_⟩
  have h1:=hold w.drew rfl;have h2:=jq w.drew rfl;have hne:i.bytes≠0:=aH;have hqf:q.forced=false:=rfl;unfold Builtin.append_;simp only[List.getElem?_toArray,gm,da,Sem.run_bind,eb hs,eb hs',Result.andThen_ok,hsz,Sem.run_pure];simp only[af,aE,dN,Result.andThen_ok,dH,aF,aQ (Nat.not_le.2 cQ),Sem.run_bind];simp[pX hi,hne,hcapb,h1,h2,zeroValue,hz,newRow,q,Question.forced];rfl
theorem Iu(hr:Rel j M w){c:Call}{y y':Operand}{t t' e:TypeId}{d':TypeDesc}{i:TypeInfo}{zv:Value}(hop:o.op = .call c)(hb:c.callee = .builtin .append)(ha:c.args.toList=[y,y'])
  (hat:c.argTypes = #[t,t']) (hs:P.underlying t=some (.slice e)) (hs':P.underlying t'=some d') (hd':∀k,d' ≠ .int k) (hi:P.info? e=some i) (hz:i.zero=some zv) (hzs:zv.cells.size=i.size) (hpos:0<i.size) (hb0:0<i.bytes) (hb1:i.bytes<=2 ^ 20)
  {tk:Tk} {xs ys:List ag} (r1:gk j M w (.slice tk xs) (a.eval y)) (dN:∀w':World,(Builtin.lenOf (a.eval y')).run P w' = .ok ys.length w') {uy:Nat->Value}
  (fy1:∀w':World,w'.heap=w.heap->(Builtin.firstCells i.size ys.length (a.eval y')).run P w' = .ok (((List.range (ys.length*i.size)).map uy).toArray) w')
  (fy2:∀(q:Nat)(y:ag)(k:Nat)(c:ag),ys[q]?=some y->y.cells[k]?=some c->fP w (nM j M w) c (uy (q*i.size+k)))
  (h:cu (cB (xs.length+ys.length) i.bytes/\wid xs i.size/\wid ys i.size) (
    match tk with
    | .c0=>match xs with|[]=>some (.slice (.own M.length) ys,M++[.tick i.size ys.length])|_=>none
    | .own k=>match nth M k with
     |some (.tick sz' n)=>cu (sz'=i.size/\n=xs.length) (some (.slice (.own k) (xs++ys),jo M k (.tick i.size (xs.length+ys.length))))
     |_=>none
    | .sh=>none)=some x):∃v w' j',rj P o a w v w'/\Rel j' x.2 w'/\Ext j M w j' x.2 w'/\gk j' x.2 w' x.1 v/\(ys=[]->v=a.eval y/\∀k,tk = .own k->j'=j)/\∀k b',tk = .own k->j' k=some b'->j k=some b'\/∃vs,w'.heap[b']?=some (.cells vs e (0,0)):=by
 obtain⟨⟨hroom,hwx,hwy⟩,h9⟩:=dq h;clear h;have h:=h9;clear h9;have p1:=r1.er;obtain⟨ux,fx1,fx2,fx3⟩:=FQ (P:=P) p1 hwx hpos;obtain⟨bS,cap,_,_,_,_,hv,hcap,_⟩:=p1.er;have ha':c.args = #[y,y']:=by rw[<-ha]
 have hexec:∀r,(Builtin.append_ #[t,t'] o.type #[a.eval y,a.eval y']).run P w=r->(execOp a.eval o).run P w=r.andThen fun v w' => .ok (.value v) w':=by
  intro r hr';simp[execOp,hop,resolve,hb,invoke,builtin,ha',hat,hr']
 rw[hv] at fx1;obtain⟨A1,A2⟩:=qO (P:=P) (w:=w) hs hs' hd' hi hz hb0 hb1 o.type (bS:=bS) (n:=xs.length) (cap:=cap) (m:=ys.length) dN fx1 fy1 hroom;rw[<-hv] at A1 A2
 -- nothing is appended
 have nil:ys=[]->∃v,(execOp a.eval o).run P w = .ok (.value v) w/\v=a.eval y:=by
  intro hy;subst hy;refine⟨_,?_,rfl⟩
  have:=A1 (by simp; exact hcap) w (by
   cases bS with
   |none=>rfl
   |some ad=>simp[storeCells])
  rw[hexec _ this];simp[hv]
 -- a new block
 have fresh:cap<xs.length+ys.length->∃newCap arr w',xs.length+ys.length<=newCap/\(execOp a.eval o).run P w = .ok (.value (.slice (some ⟨w.heap.size,0,none⟩) (xs.length+ys.length) newCap)) w' /\
   Quiet w w'/\(∀b,b<w.heap.size->w'.heap[b]?=w.heap[b]?)/\w'.heap[w.heap.size]?=some (.cells arr e (0,0))/\newCap*i.size<=arr.size /\
   (∀p,p<xs.length*i.size->arr[p]?=some (ux p))/\∀p,p<ys.length*i.size->arr[xs.length*i.size+p]?=some (uy p):=by
  intro cQ;obtain⟨newCap,rest,h1,h2,h3⟩:=A2 cQ;obtain⟨q,hbk,jq⟩:=pj (w:=w) (.cells (((List.range (xs.length*i.size)).map ux).toArray++((List.range (ys.length*i.size)).map uy).toArray++rest) e (0,0));refine⟨newCap,_,{ w with heap:=w.heap.push (.cells (((List.range (xs.length*i.size)).map ux).toArray++((List.range (ys.length*i.size)).map uy).toArray++rest) e (0,0)),drawn:=w.drawn+1 },h1,(hexec _ h3).trans rfl,⟨q.size,rfl,rfl,rfl⟩,hbk,jq,?_,fun p hp=>?_,fun p hp=>?_⟩
  ·simp only[fZ,db,cz,List.length_range,h2,hzs];rw[<-bP,<-bP];exact bd _ aH
  ·rw[Array.append_assoc,cd (by simpa using hp)]
   simp[hp]
  ·rw[Array.append_assoc,Array.getElem?_append_right dw,cd gr];simp[hp]
 split at h
 ·-- c0
  split at h
  ·cases h;simp only[az,aI] at *
   have hc0:cap=0:=by
    obtain⟨A',hA'⟩:=r1.Dv;rw[hv] at hA';injection hA'
   by_cases hy:ys=[]
   ·subst hy;obtain⟨v,h1,h2⟩:=nil rfl;have q:Quiet w w:=⟨av _,rfl,rfl,rfl⟩;refine⟨v,w,gH j M.length none,.inl h1,hr.push (ob:=none) (fun b h=>by cases h) q (fun _ _=>rfl) (fun h=>by cases h) (fun sz n b h h'=>by cases h'),Ext.push (fun b h=>by cases h) q (fun _ _=>rfl),?_,fun _=>⟨h2,fun _ h=>by cases h⟩,fun _ _ h=>by cases h⟩
    rw[h2,hv,hc0];exact .own (sz:=i.size) (n:=0) dw dw (fP.nil _ _ _) fun _ => .inl ⟨by simp[gH],rfl,bS,rfl⟩
   ·have hyl:0<ys.length:=gP.2 hy;obtain⟨newCap,arr,w',g1,g2,g3,g4,g5,g6,g7,g8⟩:=fresh aH
    have hob:∀b,some w.heap.size=some b->w.heap.size<=b/\b<w'.heap.size:=fun b hb=>by
     cases hb; exact⟨av _,lt_of_block g5⟩
    have ext:Ext j M w (gH j M.length (some w.heap.size)) (M++[.tick i.size ys.length]) w':=Ext.push (fun b hb=>(hob b hb).1) g3 g4
    refine⟨_,w',gH j M.length (some w.heap.size),.inl g2,hr.push hob g3 g4 (fun h=>by cases h) (fun sz n b _ hb=>jO),ext,?_,fun h=>absurd h hy,fun _ _ h=>by cases h⟩
    have hsaf:∀p,p<(0+ys.length)*i.size->nM (gH j M.length (some w.heap.size)) (M++[.tick i.size ys.length]) w' w.heap.size p:=by
     intro p hp;refine⟨lt_of_block g5,fun id hid hj=>?_,fun hx=>absurd (hr.zz _ _ hx) (ia _)⟩
     by_cases hid':id=M.length
     ·subst hid'; exact⟨i.size,ys.length,dw,by simpa using hp⟩
     ·have:=hr.lt id w.heap.size (by simp at hid; omega) (by simpa[gH,hid'] using hj)
      omega
    have hj:=fP.join (xs:=[]) (ys:=ys) (w':=w') hwx hwy hpos (ux:=ux) (uy:=uy) (fun i y k c h=>by simp at h) (fun i y k c h1 h2=>(fy2 i y k c h1 h2).mono ext.iv) g5 (fun p hp=>by simp at hp) (fun p hp=>by simpa using g8 p hp) hsaf (cap:=newCap) (by simpa using g1)
    simp only[aP,az,aI] at hj;exact .own (sz:=i.size) (n:=ys.length) dw (av _) hj fun _ => .inr ⟨w.heap.size,newCap,arr,e,by simp[gH],rfl,g5,g6,g1⟩
  ·cases h
 ·-- own
  rename_i k;rw[fe] at h;split at h
  ·rename_i sz' n' hMk;obtain⟨⟨e1,e2⟩,hx⟩:=dq h;subst e1;subst e2;injection hx with hx
   subst hx;rw[fH];obtain⟨sz0,n0,hk,hn,hrp,ht⟩:=r1.abF
   ·rw[hMk] at hk;injection hk with hk; injection hk with e1 e2
    subst e1; subst e2
    by_cases hy:ys=[]
    ·subst hy;obtain⟨v,h1,h2⟩:=nil rfl
     have hset:M.set k (.tick i.size (xs.length+([]:List ag).length))=M:=by
      apply ct
      grind
     rw[h2] at h1;rw[hset,dz];exact⟨a.eval y,w,j,.inl h1,hr,Ext.refl j M w,r1,fun _=>⟨rfl,fun _ _=>rfl⟩,fun _ _ _ h => .inl h⟩
    ·have hyl:0<ys.length:=gP.2 hy
     have moved:cap<xs.length+ys.length->∃v w' j',rj P o a w v w'/\Rel j' (M.set k (.tick i.size (xs.length+ys.length))) w'/\Ext j M w j' (M.set k (.tick i.size (xs.length+ys.length))) w'/\gk j' (M.set k (.tick i.size (xs.length+ys.length))) w' (.slice (.own k) (xs++ys)) v/\(ys=[]->v=a.eval y/\∀k',Tk.own k = .own k'->j'=j)/\∀k' b',Tk.own k = .own k'->j' k'=some b'->j k'=some b'\/∃vs,w'.heap[b']?=some (.cells vs e (0,0)):=by
      intro cQ;obtain⟨newCap,arr,w',g1,g2,g3,g4,g5,g6,g7,g8⟩:=fresh cQ;have ext:Ext j M w (gH j k (some w.heap.size)) (M.set k (.tick i.size (xs.length+ys.length))) w':=Ext.Db hMk g3 g4 (av _) aH;refine⟨_,w',gH j k (some w.heap.size),.inl g2,Rel.Db hMk hr g3 g4 (av _) g5 aH,ext,?_,fun h=>absurd h hy,fun k' b' hk' hb' => .inr ⟨arr,(by grind [gH])⟩⟩
      have hsaf:∀p,p<(xs.length+ys.length)*i.size->nM (gH j k (some w.heap.size)) (M.set k (.tick i.size (xs.length+ys.length))) w' w.heap.size p:=by
       intro p hp;refine⟨lt_of_block g5,fun id hid hj=>?_,fun hx=>absurd (hr.zz _ _ hx) (ia _)⟩
       by_cases hid':id=k
       ·subst hid'; exact⟨i.size,_,ei (aN hMk),hp⟩
       ·have:=hr.lt id w.heap.size (by simpa using hid) (by simpa[gH,hid'] using hj)
        omega
      have hj:=fP.join (w':=w') hwx hwy hpos (ux:=ux) (uy:=uy) (fun i y k c h1 h2=>(fx2 i y k c h1 h2).mono ext.iv) (fun i y k c h1 h2=>(fy2 i y k c h1 h2).mono ext.iv) g5 g7 g8 hsaf (cap:=newCap) g1
      exact .own (sz:=i.size) (n:=xs.length+ys.length) (ei (aN hMk)) dw hj fun _ => .inr ⟨w.heap.size,newCap,arr,e,by simp[gH],rfl,g5,g6,g1⟩
     rcases ht rfl with ⟨_,hn0,A',hA'⟩|⟨b,cap0,vs,t0,hj,hv0,hw0,hsz0,hcap0⟩
     ·rw[hv] at hA';injection hA' with _ _ e3
      exact moved aH
     ·have hvv:=hv.symm.trans hv0;injection hvv with e1 e2 e3
      subst e1; subst e3
      by_cases hfit:xs.length+ys.length<=cap
      ·have jq:(((List.range (ys.length*i.size)).map uy).toArray).toList.length=ys.length*i.size:=dw
       have hle:xs.length*i.size+ys.length*i.size<=vs.size:=by
        rw[<-bP];exact aY (bd _ hfit) hsz0
       have hone:∀v,v∈(((List.range (ys.length*i.size)).map uy).toArray).toList->v.oneCell'=true:=by
        intro v hv;simp only[eJ,eY] at hv;obtain⟨p,hp,rfl⟩:=hv;have hd:p / i.size<ys.length:=(kX hpos).2 hp;have hm:p % i.size<i.size:=nA _ hpos;have hcl:=hwy _ (jt hd);have:=fy2 (p / i.size) _ (p % i.size) _ (ai hd) (ai aH);rw[Nat.div_add_mod'] at this;exact this.one
       have hst:=nC (P:=P) (((List.range (ys.length*i.size)).map uy).toArray).toList w (xs.length*i.size) 0 vs hw0 (by rw[jq]; omega) hone
       rw[dj] at hst;obtain⟨s1,s2,s3,s4,s5,vs',s6,s7,s8,s9⟩:=mu (((List.range (ys.length*i.size)).map uy).toArray).toList w (xs.length*i.size) vs hw0 (by rw[jq]; omega)
       have hrun:=A1 hfit _ (by
        show(storeCells ((⟨b,0,none⟩:Addr).add (xs.length*i.size)) _).run P w=_
        rw[lV,aI];exact hst)
       have q:Quiet w (pz w b (xs.length*i.size) (((List.range (ys.length*i.size)).map uy).toArray).toList):=⟨aH,s2,s3,s4⟩;have hkeep:∀p,p<xs.length*i.size->vs'[p]?=vs[p]?:=fun p hp=>s8 p (.inl hp)
       have ext:Ext j M w j (M.set k (.tick i.size (xs.length+ys.length))) (pz w b (xs.length*i.size) (((List.range (ys.length*i.size)).map uy).toArray).toList) :=
        Ext.HW hMk hj hr q (fun b' hb' _=>s5 b' hb') hw0 s6 s7 hkeep aH
       refine⟨_,_,j,.inl ((hexec _ hrun).trans rfl),Rel.HW hMk hj hr q (fun b' hb' _=>s5 b' hb') hw0 s6 s7 hkeep aH,ext,?_,fun h=>absurd h hy,fun _ _ _ h => .inl h⟩
       have hsaf:∀p,p<(xs.length+ys.length)*i.size->nM j (M.set k (.tick i.size (xs.length+ys.length))) (pz w b (xs.length*i.size) (((List.range (ys.length*i.size)).map uy).toArray).toList) b p:=by
        intro p hp;refine⟨lt_of_block s6,fun id hid hj'=>?_,hr.uM k b (aN hMk) hj p⟩
        have:id=k:=hr.inj id k b (by simpa using hid) (aN hMk) hj' hj
        subst this;exact⟨i.size,_,ei (aN hMk),hp⟩
       have hjn:=fP.join hwx hwy hpos (ux:=ux) (uy:=uy) (fun i y k c h1 h2=>(fx2 i y k c h1 h2).mono ext.iv) (fun i y k c h1 h2=>(fy2 i y k c h1 h2).mono ext.iv) s6 (fun p hp=>by
        rw[hkeep p hp];have:=fx3 b ⟨_,_,hv⟩ p hp;simpa[World.cell?,hw0] using this) (fun p hp=>by
        rw[s9 p (by rw[jq]; exact hp)]
        simp[hp]) hsaf (cap:=cap) hfit
       exact .own (sz:=i.size) (n:=xs.length+ys.length) (ei (aN hMk)) dw hjn fun _ => .inr ⟨b,cap,vs',t0,hj,rfl,s6,aH,hfit⟩
      ·exact moved aH
  ·cases h
 ·cases h
theorem Ml(hr:Rel j M w)(he:cq j M w bp a){c:Call}{y y':Operand}{z z':fY}{t t' e e':TypeId}{i:TypeInfo}{zv:Value}(hop:o.op = .call c)(hb:c.callee = .builtin .append)(ha:c.args.toList=[y,y'])
  (hat:c.argTypes = #[t,t']) (hs:P.underlying t=some (.slice e)) (hs':P.underlying t'=some (.slice e')) (hi:P.info? e=some i) (hz:i.zero=some zv) (hzs:zv.cells.size=i.size) (hpos:0<i.size) (hb0:0<i.bytes) (hb1:i.bytes<=2 ^ 20)
  (hzy:eV y=some z) (hzy':eV y'=some z') (h:eo C bp M (.append i.size i.bytes z z')=some x) (hna:∀id ver sz lo hi,z.ev bp ≠ .cE id ver sz lo hi):∃v w',rj P o a w v w'/\iV j M w x v w':=by
 simp[eo] at h;have r1:=cZ he hzy;have r2:=cZ he hzy';split at h
 ·rename_i tk xs tk' ys ez ez';obtain⟨⟨_,hwx,hwy⟩,_⟩:=dq h;rw[ez] at r1;rw[ez'] at r2;have p2:=r2.er;obtain⟨uy,fy1,fy2,_⟩:=FQ p2 hwy hpos;obtain⟨A,cap',_,_,_,_,hv',_⟩:=p2.er;obtain⟨v,w',j',q1,q2,q3,q4,_⟩:=Iu hr hop hb ha hat hs hs' (fun k h=>by cases h) hi hz hzs hpos hb0 hb1 r1 (fun w'=>by rw[hv']; rfl) fy1 fy2 h
  exact⟨v,w',q1,j',q2,q3,q4⟩
 ·grind
 grind
end
section
variable {P:Program} {C:eL} {o:Oper} {bp:Env} {M:aC} {j:J} {w:World} {a:Act} {x:ag×aC}
def LJ {f:Field} {k:FK} (h:Sw P f=some k):f.name ≠ "_" /\ CK P f.type=some false/\(match k with | .b=>P.underlying f.type=some .bool | .i=>∃q,P.underlying f.type=some (.int q) | .s=>P.underlying f.type=some .string):=by
 unfold Sw at h;split at h
 ·cases h
 ·rename_i hn;refine⟨hn,?_⟩
  split at h<;>first
   |(cases h; rename_i hu; exact⟨by simp[CK,hu],by first|exact hu|exact⟨_,hu⟩⟩)
   |cases h
def LF{d:Nat}{f:Field}{k:FK}(hf:Sw P f=some k){y z:ag}{u v:Value}(hu:gk j M w y u)(hv:gk j M w z v){e:Bool}(h:kC k y z=some e) :
  (Op.equalIn (d+1) f.type u v).run P w = .ok e w:=by
 have hk:=(LJ hf).2.2;unfold kC at h;split at h
 ·rename_i k1 a k2 b;obtain⟨q,hq⟩:=hk;split at h
  ·rename_i he;subst he;cases h;rw[hu.fW,hv.fW];exact run_equalIn_int w d f.type _ _ a b hq
  ·cases h
 ·rename_i a b;cases h;rw[hu.kH,hv.kH,run_equalIn_string w d f.type _ _ hk,vy,vy]
 ·rename_i a b;cases h;rw[hu.jE,hv.jE];exact run_equalIn_bool' w d f.type a b hk
 ·cases h
def zR{d:Nat}{cs ds:List ag}{us vs:Array Value}(hc:RC j M w cs us)(hd:RC j M w ds vs):∀ {l:List Field} {k:Nat} {ks:List FK} {e:Bool},Cg P k l=some ks->kZ ks (cs.drop k) (ds.drop k)=some e ->
  (Op.eqFields (d+1) us vs l).run P w = .ok e w
 | [],k,ks,e,h1,h2=>by
  simp[Cg] at h1; subst h1;unfold kZ at h2;split at h2<;>simp_all [Op.eqFields]
 |f::r,k,ks,e,h1,h2=>by
  simp only[Cg] at h1;split at h1
  ·rename_i hoff;obtain⟨q,hq,h1⟩:=bf h1;obtain⟨qs,hqs,h1⟩:=bf h1;cases h1
   have hk1:k<cs.length:=by
    rcases bA k cs.length with h|h
    ·exact h
    ·rw[iq h] at h2; simp[kZ] at h2
   have hk2:k<ds.length:=by
    rcases bA k ds.length with h|h
    ·exact h
    ·rw[iq h] at h2;rw[cL hk1] at h2;simp[kZ] at h2
   rw[cL hk1,cL hk2] at h2;simp only[kZ] at h2;obtain⟨e1,he1,h2⟩:=bm h2;obtain⟨e2,he2,h2⟩:=bm h2;cases h2;have hlu:k<us.size:=by have:=hc.1; omega
   have hlv:k<vs.size:=by have:=hd.1; omega
   have hu:=bg hlu;have hv:=bg hlv;have ih:=zR (d:=d) hc hd hqs he2;obtain⟨hn,hag,_⟩:=LJ hq;have p1:(part f.type us f.offset).run P w = .ok us[k] w:=by simp[part,lK hag,hoff,hu]
   have p2:(part f.type vs f.offset).run P w = .ok vs[k] w:=by simp[part,lK hag,hoff,hv]
   have p3:=LF (d:=d) hq (hc.2 k _ _ (ai hk1) hu) (hd.2 k _ _ (ai hk2) hv) he1;simp only[Op.eqFields,aZ hn,Sem.run_bind,p1,p2,p3,Result.andThen_ok];cases e1
   ·simp
   ·simpa using ih
  ·cases h1
def Na:∀ {l:List Field} {k:Nat} {ks:List FK},Cg P k l=some ks->∀f,f∈l->∃q,Sw P f=some q
 | [],_,_,_,f,hf=>by simp at hf
 |g::r,k,ks,h,f,hf=>by
  simp only[Cg] at h;split at h
  ·obtain⟨q,hq,h⟩:=bf h;obtain⟨qs,hqs,h⟩:=bf h;rcases bH.1 hf with rfl|hf
   ·exact⟨q,hq⟩
   ·exact Na hqs f hf
  ·cases h
def WQ(hr:Rel j M w)(he:cq j M w bp a){neg:Bool}{y y':Operand}{z z':fY}{t t':TypeId}{fs:Array Field}{ks:List FK}(hop:o.op = .binOp (if neg then .neq else .eql) t y y' t')(ht:P.underlying t=some (.struct fs))
  (hst:P.stoodInHeld t=false) (hks:Cg P 0 fs.toList=some ks) (hz:eV y=some z) (hz':eV y'=some z') (h:eo C bp M (.Q6 ks neg z z')=some x):∃v w',rj P o a w v w'/\iV j M w x v w':=by
 simp only[eo] at h;have h1:=cZ he hz;have h2:=cZ he hz';split at h
 ·rename_i cs ds ez ez';obtain⟨e,hee,h⟩:=bm h;cases h;rw[ez] at h1;rw[ez'] at h2;obtain⟨us,hus,hul,huc⟩:=h1.mY;obtain⟨vs,hvs,hvl,hvc⟩:=h2.mY;have hfs:P.fieldsOf t=fs:=by simp[Program.fieldsOf,ht]
  have heq:(Op.equal t (.agg us) (.agg vs)).run P w = .ok e w:=by
   unfold Op.equal;rw[show Op.maxDepth=9999+1 from rfl,run_equalIn_struct w 9999 t us vs (by rw[hfs]; exact ht) hst,hfs]
   exact zR (d:=9998) ⟨hul,huc⟩ ⟨hvl,hvc⟩ hks (by simpa using hee)
  have hgt:P.eqGuardType P.depth t=false:=by
   unfold Program.depth;rw[show 2*(P.types.size+Made.depth)+2=(2*(P.types.size+Made.depth)+1)+1 from rfl,Program.eqGuardType,ht]
   simp only;rw[Array.any_eq_false];intro i hi;obtain⟨q,hq⟩:=Na hks fs[i] dw;have:=(LJ hq).2.2;simp only[Program.eqGuardType];cases q<;>simp only at this
   ·obtain⟨_,hu⟩:=this; simp[hu]
   ·simp[this]
   ·simp[this]
  have hguard:∀op,(eqGuard op t y y' (.agg us) (.agg vs)).run P w = .ok () w:=by
   intro op;unfold eqGuard;cases op<;>simp[hgt]
  cases neg
  ·exact⟨.bool e,w,.inl (by simp[execOp,hop,hus,hvs,hguard,binOp,heq]),.still hr (.plain (.bool _))⟩
  ·exact⟨.bool (!e),w,.inl (by simp[execOp,hop,hus,hvs,hguard,binOp,heq]),.still hr (.plain (.bool _))⟩
 ·cases h
end
end
end
section
open Go Go.RowKit
variable [kx]
section
variable {j:J} {M:aC} {w w':World}
def BF(hr:Rel j M w):∀n,∃j',Rel j' (M++List.replicate n cV.vZ) w/\Ext j M w j' (M++List.replicate n cV.vZ) w
 |0=>⟨j,by simpa using hr,by simpa using Ext.refl j M w⟩
 |n+1=>by
  obtain⟨j',h1,h2⟩:=BF hr n;have q:Quiet w w:=⟨av _,rfl,rfl,rfl⟩;refine⟨gH j' (M++List.replicate n cV.vZ).length none,?_⟩;rw[nQ,<-cm];exact⟨h1.push (ob:=none) (bx := .vZ) (fun b h=>by cases h) q (fun _ _=>rfl) (fun h=>by cases h) (fun sz n b h h'=>by cases h'),h2.trans (Ext.push (fun b h=>by cases h) q (fun _ _=>rfl))⟩
def Ext.fill{p b:Nat}{cs:List ag}(hM:M[p]?=some .vZ)(hob:w.heap.size<=b)(q:Quiet w w')(hb:∀b,b<w.heap.size->w'.heap[b]?=w.heap[b]?) :
  Ext j M w (gH j p (some b)) (M.set p (.cells cs)) w' where
 len:=dw
 size:=q.size
 os:=q.os
 tape:=q.tape
 output:=q.output
 X:=rfl
 fix:=fun i bx h hf=>by
  have e:p≠i:=by rintro rfl; rw[hM] at h; cases h; cases hf
  exact⟨by simp[gH,eX e],bx,by rw[cX e]; exact h,rfl⟩
 tick:=fun i sz n h=>by
  have e:p≠i:=by rintro rfl; rw[hM] at h; cases h
  exact⟨n,av _,by rw[cX e]; exact h,fun _=>⟨by simp[gH,eX e],fun b vs t _ hv=>⟨vs,(hb b (lt_of_block hv)).trans hv,rfl⟩⟩⟩
 arr:=fun i sz v xs h=>by
  have e:p≠i:=by rintro rfl; rw[hM] at h; cases h
  exact .inr ⟨v,xs,by rw[cX e]; exact h,av _,fun _=>⟨by simp[gH,eX e],rfl,fun b vs t _ hv=>⟨vs,(hb b (lt_of_block hv)).trans hv,rfl⟩⟩⟩
 tags:=fun b0 vs0 t0 fr0 h=>⟨vs0,fr0,(hb b0 (lt_of_block h)).trans h,rfl⟩
 iv:=fun b0 off h=>by
  refine⟨⟨bw h.1 q.size,fun id hid hj=>?_,h.3⟩,World.cell?_of_block (w:=w) (hb b0 h.1)⟩
  by_cases he:id=p
  ·have:b=b0:=by simpa[gH,he] using hj
   have:=h.1;omega
  ·rw[cX (eX he)];exact h.2 id (by simpa using hid) (by simpa[gH,he] using hj)
 tV:=fun b0 cQ h=>by
  refine⟨hb b0 cQ,fun i hi hj=>?_⟩
  by_cases he:i=p
  ·have:b=b0:=by simpa[gH,he] using hj
   omega
  ·exact h i (by simpa using hi) (by simpa[gH,he] using hj)
def Rel.fill(hr:Rel j M w){p b:Nat}{cs:List ag}(hM:M[p]?=some .vZ)(hob:w.heap.size<=b)(hbl:b<w'.heap.size)(q:Quiet w w')(hb:∀b,b<w.heap.size->w'.heap[b]?=w.heap[b]?)
  (hbox:∀j' M',Ext j M w j' M' w'->Holds j' M' w' b (.cells cs)):Rel (gH j p (some b)) (M.set p (.cells cs)) w':=by
 have ext:Ext j M w (gH j p (some b)) (M.set p (.cells cs)) w':=Ext.fill hM hob q hb;have up:∀i,i≠p->gH j p (some b) i=j i:=fun i hi=>by simp[gH,hi]
 have hp:=aN hM;refine⟨fun i i' b0 hi hi' h h'=>?_,fun i b0 hi h=>?_,fun i bx' h hf=>?_,fun i sz n b0 h hj=>?_,fun i sz ver xs h=>?_,fun i b0 hi h off hx=>?_,fun b off h=>bw (hr.zz b off h) q.size⟩
 ·simp only[cA] at hi hi'
  by_cases e:i=p<;>by_cases e':i'=p
  ·omega
  ·have h1:b=b0:=by simpa[gH,e] using h
   rw[up i' e'] at h';have:=hr.lt i' b0 hi' h';omega
  ·have h1:b=b0:=by simpa[gH,e'] using h'
   rw[up i e] at h;have:=hr.lt i b0 hi h;omega
  ·rw[up i e] at h;rw[up i' e'] at h';exact hr.inj i i' b0 hi hi' h h'
 ·simp only[cA] at hi
  by_cases e:i=p
  ·have h1:b=b0:=by simpa[gH,e] using h
   omega
  ·rw[up i e] at h;exact bw (hr.lt i b0 hi h) q.size
 ·by_cases e:i=p
  ·subst e;rw[ei hp] at h;cases h;exact⟨b,by simp[gH],hbox _ _ ext⟩
  ·rw[cX (eX e)] at h;obtain⟨b0,h1,h2⟩:=hr.fix i bx' h hf;exact⟨b0,by rw[up i e]; exact h1,h2.mono ext (hb b0 (hr.lt i b0 (aN h) h1))⟩
 ·by_cases e:i=p
  ·subst e; rw[ei hp] at h; cases h
  ·rw[cX (eX e)] at h;rw[up i e] at hj;obtain⟨vs,t,h1⟩:=hr.tick i sz n b0 h hj;exact⟨vs,t,(hb b0 (lt_of_block h1)).trans h1⟩
 ·by_cases e:i=p
  ·subst e; rw[ei hp] at h; cases h
  ·rw[cX (eX e)] at h;exact qI hr ext h (up i e) fun b0 h1=>hb b0 (hr.lt i b0 (aN h) h1)
 ·simp only[cA] at hi
  by_cases e:i=p
  ·have h1:b=b0:=by simpa[gH,e] using h
   have h2:=hr.zz b0 off hx;omega
  ·rw[up i e] at h;exact hr.uM i b0 hi h off hx
def I6(hr:Rel j M w){p:Nat}(hM:M[p]?=some .vZ){cs:List ag}{vs:Array Value}(hc:RC j M w cs vs)(t:TypeId) :
  iV j M w (.ptr p 0,M.set p (.cells cs)) (.pointer (some ⟨w.heap.size,0,none⟩)) { w with heap:=w.heap.push (.cells vs t (0,0)) }:=by
 have q:Quiet w { w with heap:=w.heap.push (.cells vs t (0,0)) }:=⟨dw,rfl,rfl,rfl⟩
 have hb:∀b,b<w.heap.size->({ w with heap:=w.heap.push (.cells vs t (0,0)) }:World).heap[b]?=w.heap[b]?:=fun b hb=>by
  show(w.heap.push _)[b]?=_
  rw[fV,aQ aH]
 have hn:({ w with heap:=w.heap.push (.cells vs t (0,0)) }:World).heap[w.heap.size]?=some (.cells vs t (0,0)):=dw
 have hp:=aN hM;exact⟨gH j p (some w.heap.size),hr.fill hM (av _) dw q hb (fun j' M' hx=>⟨vs,t,hn,hc.1,fun i c v h1 h2=>(hc.2 i c v h1 h2).mono hx⟩),Ext.fill hM (av _) q hb,.ptr (by simpa using hp) ⟨cs,ei hp⟩ (by simp[gH])⟩
end
variable {P:Program} {own:List Nat} {o:Oper}
def OW{l:List ag}{t:TypeId}(hop:o.op = .alloc t)(h:Pa P own o=some (.yX l)):∃i zv,P.info? t=some i/\i.zero=some zv/\tu zv.cells.toList=some l:=by
 simp only[Pa,hop] at h;obtain⟨i,hi,h⟩:=bf h;obtain⟨z,hz,h⟩:=bf h;obtain⟨l',hl,h⟩:=bf h;split at h
 ·split at h
  ·split at h
   ·obtain⟨n,hn,h⟩:=bf h;cases h
   ·cases h
  ·injection h with h; cases h; exact⟨i,z,hi,hz,hl⟩
 ·injection h with h; cases h; exact⟨i,z,hi,hz,hl⟩
def OX{l:List ag}{t0:TypeId}(hop:o.op = .alloc t0)(h:Pa P own o=some (.yX l))(a:Act)(w:World):∃vs t,(∀j M w',RC j M w' l vs)/\rj P o a w (.pointer (some ⟨w.heap.size,0,none⟩)) { w with heap:=w.heap.push (.cells vs t (0,0)) }:=by
 obtain⟨i,zv,hi,hz,hl⟩:=OW hop h;refine⟨zv.cells,t0,fun j M w'=>?_,.inl (by simp[execOp,hop,Instr.alloc,zeroValue,pX hi,hz,newVar,newRow])⟩
 obtain⟨h1,h2⟩:=qH (j:=j) (M:=M) (w:=w') hl;exact⟨by simpa using h1,fun i c v hc hv=>h2 i c v hc (by simpa using hv)⟩
end
section
open Go Go.RowKit
variable [kx]
theorem zk{x:Nat}:∀(l a:List Nat),x∈ke a l↔x∈a\/x∈l
 | [],a=>by simp[ke]
 |y::r,a=>by
  rw[ke,zk r]
  grind
theorem rF:∀(l a:List Nat),a.Nodup->(ke a l).Nodup
 | [],a,h=>h
 |y::r,a,h=>by
  refine rF r _ ?_
  grind
def JW(M:aC)(l:List Nat):(reach M l).Nodup:=rF _ _ (rF _ _ (rF _ _ (rF _ _ lA)))
def Qc{M:aC}{l:List Nat}{x:Nat}(h:x∈l):x∈reach M l:=by
 simp_all [reach,kE,zk]
theorem Gp{M:aC}{x i:Nat}{b:cV}:∀ {l:List Nat},i∈l->M[i]?=some b->x∈b.ids->x∈qy M l
 | [],h,_,_=>jO
 |k::r,h,hb,hx=>by
  rw[qy,bo];rcases bH.1 h with rfl|h
  ·grind [fe]
  ·exact .inr (Gp h hb hx)
theorem Ph{M:aC}{ids:List Nat}(h:kE M ids=ids){i x:Nat}{b:cV}(hi:i∈ids)(hb:M[i]?=some b)(hx:x∈b.ids):x∈ids:=by
 rw[<-h,kE,zk]
 grind [Gp]
theorem uj:∀ {ids:List Nat} {x:Nat},x∈ids->ids[iw ids x]?=some x
 | [],_,h=>jO
 |a::l,x,h=>by
  rw[iw];split
  ·grind
  ·rcases bH.1 h with rfl|h
   ·omega
   ·simpa using uj h
def uX{ids:List Nat}{x:Nat}(h:x∈ids):iw ids x<ids.length:=aN (uj h)
theorem C3:∀ {ids:List Nat} {i x:Nat},ids.Nodup->ids[i]?=some x->iw ids x=i
 | [],i,x,_,h=>jO
 |a::l,i,x,hn,h=>by
  rw[iw];have hn':=oN.1 hn;cases i with
  |zero=>grind
  |succ i =>
   have h':l[i]?=some x:=jO;rw[aQ jO,C3 hn'.2 h']
def MS{ids:List Nat}{x:Nat}(h:x∈ids):wC ids (iw ids x)=x:=by rw[wC,fe,uj h]; rfl
def ae2{ids:List Nat}{i x:Nat}(h:ids[i]?=some x):wC ids i=x:=by rw[wC,fe,h]; rfl
theorem EE{M:aC}{ρ:Nat->Nat}:∀ {l:List Nat} {B:aC},j7 M ρ l=some B->B.length=l.length/\∀(i id:Nat),l[i]?=some id->∃b,M[id]?=some b/\b.flat=true/\B[i]?=some (b.pv ρ)
 | [],B,h=>by grind [j7]
 |k::r,B,h=>by
  simp[j7,fe] at h;split at h
  ·split at h
   ·obtain⟨l,hl,h⟩:=bm h;injection h with h; obtain⟨h1,h2⟩:=EE hl
    grind
   grind
  grind
theorem wz{ids:List Nat}:∀ {l:List Nat} {B M:aC},l.Nodup->l.length=B.length->(mc ids M l B).length=M.length/\(∀i,i∉l->(mc ids M l B)[i]?=M[i]?) /\
  ∀(i id:Nat)(b:cV),l[i]?=some id->id<M.length->B[i]?=some b->(mc ids M l B)[id]?=some (b.pv (wC ids))
 | [],B,M,_,_=>by simp[mc]
 |k::r,[],M,_,hl=>by simp at hl
 |k::r,b::B,M,hn,hl=>by
  rw[mc,fH];have hn':=oN.1 hn;obtain⟨h1,h2,h3⟩:=wz (ids:=ids) (B:=B) (M:=M.set k (b.pv (wC ids))) hn'.2 jO
  grind
def Oc(ρ:Nat->Nat)(b:cV):(b.pv ρ).tag=b.tag:=by cases b<;>rfl
def yl{ρ:Nat->Nat}{b:cV}(h:b.loose=true):b.pv ρ=b:=by cases b<;>first|rfl|cases h
structure Sub(j:J)(M:aC)(w:World)(ids:List Nat)(B:aC):Prop where
 nodup:ids.Nodup
 len:B.length=ids.length
 box:∀(i id:Nat),ids[i]?=some id->∃b,M[id]?=some b/\b.flat=true/\B[i]?=some (b.pv (iw ids))
 closed:∀(i:Nat)(b:cV),i∈ids->M[i]?=some b->∀x,x∈b.ids->x∈ids
def down(j:J)(M:aC)(ids:List Nat):J:=⟨fun i=>match ids[i]? with|some id=>j id|none=>none,fun b off=>j.X b off\/∃id,id<M.length/\id∉ids/\j id=some b/\¬ ∃sz n,M[id]?=some (.tick sz n)/\off<n*sz⟩
section
variable {j:J} {M B:aC} {w:World} {ids:List Nat}
theorem Sub.at_(s:Sub j M w ids B){id:Nat}(h:id∈ids){b:cV}(hb:M[id]?=some b):B[iw ids id]?=some (b.pv (iw ids)):=by
 obtain⟨b',h1,_,h2⟩:=s.box _ _ (uj h)
 grind
theorem Sub.inv(s:Sub j M w ids B){i:Nat}{c:cV}(h:B[i]?=some c):∃id b,ids[i]?=some id/\M[id]?=some b/\b.flat=true/\c=b.pv (iw ids):=by
 have hi:i<ids.length:=by rw[<-s.len]; grind
 obtain⟨b,h1,h2,h3⟩:=s.box i _ (ai hi)
 grind
theorem nk{id:Nat}(h:id∈ids):(down j M ids) (iw ids id)=j id:=by grind [down,uj]
theorem rr{i b:Nat}(h:(down j M ids) i=some b):∃id,ids[i]?=some id/\j id=some b:=by
 grind [down]
def Sub.iv(s:Sub j M w ids B){b off:Nat}(h:nM j M w b off):nM (down j M ids) B w b off:=by
 refine⟨h.lt,fun i hi hj=>?_,fun hx=>?_⟩
 ·obtain⟨id,h1,h2⟩:=rr hj;obtain⟨bx,h3,_,h4⟩:=s.box i _ h1;obtain⟨sz,n,h5,h6⟩:=h.ids _ (aN h3) h2;rw[h3] at h5; cases h5;exact⟨sz,n,h4,h6⟩
 ·rcases hx with hx|⟨id,h1,_,h2,h3⟩
  ·exact h.nx hx
  ·exact h3 (h.ids _ h1 h2)
theorem Sub.Xx(s:Sub j M w ids B){x:ag}{v:Value}(h:gk j M w x v)(hf:x.Ja=true)(hi:∀i,i∈x.iH->i∈ids):gk (down j M ids) B w (x.uw (iw ids)) v:=by
 cases h with
 |plain h =>
  have:x.uw (iw ids)=x:=by cases h<;>rfl
  rw[this];exact .plain (h.mono fun b off hs=>⟨s.iv hs,rfl⟩)
 |c0 A=>exact .c0 A
 | @own k xs v sz n hk hn hp ht =>
  have hki:k∈ids:=hi k (by simp[ag.iH])
  refine .own (sz:=sz) (n:=n) (s.at_ hki hk) hn (hp.mono fun b off hs=>⟨s.iv hs,rfl⟩) fun he=>?_
  rcases ht he with ⟨g1,g2,g3⟩|⟨b,cap,vs,t,g1,g2,g3,g4,g5⟩
  ·exact .inl ⟨by rw[nk hki]; omega,g2,g3⟩
  ·exact .inr ⟨b,cap,vs,t,by rw[nk hki]; exact g1,g2,g3,g4,g5⟩
 |agg=>cases hf
 |tuple=>cases hf
 | @ptr id off b hid hc hj =>
  have hki:id∈ids:=hi id (by simp[ag.iH])
  obtain⟨cs,hc⟩:=hc;exact .ptr (by rw[s.len]; exact uX hki) ⟨_,s.at_ hki hc⟩ (by rw[nk hki]; omega)
 |jF h=>exact .jF fun k c hk=>⟨(h k c hk).1,s.iv (h k c hk).2.1,(h k c hk).2.2.mono fun b off hs=>⟨s.iv hs,rfl⟩⟩
 |func=>cases hf
 | @iy id b hc hj =>
  have hki:id∈ids:=hi id (by simp[ag.iH])
  obtain⟨ks,vs,hc⟩:=hc;exact .iy ⟨_,_,s.at_ hki hc⟩ (by rw[nk hki]; exact hj)
 | @ka id b hc hj =>
  have hki:id∈ids:=hi id (by simp[ag.iH])
  obtain⟨ks,vs,hc⟩:=hc;exact .ka ⟨_,_,s.at_ hki hc⟩ (by rw[nk hki]; omega)
 | @kv t id off b hc hj =>
  have hki:id∈ids:=hi id (by simp[ag.iH])
  obtain⟨cs,hc⟩:=hc;exact .kv ⟨_,s.at_ hki hc⟩ (by rw[nk hki]; exact hj)
 |rb hl hd=>exact .rb hl fun i c v h1 h2=>(hd i c v h1 h2).mono fun b off hs=>⟨s.iv hs,rfl⟩
 | @kj ks vs b es cl hb hfr hx hw hk hv hks hvs =>
  refine .kj hb (fun i _ he=>?_) (fun off hx'=>?_) hw hk hv (fun i k e h1 h2=>(hks i k e h1 h2).mono fun b off hs=>⟨s.iv hs,rfl⟩) (fun i k e h1 h2=>(hvs i k e h1 h2).mono fun b off hs=>⟨s.iv hs,rfl⟩)
  ·obtain⟨id,h1,h2⟩:=rr he;obtain⟨bx,h3,_⟩:=s.box _ _ h1
   grind
  ·rcases hx' with hx'|⟨id,h1,_,h2,_⟩
   ·exact hx off hx'
   grind
 | @cE id ver sz0 lo hi v h0 hid hM hv =>
  have hki:id∈ids:=hi id (by simp[ag.iH])
  have hb:=ai hid;have hat:=s.at_ hki hb;rw[yl (hM _ hb)] at hat;refine .cE h0 (by rw[s.len]; exact uX hki) (fun bx hbx=>?_) fun sz v' xs h=>?_
  ·rw[hat] at hbx; exact hM bx (hb.trans hbx)
  ·rw[hat] at h;obtain⟨k1,k2⟩:=hv sz v' xs (hb.trans h)
   exact⟨k1,fun he=>by
    obtain⟨l0,l1,l2,⟨l3,l4,l5⟩|⟨b,cap,vs,t,l3,r⟩⟩:=k2 he
    ·exact⟨l0,l1,l2,.inl ⟨l3,by rw[nk hki]; omega,l5⟩⟩
    exact⟨l0,l1,l2,.inr ⟨b,cap,vs,t,by rw[nk hki]; omega,r⟩⟩⟩
 | @jv id ver i off v h0 hid hM hv =>
  have hki:id∈ids:=hi id (by simp[ag.iH])
  have hb:=ai hid;have hat:=s.at_ hki hb;rw[yl (hM _ hb)] at hat;refine .jv h0 (by rw[s.len]; exact uX hki) (fun bx hbx=>?_) fun sz v' xs h=>?_
  ·rw[hat] at hbx; exact hM bx (hb.trans hbx)
  grind [nk]
 |any v=>exact .any v
theorem Sub.Mu(s:Sub j M w ids B){x:ag}{v:Value}(h:gk j M w x v)(hf:x.vH=true)(hi:∀i,i∈x.nG->i∈ids):gk (down j M ids) B w (x.si (iw ids)) v:=by
 by_cases hfn:∃f caps,x = .func f caps
 ·obtain⟨f,caps,rfl⟩:=hfn;obtain⟨vs,rfl,hl,hc⟩:=h.rC;refine .func jO fun i c u hci hu=>?_
  rw[aX,aU] at hci;obtain⟨c0,hc0,rfl⟩:=hci;have hm:=aJ hc0;exact s.Xx (hc i _ u hc0 hu) (bK.1 hf _ hm) fun q hq=>hi q (iJ.2 ⟨c0,hm,hq⟩)
 ·have e1:x.si (iw ids)=x.uw (iw ids):=by cases x<;>first|rfl|grind
  have e2:x.nG=x.iH:=by cases x<;>first|rfl|grind
  have e3:x.Ja=true:=by cases x<;>first|rfl|exact absurd ⟨_,_,rfl⟩ hfn|cases hf
  rw[e1];exact s.Xx h e3 (by rw[<-e2]; omega)
theorem Sub.rep(s:Sub j M w ids B){x:ag}{v:Value}(h:gk j M w x v)(hf:x.flat=true)(hi:∀i,i∈x.ids->i∈ids):gk (down j M ids) B w (x.pv (iw ids)) v:=by
 by_cases hag:∃cs,x = .agg cs
 ·obtain⟨cs,rfl⟩:=hag;obtain⟨vs,rfl,hl,hc⟩:=h.mY;refine .agg jO fun i c u hci hu=>?_
  rw[aX,aU] at hci;obtain⟨c0,hc0,rfl⟩:=hci;have hm:=aJ hc0;exact s.Mu (hc i _ u hc0 hu) (bK.1 hf _ hm) fun q hq=>hi q (iJ.2 ⟨c0,hm,hq⟩)
 ·have e1:x.pv (iw ids)=x.si (iw ids):=by cases x<;>first|rfl|grind
  have e2:x.ids=x.nG:=by cases x<;>first|rfl|grind
  have e3:x.vH=true:=by cases x<;>first|exact hf|grind
  rw[e1];exact s.Mu h e3 (by rw[<-e2]; omega)
theorem Sub.rel(s:Sub j M w ids B)(hr:Rel j M w):Rel (down j M ids) B w:=by
 have Ra:∀ {i id:Nat},ids[i]?=some id->id<M.length:=fun h=>by
  obtain⟨b,h1,_⟩:=s.box _ _ h
  grind
 refine⟨fun i i' b hi hi' h h'=>?_,fun i b hi h=>?_,fun i cb h hf=>?_,fun i sz n b h hj=>?_,fun i sz ver xs h=>?_,fun i b hi h off hx=>?_,fun b off h=>?_⟩
 ·obtain⟨id,h1,h2⟩:=rr h;obtain⟨id',h1',h2'⟩:=rr h';have:=hr.inj id id' b (Ra h1) (Ra h1') h2 h2';subst this;rw[<-C3 s.nodup h1,C3 s.nodup h1']
 ·obtain⟨id,h1,h2⟩:=rr h;exact hr.lt id b (Ra h1) h2
 ·obtain⟨id,bx,h1,h2,h3,h4⟩:=s.inv h;subst h4;have hfx:bx.fixed=true:=by cases bx<;>first|rfl|cases hf
  obtain⟨b,g1,g2⟩:=hr.fix id bx h2 hfx;refine⟨b,by grind [down],?_⟩
  have hcl:∀p,p∈bx.ids->p∈ids:=s.closed id _ (aJ h1) h2;cases bx with
  |tick sz n=>cases hf
  |cells cs0 =>
   obtain⟨vs,t,k1,k2,k3⟩:=g2;refine⟨vs,t,k1,by simpa using k2,fun q c v hc hv=>?_⟩
   rw[aX,aU] at hc;obtain⟨c0,hc0,rfl⟩:=hc;have hm:=aJ hc0;exact s.Mu (k3 q c0 v hc0 hv) (bK.1 h3 c0 hm) fun p hp=>hcl p (iJ.2 ⟨c0,hm,hp⟩)
  |map ks vs =>
   obtain⟨es,cl,k1,k2,k3,k4,k5⟩:=g2;refine⟨es,cl,k1,k2,by simpa using k3,fun q c e hc he=>(k4 q c e hc he).mono fun b off hs=>⟨s.iv hs,rfl⟩,fun q c e hc he=>?_⟩
   rw[aX,aU] at hc;obtain⟨c0,hc0,rfl⟩:=hc;have hm:=aJ hc0;exact s.rep (k5 q c0 e hc0 he) (bK.1 h3 c0 hm) fun p hp=>hcl p (iJ.2 ⟨c0,hm,hp⟩)
  |nY st pos=>exact g2
  |vZ=>cases hf
  |arr=>cases hf
 ·obtain⟨id,bx,h1,h2,h3,h4⟩:=s.inv h;obtain⟨id',h1',h2'⟩:=rr hj;rw[h1] at h1'; cases h1';cases bx<;>first|cases h4|skip
  exact hr.tick id _ _ b h2 h2'
 ·obtain⟨id,bx,h1,h2,h3,h4⟩:=s.inv h;cases bx<;>first|cases h4|skip
  obtain⟨g0,g1⟩|⟨b,vs,t,g1,g2,g3,g4,g5⟩:=hr.arr id _ _ _ h2
  ·grind [down]
  exact .inr ⟨b,vs,t,by grind [down],g2,g3,g4,fun q x k c hx hk=>(g5 q x k c hx hk).imp fun u hu=>⟨hu.1,hu.2.mono fun b off hs=>⟨s.iv hs,rfl⟩⟩⟩
 ·obtain⟨id,h1,h2⟩:=rr h;rcases hx with hx|⟨id',g1,g2,g3,_⟩
  ·exact hr.uM id b (Ra h1) h2 off hx
  ·have:=hr.inj id id' b (Ra h1) g1 h2 g3
   grind
 ·rcases h with h|⟨id,g1,_,g3,_⟩
  ·exact hr.zz b off h
  ·exact hr.lt id b g1 g3
variable {j2:J} {B':aC} {w':World}
open Classical in
noncomputable def QP(j j2:J)(ids:List Nat):J:=⟨fun id=>if id∈ids then j2 (iw ids id) else j id,j.X⟩
theorem lU{id:Nat}(h:id∈ids):(QP j j2 ids) id=j2 (iw ids id):=by grind [QP]
theorem o5{id:Nat}(h:id∉ids):(QP j j2 ids) id=j id:=by grind [QP]
structure wU(j:J)(M B:aC)(w:World)(ids:List Nat)(j2:J)(B':aC)(w':World):Prop where
 sub:Sub j M w ids B
 hr:Rel j M w
 ext:Ext (down j M ids) B w j2 B' w'
 rel:Rel j2 B' w'
 len:B'.length=B.length
 flat:∀b,b∈B'->b.flat=true
variable (bk:wU j M B w ids j2 B' w')
include bk
theorem wU.Ra{i id:Nat}(h:ids[i]?=some id):id<M.length:=by
 obtain⟨b,h1,_⟩:=bk.sub.box _ _ h
 grind
def wU.LV{id:Nat}(h:id∈ids){b:cV}(hb:B'[iw ids id]?=some b):(mc ids M ids B')[id]?=some (b.pv (wC ids)) :=
 (wz bk.sub.nodup (by rw[bk.len,bk.sub.len])).2.2 _ _ b (uj h) (bk.Ra (uj h)) hb
def wU.Mo{id:Nat}(h:id∉ids):(mc ids M ids B')[id]?=M[id]?:=(wz bk.sub.nodup (by rw[bk.len,bk.sub.len])).2.1 _ h
def wU.sr:(mc ids M ids B').length=M.length:=(wz bk.sub.nodup (by rw[bk.len,bk.sub.len])).1
def wU.some_{id:Nat}(h:id∈ids):∃b,B'[iw ids id]?=some b/\b.flat=true:=by
 have hi:iw ids id<B'.length:=by rw[bk.len,bk.sub.len]; exact uX h
 exact⟨_,ai hi,bk.flat _ (jt _)⟩
theorem wU.tV{id b:Nat}(hid:id<M.length)(h:id∉ids)(hj:j id=some b):w'.heap[b]?=w.heap[b]?/\∀i,i<B'.length->j2 i≠some b:=by
 refine bk.ext.tV b (bk.hr.lt _ b hid hj) fun i hi he=>?_
 obtain⟨id',h1,h2⟩:=rr he;have:=bk.hr.inj _ _ b hid (bk.Ra h1) hj h2
 grind
def wU.iv{b off:Nat}(h:nM j2 B' w' b off):nM (QP j j2 ids) (mc ids M ids B') w' b off:=by
 have hX:=bk.ext.X;have hnx:=h.nx;rw[hX] at hnx;refine⟨h.lt,fun id hid hj=>?_,fun hx=>hnx (.inl hx)⟩
 rw[bk.sr] at hid
 by_cases hi:id∈ids
 ·rw[lU hi] at hj;obtain⟨sz,n,h1,h2⟩:=h.ids _ (by rw[bk.len,bk.sub.len]; exact uX hi) hj
  exact⟨sz,n,bk.LV hi h1,h2⟩
 ·rw[o5 hi] at hj;rw[bk.Mo hi];exact Classical.byContradiction fun hc=>hnx (.inr ⟨id,hid,hi,hj,hc⟩)
def wU.Zy:Ext j M w (QP j j2 ids) (mc ids M ids B') w' where
 len:=by rw[bk.sr]; exact av _
 size:=bk.ext.size
 os:=bk.ext.os
 tape:=bk.ext.tape
 output:=bk.ext.output
 X:=rfl
 fix:=fun id bx h hf=>by
  by_cases hi:id∈ids
  ·obtain⟨g1,bx',g2,g3⟩:=bk.ext.fix _ _ (bk.sub.at_ hi h) (by cases bx<;>first|rfl|cases hf)
   rw[lU hi,g1,nk hi];refine⟨rfl,_,bk.LV hi g2,?_⟩;rw[Oc,g3,Oc]
  ·rw[o5 hi,bk.Mo hi]; exact⟨rfl,bx,h,rfl⟩
 tick:=fun id sz n h=>by
  by_cases hi:id∈ids
  ·obtain⟨n',g1,g2,g3⟩:=bk.ext.tick _ _ _ (bk.sub.at_ hi h);refine⟨n',g1,bk.LV hi g2,fun he=>?_⟩
   obtain⟨k1,k2⟩:=g3 he;rw[lU hi,k1,nk hi];exact⟨rfl,fun b vs t hb hv=>k2 b vs t (by rw[nk hi]; exact hb) hv⟩
  ·rw[o5 hi,bk.Mo hi];exact⟨n,av _,h,fun _=>⟨rfl,fun b vs t hb hv=>⟨vs,(bk.tV (aN h) hi hb).1.trans hv,rfl⟩⟩⟩
 arr:=fun id sz v xs h=>by
  by_cases hi:id∈ids
  ·rcases bk.ext.arr _ _ _ _ (bk.sub.at_ hi h) with ⟨n',g⟩|⟨v',xs',g2,g3,g4⟩
   ·exact .inl ⟨n',bk.LV hi g⟩
   ·refine .inr ⟨v',xs',bk.LV hi g2,g3,fun he=>?_⟩
    obtain⟨k1,k2,k3⟩:=g4 he;rw[lU hi,k1,nk hi];exact⟨rfl,k2,fun b vs t hb hv=>k3 b _ t (by rw[nk hi]; exact hb) hv⟩
  ·rw[o5 hi,bk.Mo hi];exact .inr ⟨v,xs,h,av _,fun _=>⟨rfl,rfl,fun b vs t hb hv=>⟨vs,(bk.tV (aN h) hi hb).1.trans hv,rfl⟩⟩⟩
 tags:=bk.ext.tags
 iv:=fun b off h=>by
  obtain⟨h1,h2⟩:=bk.ext.iv b _ (bk.sub.iv h);exact⟨bk.iv h1,h2⟩
 tV:=fun b hb h=>by
  have h1:∀i,i<B.length->(down j M _) i≠some b:=fun i _ he=>by
   obtain⟨id,g1,g2⟩:=rr he;exact h id (bk.Ra g1) g2
  obtain⟨h2,h3⟩:=bk.ext.tV b hb h1;refine⟨h2,fun id hid he=>?_⟩
  rw[bk.sr] at hid
  by_cases hi:id∈ids
  ·rw[lU hi] at he;exact h3 _ (by rw[bk.len,bk.sub.len]; exact uX hi) he
  ·rw[o5 hi] at he;exact h id hid he
def wU.Dp{i:Nat}(h:i<B'.length):∃id,ids[i]?=some id/\id∈ids/\wC ids i=id/\iw ids id=i:=by
 have hi:i<ids.length:=by rw[<-bk.sub.len,<-bk.len]; omega
 have hg:=ai hi;exact⟨_,hg,aJ hg,ae2 hg,C3 bk.sub.nodup hg⟩
theorem wU.Xx{x:ag}{v:Value}(h:gk j2 B' w' x v)(hf:x.Ja=true):gk (QP j j2 ids) (mc ids M ids B') w' (x.uw (wC ids)) v:=by
 cases h with
 |plain h =>
  have:x.uw (wC ids)=x:=by cases h<;>rfl
  rw[this];exact .plain (h.mono fun b off hs=>⟨bk.iv hs,rfl⟩)
 |c0 A=>exact .c0 A
 | @own k xs v sz n hk hn hp ht =>
  obtain⟨id,g1,g2,g3,g4⟩:=bk.Dp (aN hk);simp only[ag.uw,g3];refine .own (sz:=sz) (n:=n) (bk.LV g2 (b := .tick sz n) (by rw[g4]; exact hk)) hn (hp.mono fun b off hs=>⟨bk.iv hs,rfl⟩) fun he=>?_
  rcases ht he with ⟨e1,e2,e3⟩|⟨b,cap,vs,t,e1,e2,e3,e4,e5⟩
  ·exact .inl ⟨by rw[lU g2,g4]; omega,e2,e3⟩
  ·exact .inr ⟨b,cap,vs,t,by rw[lU g2,g4]; grind,e2,e3,e4,e5⟩
 | @kv t k off b hc hj =>
  obtain⟨cs,hc⟩:=hc;obtain⟨id,g1,g2,g3,g4⟩:=bk.Dp (aN hc);simp only[ag.uw,g3];exact .kv ⟨_,bk.LV g2 (b := .cells cs) (by rw[g4]; omega)⟩ (by rw[lU g2,g4]; omega)
 |agg=>cases hf
 |tuple=>cases hf
 | @ptr k off b hid hc hj =>
  obtain⟨id,g1,g2,g3,g4⟩:=bk.Dp hid;obtain⟨cs,hc⟩:=hc;simp only[ag.uw,g3];exact .ptr (by rw[bk.sr]; exact bk.Ra g1) ⟨_,bk.LV g2 (b := .cells cs) (by rw[g4]; exact hc)⟩ (by rw[lU g2,g4]; omega)
 |jF h=>exact .jF fun k c hk=>⟨(h k c hk).1,bk.iv (h k c hk).2.1,(h k c hk).2.2.mono fun b off hs=>⟨bk.iv hs,rfl⟩⟩
 |func=>cases hf
 | @iy k b hc hj =>
  obtain⟨ks,vs,hc⟩:=hc;obtain⟨id,g1,g2,g3,g4⟩:=bk.Dp (aN hc);simp only[ag.uw,g3];exact .iy ⟨_,_,bk.LV g2 (b := .map ks vs) (by rw[g4]; omega)⟩ (by rw[lU g2,g4]; omega)
 | @ka k b hc hj =>
  obtain⟨st,p,hc⟩:=hc;obtain⟨id,g1,g2,g3,g4⟩:=bk.Dp (aN hc);simp only[ag.uw,g3];exact .ka ⟨_,_,bk.LV g2 (b := .nY st p) (by rw[g4]; exact hc)⟩ (by rw[lU g2,g4]; exact hj)
 |rb hl hd=>exact .rb hl fun i c v h1 h2=>(hd i c v h1 h2).mono fun b off hs=>⟨bk.iv hs,rfl⟩
 | @kj ks vs b es cl hb hfr hx hw hk hv hks hvs =>
  rw[bk.ext.X] at hx;refine .kj hb (fun id hid he=>?_) (fun off hx'=>hx off (.inl hx')) hw hk hv (fun i k e h1 h2=>(hks i k e h1 h2).mono fun b off hs=>⟨bk.iv hs,rfl⟩) (fun i k e h1 h2=>(hvs i k e h1 h2).mono fun b off hs=>⟨bk.iv hs,rfl⟩)
  rw[bk.sr] at hid
  by_cases m:id∈ids
  ·rw[lU m] at he;exact hfr _ (by rw[bk.len,bk.sub.len]; exact uX m) he
  ·rw[o5 m] at he
   by_cases ht:∃sz n,M[id]?=some (.tick sz n)
   ·obtain⟨sz,n,ht⟩:=ht;refine hx (n*sz) (.inr ⟨id,hid,m,he,?_⟩)
    grind
   ·exact hx 0 (.inr ⟨id,hid,m,he,fun⟨sz,n,h1,_⟩=>ht ⟨sz,n,h1⟩⟩)
 | @cE k ver sz0 lo hi v h0 hid hM hv =>
  obtain⟨id,g1,g2,g3,g4⟩:=bk.Dp hid;have hb:=ai hid;have hin:=bk.LV g2 (b:=B'[k]) (by rw[g4]; exact hb)
  rw[yl (hM _ hb)] at hin;simp only[ag.uw,g3];refine .cE h0 (by rw[bk.sr]; exact bk.Ra g1) (fun bx hbx=>?_) fun sz v' xs h=>?_
  ·rw[hin] at hbx; exact hM bx (hb.trans hbx)
  ·rw[hin] at h;obtain⟨k1,k2⟩:=hv sz v' xs (hb.trans h)
   exact⟨k1,fun he=>by
    obtain⟨l0,l1,l2,⟨l3,l4,l5⟩|⟨b,cap,vs,t,l3,r⟩⟩:=k2 he
    ·exact⟨l0,l1,l2,.inl ⟨l3,by rw[lU g2,g4]; exact l4,l5⟩⟩
    exact⟨l0,l1,l2,.inr ⟨b,cap,vs,t,by rw[lU g2,g4]; exact l3,r⟩⟩⟩
 | @jv k ver i off v h0 hid hM hv =>
  obtain⟨id,g1,g2,g3,g4⟩:=bk.Dp hid;have hb:=ai hid;have hin:=bk.LV g2 (b:=B'[k]) (by rw[g4]; exact hb)
  rw[yl (hM _ hb)] at hin;simp only[ag.uw,g3];refine .jv h0 (by rw[bk.sr]; exact bk.Ra g1) (fun bx hbx=>?_) fun sz v' xs h=>?_
  ·rw[hin] at hbx; exact hM bx (hb.trans hbx)
  grind [lU]
 |any v=>exact .any v
theorem wU.Mu{x:ag}{v:Value}(h:gk j2 B' w' x v)(hf:x.vH=true):gk (QP j j2 ids) (mc ids M ids B') w' (x.si (wC ids)) v:=by
 by_cases hfn:∃f caps,x = .func f caps
 ·obtain⟨f,caps,rfl⟩:=hfn;obtain⟨vs,rfl,hl,hc⟩:=h.rC;refine .func jO fun i c u hci hu=>?_
  rw[aX,aU] at hci;obtain⟨c0,hc0,rfl⟩:=hci;exact bk.Xx (hc i _ u hc0 hu) (bK.1 hf _ (aJ hc0))
 ·have e1:x.si (wC ids)=x.uw (wC ids):=by cases x<;>first|rfl|grind
  have e3:x.Ja=true:=by cases x<;>first|rfl|exact absurd ⟨_,_,rfl⟩ hfn|cases hf
  rw[e1];exact bk.Xx h e3
theorem wU.rep{x:ag}{v:Value}(h:gk j2 B' w' x v)(hf:x.flat=true):gk (QP j j2 ids) (mc ids M ids B') w' (x.pv (wC ids)) v:=by
 by_cases hag:∃cs,x = .agg cs
 ·obtain⟨cs,rfl⟩:=hag;obtain⟨vs,rfl,hl,hc⟩:=h.mY;refine .agg jO fun i c u hci hu=>?_
  rw[aX,aU] at hci;obtain⟨c0,hc0,rfl⟩:=hci;exact bk.Mu (hc i _ u hc0 hu) (bK.1 hf _ (aJ hc0))
 ·have e1:x.pv (wC ids)=x.si (wC ids):=by cases x<;>first|rfl|grind
  have e3:x.vH=true:=by cases x<;>first|exact hf|grind
  rw[e1];exact bk.Mu h e3
theorem wU.auW{x:ag}{v:Value}(h:gk j2 B' w' x v)(hf:x.wH=true):gk (QP j j2 ids) (mc ids M ids B') w' (x.Ax (wC ids)) v:=by
 by_cases ht:∃vs,x = .tuple vs
 ·obtain⟨cs,rfl⟩:=ht;obtain⟨vs,rfl,hl,hc⟩:=h.tW;refine .tuple jO fun i c u hci hu=>?_
  rw[aX,aU] at hci;obtain⟨c0,hc0,rfl⟩:=hci;exact bk.rep (hc i _ u hc0 hu) (bK.1 hf _ (aJ hc0))
 ·have e1:x.Ax (wC ids)=x.pv (wC ids):=by cases x<;>first|rfl|grind
  have e3:x.flat=true:=by cases x<;>first|exact hf|grind
  rw[e1];exact bk.rep h e3
theorem wU.aoy:Rel (QP j j2 ids) (mc ids M ids B') w':=by
 have ltin:∀ {id:Nat},id∈ids->iw ids id<B'.length:=fun h=>by rw[bk.len,bk.sub.len]; exact uX h
 refine⟨fun id id' b hi hi' h h'=>?_,fun id b hi h=>?_,fun id cb h hf=>?_,fun id sz n b h hj=>?_,fun id sz ver xs h=>?_,fun id b hi h off hx=>?_,fun b off h=>bw (bk.hr.zz b off h) bk.ext.size⟩
 ·rw[bk.sr] at hi hi'
  by_cases m:id∈ids<;>by_cases m':id'∈ids
  ·rw[lU m] at h;rw[lU m'] at h';have:=bk.rel.inj _ _ b (ltin m) (ltin m') h h';rw[<-MS m,this,MS m']
  ·rw[lU m] at h;rw[o5 m'] at h';exact absurd h ((bk.tV hi' m' h').2 _ (ltin m))
  ·rw[o5 m] at h;rw[lU m'] at h';exact absurd h' ((bk.tV hi m h).2 _ (ltin m'))
  ·rw[o5 m] at h;rw[o5 m'] at h';exact bk.hr.inj id id' b hi hi' h h'
 ·rw[bk.sr] at hi
  by_cases m:id∈ids
  ·rw[lU m] at h; exact bk.rel.lt _ b (ltin m) h
  ·rw[o5 m] at h; exact bw (bk.hr.lt id b hi h) bk.ext.size
 ·by_cases m:id∈ids
  ·obtain⟨bx,h1,h2⟩:=bk.some_ m;rw[bk.LV m h1] at h;injection h with h
   subst h;have hfx:bx.fixed=true:=by cases bx<;>first|rfl|cases hf
   obtain⟨b,g1,g2⟩:=bk.rel.fix _ bx h1 hfx;refine⟨b,by rw[lU m]; omega,?_⟩
   cases bx with
   |tick sz n=>cases hf
   |cells cs0 =>
    obtain⟨vs,t,k1,k2,k3⟩:=g2;refine⟨vs,t,k1,jO,fun q c v hc hv=>?_⟩
    rw[aX,aU] at hc;obtain⟨c0,hc0,rfl⟩:=hc;exact bk.Mu (k3 q c0 v hc0 hv) (bK.1 h2 c0 (aJ hc0))
   |map ks vs =>
    obtain⟨es,cl,k1,k2,k3,k4,k5⟩:=g2;refine⟨es,cl,k1,k2,jO,fun q c e hc he=>(k4 q c e hc he).mono fun b off hs=>⟨bk.iv hs,rfl⟩,fun q c e hc he=>?_⟩
    rw[aX,aU] at hc;obtain⟨c0,hc0,rfl⟩:=hc;exact bk.rep (k5 q c0 e hc0 he) (bK.1 h2 c0 (aJ hc0))
   |nY st pos=>exact g2
   |vZ=>cases hf
   |arr=>cases hf
  ·rw[bk.Mo m] at h;obtain⟨b,g1,g2⟩:=bk.hr.fix id cb h hf;exact⟨b,by rw[o5 m]; omega,g2.mono bk.Zy (bk.tV (aN h) m g1).1⟩
 ·by_cases m:id∈ids
  ·obtain⟨bx,h1,h2⟩:=bk.some_ m;rw[bk.LV m h1] at h;injection h with h
   rw[lU m] at hj;cases bx<;>first|cases h|skip
   exact bk.rel.tick _ _ _ b h1 hj
  ·rw[bk.Mo m] at h;rw[o5 m] at hj;obtain⟨vs,t,g⟩:=bk.hr.tick id sz n b h hj;exact⟨vs,t,(bk.tV (aN h) m hj).1.trans g⟩
 ·by_cases m:id∈ids
  ·obtain⟨bx,h1,h2⟩:=bk.some_ m;rw[bk.LV m h1] at h;injection h with h
   cases bx<;>first|cases h|skip
   obtain⟨g0,g1⟩|⟨b,vs,t,g1,g2,g3,g4,g5⟩:=bk.rel.arr _ _ _ _ h1
   ·grind [lU]
   exact .inr ⟨b,vs,t,by rw[lU m]; omega,g2,g3,g4,fun q x k c hx hk=>(g5 q x k c hx hk).imp fun u hu=>⟨hu.1,hu.2.mono fun b off hs=>⟨bk.iv hs,rfl⟩⟩⟩
  ·rw[bk.Mo m] at h;exact qI bk.hr bk.Zy h (o5 m) fun b hb=>(bk.tV (aN h) m hb).1
 ·rw[bk.sr] at hi
  by_cases m:id∈ids
  ·rw[lU m] at h;have:=bk.rel.uM _ b (ltin m) h off;rw[bk.ext.X] at this;exact this (.inl hx)
  ·rw[o5 m] at h;exact bk.hr.uM id b hi h off hx
end
theorem GF{ρ:Nat->Nat}{x:ag}(h:x.iH=[]):x.uw ρ=x:=by
 cases x with
 |slice tk xs=>cases tk<;>first|rfl|grind [ag.iH]
 |ptr=>grind [ag.iH]
 |iy=>grind [ag.iH]
 |ka=>grind [ag.iH]
 |cE=>grind [ag.iH]
 |jv=>grind [ag.iH]
 |kv=>grind [ag.iH]
 |_=>rfl
def JP{ρ:Nat->Nat}:∀ {l:List ag},l.flatMap ag.iH=[]->l.map (ag.uw ρ)=l
 | [],_=>rfl
 |c::r,h=>by
  rw[mZ,List.append_eq_nil_iff] at h;rw[aK,GF h.1,JP h.2]
theorem GG{ρ:Nat->Nat}{x:ag}(h:x.nG=[]):x.si ρ=x:=by
 by_cases hf:∃f caps,x = .func f caps
 ·obtain⟨f,caps,rfl⟩:=hf;exact congrArg _ (JP h)
 ·have e1:x.si ρ=x.uw ρ:=by cases x<;>first|rfl|grind
  have e2:x.nG=x.iH:=by cases x<;>first|rfl|grind
  grind [GF]
def JQ{ρ:Nat->Nat}:∀ {l:List ag},l.flatMap ag.nG=[]->l.map (ag.si ρ)=l
 | [],_=>rfl
 |c::r,h=>by
  rw[mZ,List.append_eq_nil_iff] at h;rw[aK,GG h.1,JQ h.2]
theorem Xw{ρ:Nat->Nat}{x:ag}(_:x.flat=true)(h:x.ids=[]):x.pv ρ=x:=by
 by_cases hf:∃cs,x = .agg cs
 ·obtain⟨cs,rfl⟩:=hf;exact congrArg _ (JQ h)
 ·have e1:x.pv ρ=x.si ρ:=by cases x<;>first|rfl|grind
  have e2:x.ids=x.nG:=by cases x<;>first|rfl|grind
  grind [GG]
theorem rp{P:Program}{C:eL}(hC:ny P C){j:J}{M:aC}{w:World}{f:Nat}{vs:List ag}{us:Array Value}{x:ag×aC}(hr:Rel j M w)(hG:sW j M w)(h:aR C f vs M=some x)
  (hl:vs.length=us.size) (hv:∀(i:Nat)(c:ag)(u:Value),vs[i]?=some c->us[i]?=some u->gk j M w c u) :
  lG P f=true/\Calls P f us w fun e w'=>wa j M w x e w':=by
 unfold aR at h;generalize hids:reach M (vs.flatMap ag.ids)=ids at h;split at h
 ·rename_i hf;obtain⟨B,hB,h⟩:=bm h;split at h
  ·rename_i hcl;obtain⟨y,hy,h⟩:=bm h;split at h
   ·rename_i hcond;obtain⟨c1,c2,c3⟩:=hcond;cases h;obtain⟨h1,h2⟩:=hC _ _ _ _ hy;obtain⟨p1,p2⟩:=EE hB;have s:Sub j M w ids B:=⟨by rw[<-hids]; simp[JW],p1,p2,fun i b hi hb x hx=>Ph hcl hi hb hx⟩
    refine⟨h1,(h2 (down j M ids) w us (s.rel hr) (hG.iv fun b off h=>s.iv h) jO fun i c u hc hu=>?_).mono ?_⟩
    ·rw[aX,aU] at hc;obtain⟨c0,hc0,rfl⟩:=hc;have hm:=aJ hc0;exact s.rep (hv i c0 u hc0 hu) (bK.1 hf c0 hm) fun q hq=>by rw[<-hids]; exact Qc (iJ.2 ⟨c0,hm,hq⟩)
    ·rintro e w' (⟨v,rfl,j2,g1,g2,g3⟩|⟨u,rfl,hu,j2,g1,g2⟩)
     ·have bk:wU j M B w ids j2 y.2 w':=⟨s,hr,g2,g1,c1,fun b hb=>bK.1 c3 b hb⟩
      exact .inl ⟨v,rfl,QP j j2 ids,bk.aoy,bk.Zy,bk.auW g3 c2⟩
     ·have bk:wU j M B w ids j2 y.2 w':=⟨s,hr,g2,g1,c1,fun b hb=>bK.1 c3 b hb⟩
      exact .inr ⟨u,rfl,by rw[hu]; rfl,QP j j2 ids,bk.aoy,bk.Zy⟩
   grind
  grind
 grind
theorem XD{j j2:J}{G:aC}{w w':World}{p sz n:Nat}{xs:List ag}{v:Value}(hr:Rel j G w)(hp:G[p]?=some .vZ)(h2:Rel j2 [.tick sz n] w')(hx:Ext (down j G []) [] w j2 [.tick sz n] w')
  (hv:gk j2 [.tick sz n] w' (.slice (.own 0) xs) v):iV j G w (.slice (.own p) xs,G.set p (.tick sz n)) v w':=by
 have hpl:=aN hp
 have hold:∀b,b<w.heap.size->w'.heap[b]?=w.heap[b]?/\j2 0≠some b:=fun b hb=>by
  obtain⟨h1,h3⟩:=hx.tV b hb (fun i hi=>by simp at hi)
  exact⟨h1,h3 0 dw⟩
 have up:∀i,i≠p->gH j p (j2 0) i=j i:=fun i hi=>by simp[gH,hi]
 have atp:gH j p (j2 0) p=j2 0:=by simp[gH]
 have nX:∀ {b off},nM j2 [.tick sz n] w' b off->¬j.X b off/\∀id,id<G.length->j id=some b->∃sz n,G[id]?=some (.tick sz n)/\off<n*sz:=fun {b off} hs=>by
  have:=hs.nx;rw[hx.X] at this;refine⟨fun h=>this (.inl h),fun id hid hj=>?_⟩
  by_cases hc:∃sz n,G[id]?=some (.tick sz n)/\off<n*sz
  ·exact hc
  ·exact absurd (Or.inr ⟨id,hid,dw,hj,hc⟩) this
 have iv:∀b off,nM j2 [.tick sz n] w' b off->nM (gH j p (j2 0)) (G.set p (.tick sz n)) w' b off:=fun b off hs=>by
  obtain⟨n1,n2⟩:=nX hs;refine⟨hs.lt,fun id hid hj=>?_,n1⟩
  by_cases e:id=p
  ·subst e;rw[atp] at hj;obtain⟨s1,m1,h3,h4⟩:=hs.ids 0 dw hj
   grind
  grind
 have q:Quiet w w':=⟨hx.size,hx.os,hx.tape,hx.output⟩
 have ext:Ext j G w (gH j p (j2 0)) (G.set p (.tick sz n)) w':={
  len:=dw
  size:=q.size
  os:=q.os
  tape:=q.tape
  output:=q.output
  X:=rfl
  fix:=fun i bx h hf=>by
   have e:i≠p:=by rintro rfl; rw[hp] at h; cases h; cases hf
   grind
  tick:=fun i sz n h=>by
   grind
  arr:=fun i sz v xs h=>by
   grind
  tags:=fun b0 vs0 t0 fr0 h=>⟨vs0,fr0,(hold b0 (lt_of_block h)).1.trans h,rfl⟩
  iv:=fun b0 off h=>by
   refine⟨⟨bw h.1 q.size,fun id hid hj=>?_,h.3⟩,World.cell?_of_block (w:=w) (hold b0 h.1).1⟩
   by_cases e:id=p
   ·subst e; rw[atp] at hj; exact absurd hj (hold b0 h.1).2
   ·rw[cX (eX e)];rw[up id e] at hj;exact h.2 id (by simpa using hid) hj
  tV:=fun b0 cQ h=>by
   grind }
 refine⟨gH j p (j2 0),⟨fun i i' b0 hi hi' h h'=>?_,fun i b0 hi h=>?_,fun i bx' h hf=>?_,fun i sz0 n0 b0 h hj=>?_,fun i sz0 ver ys h=>?_,fun i b0 hi h off hxx=>?_,fun b off h=>bw (hr.zz b off h) q.size⟩,ext,?_⟩
 ·simp only[cA] at hi hi'
  by_cases e:i=p<;>by_cases e':i'=p
  ·omega
  ·subst e;rw[atp] at h; rw[up i' e'] at h';exact absurd h (hold b0 (hr.lt i' b0 hi' h')).2
  ·subst e';rw[atp] at h'; rw[up i e] at h;exact absurd h' (hold b0 (hr.lt i b0 hi h)).2
  ·rw[up i e] at h; rw[up i' e'] at h';exact hr.inj i i' b0 hi hi' h h'
 ·simp only[cA] at hi
  by_cases e:i=p
  ·subst e; rw[atp] at h; exact h2.lt 0 b0 dw h
  ·rw[up i e] at h;exact bw (hr.lt i b0 hi h) q.size
 ·by_cases e:i=p
  ·subst e;rw[ei hpl] at h;cases h; cases hf
  ·rw[cX (eX e)] at h;obtain⟨b0,h1,h3⟩:=hr.fix i bx' h hf;exact⟨b0,by rw[up i e]; exact h1,h3.mono ext (hold b0 (hr.lt i b0 (aN h) h1)).1⟩
 ·by_cases e:i=p
  ·subst e; rw[atp] at hj;exact h2.tick 0 sz n b0 rfl hj
  ·rw[cX (eX e)] at h;rw[up i e] at hj;obtain⟨vs,t,h1⟩:=hr.tick i sz0 n0 b0 h hj;exact⟨vs,t,(hold b0 (lt_of_block h1)).1.trans h1⟩
 ·by_cases e:i=p
  ·subst e; rw[ei hpl] at h; cases h
  ·rw[cX (eX e)] at h;exact qI hr ext h (up i e) fun b0 h1=>(hold b0 (hr.lt i b0 (aN h) h1)).1
 ·simp only[cA] at hi
  by_cases e:i=p
  ·subst e; rw[atp] at h;exact absurd h (hold b0 (hr.zz b0 off hxx)).2
  ·rw[up i e] at h;exact hr.uM i b0 hi h off hxx
 ·cases hv with
  |plain h=>cases h
  |own hk hn h ht =>
   simp at hk;obtain⟨rfl,rfl⟩:=hk;refine .own (ei hpl) hn (h.mono fun b off hs=>⟨iv b off hs,rfl⟩) fun he=>?_
   rcases ht he with ⟨h1,h3,h4⟩|⟨b,cap,vs,t,h1,h3,h4,h5,h6⟩
   ·exact .inl ⟨by rw[atp]; exact h1,h3,h4⟩
   ·exact .inr ⟨b,cap,vs,t,by rw[atp]; exact h1,h3,h4,h5,h6⟩
theorem QD{P:Program}{C:eL}(hC:ny P C){j:J}{G:aC}{w:World}{f p:Nat}{vs:List ag}{us:Array Value}{xs:List ag}{sz n:Nat}(hr:Rel j G w)(hG:sW j G w)(hp:G[p]?=some .vZ)(hf:vs.all ag.flat=true)(hi:vs.flatMap ag.ids=[])
  (h:C f vs []=some (.slice (.own 0) xs,[.tick sz n])) (hl:vs.length=us.size) (hv:∀(i:Nat)(c:ag)(u:Value),vs[i]?=some c->us[i]?=some u->gk j G w c u) :
  lG P f=true/\Calls P f us w fun e w'=>∃v,e = .returned v/\iV j G w (.slice (.own p) xs,G.set p (.tick sz n)) v w':=by
 obtain⟨h1,h2⟩:=hC _ _ _ _ h;have s:Sub j G w _ []:=⟨lA,rfl,fun i id h=>by simp_all,fun i b hi=>jO⟩
 refine⟨h1,(h2 _ w _ (s.rel hr) (hG.iv fun b off h=>s.iv h) hl fun i c u hc hu=>?_).mono ?_⟩
 ·have hm:=aJ hc
  have:=s.rep (hv i c u hc hu) (bK.1 hf c hm) fun q hq=>by
   have hci  := mC.1 hi c hm;rw[hci] at hq; omega
  rwa[Xw (bK.1 hf c hm) (mC.1 hi c hm)] at this
 ·rintro e w' (⟨v,rfl,j2,g1,g2,g3⟩|⟨u,rfl,hu,_⟩)
  ·exact⟨v,rfl,XD hr hp g1 g2 g3⟩
  grind
section
variable {P:Program} {C:eL} {o:Oper} {bp:Env} {M:aC} {j:J} {w:World} {a:Act} {x:ag×aC}
theorem B3:∀ {xs:List ag} {l:List UInt8},bytesOf xs=some l->l.length=xs.length/\∀(i:Nat)(x:ag),xs[i]?=some x->∃n,x = .int .u8 n/\l[i]?=some (UInt8.ofNat n.toNat)
 | [],l,h=>by grind [bytesOf]
 |y::r,l,h=>by
  unfold bytesOf at h;split at h
  ·grind
  ·rename_i n r' e;injection e with e1 e2; subst e2
   obtain⟨l',h1,h⟩:=bm h;injection h with h; obtain⟨g1,g2⟩:=B3 h1
   grind
  grind
def Gx(g:Value->ByteArray->Sem (ForInStep ByteArray))(hg:∀n s,g (.int .u8 n) s=pure (ForInStep.yield (s.push (UInt8.ofNat n.toNat)))):∀(vs:List Value)(l:List UInt8)(s:ByteArray),vs.length=l.length->(∀(i:Nat)(v:Value)(b:UInt8),vs[i]?=some v->l[i]?=some b->∃n,v = .int .u8 n/\b=UInt8.ofNat n.toNat) ->
  (forIn vs s g).run P w = .ok ⟨s.data++l.toArray⟩ w
 | [],[],s,_,_=>by rfl
 |v::vs,b::l,s,hl,h=>by
  obtain⟨n,rfl,rfl⟩:=h 0 v b rfl rfl;have:=Gx g hg vs l (s.push (UInt8.ofNat n.toNat)) jO fun i v b hv hb=>h (i+1) v b jO jO
  simp_all
 | [],_::_,_,hl,_=>jO
 |_::_,[],_,hl,_=>jO
theorem ah0(hr:Rel j M w)(he:cq j M w bp a){s d e:TypeId}{y:Operand}{z:fY}(hop:o.op = .convert s d y)(hs:P.underlying s=some (.slice e))(hd:P.underlying d=some .string)(hu:P.underlying e=some (.int .u8))
  (hz:eV y=some z) (h:eo C bp M (.b2s z)=some x):∃v w',rj P o a w v w'/\iV j M w x v w':=by
 simp only[eo] at h;have h1:=cZ he hz;split at h
 ·rename_i tk xs ev;obtain⟨l,hl,h⟩:=bm h;cases h;rw[ev] at h1;obtain⟨g1,g2⟩:=B3 hl;refine⟨.string (bs l),w,.inl ?_,.still hr (.plain (.str _))⟩;obtain⟨A,cap,b,off,sz,vs,hv,hc,ha,hwid,hcell,hrep⟩:=h1.er.er
  have hrun:(Conv.bytesToString (a.eval y)).run P w = .ok (.string (bs l)) w:=by
   rw[hv];cases A with
   |none =>
    have:xs=[]:=by
     grind
    subst this;have:l=[]:=dI g1;subst this;rfl
   |some A =>
    have hload:∃us:Array Value,(loadCells A xs.length).run P w = .ok us w/\us.size=l.length/\∀(i:Nat)(v:Value)(b:UInt8),us[i]?=some v->l[i]?=some b->∃n,v = .int .u8 n/\b=UInt8.ofNat n.toNat:=by
     by_cases hx:xs=[]
     ·subst hx;have:l=[]:=dI g1;subst this;exact⟨#[],by rfl,rfl,fun i v b h=>by simp at h⟩
     ·have hA:=ha hx;cases hA
      have hsz:sz=1:=by
       cases xs with
       |nil=>grind
       |cons c r =>
        obtain⟨n,rfl,_⟩:=g2 0 c rfl;exact(hwid (.int .u8 n) dw).symm
      subst hsz
      have cellOf:∀i,i<xs.length->∃n,w.cell? ⟨b,off+i,none⟩=some (vs i)/\vs i = .int .u8 n/\l[i]?=some (UInt8.ofNat n.toNat):=by
       intro i hi;have hxi:xs[i]?=some xs[i]:=ai hi;obtain⟨n,hn,hb⟩:=g2 i _ hxi;have q1:=hcell i _ 0 (.int .u8 n) hxi (by rw[hn]; rfl)
       have q2:=hrep i _ 0 (.int .u8 n) hxi (by rw[hn]; rfl)
       simp only[pQ,dj] at q1 q2;exact⟨n,q1.1,(gk.plain (j:=j) (M:=M) q2).fW,hb⟩
      refine⟨_,pc (P:=P) (w:=w) b off xs.length vs (fun k hk=>(cellOf k hk).choose_spec.1),by simp[g1],fun i v c hi hb=>?_⟩
      grind
    obtain⟨us,u1,u2,u3⟩:=hload;simp only[Conv.bytesToString,Sem.run_bind,u1,Result.andThen_ok];rw[<-Array.forIn_toList];refine(congrArg (fun r=>Result.andThen r _) (Gx (P:=P) (w:=w) _ ?_ us.toList l ByteArray.empty aH fun i v b hv hb=>u3 i v b (by simpa using hv) hb)).trans ?_
    ·simp
    simp[bs]
  simp only[execOp,hop,convert,Sem.run_bind,eb hs,eb hd,Result.andThen_ok];rw[hv] at hrun ⊢;cases A<;>simp[eb hu,hrun]
 ·cases h
theorem DJ{fk:FK}{k k':ag}{b:Bool}(h:kC fk k k'=some b) :
  (∃t x y,k = .int t x/\k' = .int t y/\fk = .i/\b=(x==y))\/(∃x y,k = .str x/\k' = .str y/\fk = .s/\b=(x==y))\/∃x y,k = .bool x/\k' = .bool y/\fk = .b/\b=(x==y):=by
 unfold kC at h
 grind
def FK.is:FK->TypeDesc->Prop
 | .i,.int _=>True
 | .s,.string=>True
 | .b,.bool=>True
 |_,_=>False
theorem Gg{t:TypeId}{fk:FK}(h:Ec P t=some fk):∃d,P.underlying t=some d/\fk.is d:=by
 unfold Ec at h
 split at h<;>first
  |(rename_i hd; cases h; exact⟨_,hd,trivial⟩)
  |grind
theorem Ki{fk:FK}{d:TypeDesc}(hd:fk.is d){k k':ag}{b:Bool}(h:kC fk k k'=some b){iv:Nat->Nat->Prop}{v v':Value}(hv:gk j M w k v)(hv':fP w iv k' v') :
  Instr.sameNow d v v'=some b/\(b=true->Instr.sameBits 10000 v' v=true)/\fP w (nM j M w) k v:=by
 rcases DJ h with ⟨t,x,y,rfl,rfl,rfl,rfl⟩|⟨x,y,rfl,rfl,rfl,rfl⟩|⟨x,y,rfl,rfl,rfl,rfl⟩
 ·have e1:=hv.fW; subst e1; cases hv';cases d<;>first|exact False.elim hd|skip
  exact⟨by simp[Instr.sameNow],fun h=>by grind [Instr.sameBits],.int _ _⟩
 ·have e1:=hv.kH; subst e1; cases hv';cases d<;>first|exact False.elim hd|skip
  have this:∀x y,(bs x==bs y)=(x==y):=fun x y=>by
   show(x.toArray==y.toArray)=(x==y)
   simp
  exact⟨by simp_all [Instr.sameNow],fun h=>by grind [Instr.sameBits],.str _⟩
 ·have e1:=hv.jE; subst e1; cases hv';cases d<;>first|exact False.elim hd|skip
  exact⟨by simp[Instr.sameNow],fun h=>by grind [Instr.sameBits],.bool _⟩
def PX{fk:FK}{k:ag}{b:Bool}(h:kC fk k k=some b){v:Value}(hv:gk j M w k v):fP w (nM j M w) k v:=by
 rcases DJ h with ⟨t,x,y,rfl,_⟩|⟨x,y,rfl,_⟩|⟨x,y,rfl,_⟩
 ·have:=hv.fW; subst this; exact .int _ _
 ·have:=hv.kH; subst this; exact .str _
 ·have:=hv.jE; subst this; exact .bool _
def FJ{fk:FK}{d:TypeDesc}(hd:fk.is d){t:TypeId}(ht:P.underlying t=some d)(e:Bool)(v:Value):(Instr.checkKey e 10000 t v).run P w = .ok () w:=by
 rw[Instr.checkKey.eq_def];simp only[Sem.run_bind,eb ht];cases fk<;>cases d<;>first|exact False.elim hd|(cases v<;>rfl)
theorem I8{fk:FK}{d:TypeDesc}(hd:fk.is d){k:ag}{v:Value}(hv:gk j M w k v){iv:Nat->Nat->Prop}:∀ {ks vs:List ag} {es:List MapEntry} {r:Option ag} (n:Nat),xx fk k ks vs=some r ->
  ks.length=es.length->vs.length=es.length->(∀(i:Nat)(k:ag)(e:MapEntry),ks[i]?=some k->es[i]?=some e->fP w iv k e.key) ->
  (r=none/\Instr.findNow d v es n=some none)\/∃i u e,r=some u/\vs[i]?=some u/\es[i]?=some e/\Instr.findNow d v es n=some (some (n+i,e.val))
 | [],[],[],r,n,h,_,_,_=>by simp[xx] at h; exact .inl ⟨h.symm,rfl⟩
 |k'::ks,u::vs,e::es,r,n,h,h1,h2,h3=>by
  obtain⟨b,hb,h⟩:=bm h;obtain⟨s1,_⟩:=Ki hd hb hv (h3 0 k' e rfl rfl);rcases lI h with ⟨rfl,h⟩|⟨rfl,h⟩
  ·injection h with h
   exact .inr ⟨0,u,e,h.symm,rfl,rfl,by grind [Instr.findNow]⟩
  ·have hf:Instr.findNow d v (e::es) n=Instr.findNow d v es (n+1):=by rw[Instr.findNow,s1]
   rcases I8 hd hv (n+1) h (by simpa using h1) (by simpa using h2) (fun i k e hk he=>h3 (i+1) k e jO jO) with ⟨g1,g2⟩|⟨i,u',e',g1,g2,g3,g4⟩
   ·grind
   ·exact .inr ⟨i+1,u',e',g1,jO,jO,jO⟩
 | [],_::_,[],_,_,_,_,h2,_=>by simp at h2
 |_::_,[],_::_,_,_,_,_,h2,_=>by simp at h2
 | [],_,_::_,_,_,_,h1,_,_=>by simp at h1
 |_::_,_,[],_,_,_,h1,_,_=>by simp at h1
theorem I9{fk:FK}{d:TypeDesc}(hd:fk.is d){k y:ag}{v:Value}(hv:gk j M w k v){iv:Nat->Nat->Prop}:∀ {ks vs:List ag} {es:List MapEntry} {r:List ag×List ag} (n:Nat),xz fk k y ks vs=some r ->
  ks.length=es.length->vs.length=es.length->(∀(i:Nat)(k:ag)(e:MapEntry),ks[i]?=some k->es[i]?=some e->fP w iv k e.key) ->
  fP w (nM j M w) k v/\((r=(ks++[k],vs++[y])/\Instr.findNow d v es n=some none)\/∃i e,r=(ks.set i k,vs.set i y)/\es[i]?=some e/\Instr.sameBits 10000 e.key v=true/\Instr.findNow d v es n=some (some (n+i,e.val)))
 | [],[],[],r,n,h,_,_,_=>by
  obtain⟨b,hb,h⟩:=bm h;injection h with h
  exact⟨PX hb hv,.inl ⟨h.symm,rfl⟩⟩
 |k'::ks,u::vs,e::es,r,n,h,h1,h2,h3=>by
  obtain⟨b,hb,h⟩:=bm h;obtain⟨s1,s2,s3⟩:=Ki hd hb hv (h3 0 k' e rfl rfl);refine⟨s3,?_⟩;rcases lI h with ⟨rfl,h⟩|⟨rfl,h⟩
  ·injection h with h
   exact .inr ⟨0,e,h.symm,rfl,s2 rfl,by grind [Instr.findNow]⟩
  ·obtain⟨r',h',h⟩:=bm h;cases h;have hf:Instr.findNow d v (e::es) n=Instr.findNow d v es (n+1):=by rw[Instr.findNow,s1]
   rcases(I9 hd hv (n+1) h' (by simpa using h1) (by simpa using h2) (fun i k e hk he=>h3 (i+1) k e jO jO)).2 with ⟨g1,g2⟩|⟨i,e',g1,g2,g3,g4⟩
   ·grind
   ·exact .inr ⟨i+1,e',by rw[g1]; rfl,jO,g3,by rw[hf,g4]; grind⟩
 | [],_::_,[],_,_,_,_,h2,_=>jO
 |_::_,[],_::_,_,_,_,_,h2,_=>jO
 | [],_,_::_,_,_,_,h1,_,_=>by simp at h1
 |_::_,_,[],_,_,_,h1,_,_=>jO
def AN.rep{x:ag}{v:Value}(h:AN w (nM j M w) x v):gk j M w x v:=by
 by_cases hag:∃cs,x = .agg cs
 ·obtain⟨cs,rfl⟩:=hag;obtain⟨us,rfl,h2,h3⟩:=h;exact .agg h2 fun i c u hc hu => .plain (h3 i c u hc hu)
 ·cases x<;>first|exact absurd ⟨_,rfl⟩ hag|exact .plain h
theorem Gm(hr:Rel j M w){m:ag}{v:Value}{e:List ag×List ag}(h:mapOf M m=some e)(hm:gk j M w m v):∃(b:Nat) (es:Array MapEntry) (clock:Nat),v = .map (some b)/\w.heap[b]?=some (.map es clock) /\
  e.1.length=es.size/\e.2.length=es.size/\(∀(i:Nat)(k:ag)(e':MapEntry),e.1[i]?=some k->es[i]?=some e'->fP w (nM j M w) k e'.key)/\∀(i:Nat)(k:ag)(e':MapEntry),e.2[i]?=some k->es[i]?=some e'->gk j M w k e'.val:=by
 unfold mapOf at h;split at h
 ·split at h
  ·rename_i ks vs hM;injection h with h; rw[fe] at hM
   obtain⟨b,_,hj,rfl⟩:=hm.vM;obtain⟨b',hj',es,clock,g1,g2,g3,g4,g5⟩:=hr.fix _ _ hM rfl
   grind
  grind
 ·cases h;cases hm with
  |plain h=>cases h
  |kj hb hf hx hw hk hv hks hvs=>exact⟨_,_,_,rfl,hw,hk,hv,hks,fun i k e h1 h2=>(hvs i k e h1 h2).rep⟩
 ·cases h
theorem JO{zero:ag}{ok:Bool}{r:Option ag}{v:Value}(h:gk j M w (r.getD zero) v):gk j M w (pt zero ok r) (if ok then .tuple #[v,.bool r.isSome] else v):=by
 cases ok with
 |false=>exact h
 |true =>
  refine .tuple rfl fun i c u hc hu=>?_
  match i with
  |0=>grind
  |1=>simp at hc hu; subst hc; subst hu; exact .plain (.bool _)
  |n+2=>simp_all
def abx(hr:Rel j M w)(he:cq j M w bp a){t kt et:TypeId}{m k:Operand}{m' k':fY}{ok:Bool}{fk:FK}{ie:TypeInfo}{zv:Value}{z:ag}(hop:o.op = .lookup t m k ok)(ht:P.underlying t=some (.map kt et))
  (hk:Ec P kt=some fk) (hi:P.info? et=some ie) (hz:ie.zero=some zv) (hzv:Rv zv=some z) (hm':eV m=some m') (hk':eV k=some k') (h:eo C bp M (.look fk z ok m' k')=some x) :
  ∃v w',rj P o a w v w'/\iV j M w x v w':=by
 simp only[eo] at h;obtain⟨e,h1,h⟩:=bm h;obtain⟨r,h2,h⟩:=bm h;cases h;obtain⟨d,hd,hfk⟩:=Gg hk;obtain⟨b,es,clock,hv,hb,g1,g2,g3,g4⟩:=Gm hr h1 (cZ he hm');have hc:∀q,(Instr.checkKey q 10000 kt (a.eval k)).run P w = .ok () w:=fun q=>FJ hfk hd q _
 rcases I8 hfk (cZ he hk') (es:=es.toList) 0 h2 (by simpa using g1) (by simpa using g2) (fun i k e hk he=>g3 i k e hk (by simpa using he)) with ⟨rfl,f1⟩|⟨i,u,e',rfl,f2,f3,f1⟩
 ·refine⟨if ok then .tuple #[zv,.bool false] else zv,w,.inl ?_,.still hr (JO (r:=none) (Ih hzv))⟩
  simp[execOp,hop,Instr.lookup,eb ht,hv,MapKept.run_getObj_map hb,hc,Instr.findKey,eb hd,f1,zeroValue,pX hi,hz]
 ·refine⟨if ok then .tuple #[e'.val,.bool true] else e'.val,w,.inl ?_,.still hr (JO (r:=some u) (g4 i u e' f2 (by simpa using f3)))⟩
  simp[execOp,hop,Instr.lookup,eb ht,hv,MapKept.run_getObj_map hb,hc,Instr.findKey,eb hd,f1]
def abu(hr:Rel j M w)(he:cq j M w bp a){c:Call}{y:Operand}{z:fY}{t k e:TypeId}(hop:o.op = .call c)(hb:c.callee = .builtin .len)(ha:c.args.toList=[y])
  (ht:c.argTypes[0]?=some t) (hs:P.underlying t=some (.map k e)) (hz:eV y=some z) (h:eo C bp M (.P0 z)=some x):∃v w',rj P o a w v w'/\iV j M w x v w':=by
 simp only[eo] at h;obtain⟨e,h1,h⟩:=bm h;cases h;obtain⟨b,es,clock,hv,hbl,g1,g2,g3,g4⟩:=Gm hr h1 (cZ he hz);have ha':c.args = #[y]:=by rw[<-ha]
 refine⟨.int .i64 e.1.length,w,.inl ?_,.still hr (.plain (.int _ _))⟩;simp[execOp,hop,resolve,hb,invoke,builtin,Builtin.len_,ha',ht,eb hs,hv,MapKept.run_getObj_map hbl,goInt,g1]
def NX(hr:Rel j M w){bx:cV}{ob:Obj}(hfx:bx.fixed=true)(hh:∀j' M' (w':World),w'.heap[w.heap.size]?=some ob->Holds j' M' w' w.heap.size bx) :
  ∃j':J,Rel j' (M++[bx]) { w with heap:=w.heap.push ob }/\Ext j M w j' (M++[bx]) { w with heap:=w.heap.push ob }/\j' M.length=some w.heap.size:=by
 have q:Quiet w { w with heap:=w.heap.push ob }:=⟨dw,rfl,rfl,rfl⟩
 have hb:∀b,b<w.heap.size->({ w with heap:=w.heap.push ob }:World).heap[b]?=w.heap[b]?:=fun b hb=>by
  show(w.heap.push _)[b]?=_
  rw[fV,aQ aH]
 have hn:({ w with heap:=w.heap.push ob }:World).heap[w.heap.size]?=some ob:=dw
 refine⟨gH j M.length (some w.heap.size),hr.push (fun b h=>?_) q hb (fun _=>?_) (fun sz n b h=>by rw[h] at hfx; cases hfx) (fun sz v xs h=>by rw[h] at hfx; cases hfx),Ext.push (fun b h=>?_) q hb,by simp[gH]⟩
 ·cases h; simp
 ·exact⟨_,rfl,fun j' M' hx=>hh j' M' _ hn⟩
 ·injection h with h; omega
def WZ(hr:Rel j M w){t:TypeId}(hop:o.op = .makeMap t none)(h:eo C bp M .mkMap=some x):∃v w',rj P o a w v w'/\iV j M w x v w':=by
 simp only[eo] at h;cases h;obtain⟨j',h1,h2,h3⟩:=NX (ob := .map #[] 0) (bx := .map [] []) hr rfl fun j' M' w' hw=>⟨#[],0,hw,rfl,rfl,fun i k e h=>by simp at h,fun i k e h=>by simp at h⟩
 exact⟨.map (some w.heap.size),_,.inl (by simp[execOp,hop,Instr.makeMap]),j',h1,h2,.iy ⟨[],[],dw⟩ h3⟩
def abB(hr:Rel j M w)(he:cq j M w bp a){t:TypeId}{y:Operand}{z:fY}(hop:o.op = .range t y)(ht:P.underlying t=some .string)(hz:eV y=some z)(h:eo C bp M (.QF z)=some x):∃v w',rj P o a w v w'/\iV j M w x v w':=by
 simp only[eo] at h;have h0:=cZ he hz;split at h
 ·rename_i s e;rw[e] at h0;cases h;obtain⟨j',h1,h2,h3⟩:=NX (ob := .stringIter (bs s) 0) (bx := .nY s 0) hr rfl fun j' M' w' hw=>hw
  exact⟨.pointer (some ⟨w.heap.size,0,none⟩),_,.inl (by simp[execOp,hop,Instr.range,eb ht,h0.kH]),j',h1,h2,.ka ⟨s,0,dw⟩ h3⟩
 ·cases h
def HK(hr:Rel j M w){id b:Nat}{bx bx':cV}{ob:Obj}(hM:M[id]?=some bx)(hfx:bx.fixed=true)(htag:bx'.tag=bx.tag)(hj:j id=some b)(hnc:∀vs t fr,w.heap[b]?≠some (.cells vs t fr))
  (hh:∀j' M' (w':World),Ext j M w j' M' w'->w'.heap[b]?=some ob->Holds j' M' w' b bx') :
  Rel j (M.set id bx') { w with heap:=w.heap.setIfInBounds b ob }/\Ext j M w j (M.set id bx') { w with heap:=w.heap.setIfInBounds b ob }:=by
 have q:Quiet w { w with heap:=w.heap.setIfInBounds b ob }:=⟨dw,rfl,rfl,rfl⟩
 have hb:∀b',b'≠b->b'<w.heap.size->({ w with heap:=w.heap.setIfInBounds b ob }:World).heap[b']?=w.heap[b']?:=fun b' hne _=>by
  show(w.heap.setIfInBounds b ob)[b']?=_
  rw[fE (eX hne)]
 have cQ:b<w.heap.size:=hr.lt id b (aN hM) hj
 have hn:({ w with heap:=w.heap.setIfInBounds b ob }:World).heap[b]?=some ob:=by
  show(w.heap.setIfInBounds b ob)[b]?=_
  simp[cQ]
 exact⟨Rel.store hM hfx htag hj hr q hb (fun vs t fr h=>absurd h (hnc vs t fr)) fun j' M' hx=>hh j' M' _ hx hn,Ext.store hM hfx htag hj hr q hb (fun vs t fr h=>absurd h (hnc vs t fr))⟩
def W6(hr:Rel j M w)(he:cq j M w bp a){y:Operand}{z:fY}(hop:o.op = .next y true)(hz:eV y=some z)(h:eo C bp M (.Gq z)=some x):∃v w',rj P o a w v w'/\iV j M w x v w':=by
 simp only[eo] at h;have h0:=cZ he hz;split at h
 ·rename_i id e;rw[e] at h0;obtain⟨b,_,hj,hv⟩:=h0.D4;split at h
  ·rename_i s pos hM;rw[fe] at hM;obtain⟨b',hj',hw⟩:=hr.fix _ _ hM rfl;rw[hj] at hj'; cases hj';have hw:w.heap[b]?=some (.stringIter (bs s) pos):=hw;have hsz:(bs s).size=s.length:=by simp[bs,ByteArray.size]
   have hget:(getObj b).run P w = .ok (.stringIter (bs s) pos) w:=by simp[getObj,Sem.run,hw]
   rcases lI h with ⟨cQ,h⟩|⟨cQ,h⟩<;>(cases h)
   ·have hlt':pos<s.length:=by simpa using cQ
    have hset:∀ob,(setObj b ob).run P w = .ok () { w with heap:=w.heap.setIfInBounds b ob }:=fun ob=>by simp[setObj,Sem.run,hw]
    obtain⟨r1,r2⟩:=HK (ob := .stringIter (bs s) (pos+(Utf8.decode (bs s) pos).2)) (bx' := .nY s (pos+(Utf8.decode ⟨s.toArray⟩ pos).2)) hr hM rfl rfl hj (fun vs t fr h=>by rw[hw] at h; cases h) fun j' M' w' _ hw=>hw
    refine⟨.tuple #[.bool true,goInt pos,.int .i32 (Utf8.decode (bs s) pos).1],{ w with heap:=w.heap.setIfInBounds b (.stringIter (bs s) (pos+(Utf8.decode (bs s) pos).2)) },.inl ?_,j,?_,?_,?_⟩
    ·simp[execOp,hop,Instr.next,hv,hget,hsz,hlt',hset]
    ·rw[fH]; exact r1
    ·rw[fH]; exact r2
    ·refine .tuple rfl fun i c u hc hu=>?_
     match i with
     |0=>simp at hc hu; subst hc; subst hu; exact .plain (.bool _)
     |1=>simp at hc hu; subst hc; subst hu; exact .plain (.int _ _)
     |2=>simp at hc hu; subst hc; subst hu; exact .plain (.int _ _)
     |n+3=>simp at hc
   ·have hlt':¬pos<s.length:=by simpa using cQ
    refine⟨.tuple #[.bool false],w,.inl ?_,.still hr (.tuple rfl fun i c u hc hu=>?_)⟩
    ·simp[execOp,hop,Instr.next,hv,hget,hsz,hlt']
    ·match i with
     |0=>simp at hc hu; subst hc; subst hu; exact .plain (.bool _)
     |n+1=>simp at hc
  ·cases h
 ·cases h
def Xa(hr:Rel j M w)(he:cq j M w bp a){t kt et:TypeId}{m k y:Operand}{m' k' y':fY}{fk:FK}(hop:o.op = .mapUpdate t m k y\/o.op = .insert t m k y)(ht:P.underlying t=some (.map kt et))
  (hk:Ec P kt=some fk) (hm':eV m=some m') (hk':eV k=some k') (hyr:gk j M w (y'.ev bp) (a.eval y)) (h:eo C bp M (.gH fk m' k' y')=some x):∃v w',rj P o a w v w'/\iV j M w x v w':=by
 simp only[eo] at h;have h0:=cZ he hm';split at h
 ·rename_i id e;rw[e] at h0;split at h
  ·rename_i ks vs hM;obtain⟨r,hr',h⟩:=bm h;cases h;rw[fe] at hM;obtain⟨b,_,hj,hv⟩:=h0.vM;obtain⟨b',hj',es,clock,hb,g2,g3,g4,g5⟩:=hr.fix _ _ hM rfl;rw[hj] at hj'; cases hj';obtain⟨d,hd,hfk⟩:=Gg hk;have hc:∀q,(Instr.checkKey q 10000 kt (a.eval k)).run P w = .ok () w:=fun q=>FJ hfk hd q _
   obtain⟨kp,hf⟩:=I9 hfk (cZ he hk') (es:=es.toList) 0 hr' (by simpa using g2) (by simpa using g3) (fun i k e hk he=>g4 i k e hk (by simpa using he))
   have hset:∀ob,(setObj b ob).run P w = .ok () { w with heap:=w.heap.setIfInBounds b ob }:=fun ob=>MapKept.run_setObj_map ob hb
   rcases hf with ⟨rfl,f1⟩|⟨i,e',rfl,f3,f4,f1⟩
   ·obtain⟨r1,r2⟩:=HK (ob := .map (es.push { key:=a.eval k,val:=a.eval y,born:=clock }) (clock+1)) (bx' := .map (ks++[k'.ev bp]) (vs++[y'.ev bp])) hr hM rfl rfl hj (fun vs t fr h=>by rw[hb] at h; cases h) fun j' M' w' hx hw=>by
     refine⟨_,_,hw,by simp[g2],by simp[g3],fun i k e hk he=>?_,fun i k e hk he=>?_⟩
     ·rw[fV] at he;rw[nP] at hk
      by_cases hi:i=es.size
      ·subst hi;simp[g2] at hk he;subst hk; subst he;exact kp.mono hx.iv
      ·rw[aQ hi] at he;have hi':i<es.size:=(fJ.1 he).1;rw[aZ aH] at hk;exact(g4 i k e hk he).mono hx.iv
     ·rw[fV] at he;rw[nP] at hk
      by_cases hi:i=es.size
      ·subst hi;simp[g3] at hk he;subst hk; subst he;exact hyr.mono hx
      ·rw[aQ hi] at he;have hi':i<es.size:=(fJ.1 he).1;rw[aZ aH] at hk;exact(g5 i k e hk he).mono hx
    refine⟨undef,{ w with heap:=w.heap.setIfInBounds b (.map (es.push { key:=a.eval k,val:=a.eval y,born:=clock }) (clock+1)) },.inr ⟨?_,rfl⟩,j,?_,?_,.any _⟩
    ·rcases hop with hop|hop<;>simp[execOp,hop,Instr.mapUpdate,eb ht,hv,MapKept.run_getObj_map hb,hc,Instr.findKey,eb hd,f1,hset]
    ·rw[fH]; exact r1
    ·rw[fH]; exact r2
   ·have hi:i<es.size:=by simpa using(aj.1 f3).1
    have he':es[i]?=some e':=by simpa using f3
    obtain⟨r1,r2⟩:=HK (ob := .map (es.modify i fun e=>{ e with key:=a.eval k,val:=a.eval y }) clock) (bx' := .map (ks.set i (k'.ev bp)) (vs.set i (y'.ev bp))) hr hM rfl rfl hj (fun vs t fr h=>by rw[hb] at h; cases h) fun j' M' w' hx hw=>by
     refine⟨_,_,hw,by simp[g2],by simp[g3],fun q k e hk he=>?_,fun q k e hk he=>?_⟩
     ·rw[gU] at he
      by_cases hq:i=q
      ·subst hq;simp[he'] at he;rw[fa aH] at hk;cases hk; subst he;exact kp.mono hx.iv
      ·rw[aQ hq] at he;rw[fc hq] at hk;exact(g4 q k e hk he).mono hx.iv
     ·rw[gU] at he
      by_cases hq:i=q
      ·subst hq;simp[he'] at he;rw[fa aH] at hk;cases hk; subst he;exact hyr.mono hx
      ·rw[aQ hq] at he;rw[fc hq] at hk;exact(g5 q k e hk he).mono hx
    refine⟨undef,{ w with heap:=w.heap.setIfInBounds b (.map (es.modify i fun e=>{ e with key:=a.eval k,val:=a.eval y }) clock) },.inr ⟨?_,rfl⟩,j,?_,?_,.any _⟩
    ·rcases hop with hop|hop<;>simp[execOp,hop,Instr.mapUpdate,eb ht,hv,MapKept.run_getObj_map hb,hc,Instr.findKey,eb hd,f1,hset,he',Instr.keyThatStays,f4]
    ·rw[fH]; exact r1
    ·rw[fH]; exact r2
  ·cases h
 ·cases h
end
def kc(xs:List ag):List ag:=xs.flatMap ag.cells
def oY(x:ag)(xs:List ag):kc (x::xs)=x.cells++kc xs:=rfl
def oX(xs ys:List ag):kc (xs++ys)=kc xs++kc ys:=by simp[kc]
def iT{sz:Nat}:∀ {xs:List ag},wid xs sz->(kc xs).length=xs.length*sz
 | [],_=>by simp[kc]
 |x::xs,h=>by
  rw[oY,aA,h x (bD ..),iT fun y hy=>h y (bu _ hy),au,bP]
  omega
def nD{sz:Nat}{xs ys:List ag}(h1:wid xs sz)(h2:wid ys sz):wid (xs++ys) sz:=fun x hx=>(bo.1 hx).elim (h1 x) (h2 x)
def vY{sz n:Nat}{xs:List ag}(h:wid xs sz):wid (xs.take n) sz:=fun x hx=>h x (dB hx)
def vX{sz n:Nat}{xs:List ag}(h:wid xs sz):wid (xs.drop n) sz:=fun x hx=>h x (dA hx)
def sb{sz:Nat}:∀(n:Nat){xs:List ag},wid xs sz->kc (xs.take n)=(kc xs).take (n*sz)
 |0,_,_=>by simp[kc]
 |n+1,[],_=>by simp[kc]
 |n+1,x::xs,h=>by
  have hx:=h x (bD ..);have e:(n+1)*sz=sz+n*sz:=by rw[bP]; omega
  rw[List.take_succ_cons,oY,oY,sb n fun y hy=>h y (bu _ hy),List.take_append,hx,e,iY,bt (l:=x.cells) aH]
def uf{sz:Nat}:∀(n:Nat){xs:List ag},wid xs sz->kc (xs.drop n)=(kc xs).drop (n*sz)
 |0,_,_=>dw
 |n+1,[],_=>by simp[kc]
 |n+1,x::xs,h=>by
  have hx:=h x (bD ..);have e:(n+1)*sz=sz+n*sz:=by rw[bP]; omega
  rw[oL,oY,uf n fun y hy=>h y (bu _ hy),List.drop_append,hx,e,iY,ir (l:=x.cells) aH,aP]
theorem Ba{sz:Nat}:∀ {xs:List ag},wid xs sz->∀ {q:Nat} {x:ag} {k:Nat} {c:ag},xs[q]?=some x->x.cells[k]?=some c->(kc xs)[q*sz+k]?=some c
 | [],_,q,x,k,c,hx,_=>jO
 |y::xs,h,0,x,k,c,hx,hk=>by
  simp at hx; subst hx;rw[oY,jG,aI,aO (aj.1 hk).1];omega
 |y::xs,h,q+1,x,k,c,hx,hk=>by
  have hy:=h y (bD ..);rw[oY,bj (by rw[bP]; omega),hy]
  rw[show(q+1)*sz+k-sz=q*sz+k by rw[bP]; omega]
  exact Ba (fun z hz=>h z (bu _ hz)) jO hk
theorem DP{sz:Nat}{xs:List ag}(h:wid xs sz){p:Nat}{c:ag}(hp:(kc xs)[p]?=some c):∃q x k,xs[q]?=some x/\x.cells[k]?=some c/\p=q*sz+k:=by
 have cQ:p<xs.length*sz:=by rw[<-iT h]; grind
 have hsz:0<sz:=by
  grind
 have hq:p / sz<xs.length:=by rw[kX hsz]; omega
 have hk:p % sz<(xs[p / sz]).cells.length:=by rw[h _ (jt _)]; simp_all [nA]
 grind [Nat.mul_comm,Nat.div_add_mod,Ba]
def RL(w:World)(iv:Nat->Nat->Prop)(cs:List ag)(vs:List Value):Prop:=cs.length=vs.length/\∀(p:Nat)(c:ag)(v:Value),cs[p]?=some c->vs[p]?=some v->fP w iv c v
section
variable {w w':World} {iv saf':Nat->Nat->Prop} {cs ds:List ag} {us vs:List Value}
def RL.append(h:RL w iv cs us)(k:RL w iv ds vs):RL w iv (cs++ds) (us++vs):=by
 refine⟨by simp[h.1,k.1],fun p c v hc hv=>?_⟩
 rcases bA p _ with hp|hp
 ·rw[aO hp] at hc;rw[aO (by rw[<-h.1]; omega)] at hv
  exact h.2 p c v hc hv
 ·rw[bj hp] at hc;rw[bj (by rw[<-h.1]; omega),<-h.1] at hv
  exact k.2 _ c v hc hv
theorem RL.take(n:Nat)(h:RL w iv cs us):RL w iv (cs.take n) (us.take n):=by
 refine⟨by simp[h.1],fun p c v hc hv=>?_⟩
 rw[fz] at hc hv;split at hc
 ·rename_i hp;rw[aZ hp] at hv;exact h.2 p c v hc hv
 grind
def RL.drop(n:Nat)(h:RL w iv cs us):RL w iv (cs.drop n) (us.drop n):=by
 refine⟨by simp[h.1],fun p c v hc hv=>?_⟩
 rw[cS] at hc hv;exact h.2 _ c v hc hv
def RL.mono(hm:∀b off,iv b off->saf' b off/\w'.cell? ⟨b,off,none⟩=w.cell? ⟨b,off,none⟩)(h:RL w iv cs us):RL w' saf' cs us:=⟨h.1,fun p c v hc hv=>(h.2 p c v hc hv).mono hm⟩
end
section
variable {j:J} {M:aC} {w:World}
theorem xZ{b sz:Nat}{xs:List ag}{vs:Array Value}(hl:xs.length*sz<=vs.size)(hwd:wid xs sz)
  (hc:∀(q:Nat)(x:ag)(k:Nat)(c:ag),xs[q]?=some x->x.cells[k]?=some c->∃v,vs[q*sz+k]?=some v/\fP w (nM j M w) c v):RL w (nM j M w) (kc xs) (vs.toList.take (xs.length*sz)):=by
 refine⟨by rw[iT hwd]; grind,fun p c v hp hv=>?_⟩
 obtain⟨q,x,k,h1,h2,rfl⟩:=DP hwd hp
 grind
theorem mF{j':J}{M':aC}{w':World}{b sz:Nat}{t:TypeId}{xs:List ag}{us:List Value}{vs:Array Value}(hw:w'.heap[b]?=some (.cells vs t (0,0)))(hwd:wid xs sz)(hr:RL w' (nM j' M' w') (kc xs) us)
  (hv:∀p,p<us.length->vs[p]?=us[p]?):Fu j' M' w' b sz xs:=by
 have dN:us.length=xs.length*sz:=by rw[<-hr.1,iT hwd]
 refine⟨vs,t,hw,?_,hwd,fun q x k c hx hk=>?_⟩
 ·grind
 ·have h1:=Ba hwd hx hk;have hp:q*sz+k<us.length:=by rw[<-hr.1]; grind
  exact⟨us[q*sz+k],by rw[hv _ hp,ai _],hr.2 _ _ _ h1 (ai _)⟩
theorem Be:∀(ids:List Nat){M:aC}{i:Nat}{bx:cV},M[i]?=some bx->(∀sz v xs,bx ≠ .arr sz v xs)->(qE M ids)[i]?=some bx
 | [],_,_,_,h,_=>h
 |a::r,M,i,bx,h,hn=>by
  simp[qE,fe];split
  ·refine Be r ?_ hn
   grind [fH]
  ·exact Be r h hn
theorem zW:∀(ids:List Nat){M:aC},Rel j M w->Ext j M w j (qE M ids) w/\Rel j (qE M ids) w/\(qE M ids).length=M.length/\∀id,id∈ids->∀sz v xs,M[id]?=some (.arr sz v xs)->(qE M ids)[id]?=some (.tick sz xs.length)
 | [],M,hr=>⟨.refl _ _ _,hr,rfl,fun id h=>by cases h⟩
 |a::r,M,hr=>by
  simp only[qE,fe];split
  ·rename_i sz v xs hM;rw[fH];obtain⟨h1,h2,h3,h4⟩:=zW r (Rel.freeze hM hr);refine⟨(Ext.freeze hM).trans h1,h2,by rw[h3]; simp,fun id hid sz' v' xs' hid'=>?_⟩
   grind [id,Be,ei,aN]
  ·obtain⟨h1,h2,h3,h4⟩:=zW r hr
   grind
def gk.oZ{M':aC}(hr:Rel j M w)(hx:Ext j M w j M' w)(hr':Rel j M' w)(hl:M'.length=M.length){x:ag}{v:Value}(h:gk j M w x v)(hf:∀id,id∈x.iH->∀sz v xs,M[id]?=some (.arr sz v xs)->M'[id]?=some (.tick sz xs.length)):gk j M' w (x.oZ M) v:=by
 cases x<;>try exact h.mono hx
 rename_i id ver sz lo hi;simp[ag.oZ,fe];split
 ·rename_i sz' v' xs hM;split
  ·rename_i hv;subst hv;obtain⟨_,hid,_,g⟩:=h.nh;obtain⟨e1,l1,l2,⟨rfl,_,A,rfl⟩|⟨b,cap,vs,t,l3,l4,l5,l6,l7⟩⟩:=(g sz' v' xs hM).2 rfl
   ·simp;exact .plain (fP.nil _ _ _)
   subst e1;obtain⟨b',vs',t',k1,k2,k3,k4,k5⟩:=hr.w9 hM l3;rw[l3] at k1; cases k1;rw[l4];refine .plain (tJ k2 k4 k5 (fun b off hs=>(hx.iv b off hs).1) (fun off ho=>⟨hr'.lt id b (by rw[hl]; exact aN hM) l3,fun i hi hji=>?_,hr'.uM id b aH l3 off⟩) l1 l2 l5)
   have  := hr'.inj i id b hi (by rw[hl]; exact aN hM) hji l3
   subst this;exact⟨sz',xs.length,hf i (by simp[ag.iH]) _ _ _ hM,ho⟩
  ·exact .any _
 ·exact .any _
theorem gk.rz{M':aC}(hr:Rel j M w)(hx:Ext j M w j M' w)(hr':Rel j M' w)(hl:M'.length=M.length){x:ag}{v:Value}(h:gk j M w x v)(hf:∀id,id∈x.ids->∀sz v xs,M[id]?=some (.arr sz v xs)->M'[id]?=some (.tick sz xs.length)):gk j M' w (x.rz M) v:=by
 by_cases hag:∃cs,x = .agg cs
 ·obtain⟨cs,rfl⟩:=hag;obtain⟨vs,rfl,hl',hc⟩:=h.mY;refine .agg jO fun i c u hi hu=>?_
  rw[aX,aU] at hi;obtain⟨c0,hc0,rfl⟩:=hi;refine(hc i c0 u hc0 hu).oZ hr hx hr' hl fun id hid=>hf _ ?_
  refine iJ.2 ⟨c0,aJ hc0,?_⟩;cases c0<;>first|exact hid|(simp[ag.iH] at hid)
 ·have:x.rz M=x.oZ M:=by cases x<;>first|rfl|grind
  rw[this];refine h.oZ hr hx hr' hl fun id hid=>hf id ?_
  cases x<;>first|exact hid|exact absurd _ _|grind [ag.iH]
end
section
variable {P:Program} {C:eL} {o:Oper} {bp:Env} {M:aC} {j:J} {w:World} {a:Act} {x:ag×aC}
theorem rP(z:Array Value)(n:Nat):(Builtin.zeroCells z n).toList=(List.replicate n z.toList).flatten:=by
 induction n with
 |zero=>simp[Builtin.zeroCells]
 |succ n ih =>
  rw[nQ,List.flatten_append,<-ih];apply ct;intro i;simp only[Builtin.zeroCells,Array.toList_map,Array.toList_range,List.flatten_cons,List.flatten_nil,dz];rcases bA i (n*z.size) with h|h
  ·grind
  ·rw[bj jO];simp only[cz,List.length_range];rcases bA i ((n+1)*z.size) with h2|h2
   ·have h3:i-n*z.size<z.size:=by rw[bP] at h2; omega
    have h4:i % z.size=i-n*z.size:=by
     have:i=(i-n*z.size)+n*z.size:=aH;rw[this,Nat.add_mul_mod_self_right,nK h3]; omega
    rw[aX,jk h2];simp[h4,h3]
   grind
def PB(n:Nat)(zero:List ag):kc (List.replicate n (.agg zero))=(List.replicate n zero).flatten:=by
 induction n with
 |zero=>rfl
 |succ n ih=>rw[jl,oY,ih]; rfl
theorem Rr{iv:Nat->Nat->Prop}(n:Nat){cs:List ag}{us:List Value}(h:RL w iv cs us):RL w iv (List.replicate n cs).flatten (List.replicate n us).flatten:=by
 induction n with
 |zero=>exact⟨rfl,fun p c v hc=>dw⟩
 |succ n ih=>exact h.append ih
theorem xY{id b sz ver ver':Nat}{xs xs':List ag}{vs vs':Array Value}{t:TypeId}{us:List Value}{w':World}(hr:Rel j M w)(hM:M[id]?=some (.arr sz ver xs))(hj:j id=some b)(q:Quiet w w')
  (hb:∀b',b'≠b->b'<w.heap.size->w'.heap[b']?=w.heap[b']?) (hw:w.heap[b]?=some (.cells vs t (0,0))) (hw':w'.heap[b]?=some (.cells vs' t (0,0))) (hs:vs'.size=vs.size)
  (hv:ver<=ver') (hl:ver'=ver->xs'.length=xs.length) (hwd:wid xs' sz) (hrl:RL w (nM j M w) (kc xs') us) (hus:∀p,p<us.length->vs'[p]?=us[p]?) :
  Rel j (M.set id (.arr sz ver' xs')) w'/\Ext j M w j (M.set id (.arr sz ver' xs')) w':=by
 have hwr:∀vs0 t1,w.heap[b]?=some (.cells vs0 t1 (0,0))->∃vs1,w'.heap[b]?=some (.cells vs1 t1 (0,0))/\vs1.size=vs0.size:=fun vs0 t1 h=>by
  grind
 exact⟨Rel.FA hM hj hr q hb hwr hv hl fun j' M' hx=>mF hw' hwd (hrl.mono hx.iv) hus,Ext.FA hM hj hr q hb hwr hv hl⟩
theorem Di{l:List ag}{vs:List Value}(hl:tu vs=some l)(hp:(l.map ag.shut).all ag.plainCell=true):RL w (nM j M w) (l.map ag.shut) vs/\∀v,v∈vs->v.oneCell'=true:=by
 obtain⟨h1,h2⟩:=qH (j:=j) (M:=M) (w:=w) hl;rw[List.all_map,bK] at hp;refine⟨⟨jO,fun p c v hc hv=>?_⟩,fun v hv=>?_⟩
 ·grind [AB,List.mem_of_getElem?]
 ·obtain⟨p,hp',rfl⟩:=kg hv;have hpl:p<l.length:=aH;exact Dx (h2 p _ _ (ai hpl) (ai hp')) (Cy (hp _ (jt hpl)))
theorem Qi(hr:Rel j M w)(he:cq j M w bp a){c:Call}{y:Operand}{z:fY}{t e:TypeId}{i:TypeInfo}{zv:Value}{l:List ag}(hop:o.op = .call c)(hb:c.callee = .builtin .clear)(ha:c.args.toList=[y])
  (ht:c.argTypes.toList=[t]) (hs:P.underlying t=some (.slice e)) (hi:P.info? e=some i) (hzv:i.zero=some zv) (hl:tu zv.cells.toList=some l) (hsz:l.length=i.size) (hz:eV y=some z)
  (h:eo C bp M (.xe i.size (l.map ag.shut) z)=some x):∃v w',rj P o a w v w'/\iV j M w x v w':=by
 simp only[eo] at h;have h1:=cZ he hz;have ha':c.args = #[y]:=by rw[<-ha]
 have ht':c.argTypes = #[t]:=by rw[<-ht]
 split at h
 ·rename_i tk xs ez;rw[ez] at h1;split at h
  ·cases h;obtain⟨A,cap,b,off,sz,vs,hv,_⟩:=h1.er.er;refine⟨.tuple #[],w,.inl ?_,.still hr (.any _)⟩;cases A<;>simp[execOp,hop,resolve,hb,invoke,builtin,Builtin.clear_,ha',ht',eb hs,hv]
  ·cases h
 ·rename_i id ver sz' lo hi' ez;rw[ez] at h1;rw[fe] at h;split at h
  ·rename_i sz0 v0 xs hM;split at h
   ·rename_i hc;obtain⟨c1,c2,c3,c4⟩:=hc;cases h;subst c1; subst c2;obtain⟨_,hid,_,g⟩:=h1.nh;obtain⟨e1,l1,l2,⟨rfl,_,A,hA⟩|⟨b,cap,vs,t0,l3,l4,l5,l6,l7⟩⟩:=(g sz0 v0 xs hM).2 rfl
    ·have hlo:lo=0:=Nat.le_zero.1 (aY l1 l2);have hhi:hi'=0:=Nat.le_zero.1 l2;subst hlo; subst hhi;refine⟨.tuple #[],w,.inl ?_,?_⟩
     ·cases A<;>simp[execOp,hop,resolve,hb,invoke,builtin,Builtin.clear_,ha',ht',eb hs,hA]
     ·rw[fH]
      have he:M.set id (.arr sz0 v0 (List.take 0 ([]:List ag)++(List.replicate (0-0) (ag.agg (l.map ag.shut))++List.drop 0 [])))=M:=by
       apply ct
       grind
      rw[he];exact .still hr (.any _)
    subst e1;obtain⟨b',vs',t',k1,k2,k3,k4,k5⟩:=hr.w9 hM l3;rw[l3] at k1; cases k1;rw[l6] at k2; injection k2 with k2; injection k2 with k2 k2'
    subst k2; subst k2';obtain⟨p1,p2⟩:=Di (j:=j) (M:=M) (w:=w) hl c4;have hzl:zv.cells.toList.length=i.size:=by rw[<-p1.1]; simpa using hsz
    have dN:(List.replicate (hi'-lo) zv.cells.toList).flatten.length=(hi'-lo)*i.size:=by simp[List.length_flatten,gX,List.sum_replicate_nat,hzl]
    have hbd:lo*i.size+(hi'-lo)*i.size<=xs.length*i.size:=by rw[<-bP]; exact bd _ aH
    have hfit:lo*i.size+(List.replicate (hi'-lo) zv.cells.toList).flatten.length<=vs.size:=by rw[dN]; omega
    have hone:∀v,v∈(List.replicate (hi'-lo) zv.cells.toList).flatten->v.oneCell'=true:=fun v hv=>by
     obtain⟨r,hr1,hr2⟩:=List.mem_flatten.1 hv;rw[mf hr1] at hr2;exact p2 v hr2
    have hrun:=nC (P:=P) (List.replicate (hi'-lo) zv.cells.toList).flatten w (lo*i.size) 0 vs l6 aH hone;obtain⟨s1,s2,s3,s4,s5,vs',s6,s7,s8,s9⟩:=mu (List.replicate (hi'-lo) zv.cells.toList).flatten w (lo*i.size) vs l6 hfit;have hrow:=xZ (b:=b) k3 k4 k5;have hwz:wid (List.replicate (hi'-lo) (ag.agg (l.map ag.shut))) i.size:=fun x hx=>by rw[mf hx]; simpa[ag.cells] using hsz
    have jq:RL w (nM j M w) (kc (xs.take lo++(List.replicate (hi'-lo) (ag.agg (l.map ag.shut))++xs.drop hi'))) ((vs.toList.take (xs.length*i.size)).take (lo*i.size)++((List.replicate (hi'-lo) zv.cells.toList).flatten++(vs.toList.take (xs.length*i.size)).drop (hi'*i.size))):=by
     rw[oX,oX,sb lo k4,uf hi' k4,PB];exact(hrow.take _).append ((Rr _ p1).append (hrow.drop _))
    have hhi:lo*i.size+(hi'-lo)*i.size=hi'*i.size:=by rw[<-bP,dx l1]
    have hput:=xY (ver':=v0) (xs':=xs.take lo++(List.replicate (hi'-lo) (ag.agg (l.map ag.shut))++xs.drop hi')) hr hM l3 (w':=pz w b (lo*i.size) (List.replicate (hi'-lo) zv.cells.toList).flatten) ⟨aH,s2,s3,s4⟩ (fun b' hb' _=>s5 b' hb') l6 s6 s7 (av _)
     (fun _=>gr) (nD (vY k4) (nD hwz (vX k4))) jq (fun p hp=>by
      have hp':p<xs.length*i.size:=by
       rw[<-jq.1,iT (nD (vY k4) (nD hwz (vX k4)))] at hp;have:(xs.take lo++(List.replicate (hi'-lo) (ag.agg (l.map ag.shut))++xs.drop hi')).length=xs.length:=gr;rwa[this] at hp
      have htk:(List.take (lo*i.size) (vs.toList.take (xs.length*i.size))).length=lo*i.size:=gr;rcases bA p (lo*i.size) with q1|q1
      ·rw[s8 p (.inl q1),aO (by rw[htk]; omega),bG q1,bG hp']; simp
      ·rw[bj (by rw[htk]; exact q1),htk]
       rcases bA p (hi'*i.size) with q2|q2
       ·rw[aO (by rw[dN]; omega)]
        have:=s9 (p-lo*i.size) (by rw[dN]; omega)
        rw[dx q1] at this;exact this
       ·rw[bj (by rw[dN]; omega),s8 p (.inr (by rw[dN]; omega)),cS,dN,show hi'*i.size+(p-lo*i.size-(hi'-lo)*i.size)=p by omega,bG hp']; simp)
    rw[fH];rcases gY (hi'-lo) with h0|h0
    ·refine⟨.tuple #[],pz w b (lo*i.size) (List.replicate (hi'-lo) zv.cells.toList).flatten,.inl ?_,j,hput.1,hput.2,.any _⟩;rw[h0] at l4;simp[execOp,hop,resolve,hb,invoke,builtin,Builtin.clear_,ha',ht',eb hs,l4,h0,pz]
    ·refine⟨.tuple #[],pz w b (lo*i.size) (List.replicate (hi'-lo) zv.cells.toList).flatten,.inl ?_,j,hput.1,hput.2,.any _⟩;obtain⟨m,hm⟩:∃m,hi'-lo=m+1:=⟨hi'-lo-1,aH⟩;simp only[dj] at hrun;rw[<-rP,hm] at hrun;rw[hm] at l4;rw[<-rP,hm];simp[execOp,hop,resolve,hb,invoke,builtin,Builtin.clear_,ha',ht',eb hs,l4,zeroValue,pX hi,hzv,hrun]
   ·cases h
  ·cases h
 ·cases h
end
def fP.vN{j:J}{M:aC}{w:World}{x:ag}{v:Value}(h:gk j M w x v)(hp:x.plainCell=true):fP w (nM j M w) x v:=by
 cases x with
 |slice tk xs=>cases tk with
  |sh=>exact h.er
  |c0=>cases hp
  |own k=>cases hp
 |bool b=>cases h with|plain h=>exact h
 |int k n=>cases h with|plain h=>exact h
 |str s=>cases h with|plain h=>exact h
 |raw v=>cases h with|plain h=>exact h
 |agg _=>cases hp
 |tuple _=>cases hp
 |ptr _ _=>cases hp
 |jF _=>cases hp
 |func _ _=>cases hp
 |iy _=>cases hp
 |ka _=>cases hp
 |kj _ _=>cases hp
 |cE _ _ _ _ _=>cases hp
 |jv _ _ _ _=>cases hp
 |rb _ _=>cases hp
 |nH _=>cases hp
 |kv _ _ _=>cases hp
 |any=>cases hp
def AN.vN{j:J}{M:aC}{w:World}{x:ag}{v:Value}(h:gk j M w x v)(hp:x.plain=true):AN w (nM j M w) x v:=by
 by_cases hag:∃cs,x = .agg cs
 ·obtain⟨cs,rfl⟩:=hag;obtain⟨us,h1,h2,h3⟩:=h.mY;refine⟨us,h1,h2,fun i c u hc hu => .vN (h3 i c u hc hu) ?_⟩
  simp only[ag.plain,bK] at hp;exact hp c (aJ hc)
 ·have e1:x.plain=x.plainCell:=by cases x<;>first|rfl|exact absurd ⟨_,rfl⟩ hag
  have:=fP.vN h (e1▸hp);cases x<;>first|exact absurd ⟨_,rfl⟩ hag|exact this
def QH{j:J}{M:aC}{w:World}{x:ag}{v:Value}(h:gk j M w x v):gk j M w x.fU v:=by
 have hs:∀ {x:ag} {v:Value},gk j M w x v->gk j M w x.shut v:=fun {x v} h=>by
  cases x<;>first|exact h|exact .plain h.er
 by_cases hag:∃cs,x = .agg cs
 ·obtain⟨cs,rfl⟩:=hag;obtain⟨us,rfl,h2,h3⟩:=h.mY;refine .agg (by simpa using h2) fun i c u hc hu=>?_
  rw[aX,aU] at hc;obtain⟨c0,hc0,rfl⟩:=hc;exact hs (h3 i c0 u hc0 hu)
 ·cases x<;>first|exact absurd ⟨_,rfl⟩ hag|exact h|exact .plain h.er
section
variable {P:Program} {C:eL} {o:Oper} {bp:Env} {M:aC} {j:J} {w:World} {a:Act} {x:ag×aC}
def WM(hr:Rel j M w)(he:cq j M w bp a){f:Nat}{first caps:Array Operand}{zs:List fY}(hop:o.op = .makeFunc (.func f) first caps)(hf:caps.isEmpty=true)(hz:vA first.toList=some zs)
  (h:eo C bp M (.FF f zs)=some x):∃v w',rj P o a w v w'/\iV j M w x v w':=by
 simp only[eo] at h;split at h
 ·rename_i hp;cases h;obtain⟨h1,h2⟩:=uu he hz;have hf':caps = #[]:=by simpa using hf
  refine⟨.func (.func f) (first.map a.eval) #[],w,.inl ?_,.still hr (.rb (by simpa using h1) fun i c v hc hv=>?_)⟩
  ·simp[execOp,hop,Instr.makeFunc,hf']
  ·have hpc:=bK.1 hp c (aJ hc);rw[aX,aU] at hc;obtain⟨y,hy,rfl⟩:=hc;rw[iL,aU] at hv;obtain⟨z,hz',rfl⟩:=hv;exact .vN (QH (h2 i y z hy (by simpa using hz'))) hpc
 ·cases h
def Ql(hr:Rel j M w)(he:cq j M w bp a){y i:Operand}{z z':fY}{t e:TypeId}{len n:Nat}(hop:o.op = .indexAddr t y i)(ht:P.underlying t=some (.array len e))(hn:qG P e=some n)
  (hz:eV y=some z) (hz':eV i=some z') (h:eo C bp M (.Bi len n z z')=some x):∃v w',rj P o a w v w'/\iV j M w x v w':=by
 simp only[eo] at h;have h1:=cZ he hz;have h2:=cZ he hz';split at h
 ·rename_i cs k m ez ez';obtain⟨⟨h0,hm,hle⟩,h⟩:=dq h;cases h;rw[ez] at h1;rw[ez'] at h2;obtain⟨b,off,vs,hv,hc⟩:=h1.uz;refine⟨.pointer (some ⟨b,off+m.toNat*n,none⟩),w,.inl ?_,.still hr (.jF (vs:=fun q=>vs (m.toNat*n+q)) fun q c hq=>?_)⟩
  ·simp[execOp,hop,Instr.indexAt,eb ht,hv,h2.fW,asIntOf,h0,hm,js hn,lV,Instr.sureAddr]
  ·rw[cS] at hq;have h3:=hc _ c hq;rw[Nat.add_assoc];exact h3
 ·rename_i id off k m ez ez';obtain⟨⟨h0,hm⟩,h⟩:=dq h;cases h;rw[ez] at h1;rw[ez'] at h2;obtain⟨b,h3,h4,h5,hv⟩:=h1.qq;refine⟨.pointer (some ⟨b,off+m.toNat*n,none⟩),w,.inl ?_,.still hr (.ptr h3 h4 h5)⟩;simp[execOp,hop,Instr.indexAt,eb ht,hv,h2.fW,asIntOf,h0,hm,js hn,lV,Instr.sureAddr]
 ·cases h
def Qx(hr:Rel j M w){id q sz:Nat}{cs:List ag}(hM:M[id]?=some (.cells cs))(hc:cs[q]?=some (.slice .c0 [])) :
  ∃j',Rel j' (M.set id (.cells (cs.set q (.slice (.own M.length) [])))++[.tick sz 0]) w/\Ext j M w j' (M.set id (.cells (cs.set q (.slice (.own M.length) [])))++[.tick sz 0]) w:=by
 have q0:Quiet w w:=⟨av _,rfl,rfl,rfl⟩;have hr1:Rel (gH j M.length none) (M++[.tick sz 0]) w:=hr.push (ob:=none) (fun b h=>by cases h) q0 (fun _ _=>rfl) (fun h=>by cases h) (fun sz n b h h'=>by cases h')
 have hx1:Ext j M w (gH j M.length none) (M++[.tick sz 0]) w:=Ext.push (fun b h=>by cases h) q0 (fun _ _=>rfl)
 have hid:=aN hM;have hM1:(M++[cV.tick sz 0])[id]?=some (.cells cs):=by rw[xW hid]; exact hM
 obtain⟨b,vs,t,hj,hw,hl,hcs⟩:=hr.box id cs hM;have hj1:gH j M.length none id=some b:=by simp[gH,gJ hid,hj]
 have hset:M.set id (cV.cells (cs.set q (.slice (.own M.length) [])))++[cV.tick sz 0]=(M++[cV.tick sz 0]).set id (cV.cells (cs.set q (.slice (.own M.length) []))):=by rw[List.set_append_left _ _ hid]
 rw[hset];have hh:∀j' M',Ext (gH j M.length none) (M++[.tick sz 0]) w j' M' w->Holds j' M' w b (.cells (cs.set q (.slice (.own M.length) []))):=fun j' M' hx=>⟨vs,t,hw,by simpa using hl,fun p c v hc' hv=>gk.mono hx ?_⟩
 ·exact⟨_,Rel.store hM1 rfl rfl hj1 hr1 q0 (fun _ _ _=>rfl) (fun vs t fr h=>⟨vs,fr,h,rfl⟩) hh,hx1.trans (Ext.store hM1 rfl rfl hj1 hr1 q0 (fun _ _ _=>rfl) (fun vs t fr h=>⟨vs,fr,h,rfl⟩))⟩
 ·by_cases hp:q=p
  ·subst hp;rw[fa (aN hc)] at hc';cases hc';have h1:=hcs q _ v hc hv
   obtain⟨A,hA⟩:∃A,v = .slice A 0 0:=by
    cases h1 with
    |plain h=>cases h
    |c0 A=>exact⟨A,rfl⟩
   rw[hA];exact .own (sz:=sz) (n:=0) dw dw (fP.nil _ _ _) fun _ => .inl ⟨by simp[gH],rfl,A,rfl⟩
  ·rw[fc hp] at hc';exact gk.mono hx1 (hcs p c v hc' hv)
def Mq(hr:Rel j M w){id q sz:Nat}{cs:List ag}(hM:M[id]?=some (.cells cs))(hc:cs[q]?=some (.slice .c0 [])) :
  ∃j',Rel j' (M.set id (.cells (cs.set q (.cE M.length 0 sz 0 0)))++[.arr sz 0 []]) w/\Ext j M w j' (M.set id (.cells (cs.set q (.cE M.length 0 sz 0 0)))++[.arr sz 0 []]) w:=by
 have q0:Quiet w w:=⟨av _,rfl,rfl,rfl⟩;have hr1:Rel (gH j M.length none) (M++[.arr sz 0 []]) w:=hr.push (ob:=none) (bx := .arr sz 0 []) (fun b h=>by cases h) q0 (fun _ _=>rfl) (fun h=>by cases h) (fun sz n b h h'=>by cases h') (fun sz ver xs h=>by injection h with e1 e2 e3; exact .inl ⟨e3.symm,rfl⟩)
 have hx1:Ext j M w (gH j M.length none) (M++[.arr sz 0 []]) w:=Ext.push (fun b h=>by cases h) q0 (fun _ _=>rfl)
 have hid:=aN hM;have hM1:(M++[cV.arr sz 0 []])[id]?=some (.cells cs):=by rw[xW hid]; exact hM
 obtain⟨b,vs,t,hj,hw,hl,hcs⟩:=hr.box id cs hM;have hj1:gH j M.length none id=some b:=by simp[gH,gJ hid,hj]
 have hset:M.set id (cV.cells (cs.set q (.cE M.length 0 sz 0 0)))++[cV.arr sz 0 []]=(M++[cV.arr sz 0 []]).set id (cV.cells (cs.set q (.cE M.length 0 sz 0 0))):=by rw[List.set_append_left _ _ hid]
 rw[hset];have hh:∀j' M',Ext (gH j M.length none) (M++[.arr sz 0 []]) w j' M' w->Holds j' M' w b (.cells (cs.set q (.cE M.length 0 sz 0 0))):=fun j' M' hx=>⟨vs,t,hw,by simpa using hl,fun p c v hc' hv=>gk.mono hx ?_⟩
 ·exact⟨_,Rel.store hM1 rfl rfl hj1 hr1 q0 (fun _ _ _=>rfl) (fun vs t fr h=>⟨vs,fr,h,rfl⟩) hh,hx1.trans (Ext.store hM1 rfl rfl hj1 hr1 q0 (fun _ _ _=>rfl) (fun vs t fr h=>⟨vs,fr,h,rfl⟩))⟩
 ·by_cases hp:q=p
  ·subst hp;rw[fa (aN hc)] at hc';cases hc';have h1:=hcs q _ v hc hv
   obtain⟨A,hA⟩:∃A,v = .slice A 0 0:=by
    cases h1 with
    |plain h=>cases h
    |c0 A=>exact⟨A,rfl⟩
   rw[hA];refine .cE (.inr ⟨rfl,A,rfl⟩) dw (fun bx hbx=>by rw[kh] at hbx; cases hbx; rfl) fun sz' v' zs hx=>?_
   rw[kh] at hx; injection hx with hx; injection hx with e1 e2 e3
   subst e1; subst e2; subst e3;exact⟨av _,fun _=>⟨rfl,av _,av _,.inl ⟨rfl,by simp[gH],A,rfl⟩⟩⟩
  ·rw[fc hp] at hc';exact gk.mono hx1 (hcs p c v hc' hv)
def KA{cs new:List ag}{off p:Nat}{x:ag}(h:off+new.length<=cs.length)(hp:p<new.length):mQ cs off (new.set p x)=(mQ cs off new).set (off+p) x:=by
 apply ct;intro i;rw[re (by simpa using h)]
 by_cases hi:off+p=i
 ·subst hi;rw[fa (by rw[vf h]; omega),aZ gr,show off+p-off=p by omega,fa hp]
 ·rw[fc hi,re h];simp only[cA];split
  ·rename_i hc;rw[fc aH]
  ·rfl
def Qo(hr:Rel j M w)(he:cq j M w bp a){y y':Operand}{z z':fY}{t:TypeId}{n sz p:Nat}(hop:o.op = .store t y y')(hn:qG P t=some n)(hz:eV y=some z)(hz':eV y'=some z')
  (h:eo C bp M (.BM sz p n z z')=some x):∃v w',rj P o a w v w'/\iV j M w x v w':=by
 simp only[eo] at h;split at h
 ·rename_i id off e;split at h
  ·rename_i cs hM;obtain⟨new,jq,h⟩:=bm h;split at h
   ·rename_i hp;split at h
    ·rename_i hcond;cases h
     have hs:eo C bp M (.store n z z')=some (.any,jo M id (.cells (mQ cs off new))):=by
      simp only[eo,e,hM,jq,bN];rw[aZ hcond]
     obtain⟨v,w',h1,j',h2,h3,h4⟩:=Ex hr he hop hn hz hz' hs;rw[fe] at hM hp;have cQ:=aN hM;have hpl:=aN hp;have hle:off+new.length<=cs.length:=aH;rw[fH] at h2 h3 h4;have hM2:(M.set id (.cells (mQ cs off new)))[id]?=some (.cells (mQ cs off new)):=ei cQ
     have hc2:(mQ cs off new)[off+p]?=some (.slice .c0 []):=by
      rw[re hle,aZ aH,show off+p-off=p by omega]
      exact hp
     rw[fH,fH,KA hle hpl];unfold Qw Qv;split
     ·obtain⟨j'',k1,k2⟩:=Mq (sz:=sz-500) h2 hM2 hc2;rw[List.set_set,cA] at k1 k2;exact⟨v,w',h1,j'',k1,h3.trans k2,.any _⟩
     ·obtain⟨j'',k1,k2⟩:=Qx (sz:=sz) h2 hM2 hc2;rw[List.set_set,cA] at k1 k2;exact⟨v,w',h1,j'',k1,h3.trans k2,.any _⟩
    ·cases h
   ·cases h
  ·cases h
 ·cases h
end
section
variable {P:Program} {C:eL} {o:Oper} {bp:Env} {M:aC} {x:ag×aC} {j:J} {w:World} {a:Act}
def abz(hr:Rel j M w)(he:cq j M w bp a){t e:TypeId}{len:Nat}{parts:Array (Nat×Operand)}{i:TypeInfo}(hop:o.op = .buildSlice t len parts)(ht:P.underlying t=some (.slice e))
  (hi:P.info? e=some i) (hzs:G7 0 parts.toList=some []) (dN:0=len) (hroom:len*i.size<=2 ^ 24) (hzero:(i.zero.map fun z=>z.cells.size)=some i.size)
  (h:eo C bp M (.own (500+i.size) (.ti (.slice .c0 [])))=some x):∃v w',rj P o a w v w'/\iV j M w x v w':=by
 subst dN;simp only[eo,fY.ev] at h;cases h;obtain⟨hll,hwd,cells',hcs,hrun,hel⟩:=Br (w:=w) he hop ht hi hzs rfl hroom hzero (l:=[]) rfl;obtain⟨q,hb,jq⟩:=pj (w:=w) (.cells cells' e (0,0));refine⟨_,_,.inl hrun,gH j M.length none,?_⟩;unfold Qw Qv;rw[aZ (ko _ _),aZ (ko _ _)];refine⟨hr.push (ob:=none) (fun b h=>by cases h) q hb (fun h=>by cases h) (fun sz n b h h'=>by cases h') (fun sz ver xs h=>by injection h with e1 e2 e3; exact .inl ⟨e3.symm,rfl⟩),Ext.push (fun b h=>by cases h) q hb,?_⟩
 refine .cE (.inr ⟨rfl,_,rfl⟩) dw (fun bx hbx=>by rw[kh] at hbx; cases hbx; rfl) fun sz' v' zs hx=>?_
 rw[kh] at hx; injection hx with hx; injection hx with e1 e2 e3
 subst e1; subst e2; subst e3;exact⟨av _,fun _=>⟨rfl,av _,av _,.inl ⟨rfl,by simp[gH],_,rfl⟩⟩⟩
end
section
variable {P:Program} {C:eL} {o:Oper} {bp:Env} {M:aC} {j:J} {w:World} {a:Act} {x:ag×aC}
def QT{x:ag}{u v:Value}(h:valOf x=some u)(hr:gk j M w x v):v=u:=by
 unfold valOf at h;split at h
 ·cases h; exact hr.fW
 ·rename_i k n;cases h;obtain⟨vs,rfl,hl,hc⟩:=hr.mY;have hs:vs.size=1:=by simpa using hl.symm
  have h0:vs[0]?=some (vs[0]'(by omega)):=bg aH
  have h1:=(hc 0 _ _ rfl h0).fW;congr 1;apply Array.ext
  ·simpa using hs
  ·intro i h2 h3;have:i=0:=aH;subst this;simpa using h1
 ·cases h
def gk.Ob{u v:Value}(h:gk j M w (.raw u) v):v=u:=by cases h with|plain h=>cases h; rfl
def WV(hr:Rel j M w)(he:cq j M w bp a){t:TypeId}{y:Operand}{z:fY}{d:TypeDesc}(hop:o.op = .makeInterface t y)(hu:P.underlying t=some d)(hd:∀m,d ≠ .interface m)(hz:eV y=some z)
  (h:eo C bp M (.iface t z)=some x):∃v w',rj P o a w v w'/\iV j M w x v w':=by
 simp only[eo] at h;have h1:=cZ he hz;split at h
 ·rename_i id off e;cases h;rw[e] at h1;obtain⟨b,_,hc,hj,hy⟩:=h1.qq;refine⟨_,w,.inl ?_,.still hr (.kv hc hj)⟩;simp only[execOp,hop,Instr.makeInterface,hy];cases d<;>first|exact absurd rfl (hd _)|simp[eb hu]
 obtain⟨v,hv,h⟩:=bm h;cases h;have hy:=QT hv h1;refine⟨.iface t v,w,.inl ?_,.still hr (.plain (.raw _ rfl))⟩;simp only[execOp,hop,Instr.makeInterface,hy];cases d<;>first|exact absurd rfl (hd _)|simp[eb hu]
def W8(hr:Rel j M w)(he:cq j M w bp a){y:Operand}{z:fY}(hop:o.op = .panic y)(hz:eV y=some z)(h:eo C bp M (.raise z)=some x) :
  ∃u,(execOp a.eval o).run P w = .halt (.panic u) w/\Ib j M w x u w:=by
 simp only[eo] at h;have h1:=cZ he hz;split at h
 ·rename_i v e;split at h
  ·rename_i t u;cases h;rw[e] at h1;refine⟨.iface t u,?_,rfl,j,hr,Ext.refl j M w⟩;have:a.eval y = .iface t u:=h1.Ob;simp[execOp,hop,Instr.panic,this]
  ·cases h
 ·cases h
end
section
variable {P:Program} {C:eL} {o:Oper} {bp:Env} {M:aC} {j:J} {w:World} {a:Act} {x:ag×aC}
def Xb(he:cq j M w bp a){y:Operand}{z:fY}(hz:RT y=some z):gk j M w (z.ev bp) (a.eval y):=by
 unfold RT at hz;split at hz
 ·cases hz;exact .plain (.raw _ rfl)
 ·exact cZ he hz
def St{n:Nat}(he:cq j M w bp a):∀ {parts:List (Nat×Operand)} {ps:List (Nat×Nat×fY)} {cs cs':List ag} {cells:Array Value},
  x5 n parts=some ps->mo bp cs ps=some cs'->RC j M w cs cells ->
  ∃cells',Instr.fill (fun i=>some (i*n,n)) cells (parts.map fun p=>(p.1,a.eval p.2))=some cells'/\RC j M w cs' cells':=by
 intro parts;induction parts with
 |nil =>
  intro ps cs cs' cells h1 h2 h3;simp[x5] at h1; subst h1;simp[mo] at h2; subst h2;exact⟨cells,rfl,h3⟩
 |cons p r ih =>
  intro ps cs cs' cells h1 h2 h3;obtain⟨i,y⟩:=p;simp only[x5] at h1;obtain⟨z,hz,h1⟩:=bf h1;obtain⟨l,hl,h1⟩:=bf h1;cases h1;simp only[mo] at h2;obtain⟨new,jq,h2⟩:=bm h2;split at h2
  ·rename_i hc;obtain⟨c1,c2⟩:=hc;have hrc:=tL (cZ he hz) jq;obtain⟨cells',e1,e2⟩:=ih hl h2 (h3.write (off:=i*n) hrc aH);refine⟨cells',?_,e2⟩;have hs1:=hrc.1;have hs2:=h3.1;simp only[aK,Instr.fill];rw[aQ gr];exact e1
  ·cases h2
def Qh(hr:Rel j M w)(he:cq j M w bp a){t e:TypeId}{len n:Nat}{parts:Array (Nat×Operand)}{i:TypeInfo}{zv:Value}{l:List ag}{ps:List (Nat×Nat×fY)}(hop:o.op = .build t parts)
  (ht:P.underlying t=some (.array len e)) (hi:P.info? t=some i) (hzv:i.zero=some zv) (hl:tu zv.cells.toList=some l) (hn:qG P e=some n) (hps:x5 n parts.toList=some ps)
  (h:eo C bp M (.build l ps)=some x):∃v w',rj P o a w v w'/\iV j M w x v w':=by
 simp only[eo] at h;obtain⟨cs,hcs,h⟩:=bm h;cases h;obtain⟨h1,h2⟩:=qH (j:=j) (M:=M) (w:=w) hl;obtain⟨cells',e1,e2⟩:=St (n:=n) he hps hcs (cells:=zv.cells) ⟨by simpa using h1,fun i c v hc hv=>h2 i c v hc (by simpa using hv)⟩
 refine⟨.agg cells',w,.inl ?_,.still hr (.agg e2.1 e2.2)⟩;have e1':Instr.fill (fun i=>some (i*n,n)) zv.cells (parts.map fun p=>(p.1,a.eval p.2)).toList=some cells':=by simpa using e1
 simp only[execOp,hop,Instr.build,zeroValue,Sem.run_bind,pX hi,Result.andThen_ok,hzv,Sem.run_pure,eb ht,js hn];simp only[e1',Sem.run_pure,Result.andThen_ok]
def LD{a b:ag}{r:Bool}(h:kC .i a b=some r):∃k x y,a = .int k x/\b = .int k y/\r=(x==y):=by
 cases a<;>cases b<;>first
  |(simp only[kC] at h
    split at h
    ·rename_i hk; subst hk; injection h with h; exact⟨_,_,_,rfl,rfl,h.symm⟩
    ·cases h)
  |cases h
def Ce{d:Nat}{e:TypeId}{k0:IntKind}(hk:P.underlying e=some (.int k0))(hc1:P.cellsOf e=1){cs ds:List ag}{us vs:Array Value}(hc:RC j M w cs us)(hd:RC j M w ds vs):∀(n k:Nat){r:Bool},kZ (List.replicate n .i) (cs.drop k) (ds.drop k)=some r ->
  (Op.eqItems (d+1) e (P.cellsOf e) us vs (List.range' k n)).run P w = .ok r w
 |0,k,r,h2=>by
  unfold kZ at h2;split at h2<;>simp_all [Op.eqItems]
 |n+1,k,r,h2=>by
  have hk1:k<cs.length:=by
   rcases bA k cs.length with h|h
   ·exact h
   ·rw[iq h,jl] at h2; simp[kZ] at h2
  have hk2:k<ds.length:=by
   rcases bA k ds.length with h|h
   ·exact h
   ·rw[iq h,cL hk1,jl] at h2;simp[kZ] at h2
  rw[cL hk1,cL hk2,jl] at h2;simp only[kZ] at h2;obtain⟨e1,he1,h2⟩:=bm h2;obtain⟨e2,he2,h2⟩:=bm h2;cases h2;have hlu:k<us.size:=by have:=hc.1; omega
  have hlv:k<vs.size:=by have:=hd.1; omega
  have hu:=bg hlu;have hv:=bg hlv;have ih:=Ce (d:=d) hk hc1 hc hd n (k+1) he2;have hr1:=hc.2 k _ _ (ai hk1) hu;have hr2:=hd.2 k _ _ (ai hk2) hv;have hag:CK P e=some false:=by simp[CK,hk]
  have p1:(part e us (k*P.cellsOf e)).run P w = .ok us[k] w:=by simp[part,lK hag,hc1,hu]
  have p2:(part e vs (k*P.cellsOf e)).run P w = .ok vs[k] w:=by simp[part,lK hag,hc1,hv]
  have p3:(Op.equalIn (d+1) e us[k] vs[k]).run P w = .ok e1 w:=by
   obtain⟨kk,x,y,e3,e4,rfl⟩:=LD he1;rw[e3] at hr1; rw[e4] at hr2;rw[hr1.fW,hr2.fW];exact run_equalIn_int w d e _ _ x y hk
  rw[nJ];simp only[Op.eqItems,Sem.run_bind,p1,p2,p3,Result.andThen_ok];cases e1
  ·simp
  ·simpa using ih
def WR(hr:Rel j M w)(he:cq j M w bp a){y y':Operand}{z z':fY}{t t' e:TypeId}{len:Nat}{k0:IntKind}(hop:o.op = .binOp .eql t y y' t')(ht:P.underlying t=some (.array len e))(hk:P.underlying e=some (.int k0))(hs:qG P e=some 1)
  (hz:eV y=some z) (hz':eV y'=some z') (h:eo C bp M (.Q6 (List.replicate len .i) false z z')=some x):∃v w',rj P o a w v w'/\iV j M w x v w':=by
 simp only[eo] at h;have h1:=cZ he hz;have h2:=cZ he hz';split at h
 ·rename_i cs ds ez ez';obtain⟨r,hee,h⟩:=bm h;cases h;rw[ez] at h1;rw[ez'] at h2;obtain⟨us,hus,hul,huc⟩:=h1.mY;obtain⟨vs,hvs,hvl,hvc⟩:=h2.mY;obtain⟨inf,hinf,hsz⟩:=EY hs;have hc1:P.cellsOf e=1:=by simp[Program.cellsOf,hinf,hsz]
  have heq:(Op.equal t (.agg us) (.agg vs)).run P w = .ok r w:=by
   unfold Op.equal;rw[show Op.maxDepth=9998+1+1 from rfl,run_equalIn_array w (9998+1) us vs ht hinf,lB]
   exact Ce (d:=9998) hk hc1 ⟨hul,huc⟩ ⟨hvl,hvc⟩ len 0 (by simpa using hee)
  have hgt:P.eqGuardType P.depth t=false:=by
   unfold Program.depth;rw[show 2*(P.types.size+Made.depth)+2=(2*(P.types.size+Made.depth))+1+1 from rfl,Program.eqGuardType,ht]
   simp only[Program.eqGuardType,hk]
  have hguard:∀op,(eqGuard op t y y' (.agg us) (.agg vs)).run P w = .ok () w:=by
   intro op;unfold eqGuard;cases op<;>simp[hgt]
  exact⟨.bool r,w,.inl (by simp[execOp,hop,hus,hvs,hguard,binOp,heq]),.still hr (.plain (.bool _))⟩
 ·cases h
def ur{l:List ag}(hp:0<l.length)(h1:l.all ag.plainCell=true):(ag.agg l).norm.cells=l:=by
 match l with
 | []=>simp at hp
 | [c] =>
  simp only[kN,List.all_nil,gd] at h1
  show c.cells=[c]
  cases c<;>first|rfl|cases h1
 |_::_::_=>rfl
def Ww(z:Array Value)(n k:Nat)(h:k<n)(hz:0<z.size):(madeCells z n)[k]?=z[k % z.size]?:=by
 have hm:k % z.size<z.size:=nA _ hz;rw[bg hm];simp[madeCells,h,hm]
def OU(w:World)(iv:Nat->Nat->Prop){v:Value}{c:ag}(h:KS v=some c):fP w iv c.shut v:=by
 unfold KS at h
 split at h<;>first
  |(cases h; first|exact .bool _|exact .int _ _|exact .str _|exact .raw _ rfl|exact fP.nil _ _ _)
  |cases h
def Ie:∀ {vs:List Value} {l:List ag},tu vs=some l->∀(i:Nat)(c:ag)(v:Value),l[i]?=some c->vs[i]?=some v->KS v=some c
 | [],l,h,i,c,v,h1,h2=>by simp at h2
 |u::r,l,h,i,c,v,h1,h2=>by
  simp only[tu] at h;obtain⟨x,hx,h⟩:=bf h;obtain⟨l',hl,h⟩:=bf h;cases h;cases i with
  |zero=>simp at h1 h2; subst h1; subst h2; exact hx
  |succ i=>exact Ie hl i c v (by simpa using h1) (by simpa using h2)
def NV{t e:TypeId}{i:TypeInfo}{zv:Value}{l:List ag}{y:Operand}{k:Int}{kk:IntKind}(hop:o.op = .makeSlice t y y)(ht:P.underlying t=some (.slice e))(hi:P.info? e=some i)(hzv:i.zero=some zv)
  (hl:tu zv.cells.toList=some l) (c1:l.length=i.size) (c2:0<i.size) (c3:i.bytes<=32*i.size) (hev:a.eval y = .int kk k) (h0:0<=k) (hroom:cB k.toNat (8*(l.map ag.shut).length)) (hpl:(l.map ag.shut).all ag.plainCell=true) :
  ∃row:Array Value,(execOp a.eval o).run P w = .ok (.value (.slice (some ⟨w.heap.size,0,none⟩) k.toNat k.toNat)) (w.alloc (.cells row e))/\row.size=k.toNat*i.size /\
   ∀iv (w':World) (q:Nat) (x:ag) (p:Nat) (c:ag),(List.replicate k.toNat (ag.agg (l.map ag.shut)).norm)[q]?=some x->x.cells[p]?=some c->∃v,row[q*i.size+p]?=some v/\fP w' iv c v:=by
 have hls:(l.map ag.shut).length=i.size:=by simpa using c1
 have hzs:zv.cells.size=i.size:=by
  have:=(qH (j:=⟨fun _=>none,fun _ _=>False⟩) (M:=[]) (w:=w) hl).1
  simp at this; omega
 unfold cB at hroom;rw[hls] at hroom
 have hb:i.bytes*k.toNat<=2 ^ 46:=by
  have h1:=bd k.toNat c3;have h2:32*i.size*k.toNat=4*(k.toNat*(8*i.size)):=by rw[show(32:Nat)=4*8 from rfl,Nat.mul_assoc 4 8,Nat.mul_assoc 4,Nat.mul_comm (8*i.size)]
  omega
 have hk44:k.toNat<=2 ^ 44:=aY (fL _ aH) hroom
 have hrun:=run_make (P:=P) w t e i zv ht hi hzv kk kk k k h0 (dS _) (by
  have:((i.bytes*k.toNat:Nat):Int)<=2 ^ 46:=by exact_mod_cast hb
  rw[Int.natCast_mul,oH h0] at this;omega) aH
 refine⟨madeCells zv.cells (k.toNat*i.size),by simp[execOp,hop,hev,hrun],size_madeCells _ _,fun iv w' q x p c hx hc=>?_⟩
 rw[iX] at hx;split at hx
 ·rename_i hq;cases hx;rw[ur aH hpl] at hc;have hp:p<i.size:=by rw[<-hls]; exact aN hc
  have cQ:q*i.size+p<k.toNat*i.size:=by
   have:(q+1)*i.size<=k.toNat*i.size:=bd _ hq;rw[bP,fM] at this;omega
  rw[Ww _ _ _ cQ aH,hzs,Nat.add_comm,Nat.add_mul_mod_self_right,nK hp];rw[aX,aU] at hc;obtain⟨c0,hc0,rfl⟩:=hc;have hpz:p<zv.cells.size:=aH;have hv:=bg hpz;refine⟨_,hv,?_⟩;exact OU w' iv (Ie hl p c0 _ hc0 dw)
 ·cases hx
def W0(hr:Rel j M w)(he:cq j M w bp a){t e:TypeId}{i:TypeInfo}{zv:Value}{l:List ag}{y:Operand}{z:fY}(hop:o.op = .makeSlice t y y)(ht:P.underlying t=some (.slice e))(hi:P.info? e=some i)(hzv:i.zero=some zv)
  (hl:tu zv.cells.toList=some l) (hz:eV y=some z) (c1:l.length=i.size) (c2:0<i.size) (c3:i.bytes<=32*i.size) (h:eo C bp M (.mkS (l.map ag.shut) z)=some x):∃v w',rj P o a w v w'/\iV j M w x v w':=by
 simp only[eo] at h;have h1:=cZ he hz;split at h
 ·rename_i kk k ek;obtain⟨⟨h0,hroom,hpl⟩,h⟩:=dq h;cases h;rw[ek] at h1;obtain⟨row,hrun,hsz,hel⟩:=NV (w:=w) hop ht hi hzv hl c1 c2 c3 h1.fW h0 hroom hpl;have hls:(l.map ag.shut).length=i.size:=by simpa using c1
  obtain⟨q,hb,jq⟩:=pj (w:=w) (.cells row e (0,0));refine⟨_,{ w with heap:=w.heap.push (.cells row e (0,0)) },.inl hrun,?_⟩
  have ext:Ext j M w j M { w with heap:=w.heap.push (.cells row e (0,0)) }:=Ext.grow q.size rfl rfl rfl hb
  have rel:Rel j M { w with heap:=w.heap.push (.cells row e (0,0)) }:=hr.grow q.size rfl rfl rfl hb
  refine⟨j,rel,ext,.plain (.slice _ _ _ _ w.heap.size 0 i.size (fun p=>(row[p]?).getD undef) dw (av _) (fun _=>rfl) (fun x hx=>?_) (fun n y k c hn hk=>?_) (fun n y k c hn hk=>?_))⟩
  ·obtain⟨_,rfl⟩:=List.mem_replicate.1 hx;rw[ur aH hpl,hls]
  ·obtain⟨u,hu,_⟩:=hel (nM j M { w with heap:=w.heap.push (.cells row e (0,0)) }) { w with heap:=w.heap.push (.cells row e (0,0)) } n y k c hn hk
   refine⟨?_,dw,fun id hid hj=>?_,fun hx=>absurd (hr.zz _ _ hx) (ia _)⟩
   ·simp only[World.cell?,jq,aI,hu];rfl
   ·have:=hr.lt id _ hid hj;omega
  ·obtain⟨u,hu,hru⟩:=hel (nM j M { w with heap:=w.heap.push (.cells row e (0,0)) }) { w with heap:=w.heap.push (.cells row e (0,0)) } n y k c hn hk
   rw[hu];exact hru
 ·cases h
def aby(hr:Rel j M w)(he:cq j M w bp a){t e:TypeId}{i:TypeInfo}{zv:Value}{l:List ag}{y:Operand}{z:fY}(hop:o.op = .makeSlice t y y)(ht:P.underlying t=some (.slice e))(hi:P.info? e=some i)(hzv:i.zero=some zv)
  (hl:tu zv.cells.toList=some l) (hz:eV y=some z) (c1:l.length=i.size) (c2:0<i.size) (c3:i.bytes<=32*i.size) (h:eo C bp M (.Qd (l.map ag.shut) z)=some x):∃v w',rj P o a w v w'/\iV j M w x v w':=by
 simp only[eo] at h;have h1:=cZ he hz;split at h
 ·rename_i kk k ek;obtain⟨⟨h0,hroom,hpl⟩,h⟩:=dq h;cases h;rw[ek] at h1;obtain⟨row,hrun,hsz,hel⟩:=NV (w:=w) hop ht hi hzv hl c1 c2 c3 h1.fW h0 hroom hpl;have hls:(l.map ag.shut).length=i.size:=by simpa using c1
  rw[hls];obtain⟨q,hb,jq⟩:=pj (w:=w) (.cells row e (0,0));have hob:∀b,some w.heap.size=some b->w.heap.size<=b/\b<({ w with heap:=w.heap.push (.cells row e (0,0)) }:World).heap.size:=fun b h=>by cases h; simp
  have ext:Ext j M w (gH j M.length (some w.heap.size)) (M++[.arr i.size 0 (List.replicate k.toNat (ag.agg (l.map ag.shut)).norm)]) { w with heap:=w.heap.push (.cells row e (0,0)) }:=Ext.push (fun b hb=>(hob b hb).1) q hb
  refine⟨_,{ w with heap:=w.heap.push (.cells row e (0,0)) },.inl hrun,gH j M.length (some w.heap.size),hr.push hob q hb (fun h=>by cases h) (fun sz n b h _=>by cases h) (fun sz0 v0 xs0 he=>?_),ext,?_⟩
  ·injection he with e1 e2 e3
   subst e1; subst e2; subst e3;refine .inr ⟨w.heap.size,row,e,rfl,jq,by simp[hsz],fun x hx=>?_,fun j' M' hx q0 x p c hq hp=>hel (nM j' M' { w with heap:=w.heap.push (.cells row e (0,0)) }) { w with heap:=w.heap.push (.cells row e (0,0)) } q0 x p c hq hp⟩
   obtain⟨_,rfl⟩:=List.mem_replicate.1 hx;rw[ur aH hpl,hls]
  ·refine .cE (.inl ⟨_,_,_,by rw[bO],aH⟩) dw (fun bx hbx=>by rw[kh] at hbx; cases hbx; rfl) fun sz' v' ys hx=>?_
   rw[kh] at hx; injection hx with hx; injection hx with e1 e2 e3
   subst e1; subst e2; subst e3;exact⟨av _,fun _=>⟨rfl,cI _,dw,.inr ⟨w.heap.size,k.toNat,row,e,by simp[gH],dw,aH,jq,by rw[aI]; omega⟩⟩⟩
 ·cases h
end
section
variable {j:J} {M:aC} {w w':World}
def Ext.vg{k b' sz ver ver':Nat}{xs xs':List ag}(hM:M[k]?=some (.arr sz ver xs))(q:Quiet w w')(hb:∀b,b<w.heap.size->w'.heap[b]?=w.heap[b]?)(hf:w.heap.size<=b')(hn:ver<ver') :
  Ext j M w (gH j k (some b')) (M.set k (.arr sz ver' xs')) w' where
 len:=dw
 size:=q.size
 os:=q.os
 tape:=q.tape
 output:=q.output
 X:=rfl
 fix:=fun i b0 h hf=>by
  have e:k≠i:=by rintro rfl; rw[hM] at h; cases h; cases hf
  exact⟨by simp[gH,eX e],b0,by rw[cX e]; exact h,rfl⟩
 tick:=fun i sz0 n0 h=>by
  have e:k≠i:=by rintro rfl; rw[hM] at h; cases h
  exact⟨n0,av _,by rw[cX e]; exact h,fun _=>⟨by simp[gH,eX e],fun b vs0 t0 _ hv=>⟨vs0,(hb b (lt_of_block hv)).trans hv,rfl⟩⟩⟩
 arr:=fun i sz0 v0 xs0 h=>by
  by_cases e:k=i
  ·subst e;rw[hM] at h;injection h with h; injection h with h1 h2 h3
   subst h1; subst h2; subst h3;exact .inr ⟨ver',xs',ei (aN hM),aH,fun he=>aH⟩
  ·exact .inr ⟨v0,xs0,by rw[cX e]; exact h,av _,fun _=>⟨by simp[gH,eX e],rfl,fun b vs0 t0 _ hv=>⟨vs0,(hb b (lt_of_block hv)).trans hv,rfl⟩⟩⟩
 tags:=fun b0 vs0 t0 fr0 h=>⟨vs0,fr0,(hb b0 (lt_of_block h)).trans h,rfl⟩
 iv:=fun b0 off h=>by
  refine⟨⟨bw h.1 q.size,fun i hi hji=>?_,h.3⟩,World.cell?_of_block (w:=w) (hb b0 h.1)⟩
  have e:k≠i:=by
   rintro rfl;have:b'=b0:=by simpa[gH] using hji
   have:=h.1;omega
  rw[cX e];exact h.2 i (by simpa using hi) (by simpa[gH,eX e] using hji)
 tV:=fun b0 cQ h=>by
  refine⟨hb b0 cQ,fun i hi hji=>?_⟩
  by_cases e:i=k
  ·have:b'=b0:=by simpa[gH,e] using hji
   omega
  ·exact h i (by simpa using hi) (by simpa[gH,e] using hji)
def Rel.vg{k b' sz ver ver':Nat}{xs xs':List ag}(hM:M[k]?=some (.arr sz ver xs))(hr:Rel j M w)(q:Quiet w w')(hb:∀b,b<w.heap.size->w'.heap[b]?=w.heap[b]?)
  (hf:w.heap.size<=b') (cQ:b'<w'.heap.size) (hn:ver<ver') (hh:∀j' M',Ext j M w j' M' w'->Fu j' M' w' b' sz xs'):Rel (gH j k (some b')) (M.set k (.arr sz ver' xs')) w':=by
 have ext:Ext j M w (gH j k (some b')) (M.set k (.arr sz ver' xs')) w':=Ext.vg hM q hb hf hn;refine⟨fun i i' b0 hi hi' h h'=>?_,fun i b0 hi h=>?_,fun i bx0 h hf=>?_,fun i sz0 n0 b0 h hji=>?_,fun i sz0 v0 xs0 h=>?_,fun i b0 hi h off hx=>?_,fun b0 off h=>bw (hr.zz b0 off h) q.size⟩
 ·simp only[cA] at hi hi'
  by_cases e:i=k<;>by_cases e':i'=k
  ·omega
  ·have h1:b'=b0:=by simpa[gH,e] using h
   have:=hr.lt i' b0 hi' (by simpa[gH,e'] using h')
   omega
  ·have h1:b'=b0:=by simpa[gH,e'] using h'
   have:=hr.lt i b0 hi (by simpa[gH,e] using h)
   omega
  ·exact hr.inj i i' b0 hi hi' (by simpa[gH,e] using h) (by simpa[gH,e'] using h')
 ·simp only[cA] at hi
  by_cases e:i=k
  ·have h1:b'=b0:=by simpa[gH,e] using h
   subst h1;exact cQ
  ·exact bw (hr.lt i b0 hi (by simpa[gH,e] using h)) q.size
 ·have e:k≠i:=by rintro rfl; rw[ei (aN hM)] at h; cases h; cases hf
  rw[cX e] at h;obtain⟨b0,h1,h2⟩:=hr.fix i bx0 h hf;exact⟨b0,by simpa[gH,eX e] using h1,h2.mono ext (hb b0 (hr.lt i b0 (aN h) h1))⟩
 ·have e:k≠i:=by rintro rfl; rw[ei (aN hM)] at h; cases h
  rw[cX e] at h;obtain⟨vs0,t0,h1⟩:=hr.tick i sz0 n0 b0 h (by simpa[gH,eX e] using hji)
  exact⟨vs0,t0,(hb b0 (lt_of_block h1)).trans h1⟩
 ·by_cases e:k=i
  ·subst e;rw[ei (aN hM)] at h;injection h with h; injection h with e1 e2 e3
   subst e1; subst e2; subst e3;obtain⟨vs,t,g⟩:=hh _ _ ext;exact .inr ⟨b',vs,t,by simp[gH],g⟩
  ·rw[cX e] at h;exact qI hr ext h (by simp[gH,eX e]) fun b0 h1=>hb b0 (hr.lt i b0 (aN h) h1)
 ·by_cases e:i=k
  ·have h1:b'=b0:=by simpa[gH,e] using h
   have h2:=hr.zz b0 off hx;omega
  ·exact hr.uM i b0 (by simpa using hi) (by simpa[gH,e] using h) off hx
def nZ{iv:Nat->Nat->Prop}{xs:List ag}{v:Value}{size:Nat}(hx:fP w iv (.slice .sh xs) v)(hw:wid xs size):∃A cap,v = .slice A xs.length cap/\xs.length<=cap /\
  (xs=[]\/∃b off,A=some ⟨b,off,none⟩/\∃us:List Value,RL w iv (kc xs) us/\us.length=xs.length*size/\(∀u,u∈us->u.oneCell'=true)/\∀p u,us[p]?=some u->w.cell? ⟨b,off+p,none⟩=some u/\iv b (off+p)):=by
 cases hx with
 |slice _ A len cap b off sz vs hl hc ha hz hs hr =>
  subst hl;refine⟨A,cap,rfl,hc,?_⟩;rcases kV xs with h0|⟨_,_,h0⟩
  ·exact .inl h0
  ·have hne:xs≠[]:=by rw[h0]; simp
   have hsz:sz=size:=by
    obtain⟨x,r,hxr⟩:=fi hne;have hm:x∈xs:=by rw[hxr]; exact bD ..
    rw[<-hz x hm,hw x hm]
   subst hsz;have dN:((List.range (xs.length*sz)).map vs).length=xs.length*sz:=dw
   have hrl:RL w iv (kc xs) ((List.range (xs.length*sz)).map vs):=by
    refine⟨by rw[iT hw,dN],fun p c v hc hv=>?_⟩
    obtain⟨q,x,k,h1,h2,rfl⟩:=DP hw hc;have cQ:q*sz+k<xs.length*sz:=by rw[<-iT hw]; exact aN hc
    rw[aX,jk cQ] at hv;simp only[ep] at hv;cases hv;exact hr q x k c h1 h2
   refine .inr ⟨b,off,ha hne,_,hrl,dN,fun u hu=>?_,fun p u hu=>?_⟩
   ·obtain⟨p,hp⟩:=bV hu;have hp':p<(kc xs).length:=by rw[hrl.1]; exact aN hp
    exact fP.one (hrl.2 p _ u (ai hp') hp)
   ·have hp':p<(kc xs).length:=by rw[hrl.1]; exact aN hu
    obtain⟨q,x,k,h1,h2,rfl⟩:=DP hw (ai hp');have cQ:q*sz+k<xs.length*sz:=by rw[<-iT hw]; exact hp'
    rw[aX,jk cQ] at hu;simp only[ep] at hu;cases hu;exact hs q x k _ h1 h2
end
end
end Go.Abs
