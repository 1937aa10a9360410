import Derived.KernelRfl
import Derived.Laws.Strings
import Derived.Laws.StructEq
import Derived.MapKept
import Derived.Laws.IdiomStrings
import Derived.Laws.MakeOwn
import Derived.ChangeKeysEq
import Derived.Test.YteoamaffclmdbaaGreatDoorHoaA
set_option linter.unusedSimpArgs false
set_option linter.unusedVariables false
set_option linter.unusedSectionVars false
set_option linter.defProp false
open Go.Proofs.Tryz
set_option linter.defProp false
set_option maxRecDepth 100000
namespace Go.Proofs.YteoamaffclmdbaaGreatDoor
open Go Go.Abs
def fq{o:Option eG}{n:Nat}{r:List sN}{c:cD}(h:o=some (eG.mk n r c):=by kernel_rfl):o=some (eG.mk n r (sub c 0)):=okc h
def fO(r k:cD)(h:At r 0 k:=by exact aiw _):eqs r 0 k:=vX r k 0 h
def UQ:Ko [] f238:=eM
def ajV:=UQ.1
def acZ:=eG.mk 1 [.tmp 2] (sub ajV 0)
def US:Ko [] f240:=eM
def ajX:=US.1
def ac1:=eG.mk 2 [.tmp 4,.tmp 5] (sub ajX 0)
def Ui:Ko [] f194:=eM
def ajv:=Ui.1
def acB:=eG.mk 2 [.dG 4 6,.tmp 5] (sub ajv 0)
def Ul:Ko [] f197:=eM
def ajy:=Ul.1
def acD:=eG.mk 2 [.dG 4 6,.tmp 5] (sub ajy 0)
def Um:Ko [] f198:=eM
def aes:=Um.1
def IQ:=eG.mk 1 [.tmp 2] (sub aes 0)
abbrev Nf:=sub aes 15
def amz:Ko [] f249:=eM
def ao8:=amz.1
def ak6:=eG.mk 3 [.tmp 6,.tmp 7] (sub ao8 0)
def UY:Ko [] f250:=eM
def aj1:=UY.1
def ac5:=eG.mk 2 [.tmp 4] (sub aj1 0)
def UZ:Ko [] f251:=eM
def aj2:=UZ.1
def ac6:=eG.mk 2 [.tmp 4] (sub aj2 0)
def Un:Ko [] f199:=eM
def ajz:=Un.1
def acE:=eG.mk 2 [.tmp 4,.tmp 5] (sub ajz 0)
def pv:=by
 have h:=bR (fO ajV UQ.1) (bR (fO ajX US.1) (bR (fO ajv Ui.1) (bR (fO ajy Ul.1) (bR (fO aes Um.1) (bR (fO aj1 UY.1) (bR (fO aj2 UZ.1) (fO ajz Un.1)))))));simp only[eM,UQ,US,Ui,Ul,Um,UY,UZ,Un,ym,seval] at h;exact h
def aij:=pv.1
def aoJ:=pv.2.1
def ad1:=pv.2.2.1
def XT:=pv.2.2.2.1
def wF:=pv.2.2.2.2.1
def aoM:=pv.2.2.2.2.2.1
def aoN:=pv.2.2.2.2.2.2.1
def aov:=pv.2.2.2.2.2.2.2
def TC:Ko [] f151:=eM
def ai3:=TC.1
def ace:=eG.mk 3 [.tmp 6,.tmp 7] (sub ai3 0)
def Uf:Ko [] f191:=eM
def ajt:=Uf.1
def acy:=eG.mk 2 [.dG 4 6,.tmp 5] (sub ajt 0)
def Uo:Ko [9] f200:=eM
def aet:=Uo.1
def R8:=eG.mk 2 [.tmp 4] (sub aet 0)
def am6:sM [9] f200 R8:=fq
abbrev ZJ:=sub aet 7
def UR:Ko [] f239:=eM
def ajW:=UR.1
def ac0:=eG.mk 2 [.tmp 4] (sub ajW 0)
def T7:Ko [1000241,1000242] f182:=eM
def ajm:=T7.1
def R2:=eG.mk 2 [] (sub ajm 0)
def am1:sM [1000241,1000242] f182 R2:=fq
def UT:Ko [1000241,1000283] f244:=eM
def ajY:=UT.1
def Sc:=eG.mk 2 [] (sub ajY 0)
def ana:sM [1000241,1000283] f244 Sc:=fq
def T8:Ko [1000205,1000243,2000182] f183:=eM
def ajn:=T8.1
def R3:=eG.mk 4 [] (sub ajn 0)
def am2:sM [1000205,1000243,2000182] f183 R3:=fq
def Uj:Ko [1000205,1000248,2000182] f195:=eM
def ajw:=Uj.1
def R7:=eG.mk 3 [] (sub ajw 0)
def am5:sM [1000205,1000248,2000182] f195 R7:=fq
def pw:=by
 have h:=bR (fO ai3 TC.1) (bR (fO ajt Uf.1) (bR (fO aet Uo.1) (bR (fO ajW UR.1) (bR (fO ajm T7.1) (bR (fO ajY UT.1) (bR (fO ajn T8.1) (fO ajw Uj.1)))))));simp only[eM,TC,Uf,Uo,UR,T7,UT,T8,Uj,ym,seval] at h;exact h
def Kh:=pw.1
def aou:=pw.2.1
def Cq:=pw.2.2.1
def aoI:=pw.2.2.2.1
def ad0:=pw.2.2.2.2.1
def ad7:=pw.2.2.2.2.2.1
def QG:=pw.2.2.2.2.2.2.1
def XR:=pw.2.2.2.2.2.2.2
def Uk:Ko [] f196:=eM
def ajx:=Uk.1
def acC:=eG.mk 2 [] (sub ajx 0)
def T6:Ko [] f181:=eM
def ajl:=T6.1
def acu:=eG.mk 3 [.tmp 6] (sub ajl 0)
def Ur:Ko [] f202:=eM
def ajB:=Ur.1
def acG:=eG.mk 2 [.tmp 4] (sub ajB 0)
def Uc:Ko [] f187:=eM
def ajq:=Uc.1
def acw:=eG.mk 2 [.dG 4 3,.tmp 5] (sub ajq 0)
def UG:Ko [] f225:=eM
def ajP:=UG.1
def acV:=eG.mk 3 [.dG 6 3,.tmp 7] (sub ajP 0)
def Ty:Ko [] f147:=eM
def ai0:=Ty.1
def aca:=eG.mk 4 [.dG 8 3,.tmp 9,.tmp 10] (sub ai0 0)
def TA:Ko [] f149:=eM
def ai1:=TA.1
def acb:=eG.mk 4 [.dG 8 3,.tmp 9] (sub ai1 0)
def TB:Ko [] f150:=eM
def ai2:=TB.1
def acd:=eG.mk 3 [.dG 6 3,.tmp 7,.tmp 8] (sub ai2 0)
def nV:=by
 have h:=bR (fO ajx Uk.1) (bR (fO ajl T6.1) (bR (fO ajB Ur.1) (bR (fO ajq Uc.1) (bR (fO ajP UG.1) (bR (fO ai0 Ty.1) (bR (fO ai1 TA.1) (fO ai2 TB.1)))))));simp only[eM,Uk,T6,Ur,Uc,UG,Ty,TA,TB,ym,seval] at h;exact h
def ad2:=nV.1
def HI:=nV.2.1
def aie:=nV.2.2.1
def aid:=nV.2.2.2.1
def XU:=nV.2.2.2.2.1
def adT:=nV.2.2.2.2.2.1
def adU:=nV.2.2.2.2.2.2.1
def QE:=nV.2.2.2.2.2.2.2
def U0:Ko [] f252:=eM
def aey:=U0.1
def ac7:=eG.mk 2 [.tmp 4] (sub aey 0)
abbrev ZQ:=sub aey 7
def Uq:Ko [] f201:=eM
def ajA:=Uq.1
def acF:=eG.mk 2 [.tmp 4] (sub ajA 0)
def U2:Ko [] f254:=eM
def aj4:=U2.1
def ac9:=eG.mk 5 [.tmp 6] (sub aj4 0)
def amD:Ko [] f287:=eM
def apc:=amD.1
def ald:=eG.mk 2 [.tmp 4] (sub apc 0)
def U1:Ko [] f253:=eM
def aj3:=U1.1
def ac8:=eG.mk 2 [.tmp 4] (sub aj3 0)
def Us:Ko [] f203:=eM
def ajC:=Us.1
def acH:=eG.mk 3 [.tmp 6] (sub ajC 0)
def TD:Ko [] f152:=eM
def aep:=TD.1
def acf:=eG.mk 5 [.dG 10 3,.tmp 11,.tmp 12] (sub aep 0)
abbrev ND:=sub aep 86
def amA:Ko [] f263:=eM
def ao9:=amA.1
def ak9:=eG.mk 3 [.tmp 6,.tmp 7] (sub ao9 0)
def Vd:Ko [] f278:=eM
def ake:=Vd.1
def adj:=eG.mk 2 [.tmp 4] (sub ake 0)
def Uv:Ko [] f209:=eM
def ajF:=Uv.1
def acK:=eG.mk 2 [.tmp 4] (sub ajF 0)
def nW:=by
 have h:=bR (fO aey U0.1) (bR (fO ajA Uq.1) (bR (fO aj4 U2.1) (bR (fO aj3 U1.1) (bR (fO ajC Us.1) (bR (fO aep TD.1) (bR (fO ake Vd.1) (fO ajF Uv.1)))))));simp only[eM,U0,Uq,U2,U1,Us,TD,Vd,Uv,ym,seval] at h;exact h
def Kj:=nW.1
def aow:=nW.2.1
def ail:=nW.2.2.1
def aoO:=nW.2.2.2.1
def aox:=nW.2.2.2.2.1
def yF:=nW.2.2.2.2.2.1
def aoX:=nW.2.2.2.2.2.2.1
def aif:=nW.2.2.2.2.2.2.2
def U3:Ko [] f257:=eM
def aj5:=U3.1
def ada:=eG.mk 1 [.tmp 2] (sub aj5 0)
def af7:Ko [] f56:=eM
def b56:=af7.1
def alu:=eG.mk 2 [.tmp 4] (sub b56 0)
def S1:Ko [] f111:=eM
def aiH:=S1.1
def abQ:=eG.mk 2 [.tmp 4] (sub aiH 0)
def S2:Ko [] f112:=eM
def aiI:=S2.1
def abR:=eG.mk 2 [.tmp 4] (sub aiI 0)
def amv:Ko [] f113:=eM
def ao4:=amv.1
def akV:=eG.mk 2 [.tmp 4] (sub ao4 0)
def amw:Ko [] f114:=eM
def ao5:=amw.1
def akW:=eG.mk 3 [.tmp 6] (sub ao5 0)
def TE:Ko [1000205] f153:=eM
def ai4:=TE.1
def yw:=eG.mk 4 [.tmp 8,.tmp 9,.tmp 10] (sub ai4 0)
def amR:sM [1000205] f153 yw:=fq
def TQ:Ko [] f166:=eM
def ajc:=TQ.1
def aci:=eG.mk 2 [.tmp 4] (sub ajc 0)
def Ut:Ko [] f204:=eM
def ajD:=Ut.1
def acI:=eG.mk 2 [.tmp 4] (sub ajD 0)
def Uu:Ko [] f206:=eM
def ajE:=Uu.1
def acJ:=eG.mk 2 [.tmp 3] (sub ajE 0)
def nY:=by
 have h:=bR (fO aj5 U3.1) (bR (fO b56 af7.1) (bR (fO aiH S1.1) (bR (fO aiI S2.1) (bR (fO ai4 TE.1) (bR (fO ajc TQ.1) (bR (fO ajD Ut.1) (fO ajE Uu.1)))))));simp only[eM,U3,af7,S1,S2,TE,TQ,Ut,Uu,ym,seval] at h;exact h
def aoP:=nY.1
def E56:=nY.2.1
def ah4:=nY.2.2.1
def aoi:=nY.2.2.2.1
def HH:=nY.2.2.2.2.1
def ah9:=nY.2.2.2.2.2.1
def aoy:=nY.2.2.2.2.2.2.1
def aoz:=nY.2.2.2.2.2.2.2
def amx:Ko [] f208:=eM
def ao6:=amx.1
def ak0:=eG.mk 2 [.tmp 4] (sub ao6 0)
def afT:Ko [] f39:=eM
def b39:=afT.1
def alm:=eG.mk 0 [.dG 0 3] (sub b39 0)
def T3:Ko [] f178:=eM
def Yd:=T3.1
def acq:=eG.mk 2 [.tmp 4,.tmp 5] (sub Yd 0)
abbrev ZG:=sub Yd 19
abbrev ahr:=sub Yd 39
def T5:Ko [] f180:=eM
def ajk:=T5.1
def acs:=eG.mk 1 [.tmp 2,.tmp 3,.tmp 4] (sub ajk 0)
def wS:=by
 have h:=And.intro (fO b39 afT.1) (And.intro (fO Yd T3.1) (fO ajk T5.1));simp only[eM,afT,T3,T5,ym,seval] at h;exact h
def E39:=wS.1
def Ki:=wS.2.1
def XQ:=wS.2.2
end Go.Proofs.YteoamaffclmdbaaGreatDoor
set_option linter.defProp false
set_option maxRecDepth 100000
namespace Go.Proofs.YteoamaffclmdbaaGreatDoor
open Go Go.Abs
def Uw:Ko [] f210:=eM
def ajG:=Uw.1
def acL:=eG.mk 1 [.tmp 2] (sub ajG 0)
def Ux:Ko [] f211:=eM
def aeu:=Ux.1
def acM:=eG.mk 3 [.tmp 6,.tmp 7] (sub aeu 0)
abbrev ZK:=sub aeu 9
def Uy:Ko [] f212:=eM
def ajH:=Uy.1
def acN:=eG.mk 3 [.tmp 6] (sub ajH 0)
def Uz:Ko [] f213:=eM
def ajI:=Uz.1
def acO:=eG.mk 1 [.tmp 2] (sub ajI 0)
def U4:Ko [] f258:=eM
def aj6:=U4.1
def adb:=eG.mk 1 [.dG 2 2] (sub aj6 0)
def UA:Ko [] f217:=eM
def ajJ:=UA.1
def acP:=eG.mk 2 [.tmp 4] (sub ajJ 0)
def amy:Ko [] f216:=eM
def ao7:=amy.1
def ak2:=eG.mk 2 [.tmp 4] (sub ao7 0)
def UB:Ko [] f219:=eM
def ajK:=UB.1
def acQ:=eG.mk 2 [.tmp 4] (sub ajK 0)
def U6:Ko [] f262:=eM
def aj8:=U6.1
def ade:=eG.mk 2 [.tmp 3] (sub aj8 0)
def px:=by
 have h:=bR (fO ajG Uw.1) (bR (fO aeu Ux.1) (bR (fO ajH Uy.1) (bR (fO ajI Uz.1) (bR (fO aj6 U4.1) (bR (fO ajJ UA.1) (bR (fO ajK UB.1) (fO aj8 U6.1)))))));simp only[eM,Uw,Ux,Uy,Uz,U4,UA,UB,U6,ym,seval] at h;exact h
def aih:=px.1
def HJ:=px.2.1
def aoA:=px.2.2.1
def aii:=px.2.2.2.1
def aoQ:=px.2.2.2.2.1
def aoB:=px.2.2.2.2.2.1
def aoC:=px.2.2.2.2.2.2.1
def aoR:=px.2.2.2.2.2.2.2
def Ua:Ko [] f185:=eM
def ajo:=Ua.1
def R5:=eG.mk 2 [.tmp 4] (sub ajo 0)
def TH:Ko [1000215,1000214] f156:=eM
def ai6:=TH.1
def RY:=eG.mk 5 [.tmp 10,.tmp 11] (sub ai6 0)
def amT:sM [1000215,1000214] f156 RY:=fq
def TI:Ko [1000215,1000218,2000219] f157:=eM
def ai7:=TI.1
def MP:=eG.mk 4 [.dG 8 3,.tmp 9,.tmp 10] (sub ai7 0)
def amU:sM [1000215,1000218,2000219] f157 MP:=fq
def TU:Ko [] f169:=eM
def Yb:=TU.1
def acm:=eG.mk 3 [.dG 6 3,.tmp 7] (sub Yb 0)
abbrev Zy:=sub Yb 7
abbrev ahq:=sub Yb 23
def UF:Ko [] f224:=eM
def ajO:=UF.1
def acU:=eG.mk 3 [.tmp 6,.tmp 7] (sub ajO 0)
def T9:Ko [3] f184:=eM
def Ye:=T9.1
def R4:=eG.mk 1 [.tmp 2] (sub Ye 0)
def am3:sM [3] f184 R4:=fq
abbrev ZH:=sub Ye 9
abbrev ahs:=sub Ye 25
def Uh:Ko [] f193:=eM
def aju:=Uh.1
def acA:=eG.mk 2 [.tmp 4,.tmp 5] (sub aju 0)
def UX:Ko [] f247:=eM
def aex:=UX.1
def ac4:=eG.mk 5 [] (sub aex 0)
abbrev ZP:=sub aex 8
def py:=by
 have h:=bR (fO ajo Ua.1) (bR (fO ai6 TH.1) (bR (fO ai7 TI.1) (bR (fO Yb TU.1) (bR (fO ajO UF.1) (bR (fO Ye T9.1) (bR (fO aju Uh.1) (fO aex UX.1)))))));simp only[eM,Ua,TH,TI,TU,UF,T9,Uh,UX,ym,seval] at h;exact h
def aic:=py.1
def N3:=py.2.1
def adV:=py.2.2.1
def N5:=py.2.2.2.1
def ad4:=py.2.2.2.2.1
def N6:=py.2.2.2.2.2.1
def QI:=py.2.2.2.2.2.2.1
def N7:=py.2.2.2.2.2.2.2
def UH:Ko [] f226:=eM
def ajQ:=UH.1
def acW:=eG.mk 2 [.tmp 4,.tmp 5] (sub ajQ 0)
def amB:Ko [] f267:=eM
def apa:=amB.1
def ala:=eG.mk 3 [.tmp 6,.tmp 7] (sub apa 0)
def Va:Ko [] f268:=eM
def akc:=Va.1
def adi:=eG.mk 2 [.tmp 4] (sub akc 0)
def Ve:Ko [] f284:=eM
def aez:=Ve.1
def adk:=eG.mk 3 [] (sub aez 0)
abbrev ZT:=sub aez 4
def UW:Ko [] f246:=eM
def aj0:=UW.1
def ac3:=eG.mk 3 [.tmp 6] (sub aj0 0)
def Vf:Ko [] f285:=eM
def akf:=Vf.1
def adl:=eG.mk 3 [.tmp 4] (sub akf 0)
def UU:Ko [] f245:=eM
def ajZ:=UU.1
def ac2:=eG.mk 2 [.tmp 4] (sub ajZ 0)
def TM:Ko [1000189,1000227,1000228] f162:=eM
def aja:=TM.1
def IL:=eG.mk 5 [.tmp 10,.tmp 11] (sub aja 0)
def amW:sM [1000189,1000227,1000228] f162 IL:=fq
def U5:Ko [] f259:=eM
def aj7:=U5.1
def Sd:=eG.mk 1 [.tmp 2] (sub aj7 0)
def nZ:=by
 have h:=bR (fO ajQ UH.1) (bR (fO akc Va.1) (bR (fO aez Ve.1) (bR (fO aj0 UW.1) (bR (fO akf Vf.1) (bR (fO ajZ UU.1) (bR (fO aja TM.1) (fO aj7 U5.1)))))));simp only[eM,UH,Va,Ve,UW,Vf,UU,TM,U5,ym,seval] at h;exact h
def aoF:=nZ.1
def aoV:=nZ.2.1
def N9:=nZ.2.2.1
def aoK:=nZ.2.2.2.1
def ad8:=nZ.2.2.2.2.1
def aik:=nZ.2.2.2.2.2.1
def N4:=nZ.2.2.2.2.2.2.1
def HK:=nZ.2.2.2.2.2.2.2
def afS:Ko [] f38:=eM
def b38:=afS.1
def alk:=eG.mk 1 [.dG 2 8] (sub b38 0)
def UE:Ko [] f223:=eM
def ajN:=UE.1
def acT:=eG.mk 3 [.tmp 6] (sub ajN 0)
def U9:Ko [] f266:=eM
def akb:=U9.1
def adh:=eG.mk 3 [.tmp 4] (sub akb 0)
def U8:Ko [] f265:=eM
def aka:=U8.1
def adg:=eG.mk 2 [.tmp 4] (sub aka 0)
def amE:Ko [] f299:=eM
def apd:=amE.1
def ale:=eG.mk 2 [.tmp 4] (sub apd 0)
def UC:Ko [] f221:=eM
def ajL:=UC.1
def acR:=eG.mk 2 [.tmp 4] (sub ajL 0)
def U7:Ko [] f264:=eM
def aj9:=U7.1
def adf:=eG.mk 2 [.tmp 4] (sub aj9 0)
def UD:Ko [] f222:=eM
def ajM:=UD.1
def acS:=eG.mk 2 [.tmp 4] (sub ajM 0)
def TJ:Ko [8000220,1001004005] f158:=eM
def Om:=TJ.1
def RZ:=eG.mk 2 [.dG 4 8] (sub Om 0)
def amV:sM [8000220,1001004005] f158 RZ:=fq
abbrev Zv:=sub Om 17
abbrev Zw:=sub Om 40
abbrev aaX:=sub Om 62
abbrev aaY:=sub Om 35
def n9:=by
 have h:=bR (fO b38 afS.1) (bR (fO ajN UE.1) (bR (fO akb U9.1) (bR (fO aka U8.1) (bR (fO ajL UC.1) (bR (fO aj9 U7.1) (bR (fO ajM UD.1) (fO Om TJ.1)))))));simp only[eM,afS,UE,U9,U8,UC,U7,UD,TJ,ym,seval] at h;exact h
def E38:=n9.1
def aoE:=n9.2.1
def aoU:=n9.2.2.1
def aoT:=n9.2.2.2.1
def ad3:=n9.2.2.2.2.1
def aoS:=n9.2.2.2.2.2.1
def aoD:=n9.2.2.2.2.2.2.1
def GI:=n9.2.2.2.2.2.2.2
def TN:Ko [8000229] f163:=eM
def ajb:=TN.1
def R0:=eG.mk 2 [.dG 4 8,.tmp 5,.tmp 6] (sub ajb 0)
def amX:sM [8000229] f163 R0:=fq
def UI:Ko [6000012] f230:=eM
def Oo:=UI.1
def R9:=eG.mk 2 [.tmp 4,.tmp 5] (sub Oo 0)
def am7:sM [6000012] f230 R9:=fq
abbrev ZL:=sub Oo 9
abbrev ZM:=sub Oo 30
abbrev aa0:=sub Oo 46
abbrev aa1:=sub Oo 25
def Vb:Ko [] f271:=eM
def Yf:=Vb.1
def MW:=eG.mk 5 [.tmp 6] (sub Yf 0)
abbrev ZR:=sub Yf 33
abbrev aht:=sub Yf 45
def amC:Ko [] f273:=eM
def apb:=amC.1
def alc:=eG.mk 2 [.tmp 4] (sub apb 0)
def TP:Ko [] f164:=eM
def Ya:=TP.1
def ach:=eG.mk 2 [.tmp 4,.tmp 5,.tmp 6] (sub Ya 0)
abbrev Zx:=sub Ya 7
abbrev ahp:=sub Ya 27
def UJ:Ko [5] f232:=eM
def aev:=UJ.1
def Sa:=eG.mk 2 [.tmp 4] (sub aev 0)
def am8:sM [5] f232 Sa:=fq
abbrev ZN:=sub aev 9
def UK:Ko [] f233:=eM
def ajR:=UK.1
def acX:=eG.mk 2 [.tmp 3] (sub ajR 0)
def UL:Ko [5] f234:=eM
def aew:=UL.1
def Sb:=eG.mk 2 [.tmp 4] (sub aew 0)
def am9:sM [5] f234 Sb:=fq
abbrev ZO:=sub aew 9
def UM:Ko [] f235:=eM
def ajS:=UM.1
def acY:=eG.mk 2 [.tmp 3] (sub ajS 0)
def oa:=by
 have h:=bR (fO ajb TN.1) (bR (fO Oo UI.1) (bR (fO Yf Vb.1) (bR (fO Ya TP.1) (bR (fO aev UJ.1) (bR (fO ajR UK.1) (bR (fO aew UL.1) (fO ajS UM.1)))))));simp only[eM,TN,UI,Vb,TP,UJ,UK,UL,UM,ym,seval] at h;exact h
def ah8:=oa.1
def GJ:=oa.2.1
def N8:=oa.2.2.1
def XN:=oa.2.2.2.1
def XV:=oa.2.2.2.2.1
def aoG:=oa.2.2.2.2.2.1
def XW:=oa.2.2.2.2.2.2.1
def aoH:=oa.2.2.2.2.2.2.2
def TT:Ko [] f168:=eM
def aje:=TT.1
def ack:=eG.mk 2 [.dG 4 8,.tmp 5] (sub aje 0)
def atb:Ko [] f57:=eM
def b57:=atb.1
def arN:=eG.mk 2 [.tmp 4] (sub b57 0)
def atc:Ko [] f58:=eM
def b58:=atc.1
def arO:=eG.mk 3 [.tmp 6] (sub b58 0)
def atd:Ko [] f59:=eM
def b59:=atd.1
def arP:=eG.mk 2 [.tmp 4] (sub b59 0)
def ate:Ko [] f60:=eM
def b60:=ate.1
def arQ:=eG.mk 2 [.tmp 4] (sub b60 0)
def atf:Ko [] f61:=eM
def b61:=atf.1
def arR:=eG.mk 2 [.tmp 4] (sub b61 0)
def aia:=by
 have h:=fO aje TT.1;simp only[eM,TT,ym,seval] at h;exact h
end Go.Proofs.YteoamaffclmdbaaGreatDoor
set_option linter.defProp false
set_option maxRecDepth 100000
namespace Go.Proofs.YteoamaffclmdbaaGreatDoor
open Go Go.Abs
def afG:Ko [] f24:=eM
def b24:=afG.1
def ak5:=eG.mk 0 [.dG 0 10] (sub b24 0)
def af5:Ko [] f53:=eM
def b53:=af5.1
def alr:=eG.mk 2 [] (sub b53 0)
def S0:Ko [] f110:=eM
def aiG:=S0.1
def abP:=eG.mk 1 [] (sub aiG 0)
def Tw:Ko [] f145:=eM
def aiY:=Tw.1
def ab8:=eG.mk 2 [.dG 4 6] (sub aiY 0)
def T4:Ko [] f179:=eM
def ajj:=T4.1
def acr:=eG.mk 2 [.dG 4 6] (sub ajj 0)
def Tx:Ko [] f146:=eM
def aiZ:=Tx.1
def ab9:=eG.mk 2 [.tmp 4,.tmp 5] (sub aiZ 0)
def Tz:Ko [1000189] f148:=eM
def Ol:=Tz.1
def RV:=eG.mk 3 [] (sub Ol 0)
def amQ:sM [1000189] f148 RV:=fq
abbrev Zt:=sub Ol 7
abbrev Nc:=sub Ol 32
abbrev NC:=sub Ol 46
abbrev aaW:=sub Ol 23
def Ub:Ko [] f186:=eM
def ajp:=Ub.1
def acv:=eG.mk 2 [.tmp 3] (sub ajp 0)
def pz:=by
 have h:=bR (fO b24 afG.1) (bR (fO b53 af5.1) (bR (fO aiG S0.1) (bR (fO aiY Tw.1) (bR (fO ajj T4.1) (bR (fO aiZ Tx.1) (bR (fO Ol Tz.1) (fO ajp Ub.1)))))));simp only[eM,afG,af5,S0,Tw,T4,Tx,Tz,Ub,ym,seval] at h;exact h
def E24:=pz.1
def E53:=pz.2.1
def adM:=pz.2.2.1
def adS:=pz.2.2.2.1
def aoq:=pz.2.2.2.2.1
def XL:=pz.2.2.2.2.2.1
def te:=pz.2.2.2.2.2.2.1
def aor:=pz.2.2.2.2.2.2.2
def Ud:Ko [] f188:=eM
def ajr:=Ud.1
def R6:=eG.mk 2 [.tmp 4] (sub ajr 0)
def am4:sM [] f188 R6:=fq
def Ue:Ko [] f190:=eM
def ajs:=Ue.1
def acx:=eG.mk 2 [.tmp 3] (sub ajs 0)
def Ug:Ko [] f192:=eM
def On:=Ug.1
def acz:=eG.mk 2 [.tmp 4] (sub On 0)
abbrev ZI:=sub On 31
abbrev aaZ:=sub On 55
abbrev Nd:=sub On 9
abbrev NF:=sub On 56
def TG:Ko [] f155:=eM
def ai5:=TG.1
def acg:=eG.mk 1 [.tmp 2] (sub ai5 0)
def agw:Ko [] f93:=eM
def b93:=agw.1
def ae7:=eG.mk 1 [] (sub b93 0)
def agx:Ko [] f94:=eM
def b94:=agx.1
def Sg:=eG.mk 1 [] (sub b94 0)
def agy:Ko [] f95:=eM
def b95:=agy.1
def O6:=eG.mk 1 [] (sub b95 0)
def agz:Ko [] f96:=eM
def b96:=agz.1
def Sh:=eG.mk 1 [] (sub b96 0)
def pA:=by
 have h:=bR (fO ajr Ud.1) (bR (fO ajs Ue.1) (bR (fO On Ug.1) (bR (fO ai5 TG.1) (bR (fO b93 agw.1) (bR (fO b94 agx.1) (bR (fO b95 agy.1) (fO b96 agz.1)))))));simp only[eM,Ud,Ue,Ug,TG,agw,agx,agy,agz,ym,seval] at h;exact h
def aos:=pA.1
def aot:=pA.2.1
def CX:=pA.2.2.1
def aom:=pA.2.2.2.1
def E93:=pA.2.2.2.2.1
def E94:=pA.2.2.2.2.2.1
def E95:=pA.2.2.2.2.2.2.1
def E96:=pA.2.2.2.2.2.2.2
def agA:Ko [] f97:=eM
def b97:=agA.1
def Lm:=eG.mk 1 [] (sub b97 0)
def agB:Ko [] f98:=eM
def b98:=agB.1
def YK:=eG.mk 1 [] (sub b98 0)
def TF:Ko [3] f154:=eM
def X9:=TF.1
def RX:=eG.mk 1 [.tmp 2] (sub X9 0)
def amS:sM [3] f154 RX:=fq
abbrev Zu:=sub X9 9
abbrev aho:=sub X9 21
def agC:Ko [] f99:=eM
def b99:=agC.1
def ae8:=eG.mk 1 [] (sub b99 0)
def SO:Ko [] f100:=eM
def aix:=SO.1
def MG:=eG.mk 1 [] (sub aix 0)
def SP:Ko [] f101:=eM
def aiy:=SP.1
def RN:=eG.mk 1 [] (sub aiy 0)
def TK:Ko [] f159:=eM
def ai8:=TK.1
def MQ:=eG.mk 1 [.dG 2 6] (sub ai8 0)
def SQ:Ko [] f102:=eM
def aiz:=SQ.1
def IG:=eG.mk 1 [] (sub aiz 0)
def oc:=by
 have h:=bR (fO b97 agA.1) (bR (fO b98 agB.1) (bR (fO X9 TF.1) (bR (fO b99 agC.1) (bR (fO aix SO.1) (bR (fO aiy SP.1) (bR (fO ai8 TK.1) (fO aiz SQ.1)))))));simp only[eM,agA,agB,TF,agC,SO,SP,TK,SQ,ym,seval] at h;exact h
def E97:=oc.1
def E98:=oc.2.1
def XM:=oc.2.2.1
def E99:=oc.2.2.2.1
def adJ:=oc.2.2.2.2.1
def ah2:=oc.2.2.2.2.2.1
def adW:=oc.2.2.2.2.2.2.1
def XH:=oc.2.2.2.2.2.2.2
def TL:Ko [] f161:=eM
def ai9:=TL.1
def MR:=eG.mk 3 [] (sub ai9 0)
def SR:Ko [1000160,2000161] f103:=eM
def aiA:=SR.1
def yv:=eG.mk 1 [] (sub aiA 0)
def amK:sM [1000160,2000161] f103 yv:=fq
def SS:Ko [] f104:=eM
def aiB:=SS.1
def MH:=eG.mk 1 [] (sub aiB 0)
def SU:Ko [] f105:=eM
def aiC:=SU.1
def II:=eG.mk 1 [] (sub aiC 0)
def SV:Ko [] f106:=eM
def aiD:=SV.1
def MI:=eG.mk 1 [] (sub aiD 0)
def SX:Ko [] f107:=eM
def Oj:=SX.1
def MJ:=eG.mk 1 [] (sub Oj 0)
abbrev Za:=sub Oj 15
abbrev Zb:=sub Oj 34
abbrev aaU:=sub Oj 52
abbrev aaV:=sub Oj 27
def TR:Ko [] f167:=eM
def ajd:=TR.1
def acj:=eG.mk 2 [.tmp 3] (sub ajd 0)
def SY:Ko [] f108:=eM
def aiE:=SY.1
def RO:=eG.mk 1 [] (sub aiE 0)
def oe:=by
 have h:=bR (fO ai9 TL.1) (bR (fO aiA SR.1) (bR (fO aiB SS.1) (bR (fO aiC SU.1) (bR (fO aiD SV.1) (bR (fO Oj SX.1) (bR (fO ajd TR.1) (fO aiE SY.1)))))));simp only[eM,TL,SR,SS,SU,SV,SX,TR,SY,ym,seval] at h;exact h
def adX:=oe.1
def HF:=oe.2.1
def adK:=oe.2.2.1
def XI:=oe.2.2.2.1
def adL:=oe.2.2.2.2.1
def zn:=oe.2.2.2.2.2.1
def aon:=oe.2.2.2.2.2.2.1
def ah3:=oe.2.2.2.2.2.2.2
def SZ:Ko [] f109:=eM
def aiF:=SZ.1
def abO:=eG.mk 1 [] (sub aiF 0)
def af4:Ko [] f52:=eM
def b52:=af4.1
def alq:=eG.mk 0 [.tmp 0] (sub b52 0)
def afP:Ko [] f34:=eM
def b34:=afP.1
def alh:=eG.mk 2 [.tmp 4] (sub b34 0)
def af6:Ko [] f55:=eM
def b55:=af6.1
def als:=eG.mk 2 [.tmp 4] (sub b55 0)
def uE:=by
 have h:=bR (fO aiF SZ.1) (bR (fO b52 af4.1) (bR (fO b34 afP.1) (fO b55 af6.1)));simp only[eM,SZ,af4,afP,af6,ym,seval] at h;exact h
def aoh:=uE.1
def E52:=uE.2.1
def E34:=uE.2.2.1
def E55:=uE.2.2.2
end Go.Proofs.YteoamaffclmdbaaGreatDoor
set_option linter.defProp false
set_option maxRecDepth 100000
namespace Go.Proofs.YteoamaffclmdbaaGreatDoor
open Go Go.Abs
def Vc:Ko [] f275:=eM
def akd:=Vc.1
def MX:=eG.mk 2 [.tmp 4,.tmp 5] (sub akd 0)
def Vg:Ko [] f302:=eM
def akh:=Vg.1
def MY:=eG.mk 2 [.tmp 4,.tmp 5] (sub akh 0)
def Vh:Ko [] f325:=eM
def aki:=Vh.1
def IT:=eG.mk 2 [.tmp 4] (sub aki 0)
def yG:=by
 have h:=And.intro (fO akd Vc.1) (And.intro (fO akh Vg.1) (fO aki Vh.1));simp only[eM,Vc,Vg,Vh,ym,seval] at h;exact h
def aoW:=yG.1
def XX:=yG.2.1
def XY:=yG.2.2
end Go.Proofs.YteoamaffclmdbaaGreatDoor
set_option linter.defProp false
set_option maxRecDepth 100000
namespace Go.Proofs.YteoamaffclmdbaaGreatDoor
open Go Go.Abs
def afw:Ko [] f11:=eM
def b11:=afw.1
def aeX:=eG.mk 1 [.tmp 2] (sub b11 0)
def afL:Ko [13000003] f30:=eM
def b30:=afL.1
def ae0:=eG.mk 1 [.tmp 2] (sub b30 0)
def atn:sM [13000003] f30 ae0:=fq
def afQ:Ko [] f35:=eM
def b35:=afQ.1
def ali:=eG.mk 2 [.tmp 4] (sub b35 0)
def afz:Ko [5000037,6000016,12000074] f15:=eM
def b15:=afz.1
def aeY:=eG.mk 2 [.tmp 4,.tmp 5] (sub b15 0)
def atk:sM [5000037,6000016,12000074] f15 aeY:=fq
def afM:Ko [11000006,12000077,15000088] f31:=eM
def Kb:=afM.1
def ae1:=eG.mk 9 [.tmp 11] (sub Kb 0)
def ato:sM [11000006,12000077,15000088] f31 ae1:=fq
def afO:Ko [] f33:=eM
def b33:=afO.1
def alg:=eG.mk 2 [.tmp 3] (sub b33 0)
def afB:Ko [] f18:=eM
def b18:=afB.1
def akY:=eG.mk 2 [.tmp 4] (sub b18 0)
def afN:Ko [] f32:=eM
def b32:=afN.1
def alf:=eG.mk 2 [.tmp 4] (sub b32 0)
def pB:=by
 have h:=bR (fO b11 afw.1) (bR (fO b30 afL.1) (bR (fO b35 afQ.1) (bR (fO b15 afz.1) (bR (fO Kb afM.1) (bR (fO b33 afO.1) (bR (fO b18 afB.1) (fO b32 afN.1)))))));simp only[eM,afw,afL,afQ,afz,afM,afO,afB,afN,ym,seval] at h;exact h
def E11:=pB.1
def E30:=pB.2.1
def E35:=pB.2.2.1
def QD:=pB.2.2.2.1
def Oa:=pB.2.2.2.2.1
def E33:=pB.2.2.2.2.2.1
def E18:=pB.2.2.2.2.2.2.1
def E32:=pB.2.2.2.2.2.2.2
def ata:Ko [] f54:=eM
def b54:=ata.1
def arM:=eG.mk 2 [.tmp 4] (sub b54 0)
def atg:Ko [] f62:=eM
def b62:=atg.1
def arS:=eG.mk 2 [.tmp 4] (sub b62 0)
def ath:Ko [] f63:=eM
def b63:=ath.1
def arT:=eG.mk 2 [.tmp 4] (sub b63 0)
end Go.Proofs.YteoamaffclmdbaaGreatDoor
set_option linter.defProp false
set_option maxRecDepth 100000
namespace Go.Proofs.YteoamaffclmdbaaGreatDoor
open Go Go.Abs
def afv:Ko [] f10:=eM
def b10:=afv.1
def akU:=eG.mk 2 [.tmp 4] (sub b10 0)
def afy:Ko [13000008,5000019,5000020,5000021] f14:=eM
def b14:=afy.1
def Li:=eG.mk 3 [.tmp 6,.dG 7 10] (sub b14 0)
def atj:sM [13000008,5000019,5000020,5000021] f14 Li:=fq
def as8:Ko [13000005] f20:=eM
def b20:=as8.1
def akZ:=eG.mk 2 [.tmp 4] (sub b20 0)
def atm:sM [13000005] f20 akZ:=fq
def afE:Ko [] f22:=eM
def b22:=afE.1
def ak3:=eG.mk 2 [.dG 4 17] (sub b22 0)
def afF:Ko [] f23:=eM
def b23:=afF.1
def ak4:=eG.mk 2 [.dG 4 17] (sub b23 0)
def afC:Ko [5000018] f19:=eM
def b19:=afC.1
def aeZ:=eG.mk 3 [.tmp 6] (sub b19 0)
def atl:sM [5000018] f19 aeZ:=fq
def afR:Ko [] f37:=eM
def b37:=afR.1
def alj:=eG.mk 2 [.tmp 4] (sub b37 0)
def afA:Ko [] f17:=eM
def b17:=afA.1
def akX:=eG.mk 2 [.tmp 4] (sub b17 0)
def ko9:Ko [] f9:=eM
def b9:=ko9.1
def fn9:=eG.mk 0 [.tmp 0] (sub b9 0)
def pC:=by
 have h:=bR (fO b10 afv.1) (bR (fO b14 afy.1) (bR (fO b22 afE.1) (bR (fO b23 afF.1) (bR (fO b19 afC.1) (bR (fO b37 afR.1) (bR (fO b17 afA.1) (fO b9 ko9.1)))))));simp only[eM,afv,afy,afE,afF,afC,afR,afA,ko9,ym,seval] at h;exact h
def E10:=pC.1
def E14:=pC.2.1
def E22:=pC.2.2.1
def E23:=pC.2.2.2.1
def QH:=pC.2.2.2.2.1
def E37:=pC.2.2.2.2.2.1
def E17:=pC.2.2.2.2.2.2.1
def E9:=pC.2.2.2.2.2.2.2
def ko4:Ko [1000014,14000006007] f4:=eM
def b4:=ko4.1
def fn4:=eG.mk 2 [.tmp 4] (sub b4 0)
def ok4:sM [1000014,14000006007] f4 fn4:=fq
def ko5:Ko [1000014,2000018,14000010011] f5:=eM
def b5:=ko5.1
def fn5:=eG.mk 4 [.tmp 8] (sub b5 0)
def ok5:sM [1000014,2000018,14000010011] f5 fn5:=fq
def ko7:Ko [69,1000014,14000010011] f7:=eM
def b7:=ko7.1
def fn7:=eG.mk 4 [.tmp 8] (sub b7 0)
def ok7:sM [69,1000014,14000010011] f7 fn7:=fq
def ko8:Ko [1000014,13000091,14000010011,14000016015] f8:=eM
def b8:=ko8.1
def fn8:=eG.mk 4 [.tmp 8] (sub b8 0)
def ok8:sM [1000014,13000091,14000010011,14000016015] f8 fn8:=fq
def ko6:Ko [1000020,2000015,14000019011] f6:=eM
def b6:=ko6.1
def fn6:=eG.mk 4 [.tmp 8] (sub b6 0)
def ok6:sM [1000020,2000015,14000019011] f6 fn6:=fq
def E4:=by
 have h:=fO b4 ko4.1;simp only[eM,ko4,ym,seval] at h;exact h
end Go.Proofs.YteoamaffclmdbaaGreatDoor
set_option linter.defProp false
set_option maxRecDepth 100000
namespace Go.Proofs.YteoamaffclmdbaaGreatDoor
open Go Go.Abs
def afH:Ko [] f25:=eM
def b25:=afH.1
def ak7:=eG.mk 1 [.tmp 2] (sub b25 0)
def afI:Ko [] f26:=eM
def b26:=afI.1
def ak8:=eG.mk 1 [.tmp 2] (sub b26 0)
def afx:Ko [] f13:=eM
def b13:=afx.1
def YH:=eG.mk 1 [.dG 2 10] (sub b13 0)
def yH:=by
 have h:=And.intro (fO b25 afH.1) (And.intro (fO b26 afI.1) (fO b13 afx.1));simp only[eM,afH,afI,afx,ym,seval] at h;exact h
def E25:=yH.1
def E26:=yH.2.1
def E13:=yH.2.2
end Go.Proofs.YteoamaffclmdbaaGreatDoor
set_option linter.defProp false
set_option maxRecDepth 100000
namespace Go.Proofs.YteoamaffclmdbaaGreatDoor
open Go Go.Abs
def Ti:Ko [] f130:=eM
def aeo:=Ti.1
def ab2:=eG.mk 2 [.tmp 4] (sub aeo 0)
abbrev Zn:=sub aeo 7
def agh:Ko [] f74:=eM
def b74:=agh.1
def alB:=eG.mk 2 [.dG 4 6,.tmp 5] (sub b74 0)
def Ta:Ko [] f123:=eM
def aiM:=Ta.1
def abV:=eG.mk 2 [.dG 4 6,.tmp 5] (sub aiM 0)
def Td:Ko [] f125:=eM
def aek:=Td.1
def abX:=eG.mk 2 [.tmp 4] (sub aek 0)
abbrev Zj:=sub aek 7
def age:Ko [] f72:=eM
def b72:=age.1
def alz:=eG.mk 3 [.tmp 6,.tmp 7] (sub b72 0)
def S6:Ko [5] f119:=eM
def aeh:=S6.1
def RQ:=eG.mk 2 [.dG 4 3] (sub aeh 0)
def amM:sM [5] f119 RQ:=fq
abbrev Zd:=sub aeh 11
def T0:Ko [5] f175:=eM
def aer:=T0.1
def R1:=eG.mk 2 [.dG 4 3] (sub aer 0)
def amY:sM [5] f175 R1:=fq
abbrev ZC:=sub aer 9
def S9:Ko [9] f122:=eM
def aei:=S9.1
def RR:=eG.mk 3 [.dG 6 3] (sub aei 0)
def amO:sM [9] f122 RR:=fq
abbrev Zh:=sub aei 11
def pD:=by
 have h:=bR (fO aeo Ti.1) (bR (fO b74 agh.1) (bR (fO aiM Ta.1) (bR (fO aek Td.1) (bR (fO b72 age.1) (bR (fO aeh S6.1) (bR (fO aer T0.1) (fO aei S9.1)))))));simp only[eM,Ti,agh,Ta,Td,age,S6,T0,S9,ym,seval] at h;exact h
def Kg:=pD.1
def E74:=pD.2.1
def XJ:=pD.2.2.1
def Ke:=pD.2.2.2.1
def E72:=pD.2.2.2.2.1
def Kc:=pD.2.2.2.2.2.1
def QF:=pD.2.2.2.2.2.2.1
def Kd:=pD.2.2.2.2.2.2.2
def S5:Ko [12] f118:=eM
def aeg:=S5.1
def RP:=eG.mk 4 [.dG 8 3] (sub aeg 0)
def amL:sM [12] f118 RP:=fq
abbrev Zc:=sub aeg 15
def Tg:Ko [] f128:=eM
def aem:=Tg.1
def ab0:=eG.mk 2 [.tmp 4] (sub aem 0)
abbrev Zl:=sub aem 7
def Te:Ko [] f126:=eM
def ael:=Te.1
def abY:=eG.mk 3 [.tmp 6] (sub ael 0)
abbrev Zk:=sub ael 7
def TW:Ko [] f171:=eM
def ajf:=TW.1
def aco:=eG.mk 2 [.tmp 4] (sub ajf 0)
def S4:Ko [] f117:=eM
def aiK:=S4.1
def abT:=eG.mk 3 [.tmp 6] (sub aiK 0)
def agc:Ko [] f70:=eM
def b70:=agc.1
def alx:=eG.mk 4 [.dG 8 3,.tmp 9,.tmp 10] (sub b70 0)
def aga:Ko [] f68:=eM
def b68:=aga.1
def alw:=eG.mk 4 [.dG 8 3,.tmp 9] (sub b68 0)
def S8:Ko [] f121:=eM
def aiL:=S8.1
def abU:=eG.mk 2 [.dG 4 3] (sub aiL 0)
def pE:=by
 have h:=bR (fO aeg S5.1) (bR (fO aem Tg.1) (bR (fO ael Te.1) (bR (fO ajf TW.1) (bR (fO aiK S4.1) (bR (fO b70 agc.1) (bR (fO b68 aga.1) (fO aiL S8.1)))))));simp only[eM,S5,Tg,Te,TW,S4,agc,aga,S8,ym,seval] at h;exact h
def GG:=pE.1
def Kf:=pE.2.1
def GH:=pE.2.2.1
def aib:=pE.2.2.2.1
def GF:=pE.2.2.2.2.1
def E70:=pE.2.2.2.2.2.1
def E68:=pE.2.2.2.2.2.2.1
def ah5:=pE.2.2.2.2.2.2.2
def agd:Ko [] f71:=eM
def b71:=agd.1
def aly:=eG.mk 3 [.dG 6 3,.tmp 7,.tmp 8] (sub b71 0)
def Tf:Ko [] f127:=eM
def aiN:=Tf.1
def abZ:=eG.mk 3 [.tmp 6] (sub aiN 0)
def Th:Ko [] f129:=eM
def aen:=Th.1
def ab1:=eG.mk 3 [.tmp 6] (sub aen 0)
abbrev Zm:=sub aen 11
def agf:Ko [] f73:=eM
def b73:=agf.1
def alA:=eG.mk 5 [.dG 10 3,.tmp 11,.tmp 12] (sub b73 0)
def agq:Ko [27] f83:=eM
def b83:=agq.1
def ae6:=eG.mk 3 [.dG 6 3,.tmp 7] (sub b83 0)
def atA:sM [27] f83 ae6:=fq
def Tr:Ko [] f137:=eM
def aiU:=Tr.1
def ab7:=eG.mk 2 [.dG 4 3,.tmp 5] (sub aiU 0)
def afV:Ko [] f41:=eM
def b41:=afV.1
def alo:=eG.mk 0 [.dG 0 3] (sub b41 0)
def Tc:Ko [] f124:=eM
def aej:=Tc.1
def abW:=eG.mk 1 [.tmp 2] (sub aej 0)
abbrev Zi:=sub aej 15
def oh:=by
 have h:=bR (fO b71 agd.1) (bR (fO aiN Tf.1) (bR (fO aen Th.1) (bR (fO b73 agf.1) (bR (fO b83 agq.1) (bR (fO aiU Tr.1) (bR (fO b41 afV.1) (fO aej Tc.1)))))));simp only[eM,agd,Tf,Th,agf,agq,Tr,afV,Tc,ym,seval] at h;exact h
def E71:=oh.1
def ah6:=oh.2.1
def QA:=oh.2.2.1
def QK:=oh.2.2.2.1
def E83:=oh.2.2.2.2.1
def ah7:=oh.2.2.2.2.2.1
def E41:=oh.2.2.2.2.2.2.1
def HG:=oh.2.2.2.2.2.2.2
end Go.Proofs.YteoamaffclmdbaaGreatDoor
set_option linter.defProp false
set_option maxRecDepth 100000
namespace Go.Proofs.YteoamaffclmdbaaGreatDoor
open Go Go.Abs
def ags:Ko [7] f85:=eM
def b85:=ags.1
def O5:=eG.mk 1 [.tmp 2,.tmp 3] (sub b85 0)
def atC:sM [7] f85 O5:=fq
abbrev agT:=sub b85 27
def TV:Ko [] f170:=eM
def aeq:=TV.1
def acn:=eG.mk 1 [.tmp 2] (sub aeq 0)
abbrev Zz:=sub aeq 17
def af2:Ko [] f48:=eM
def b48:=af2.1
def YI:=eG.mk 3 [.dG 6 3,.tmp 7] (sub b48 0)
def agu:Ko [] f87:=eM
def b87:=agu.1
def alD:=eG.mk 2 [.tmp 4] (sub b87 0)
def agv:Ko [] f88:=eM
def b88:=agv.1
def alE:=eG.mk 2 [.tmp 4] (sub b88 0)
def af8:Ko [] f66:=eM
def b66:=af8.1
def alv:=eG.mk 2 [.tmp 4,.tmp 5] (sub b66 0)
def agj:Ko [13] f76:=eM
def b76:=agj.1
def G4:=eG.mk 4 [.tmp 8,.tmp 9,.tmp 10] (sub b76 0)
def atu:sM [13] f76 G4:=fq
abbrev agO:=sub b76 32
abbrev agP:=sub b76 24
def agk:Ko [92] f77:=eM
def b77:=agk.1
def ae4:=eG.mk 5 [.tmp 10,.tmp 11] (sub b77 0)
def atv:sM [92] f77 ae4:=fq
abbrev agQ:=sub b77 49
def pG:=by
 have h:=bR (fO b85 ags.1) (bR (fO aeq TV.1) (bR (fO b48 af2.1) (bR (fO b87 agu.1) (bR (fO b88 agv.1) (bR (fO b66 af8.1) (bR (fO b76 agj.1) (fO b77 agk.1)))))));simp only[eM,ags,TV,af2,agu,agv,af8,agj,agk,ym,seval] at h;exact h
def Qq:=pG.1
def XO:=pG.2.1
def E48:=pG.2.2.1
def E87:=pG.2.2.2.1
def E88:=pG.2.2.2.2.1
def E66:=pG.2.2.2.2.2.1
def Kl:=pG.2.2.2.2.2.2.1
def XZ:=pG.2.2.2.2.2.2.2
def agl:Ko [17] f78:=eM
def b78:=agl.1
def E0:=eG.mk 5 [.tmp 10,.tmp 11] (sub b78 0)
def atw:sM [17] f78 E0:=fq
abbrev agR:=sub b78 49
def agn:Ko [29] f80:=eM
def b80:=agn.1
def O3:=eG.mk 4 [.dG 8 3,.tmp 9,.tmp 10] (sub b80 0)
def aty:sM [29] f80 O3:=fq
def ago:Ko [] f81:=eM
def b81:=ago.1
def ae5:=eG.mk 3 [.tmp 6,.tmp 7] (sub b81 0)
def Tu:Ko [] f140:=eM
def aiW:=Tu.1
def RT:=eG.mk 2 [.tmp 4] (sub aiW 0)
def Tv:Ko [] f141:=eM
def aiX:=Tv.1
def RU:=eG.mk 2 [.tmp 4] (sub aiX 0)
def S3:Ko [] f116:=eM
def aiJ:=S3.1
def ML:=eG.mk 1 [.tmp 2,.tmp 3,.tmp 4] (sub aiJ 0)
def Tj:Ko [] f131:=eM
def aiO:=Tj.1
def ab3:=eG.mk 2 [.tmp 4] (sub aiO 0)
def Tl:Ko [] f132:=eM
def aiP:=Tl.1
def ab4:=eG.mk 3 [.tmp 6] (sub aiP 0)
def pH:=by
 have h:=bR (fO b78 agl.1) (bR (fO b80 agn.1) (bR (fO b81 ago.1) (bR (fO aiW Tu.1) (bR (fO aiX Tv.1) (bR (fO aiJ S3.1) (bR (fO aiO Tj.1) (fO aiP Tl.1)))))));simp only[eM,agl,agn,ago,Tu,Tv,S3,Tj,Tl,ym,seval] at h;exact h
def QL:=pH.1
def E80:=pH.2.1
def E81:=pH.2.2.1
def QB:=pH.2.2.2.1
def QC:=pH.2.2.2.2.1
def adN:=pH.2.2.2.2.2.1
def aok:=pH.2.2.2.2.2.2.1
def adO:=pH.2.2.2.2.2.2.2
def Tm:Ko [] f133:=eM
def aiQ:=Tm.1
def ab5:=eG.mk 2 [.tmp 4] (sub aiQ 0)
def Tn:Ko [] f134:=eM
def aiR:=Tn.1
def MM:=eG.mk 2 [.tmp 4,.tmp 5] (sub aiR 0)
def Tp:Ko [] f135:=eM
def aiS:=Tp.1
def MN:=eG.mk 2 [.tmp 4] (sub aiS 0)
def Tq:Ko [] f136:=eM
def aiT:=Tq.1
def ab6:=eG.mk 2 [.tmp 4] (sub aiT 0)
def T1:Ko [5000014] f176:=eM
def QZ:=T1.1
def IM:=eG.mk 2 [.tmp 4] (sub QZ 0)
def amZ:sM [5000014] f176 IM:=fq
abbrev ZD:=sub QZ 42
abbrev ZE:=sub QZ 24
abbrev ZF:=sub QZ 9
def UN:Ko [] f236:=eM
def ajT:=UN.1
def MU:=eG.mk 3 [.tmp 6] (sub ajT 0)
def UO:Ko [] f237:=eM
def ajU:=UO.1
def MV:=eG.mk 2 [.tmp 4] (sub ajU 0)
def pF:=by
 have h:=bR (fO aiQ Tm.1) (bR (fO aiR Tn.1) (bR (fO aiS Tp.1) (bR (fO aiT Tq.1) (bR (fO QZ T1.1) (bR (fO ajT UN.1) (fO ajU UO.1))))));simp only[eM,Tm,Tn,Tp,Tq,T1,UN,UO,ym,seval] at h;exact h
def aol:=pF.1
def adP:=pF.2.1
def adQ:=pF.2.2.1
def XK:=pF.2.2.2.1
def Cp:=pF.2.2.2.2.1
def ad5:=pF.2.2.2.2.2.1
def ad6:=pF.2.2.2.2.2.2
end Go.Proofs.YteoamaffclmdbaaGreatDoor
set_option linter.defProp false
set_option maxRecDepth 100000
namespace Go.Proofs.YteoamaffclmdbaaGreatDoor
open Go Go.Abs
def afD:Ko [] f21:=eM
def b21:=afD.1
def ak1:=eG.mk 2 [.tmp 4] (sub b21 0)
def afJ:Ko [] f27:=eM
def b27:=afJ.1
def alb:=eG.mk 0 [.dG 0 10] (sub b27 0)
def afK:Ko [] f28:=eM
def b28:=afK.1
def uB:=eG.mk 2 [.dG 4 10,.dG 5 7] (sub b28 0)
def afU:Ko [] f40:=eM
def b40:=afU.1
def aln:=eG.mk 1 [.dG 2 8] (sub b40 0)
def afW:Ko [] f42:=eM
def b42:=afW.1
def alp:=eG.mk 1 [.dG 2 7] (sub b42 0)
def afX:Ko [] f43:=eM
def b43:=afX.1
def G3:=eG.mk 2 [.dG 4 10,.dG 5 7] (sub b43 0)
def afY:Ko [14] f44:=eM
def b44:=afY.1
def zF:=eG.mk 2 [.dG 4 10,.dG 5 7] (sub b44 0)
def atq:sM [14] f44 zF:=fq
abbrev agF:=sub b44 52
def afZ:Ko [] f45:=eM
def b45:=afZ.1
def Cy:=eG.mk 2 [.dG 4 10,.dG 5 7] (sub b45 0)
def pI:=by
 have h:=bR (fO b21 afD.1) (bR (fO b27 afJ.1) (bR (fO b28 afK.1) (bR (fO b40 afU.1) (bR (fO b42 afW.1) (bR (fO b43 afX.1) (bR (fO b44 afY.1) (fO b45 afZ.1)))))));simp only[eM,afD,afJ,afK,afU,afW,afX,afY,afZ,ym,seval] at h;exact h
def Qo:=pI.1
def E27:=pI.2.1
def EO:=pI.2.2.1
def E40:=pI.2.2.2.1
def E42:=pI.2.2.2.2.1
def E43:=pI.2.2.2.2.2.1
def Ob:=pI.2.2.2.2.2.2.1
def QJ:=pI.2.2.2.2.2.2.2
def af0:Ko [17] f46:=eM
def b46:=af0.1
def Lj:=eG.mk 2 [.dG 4 7] (sub b46 0)
def atr:sM [17] f46 Lj:=fq
abbrev agG:=sub b46 54
abbrev agH:=sub b46 31
abbrev agI:=sub b46 87
def af1:Ko [10,41] f47:=eM
def b47:=af1.1
def Se:=eG.mk 2 [.dG 4 8,.tmp 5] (sub b47 0)
def ats:sM [10,41] f47 Se:=fq
abbrev agJ:=sub b47 9
abbrev agK:=sub b47 38
def af3:Ko [23,74] f49:=eM
def b49:=af3.1
def O2:=eG.mk 2 [.dG 4 8] (sub b49 0)
def att:sM [23,74] f49 O2:=fq
abbrev agL:=sub b49 19
abbrev agM:=sub b49 65
abbrev agN:=sub b49 50
def af9:Ko [] f67:=eM
def b67:=af9.1
def ae2:=eG.mk 2 [.tmp 4,.tmp 5,.tmp 6] (sub b67 0)
def agb:Ko [] f69:=eM
def b69:=agb.1
def YJ:=eG.mk 5 [.dG 10 10,.dG 11 7] (sub b69 0)
def agi:Ko [] f75:=eM
def b75:=agi.1
def ae3:=eG.mk 1 [.tmp 2] (sub b75 0)
def agm:Ko [35] f79:=eM
def b79:=agm.1
def Ll:=eG.mk 2 [.dG 4 8,.tmp 5,.tmp 6] (sub b79 0)
def atx:sM [35] f79 Ll:=fq
def agp:Ko [7000011] f82:=eM
def b82:=agp.1
def O4:=eG.mk 3 [.tmp 6] (sub b82 0)
def atz:sM [7000011] f82 O4:=fq
abbrev Lz:=sub b82 15
abbrev agS:=sub b82 28
def pJ:=by
 have h:=bR (fO b46 af0.1) (bR (fO b47 af1.1) (bR (fO b49 af3.1) (bR (fO b67 af9.1) (bR (fO b69 agb.1) (bR (fO b75 agi.1) (bR (fO b79 agm.1) (fO b82 agp.1)))))));simp only[eM,af0,af1,af3,af9,agb,agi,agm,agp,ym,seval] at h;exact h
def Kk:=pJ.1
def E47:=pJ.2.1
def Qp:=pJ.2.2.1
def E67:=pJ.2.2.2.1
def E69:=pJ.2.2.2.2.1
def E75:=pJ.2.2.2.2.2.1
def E79:=pJ.2.2.2.2.2.2.1
def E82:=pJ.2.2.2.2.2.2.2
def agr:Ko [47] f84:=eM
def b84:=agr.1
def Sf:=eG.mk 2 [.tmp 4,.tmp 5,.tmp 6] (sub b84 0)
def atB:sM [47] f84 Sf:=fq
def agt:Ko [] f86:=eM
def b86:=agt.1
def alC:=eG.mk 3 [.tmp 6] (sub b86 0)
def S7:Ko [8,14] f120:=eM
def QX:=S7.1
def IJ:=eG.mk 3 [.dG 6 10,.tmp 7] (sub QX 0)
def amN:sM [8,14] f120 IJ:=fq
abbrev Ze:=sub QX 9
abbrev Zf:=sub QX 30
abbrev Zg:=sub QX 49
def Ts:Ko [] f138:=eM
def aiV:=Ts.1
def MO:=eG.mk 2 [.tmp 4] (sub aiV 0)
def Tt:Ko [20,5000016] f139:=eM
def QY:=Tt.1
def IK:=eG.mk 2 [.tmp 4,.tmp 5] (sub QY 0)
def amP:sM [20,5000016] f139 IK:=fq
abbrev Zo:=sub QY 36
abbrev Zp:=sub QY 56
abbrev Zq:=sub QY 13
def TX:Ko [] f172:=eM
def ajg:=TX.1
def acp:=eG.mk 2 [.tmp 4] (sub ajg 0)
def TY:Ko [] f173:=eM
def Yc:=TY.1
def MS:=eG.mk 2 [.tmp 4] (sub Yc 0)
abbrev ZA:=sub Yc 41
abbrev ZB:=sub Yc 27
def TZ:Ko [] f174:=eM
def ajh:=TZ.1
def MT:=eG.mk 2 [.tmp 4] (sub ajh 0)
def oj:=by
 have h:=bR (fO b84 agr.1) (bR (fO b86 agt.1) (bR (fO QX S7.1) (bR (fO aiV Ts.1) (bR (fO QY Tt.1) (bR (fO ajg TX.1) (bR (fO Yc TY.1) (fO ajh TZ.1)))))));simp only[eM,agr,agt,S7,Ts,Tt,TX,TY,TZ,ym,seval] at h;exact h
def E84:=oj.1
def E86:=oj.2.1
def EK:=oj.2.2.1
def N2:=oj.2.2.2.1
def Ar:=oj.2.2.2.2.1
def adY:=oj.2.2.2.2.2.1
def EM:=oj.2.2.2.2.2.2.1
def adZ:=oj.2.2.2.2.2.2.2
def T2:Ko [23] f177:=eM
def aji:=T2.1
def IP:=eG.mk 2 [.tmp 4] (sub aji 0)
def am0:sM [23] f177 IP:=fq
def XP:=by
 have h:=fO aji T2.1;simp only[eM,T2,ym,seval] at h;exact h
end Go.Proofs.YteoamaffclmdbaaGreatDoor
namespace Go.Abs
section
open Go Go.RowKit
theorem fe{α:Type}:∀(l:List α)(i:Nat),nth l i=l[i]?
 | [],_=>by rfl
 |_::_,0=>by rfl
 |_::l,n+1=>by simp[nth,fe l n]
theorem fj{α:Type}:∀(l:List α)(i:Nat)(x:α),iT l i x=l.set i x
 | [],_,_=>by rfl
 |_::_,0,_=>by rfl
 |_::l,n+1,x=>by simp[iT,fj l n]
def gF(j:J)(id:Nat)(ob:Option Nat):J:=⟨fun i=>if i=id then ob else j i,j.X⟩
structure Quiet(w w':World):Prop where
 size:w.heap.size<=w'.heap.size
 os:w'.os=w.os
 tape:w'.tape=w.tape
 output:w'.output=w.output
theorem lt_of_block{w:World}{b:Nat}{o:Obj}(h:w.heap[b]?=some o):b<w.heap.size:=by
 grind
theorem aN{α:Type}{l:List α}{i:Nat}{x:α}(h:l[i]?=some x):i<l.length:=j6
section
variable {j:J} {M:aC} {w w':World}
theorem qC{j':J}{M':aC}(hr:Rel j M w)(ext:Ext j M w j' M' w'){i sz ver:Nat}{xs:List ag}(h:M[i]?=some (.arr sz ver xs))(hj:j' i=j i)(hb:∀b,j i=some b->w'.heap[b]?=w.heap[b]?) :
  (xs=[]/\j' i=none)\/∃b vs t,j' i=some b/\w'.heap[b]?=some (.cells vs t (0,0))/\xs.length*sz<=vs.size/\(∀x,x∈xs->x.cells.length=sz) /\
  ∀(q:Nat)(x:ag)(k:Nat)(c:ag),xs[q]?=some x->x.cells[k]?=some c->∃v,vs[q*sz+k]?=some v/\fR w' (om j' M' w') c v:=by
 rcases hr.arr i _ _ _ h with he|⟨b,vs,t,h1,h2,h3,h4,h5⟩
 ·grind
 refine .inr ⟨b,vs,t,hj.trans h1,(hb b h1).trans h2,h3,h4,fun q x k c hx hk=>?_⟩
 obtain⟨u,h6,h7⟩:=h5 q x k c hx hk;exact⟨u,h6,h7.mono ext.iA⟩
theorem Rel.yK(hr:Rel j M w){i sz ver b:Nat}{xs:List ag}(h:M[i]?=some (.arr sz ver xs))(hj:j i=some b):∃b vs t,j i=some b/\w.heap[b]?=some (.cells vs t (0,0))/\xs.length*sz<=vs.size/\(∀x,x∈xs->x.cells.length=sz) /\
  ∀(q:Nat)(x:ag)(k:Nat)(c:ag),xs[q]?=some x->x.cells[k]?=some c->∃v,vs[q*sz+k]?=some v/\fR w (om j M w) c v:=by
 rcases hr.arr i _ _ _ h with ⟨_,he⟩|hh
 ·grind
 omega
def xJ{bx:cL}{i:Nat}(h:i<M.length):(M++[bx])[i]?=M[i]?:=j6
def kc{bx:cL}:(M++[bx])[M.length]?=some bx:=dw
theorem Ext.push{ob:Option Nat}{bx:cL}(hob:∀b,ob=some b->w.heap.size<=b)(q:Quiet w w')(hb:∀b,b<w.heap.size->w'.heap[b]?=w.heap[b]?) :
  Ext j M w (gF j M.length ob) (M++[bx]) w' where
 len:=dw
 size:=q.size
 os:=q.os
 tape:=q.tape
 output:=q.output
 X:=rfl
 fix:=fun i bx h _=>by
  have hi:=aN h;exact⟨by simp[gF,gI hi],bx,by rw[xJ hi]; omega,rfl⟩
 tick:=fun i sz n h=>by
  have hi:=aN h;exact⟨n,au _,by rw[xJ hi]; omega,fun _=>⟨by simp[gF,gI hi],fun b vs t _ hv=>⟨vs,(hb b (lt_of_block hv)).trans hv,rfl⟩⟩⟩
 arr:=fun i sz v xs h=>by
  have hi:=aN h;exact .inr ⟨v,xs,by rw[xJ hi]; omega,au _,fun _=>⟨by simp[gF,gI hi],rfl,fun b vs t _ hv=>⟨vs,(hb b (lt_of_block hv)).trans hv,rfl⟩⟩⟩
 tags:=fun b0 vs0 t0 fr0 h=>⟨vs0,fr0,(hb b0 (lt_of_block h)).trans h,rfl⟩
 iA:=fun b off h=>by
  refine⟨⟨bz h.1 q.size,fun id hid hj=>?_,h.3⟩,World.cell?_of_block (hb b h.1)⟩
  by_cases he:id=M.length
  ·have:ob=some b:=by grind [gF]
   have:=hob b this;have:=h.1;omega
  ·have cJ:id<M.length:=j6;rw[xJ cJ];exact h.2 id cJ (by grind [gF])
 uh:=fun b cJ h=>by
  grind [ob,gF]
theorem Rel.anr(hr:Rel j M w){ob:Option Nat}{bx:cL}(hob:∀b,ob=some b->w.heap.size<=b/\b<w'.heap.size)(q:Quiet w w')(hb:∀b,b<w.heap.size->w'.heap[b]?=w.heap[b]?)
  (hbox:bx.fixed=true->∃b,ob=some b/\(Ext j M w (gF j M.length ob) (M++[bx]) w'->Holds (gF j M.length ob) (M++[bx]) w' b bx))
  (htick:∀sz n b,bx = .tick sz n->ob=some b->∃vs t,w'.heap[b]?=some (.cells vs t (0,0)))
  (harr:∀sz ver xs,bx = .arr sz ver xs->(xs=[]/\ob=none)\/∃b vs t,ob=some b/\w'.heap[b]?=some (.cells vs t (0,0))/\xs.length*sz<=vs.size/\(∀x,x∈xs->x.cells.length=sz) /\
   ∀j' M',Ext j M w j' M' w'->∀(q:Nat)(x:ag)(k:Nat)(c:ag),xs[q]?=some x->x.cells[k]?=some c->∃v,vs[q*sz+k]?=some v/\fR w' (om j' M' w') c v:=by intro _ _ _ h; cases h):Rel (gF j M.length ob) (M++[bx]) w':=by
 have ext:Ext j M w (gF j M.length ob) (M++[bx]) w':=Ext.push (fun b h=>(hob b h).1) q hb
 have up:∀i,i<M.length->gF j M.length ob i=j i:=fun i hi=>by simp[gF,gI hi]
 have cas:∀i x,(M++[bx])[i]?=some x->(i<M.length/\M[i]?=some x)\/(i=M.length/\x=bx):=by
  grind
 refine⟨fun i i' b hi hi' h h'=>?_,fun i b hi h=>?_,fun i bx' h hf=>?_,fun i sz n b h hj=>?_,fun i sz ver xs h=>?_,fun i b hi h off hx=>?_,fun b off h=>bz (hr.Aq b off h) q.size⟩
 ·simp only[aA,av,az] at hi hi'
  by_cases e:i=M.length<;>by_cases e':i'=M.length
  ·omega
  ·have h1:ob=some b:=by simpa[gF,e] using h
   rw[up i' aH] at h';have:=hr.lt i' b aH h';have:=(hob b h1).1;omega
  ·have h1:ob=some b:=by simpa[gF,e'] using h'
   rw[up i aH] at h;have:=hr.lt i b aH h;have:=(hob b h1).1;omega
  ·rw[up i aH] at h;rw[up i' aH] at h';exact hr.inj i i' b aH aH h h'
 ·simp only[aA,av,az] at hi
  by_cases e:i=M.length
  ·exact(hob b (by simpa[gF,e] using h)).2
  ·rw[up i aH] at h;exact bz (hr.lt i b aH h) q.size
 ·rcases cas i _ h with ⟨hi,h⟩|⟨rfl,hx⟩
  ·obtain⟨b,h1,h2⟩:=hr.fix i bx' h hf;exact⟨b,by rw[up i hi]; exact h1,h2.mono ext (hb b (hr.lt i b hi h1))⟩
  ·subst hx;obtain⟨b,h1,h2⟩:=hbox hf;exact⟨b,by simp[gF,h1],h2 ext⟩
 ·rcases cas i _ h with ⟨hi,h⟩|⟨rfl,hx⟩
  ·rw[up i hi] at hj;obtain⟨vs,t,h1⟩:=hr.tick i sz n b h hj;exact⟨vs,t,(hb b (lt_of_block h1)).trans h1⟩
  ·exact htick sz n b hx.symm (by simpa[gF] using hj)
 ·rcases cas i _ h with ⟨hi,h⟩|⟨rfl,hx⟩
  ·exact qC hr ext h (up i hi) fun b h1=>hb b (hr.lt i b hi h1)
  grind [gF]
 ·by_cases e:i=M.length
  ·have h1:=(hob b (by simpa[gF,e] using h)).1
   have h2:=hr.Aq b off hx;omega
  ·exact hr.vd i b (by simp at hi; omega) (by rw[up i (by simp at hi; omega)] at h; exact h) off hx
def Rel.push(hr:Rel j M w){ob:Option Nat}{bx:cL}(hob:∀b,ob=some b->w.heap.size<=b/\b<w'.heap.size)(q:Quiet w w')(hb:∀b,b<w.heap.size->w'.heap[b]?=w.heap[b]?)
  (hbox:bx.fixed=true->∃b,ob=some b/\∀j' M',Ext j M w j' M' w'->Holds j' M' w' b bx)
  (htick:∀sz n b,bx = .tick sz n->ob=some b->∃vs t,w'.heap[b]?=some (.cells vs t (0,0)))
  (harr:∀sz ver xs,bx = .arr sz ver xs->(xs=[]/\ob=none)\/∃b vs t,ob=some b/\w'.heap[b]?=some (.cells vs t (0,0))/\xs.length*sz<=vs.size/\(∀x,x∈xs->x.cells.length=sz) /\
   ∀j' M',Ext j M w j' M' w'->∀(q:Nat)(x:ag)(k:Nat)(c:ag),xs[q]?=some x->x.cells[k]?=some c->∃v,vs[q*sz+k]?=some v/\fR w' (om j' M' w') c v:=by intro _ _ _ h; cases h):Rel (gF j M.length ob) (M++[bx]) w' :=
 hr.anr hob q hb (fun hf=>(hbox hf).imp fun b h=>⟨h.1,fun hx=>h.2 _ _ hx⟩) htick harr
theorem ec{id:Nat}{bx:cL}(h:id<M.length):(M.set id bx)[id]?=some bx:=j6
def cN{id i:Nat}{bx:cL}(h:id≠i):(M.set id bx)[i]?=M[i]?:=j6
theorem Ext.store{id b:Nat}{bx bx':cL}(hM:M[id]?=some bx)(hfx:bx.fixed=true)(htag:bx'.tag=bx.tag)(hj:j id=some b)(hr:Rel j M w)(q:Quiet w w')
  (hb:∀b',b'≠b->b'<w.heap.size->w'.heap[b']?=w.heap[b']?) (htg:∀(vs:Array Value)(t:TypeId)(fr:Nat×Nat),w.heap[b]?=some (.cells vs t fr)->∃vs' fr',w'.heap[b]?=some (.cells vs' t fr')/\vs'.size=vs.size):Ext j M w j (M.set id bx') w' where
 len:=dw
 size:=q.size
 os:=q.os
 tape:=q.tape
 output:=q.output
 X:=rfl
 fix:=fun i b0 h _=>⟨rfl,by
  grind⟩
 tick:=fun i sz n h=>by
  have e:id≠i:=by rintro rfl; rw[hM] at h; cases h; cases hfx
  refine⟨n,au _,by rw[cN e]; omega,fun _=>⟨rfl,fun b' vs t hb' hv=>⟨vs,?_,rfl⟩⟩⟩
  refine(hb b' ?_ (lt_of_block hv)).trans hv;rintro rfl;exact e (hr.inj _ _ _ (aN hM) (aN h) hj hb')
 arr:=fun i sz v xs h=>by
  have e:id≠i:=by rintro rfl; rw[hM] at h; cases h; cases hfx
  refine .inr ⟨v,xs,by rw[cN e]; omega,au _,fun _=>⟨rfl,rfl,fun b' vs t hb' hv=>⟨vs,?_,rfl⟩⟩⟩
  refine(hb b' ?_ (lt_of_block hv)).trans hv;rintro rfl;exact e (hr.inj _ _ _ (aN hM) (aN h) hj hb')
 tags:=fun b0 vs0 t0 fr0 h=>by
  grind
 iA:=fun b0 off h=>by
  have hne:b0≠b:=by
   rintro rfl;obtain⟨sz,n,h1,_⟩:=h.2 id (aN hM) hj;rw[hM] at h1; cases h1; cases hfx
  refine⟨⟨bz h.1 q.size,fun i hi hji=>?_,h.3⟩,World.cell?_of_block (w:=w) (hb b0 hne h.1)⟩
  have e:id≠i:=j6;rw[cN e];exact h.2 i (by simpa using hi) hji
 uh:=fun b0 cJ h=>by
  grind
theorem Rel.store{id b:Nat}{bx bx':cL}(hM:M[id]?=some bx)(hfx:bx.fixed=true)(htag:bx'.tag=bx.tag)(hj:j id=some b)(hr:Rel j M w)(q:Quiet w w')
  (hb:∀b',b'≠b->b'<w.heap.size->w'.heap[b']?=w.heap[b']?) (htg:∀(vs:Array Value)(t:TypeId)(fr:Nat×Nat),w.heap[b]?=some (.cells vs t fr)->∃vs' fr',w'.heap[b]?=some (.cells vs' t fr')/\vs'.size=vs.size) (hh:∀j' M',Ext j M w j' M' w'->Holds j' M' w' b bx'):Rel j (M.set id bx') w':=by
 have ext  := Ext.store hM hfx htag hj hr q hb htg;refine⟨fun i i' b0 hi hi'=>hr.inj i i' b0 (by simpa using hi) (by simpa using hi'),fun i b0 hi h=>bz (hr.lt i b0 (by simpa using hi) h) q.size,fun i bx0 h hf=>?_,fun i sz n b0 h hji=>?_,fun i sz ver xs h=>?_,fun i b0 hi h=>hr.vd i b0 (by simpa using hi) h,fun b0 off h=>bz (hr.Aq b0 off h) q.size⟩
 ·by_cases e:id=i
  ·grind
  ·rw[cN e] at h;obtain⟨b0,h1,h2⟩:=hr.fix i _ h hf;refine⟨b0,h1,h2.mono ext (hb b0 ?_ (hr.lt i b0 (aN h) h1))⟩;rintro rfl;exact e (hr.inj _ _ _ (aN hM) (aN h) hj h1)
 ·have e:id≠i:=by
   rintro rfl;rw[ec (aN hM)] at h;injection h with h
   have:=Bw htag hfx;rw[h] at this; cases this
  rw[cN e] at h;obtain⟨vs,t0,h1⟩:=hr.tick i sz n b0 h hji;refine⟨vs,t0,(hb b0 ?_ (lt_of_block h1)).trans h1⟩;rintro rfl;exact e (hr.inj _ _ _ (aN hM) (aN h) hj hji)
 ·have e:id≠i:=by
   rintro rfl;rw[ec (aN hM)] at h;injection h with h
   have:=Bw htag hfx;rw[h] at this; cases this
  rw[cN e] at h;refine qC hr ext h rfl fun b0 h1=>hb b0 ?_ (hr.lt i b0 (aN h) h1)
  rintro rfl;exact e (hr.inj _ _ _ (aN hM) (aN h) hj h1)
theorem Ext.Hz{k b sz n n':Nat}{vs vs':Array Value}{t:TypeId}(hM:M[k]?=some (.tick sz n))(hj:j k=some b)(hr:Rel j M w)(q:Quiet w w')
  (hb:∀b',b'≠b->b'<w.heap.size->w'.heap[b']?=w.heap[b']?) (hw:w.heap[b]?=some (.cells vs t (0,0))) (hw':w'.heap[b]?=some (.cells vs' t (0,0))) (hvs:vs'.size=vs.size)
  (hq:∀p,p<n*sz->vs'[p]?=vs[p]?) (hn:n<=n'):Ext j M w j (M.set k (.tick sz n')) w' where
 len:=dw
 size:=q.size
 os:=q.os
 tape:=q.tape
 output:=q.output
 X:=rfl
 fix:=fun i b0 h hf=>⟨rfl,by
  have e:k≠i:=by rintro rfl; rw[hM] at h; cases h; cases hf
  grind⟩
 tick:=fun i sz0 n0 h=>by
  grind
 arr:=fun i sz v xs h=>by
  grind
 tags:=fun b0 vs0 t0 fr0 h=>by
  grind
 iA:=fun b0 off h=>by
  refine⟨⟨bz h.1 q.size,fun i hi hji=>?_,h.3⟩,?_⟩
  ·by_cases e:k=i
   ·subst e;obtain⟨sz0,n0,h1,h2⟩:=h.2 k (aN hM) hji;rw[hM] at h1;injection h1 with h1; injection h1 with e1 e2
    subst e1; subst e2;exact⟨sz,n',ec (aN hM),bz h2 (bd _ hn)⟩
   ·rw[cN e];exact h.2 i (by simpa using hi) hji
  ·by_cases e:b0=b
   ·subst e;obtain⟨sz0,n0,h1,h2⟩:=h.2 k (aN hM) hj;rw[hM] at h1
    grind [World.cell?]
   ·exact World.cell?_of_block (w:=w) (hb b0 e h.1)
 uh:=fun b0 cJ h=>by
  grind
theorem Rel.Hz{k b sz n n':Nat}{vs vs':Array Value}{t:TypeId}(hM:M[k]?=some (.tick sz n))(hj:j k=some b)(hr:Rel j M w)(q:Quiet w w')
  (hb:∀b',b'≠b->b'<w.heap.size->w'.heap[b']?=w.heap[b']?) (hw:w.heap[b]?=some (.cells vs t (0,0))) (hw':w'.heap[b]?=some (.cells vs' t (0,0))) (hvs:vs'.size=vs.size)
  (hq:∀p,p<n*sz->vs'[p]?=vs[p]?) (hn:n<=n'):Rel j (M.set k (.tick sz n')) w':=by
 have ext:Ext j M w j (M.set k (.tick sz n')) w':=Ext.Hz hM hj hr q hb hw hw' hvs hq hn;refine⟨fun i i' b0 hi hi'=>hr.inj i i' b0 j6 j6,fun i b0 hi h=>bz (hr.lt i b0 j6 h) q.size,fun i bx0 h hf=>?_,fun i sz0 n0 b0 h hji=>?_,fun i sz ver xs h=>?_,fun i b0 hi h=>hr.vd i b0 j6 h,fun b0 off h=>bz (hr.Aq b0 off h) q.size⟩
 ·have e:k≠i:=by rintro rfl; rw[ec (aN hM)] at h; cases h; cases hf
  rw[cN e] at h;obtain⟨b0,h1,h2⟩:=hr.fix i bx0 h hf;refine⟨b0,h1,h2.mono ext (hb b0 ?_ (hr.lt i b0 (aN h) h1))⟩;rintro rfl;exact e (hr.inj _ _ _ (aN hM) (aN h) hj h1)
 ·by_cases e:k=i
  ·grind
  ·rw[cN e] at h;obtain⟨vs0,t0,h1⟩:=hr.tick i sz0 n0 b0 h hji
   grind
 ·have e:k≠i:=j6;rw[cN e] at h;refine qC hr ext h rfl fun b0 h1=>hb b0 ?_ (hr.lt i b0 (aN h) h1)
  rintro rfl;exact e (hr.inj _ _ _ (aN hM) (aN h) hj h1)
theorem Ext.CV{k b' sz n n':Nat}(hM:M[k]?=some (.tick sz n))(q:Quiet w w')(hb:∀b,b<w.heap.size->w'.heap[b]?=w.heap[b]?)(hf:w.heap.size<=b')(hn:n<n') :
  Ext j M w (gF j k (some b')) (M.set k (.tick sz n')) w' where
 len:=dw
 size:=q.size
 os:=q.os
 tape:=q.tape
 output:=q.output
 X:=rfl
 fix:=fun i b0 h hf=>by
  have e:k≠i:=by rintro rfl; rw[hM] at h; cases h; cases hf
  exact⟨by simp[gF,eY e],b0,by rw[cN e]; omega,rfl⟩
 tick:=fun i sz0 n0 h=>by
  by_cases e:k=i
  ·grind
  ·exact⟨n0,au _,by rw[cN e]; omega,fun _=>⟨by simp[gF,eY e],fun b vs0 t0 _ hv=>⟨vs0,(hb b (lt_of_block hv)).trans hv,rfl⟩⟩⟩
 arr:=fun i sz v xs h=>by
  have e:k≠i:=j6;exact .inr ⟨v,xs,by rw[cN e]; omega,au _,fun _=>⟨by simp[gF,eY e],rfl,fun b vs0 t0 _ hv=>⟨vs0,(hb b (lt_of_block hv)).trans hv,rfl⟩⟩⟩
 tags:=fun b0 vs0 t0 fr0 h=>⟨vs0,fr0,(hb b0 (lt_of_block h)).trans h,rfl⟩
 iA:=fun b0 off h=>by
  refine⟨⟨bz h.1 q.size,fun i hi hji=>?_,h.3⟩,World.cell?_of_block (w:=w) (hb b0 h.1)⟩
  have e:k≠i:=by
   rintro rfl;have:b'=b0:=by grind [gF]
   have:=h.1;omega
  rw[cN e];exact h.2 i j6 (by simp_all [gF,eY])
 uh:=fun b0 cJ h=>by
  grind [gF]
def Rel.CV{k b' sz n n':Nat}{vs:Array Value}{t:TypeId}(hM:M[k]?=some (.tick sz n))(hr:Rel j M w)(q:Quiet w w')(hb:∀b,b<w.heap.size->w'.heap[b]?=w.heap[b]?)
  (hf:w.heap.size<=b') (hw':w'.heap[b']?=some (.cells vs t (0,0))) (hn:n<n'):Rel (gF j k (some b')) (M.set k (.tick sz n')) w':=by
 have ext:Ext j M w (gF j k (some b')) (M.set k (.tick sz n')) w':=Ext.CV hM q hb hf hn;refine⟨fun i i' b0 hi hi' h h'=>?_,fun i b0 hi h=>?_,fun i bx0 h hf=>?_,fun i sz0 n0 b0 h hji=>?_,fun i sz ver xs h=>?_,fun i b0 hi h off hx=>?_,fun b0 off h=>bz (hr.Aq b0 off h) q.size⟩
 ·simp only[dL] at hi hi'
  by_cases e:i=k<;>by_cases e':i'=k
  ·omega
  ·have h1:b'=b0:=by simpa[gF,e] using h
   have:=hr.lt i' b0 hi' (by simpa[gF,e'] using h')
   omega
  ·have h1:b'=b0:=by simpa[gF,e'] using h'
   have:=hr.lt i b0 hi (by simpa[gF,e] using h)
   omega
  ·exact hr.inj i i' b0 hi hi' (by simpa[gF,e] using h) (by simpa[gF,e'] using h')
 ·simp only[dL] at hi
  by_cases e:i=k
  ·have h1:b'=b0:=by simpa[gF,e] using h
   subst h1;exact lt_of_block hw'
  ·exact bz (hr.lt i b0 hi (by simpa[gF,e] using h)) q.size
 ·have e:k≠i:=by rintro rfl; rw[ec (aN hM)] at h; cases h; cases hf
  rw[cN e] at h;obtain⟨b0,h1,h2⟩:=hr.fix i bx0 h hf;exact⟨b0,by simpa[gF,eY e] using h1,h2.mono ext (hb b0 (hr.lt i b0 (aN h) h1))⟩
 ·by_cases e:i=k
  ·have h1:b'=b0:=by simpa[gF,e] using hji
   subst h1;exact⟨vs,t,hw'⟩
  ·rw[cN (eY e)] at h;obtain⟨vs0,t0,h1⟩:=hr.tick i sz0 n0 b0 h (by simpa[gF,e] using hji)
   exact⟨vs0,t0,(hb b0 (lt_of_block h1)).trans h1⟩
 ·have e:k≠i:=by rintro rfl; rw[ec (aN hM)] at h; cases h
  rw[cN e] at h;exact qC hr ext h (by simp[gF,eY e]) fun b0 h1=>hb b0 (hr.lt i b0 (aN h) h1)
 ·by_cases e:i=k
  ·have h1:b'=b0:=by simpa[gF,e] using h
   have h2:=hr.Aq b0 off hx;omega
  ·exact hr.vd i b0 (by simpa using hi) (by simpa[gF,e] using h) off hx
end
section
variable {j:J} {M:aC} {w w':World}
def Fc(j:J)(M:aC)(w:World)(b sz:Nat)(xs:List ag):Prop:=∃vs t,w.heap[b]?=some (.cells vs t (0,0))/\xs.length*sz<=vs.size/\(∀x,x∈xs->x.cells.length=sz) /\
  ∀(q:Nat)(x:ag)(k:Nat)(c:ag),xs[q]?=some x->x.cells[k]?=some c->∃v,vs[q*sz+k]?=some v/\fR w (om j M w) c v
def Ext.Fi{id b sz ver ver':Nat}{xs xs':List ag}(hM:M[id]?=some (.arr sz ver xs))(hj:j id=some b)(hr:Rel j M w)(q:Quiet w w')
  (hb:∀b',b'≠b->b'<w.heap.size->w'.heap[b']?=w.heap[b']?) (hw:∀vs t,w.heap[b]?=some (.cells vs t (0,0))->∃vs',w'.heap[b]?=some (.cells vs' t (0,0))/\vs'.size=vs.size)
  (hv:ver<=ver') (hl:ver'=ver->xs'.length=xs.length):Ext j M w j (M.set id (.arr sz ver' xs')) w' where
 len:=dw
 size:=q.size
 os:=q.os
 tape:=q.tape
 output:=q.output
 X:=rfl
 fix:=fun i b0 h hf=>⟨rfl,by
  have e:id≠i:=by rintro rfl; rw[hM] at h; cases h; cases hf
  exact⟨b0,by rw[cN e]; exact h,rfl⟩⟩
 tick:=fun i sz0 n0 h=>by
  have e:id≠i:=by rintro rfl; rw[hM] at h; cases h
  refine⟨n0,au _,by rw[cN e]; exact h,fun _=>⟨rfl,fun b' vs0 t0 hb' hv=>⟨vs0,?_,rfl⟩⟩⟩
  refine(hb b' ?_ (lt_of_block hv)).trans hv;rintro rfl;exact e (hr.inj _ _ _ (aN hM) (aN h) hj hb')
 arr:=fun i sz0 v0 xs0 h=>by
  by_cases e:id=i
  ·subst e;rw[hM] at h;injection h with h; injection h with e1 e2 e3
   subst e1; subst e2; subst e3;refine .inr ⟨ver',xs',ec (aN hM),hv,fun he=>⟨rfl,hl he,fun b' vs t hb' hv=>?_⟩⟩
   rw[hj] at hb'; cases hb';exact hw vs t hv
  ·refine .inr ⟨v0,xs0,by rw[cN e]; exact h,au _,fun _=>⟨rfl,rfl,fun b' vs t hb' hv=>⟨vs,?_,rfl⟩⟩⟩
   refine(hb b' ?_ (lt_of_block hv)).trans hv;rintro rfl;exact e (hr.inj _ _ _ (aN hM) (aN h) hj hb')
 tags:=fun b0 vs0 t0 fr0 h=>by
  by_cases e:b0=b
  ·subst e;obtain⟨b',vs,t,g1,g2,_⟩:=hr.yK hM hj;rw[hj] at g1; cases g1;rw[g2] at h; injection h with h; injection h with h1 h2 h3
   subst h1; subst h2;obtain⟨vs',k1,k2⟩:=hw vs t g2;exact⟨_,_,k1,k2⟩
  ·exact⟨vs0,fr0,(hb b0 e (lt_of_block h)).trans h,rfl⟩
 iA:=fun b0 off h=>by
  have hne:b0≠b:=by
   rintro rfl;obtain⟨sz,n,h1,_⟩:=h.2 id (aN hM) hj;rw[hM] at h1; cases h1
  refine⟨⟨bz h.1 q.size,fun i hi hji=>?_,h.3⟩,World.cell?_of_block (w:=w) (hb b0 hne h.1)⟩
  have e:id≠i:=by rintro rfl; rw[hj] at hji; injection hji with hji; exact hne hji.symm
  rw[cN e];exact h.2 i (by simpa using hi) hji
 uh:=fun b0 cJ h=>by
  have hne:b0≠b:=by rintro rfl; exact h id (aN hM) hj
  exact⟨hb b0 hne cJ,fun i hi=>h i (by simpa using hi)⟩
def Rel.Fi{id b sz ver ver':Nat}{xs xs':List ag}(hM:M[id]?=some (.arr sz ver xs))(hj:j id=some b)(hr:Rel j M w)(q:Quiet w w')
  (hb:∀b',b'≠b->b'<w.heap.size->w'.heap[b']?=w.heap[b']?) (hw:∀vs t,w.heap[b]?=some (.cells vs t (0,0))->∃vs',w'.heap[b]?=some (.cells vs' t (0,0))/\vs'.size=vs.size)
  (hv:ver<=ver') (hl:ver'=ver->xs'.length=xs.length) (hh:∀j' M',Ext j M w j' M' w'->Fc j' M' w' b sz xs'):Rel j (M.set id (.arr sz ver' xs')) w':=by
 have ext:Ext j M w j (M.set id (.arr sz ver' xs')) w':=Ext.Fi hM hj hr q hb hw hv hl;refine⟨fun i i' b0 hi hi'=>hr.inj i i' b0 (by simpa using hi) (by simpa using hi'),fun i b0 hi h=>bz (hr.lt i b0 (by simpa using hi) h) q.size,fun i bx0 h hf=>?_,fun i sz0 n0 b0 h hji=>?_,fun i sz0 v0 xs0 h=>?_,fun i b0 hi h=>hr.vd i b0 (by simpa using hi) h,fun b0 off h=>bz (hr.Aq b0 off h) q.size⟩
 ·have e:id≠i:=by rintro rfl; rw[ec (aN hM)] at h; cases h; cases hf
  rw[cN e] at h;obtain⟨b0,h1,h2⟩:=hr.fix i bx0 h hf;refine⟨b0,h1,h2.mono ext (hb b0 ?_ (hr.lt i b0 (aN h) h1))⟩;rintro rfl;exact e (hr.inj _ _ _ (aN hM) (aN h) hj h1)
 ·have e:id≠i:=by rintro rfl; rw[ec (aN hM)] at h; cases h
  rw[cN e] at h;obtain⟨vs,t0,h1⟩:=hr.tick i sz0 n0 b0 h hji;refine⟨vs,t0,(hb b0 ?_ (lt_of_block h1)).trans h1⟩;rintro rfl;exact e (hr.inj _ _ _ (aN hM) (aN h) hj hji)
 ·by_cases e:id=i
  ·subst e;rw[ec (aN hM)] at h;injection h with h; injection h with e1 e2 e3
   subst e1; subst e2; subst e3;obtain⟨vs,t,g⟩:=hh _ _ ext;exact .inr ⟨b,vs,t,hj,g⟩
  ·rw[cN e] at h;refine qC hr ext h rfl fun b0 h1=>hb b0 ?_ (hr.lt i b0 (aN h) h1)
   rintro rfl;exact e (hr.inj _ _ _ (aN hM) (aN h) hj h1)
def Ext.freeze{id sz ver:Nat}{xs:List ag}(hM:M[id]?=some (.arr sz ver xs)):Ext j M w j (M.set id (.tick sz xs.length)) w where
 len:=dw
 size:=au _
 os:=rfl
 tape:=rfl
 output:=rfl
 X:=rfl
 fix:=fun i b0 h hf=>⟨rfl,by
  have e:id≠i:=by rintro rfl; rw[hM] at h; cases h; cases hf
  exact⟨b0,by rw[cN e]; exact h,rfl⟩⟩
 tick:=fun i sz0 n0 h=>by
  have e:id≠i:=by rintro rfl; rw[hM] at h; cases h
  exact⟨n0,au _,by rw[cN e]; exact h,fun _=>⟨rfl,fun b' vs0 t0 hb' hv=>⟨vs0,hv,rfl⟩⟩⟩
 arr:=fun i sz0 v0 xs0 h=>by
  by_cases e:id=i
  ·subst e;rw[hM] at h;injection h with h; injection h with e1 e2 e3
   subst e1; subst e2; subst e3;exact .inl ⟨_,ec (aN hM)⟩
  ·exact .inr ⟨v0,xs0,by rw[cN e]; exact h,au _,fun _=>⟨rfl,rfl,fun b' vs t hb' hv=>⟨vs,hv,rfl⟩⟩⟩
 tags:=fun b vs t fr h=>⟨vs,fr,h,rfl⟩
 iA:=fun b0 off h=>by
  refine⟨⟨h.1,fun i hi hji=>?_,h.3⟩,rfl⟩
  have e:id≠i:=by
   rintro rfl;obtain⟨sz,n,h1,_⟩:=h.2 id (aN hM) hji;rw[hM] at h1; cases h1
  rw[cN e];exact h.2 i (by simpa using hi) hji
 uh:=fun b0 cJ h=>⟨rfl,fun i hi=>h i (by simpa using hi)⟩
def Rel.freeze{id sz ver:Nat}{xs:List ag}(hM:M[id]?=some (.arr sz ver xs))(hr:Rel j M w):Rel j (M.set id (.tick sz xs.length)) w:=by
 have ext:Ext j M w j (M.set id (.tick sz xs.length)) w:=Ext.freeze hM;refine⟨fun i i' b0 hi hi'=>hr.inj i i' b0 (by simpa using hi) (by simpa using hi'),fun i b0 hi h=>hr.lt i b0 (by simpa using hi) h,fun i bx0 h hf=>?_,fun i sz0 n0 b0 h hji=>?_,fun i sz0 v0 xs0 h=>?_,fun i b0 hi h=>hr.vd i b0 (by simpa using hi) h,hr.Aq⟩
 ·have e:id≠i:=by rintro rfl; rw[ec (aN hM)] at h; cases h; cases hf
  rw[cN e] at h;obtain⟨b0,h1,h2⟩:=hr.fix i bx0 h hf;exact⟨b0,h1,h2.mono ext rfl⟩
 ·by_cases e:id=i
  ·subst e;obtain⟨b,vs,t,g1,g2,_⟩:=hr.yK hM hji;rw[hji] at g1; cases g1;exact⟨vs,t,g2⟩
  ·rw[cN e] at h;exact hr.tick i sz0 n0 b0 h hji
 ·have e:id≠i:=by rintro rfl; rw[ec (aN hM)] at h; cases h
  rw[cN e] at h;exact qC hr ext h rfl fun b0 h1=>rfl
end
def xN{w:World}{iA saf':Nat->Nat->Prop}{b lo hi sz cap:Nat}{vs:Array Value}{t:TypeId}{xs:List ag}(hw:w.heap[b]?=some (.cells vs t (0,0)))(hwid:∀x,x∈xs->x.cells.length=sz)
  (hc:∀(q:Nat)(x:ag)(k:Nat)(c:ag),xs[q]?=some x->x.cells[k]?=some c->∃v,vs[q*sz+k]?=some v/\fR w iA c v) (hm:∀b off,iA b off->saf' b off) (hs:∀off,off<xs.length*sz->saf' b off)
  (h1:lo<=hi) (h2:hi<=xs.length) (h3:hi-lo<=cap):fR w saf' (.slice .sh ((xs.take hi).drop lo)) (.slice (some ⟨b,lo*sz,none⟩) (hi-lo) cap):=by
 have hget:∀(i:Nat)(x:ag),((xs.take hi).drop lo)[i]?=some x->xs[lo+i]?=some x/\lo+i<hi:=by
  intro i x h;rw[cC] at h;have cJ:lo+i<hi:=by have:=aN h; simp at this; omega
  rw[bG cJ] at h;exact⟨h,cJ⟩
 have idx:∀i k,lo*sz+(i*sz+k)=(lo+i)*sz+k:=fun i k=>by rw[bP]; omega
 refine .slice _ _ _ _ b (lo*sz) sz (fun p=>(vs[lo*sz+p]?).getD undef) gh aH (fun _=>rfl) (fun x hx=>hwid x (dN (dy hx))) (fun i x k c hx hk=>?_) fun i x k c hx hk=>?_
 ·obtain⟨g1,g2⟩:=hget i x hx;obtain⟨v,g3,g4⟩:=hc _ x k c g1 hk;have hk':k<sz:=by rw[<-hwid x (aI g1)]; exact aN hk
  rw[idx];refine⟨by simp[World.cell?,hw,g3],hs _ ?_⟩
  calc (lo+i)*sz+k<(lo+i)*sz+sz:=aH
   _=(lo+i+1)*sz:=by rw[bP (lo+i) 1]; omega
   _<=xs.length*sz:=bd _ aH
 ·obtain⟨g1,g2⟩:=hget i x hx;obtain⟨v,g3,g4⟩:=hc _ x k c g1 hk;simp only[idx,g3,bj];exact g4.mono fun b off h=>⟨hm b off h,rfl⟩
section
variable [kx]
def iV(j:J)(M:aC)(w:World)(x:ag×aC)(v:Value)(w':World):Prop:=∃j',Rel j' x.2 w'/\Ext j M w j' x.2 w'/\gu j' x.2 w' x.1 v
def HM(j:J)(M:aC)(w:World)(x:ag×aC)(u:Value)(w':World):Prop:=x.1 = .nD u/\∃j',Rel j' x.2 w'/\Ext j M w j' x.2 w'
def vP(j:J)(M:aC)(w:World)(x:ag×aC)(e:Ending)(w':World):Prop :=
 (∃v,e = .returned v/\iV j M w x v w')\/∃u,e = .panicked [{ v:=u,recovered:=false }]/\HM j M w x u w'
def vP.ret{j:J}{M:aC}{w:World}{x:ag×aC}{e:Ending}{w':World}(h:vP j M w x e w')(hx:x.1.jm=false):∃v,e = .returned v/\iV j M w x v w':=by
 rcases h with h|⟨u,_,h,_⟩
 ·omega
 ·rw[h] at hx; cases hx
def dp(P:Program)(f:Nat)(args:List ag)(M:aC)(x:ag×aC):Prop :=
 ∀(j:J)(w:World)(vs:Array Value),Rel j M w->sO j M w->args.length=vs.size->(∀(i:Nat)(c:ag)(v:Value),args[i]?=some c->vs[i]?=some v->gu j M w c v) ->
  Calls P f vs w fun e w'=>vP j M w x e w'
def nJ(P:Program)(f:Nat)(args:List ag)(M:aC)(x:ag×aC):Prop :=
 ∀(j:J)(w:World)(vs:Array Value),Rel j M w->sO j M w->args.length=vs.size->(∀(i:Nat)(c:ag)(v:Value),args[i]?=some c->vs[i]?=some v->gu j M w c v) ->
  Calls P f vs w fun e w'=>∃v j',e = .returned v/\Rel j' x.2 w'/\Ext j M w j' x.2 w'/\gu j' x.2 w' x.1 v
def nJ.call{P:Program}{f:Nat}{args:List ag}{M:aC}{x:ag×aC}(h:nJ P f args M x):dp P f args M x:=fun j w vs h1 h2 h3 h4 =>
 (h j w _ h1 h2 h3 h4).mono fun e w' ⟨v,j',he,g1,g2,g3⟩ => .inl ⟨v,he,j',g1,g2,g3⟩
def nI(P:Program)(C:eR):Prop:=∀f a M x,C f a M=some x->lB P f=true/\dp P f a M x
section
variable {j:J} {M:aC} {w:World} {P:Program}
def iV.still{v:Value}{y:ag}(hr:Rel j M w)(h:gu j M w y v):iV j M w (y,M) v w:=⟨j,hr,Ext.refl j M w,h⟩
theorem HR{v:Value}{x:ag}(h:Kq v=some x):gu j M w x v:=by
 unfold Kq at h
 split at h<;>first
  |(cases h; first|exact .plain (.bool _)|exact .plain (.int _ _)|exact .plain (.str _)|exact .plain (.raw _ rfl)|exact .c0 _)
  |grind
theorem HP{iA:Nat->Nat->Prop}:∀ {vs:List Value} {l:List ag},QQ vs=some l->l.length=vs.length/\∀(i:Nat)(c:ag)(v:Value),l[i]?=some c->vs[i]?=some v->fR w iA c v
 | [],l,h=>by
  grind [QQ]
 |v::r,l,h=>by
  simp[QQ] at h;rw[dz] at h;obtain⟨x,hx,h⟩:=h;rw[dz] at h;obtain⟨l',hl,h⟩:=h;cases h;obtain⟨h1,h2⟩:=HP hl;refine⟨j6,fun i c u hc hu=>?_⟩
  cases i with
  |zero =>
   simp at hc hu; subst hc; subst hu;unfold abw at hx
   split at hx<;>first
    |(cases hx; first|exact .bool _|exact .int _ _|exact .str _|exact .raw _ rfl)
    |grind
  |succ i=>exact h2 i c u j6 j6
theorem qB:∀ {vs:List Value} {l:List ag},tf vs=some l->l.length=vs.length/\∀(i:Nat)(c:ag)(v:Value),l[i]?=some c->vs[i]?=some v->gu j M w c v
 | [],l,h=>by
  grind [tf]
 |v::r,l,h=>by
  simp[tf] at h;rw[dz] at h;obtain⟨x,hx,h⟩:=h;rw[dz] at h;obtain⟨l',hl,h⟩:=h;injection h with h; obtain⟨h1,h2⟩:=qB hl
  grind [HR]
theorem HQ{v:Value}{x:ag}(h:QR v=some x):gu j M w x v:=by
 unfold QR at h;split at h
 ·rw[dz] at h;obtain⟨l,hl,h⟩:=h;cases h;obtain⟨h1,h2⟩:=qB hl;exact .agg aH fun i c v hc hv=>h2 i c v hc j6
 grind [HR]
theorem cS{bq:Env}{a:Act}(he:cn j M w bq a){x:Operand}{y:fZ}(h:eW x=some y):gu j M w (y.ev bq) (a.eval x):=by
 unfold eW at h;split at h
 ·cases h; exact he.at' _
 ·rw[dz] at h;obtain⟨z,hz,h⟩:=h;cases h;exact HQ hz
 ·cases h;exact .func (by rfl) fun i c v hc=>dw
 ·rename_i g;rw[dz] at h;obtain⟨vs,hg,h⟩:=h;rw[dz] at h;obtain⟨l,hl,h⟩:=h;cases h;obtain⟨h1,h2⟩:=HP (w:=w) (iA:=om j M w) hl;refine .jB (vs:=fun k=>(vs[k]?).getD undef) fun k c hk=>?_
  have hk':=aN hk;have hv:vs[k]?=some _:=ai aH;obtain⟨h3,h4⟩:=he.gl.g g _ k _ hg hv
  grind
theorem ui{bq:Env}{a:Act}(he:cn j M w bq a):∀ {xs:List Operand} {ys:List fZ},vn xs=some ys ->
  ys.length=xs.length/\∀(i:Nat)(y:fZ)(x:Operand),ys[i]?=some y->xs[i]?=some x->gu j M w (y.ev bq) (a.eval x)
 | [],ys,h=>by
  grind [vn]
 |x::r,ys,h=>by
  simp[vn] at h;rw[dz] at h;obtain⟨y,hy,h⟩:=h;rw[dz] at h;obtain⟨l,hl,h⟩:=h;injection h with h; obtain⟨h1,h2⟩:=ui he hl
  grind [cS]
def gu.jA{b:Bool}{v:Value}(h:gu j M w (.bool b) v):v = .bool b:=by cases h with|plain h=>cases h; rfl
def gu.fX{k:IntKind}{n:Int}{v:Value}(h:gu j M w (.int k n) v):v = .int k n:=by cases h with|plain h=>cases h; rfl
def gu.kv{s:List UInt8}{v:Value}(h:gu j M w (.str s) v):v = .string (bs s):=by cases h with|plain h=>cases h; rfl
theorem gu.mW{cs:List ag}{v:Value}(h:gu j M w (.agg cs) v):∃vs,v = .agg vs/\cs.length=vs.size/\∀(i:Nat)(c:ag)(u:Value),cs[i]?=some c->vs[i]?=some u->gu j M w c u:=by
 cases h with
 |plain h=>cases h
 |agg hl h=>grind
theorem gu.tJ{cs:List ag}{v:Value}(h:gu j M w (.tuple cs) v):∃vs,v = .tuple vs/\cs.length=vs.size/\∀(i:Nat)(c:ag)(u:Value),cs[i]?=some c->vs[i]?=some u->gu j M w c u:=by
 cases h with
 |plain h=>cases h
 |tuple hl h=>grind
theorem gu.ru{f:Nat}{cs:List ag}{v:Value}(h:gu j M w (.func f cs) v):∃vs,v = .func (.func f) #[] vs/\cs.length=vs.size/\∀(i:Nat)(c:ag)(u:Value),cs[i]?=some c->vs[i]?=some u->gu j M w c u:=by
 cases h with
 |plain h=>cases h
 |func hl h=>grind
theorem gu.qe{id off:Nat}{v:Value}(h:gu j M w (.ptr id off) v):∃b,id<M.length/\(∃cs,M[id]?=some (.cells cs))/\j id=some b/\v = .pointer (some ⟨b,off,none⟩):=by
 cases h with
 |plain h=>cases h
 |ptr h1 h2 h3=>grind
theorem gu.vA{id:Nat}{v:Value}(h:gu j M w (.iz id) v):∃b,(∃ks vs,M[id]?=some (.map ks vs))/\j id=some b/\v = .map (some b):=by
 cases h with
 |plain h=>cases h
 |iz h1 h2=>grind
theorem gu.DM{id:Nat}{v:Value}(h:gu j M w (.j4 id) v):∃b,(∃s p,M[id]?=some (.nR s p))/\j id=some b/\v = .pointer (some ⟨b,0,none⟩):=by
 cases h with
 |plain h=>cases h
 |j4 h1 h2=>grind
theorem gu.Hh{f:Nat}{fs:List ag}{v:Value}(h:gu j M w (.qV f fs) v):∃vs:Array Value,v = .func (.func f) vs #[]/\fs.length=vs.size/\∀(i:Nat)(c:ag)(v:Value),fs[i]?=some c->vs[i]?=some v->Cr w (om j M w) c v:=by
 cases h with
 |plain h=>cases h
 |qV hl h=>grind
theorem gu.I6{t id off:Nat}{v:Value}(h:gu j M w (.kj t id off) v):∃b:Nat,(∃cs,M[id]?=some (.cells cs))/\j id=some b/\v = .iface t (.pointer (some ⟨b,off,none⟩)):=by
 cases h with
 |plain h=>cases h
 |kj h1 h2=>grind
def gu.IE{ks vs:List ag}{v:Value}(h:gu j M w (.kf ks vs) v):∃(b:Nat) (es:Array MapEntry) (clock:Nat),v = .map (some b)/\w.heap[b]?=some (.map es clock)/\ks.length=es.size/\vs.length=es.size /\
  (∀(i:Nat)(k:ag)(e:MapEntry),ks[i]?=some k->es[i]?=some e->fR w (om j M w) k e.key)/\∀(i:Nat)(v:ag)(e:MapEntry),vs[i]?=some v->es[i]?=some e->Cr w (om j M w) v e.val:=by
 cases h with
 |plain h=>cases h
 |kf hb hf hx hw hk hv hks hvs=>exact⟨_,_,_,rfl,hw,hk,hv,hks,hvs⟩
def gu.nb{id ver sz lo hi:Nat}{v:Value}(h:gu j M w (.cB id ver sz lo hi) v):((∃b off c,v = .slice (some ⟨b,off,none⟩) (hi-lo) c/\hi-lo<=c)\/hi-lo=0/\∃A,v = .slice A 0 0)/\id<M.length/\(∀bx,M[id]?=some bx->bx.loose=true) /\
  ∀sz' v' xs,M[id]?=some (.arr sz' v' xs)->ver<=v'/\(v'=ver->sz'=sz/\lo<=hi/\hi<=xs.length/\((xs=[]/\j id=none/\∃A,v = .slice A 0 0)\/∃b cap vs t,j id=some b/\v = .slice (some ⟨b,lo*sz,none⟩) (hi-lo) cap/\hi-lo<=cap/\w.heap[b]?=some (.cells vs t (0,0))/\(lo+cap)*sz<=vs.size)):=by
 cases h with
 |plain h=>cases h
 |cB h0 h1 h2 h3=>exact⟨h0,h1,h2,h3⟩
theorem gu.zq{id ver sz lo hi:Nat}{v:Value}(h:gu j M w (.cB id ver sz lo hi) v):∃A cap,v = .slice A (hi-lo) cap:=by
 rcases h.nb.1 with ⟨b,off,c,e,_⟩|⟨e,A,e'⟩
 ·grind
 grind
def gu.X5{id ver sz lo hi:Nat}{v:Value}(h:gu j M w (.cB id ver sz lo hi) v)(hne:lo<hi):∃b off c,v = .slice (some ⟨b,off,none⟩) (hi-lo) c/\hi-lo<=c :=
 h.nb.1.resolve_right fun e=>aH
def gu.sB{id ver i off:Nat}{v:Value}(h:gu j M w (.jt id ver i off) v):(∃b o,v = .pointer (some ⟨b,o,none⟩))/\id<M.length/\(∀bx,M[id]?=some bx->bx.loose=true) /\
  ∀sz v' xs,M[id]?=some (.arr sz v' xs)->ver<=v'/\(v'=ver->i<xs.length/\∃b,j id=some b/\v = .pointer (some ⟨b,i*sz+off,none⟩)):=by
 cases h with
 |plain h=>cases h
 |jt h0 h1 h2 h3=>exact⟨h0,h1,h2,h3⟩
def gu.um{cs:List ag}{v:Value}(h:gu j M w (.jB cs) v):∃(b off:Nat) (vs:Nat->Value),v = .pointer (some ⟨b,off,none⟩) /\
  ∀(k:Nat)(c:ag),cs[k]?=some c->w.cell? ⟨b,off+k,none⟩=some (vs k)/\om j M w b (off+k)/\fR w (om j M w) c (vs k):=by
 cases h with
 |plain h=>cases h
 | @jB _ b off vs h=>exact⟨b,off,vs,rfl,h⟩
def fR.nil(iA:Nat->Nat->Prop)(A:Option Addr)(cap:Nat):fR w iA (.slice .sh []) (.slice A 0 cap) :=
 .slice _ A 0 _ 0 0 0 (fun _=>undef) rfl (cR _) (fun h=>absurd rfl h) (fun x h=>j6) (fun i x k c h=>j6) (fun i x k c h=>j6)
def gu.er{tk:Tk}{xs:List ag}{v:Value}(h:gu j M w (.slice tk xs) v):fR w (om j M w) (.slice .sh xs) v:=by
 cases h with
 |plain h=>cases h with|slice=>exact .slice _ _ _ _ _ _ _ _ aH aH aH aH aH aH
 |c0 A=>simp[fR.nil]
 |own _ _ h _=>omega
def fR.er{iA:Nat->Nat->Prop}{xs:List ag}{v:Value}(h:fR w iA (.slice .sh xs) v):∃(A:Option Addr) (cap b off sz:Nat) (vs:Nat->Value),v = .slice A xs.length cap/\xs.length<=cap/\(xs≠[]->A=some ⟨b,off,none⟩) /\
  (∀x,x∈xs->x.cells.length=sz)/\(∀(i:Nat)(x:ag)(k:Nat)(c:ag),xs[i]?=some x->x.cells[k]?=some c->w.cell? ⟨b,off+(i*sz+k),none⟩=some (vs (i*sz+k))/\iA b (off+(i*sz+k))) /\
  (∀(i:Nat)(x:ag)(k:Nat)(c:ag),xs[i]?=some x->x.cells[k]?=some c->fR w iA c (vs (i*sz+k))):=by
 cases h with
 |slice _ A len cap b off sz vs hl hc ha hz hs hr=>subst hl; exact⟨A,cap,b,off,sz,vs,rfl,hc,ha,hz,hs,hr⟩
end
def rb(P:Program)(o:Oper)(a:Act)(w:World)(v:Value)(w':World):Prop :=
 (execOp a.eval o).run P w = .ok (.value v) w'\/((execOp a.eval o).run P w = .ok .skip w'/\v=undef)
theorem bf{α β:Type}{x:Option α}{f:α->Option β}{y:β}(h:x.bind f=some y):∃a,x=some a/\f a=some y:=by
 cases x<;>grind
section
variable {P:Program} {C:eR} {o:Oper} {bq:Env} {M:aC} {j:J} {w:World} {a:Act} {x:ag×aC}
def eb{t:TypeId}{d:TypeDesc}(h:P.underlying t=some d):(underlying t).run P w = .ok d w:=by simp[underlying,h]
def pT{t:TypeId}{i:TypeInfo}(h:P.info? t=some i):(typeInfo t).run P w = .ok i w:=by simp[typeInfo,h]
theorem EC{t:TypeId}{n:Nat}(h:qA P t=some n):∃i,P.info? t=some i/\i.size=n:=by
 obtain⟨i,h1,h2⟩:=bf h
 grind
def jo{t:TypeId}{n:Nat}(h:qA P t=some n):(sizeOf t).run P w = .ok n w:=by
 obtain⟨i,h1,h2⟩:=EC h;simp_all [sizeOf,pT]
def lG{t:TypeId}{g:Bool}(h:Cs P t=some g):(isAgg t).run P w = .ok g w:=by
 obtain⟨d,h1,h2⟩:=bf h;injection h2 with h2
 subst h2;simp[isAgg,eb h1];cases d<;>rfl
def lP(b off n:Nat):(⟨b,off,none⟩:Addr).add n=⟨b,off+n,none⟩:=by
 simp[Addr.add]
def zY(hr:Rel j M w)(he:cn j M w bq a){y:Operand}{z:fZ}(hop:o.op = .move y\/o.op = .assign y)(hz:eW y=some z)(h:ef C bq M (.mv z)=some x) :
  ∃v w',rb P o a w v w'/\iV j M w x v w':=by
 cases h;exact⟨a.eval y,w,.inl (by rcases hop with hop|hop<;>simp[execOp,hop]),.still hr (cS he hz)⟩
theorem aaK(hr:Rel j M w)(he:cn j M w bq a){c p q:Operand}{c' p' q':fZ}(hop:o.op = .pick c p q)(hc:eW c=some c')(hp:eW p=some p')(hq:eW q=some q')
  (h:ef C bq M (.pick c' p' q')=some x):∃v w',rb P o a w v w'/\iV j M w x v w':=by
 simp[ef] at h;have h1:=cS he hc;split at h
 ·rename_i t ht;rw[ht] at h1;have h1:=h1.jA;rcases lC h with ⟨rfl,h⟩|⟨rfl,h⟩<;>(cases h)
  ·exact⟨a.eval p,w,.inl (by simp_all [execOp,asBool]),.still hr (cS he hp)⟩
  ·exact⟨a.eval q,w,.inl (by simp_all [execOp,asBool]),.still hr (cS he hq)⟩
 grind
theorem ahe(hr:Rel j M w)(he:cn j M w bq a){y:Operand}{z:fZ}(hop:o.op = .nilCheck y)(hz:eW y=some z)(h:ef C bq M (.chk z)=some x) :
  ∃v w',rb P o a w v w'/\iV j M w x v w':=by
 simp[ef] at h;have h1:=cS he hz;split at h
 ·rename_i id off e;cases h;rw[e] at h1;obtain⟨b,_,_,_,hv⟩:=h1.qe;exact⟨_,w,.inl (by simp_all [execOp]),.still hr (hv▸h1)⟩
 ·rename_i cs e;cases h;rw[e] at h1;obtain⟨b,off,vs,hv,_⟩:=h1.um;exact⟨_,w,.inl (by simp_all [execOp]),.still hr (hv▸h1)⟩
 ·rename_i f caps e;cases h;rw[e] at h1;obtain⟨vs,hv,_⟩:=h1.ru;exact⟨_,w,.inl (by simp_all [execOp]),.still hr (hv▸h1)⟩
 ·rename_i id v0 i off e;cases h;rw[e] at h1;obtain⟨⟨b,q,hv⟩,_⟩:=h1.sB;exact⟨_,w,.inl (by simp_all [execOp]),.still hr (hv▸h1)⟩
 grind
theorem ahg(hr:Rel j M w)(he:cn j M w bq a){y:Operand}{z:fZ}{t:TypeId}(hop:o.op = .unOp .not t y)(hz:eW y=some z)(h:ef C bq M (.not z)=some x) :
  ∃v w',rb P o a w v w'/\iV j M w x v w':=by
 simp[ef] at h;have h1:=cS he hz;split at h
 ·rename_i b e;cases h;rw[e] at h1;exact⟨_,w,.inl (by simp[execOp,hop,h1.jA]; rfl),.still hr (.plain (.bool _))⟩
 grind
theorem ahf(hr:Rel j M w)(he:cn j M w bq a){y:Operand}{z:fZ}{t:TypeId}(hop:o.op = .unOp .neg t y)(hz:eW y=some z)(h:ef C bq M (.neg z)=some x) :
  ∃v w',rb P o a w v w'/\iV j M w x v w':=by
 simp only[ef] at h;have h1:=cS he hz;split at h
 ·rename_i k n e;cases h;rw[e] at h1;exact⟨_,w,.inl (by simp only[execOp,hop,h1.fX]; rfl),.still hr (.plain (.int _ _))⟩
 grind
theorem aaC(hr:Rel j M w)(he:cn j M w bq a){y:Operand}{z:fZ}{s d:TypeId}{k0 k:IntKind}(hop:o.op = .convert s d y)(hs:P.underlying s=some (.int k0))(hd:P.underlying d=some (.int k))
  (hz:eW y=some z) (h:ef C bq M (.conv k z)=some x):∃v w',rb P o a w v w'/\iV j M w x v w':=by
 simp[ef] at h;have h1:=cS he hz;split at h
 ·rename_i k1 n e;cases h;rw[e] at h1;refine⟨.int k _,w,.inl ?_,.still hr (.plain (.int _ _))⟩;simp[execOp,hop,convert,eb hs,eb hd,h1.fX,Conv.intToInt]
 grind
theorem aaM(hr:Rel j M w)(he:cn j M w bq a){y:Operand}{z:fZ}{s d:TypeId}(hop:o.op = .convert s d y)(hs:P.underlying s=some .string)(hd:P.underlying d=some .string)
  (hz:eW y=some z) (h:ef C bq M (.same z)=some x):∃v w',rb P o a w v w'/\iV j M w x v w':=by
 simp[ef] at h;have h1:=cS he hz;split at h
 ·rename_i l e;cases h;rw[e] at h1;refine⟨.string _,w,.inl ?_,.still hr (.plain (.str _))⟩;simp[execOp,hop,convert,eb hs,eb hd,h1.kv]
 grind
theorem anf(hr:Rel j M w)(he:cn j M w bq a){f:Nat}{first caps:Array Operand}{zs:List fZ}(hop:o.op = .makeFunc (.func f) first caps)(hf:first.isEmpty=true)(hz:vn caps.toList=some zs)
  (h:ef C bq M (.fn f zs)=some x):∃v w',rb P o a w v w'/\iV j M w x v w':=by
 cases h;obtain⟨h1,h2⟩:=ui he hz;have hf':first = #[]:=j6
 refine⟨.func _ _ (caps.map a.eval),w,.inl ?_,.still hr (.func j6 fun i c v hc hv=>?_)⟩
 ·simp[execOp,hop,Instr.makeFunc,hf']
 grind
theorem LV(hr:Rel j M w)(he:cn j M w bq a){y:Operand}{z:fZ}{i:Nat}(hop:o.op = .extract y i)(hz:eW y=some z)(h:ef C bq M (.extract z i)=some x) :
  ∃v w',rb P o a w v w'/\iV j M w x v w':=by
 simp[ef] at h;have h1:=cS he hz;split at h
 ·rename_i vs e;obtain⟨c,hc,h⟩:=bp h;cases h;rw[e] at h1;obtain⟨us,hv,hl,hu⟩:=h1.tJ;rw[fe] at hc;have hi:=aN hc;have hui:us[i]?=some _:=bg aH;exact⟨_,w,.inl (by simp[execOp,hop,Instr.extract,hv,hui]),.still hr (hu i c _ hc hui)⟩
 grind
theorem aaF(hr:Rel j M w)(he:cn j M w bq a){c:Call}{y:Operand}{z:fZ}{t:TypeId}(hop:o.op = .call c)(hb:c.callee = .builtin .len)(ha:c.args.toList=[y])
  (ht:c.argTypes[0]?=some t) (hs:P.underlying t=some .string) (hz:eW y=some z) (h:ef C bq M (.Vm z)=some x):∃v w',rb P o a w v w'/\iV j M w x v w':=by
 simp only[ef] at h;have h1:=cS he hz;split at h
 ·rename_i l e;cases h;rw[e] at h1;have ha':c.args = #[y]:=by rw[<-ha]
  refine⟨.int .i64 _,w,.inl ?_,.still hr (.plain (.int _ _))⟩;have hsz:(bs l).size=l.length:=by rfl
  simp[execOp,hop,resolve,hb,invoke,builtin,Builtin.len_,ha',ht,eb hs,h1.kv,goInt,hsz]
 grind
theorem aaG(hr:Rel j M w)(he:cn j M w bq a){c:Call}{y:Operand}{z:fZ}{t e:TypeId}(hop:o.op = .call c)(hb:c.callee = .builtin .len)(ha:c.args.toList=[y])
  (ht:c.argTypes[0]?=some t) (hs:P.underlying t=some (.slice e)) (hz:eW y=some z) (h:ef C bq M (.zP z)=some x):∃v w',rb P o a w v w'/\iV j M w x v w':=by
 simp only[ef] at h;have h1:=cS he hz;split at h
 ·rename_i tk l e;cases h;rw[e] at h1;have ha':c.args = #[y]:=by rw[<-ha]
  obtain⟨A,cap,b,off,sz,vs,hv,_⟩:=h1.er.er;refine⟨.int .i64 l.length,w,.inl ?_,.still hr (.plain (.int _ _))⟩;simp[execOp,hop,resolve,hb,invoke,builtin,Builtin.len_,ha',ht,eb hs,hv,goInt]
 ·rename_i id v0 sz lo hi e;cases h;rw[e] at h1;have ha':c.args = #[y]:=by rw[<-ha]
  obtain⟨A,cap,hv⟩:=h1.zq;refine⟨.int .i64 (hi-lo:Nat),w,.inl ?_,.still hr (.plain (.int _ _))⟩;simp[execOp,hop,resolve,hb,invoke,builtin,Builtin.len_,ha',ht,eb hs,hv,goInt]
 grind
theorem Gb(hr:Rel j M w)(he:cn j M w bq a){c:Call}{y y':Operand}{z z':fZ}{mx:Bool}(hop:o.op = .call c)(hb:c.callee = .builtin (if mx then .max else .min))(ha:c.args.toList=[y,y'])
  (hz:eW y=some z) (hz':eW y'=some z') (h:ef C bq M (.Bb mx z z')=some x):∃v w',rb P o a w v w'/\iV j M w x v w':=by
 simp only[ef] at h;have h1:=cS he hz;have h2:=cS he hz';split at h
 ·rename_i k n k' n' e e';cases h;rw[e] at h1;rw[e'] at h2;have ha':c.args = #[y,y']:=by rw[<-ha]
  refine⟨_,w,.inl ?_,.still hr (.plain (.int _ _))⟩;cases mx
  ·simp[execOp,hop,resolve,hb,invoke,builtin,Builtin.min_,Builtin.min2,ha',h1.fX,h2.fX,List.foldlM]
  ·simp[execOp,hop,resolve,hb,invoke,builtin,Builtin.max_,Builtin.max2,ha',h1.fX,h2.fX]
 grind
theorem PL(hr:Rel j M w)(he:cn j M w bq a){y i:Operand}{z z':fZ}{t:TypeId}(hop:o.op = .index t y i)(ht:P.underlying t=some .string)(hz:eW y=some z)(hz':eW i=some z')
  (h:ef C bq M (.AY z z')=some x):∃v w',rb P o a w v w'/\iV j M w x v w':=by
 simp only[ef] at h;have h1:=cS he hz;have h2:=cS he hz';split at h
 ·rename_i l k n e e';obtain⟨hn,h⟩:=dh h;obtain⟨b,hb,h⟩:=bp h;cases h;rw[e] at h1;rw[e'] at h2;refine⟨.int .u8 b.toNat,w,.inl ?_,.still hr (.plain (.int _ _))⟩
  have hg:(bs l)[n.toNat]?=some b:=by
   have cJ:=aN hb;have:n.toNat<(bs l).size:=by simp_all [bs,ByteArray.size]
   rw[getElem?_pos (bs l) n.toNat this];congr 1
   have h3:l[n.toNat]=b:=by
    have:=ai cJ
    grind
   exact h3
  simp[execOp,hop,Instr.index,asIntOf,eb ht,h1.kv,h2.fX,hn,hg]
 ·cases h
theorem PI(hr:Rel j M w)(he:cn j M w bq a){y:Operand}{z:fZ}{s:TypeId}{fs:Array Field}{f:Field}{i:Nat}(hop:o.op = .field s y i)(hs:P.underlying s=some (.struct fs))(hf:fs[i]?=some f)
  (hg:Cs P f.type=some false) (hz:eW y=some z) (h:ef C bq M (.Dt f.offset z)=some x):∃v w',rb P o a w v w'/\iV j M w x v w':=by
 simp[ef] at h;have h1:=cS he hz;split at h
 ·rename_i cs e;obtain⟨c,hc,h⟩:=bp h;cases h;rw[e] at h1;obtain⟨us,hv,hl,hu⟩:=h1.mW;rw[fe] at hc;have hi:=aN hc;have hui:us[f.offset]?=some _:=bg aH;refine⟨_,w,.inl ?_,.still hr (hu _ c _ hc hui)⟩;simp[execOp,hop,Instr.field,eb hs,hf,asAgg,hv,part,lG hg,hui]
 grind
theorem PJ(hr:Rel j M w)(he:cn j M w bq a){y:Operand}{z:fZ}{s:TypeId}{fs:Array Field}{f:Field}{i n:Nat}(hop:o.op = .field s y i)(hs:P.underlying s=some (.struct fs))(hf:fs[i]?=some f)
  (hg:Cs P f.type=some true) (hn:qA P f.type=some n) (hz:eW y=some z) (h:ef C bq M (.Du f.offset n z)=some x):∃v w',rb P o a w v w'/\iV j M w x v w':=by
 simp only[ef] at h;have h1:=cS he hz;split at h
 ·rename_i cs e;split at h
  ·cases h;rw[e] at h1;obtain⟨us,hv,hl,hu⟩:=h1.mW;refine⟨.agg (us.extract f.offset (f.offset+n)),w,.inl ?_,.still hr (.agg j6 fun p c u hc hu'=>?_)⟩
   ·simp[execOp,hop,Instr.field,eb hs,hf,asAgg,hv,part,lG hg,jo hn]
   grind
  ·cases h
 ·cases h
theorem V9(hr:Rel j M w)(he:cn j M w bq a){y:Operand}{z:fZ}{s:TypeId}{fs:Array Field}{f:Field}{i:Nat}(hop:o.op = .fieldAddr s y i)(hs:P.underlying s=some (.struct fs))(hf:fs[i]?=some f)
  {n:Nat} (hn:qA P f.type=some n) (hpos:0<n) (hz:eW y=some z) (h:ef C bq M (.yu f.offset z)=some x):∃v w',rb P o a w v w'/\iV j M w x v w':=by
 simp only[ef] at h;have h1:=cS he hz
 have hrun:∀b off,a.eval y = .pointer (some ⟨b,off,none⟩)->(execOp a.eval o).run P w = .ok (.value (.pointer (some ⟨b,off+f.offset,none⟩))) w:=by
  intro b off hv;have hne:n≠0:=aH;simp[execOp,hop,Instr.fieldAt,eb hs,hf,Instr.sureAddr,hv,fieldPlace,jo hn,hne,lP]
 split at h
 ·rename_i id off e;cases h;rw[e] at h1;obtain⟨b,h2,h3,h4,hv⟩:=h1.qe;exact⟨_,w,.inl (hrun _ _ hv),.still hr (.ptr h2 h3 h4)⟩
 ·rename_i cs e;cases h;rw[e] at h1;obtain⟨b,off,vs,hv,hc⟩:=h1.um;refine⟨_,w,.inl (hrun _ _ hv),.still hr (.jB (vs:=fun k=>vs (f.offset+k)) fun k c hk=>?_)⟩
  rw[cC] at hk;have:=hc _ c hk;rw[Nat.add_assoc];omega
 ·rename_i id v0 i0 o0 e;cases h;rw[e] at h1;obtain⟨⟨b,q,hv⟩,h2,h3,h4⟩:=h1.sB;refine⟨_,w,.inl (hrun _ _ hv),.still hr (.jt ⟨_,_,rfl⟩ h2 h3 fun sz v' xs hM=>?_)⟩
  grind
 grind
end
theorem Yl(l:List UInt8):∀(n i:Nat)(acc:List UInt8),i+n=l.length->ByteArray.toList.loop (bs l) i acc=acc.reverse++l.drop i:=by
 intro n;induction n with
 |zero =>
  simp_all [bs,ByteArray.size,ByteArray.toList.loop]
 |succ n ih =>
  intro i acc h;have hs:(bs l).size=l.length:=by rfl
  rw[ByteArray.toList.loop,aW aH]
  grind [bs,ByteArray.get!,List.reverse_cons,List.append_assoc,List.singleton_append,List.drop_eq_getElem_cons]
def vl(l:List UInt8):(bs l).toList=l:=by
 rw[ByteArray.toList,Yl l l.length 0 _ dw]; rfl
def Mr(l:List UInt8):(bs l).size=l.length:=by rfl
def J0:∀a b:List UInt8,Op.bytesLess a b=strLt a b
 | [],[]=>rfl
 | [],_::_=>rfl
 |_::_,[]=>rfl
 |a::x,b::y=>by simp[Op.bytesLess,strLt,J0 x y]
def yM(a:List UInt8)(l h:Nat):(bs a).extract l h=bs ((a.take h).drop l):=by
 apply ByteArray.ext;simp[bs,List.drop_take]
section
variable {P:Program} {C:eR} {o:Oper} {bq:Env} {M:aC} {j:J} {w:World} {a:Act} {x:ag×aC}
def O9(op:BinOp)(t:TypeId)(y z:Operand)(k k':IntKind)(m n:Int):(eqGuard op t y z (.int k m) (.int k' n)).run P w = .ok () w:=by
 simp[eqGuard]
def Pa(op:BinOp)(t:TypeId)(y z:Operand)(m n:ByteArray):(eqGuard op t y z (.string m) (.string n)).run P w = .ok () w:=by
 simp[eqGuard]
def DG(op:BinOp)(t:TypeId)(y z:Operand)(m n:Bool):(eqGuard op t y z (.bool m) (.bool n)).run P w = .ok () w:=by
 simp[eqGuard]
theorem Yg{op:BinOp}{b:N1}(hb:Oy op=some b){t:TypeId}{k k':IntKind}{m n:Int}{r:ag}(h:pX b (.int k m) (.int k' n)=some r) :
  ∃v,(binOp op t (.int k m) (.int k' n)).run P w = .ok v w/\fR w (om j M w) r v:=by
 cases op<;>simp only[Oy,reduceCtorEq,gS] at hb<;>subst hb<;>simp only[pX] at h
 case shl =>
  split at h
  ·rename_i hn;cases h;exact⟨_,by simp[binOp,Op.shift,Int.not_lt.2 hn],.int _ _⟩
  ·cases h
 case shr =>
  split at h
  ·rename_i hn;cases h;exact⟨_,by simp[binOp,Op.shift,Int.not_lt.2 hn],.int _ _⟩
  grind
 case quo =>
  split at h
  ·cases h
  ·rename_i hk;split at h
   ·cases h
   ·rename_i hn;cases h;have hk:k=k':=j6;subst hk;exact⟨_,by simp[binOp,Op.intDiv,hn],.int _ _⟩
 case rem =>
  split at h
  ·cases h
  ·rename_i hk;split at h
   ·cases h
   ·rename_i hn;cases h;have hk:k=k':=j6;subst hk;exact⟨_,by simp[binOp,Op.intDiv,hn],.int _ _⟩
 case and =>
  split at h
  ·cases h
  ·rename_i hk;cases h;have hk:k=k':=j6;subst hk;exact⟨_,by simp[binOp,Op.intBits]; rfl,.int _ _⟩
 case or =>
  split at h
  ·grind
  ·rename_i hk;cases h;have hk:k=k':=j6;subst hk;exact⟨_,by simp[binOp,Op.intBits]; rfl,.int _ _⟩
 case andNot =>
  split at h
  ·grind
  ·rename_i hk;cases h;have hk:k=k':=j6;subst hk;exact⟨.int k (G6 k m n),by simp[binOp,Op.intBits,G6],.int _ _⟩
 all_goals
  split at h
  ·cases h
  ·rename_i hk;cases h;have hk:k=k':=by simpa using hk
   subst hk
   first
    |exact⟨_,by simp[binOp,Op.intArith],.int _ _⟩
    |exact⟨_,by simp[binOp,Op.intCmp],.bool _⟩
theorem Yh{op:BinOp}{b:N1}(hb:Oy op=some b){t:TypeId}{m n:List UInt8}{r:ag}(h:pX b (.str m) (.str n)=some r) :
  ∃v,(binOp op t (.string (bs m)) (.string (bs n))).run P w = .ok v w/\fR w (om j M w) r v:=by
 cases op<;>simp only[Oy,reduceCtorEq,gS] at hb<;>subst hb<;>simp only[pX,reduceCtorEq] at h
 case add =>
  split at h
  ·grind
  ·cases h;refine⟨.string (bs m++bs n),?_,by exact .str _⟩
   simp_all [binOp,Op.stringOp,Mr,aP]
 all_goals
  cases h;exact⟨_,by simp only[binOp,Op.stringOp,vl,J0]; rfl,.bool _⟩
def V2(hr:Rel j M w)(he:cn j M w bq a){op:BinOp}{b:N1}{y y':Operand}{z z':fZ}{t t':TypeId}(hop:o.op = .binOp op t y y' t')(hb:Oy op=some b)(hz:eW y=some z)(hz':eW y'=some z')
  (h:ef C bq M (.bin b z z')=some x):∃v w',rb P o a w v w'/\iV j M w x v w':=by
 simp only[ef] at h;have h1:=cS he hz;have h2:=cS he hz';obtain⟨r,hr',h⟩:=bp h;cases h;generalize hu:z.ev bq=u at *;generalize hu':z'.ev bq=u' at *;cases u<;>cases u'<;>try (simp[pX] at hr'; done)
 ·rename_i k m k' n;obtain⟨v,hv,hp⟩:=Yg (P:=P) (w:=w) (j:=j) (M:=M) (t:=t) hb hr';exact⟨v,w,.inl (by simp[execOp,hop,h1.fX,h2.fX,O9,hv]),.still hr (.plain hp)⟩
 ·rename_i m n;obtain⟨v,hv,hp⟩:=Yh (P:=P) (w:=w) (j:=j) (M:=M) (t:=t) hb hr';exact⟨v,w,.inl (by simp[execOp,hop,h1.kv,h2.kv,Pa,hv]),.still hr (.plain hp)⟩
theorem V8(hr:Rel j M w)(he:cn j M w bq a){neg:Bool}{y y':Operand}{z z':fZ}{t t':TypeId}(hop:o.op = .binOp (if neg then .neq else .eql) t y y' t')(ht:P.underlying t=some .bool)
  (hz:eW y=some z) (hz':eW y'=some z') (h:ef C bq M (.eqB neg z z')=some x):∃v w',rb P o a w v w'/\iV j M w x v w':=by
 simp only[ef] at h;have h1:=cS he hz;have h2:=cS he hz';split at h
 ·rename_i m n e e';cases h;rw[e] at h1;rw[e'] at h2
  have heq:(Op.equal t (.bool m) (.bool n)).run P w = .ok (m==n) w:=by
   unfold Op.equal;rw[show Op.maxDepth=9999+1 from rfl,Op.equalIn]
   simp[eb ht]
  cases neg
  ·exact⟨.bool (m==n),w,.inl (by simp[execOp,hop,h1.jA,h2.jA,DG,binOp,heq]),.still hr (.plain (.bool _))⟩
  ·exact⟨.bool (!(m==n)),w,.inl (by simp[execOp,hop,h1.jA,h2.jA,DG,binOp,heq]),.still hr (.plain (.bool _))⟩
 grind
theorem qQ{bq:Env}{a:Act}(he:cn j M w bq a){y:Operand}{z:fZ}(hz:eW y=some z){n:Nat}{i:Int}(h:gy bq n (some z)=some i){m:Nat}(h0:0<=i)(h1:i<=m)(code:BoundsCode) :
  (Instr.sliceBound (a.eval y) m code).run P w = .ok i.toNat w:=by
 unfold gy at h;have h2:=cS he hz;simp at h;split at h
 ·rename_i k i' e;cases h;rw[e] at h2;simp[Instr.sliceBound,h2.fX,asIntOf,h0,h1]
 grind
theorem qD{y:Option Operand}{z:Option fZ}(h:yN y=some z):(y=none/\z=none)\/∃y' z',y=some y'/\z=some z'/\eW y'=some z':=by
 cases y with
 |none=>grind [yN]
 |some y =>
  obtain⟨z',h1,h2⟩:=bf h
  grind
def vS{bq:Env}{a:Act}(he:cn j M w bq a){lo hi:Option Operand}{lo' hi':Option fZ}(hlo:yN lo=some lo')(hhi:yN hi=some hi'){len cap:Nat}{l h:Int}
  (h1:gy bq len hi'=some h) (h2:gy bq 0 lo'=some l) (hh0:0<=h) (hh:h<=len) (hl0:0<=l) (hl:l<=h) (hc:len<=cap) (isS:Bool) :
  (Instr.sliceBounds isS len cap (lo.map a.eval) (hi.map a.eval) none).run P w = .ok (l.toNat,h.toNat,cap) w:=by
 unfold Instr.sliceBounds;rcases qD hhi with ⟨rfl,rfl⟩|⟨y,z,rfl,rfl,hz⟩<;>rcases qD hlo with ⟨rfl,rfl⟩|⟨y',z',rfl,rfl,hz'⟩
 ·simp[gy] at h1 h2; subst h1; subst h2; rfl
 ·simp[gy] at h1; subst h1;have:=qQ (P:=P) he hz' h2 hl0 aH .sliceB;simp_all
 ·simp[gy] at h2; subst h2;have:=qQ (P:=P) he hz h1 hh0 (m:=cap) aH (if isS then .sliceAcap else .sliceAlen)
  simp_all
 ·have t1:=qQ (P:=P) he hz h1 hh0 (m:=cap) aH (if isS then .sliceAcap else .sliceAlen)
  have t2:=qQ (P:=P) he hz' h2 hl0 (m:=h.toNat) aH .sliceB;simp_all
theorem PM(hr:Rel j M w)(he:cn j M w bq a){y:Operand}{lo hi:Option Operand}{z:fZ}{lo' hi':Option fZ}{t:TypeId}(hop:o.op = .slice t y lo hi none)(ht:P.underlying t=some .string)
  (hz:eW y=some z) (hlo:yN lo=some lo') (hhi:yN hi=some hi') (h:ef C bq M (.Bq z lo' hi')=some x):∃v w',rb P o a w v w'/\iV j M w x v w':=by
 simp[ef] at h;have h1:=cS he hz;split at h
 ·rename_i s e;obtain⟨hh,h2,h⟩:=bp h;obtain⟨l,h3,h⟩:=bp h;obtain⟨⟨c1,c2,c3,c4⟩,h⟩:=dh h;cases h;rw[e] at h1;have hb:=vS (P:=P) he hlo hhi h2 h3 c1 c2 c3 c4 (au _) false;refine⟨.string _,w,.inl ?_,.still hr (.plain (.str _))⟩;simp[execOp,hop,Instr.sliceAt,eb ht,Instr.slice,h1.kv,Mr,hb,yM]
 grind
theorem fR.part{iA:Nat->Nat->Prop}{xs:List ag}{A:Option Addr}{cap m l h n:Nat}(hx:fR w iA (.slice .sh xs) (.slice A xs.length cap))(hw:wid xs n)(hl:l<=h)(hh:h<=xs.length)(hm:h<=m) :
  fR w iA (.slice .sh ((xs.take h).drop l)) (.slice (if m=l then A else A.map (·.add (l*n))) (h-l) (m-l)):=by
 obtain⟨A',cap',b,off,sz,vs,hv,hc,ha,hz,hs,hrp⟩:=hx.er;injection hv with e1 e2 e3
 subst e1; subst e3;have dR:((xs.take h).drop l).length=h-l:=by simp_all
 refine .slice _ _ _ _ b (off+l*sz) sz (fun p=>vs (l*sz+p)) dR.symm aH (fun hne=>?_) (fun x hx=>hz x (dN (dy hx))) (fun i x k c hi hk=>?_) (fun i x k c hi hk=>?_)
 ·have:0<h-l:=by
   rw[<-dR]; exact gQ.2 hne
  rw[aP aH];have hne':xs≠[]:=j6;rw[ha hne']
  have:n=sz:=by
   obtain⟨x,r,rfl⟩:=fm hne';rw[<-hw x dw,hz x dw]
  simp[lP,this]
 ·grind
 grind
theorem aaD(hr:Rel j M w)(he:cn j M w bq a){y:Operand}{lo hi mx:Option Operand}{z hi':fZ}{t e:TypeId}{n:Nat}(hop:o.op = .slice t y lo hi mx)(ht:P.underlying t=some (.slice e))
  (hn:qA P e=some n) (hz:eW y=some z) (hlo:yN lo=some none) (hhi:yN hi=some (some hi')) (hmx:yN mx=some none)
  (h:ef C bq M (.ON n z hi')=some x):∃v w',rb P o a w v w'/\iV j M w x v w':=by
 simp only[ef] at h;have h1:=cS he hz;split at h
 ·rename_i id v0 sz' al ah k hh ez eh;obtain⟨⟨hsz,ha,c1,c2⟩,h⟩:=dh h;cases h;subst hsz; subst ha;rw[ez] at h1;obtain⟨hs0,g1,g2,g3⟩:=h1.nb
  obtain⟨A,cap,hv,hc,hA⟩:∃A cap,a.eval y = .slice A (ah-0) cap/\ah-0<=cap/\(0<ah-0->∃b off,A=some ⟨b,off,none⟩):=by
   grind
  obtain⟨b,off,rfl⟩:=hA aH;rcases qD hmx with ⟨rfl,_⟩|⟨_,_,_,hx,_⟩
  case inr=>cases hx
  have h2:gy bq (ah-0) (some hi')=some hh:=by simp[gy,eh]
  have hb:=vS (P:=P) he hlo hhi (cap:=cap) h2 (l:=0) (by simp[gy]) c1 aH (dP _) c1 hc true
  rw[bT] at hb
  have hrun:(execOp a.eval o).run P w = .ok (.value (.slice (some ⟨b,off,none⟩) hh.toNat cap)) w:=by
   simp[execOp,hop,Instr.sliceAt,eb ht,Instr.slice,hv,hb,jo hn,lP,show cap≠0 by omega]
  refine⟨_,w,.inl hrun,.still hr ?_⟩;refine .cB (.inl ⟨b,off,cap,dw,aH⟩) g1 g2 fun sz v' xs hM=>?_
  obtain⟨k1,k2⟩:=g3 sz v' xs hM;refine⟨k1,fun hev=>?_⟩
  obtain⟨l0,l1,l2,⟨rfl,_⟩|⟨b',cap',vs,t',l3,l4,l5,l6,l7⟩⟩:=k2 hev
  ·simp at l2; omega
  rw[hv] at l4;injection l4 with l4 l4' l4''
  injection l4 with l4; injection l4 with e1 e2 e3
  subst e1; subst e2; subst l4'';exact⟨l0,aH,aH,.inr ⟨b,cap,vs,t',l3,dw,aH,l6,l7⟩⟩
 ·cases h
theorem Gc(hr:Rel j M w)(he:cn j M w bq a){y:Operand}{lo hi mx:Option Operand}{z:fZ}{lo' hi' mx':Option fZ}{t e:TypeId}{n:Nat}(hop:o.op = .slice t y lo hi mx)(ht:P.underlying t=some (.slice e))
  (hn:qA P e=some n) (hz:eW y=some z) (hlo:yN lo=some lo') (hhi:yN hi=some hi') (hmx:yN mx=some mx') (hmh:mx'.isNone=true\/hi'.isSome=true)
  (h:ef C bq M (.uo n z lo' hi' mx')=some x):∃v w',rb P o a w v w'/\iV j M w x v w':=by
 simp only[ef] at h;have h1:=cS he hz;split at h
 ·rename_i tk xs ez;obtain⟨hw,h⟩:=dh h;obtain⟨hh,h2,h⟩:=bp h;obtain⟨l,h3,h⟩:=bp h;rw[ez] at h1;have hp:=h1.er;obtain⟨A,cap,b,off,sz,vs,hv,hc,_⟩:=hp.er;rw[hv] at hp;rcases qD hmx with ⟨rfl,rfl⟩|⟨my,mz,rfl,rfl,hmz⟩
  ·simp only at h;obtain⟨⟨c1,c2,c3,c4⟩,h⟩:=dh h;cases h;have hb:=vS (P:=P) he hlo hhi (cap:=cap) h2 h3 c1 c2 c3 c4 hc true;refine⟨_,w,.inl ?_,.still hr (.plain (hp.part (m:=cap) (l:=l.toNat) (h:=hh.toNat) hw aH aH aH))⟩;simp[execOp,hop,Instr.sliceAt,eb ht,Instr.slice,hv,hb,jo hn]
  ·simp only at h;split at h
   ·rename_i mk m em;obtain⟨⟨c0,c0',c1,c2,c3,c4⟩,h⟩:=dh h;have hm:=cS he hmz;rw[em] at hm
    have hmr:(Instr.sliceBound (a.eval my) cap .slice3Acap).run P w = .ok m.toNat w:=by
     simp[Instr.sliceBound,hm.fX,asIntOf,c0,show m<=cap by omega]
    have hbs:(Instr.sliceBounds true xs.length cap (lo.map a.eval) (hi.map a.eval) (some (a.eval my))).run P w = .ok (l.toNat,hh.toNat,m.toNat) w:=by
     unfold Instr.sliceBounds;rcases qD hhi with ⟨rfl,rfl⟩|⟨hy,hz',rfl,rfl,hhz⟩
     ·simp at hmh
     ·have t1:=qQ (P:=P) he hhz h2 c1 (m:=m.toNat) aH .slice3B;rcases qD hlo with ⟨rfl,rfl⟩|⟨y',z',rfl,rfl,hz'⟩
      ·simp[gy] at h3; subst h3;simp[hmr,t1]
      ·have t2:=qQ (P:=P) he hz' h3 c3 (m:=hh.toNat) aH .slice3C;simp[hmr,t1,t2]
    have hrun:(execOp a.eval o).run P w = .ok (.value (.slice (if m.toNat=l.toNat then A else A.map (·.add (l.toNat*n))) (hh.toNat-l.toNat) (m.toNat-l.toNat))) w:=by
     simp[execOp,hop,Instr.sliceAt,eb ht,Instr.slice,hv,hbs,jo hn]
    rcases lC h with ⟨hm0,h⟩|⟨hm0,h⟩<;>(cases h)
    ·have hm0:m=0:=by simpa using hm0
     subst hm0;have e1:hh=0:=aH;have e2:l=0:=aH;subst e1; subst e2;exact⟨_,w,.inl hrun,.still hr (.c0 _)⟩
    ·exact⟨_,w,.inl hrun,.still hr (.plain (hp.part (m:=m.toNat) hw aH aH aH))⟩
   ·cases h
 ·rename_i id v0 sz' al ah ez;obtain⟨hsz,h⟩:=dh h;subst hsz;obtain⟨hh,h2,h⟩:=bp h;obtain⟨l,h3,h⟩:=bp h;rw[ez] at h1;obtain⟨hs0,g1,g2,g3⟩:=h1.nb
  obtain⟨A,cap,hv,hc,hA⟩:∃A cap,a.eval y = .slice A (ah-al) cap/\ah-al<=cap/\(0<ah-al->∃b off,A=some ⟨b,off,none⟩):=by
   grind
  have key:∀m:Nat,m<=cap->0<=l->l<hh->hh<=m->hh<=(ah-al:Nat)->gu j M w (.cB id v0 sz' (al+l.toNat) (al+hh.toNat)) (.slice (A.map (·.add (l.toNat*sz'))) (hh.toNat-l.toNat) (m-l.toNat)):=by
   intro m hmc hl0 hlh hhm hha;obtain⟨b,off,rfl⟩:=hA aH;simp only[eL,lP];have e0:al+hh.toNat-(al+l.toNat)=hh.toNat-l.toNat:=aH;have e6:hh.toNat-l.toNat<=m-l.toNat:=by clear g3 g2 h1 hv; omega
   have e7:al+l.toNat+(m-l.toNat)<=al+cap:=aH;have e8:al+l.toNat<=al+hh.toNat:=aH;have e9:al+hh.toNat<=ah:=by clear g3 g2 h1 hv; omega
   refine .cB (.inl ⟨b,off+l.toNat*sz',m-l.toNat,by rw[e0],by rw[e0]; exact e6⟩) g1 g2 fun sz v' xs hM=>?_
   obtain⟨k1,k2⟩:=g3 sz v' xs hM;refine⟨k1,fun hev=>?_⟩
   obtain⟨l0,l1,l2,⟨rfl,_⟩|⟨b',cap',vs,t',l3,l4,l5,l6,l7⟩⟩:=k2 hev
   ·simp at l2; omega
   rw[hv] at l4;injection l4 with l4 l4' l4''
   injection l4 with l4; injection l4 with e1 e2 e3
   subst e1; subst e2; subst l4'';exact⟨l0,e8,aY e9 l2,.inr ⟨b,m-l.toNat,vs,t',l3,by rw[e0,bP],by rw[e0]; exact e6,l6,aY (bd _ e7) l7⟩⟩
  rcases qD hmx with ⟨rfl,rfl⟩|⟨my,mz,rfl,rfl,hmz⟩
  ·simp only at h;obtain⟨⟨c1,c2,c3,c4⟩,h⟩:=dh h;have hb:=vS (P:=P) he hlo hhi (cap:=cap) h2 h3 c1 c2 c3 c4 hc true
   have hrun:(execOp a.eval o).run P w = .ok (.value (.slice (if cap=l.toNat then A else A.map (·.add (l.toNat*sz'))) (hh.toNat-l.toNat) (cap-l.toNat))) w:=by
    simp[execOp,hop,Instr.sliceAt,eb ht,Instr.slice,hv,hb,jo hn]
   rcases lC h with ⟨hm0,h⟩|⟨hm0,h⟩<;>(cases h)
   ·have:l=hh:=by simpa using hm0
    subst this;refine⟨_,w,.inl hrun,.still hr (.plain ?_)⟩;rw[Nat.sub_self];exact fR.nil _ _ _
   ·have:l≠hh:=by simpa using hm0
    rw[aP aH] at hrun;exact⟨_,w,.inl hrun,.still hr (key cap (au _) c3 aH aH c2)⟩
  ·simp only at h;split at h
   ·rename_i mk m em;obtain⟨⟨c0,c0',c1,c2,c3,c4⟩,h⟩:=dh h;have hm:=cS he hmz;rw[em] at hm
    have hmr:(Instr.sliceBound (a.eval my) cap .slice3Acap).run P w = .ok m.toNat w:=by
     simp[Instr.sliceBound,hm.fX,asIntOf,c0,show m<=cap by omega]
    have hbs:(Instr.sliceBounds true (ah-al) cap (lo.map a.eval) (hi.map a.eval) (some (a.eval my))).run P w = .ok (l.toNat,hh.toNat,m.toNat) w:=by
     unfold Instr.sliceBounds;rcases qD hhi with ⟨rfl,rfl⟩|⟨hy,hz',rfl,rfl,hhz⟩
     ·simp at hmh
     ·have t1:=qQ (P:=P) he hhz h2 c1 (m:=m.toNat) aH .slice3B;rcases qD hlo with ⟨rfl,rfl⟩|⟨y',z',rfl,rfl,hz'⟩
      ·simp[gy] at h3; subst h3;simp[hmr,t1]
      ·have t2:=qQ (P:=P) he hz' h3 c3 (m:=hh.toNat) aH .slice3C;simp[hmr,t1,t2]
    have hrun:(execOp a.eval o).run P w = .ok (.value (.slice (if m.toNat=l.toNat then A else A.map (·.add (l.toNat*sz'))) (hh.toNat-l.toNat) (m.toNat-l.toNat))) w:=by
     simp[execOp,hop,Instr.sliceAt,eb ht,Instr.slice,hv,hbs,jo hn]
    rcases lC h with ⟨hm0,h⟩|⟨hm0,h⟩
    ·cases h;have hm0:m=0:=by simpa using hm0
     subst hm0;have e1:hh=0:=aH;have e2:l=0:=aH;subst e1; subst e2;exact⟨_,w,.inl hrun,.still hr (.c0 _)⟩
    ·rcases lC h with ⟨hm1,h⟩|⟨hm1,h⟩<;>(cases h)
     ·have:l=hh:=by simpa using hm1
      subst this;refine⟨_,w,.inl hrun,.still hr (.plain ?_)⟩;rw[Nat.sub_self];exact fR.nil _ _ _
     ·have:l≠hh:=by simpa using hm1
      rw[aP aH] at hrun;exact⟨_,w,.inl hrun,.still hr (key m.toNat aH c3 aH aH aH)⟩
   ·cases h
 ·cases h
theorem Wa(hr:Rel j M w)(he:cn j M w bq a){y i:Operand}{z z':fZ}{t e:TypeId}{n:Nat}(hop:o.op = .indexAddr t y i)(ht:P.underlying t=some (.slice e))(hn:qA P e=some n)
  (hz:eW y=some z) (hz':eW i=some z') (h:ef C bq M (.ua n z z')=some x):∃v w',rb P o a w v w'/\iV j M w x v w':=by
 simp only[ef] at h;have h1:=cS he hz;have h2:=cS he hz';split at h
 ·rename_i tk xs k m ez ez';obtain⟨h0,h⟩:=dh h;obtain⟨el,hel,h⟩:=bp h;split at h
  ·rename_i hwd;cases h;rw[ez] at h1;rw[ez'] at h2;obtain⟨A,cap,b,off,sz,vs,hv,hc,ha,hsz,hs,hrp⟩:=h1.er.er;have cJ:=aN hel;have hne:xs≠[]:=by rintro rfl; simp at cJ
   have hA:=ha hne;have hsz':sz=n:=by rw[<-hwd]; exact(hsz el (aI hel)).symm
   subst hsz';subst hA;refine⟨.pointer (some ⟨b,off+m.toNat*sz,none⟩),w,.inl ?_,.still hr (.jB (vs:=fun q=>vs (m.toNat*sz+q)) fun q c hq=>?_)⟩
   ·have hm:m<xs.length:=aH;simp[execOp,hop,Instr.indexAt,eb ht,hv,h2.fX,asIntOf,h0,hm,jo hn,lP]
   grind
  ·cases h
 ·rename_i id v0 sz' lo hi k m ez ez';obtain⟨⟨h0,hm,hsz⟩,h⟩:=dh h;cases h;subst hsz;rw[ez] at h1;rw[ez'] at h2;have hlt0:lo+m.toNat<hi:=aH;obtain⟨b,off,cap,hv,hcap⟩:=h1.X5 aH;obtain⟨_,g1,g2,g3⟩:=h1.nb;refine⟨.pointer (some ⟨b,off+m.toNat*sz',none⟩),w,.inl ?_,.still hr (.jt ⟨_,_,rfl⟩ g1 g2 fun sz v' xs hM=>?_)⟩
  ·simp[execOp,hop,Instr.indexAt,eb ht,hv,h2.fX,asIntOf,h0,hm,jo hn,lP]
  ·obtain⟨k1,k2⟩:=g3 sz v' xs hM;refine⟨k1,fun he=>?_⟩
   obtain⟨rfl,l1,l2,⟨rfl,_⟩|⟨b',cap',vs,t',l3,l4,l5,l6,l7⟩⟩:=k2 he
   ·exact absurd (bz hlt0 l2) dw
   rw[hv] at l4
   grind [Nat.lt_of_lt_of_le,Nat.add_mul]
 ·cases h
def Hf(b off:Nat)(u:Nat->Value):∀(n i:Nat)(acc:Array Value),(∀k,k<n->w.cell? ⟨b,off+(i+k),none⟩=some (u (i+k))) ->
  (loadCellsFrom ⟨b,off,none⟩ i n acc).run P w = .ok (acc++((List.range n).map fun k=>u (i+k)).toArray) w:=by
 intro n;induction n with
 |zero=>simp[loadCellsFrom]
 |succ n ih =>
  intro i acc h;have h0:=h 0 dw;simp_all [loadCellsFrom,lP,List.range_succ_eq_map,Function.comp_def,Nat.add_comm,Nat.add_left_comm]
theorem oY(b off n:Nat)(u:Nat->Value)(h:∀k,k<n->w.cell? ⟨b,off+k,none⟩=some (u k)) :
  (loadCells ⟨b,off,none⟩ n).run P w = .ok (((List.range n).map u).toArray) w:=by
 have:=Hf (P:=P) (w:=w) b off u n 0 #[] j6
 grind [loadCells]
theorem wY{id b:Nat}{cs:List ag}(hr:Rel j M w)(hM:M[id]?=some (.cells cs))(hj:j id=some b):∃vs t,w.heap[b]?=some (.cells vs t (0,0))/\cs.length=vs.size /\
  (∀(q:Nat)(c:ag)(v:Value),cs[q]?=some c->vs[q]?=some v->gu j M w c v)/\∀q,w.cell? ⟨b,q,none⟩=vs[q]?:=by
 obtain⟨b',vs,t,h1,h2,h3,h4⟩:=hr.box _ _ hM
 grind [World.cell?]
theorem HY(hr:Rel j M w){id ver i off sz:Nat}{xs:List ag}{v:Value}{el:ag}(hM:M[id]?=some (.arr sz ver xs))(h:gu j M w (.jt id ver i off) v)(hel:xs[i]?=some el) :
  ∃b,v = .pointer (some ⟨b,i*sz+off,none⟩)/\∀(k:Nat)(c:ag),el.cells[off+k]?=some c->∃u,w.cell? ⟨b,i*sz+off+k,none⟩=some u/\fR w (om j M w) c u:=by
 obtain⟨_,_,_,g⟩:=h.sB;obtain⟨g1,b,g2,g3⟩:=(g _ _ _ hM).2 rfl;obtain⟨b',vs,t,k1,k2,k3,k4,k5⟩:=hr.yK hM g2
 grind [World.cell?]
theorem We(hr:Rel j M w)(he:cn j M w bq a){y:Operand}{z:fZ}{t:TypeId}(hop:o.op = .load t y)(hg:Cs P t=some false)(hz:eW y=some z)(h:ef C bq M (.rz z)=some x) :
  ∃v w',rb P o a w v w'/\iV j M w x v w':=by
 simp only[ef] at h;have h1:=cS he hz;split at h
 ·rename_i id off e;rw[e] at h1;obtain⟨b,_,_,hj,hv⟩:=h1.qe;rw[fe] at h;split at h
  ·rename_i cs hM;obtain⟨c,hc,h⟩:=bp h;cases h;rw[fe] at hc;obtain⟨vs,t0,hw,hl,hcs,hcell⟩:=wY hr hM hj;have cJ:=aN hc;have hu:vs[off]?=some (vs[off]'(by omega)):=bg aH;refine⟨_,w,.inl ?_,.still hr (hcs _ c _ hc hu)⟩;simp[execOp,hop,Instr.loadAt,Instr.sureAddr,hv,loadVar,lG hg,hcell,hu]
  grind
 ·rename_i cs e;rw[e] at h1;obtain⟨b,off,vs,hv,hc⟩:=h1.um;obtain⟨c,hc0,h⟩:=bp h;cases h;rw[fe] at hc0;obtain⟨h2,_,h3⟩:=hc 0 c hc0;refine⟨_,w,.inl ?_,.still hr (.plain h3)⟩;simp_all [execOp,Instr.loadAt,Instr.sureAddr,loadVar,lG]
 ·rename_i id ver i off e;rw[e] at h1;rw[fe] at h;split at h
  ·rename_i sz v0 xs hM;split at h
   ·rename_i hv0;subst hv0;obtain⟨el,hel,h⟩:=bp h;obtain⟨c,hc,h⟩:=bp h;cases h;rw[fe] at hc;obtain⟨b,hv,hcell⟩:=HY hr hM h1 hel;obtain⟨u,l1,l2⟩:=hcell 0 c aH;refine⟨u,w,.inl ?_,.still hr (.plain l2)⟩;simp_all [execOp,Instr.loadAt,Instr.sureAddr,loadVar,lG]
   grind
  ·cases h
 grind
theorem Wf(hr:Rel j M w)(he:cn j M w bq a){y:Operand}{z:fZ}{t:TypeId}{n:Nat}(hop:o.op = .load t y)(hg:Cs P t=some true)(hn:qA P t=some n)(hz:eW y=some z)
  (h:ef C bq M (.mL n z)=some x):∃v w',rb P o a w v w'/\iV j M w x v w':=by
 simp only[ef] at h;have h1:=cS he hz;split at h
 ·rename_i id off e;rw[e] at h1;obtain⟨b,_,_,hj,hv⟩:=h1.qe;rw[fe] at h;split at h
  ·rename_i cs hM;split at h
   ·rename_i hle;cases h;obtain⟨vs,t0,hw,hl,hcs,hcell⟩:=wY hr hM hj
    have hrun:=oY (P:=P) (w:=w) b off n (fun k=>(vs[off+k]?).getD undef) fun k hk=>by
     rw[hcell,bg aH]; simp
    refine⟨_,w,.inl (by simp[execOp,hop,Instr.loadAt,Instr.sureAddr,hv,loadVar,lG hg,jo hn,hrun]; rfl),.still hr (.agg j6 fun p c u hc hu=>?_)⟩
    grind
   ·cases h
  ·cases h
 ·rename_i cs e;split at h
  ·rename_i hle;cases h;rw[e] at h1;obtain⟨b,off,vs,hv,hc⟩:=h1.um;have hrun:=oY (P:=P) (w:=w) b off n vs fun k hk=>(hc k _ (ai aH)).1
   refine⟨_,w,.inl (by simp[execOp,hop,Instr.loadAt,Instr.sureAddr,hv,loadVar,lG hg,jo hn,hrun]; rfl),.still hr (.agg gh fun p c u hc' hu=>?_)⟩
   have hp:p<n:=by have:=aN hc'; simp_all
   rw[bG hp] at hc';have hu':u=vs p:=by simp_all
   subst hu';exact .plain (hc p c hc').2.2
  ·cases h
 ·rename_i id ver i off e;rw[e] at h1;rw[fe] at h;split at h
  ·rename_i sz v0 xs hM;split at h
   ·rename_i hv0;subst hv0;obtain⟨el,hel,h⟩:=bp h;split at h
    ·rename_i hle;cases h;obtain⟨b,hv,hcell⟩:=HY hr hM h1 hel
     have hrun:=oY (P:=P) (w:=w) b (i*sz+off) n (fun k=>(w.cell? ⟨b,i*sz+off+k,none⟩).getD undef) fun k hk=>by
      obtain⟨u,l1,_⟩:=hcell k _ (ai aH);rw[l1]; rfl
     refine⟨_,w,.inl (by simp[execOp,hop,Instr.loadAt,Instr.sureAddr,hv,loadVar,lG hg,jo hn,hrun]; rfl),.still hr (.agg gh fun p c u hc' hu=>?_)⟩
     have hp:p<n:=by have:=aN hc'; simp at this; omega
     rw[bG hp,cC] at hc';obtain⟨u',l1,l2⟩:=hcell p c hc';have hu':u=(w.cell? ⟨b,i*sz+off+p,none⟩).getD undef:=by simp_all
     rw[l1] at hu';subst hu';exact .plain l2
    ·cases h
   ·cases h
  ·cases h
 ·cases h
end
section
variable {P:Program} {C:eR} {o:Oper} {bq:Env} {M:aC} {j:J} {w:World} {a:Act} {x:ag×aC}
def tz{y:ag}{v:Value}{cs:List ag}(h:gu j M w y v)(hc:y.cells?=some cs):RC j M w cs v.cells:=by
 cases y<;>simp only[ag.cells?,gS,reduceCtorEq] at hc
 case agg cs' =>
  subst hc;obtain⟨vs,rfl,h1,h2⟩:=h.mW;exact⟨h1,h2⟩
 case raw u =>
  cases h with
  |plain h =>
   cases h with
   |raw _ h1 =>
    cases v<;>simp at hc<;>subst hc <;>
     exact⟨rfl,fun i c v hc hv=>by
      cases i with
      |zero=>simp[Value.cells] at hc hv; subst hc; subst hv; exact .plain (.raw _ h1)
      |succ i=>simp at hc⟩
 all_goals
  subst hc
  have hv:v.cells = #[v]:=by
   first
    |(have:=h.jA; subst this; rfl)
    |(have:=h.fX; subst this; rfl)
    |(have:=h.kv; subst this; rfl)
    |(obtain⟨A,cap,b,off,sz,vs,e,_⟩:=h.er.er; subst e; rfl)
    |(obtain⟨b,_,_,_,e⟩:=h.qe; subst e; rfl)
    |(obtain⟨b,off,vs,e,_⟩:=h.um; subst e; rfl)
    |(obtain⟨vs,e,_⟩:=h.ru; subst e; rfl)
    |(obtain⟨b,_,_,e⟩:=h.vA; subst e; rfl)
    |(obtain⟨b,_,_,e⟩:=h.DM; subst e; rfl)
    |(obtain⟨b,es,cl,e,_⟩:=h.IE; subst e; rfl)
    |(obtain⟨_,_,e⟩:=h.zq; subst e; rfl)
    |(obtain⟨⟨_,_,e⟩,_⟩:=h.sB; subst e; rfl)
    |(obtain⟨_,e,_⟩:=h.Hh; subst e; rfl)
    |(obtain⟨_,_,_,e⟩:=h.I6; subst e; rfl)
  rw[hv]
  exact⟨rfl,fun i c u hc hu=>by
   cases i with
   |zero=>simp at hc hu; subst hc; subst hu; exact h
   |succ i=>simp at hc⟩
theorem Df{c:ag}{v:Value}(h:gu j M w c v)(hc:c.jf=true):v.oneCell'=true:=by
 cases c<;>simp only[ag.jf,af] at hc
 case bool=>have:=h.jA; subst this; rfl
 case int=>have:=h.fX; subst this; rfl
 case str=>have:=h.kv; subst this; rfl
 case slice=>obtain⟨A,cap,b,off,sz,vs,e,_⟩:=h.er.er; subst e; rfl
 case ptr=>obtain⟨b,_,_,_,e⟩:=h.qe; subst e; rfl
 case jB=>obtain⟨b,off,vs,e,_⟩:=h.um; subst e; rfl
 case func=>obtain⟨vs,e,_⟩:=h.ru; subst e; rfl
 case iz=>obtain⟨b,_,_,e⟩:=h.vA; subst e; rfl
 case j4=>obtain⟨b,_,_,e⟩:=h.DM; subst e; rfl
 case kf=>obtain⟨b,es,cl,e,_⟩:=h.IE; subst e; rfl
 case cB=>obtain⟨_,_,e⟩:=h.zq; subst e; rfl
 case jt=>obtain⟨⟨_,_,e⟩,_⟩:=h.sB; subst e; rfl
 case qV=>obtain⟨_,e,_⟩:=h.Hh; subst e; rfl
 case kj=>obtain⟨_,_,_,e⟩:=h.I6; subst e; rfl
 case raw u =>
  cases h with
  |plain h=>cases h<;>grind
theorem Hi(hr:Rel j M w){cs:List ag}{vs:Array Value}(hc:RC j M w cs vs)(t:TypeId) :
  iV j M w (.ptr M.length 0,M++[.cells cs]) (.pointer (some ⟨w.heap.size,0,none⟩)) { w with heap:=w.heap.push (.cells vs t (0,0)) }:=by
 have q:Quiet w { w with heap:=w.heap.push (.cells vs t (0,0)) }:=⟨dw,rfl,rfl,rfl⟩
 have hb:∀b,b<w.heap.size->({ w with heap:=w.heap.push (.cells vs t (0,0)) }:World).heap[b]?=w.heap[b]?:=fun b hb=>by
  grind
 have hn:({ w with heap:=w.heap.push (.cells vs t (0,0)) }:World).heap[w.heap.size]?=some (.cells vs t (0,0)):=dw
 refine⟨gF j _ (some w.heap.size),hr.push (fun b h=>?_) q hb (fun _=>?_) (fun sz n b h=>j6),Ext.push (fun b h=>?_) q hb,.ptr dw ⟨cs,dw⟩ (by simp[gF])⟩
 ·grind
 ·exact⟨_,rfl,fun j' M' hx=>⟨vs,t,hn,hc.1,fun i c v h1 h2=>(hc.2 i c v h1 h2).mono hx⟩⟩
 grind
def ahd(hr:Rel j M w)(he:cn j M w bq a){y:Operand}{z:fZ}{t:TypeId}(hop:o.op = .box t y)(hz:eW y=some z)(h:ef C bq M (.box z)=some x) :
  ∃v w',rb P o a w v w'/\iV j M w x v w':=by
 obtain⟨cs,hc,h⟩:=bp h;cases h;exact⟨_,_,.inl (by simp_all [execOp,Instr.box,newVar,newRow]),Hi hr (tz (cS he hz) hc) t⟩
def Nw(hr:Rel j M w){t:TypeId}{i:TypeInfo}{zv:Value}{l:List ag}(hop:o.op = .alloc t)(hi:P.info? t=some i)(hzv:i.zero=some zv)(hl:tf zv.cells.toList=some l)
  (h:ef C bq M (.yL l)=some x):∃v w',rb P o a w v w'/\iV j M w x v w':=by
 cases h;obtain⟨h1,h2⟩:=qB hl;refine⟨_,_,.inl (by simp[execOp,hop,Instr.alloc,zeroValue,pT hi,hzv]; rfl),Hi hr ⟨aH,fun i c v hc hv=>h2 i c v hc j6⟩ t⟩
def Wj(hr:Rel j M w)(he:cn j M w bq a){y:Operand}{z:fZ}{n:Nat}(hop:o.op = .assign y)(hz:eW y=some z)(h:ef C bq M (.own n z)=some x) :
  ∃v w',rb P o a w v w'/\iV j M w x v w':=by
 simp only[ef] at h;split at h
 ·rename_i ez;cases h;have h1:=cS he hz;rw[ez] at h1;have q:Quiet w w:=⟨au _,rfl,rfl,rfl⟩
  obtain⟨A,hA⟩:∃A,a.eval y = .slice A 0 0:=by
   generalize a.eval y=v at h1;cases h1 with
   |plain h=>cases h
   |c0 A=>simp
  refine⟨a.eval y,w,.inl (by simp_all [execOp]),gF j M.length none,?_⟩
  rw[hA];unfold PV PU;split
  ·refine⟨hr.push (ob:=none) (fun b h=>by cases h) q (fun _ _=>rfl) (fun h=>by cases h) (fun sz n b h h'=>by cases h') (fun sz ver xs h=>by injection h with e1 e2 e3; exact .inl ⟨e3.symm,rfl⟩),Ext.push (fun b h=>by cases h) q (fun _ _=>rfl),?_⟩
   refine .cB (.inr ⟨rfl,A,rfl⟩) dw (fun bx hbx=>by rw[kc] at hbx; cases hbx; rfl) fun sz' v' zs hx=>?_
   rw[kc] at hx; injection hx with hx; injection hx with e1 e2 e3
   subst e1; subst e2; subst e3;exact⟨au _,fun _=>⟨rfl,au _,au _,.inl ⟨rfl,by simp[gF],A,rfl⟩⟩⟩
  ·refine⟨hr.push (fun b h=>j6) q (fun _ _=>rfl) (fun h=>by cases h) (fun sz n b h h'=>j6),Ext.push (fun b h=>j6) q (fun _ _=>rfl),?_⟩
   exact .own (sz:=n) dw dw (fR.nil _ _ _) fun _ => .inl ⟨by simp[gF],rfl,A,rfl⟩
 ·exact zY (C:=C) hr he (.inr hop) hz h
def pq(w:World)(b:Nat):Nat->List Value->World
 |_,[]=>w
 |off,v::r=>pq (w.setCell ⟨b,off,none⟩ v) b (off+1) r
def mr{b:Nat}{t:TypeId}:∀(l:List Value)(w:World)(off:Nat)(vs:Array Value),w.heap[b]?=some (.cells vs t (0,0))->off+l.length<=vs.size ->
  (pq w b off l).heap.size=w.heap.size/\(pq w b off l).os=w.os/\(pq w b off l).tape=w.tape/\(pq w b off l).output=w.output /\
  (∀b',b'≠b->(pq w b off l).heap[b']?=w.heap[b']?) /\
  ∃vs',(pq w b off l).heap[b]?=some (.cells vs' t (0,0))/\vs'.size=vs.size/\(∀p,p<off\/off+l.length<=p->vs'[p]?=vs[p]?)/\∀p,p<l.length->vs'[off+p]?=l[p]?:=by
 intro l;induction l with
 |nil=>intro w off vs h _; exact⟨rfl,rfl,rfl,rfl,fun _ _=>rfl,vs,h,rfl,fun _ _=>rfl,fun p hp=>by simp at hp⟩
 |cons v r ih =>
  intro w off vs h hle;simp only[av] at hle
  have hs:(w.setCell ⟨b,off,none⟩ v).heap[b]?=some (.cells (vs.setIfInBounds off v) t (0,0)):=by
   simp[World.setCell,gX,h]
  obtain⟨h1,h2,h3,h4,h5,vs',h6,h7,h8,h9⟩:=ih (w.setCell ⟨b,off,none⟩ v) (off+1) (vs.setIfInBounds off v) hs gh;refine⟨by simp only[pq]; rw[h1]; simp[World.setCell],by simp only[pq]; rw[h2]; rfl,by simp only[pq]; rw[h3]; rfl,by simp only[pq]; rw[h4]; rfl,fun b' hb'=>?_,vs',h6,by rw[h7]; simp,fun p hp=>?_,fun p hp=>?_⟩
  ·simp only[pq];rw[h5 b' hb'];simp[World.setCell,gX,eY hb']
  ·simp only[av] at hp;rw[h8 p aH,fF aH]
  ·cases p with
   |zero =>
    have:vs'[off]?=(vs.setIfInBounds off v)[off]?:=h8 off aH;rw[df,this];simp[hV];omega
   |succ p =>
    have:=h9 p (by simpa using hp)
    rw[show off+(p+1)=off+1+p by omega,this]
    simp
def ny{b:Nat}{t:TypeId}:∀(l:List Value)(w:World)(off i:Nat)(vs:Array Value),w.heap[b]?=some (.cells vs t (0,0))->off+i+l.length<=vs.size->(∀v,v∈l->v.oneCell'=true) ->
  (storeCells ⟨b,off,none⟩ l i).run P w = .ok () (pq w b (off+i) l):=by
 intro l;induction l with
 |nil=>simp[storeCells,pq]
 |cons v r ih =>
  intro w off i vs h hle hv;simp only[av] at hle
  have hs:(w.setCell ⟨b,off+i,none⟩ v).heap[b]?=some (.cells (vs.setIfInBounds (off+i) v) t (0,0)):=by
   simp[World.setCell,gX,h]
  have hc:w.cell? ⟨b,off+i,none⟩=some (vs[off+i]'(by omega)):=by
   simp[World.cell?,h]
  have hf:w.frozen? ⟨b,off+i,none⟩=false:=by simp[World.frozen?,h]
  have hi:=ih _ off (i+1) _ hs gh (fun u hu=>hv u (bw _ hu))
  simp[storeCells,lP,run_store P w _ v .plain (hv v _),hc,hf,aD,Result.andThen_ok,hi];rfl
theorem qY{cs new:List ag}{off:Nat}(h:off+new.length<=cs.length)(p:Nat) :
  (mQ cs off new)[p]?=if off<=p/\p<off+new.length then new[p-off]? else cs[p]?:=by
 grind [mQ]
theorem uU{cs new:List ag}{off:Nat}(h:off+new.length<=cs.length):(mQ cs off new).length=cs.length:=by
 grind [mQ]
theorem Aj{c:ag}{v:Value}(h:gu j M w c v)(hp:c.shut.plainCell=true):fR w (om j M w) c.shut v:=by
 cases c<;>simp[ag.shut,ag.plainCell] at hp ⊢
 case bool=>have:=h.jA; subst this; exact .bool _
 case int=>have:=h.fX; subst this; exact .int _ _
 case str=>have:=h.kv; subst this; exact .str _
 case slice=>exact h.er
 case raw=>cases h<;>grind
theorem Cd{c:ag}(h:c.shut.plainCell=true):c.jf=true:=by
 cases c<;>simp[ag.shut,ag.plainCell] at h<;>try rfl
 rename_i v;cases v<;>first|rfl|grind
def Hm{c:ag}(h:c.plainCell=true):c.cells=[c]:=by
 cases c<;>first|rfl|cases h
theorem Eo{e:ag}{off:Nat}{new:List ag}(h:off+new.length<=e.cells.length)(hp:new.all ag.plainCell=true):(putCells e off new).cells=mQ e.cells off new:=by
 by_cases hag:∃cs,e = .agg cs
 ·obtain⟨cs,rfl⟩:=hag;cases new<;>rfl
 ·have h1:e.cells=[e]:=by cases e<;>first|rfl|grind
  rw[h1] at h ⊢
  match new,h,hp with
  | [],h,_ =>
   have:putCells e off []=e:=by cases e<;>first|rfl|grind
   rw[this,h1]
   match off,h with
   |0,_=>rfl
   |1,_=>rfl
  | [c],h,hp =>
   have:putCells e off [c]=c:=by cases e<;>first|rfl|grind
   have h0:off=0:=j6;subst h0;rw[this,Hm j6];rfl
  |_::_::_,h,_=>grind
theorem Ee(hr:Rel j M w)(he:cn j M w bq a){y y':Operand}{z z':fZ}{t:TypeId}{n:Nat}(hop:o.op = .store t y y')(hn:qA P t=some n)(hz:eW y=some z)(hz':eW y'=some z')
  (h:ef C bq M (.store n z z')=some x):∃v w',rb P o a w v w'/\iV j M w x v w':=by
 simp only[ef] at h;have h1:=cS he hz;have h2:=cS he hz';split at h
 ·rename_i id off e;rw[e] at h1;obtain⟨b,_,_,hj,hv⟩:=h1.qe;rw[fe] at h;split at h
  ·rename_i cs hM;obtain⟨new,ju,h⟩:=bp h;split at h
   ·rename_i hcond;obtain⟨c1,c2,c3⟩:=hcond;cases h;obtain⟨vs,t0,hw,hl,hcs,hcell⟩:=wY hr hM hj;obtain⟨n1,n2⟩:=tz h2 ju
    have hone:∀v,v∈(a.eval y').cells.toList->v.oneCell'=true:=by
     intro v hv;obtain⟨p,hp,rfl⟩:=ka hv;have hp':p<(a.eval y').cells.size:=by simpa using hp
     have hpl:p<new.length:=aH;have hr':=n2 p _ _ (ai hpl) (bg hp');have:=Df hr' (bM.1 c3 _ (jq hpl));simpa using this
    have hrun:=ny (P:=P) (a.eval y').cells.toList w off 0 vs hw gh hone;obtain⟨s1,s2,s3,s4,s5,vs',s6,s7,s8,s9⟩:=mr (a.eval y').cells.toList w off vs hw gh;have q:Quiet w (pq w b off (a.eval y').cells.toList):=⟨aH,s2,s3,s4⟩;have hle:off+new.length<=cs.length:=aH;rw[fj];refine⟨undef,pq w b off (a.eval y').cells.toList,.inr ⟨?_,rfl⟩,j,Rel.store hM rfl rfl hj hr q (fun b' hb' _=>s5 b' hb') (fun vs0 t1 fr h=>by rw[hw] at h; grind) (fun j' M' hx=>⟨vs',t0,s6,by rw[uU hle]; omega,fun p c v hc hv'=>gu.mono hx ?_⟩),Ext.store hM rfl rfl hj hr q (fun b' hb' _=>s5 b' hb') (fun vs0 t1 fr h=>by rw[hw] at h; grind),.any _⟩
    ·simp_all [df,execOp,Instr.storeAt,Instr.sureAddr,storeVar,jo]
    ·rw[qY hle] at hc;split at hc
     ·rename_i hp;have h9:=s9 (p-off) gh;rw[show off+(p-off)=p by omega,hv'] at h9
      exact n2 (p-off) c v hc (by simpa using h9.symm)
     grind
   ·cases h
  ·cases h
 ·rename_i id ver i off e;rw[e] at h1;rw[fe] at h;split at h
  ·rename_i sz v0 xs hM;obtain⟨new,ju,h⟩:=bp h;obtain⟨el,hel,h⟩:=bp h;split at h
   ·rename_i hcond;obtain⟨hv0,c1,c2,c3⟩:=hcond;subst hv0;cases h;obtain⟨_,hid,_,hv⟩:=h1.sB;obtain⟨hi,b,hj,hv⟩:=(hv sz v0 xs hM).2 rfl;obtain⟨b',vs,t0,k1,hw,k3,k4,k5⟩:=hr.yK hM hj;rw[hj] at k1; cases k1;have hsz:el.cells.length=sz:=k4 el (aI hel)
    have hbd:i*sz+sz<=vs.size:=by
     refine aY ?_ k3
     calc i*sz+sz=(i+1)*sz:=by rw[bP]; omega
      _<=xs.length*sz:=bd _ hi
    obtain⟨n1,n2⟩:=tz h2 ju
    have hpl:∀(p:Nat)(c:ag),new[p]?=some c->c.shut.plainCell=true:=fun p c hc=>by
     rw[List.all_map,bM] at c3;exact c3 c (aI hc)
    have hone:∀v,v∈(a.eval y').cells.toList->v.oneCell'=true:=by
     intro v hv;obtain⟨p,hp,rfl⟩:=ka hv;have hp':p<(a.eval y').cells.size:=by simpa using hp
     have hpl':p<new.length:=aH;have hr':=n2 p _ _ (ai hpl') (bg hp');have:=Df hr' (Cd (hpl p _ (ai hpl')));simpa using this
    have hrun:=ny (P:=P) (a.eval y').cells.toList w (i*sz+off) 0 vs hw gh hone;obtain⟨s1,s2,s3,s4,s5,vs',s6,s7,s8,s9⟩:=mr (a.eval y').cells.toList w (i*sz+off) vs hw gh;have q:Quiet w (pq w b (i*sz+off) (a.eval y').cells.toList):=⟨aH,s2,s3,s4⟩;have hle:off+(new.map ag.shut).length<=el.cells.length:=gh;have hput:=Eo hle c3
    have hw':∀vs0 t1,w.heap[b]?=some (.cells vs0 t1 (0,0))->∃vs1,(pq w b (i*sz+off) (a.eval y').cells.toList).heap[b]?=some (.cells vs1 t1 (0,0))/\vs1.size=vs0.size:=fun vs0 t1 h=>by
     rw[hw] at h; grind
    rw[fj,fj];refine⟨undef,pq w b (i*sz+off) (a.eval y').cells.toList,.inr ⟨?_,rfl⟩,j,Rel.Fi hM hj hr q (fun b' hb' _=>s5 b' hb') hw' (au _) (fun _=>dw) (fun j' M' hx=>⟨vs',t0,s6,gh,fun x hx'=>?_,fun p x k c hp hk=>?_⟩),Ext.Fi hM hj hr q (fun b' hb' _=>s5 b' hb') hw' (au _) (fun _=>dw),.any _⟩
    ·simp only[df] at hrun;simp[execOp,hop,Instr.storeAt,Instr.sureAddr,hv,storeVar,jo hn,show(a.eval y').cells.size=n by omega,hrun]
    ·rcases lM hx' with hx'|rfl
     ·exact k4 x hx'
     ·rw[hput,uU hle,hsz]
    ·have dR:(a.eval y').cells.toList.length=n:=gh
     by_cases hpi:i=p
     ·subst hpi;rw[fa hi] at hp;cases hp;rw[hput,qY hle] at hk;split at hk
      ·rename_i hin;simp only[eK] at hin;rw[aX,aV] at hk;obtain⟨c0,hc0,rfl⟩:=hk;have h9:=s9 (k-off) aH;rw[show i*sz+off+(k-off)=i*sz+k by omega] at h9
       have cJ:k-off<(a.eval y').cells.size:=aH;have hu:(a.eval y').cells[k-off]?=some (a.eval y').cells[k-off]:=bg cJ;exact⟨_,by rw[h9]; simp,(Aj (n2 _ c0 _ hc0 hu) (hpl _ c0 hc0)).mono hx.iA⟩
      ·rename_i hin;simp only[eK] at hin;obtain⟨u,u1,u2⟩:=k5 i el k c hel hk;exact⟨u,by rw[s8 _ aH]; exact u1,u2.mono hx.iA⟩
     ·rw[fc hpi] at hp;obtain⟨u,u1,u2⟩:=k5 p x k c hp hk;have hk':k<sz:=by rw[<-k4 x (aI hp)]; exact aN hk
      refine⟨u,(s8 _ ?_).trans u1,u2.mono hx.iA⟩;rcases bE p i with cJ|hge
      ·left;have:=bd sz (show p+1<=i from cJ)
       rw[bP] at this;omega
      ·right;have:=bd sz (show i+1<=p by omega)
       rw[bP] at this;omega
   ·cases h
  ·cases h
 ·cases h
end
def WS(off:Nat):∀(l:List Value)(k:Nat)(cells:Array Value),
  ((l.zipIdx k).foldl (fun(cs:Array Value) (x:Value×Nat)=>cs.setIfInBounds (off+x.2) x.1) cells).size=cells.size /\
  ∀p,((l.zipIdx k).foldl (fun(cs:Array Value) (x:Value×Nat)=>cs.setIfInBounds (off+x.2) x.1) cells)[p]? =
   if off+k<=p/\p<off+k+l.length/\p<cells.size then l[p-(off+k)]? else cells[p]?:=by
 intro l;induction l with
 |nil=>intro k cells; exact⟨rfl,fun p=>gh⟩
 |cons v r ih =>
  intro k cells;rw[List.zipIdx_cons,ei];obtain⟨h1,h2⟩:=ih (k+1) (cells.setIfInBounds (off+k) v);refine⟨by rw[h1]; simp,fun p=>?_⟩
  rw[h2];simp only[Array.size_setIfInBounds,av]
  by_cases c1:off+(k+1)<=p/\p<off+(k+1)+r.length/\p<cells.size
  ·rw[aW c1,aW aH,show p-(off+k)=(p-(off+(k+1)))+1 by omega]
   simp
  ·rw[aP c1]
   by_cases c2:p=off+k/\p<cells.size
   ·obtain⟨rfl,cJ⟩:=c2;rw[aW aH];simp[hV,cJ]
   ·rw[aP aH]
    by_cases c3:p=off+k
    ·have:¬p<cells.size:=fun h=>c2 ⟨c3,h⟩
     rw[ir gh,ir aH]
    ·rw[fF aH]
def putRow(cells:Array Value)(off:Nat)(vs:Array Value):Array Value:=vs.zipIdx.foldl (fun cs (c,k)=>cs.setIfInBounds (off+k) c) cells
def Cb(cells:Array Value)(off:Nat)(vs:Array Value):(putRow cells off vs).size=cells.size /\
  ∀p,(putRow cells off vs)[p]?=if off<=p/\p<off+vs.size/\p<cells.size then vs[p-off]? else cells[p]?:=by
 have h:=WS off vs.toList 0 cells
 have e:putRow cells off vs=(vs.toList.zipIdx 0).foldl (fun(cs:Array Value) (x:Value×Nat)=>cs.setIfInBounds (off+x.2) x.1) cells:=by
  unfold putRow;rw[<-Array.foldl_toList];simp
 rw[e];exact⟨h.1,fun p=>by rw[h.2 p]; simp⟩
section
variable {P:Program} {C:eR} {o:Oper} {bq:Env} {M:aC} {j:J} {w:World} {a:Act} {x:ag×aC}
def RC.write{cs new:List ag}{cells vs:Array Value}{off:Nat}(h:RC j M w cs cells)(hn:RC j M w new vs)(hle:off+new.length<=cs.length):RC j M w (mQ cs off new) (putRow cells off vs):=by
 obtain⟨p1,p2⟩:=Cb cells off vs;have h1:=h.1;have h2:=hn.1;refine⟨by rw[uU hle,p1]; exact h1,fun i c v hc hv=>?_⟩
 rw[qY hle] at hc;rw[p2] at hv
 have hi:i<cells.size:=by
  rcases bE i cells.size with hi|hi
  ·exact hi
  ·rw[aP aH,ir hi] at hv; cases hv
 split at hc
 ·rename_i hp;rw[aW aH] at hv;exact hn.2 _ c v hc hv
 ·rename_i hp;rw[aP aH] at hv;exact h.2 _ c v hc hv
def VM{α β:Type}{g:α->Sem β}{f:α->β}:∀(l:List α),(∀x,x∈l->(g x).run P w = .ok (f x) w)->(l.mapM g).run P w = .ok (l.map f) w:=by
 intro l;induction l with
 |nil=>intro _; simp
 |cons y r ih =>
  intro h;simp[List.mapM_cons,h y dw,ih fun x hx=>h x (by simp[hx])]
def Iz{fs:Array Field}(he:cn j M w bq a)(hfs:∀f,f∈fs.toList->(P.info? f.type).isSome=true):∀ {parts:List (Nat×Operand)} {ps:List (Nat×Nat×fZ)} {cs cs':List ag} {cells:Array Value},
  AD P fs parts=some ps->ml bq cs ps=some cs'->RC j M w cs cells ->
  ∃cells',Instr.fill (fun i=>(fs.map fun f=>(f.offset,P.cellsOf f.type))[i]?) cells (parts.map fun p=>(p.1,a.eval p.2))=some cells'/\RC j M w cs' cells':=by
 intro parts;induction parts with
 |nil =>
  intro ps cs cs' cells h1 h2 h3;simp[AD] at h1; subst h1;simp[ml] at h2; subst h2;exact⟨cells,rfl,h3⟩
 |cons p r ih =>
  intro ps cs cs' cells h1 h2 h3;obtain⟨i,y⟩:=p;simp only[AD] at h1;obtain⟨f,hf,h1⟩:=bf h1;obtain⟨n,hn,h1⟩:=bf h1;obtain⟨z,hz,h1⟩:=bf h1;obtain⟨l,hl,h1⟩:=bf h1;cases h1;simp only[ml] at h2;obtain⟨new,ju,h2⟩:=bp h2;split at h2
  ·rename_i hc;obtain⟨c1,c2⟩:=hc;have hrc:=tz (cS he hz) ju;obtain⟨inf,hinf,hsz⟩:=EC hn;have hco:P.cellsOf f.type=n:=by simp[Program.cellsOf,hinf,hsz]
   obtain⟨cells',e1,e2⟩:=ih hl h2 (h3.write (off:=f.offset) hrc aH);refine⟨cells',?_,e2⟩;have hs1:=hrc.1;have hs2:=h3.1;have hpl:(fs.map fun f=>(f.offset,P.cellsOf f.type))[i]?=some (f.offset,n):=by simp[hf,hco]
   simp only[aK,Instr.fill,hpl];rw[aP gh];exact e1
  ·cases h2
def V4(hr:Rel j M w)(he:cn j M w bq a){t:TypeId}{parts:Array (Nat×Operand)}{fs:Array Field}{i:TypeInfo}{zv:Value}{l:List ag}{ps:List (Nat×Nat×fZ)}(hop:o.op = .build t parts)
  (ht:P.underlying t=some (.struct fs)) (hi:P.info? t=some i) (hzv:i.zero=some zv) (hl:tf zv.cells.toList=some l) (hps:AD P fs parts.toList=some ps) (hfs:fs.all (fun f=>(P.info? f.type).isSome)=true)
  (h:ef C bq M (.build l ps)=some x):∃v w',rb P o a w v w'/\iV j M w x v w':=by
 simp only[ef] at h;obtain⟨cs,hcs,h⟩:=bp h;cases h;obtain⟨h1,h2⟩:=qB (j:=j) (M:=M) (w:=w) hl
 have hfs':∀f,f∈fs.toList->(P.info? f.type).isSome=true:=fun f hf=>by
  have:=Array.all_eq_true'.1 hfs f (by simpa using hf)
  simpa using this
 obtain⟨cells',e1,e2⟩:=Iz (P:=P) he hfs' hps hcs (cells:=zv.cells) ⟨by simpa using h1,fun i c v hc hv=>h2 i c v hc (by simpa using hv)⟩
 have hmap:(fs.mapM fun f=>do pure (f.offset,<-sizeOf f.type):Sem _).run P w = .ok (fs.map fun f=>(f.offset,P.cellsOf f.type)) w:=by
  rw[lL]
  have hm:=VM (P:=P) (w:=w) (g:=fun f:Field=>(do pure (f.offset,<-sizeOf f.type):Sem _)) (f:=fun f:Field=>(f.offset,P.cellsOf f.type)) fs.toList fun f hf=>by
   obtain⟨inf,hinf⟩:=fD.1 (hfs' f hf);simp[sizeOf,pT hinf,Program.cellsOf,hinf]
  rw[Sem.run_map,hm,<-Array.toList_map];simp only[Result.andThen_ok,Array.toArray_toList]
 refine⟨.agg cells',w,.inl ?_,.still hr (.agg e2.1 e2.2)⟩;have e1':Instr.fill (fun i=>(fs.map fun f=>(f.offset,P.cellsOf f.type))[i]?) zv.cells (parts.map fun p=>(p.1,a.eval p.2)).toList=some cells':=by simpa using e1
 simp only[execOp,hop,Instr.build,zeroValue,Sem.run_bind,pT hi,Result.andThen_ok,hzv,Sem.run_pure,eb ht,hmap];simp only[e1',Sem.run_pure,Result.andThen_ok]
def Cc{y:ag}{v:Value}(h:gu j M w y v)(hp:y.fV.plain=true):y.fV.cells.length=v.cells.size /\
  ∀(k:Nat)(c:ag)(u:Value),y.fV.cells[k]?=some c->v.cells[k]?=some u->fR w (om j M w) c u:=by
 by_cases hag:∃cs,y = .agg cs
 ·obtain⟨cs,rfl⟩:=hag;obtain⟨vs,rfl,h1,h2⟩:=h.mW;simp only[ag.fV,ag.plain,ag.cells,Value.cells] at hp ⊢;refine⟨by simpa using h1,fun k c u hc hu=>?_⟩
  rw[aX,aV] at hc;obtain⟨c0,hc0,rfl⟩:=hc;refine Aj (h2 k c0 u hc0 hu) ?_;have:=bM.1 hp c0.shut (eJ.2 ⟨c0,aI hc0,rfl⟩);exact this
 ·have hs:y.fV=y.shut:=by cases y<;>first|rfl|exact absurd ⟨_,rfl⟩ hag
  have hpl:y.shut.plainCell=true:=by
   rw[hs] at hp;cases y<;>first|exact hp|exact absurd ⟨_,rfl⟩ hag
  have hr:=Aj h hpl;have hc1:y.shut.cells=[y.shut]:=by cases y<;>first|rfl|exact absurd ⟨_,rfl⟩ hag
  have hv1:v.cells = #[v]:=by
   cases y<;>simp only[ag.shut,ag.plainCell,af] at hpl
   case bool=>have:=h.jA; subst this; rfl
   case int=>have:=h.fX; subst this; rfl
   case str=>have:=h.kv; subst this; rfl
   case slice=>obtain⟨A,cap,b,off,sz,vs,e,_⟩:=h.er.er; subst e; rfl
   case raw=>cases h with|plain h=>cases h; cases v<;>simp_all [Value.cells]
  rw[hs,hc1,hv1];refine⟨rfl,fun k c u hc hu=>?_⟩
  cases k with
  |zero=>simp at hc hu; subst hc; subst hu; exact hr
  |succ k=>simp at hc
def RH{sz:Nat}:∀(l:List Value)(k:Nat)(cells:Array Value),(∀v,v∈l->v.cells.size=sz)->(k+l.length)*sz<=cells.size ->
  ∃cells',Instr.fill (fun i=>some (i*sz,sz)) cells ((l.zipIdx k).map fun x=>(x.2,x.1))=some cells'/\cells'.size=cells.size/\(∀p,p<k*sz->cells'[p]?=cells[p]?) /\
   ∀i v q,l[i]?=some v->q<sz->cells'[(k+i)*sz+q]?=v.cells[q]?:=by
 intro l;induction l with
 |nil=>intro k cells _ _; exact⟨cells,rfl,rfl,fun _ _=>rfl,fun i v q h=>by simp at h⟩
 |cons v r ih =>
  intro k cells hv hle;have hv0:=hv v dw;have hk1:(k+1)*sz=k*sz+sz:=mT k sz
  have hle':k*sz+sz<=cells.size:=by
   have:(k+1)*sz<=(k+(r.length+1))*sz:=bd _ aH;simp only[av] at hle;omega
  obtain⟨p1,p2⟩:=Cb cells (k*sz) v.cells;obtain⟨cells',e1,e2,e3,e4⟩:=ih (k+1) (putRow cells (k*sz) v.cells) (fun u hu=>hv u (by simp[hu])) (by rw[p1]; simp only[av] at hle; rw[show k+1+r.length=k+(r.length+1) by omega]; exact hle)
  refine⟨cells',?_,by rw[e2,p1],fun p hp=>?_,fun i u q hi hq=>?_⟩
  ·rw[List.zipIdx_cons,aK];simp only[Instr.fill];rw[aP gh];exact e1
  ·rw[e3 p aH,p2,aP aH]
  ·cases i with
   |zero =>
    simp at hi; subst hi;rw[df,e3 _ aH,p2,aW aH];congr 1;omega
   |succ i =>
    have:=e4 i u q (by simpa using hi) hq
    rw[show k+1+i=k+(i+1) by omega] at this
    exact this
def Fo:∀ {l:List (Nat×Operand)} {k:Nat} {zs:List fZ},GN k l=some zs->∃ys:List Operand,l=(ys.zipIdx k).map (fun x=>(x.2,x.1))/\vn ys=some zs
 | [],k,zs,h=>by simp[GN] at h; subst h; exact⟨[],rfl,rfl⟩
 |(i,y)::r,k,zs,h=>by
  simp only[GN] at h;split at h
  ·rename_i hi;obtain⟨z,hz,h⟩:=bf h;obtain⟨l,hl,h⟩:=bf h;cases h;obtain⟨ys,e1,e2⟩:=Fo hl;exact⟨y::ys,by rw[List.zipIdx_cons,aK,hi,e1],by simp[vn,hz,e2]⟩
  ·cases h
def F4:∀ {zs:List fZ} {sz:Nat} {l:List ag},sR bq sz zs=some l->l.length=zs.length /\
  ∀(i:Nat)(y:ag)(z:fZ),l[i]?=some y->zs[i]?=some z->y=(z.ev bq).fV/\y.plain=true/\y.cells.length=sz
 | [],sz,l,h=>by simp[sR] at h; subst h; exact⟨rfl,fun i y z h=>by simp at h⟩
 |z::r,sz,l,h=>by
  simp only[sR] at h;split at h
  ·rename_i hc;obtain⟨l',hl,h⟩:=bp h;cases h;obtain⟨h1,h2⟩:=F4 hl;refine⟨by simp[h1],fun i y z' hy hz=>?_⟩
   cases i with
   |zero=>simp at hy hz; subst hy; subst hz; exact⟨rfl,hc.1,hc.2⟩
   |succ i=>exact h2 i y z' (by simpa using hy) (by simpa using hz)
  ·cases h
def o6(o:Obj):Quiet w { w with heap:=w.heap.push o }/\(∀b,b<w.heap.size->({ w with heap:=w.heap.push o }:World).heap[b]?=w.heap[b]?)/\({ w with heap:=w.heap.push o }:World).heap[w.heap.size]?=some o :=
 ⟨⟨dw,rfl,rfl,rfl⟩,fun b hb=>by
  show(w.heap.push _)[b]?=_
  rw[fW,aP aH],dw⟩
def A7(he:cn j M w bq a){t e:TypeId}{len:Nat}{parts:Array (Nat×Operand)}{i:TypeInfo}{zs:List fZ}{l:List ag}(hop:o.op = .buildSlice t len parts)(ht:P.underlying t=some (.slice e))
  (hi:P.info? e=some i) (hzs:GN 0 parts.toList=some zs) (dR:zs.length=len) (hroom:len*i.size<=2 ^ 24) (hzero:(i.zero.map fun z=>z.cells.size)=some i.size)
  (hl:sR bq i.size zs=some l):l.length=len/\wid l i.size/\∃cells':Array Value,cells'.size=len*i.size /\
   (execOp a.eval o).run P w = .ok (.value (.slice (some ⟨w.heap.size,0,none⟩) len len)) { w with heap:=w.heap.push (.cells cells' e (0,0)) } /\
   ∀(n:Nat)(y:ag)(k:Nat)(c:ag),l[n]?=some y->y.cells[k]?=some c->∃u,cells'[n*i.size+k]?=some u/\fR w (om j M w) c u:=by
 obtain⟨ys,hys,hyz⟩:=Fo hzs;obtain⟨l1,l2⟩:=F4 hl;obtain⟨y1,y2⟩:=ui he hyz
 obtain⟨zv,hzv,hzs'⟩:∃zv,i.zero=some zv/\zv.cells.size=i.size:=by
  cases hz:i.zero with
  |none=>rw[hz] at hzero; cases hzero
  |some zv=>rw[hz] at hzero; exact⟨zv,rfl,by simpa using hzero⟩
 have hvs:∀v,v∈ys.map a.eval->v.cells.size=i.size:=by
  intro v hv;obtain⟨y,hy,rfl⟩:=eJ.1 hv;obtain⟨p,hp,rfl⟩:=ka hy;have hpz:p<zs.length:=aH;have hpl:p<l.length:=aH;have hrep:=y2 p _ _ (ai hpz) (ai hp);obtain⟨e1,e2,e3⟩:=l2 p _ _ (ai hpl) (ai hpz);have:=(Cc hrep (by rw[<-e1]; exact e2)).1
  rw[<-e1] at this;omega
 let zero:Array Value:=if len*i.size=0 then #[] else zv.cells
 let cells0:Array Value:=(Array.range (len*i.size)).map (zero[· % zero.size]!)
 obtain⟨cells',f1,f2,f3,f4⟩:=RH (sz:=i.size) (ys.map a.eval) 0 cells0 hvs (by simp[cells0,<-dR,y1])
 have hfill:Instr.fill (fun k=>some (k*i.size,i.size)) cells0 (parts.map fun p=>(p.1,a.eval p.2)).toList=some cells':=by
  have:(parts.map fun p=>(p.1,a.eval p.2)).toList=((ys.map a.eval).zipIdx 0).map fun x=>(x.2,x.1):=by
   rw[Array.toList_map,hys,gG,List.zipIdx_map,gG];rfl
  rw[this]; exact f1
 have hrun:(execOp a.eval o).run P w = .ok (.value (.slice (some ⟨w.heap.size,0,none⟩) len len)) { w with heap:=w.heap.push (.cells cells' e (0,0)) }:=by
  simp only[execOp,hop,Instr.buildSlice,Sem.run_bind,eb ht,Result.andThen_ok,jo (show qA P e=some i.size by simp[qA,hi]),aP (show ¬len*i.size>2 ^ 24 by omega),Sem.run_pure]
  simp only[cells0] at hfill
  by_cases hc:len*i.size=0
  ·have hz:zero = #[]:=aW hc;rw[hz] at hfill;rw[aW hc];simp only[Sem.run_bind,Sem.run_pure,Result.andThen_ok,hfill];simp[newRow]
  ·have hz:zero=zv.cells:=aP hc;rw[hz] at hfill;rw[aP hc];simp only[zeroValue,Sem.run_bind,pT hi,Result.andThen_ok,hzv,Sem.run_pure,hfill];simp[newRow]
 have hel:∀(n:Nat)(y:ag)(k:Nat)(c:ag),l[n]?=some y->y.cells[k]?=some c->∃u,cells'[n*i.size+k]?=some u/\fR w (om j M w) c u:=by
  intro n y k c hn hk;have hnl:=aN hn;have hz:=ai (show n<zs.length by omega)
  have hy:=ai (show n<ys.length by omega)
  obtain⟨e1,e2,e3⟩:=l2 n y _ hn hz;have hrep:=y2 n _ _ hz hy;obtain⟨s1,s2⟩:=Cc hrep (by rw[<-e1]; exact e2)
  rw[<-e1] at s1 s2;have hkl:=aN hk;have hu:=bg (show k<(a.eval ys[n]).cells.size by omega)
  have f:=f4 n (a.eval ys[n]) k (by simp[hy]) aH
  rw[aJ] at f;exact⟨_,f.trans hu,s2 k c _ hk hu⟩
 refine⟨aH,fun y hy=>?_,cells',by first|(simp[f2,cells0])|(simp[f3,cells0]),hrun,hel⟩
 obtain⟨p,hp,rfl⟩:=ka hy;exact(l2 p _ _ (ai hp) (ai aH)).2.2
def Nx(hr:Rel j M w)(he:cn j M w bq a){t e:TypeId}{len:Nat}{parts:Array (Nat×Operand)}{i:TypeInfo}{zs:List fZ}(hop:o.op = .buildSlice t len parts)(ht:P.underlying t=some (.slice e))
  (hi:P.info? e=some i) (hzs:GN 0 parts.toList=some zs) (dR:zs.length=len) (hroom:len*i.size<=2 ^ 24) (hzero:(i.zero.map fun z=>z.cells.size)=some i.size)
  (h:ef C bq M (.lits i.size zs)=some x):∃v w',rb P o a w v w'/\iV j M w x v w':=by
 simp only[ef] at h;obtain⟨l,hl,h⟩:=bp h;obtain⟨hll,hwd,cells',_,hrun,hel⟩:=A7 (w:=w) he hop ht hi hzs dR hroom hzero hl;obtain⟨q,hb,ju⟩:=o6 (w:=w) (.cells cells' e (0,0));refine⟨_,_,.inl hrun,?_⟩;have ext:Ext j M w j M { w with heap:=w.heap.push (.cells cells' e (0,0)) }:=Ext.grow q.size rfl rfl rfl hb
 have rel:Rel j M { w with heap:=w.heap.push (.cells cells' e (0,0)) }:=hr.grow q.size rfl rfl rfl hb
 have key:fR { w with heap:=w.heap.push (.cells cells' e (0,0)) } (om j M { w with heap:=w.heap.push (.cells cells' e (0,0)) }) (.slice .sh l) (.slice (some ⟨w.heap.size,0,none⟩) len len):=by
  refine .slice l _ _ _ w.heap.size 0 i.size (fun p=>(cells'[p]?).getD undef) hll.symm (au _) (fun _=>rfl) hwd (fun n y k c hn hk=>?_) (fun n y k c hn hk=>?_)
  ·obtain⟨u,hu,_⟩:=hel n y k c hn hk;refine⟨?_,dw,fun id hid hj=>?_,fun hx=>absurd (hr.Aq _ _ hx) (ic _)⟩
   ·simp only[World.cell?,ju,aJ,hu];rfl
   ·have:=hr.lt id _ hid hj;omega
  ·obtain⟨u,hu,hru⟩:=hel n y k c hn hk;rw[hu];exact hru.mono ext.iA
 injection h with h
 subst h;cases l with
 |nil =>
  have:len=0:=by simpa using hll.symm
  subst this;exact⟨j,rel,ext,.c0 _⟩
 |cons y r=>exact⟨j,rel,ext,.plain key⟩
def Wc(hr:Rel j M w)(he:cn j M w bq a){t e:TypeId}{len:Nat}{parts:Array (Nat×Operand)}{i:TypeInfo}{zs:List fZ}(hop:o.op = .buildSlice t len parts)(ht:P.underlying t=some (.slice e))
  (hi:P.info? e=some i) (hzs:GN 0 parts.toList=some zs) (dR:zs.length=len) (hroom:len*i.size<=2 ^ 24) (hzero:(i.zero.map fun z=>z.cells.size)=some i.size)
  (h:ef C bq M (.F3 i.size zs)=some x):∃v w',rb P o a w v w'/\iV j M w x v w':=by
 simp only[ef] at h;obtain⟨l,hl,h⟩:=bp h;cases h;obtain⟨hll,hwd,cells',hcs,hrun,hel⟩:=A7 (w:=w) he hop ht hi hzs dR hroom hzero hl;obtain⟨q,hb,ju⟩:=o6 (w:=w) (.cells cells' e (0,0));have hob:∀b,some w.heap.size=some b->w.heap.size<=b/\b<({ w with heap:=w.heap.push (.cells cells' e (0,0)) }:World).heap.size:=fun b h=>by cases h; simp
 have ext:Ext j M w (gF j M.length (some w.heap.size)) (M++[.tick i.size l.length]) { w with heap:=w.heap.push (.cells cells' e (0,0)) }:=Ext.push (fun b hb=>(hob b hb).1) q hb
 refine⟨_,_,.inl hrun,gF j M.length (some w.heap.size),hr.push hob q hb (fun h=>by cases h) (fun sz n b _ hb=>by cases hb; exact⟨cells',e,ju⟩),ext,?_⟩
 refine .own (sz:=i.size) (n:=l.length) dw (au _) ?_ fun _ => .inr ⟨w.heap.size,len,cells',e,by simp[gF],by rw[hll],ju,aH,aH⟩
 refine .slice l _ _ _ w.heap.size 0 i.size (fun p=>(cells'[p]?).getD undef) hll.symm (au _) (fun _=>rfl) hwd (fun n y k c hn hk=>?_) (fun n y k c hn hk=>?_)
 ·obtain⟨u,hu,_⟩:=hel n y k c hn hk;have hk':k<i.size:=by rw[<-hwd y (aI hn)]; exact aN hk
  refine⟨?_,dw,fun id hid hj=>?_,fun hx=>absurd (hr.Aq _ _ (by rw[<-ext.X]; exact hx)) (ic _)⟩
  ·simp only[World.cell?,ju,aJ,hu];rfl
  ·have hid':id=M.length:=by
    rcases bE id M.length with h|h
    ·rw[show gF j M.length (some w.heap.size) id=j id by simp[gF,gI h]] at hj
     exact absurd (hr.lt id _ h hj) (ic _)
    ·simp at hid; omega
   subst hid';refine⟨i.size,l.length,dw,?_⟩;have:=bd i.size (show n+1<=l.length from aN hn)
   rw[bP] at this;omega
 ·obtain⟨u,hu,hru⟩:=hel n y k c hn hk;rw[hu];exact hru.mono ext.iA
end
def gu.Dd{j:J}{M:aC}{w:World}{xs:List ag}{v:Value}(h:gu j M w (.slice .c0 xs) v):∃A,v = .slice A 0 0:=by
 cases h with
 |plain h=>cases h
 |c0 A=>simp
theorem gu.aaQ{j:J}{M:aC}{w:World}{k:Nat}{xs:List ag}{v:Value}(h:gu j M w (.slice (.own k) xs) v) :
  ∃sz n,M[k]?=some (.tick sz n)/\xs.length<=n/\fR w (om j M w) (.slice .sh xs) v/\(xs.length=n->HN j w k sz n v):=by
 cases h with
 |plain h=>cases h
 |own hk hn h ht=>grind
theorem FE(n:Nat):∀(r c:Nat),c<=2*n+1000->Builtin.growBy n r c<=2*n+1000
 |0,c,h=>h
 |r+1,c,h=>by
  unfold Builtin.growBy;split
  ·omega
  ·exact FE n r _ aH
theorem D9{n c:Nat}(h:c<n):Builtin.nextslicecap n c<=2*n+1000:=by
 grind [Builtin.nextslicecap,FE]
def fR.one{w:World}{iA:Nat->Nat->Prop}{c:ag}{v:Value}(h:fR w iA c v):v.oneCell'=true:=by
 cases h<;>first|rfl|omega
section
variable {P:Program} {C:eR} {o:Oper} {bq:Env} {M:aC} {j:J} {w:World} {a:Act} {x:ag×aC}
theorem Fx{iA:Nat->Nat->Prop}{xs:List ag}{v:Value}{size:Nat}(hx:fR w iA (.slice .sh xs) v)(hw:wid xs size)(hpos:0<size) :
  ∃u:Nat->Value,(∀w':World,w'.heap=w.heap->(Builtin.firstCells size xs.length v).run P w' = .ok (((List.range (xs.length*size)).map u).toArray) w') /\
   (∀(i:Nat)(y:ag)(k:Nat)(c:ag),xs[i]?=some y->y.cells[k]?=some c->fR w iA c (u (i*size+k))) /\
   ∀b,(∃n cap,v = .slice (some ⟨b,0,none⟩) n cap)->∀p,p<xs.length*size->w.cell? ⟨b,p,none⟩=some (u p):=by
 obtain⟨A,cap,b,off,sz,vs,hv,hc,ha,hz,hs,hr⟩:=hx.er
 by_cases hne:xs=[]
 ·subst hne;rw[hv];cases A<;>simp_all [Builtin.firstCells,loadCells,loadCellsFrom]
 ·have hsz:sz=size:=by
   obtain⟨y,r,rfl⟩:=fm hne;rw[<-hz y dw,hw y dw]
  subst hsz;have hA:=ha hne;subst hA
  have hcell:∀p,p<xs.length*sz->w.cell? ⟨b,off+p,none⟩=some (vs p):=by
   intro p hp;have hd:p / sz<xs.length:=(kR hpos).2 hp;have hm:p % sz<sz:=nu _ hpos;have hy:=ai hd;have hcl:=hw _ (jq hd);have:=(hs (p / sz) _ (p % sz) _ hy (ai aH)).1;rw[Nat.div_add_mod'] at this;omega
  refine⟨vs,fun w' hw'=>?_,hr,fun b' hb' p hp=>?_⟩
  ·rw[hv]
   have hc':∀p,p<xs.length*sz->w'.cell? ⟨b,off+p,none⟩=some (vs p):=fun p hp=>by
    grind [World.cell?]
   exact oY (P:=P) b off (xs.length*sz) vs hc'
  grind
theorem fR.join{w':World}{saf':Nat->Nat->Prop}{xs ys:List ag}{size:Nat}(hwx:wid xs size)(hwy:wid ys size)(hpos:0<size){ux uy:Nat->Value}
  (hx:∀(i:Nat)(y:ag)(k:Nat)(c:ag),xs[i]?=some y->y.cells[k]?=some c->fR w' saf' c (ux (i*size+k)))
  (hy:∀(i:Nat)(y:ag)(k:Nat)(c:ag),ys[i]?=some y->y.cells[k]?=some c->fR w' saf' c (uy (i*size+k)))
  {b:Nat} {arr:Array Value} {t:TypeId} (harr:w'.heap[b]?=some (.cells arr t (0,0))) (h1:∀p,p<xs.length*size->arr[p]?=some (ux p)) (h2:∀p,p<ys.length*size->arr[xs.length*size+p]?=some (uy p))
  (hs:∀p,p<(xs.length+ys.length)*size->saf' b p) {cap:Nat} (hc:xs.length+ys.length<=cap):fR w' saf' (.slice .sh (xs++ys)) (.slice (some ⟨b,0,none⟩) (xs.length+ys.length) cap):=by
 have cJ:∀(i k n:Nat),i<n->k<size->i*size+k<n*size:=by
  intro i k n hi hk;have:(i+1)*size<=n*size:=bd _ hi;rw[mT] at this;omega
 have cas:∀(i:Nat)(y:ag),(xs++ys)[i]?=some y->(i<xs.length/\xs[i]?=some y)\/(∃i',i=xs.length+i'/\ys[i']?=some y):=by
  grind
 refine .slice _ _ _ _ b 0 size (fun p=>if p<xs.length*size then ux p else uy (p-xs.length*size)) dw hc (fun _=>rfl) (fun y hy'=>?_) (fun i y k c hi hk=>?_) (fun i y k c hi hk=>?_)
 ·rcases bo.1 hy' with h|h
  ·exact hwx y h
  ·exact hwy y h
 ·have hkl:=aN hk;rw[aJ];rcases cas i y hi with ⟨hil,hxi⟩|⟨i',rfl,hyi⟩
  ·have hk':k<size:=by rw[<-hwx y (aI hxi)]; omega
   have hp:=cJ i k _ hil hk';refine⟨?_,hs _ (cJ i k _ aH hk')⟩;rw[aW hp,<-h1 _ hp];simp[World.cell?,harr]
  ·have hk':k<size:=by rw[<-hwy y (aI hyi)]; exact hkl
   have hil:=aN hyi;have hp:=cJ i' k _ hil hk';refine⟨?_,hs _ (cJ _ k _ aH hk')⟩;have he:(xs.length+i')*size+k=xs.length*size+(i'*size+k):=by rw[bP]; omega
   rw[he,aP dw,iX,<-h2 _ hp];simp[World.cell?,harr]
 ·have hkl:=aN hk;rcases cas i y hi with ⟨hil,hxi⟩|⟨i',rfl,hyi⟩
  ·have hk':k<size:=by rw[<-hwx y (aI hxi)]; exact hkl
   rw[aW (cJ i k _ hil hk')];exact hx i y k c hxi hk
  ·have he:(xs.length+i')*size+k=xs.length*size+(i'*size+k):=by rw[bP]; omega
   rw[he,aP dw,iX]
   grind
theorem qJ{t t' e:TypeId}{d':TypeDesc}{v':Value}{i:TypeInfo}{zv:Value}(hs:P.underlying t=some (.slice e))(hs':P.underlying t'=some d')(hd':∀k,d' ≠ .int k)(hi:P.info? e=some i)(hz:i.zero=some zv)(hb0:0<i.bytes)(hb1:i.bytes<=2 ^ 20)
  (ty:TypeId) {bS:Option Addr} {n cap m:Nat} {uh new:Array Value} (dR:∀w':World,(Builtin.lenOf v').run P w' = .ok m w')
  (hold:∀w':World,w'.heap=w.heap->(Builtin.firstCells i.size n (.slice bS n cap)).run P w' = .ok uh w') (ju:∀w':World,w'.heap=w.heap->(Builtin.firstCells i.size m v').run P w' = .ok new w')
  (hroom:(n+m)*i.bytes<=2 ^ 44) :
  (n+m<=cap->∀w',(match bS with|some ad=>(storeCells (ad.add (n*i.size)) new.toList).run P w = .ok () w'|none=>w'=w)->(Builtin.append_ #[t,t'] ty #[.slice bS n cap,v']).run P w = .ok (.slice bS (n+m) cap) w') /\
  (cap<n+m->∃newCap rest,n+m<=newCap/\rest.size=(newCap-(n+m))*zv.cells.size /\
   (Builtin.append_ #[t,t'] ty #[.slice bS n cap,v']).run P w = .ok (.slice (some ⟨w.heap.size,0,none⟩) (n+m) newCap) { w with heap:=w.heap.push (.cells (uh++new++rest) e (0,0)),drawn:=w.drawn+1 }):=by
 have hsz:(sizeOf e).run P w = .ok i.size w:=jo (by grind [qA])
 refine⟨fun hle w' hst=>?_,fun cJ=>?_⟩
 ·have h1:=ju w rfl;unfold Builtin.append_;simp only[List.getElem?_toArray,gk,cX,Sem.run_bind,eb hs,eb hs',Result.andThen_ok,hsz,Sem.run_pure];simp only[af,aD,dR,Result.andThen_ok,dC,aE,aW hle,h1,Sem.run_bind];cases bS with
  |none=>simp_all
  |some ad=>simp_all
 ·have hcapb:¬Builtin.nextslicecap (n+m) cap*i.bytes>2 ^ 48:=by
   have h1:=D9 cJ;have h2:Builtin.nextslicecap (n+m) cap*i.bytes<=(2*(n+m)+1000)*i.bytes:=bd _ h1
   grind
  let q:Question := .appendCap (n+m) cap e
  refine⟨q.cut (w.tape w.drawn q),Builtin.zeroCells zv.cells (q.cut (w.tape w.drawn q)-(n+m)),by grind [Question.cut],by simp[Builtin.zeroCells],?_⟩
  have h1:=hold w.drew rfl;have h2:=ju w.drew rfl;have hne:i.bytes≠0:=aH;have hqf:q.forced=false:=rfl;unfold Builtin.append_;simp only[List.getElem?_toArray,gk,cX,Sem.run_bind,eb hs,eb hs',Result.andThen_ok,hsz,Sem.run_pure];simp only[af,aD,dR,Result.andThen_ok,dC,aE,aP (Nat.not_le.2 cJ),Sem.run_bind];simp[pT hi,hne,hcapb,h1,h2,zeroValue,hz,newRow,q,Question.forced];rfl
theorem HW(hr:Rel j M w){c:Call}{y y':Operand}{t t' e:TypeId}{d':TypeDesc}{i:TypeInfo}{zv:Value}(hop:o.op = .call c)(hb:c.callee = .builtin .append)(ha:c.args.toList=[y,y'])
  (hat:c.argTypes = #[t,t']) (hs:P.underlying t=some (.slice e)) (hs':P.underlying t'=some d') (hd':∀k,d' ≠ .int k) (hi:P.info? e=some i) (hz:i.zero=some zv) (hzs:zv.cells.size=i.size) (hpos:0<i.size) (hb0:0<i.bytes) (hb1:i.bytes<=2 ^ 20)
  {tk:Tk} {xs ys:List ag} (r1:gu j M w (.slice tk xs) (a.eval y)) (dR:∀w':World,(Builtin.lenOf (a.eval y')).run P w' = .ok ys.length w') {uy:Nat->Value}
  (fy1:∀w':World,w'.heap=w.heap->(Builtin.firstCells i.size ys.length (a.eval y')).run P w' = .ok (((List.range (ys.length*i.size)).map uy).toArray) w')
  (fy2:∀(q:Nat)(y:ag)(k:Nat)(c:ag),ys[q]?=some y->y.cells[k]?=some c->fR w (om j M w) c (uy (q*i.size+k)))
  (h:cp (cr (xs.length+ys.length) i.bytes/\wid xs i.size/\wid ys i.size) (
    match tk with
    | .c0=>match xs with|[]=>some (.slice (.own M.length) ys,M++[.tick i.size ys.length])|_=>none
    | .own k=>match nth M k with
     |some (.tick sz' n)=>cp (sz'=i.size/\n=xs.length) (some (.slice (.own k) (xs++ys),iT M k (.tick i.size (xs.length+ys.length))))
     |_=>none
    | .sh=>none)=some x):∃v w' j',rb P o a w v w'/\Rel j' x.2 w'/\Ext j M w j' x.2 w'/\gu j' x.2 w' x.1 v/\(ys=[]->v=a.eval y/\∀k,tk = .own k->j'=j)/\∀k b',tk = .own k->j' k=some b'->j k=some b'\/∃vs,w'.heap[b']?=some (.cells vs e (0,0)):=by
 obtain⟨⟨hroom,hwx,hwy⟩,h9⟩:=dh h;clear h;have h:=h9;clear h9;have p1:=r1.er;obtain⟨ux,fx1,fx2,fx3⟩:=Fx (P:=P) p1 hwx hpos;obtain⟨bS,cap,_,_,_,_,hv,hcap,_⟩:=p1.er;have ha':c.args = #[y,y']:=by rw[<-ha]
 have hexec:∀r,(Builtin.append_ #[t,t'] o.type #[a.eval y,a.eval y']).run P w=r->(execOp a.eval o).run P w=r.andThen fun v w' => .ok (.value v) w':=by
  intro r hr';simp[execOp,hop,resolve,hb,invoke,builtin,ha',hat,hr']
 rw[hv] at fx1;obtain⟨A1,A2⟩:=qJ (P:=P) (w:=w) hs hs' hd' hi hz hb0 hb1 o.type (bS:=bS) (n:=xs.length) (cap:=cap) (m:=ys.length) dR fx1 fy1 hroom;rw[<-hv] at A1 A2
 -- nothing is appended
 have nil:ys=[]->∃v,(execOp a.eval o).run P w = .ok (.value v) w/\v=a.eval y:=by
  intro hy;subst hy;refine⟨_,?_,rfl⟩
  have:=A1 (by simp; exact hcap) w (by
   cases bS with
   |none=>rfl
   |some ad=>simp[storeCells])
  rw[hexec _ this];simp[hv]
 -- a new block
 have fresh:cap<xs.length+ys.length->∃newCap arr w',xs.length+ys.length<=newCap/\(execOp a.eval o).run P w = .ok (.value (.slice (some ⟨w.heap.size,0,none⟩) (xs.length+ys.length) newCap)) w' /\
   Quiet w w'/\(∀b,b<w.heap.size->w'.heap[b]?=w.heap[b]?)/\w'.heap[w.heap.size]?=some (.cells arr e (0,0))/\newCap*i.size<=arr.size /\
   (∀p,p<xs.length*i.size->arr[p]?=some (ux p))/\∀p,p<ys.length*i.size->arr[xs.length*i.size+p]?=some (uy p):=by
  intro cJ;obtain⟨newCap,rest,h1,h2,h3⟩:=A2 cJ;obtain⟨q,hbk,ju⟩:=o6 (w:=w) (.cells (((List.range (xs.length*i.size)).map ux).toArray++((List.range (ys.length*i.size)).map uy).toArray++rest) e (0,0));refine⟨newCap,_,{ w with heap:=w.heap.push (.cells (((List.range (xs.length*i.size)).map ux).toArray++((List.range (ys.length*i.size)).map uy).toArray++rest) e (0,0)),drawn:=w.drawn+1 },h1,(hexec _ h3).trans rfl,⟨q.size,rfl,rfl,rfl⟩,hbk,ju,?_,fun p hp=>?_,fun p hp=>?_⟩
  ·simp only[ga,cZ,eK,List.length_range,h2,hzs];rw[<-bP,<-bP];exact bd _ aH
  ·rw[Array.append_assoc,cj (by simpa using hp)]
   simp[hp]
  ·rw[Array.append_assoc,Array.getElem?_append_right dw,cj gh];simp[hp]
 split at h
 ·-- c0
  split at h
  ·cases h;simp only[az,aJ] at *
   have hc0:cap=0:=by
    obtain⟨A',hA'⟩:=r1.Dd;rw[hv] at hA';injection hA'
   by_cases hy:ys=[]
   ·subst hy;obtain⟨v,h1,h2⟩:=nil rfl;have q:Quiet w w:=⟨au _,rfl,rfl,rfl⟩;refine⟨v,w,gF j M.length none,.inl h1,hr.push (ob:=none) (fun b h=>by cases h) q (fun _ _=>rfl) (fun h=>by cases h) (fun sz n b h h'=>by cases h'),Ext.push (fun b h=>by cases h) q (fun _ _=>rfl),?_,fun _=>⟨h2,fun _ h=>by cases h⟩,fun _ _ h=>by cases h⟩
    rw[h2,hv,hc0];exact .own (sz:=i.size) (n:=0) dw dw (fR.nil _ _ _) fun _ => .inl ⟨by simp[gF],rfl,bS,rfl⟩
   ·have hyl:0<ys.length:=gQ.2 hy;obtain⟨newCap,arr,w',g1,g2,g3,g4,g5,g6,g7,g8⟩:=fresh aH
    have hob:∀b,some w.heap.size=some b->w.heap.size<=b/\b<w'.heap.size:=fun b hb=>by
     cases hb; exact⟨au _,lt_of_block g5⟩
    have ext:Ext j M w (gF j M.length (some w.heap.size)) (M++[.tick i.size ys.length]) w':=Ext.push (fun b hb=>(hob b hb).1) g3 g4
    refine⟨_,w',gF j M.length (some w.heap.size),.inl g2,hr.push hob g3 g4 (fun h=>by cases h) (fun sz n b _ hb=>j6),ext,?_,fun h=>absurd h hy,fun _ _ h=>by cases h⟩
    have hsaf:∀p,p<(0+ys.length)*i.size->om (gF j M.length (some w.heap.size)) (M++[.tick i.size ys.length]) w' w.heap.size p:=by
     intro p hp;refine⟨lt_of_block g5,fun id hid hj=>?_,fun hx=>absurd (hr.Aq _ _ hx) (ic _)⟩
     by_cases hid':id=M.length
     ·subst hid'; exact⟨i.size,ys.length,dw,by simpa using hp⟩
     ·have:=hr.lt id w.heap.size (by simp at hid; omega) (by simpa[gF,hid'] using hj)
      omega
    have hj:=fR.join (xs:=[]) (ys:=ys) (w':=w') hwx hwy hpos (ux:=ux) (uy:=uy) (fun i y k c h=>by simp at h) (fun i y k c h1 h2=>(fy2 i y k c h1 h2).mono ext.iA) g5 (fun p hp=>by simp at hp) (fun p hp=>by simpa using g8 p hp) hsaf (cap:=newCap) (by simpa using g1)
    simp only[aO,az,aJ] at hj;exact .own (sz:=i.size) (n:=ys.length) dw (au _) hj fun _ => .inr ⟨w.heap.size,newCap,arr,e,by simp[gF],rfl,g5,g6,g1⟩
  ·cases h
 ·-- own
  rename_i k;rw[fe] at h;split at h
  ·rename_i sz' n' hMk;obtain⟨⟨e1,e2⟩,hx⟩:=dh h;subst e1;subst e2;injection hx with hx
   subst hx;rw[fj];obtain⟨sz0,n0,hk,hn,hrp,ht⟩:=r1.aaQ
   ·rw[hMk] at hk;injection hk with hk; injection hk with e1 e2
    subst e1; subst e2
    by_cases hy:ys=[]
    ·subst hy;obtain⟨v,h1,h2⟩:=nil rfl
     have hset:M.set k (.tick i.size (xs.length+([]:List ag).length))=M:=by
      apply cE
      grind
     rw[h2] at h1;rw[hset,db];exact⟨a.eval y,w,j,.inl h1,hr,Ext.refl j M w,r1,fun _=>⟨rfl,fun _ _=>rfl⟩,fun _ _ _ h => .inl h⟩
    ·have hyl:0<ys.length:=gQ.2 hy
     have moved:cap<xs.length+ys.length->∃v w' j',rb P o a w v w'/\Rel j' (M.set k (.tick i.size (xs.length+ys.length))) w'/\Ext j M w j' (M.set k (.tick i.size (xs.length+ys.length))) w'/\gu j' (M.set k (.tick i.size (xs.length+ys.length))) w' (.slice (.own k) (xs++ys)) v/\(ys=[]->v=a.eval y/\∀k',Tk.own k = .own k'->j'=j)/\∀k' b',Tk.own k = .own k'->j' k'=some b'->j k'=some b'\/∃vs,w'.heap[b']?=some (.cells vs e (0,0)):=by
      intro cJ;obtain⟨newCap,arr,w',g1,g2,g3,g4,g5,g6,g7,g8⟩:=fresh cJ;have ext:Ext j M w (gF j k (some w.heap.size)) (M.set k (.tick i.size (xs.length+ys.length))) w':=Ext.CV hMk g3 g4 (au _) aH;refine⟨_,w',gF j k (some w.heap.size),.inl g2,Rel.CV hMk hr g3 g4 (au _) g5 aH,ext,?_,fun h=>absurd h hy,fun k' b' hk' hb' => .inr ⟨arr,(by grind [gF])⟩⟩
      have hsaf:∀p,p<(xs.length+ys.length)*i.size->om (gF j k (some w.heap.size)) (M.set k (.tick i.size (xs.length+ys.length))) w' w.heap.size p:=by
       intro p hp;refine⟨lt_of_block g5,fun id hid hj=>?_,fun hx=>absurd (hr.Aq _ _ hx) (ic _)⟩
       by_cases hid':id=k
       ·subst hid'; exact⟨i.size,_,ec (aN hMk),hp⟩
       ·have:=hr.lt id w.heap.size (by simpa using hid) (by simpa[gF,hid'] using hj)
        omega
      have hj:=fR.join (w':=w') hwx hwy hpos (ux:=ux) (uy:=uy) (fun i y k c h1 h2=>(fx2 i y k c h1 h2).mono ext.iA) (fun i y k c h1 h2=>(fy2 i y k c h1 h2).mono ext.iA) g5 g7 g8 hsaf (cap:=newCap) g1
      exact .own (sz:=i.size) (n:=xs.length+ys.length) (ec (aN hMk)) dw hj fun _ => .inr ⟨w.heap.size,newCap,arr,e,by simp[gF],rfl,g5,g6,g1⟩
     rcases ht rfl with ⟨_,hn0,A',hA'⟩|⟨b,cap0,vs,t0,hj,hv0,hw0,hsz0,hcap0⟩
     ·rw[hv] at hA';injection hA' with _ _ e3
      exact moved aH
     ·have hvv:=hv.symm.trans hv0;injection hvv with e1 e2 e3
      subst e1; subst e3
      by_cases hfit:xs.length+ys.length<=cap
      ·have ju:(((List.range (ys.length*i.size)).map uy).toArray).toList.length=ys.length*i.size:=dw
       have hle:xs.length*i.size+ys.length*i.size<=vs.size:=by
        rw[<-bP];exact aY (bd _ hfit) hsz0
       have hone:∀v,v∈(((List.range (ys.length*i.size)).map uy).toArray).toList->v.oneCell'=true:=by
        intro v hv;simp only[eJ,gj] at hv;obtain⟨p,hp,rfl⟩:=hv;have hd:p / i.size<ys.length:=(kR hpos).2 hp;have hm:p % i.size<i.size:=nu _ hpos;have hcl:=hwy _ (jq hd);have:=fy2 (p / i.size) _ (p % i.size) _ (ai hd) (ai aH);rw[Nat.div_add_mod'] at this;exact this.one
       have hst:=ny (P:=P) (((List.range (ys.length*i.size)).map uy).toArray).toList w (xs.length*i.size) 0 vs hw0 (by rw[ju]; omega) hone
       rw[df] at hst;obtain⟨s1,s2,s3,s4,s5,vs',s6,s7,s8,s9⟩:=mr (((List.range (ys.length*i.size)).map uy).toArray).toList w (xs.length*i.size) vs hw0 (by rw[ju]; omega)
       have hrun:=A1 hfit _ (by
        show(storeCells ((⟨b,0,none⟩:Addr).add (xs.length*i.size)) _).run P w=_
        rw[lP,aJ];exact hst)
       have q:Quiet w (pq w b (xs.length*i.size) (((List.range (ys.length*i.size)).map uy).toArray).toList):=⟨aH,s2,s3,s4⟩;have hkeep:∀p,p<xs.length*i.size->vs'[p]?=vs[p]?:=fun p hp=>s8 p (.inl hp)
       have ext:Ext j M w j (M.set k (.tick i.size (xs.length+ys.length))) (pq w b (xs.length*i.size) (((List.range (ys.length*i.size)).map uy).toArray).toList) :=
        Ext.Hz hMk hj hr q (fun b' hb' _=>s5 b' hb') hw0 s6 s7 hkeep aH
       refine⟨_,_,j,.inl ((hexec _ hrun).trans rfl),Rel.Hz hMk hj hr q (fun b' hb' _=>s5 b' hb') hw0 s6 s7 hkeep aH,ext,?_,fun h=>absurd h hy,fun _ _ _ h => .inl h⟩
       have hsaf:∀p,p<(xs.length+ys.length)*i.size->om j (M.set k (.tick i.size (xs.length+ys.length))) (pq w b (xs.length*i.size) (((List.range (ys.length*i.size)).map uy).toArray).toList) b p:=by
        intro p hp;refine⟨lt_of_block s6,fun id hid hj'=>?_,hr.vd k b (aN hMk) hj p⟩
        have:id=k:=hr.inj id k b (by simpa using hid) (aN hMk) hj' hj
        subst this;exact⟨i.size,_,ec (aN hMk),hp⟩
       have hjn:=fR.join hwx hwy hpos (ux:=ux) (uy:=uy) (fun i y k c h1 h2=>(fx2 i y k c h1 h2).mono ext.iA) (fun i y k c h1 h2=>(fy2 i y k c h1 h2).mono ext.iA) s6 (fun p hp=>by
        rw[hkeep p hp];have:=fx3 b ⟨_,_,hv⟩ p hp;simpa[World.cell?,hw0] using this) (fun p hp=>by
        rw[s9 p (by rw[ju]; exact hp)]
        simp[hp]) hsaf (cap:=cap) hfit
       exact .own (sz:=i.size) (n:=xs.length+ys.length) (ec (aN hMk)) dw hjn fun _ => .inr ⟨b,cap,vs',t0,hj,rfl,s6,aH,hfit⟩
      ·exact moved aH
  ·cases h
 ·cases h
theorem LS(hr:Rel j M w)(he:cn j M w bq a){c:Call}{y y':Operand}{z z':fZ}{t t' e e':TypeId}{i:TypeInfo}{zv:Value}(hop:o.op = .call c)(hb:c.callee = .builtin .append)(ha:c.args.toList=[y,y'])
  (hat:c.argTypes = #[t,t']) (hs:P.underlying t=some (.slice e)) (hs':P.underlying t'=some (.slice e')) (hi:P.info? e=some i) (hz:i.zero=some zv) (hzs:zv.cells.size=i.size) (hpos:0<i.size) (hb0:0<i.bytes) (hb1:i.bytes<=2 ^ 20)
  (hzy:eW y=some z) (hzy':eW y'=some z') (h:ef C bq M (.append i.size i.bytes z z')=some x) (hna:∀id ver sz lo hi,z.ev bq ≠ .cB id ver sz lo hi):∃v w',rb P o a w v w'/\iV j M w x v w':=by
 simp[ef] at h;have r1:=cS he hzy;have r2:=cS he hzy';split at h
 ·rename_i tk xs tk' ys ez ez';obtain⟨⟨_,hwx,hwy⟩,_⟩:=dh h;rw[ez] at r1;rw[ez'] at r2;have p2:=r2.er;obtain⟨uy,fy1,fy2,_⟩:=Fx p2 hwy hpos;obtain⟨A,cap',_,_,_,_,hv',_⟩:=p2.er;obtain⟨v,w',j',q1,q2,q3,q4,_⟩:=HW hr hop hb ha hat hs hs' (fun k h=>by cases h) hi hz hzs hpos hb0 hb1 r1 (fun w'=>by rw[hv']; rfl) fy1 fy2 h
  exact⟨v,w',q1,j',q2,q3,q4⟩
 ·grind
 grind
end
section
variable {P:Program} {C:eR} {o:Oper} {bq:Env} {M:aC} {j:J} {w:World} {a:Act} {x:ag×aC}
def Lg {f:Field} {k:FK} (h:RM P f=some k):f.name ≠ "_" /\ Cs P f.type=some false/\(match k with | .b=>P.underlying f.type=some .bool | .i=>∃q,P.underlying f.type=some (.int q) | .s=>P.underlying f.type=some .string):=by
 unfold RM at h;split at h
 ·cases h
 ·rename_i hn;refine⟨hn,?_⟩
  split at h<;>first
   |(cases h; rename_i hu; exact⟨by simp[Cs,hu],by first|exact hu|exact⟨_,hu⟩⟩)
   |cases h
def Lb{d:Nat}{f:Field}{k:FK}(hf:RM P f=some k){y z:ag}{u v:Value}(hu:gu j M w y u)(hv:gu j M w z v){e:Bool}(h:km k y z=some e) :
  (Op.equalIn (d+1) f.type u v).run P w = .ok e w:=by
 have hk:=(Lg hf).2.2;unfold km at h;split at h
 ·rename_i k1 a k2 b;obtain⟨q,hq⟩:=hk;split at h
  ·rename_i he;subst he;cases h;rw[hu.fX,hv.fX];exact run_equalIn_int w d f.type _ _ a b hq
  ·cases h
 ·rename_i a b;cases h;rw[hu.kv,hv.kv,run_equalIn_string w d f.type _ _ hk,vl,vl]
 ·rename_i a b;cases h;rw[hu.jA,hv.jA];exact run_equalIn_bool' w d f.type a b hk
 ·cases h
def zE{d:Nat}{cs ds:List ag}{us vs:Array Value}(hc:RC j M w cs us)(hd:RC j M w ds vs):∀ {l:List Field} {k:Nat} {ks:List FK} {e:Bool},BV P k l=some ks->kU ks (cs.drop k) (ds.drop k)=some e ->
  (Op.eqFields (d+1) us vs l).run P w = .ok e w
 | [],k,ks,e,h1,h2=>by
  simp[BV] at h1; subst h1;unfold kU at h2;split at h2<;>simp_all [Op.eqFields]
 |f::r,k,ks,e,h1,h2=>by
  simp only[BV] at h1;split at h1
  ·rename_i hoff;obtain⟨q,hq,h1⟩:=bf h1;obtain⟨qs,hqs,h1⟩:=bf h1;cases h1
   have hk1:k<cs.length:=by
    rcases bE k cs.length with h|h
    ·exact h
    ·rw[jl h] at h2; simp[kU] at h2
   have hk2:k<ds.length:=by
    rcases bE k ds.length with h|h
    ·exact h
    ·rw[jl h] at h2;rw[cW hk1] at h2;simp[kU] at h2
   rw[cW hk1,cW hk2] at h2;simp only[kU] at h2;obtain⟨e1,he1,h2⟩:=bp h2;obtain⟨e2,he2,h2⟩:=bp h2;cases h2;have hlu:k<us.size:=by have:=hc.1; omega
   have hlv:k<vs.size:=by have:=hd.1; omega
   have hu:=bg hlu;have hv:=bg hlv;have ih:=zE (d:=d) hc hd hqs he2;obtain⟨hn,hag,_⟩:=Lg hq;have p1:(part f.type us f.offset).run P w = .ok us[k] w:=by simp[part,lG hag,hoff,hu]
   have p2:(part f.type vs f.offset).run P w = .ok vs[k] w:=by simp[part,lG hag,hoff,hv]
   have p3:=Lb (d:=d) hq (hc.2 k _ _ (ai hk1) hu) (hd.2 k _ _ (ai hk2) hv) he1;simp only[Op.eqFields,aW hn,Sem.run_bind,p1,p2,p3,Result.andThen_ok];cases e1
   ·simp
   ·simpa using ih
  ·cases h1
def MF:∀ {l:List Field} {k:Nat} {ks:List FK},BV P k l=some ks->∀f,f∈l->∃q,RM P f=some q
 | [],_,_,_,f,hf=>by simp at hf
 |g::r,k,ks,h,f,hf=>by
  simp only[BV] at h;split at h
  ·obtain⟨q,hq,h⟩:=bf h;obtain⟨qs,hqs,h⟩:=bf h;rcases bJ.1 hf with rfl|hf
   ·exact⟨q,hq⟩
   ·exact MF hqs f hf
  ·cases h
def V6(hr:Rel j M w)(he:cn j M w bq a){neg:Bool}{y y':Operand}{z z':fZ}{t t':TypeId}{fs:Array Field}{ks:List FK}(hop:o.op = .binOp (if neg then .neq else .eql) t y y' t')(ht:P.underlying t=some (.struct fs))
  (hst:P.stoodInHeld t=false) (hks:BV P 0 fs.toList=some ks) (hz:eW y=some z) (hz':eW y'=some z') (h:ef C bq M (.Qs ks neg z z')=some x):∃v w',rb P o a w v w'/\iV j M w x v w':=by
 simp only[ef] at h;have h1:=cS he hz;have h2:=cS he hz';split at h
 ·rename_i cs ds ez ez';obtain⟨e,hee,h⟩:=bp h;cases h;rw[ez] at h1;rw[ez'] at h2;obtain⟨us,hus,hul,huc⟩:=h1.mW;obtain⟨vs,hvs,hvl,hvc⟩:=h2.mW;have hfs:P.fieldsOf t=fs:=by simp[Program.fieldsOf,ht]
  have heq:(Op.equal t (.agg us) (.agg vs)).run P w = .ok e w:=by
   unfold Op.equal;rw[show Op.maxDepth=9999+1 from rfl,run_equalIn_struct w 9999 t us vs (by rw[hfs]; exact ht) hst,hfs]
   exact zE (d:=9998) ⟨hul,huc⟩ ⟨hvl,hvc⟩ hks (by simpa using hee)
  have hgt:P.eqGuardType P.depth t=false:=by
   unfold Program.depth;rw[show 2*(P.types.size+Made.depth)+2=(2*(P.types.size+Made.depth)+1)+1 from rfl,Program.eqGuardType,ht]
   simp only;rw[Array.any_eq_false];intro i hi;obtain⟨q,hq⟩:=MF hks fs[i] dw;have:=(Lg hq).2.2;simp only[Program.eqGuardType];cases q<;>simp only at this
   ·obtain⟨_,hu⟩:=this; simp[hu]
   ·simp[this]
   ·simp[this]
  have hguard:∀op,(eqGuard op t y y' (.agg us) (.agg vs)).run P w = .ok () w:=by
   intro op;unfold eqGuard;cases op<;>simp[hgt]
  cases neg
  ·exact⟨.bool e,w,.inl (by simp[execOp,hop,hus,hvs,hguard,binOp,heq]),.still hr (.plain (.bool _))⟩
  ·exact⟨.bool (!e),w,.inl (by simp[execOp,hop,hus,hvs,hguard,binOp,heq]),.still hr (.plain (.bool _))⟩
 ·cases h
end
end
end
section
open Go Go.RowKit
variable [kx]
section
variable {j:J} {M:aC} {w w':World}
def Bm(hr:Rel j M w):∀n,∃j',Rel j' (M++List.replicate n cL.vO) w/\Ext j M w j' (M++List.replicate n cL.vO) w
 |0=>⟨j,by simpa using hr,by simpa using Ext.refl j M w⟩
 |n+1=>by
  obtain⟨j',h1,h2⟩:=Bm hr n;have q:Quiet w w:=⟨au _,rfl,rfl,rfl⟩;refine⟨gF j' (M++List.replicate n cL.vO).length none,?_⟩;rw[nL,<-bV];exact⟨h1.push (ob:=none) (bx := .vO) (fun b h=>by cases h) q (fun _ _=>rfl) (fun h=>by cases h) (fun sz n b h h'=>by cases h'),h2.trans (Ext.push (fun b h=>by cases h) q (fun _ _=>rfl))⟩
def Ext.fill{p b:Nat}{cs:List ag}(hM:M[p]?=some .vO)(hob:w.heap.size<=b)(q:Quiet w w')(hb:∀b,b<w.heap.size->w'.heap[b]?=w.heap[b]?) :
  Ext j M w (gF j p (some b)) (M.set p (.cells cs)) w' where
 len:=dw
 size:=q.size
 os:=q.os
 tape:=q.tape
 output:=q.output
 X:=rfl
 fix:=fun i bx h hf=>by
  have e:p≠i:=by rintro rfl; rw[hM] at h; cases h; cases hf
  exact⟨by simp[gF,eY e],bx,by rw[cN e]; exact h,rfl⟩
 tick:=fun i sz n h=>by
  have e:p≠i:=by rintro rfl; rw[hM] at h; cases h
  exact⟨n,au _,by rw[cN e]; exact h,fun _=>⟨by simp[gF,eY e],fun b vs t _ hv=>⟨vs,(hb b (lt_of_block hv)).trans hv,rfl⟩⟩⟩
 arr:=fun i sz v xs h=>by
  have e:p≠i:=by rintro rfl; rw[hM] at h; cases h
  exact .inr ⟨v,xs,by rw[cN e]; exact h,au _,fun _=>⟨by simp[gF,eY e],rfl,fun b vs t _ hv=>⟨vs,(hb b (lt_of_block hv)).trans hv,rfl⟩⟩⟩
 tags:=fun b0 vs0 t0 fr0 h=>⟨vs0,fr0,(hb b0 (lt_of_block h)).trans h,rfl⟩
 iA:=fun b0 off h=>by
  refine⟨⟨bz h.1 q.size,fun id hid hj=>?_,h.3⟩,World.cell?_of_block (w:=w) (hb b0 h.1)⟩
  by_cases he:id=p
  ·have:b=b0:=by simpa[gF,he] using hj
   have:=h.1;omega
  ·rw[cN (eY he)];exact h.2 id (by simpa using hid) (by simpa[gF,he] using hj)
 uh:=fun b0 cJ h=>by
  refine⟨hb b0 cJ,fun i hi hj=>?_⟩
  by_cases he:i=p
  ·have:b=b0:=by simpa[gF,he] using hj
   omega
  ·exact h i (by simpa using hi) (by simpa[gF,he] using hj)
def Rel.fill(hr:Rel j M w){p b:Nat}{cs:List ag}(hM:M[p]?=some .vO)(hob:w.heap.size<=b)(hbl:b<w'.heap.size)(q:Quiet w w')(hb:∀b,b<w.heap.size->w'.heap[b]?=w.heap[b]?)
  (hbox:∀j' M',Ext j M w j' M' w'->Holds j' M' w' b (.cells cs)):Rel (gF j p (some b)) (M.set p (.cells cs)) w':=by
 have ext:Ext j M w (gF j p (some b)) (M.set p (.cells cs)) w':=Ext.fill hM hob q hb;have up:∀i,i≠p->gF j p (some b) i=j i:=fun i hi=>by simp[gF,hi]
 have hp:=aN hM;refine⟨fun i i' b0 hi hi' h h'=>?_,fun i b0 hi h=>?_,fun i bx' h hf=>?_,fun i sz n b0 h hj=>?_,fun i sz ver xs h=>?_,fun i b0 hi h off hx=>?_,fun b off h=>bz (hr.Aq b off h) q.size⟩
 ·simp only[dL] at hi hi'
  by_cases e:i=p<;>by_cases e':i'=p
  ·omega
  ·have h1:b=b0:=by simpa[gF,e] using h
   rw[up i' e'] at h';have:=hr.lt i' b0 hi' h';omega
  ·have h1:b=b0:=by simpa[gF,e'] using h'
   rw[up i e] at h;have:=hr.lt i b0 hi h;omega
  ·rw[up i e] at h;rw[up i' e'] at h';exact hr.inj i i' b0 hi hi' h h'
 ·simp only[dL] at hi
  by_cases e:i=p
  ·have h1:b=b0:=by simpa[gF,e] using h
   omega
  ·rw[up i e] at h;exact bz (hr.lt i b0 hi h) q.size
 ·by_cases e:i=p
  ·subst e;rw[ec hp] at h;cases h;exact⟨b,by simp[gF],hbox _ _ ext⟩
  ·rw[cN (eY e)] at h;obtain⟨b0,h1,h2⟩:=hr.fix i bx' h hf;exact⟨b0,by rw[up i e]; exact h1,h2.mono ext (hb b0 (hr.lt i b0 (aN h) h1))⟩
 ·by_cases e:i=p
  ·subst e; rw[ec hp] at h; cases h
  ·rw[cN (eY e)] at h;rw[up i e] at hj;obtain⟨vs,t,h1⟩:=hr.tick i sz n b0 h hj;exact⟨vs,t,(hb b0 (lt_of_block h1)).trans h1⟩
 ·by_cases e:i=p
  ·subst e; rw[ec hp] at h; cases h
  ·rw[cN (eY e)] at h;exact qC hr ext h (up i e) fun b0 h1=>hb b0 (hr.lt i b0 (aN h) h1)
 ·simp only[dL] at hi
  by_cases e:i=p
  ·have h1:b=b0:=by simpa[gF,e] using h
   have h2:=hr.Aq b0 off hx;omega
  ·rw[up i e] at h;exact hr.vd i b0 hi h off hx
def Iy(hr:Rel j M w){p:Nat}(hM:M[p]?=some .vO){cs:List ag}{vs:Array Value}(hc:RC j M w cs vs)(t:TypeId) :
  iV j M w (.ptr p 0,M.set p (.cells cs)) (.pointer (some ⟨w.heap.size,0,none⟩)) { w with heap:=w.heap.push (.cells vs t (0,0)) }:=by
 have q:Quiet w { w with heap:=w.heap.push (.cells vs t (0,0)) }:=⟨dw,rfl,rfl,rfl⟩
 have hb:∀b,b<w.heap.size->({ w with heap:=w.heap.push (.cells vs t (0,0)) }:World).heap[b]?=w.heap[b]?:=fun b hb=>by
  show(w.heap.push _)[b]?=_
  rw[fW,aP aH]
 have hn:({ w with heap:=w.heap.push (.cells vs t (0,0)) }:World).heap[w.heap.size]?=some (.cells vs t (0,0)):=dw
 have hp:=aN hM;exact⟨gF j p (some w.heap.size),hr.fill hM (au _) dw q hb (fun j' M' hx=>⟨vs,t,hn,hc.1,fun i c v h1 h2=>(hc.2 i c v h1 h2).mono hx⟩),Ext.fill hM (au _) q hb,.ptr (by simpa using hp) ⟨cs,ec hp⟩ (by simp[gF])⟩
end
variable {P:Program} {own:List Nat} {o:Oper}
def Oh{l:List ag}{t:TypeId}(hop:o.op = .alloc t)(h:Oz P own o=some (.yL l)):∃i zv,P.info? t=some i/\i.zero=some zv/\tf zv.cells.toList=some l:=by
 simp only[Oz,hop] at h;obtain⟨i,hi,h⟩:=bf h;obtain⟨z,hz,h⟩:=bf h;obtain⟨l',hl,h⟩:=bf h;split at h
 ·split at h
  ·split at h
   ·obtain⟨n,hn,h⟩:=bf h;cases h
   ·cases h
  ·injection h with h; cases h; exact⟨i,z,hi,hz,hl⟩
 ·injection h with h; cases h; exact⟨i,z,hi,hz,hl⟩
def Oi{l:List ag}{t0:TypeId}(hop:o.op = .alloc t0)(h:Oz P own o=some (.yL l))(a:Act)(w:World):∃vs t,(∀j M w',RC j M w' l vs)/\rb P o a w (.pointer (some ⟨w.heap.size,0,none⟩)) { w with heap:=w.heap.push (.cells vs t (0,0)) }:=by
 obtain⟨i,zv,hi,hz,hl⟩:=Oh hop h;refine⟨zv.cells,t0,fun j M w'=>?_,.inl (by simp[execOp,hop,Instr.alloc,zeroValue,pT hi,hz,newVar,newRow])⟩
 obtain⟨h1,h2⟩:=qB (j:=j) (M:=M) (w:=w') hl;exact⟨by simpa using h1,fun i c v hc hv=>h2 i c v hc (by simpa using hv)⟩
end
section
open Go Go.RowKit
variable [kx]
theorem y9{x:Nat}:∀(l a:List Nat),x∈j8 a l↔x∈a\/x∈l
 | [],a=>by simp[j8]
 |y::r,a=>by
  rw[j8,y9 r]
  grind
theorem rC:∀(l a:List Nat),a.Nodup->(j8 a l).Nodup
 | [],a,h=>h
 |y::r,a,h=>by
  refine rC r _ ?_
  grind
def Ju(M:aC)(l:List Nat):(reach M l).Nodup:=rC _ _ (rC _ _ (rC _ _ (rC _ _ lq)))
def PB{M:aC}{l:List Nat}{x:Nat}(h:x∈l):x∈reach M l:=by
 simp_all [reach,ko,y9]
theorem F7{M:aC}{x i:Nat}{b:cL}:∀ {l:List Nat},i∈l->M[i]?=some b->x∈b.ids->x∈qt M l
 | [],h,_,_=>j6
 |k::r,h,hb,hx=>by
  rw[qt,bo];rcases bJ.1 h with rfl|h
  ·grind [fe]
  ·exact .inr (F7 h hb hx)
theorem OI{M:aC}{ids:List Nat}(h:ko M ids=ids){i x:Nat}{b:cL}(hi:i∈ids)(hb:M[i]?=some b)(hx:x∈b.ids):x∈ids:=by
 rw[<-h,ko,y9]
 grind [F7]
theorem ub:∀ {ids:List Nat} {x:Nat},x∈ids->ids[iy ids x]?=some x
 | [],_,h=>j6
 |a::l,x,h=>by
  rw[iy];split
  ·grind
  ·rcases bJ.1 h with rfl|h
   ·omega
   ·simpa using ub h
def uL{ids:List Nat}{x:Nat}(h:x∈ids):iy ids x<ids.length:=aN (ub h)
theorem CM:∀ {ids:List Nat} {i x:Nat},ids.Nodup->ids[i]?=some x->iy ids x=i
 | [],i,x,_,h=>j6
 |a::l,i,x,hn,h=>by
  rw[iy];have hn':=oE.1 hn;cases i with
  |zero=>grind
  |succ i =>
   have h':l[i]?=some x:=j6;rw[aP j6,CM hn'.2 h']
def Mo{ids:List Nat}{x:Nat}(h:x∈ids):wu ids (iy ids x)=x:=by rw[wu,fe,ub h]; rfl
def aed{ids:List Nat}{i x:Nat}(h:ids[i]?=some x):wu ids i=x:=by rw[wu,fe,h]; rfl
theorem Ek{M:aC}{ρ:Nat->Nat}:∀ {l:List Nat} {B:aC},jX M ρ l=some B->B.length=l.length/\∀(i id:Nat),l[i]?=some id->∃b,M[id]?=some b/\b.flat=true/\B[i]?=some (b.pj ρ)
 | [],B,h=>by grind [jX]
 |k::r,B,h=>by
  simp[jX,fe] at h;split at h
  ·split at h
   ·obtain⟨l,hl,h⟩:=bp h;injection h with h; obtain⟨h1,h2⟩:=Ek hl
    grind
   grind
  grind
theorem wk{ids:List Nat}:∀ {l:List Nat} {B M:aC},l.Nodup->l.length=B.length->(ma ids M l B).length=M.length/\(∀i,i∉l->(ma ids M l B)[i]?=M[i]?) /\
  ∀(i id:Nat)(b:cL),l[i]?=some id->id<M.length->B[i]?=some b->(ma ids M l B)[id]?=some (b.pj (wu ids))
 | [],B,M,_,_=>by simp[ma]
 |k::r,[],M,_,hl=>by simp at hl
 |k::r,b::B,M,hn,hl=>by
  rw[ma,fj];have hn':=oE.1 hn;obtain⟨h1,h2,h3⟩:=wk (ids:=ids) (B:=B) (M:=M.set k (b.pj (wu ids))) hn'.2 j6
  grind
def NH(ρ:Nat->Nat)(b:cL):(b.pj ρ).tag=b.tag:=by cases b<;>rfl
def x7{ρ:Nat->Nat}{b:cL}(h:b.loose=true):b.pj ρ=b:=by cases b<;>first|rfl|cases h
structure Sub(j:J)(M:aC)(w:World)(ids:List Nat)(B:aC):Prop where
 nodup:ids.Nodup
 len:B.length=ids.length
 box:∀(i id:Nat),ids[i]?=some id->∃b,M[id]?=some b/\b.flat=true/\B[i]?=some (b.pj (iy ids))
 closed:∀(i:Nat)(b:cL),i∈ids->M[i]?=some b->∀x,x∈b.ids->x∈ids
def down(j:J)(M:aC)(ids:List Nat):J:=⟨fun i=>match ids[i]? with|some id=>j id|none=>none,fun b off=>j.X b off\/∃id,id<M.length/\id∉ids/\j id=some b/\¬ ∃sz n,M[id]?=some (.tick sz n)/\off<n*sz⟩
section
variable {j:J} {M B:aC} {w:World} {ids:List Nat}
theorem Sub.at_(s:Sub j M w ids B){id:Nat}(h:id∈ids){b:cL}(hb:M[id]?=some b):B[iy ids id]?=some (b.pj (iy ids)):=by
 obtain⟨b',h1,_,h2⟩:=s.box _ _ (ub h)
 grind
theorem Sub.inv(s:Sub j M w ids B){i:Nat}{c:cL}(h:B[i]?=some c):∃id b,ids[i]?=some id/\M[id]?=some b/\b.flat=true/\c=b.pj (iy ids):=by
 have hi:i<ids.length:=by rw[<-s.len]; grind
 obtain⟨b,h1,h2,h3⟩:=s.box i _ (ai hi)
 grind
theorem ng{id:Nat}(h:id∈ids):(down j M ids) (iy ids id)=j id:=by grind [down,ub]
theorem rl{i b:Nat}(h:(down j M ids) i=some b):∃id,ids[i]?=some id/\j id=some b:=by
 grind [down]
def Sub.iA(s:Sub j M w ids B){b off:Nat}(h:om j M w b off):om (down j M ids) B w b off:=by
 refine⟨h.lt,fun i hi hj=>?_,fun hx=>?_⟩
 ·obtain⟨id,h1,h2⟩:=rl hj;obtain⟨bx,h3,_,h4⟩:=s.box i _ h1;obtain⟨sz,n,h5,h6⟩:=h.ids _ (aN h3) h2;rw[h3] at h5; cases h5;exact⟨sz,n,h4,h6⟩
 ·rcases hx with hx|⟨id,h1,_,h2,h3⟩
  ·exact h.nx hx
  ·exact h3 (h.ids _ h1 h2)
theorem Sub.WJ(s:Sub j M w ids B){x:ag}{v:Value}(h:gu j M w x v)(hf:x.IC=true)(hi:∀i,i∈x.iI->i∈ids):gu (down j M ids) B w (x.uk (iy ids)) v:=by
 cases h with
 |plain h =>
  have:x.uk (iy ids)=x:=by cases h<;>rfl
  rw[this];exact .plain (h.mono fun b off hs=>⟨s.iA hs,rfl⟩)
 |c0 A=>exact .c0 A
 | @own k xs v sz n hk hn hp ht =>
  have hki:k∈ids:=hi k (by simp[ag.iI])
  refine .own (sz:=sz) (n:=n) (s.at_ hki hk) hn (hp.mono fun b off hs=>⟨s.iA hs,rfl⟩) fun he=>?_
  rcases ht he with ⟨g1,g2,g3⟩|⟨b,cap,vs,t,g1,g2,g3,g4,g5⟩
  ·exact .inl ⟨by rw[ng hki]; omega,g2,g3⟩
  ·exact .inr ⟨b,cap,vs,t,by rw[ng hki]; exact g1,g2,g3,g4,g5⟩
 |agg=>cases hf
 |tuple=>cases hf
 | @ptr id off b hid hc hj =>
  have hki:id∈ids:=hi id (by simp[ag.iI])
  obtain⟨cs,hc⟩:=hc;exact .ptr (by rw[s.len]; exact uL hki) ⟨_,s.at_ hki hc⟩ (by rw[ng hki]; omega)
 |jB h=>exact .jB fun k c hk=>⟨(h k c hk).1,s.iA (h k c hk).2.1,(h k c hk).2.2.mono fun b off hs=>⟨s.iA hs,rfl⟩⟩
 |func=>cases hf
 | @iz id b hc hj =>
  have hki:id∈ids:=hi id (by simp[ag.iI])
  obtain⟨ks,vs,hc⟩:=hc;exact .iz ⟨_,_,s.at_ hki hc⟩ (by rw[ng hki]; exact hj)
 | @j4 id b hc hj =>
  have hki:id∈ids:=hi id (by simp[ag.iI])
  obtain⟨ks,vs,hc⟩:=hc;exact .j4 ⟨_,_,s.at_ hki hc⟩ (by rw[ng hki]; omega)
 | @kj t id off b hc hj =>
  have hki:id∈ids:=hi id (by simp[ag.iI])
  obtain⟨cs,hc⟩:=hc;exact .kj ⟨_,s.at_ hki hc⟩ (by rw[ng hki]; exact hj)
 |qV hl hd=>exact .qV hl fun i c v h1 h2=>(hd i c v h1 h2).mono fun b off hs=>⟨s.iA hs,rfl⟩
 | @kf ks vs b es cl hb hfr hx hw hk hv hks hvs =>
  refine .kf hb (fun i _ he=>?_) (fun off hx'=>?_) hw hk hv (fun i k e h1 h2=>(hks i k e h1 h2).mono fun b off hs=>⟨s.iA hs,rfl⟩) (fun i k e h1 h2=>(hvs i k e h1 h2).mono fun b off hs=>⟨s.iA hs,rfl⟩)
  ·obtain⟨id,h1,h2⟩:=rl he;obtain⟨bx,h3,_⟩:=s.box _ _ h1
   grind
  ·rcases hx' with hx'|⟨id,h1,_,h2,_⟩
   ·exact hx off hx'
   grind
 | @cB id ver sz0 lo hi v h0 hid hM hv =>
  have hki:id∈ids:=hi id (by simp[ag.iI])
  have hb:=ai hid;have hat:=s.at_ hki hb;rw[x7 (hM _ hb)] at hat;refine .cB h0 (by rw[s.len]; exact uL hki) (fun bx hbx=>?_) fun sz v' xs h=>?_
  ·rw[hat] at hbx; exact hM bx (hb.trans hbx)
  ·rw[hat] at h;obtain⟨k1,k2⟩:=hv sz v' xs (hb.trans h)
   exact⟨k1,fun he=>by
    obtain⟨l0,l1,l2,⟨l3,l4,l5⟩|⟨b,cap,vs,t,l3,r⟩⟩:=k2 he
    ·exact⟨l0,l1,l2,.inl ⟨l3,by rw[ng hki]; omega,l5⟩⟩
    exact⟨l0,l1,l2,.inr ⟨b,cap,vs,t,by rw[ng hki]; omega,r⟩⟩⟩
 | @jt id ver i off v h0 hid hM hv =>
  have hki:id∈ids:=hi id (by simp[ag.iI])
  have hb:=ai hid;have hat:=s.at_ hki hb;rw[x7 (hM _ hb)] at hat;refine .jt h0 (by rw[s.len]; exact uL hki) (fun bx hbx=>?_) fun sz v' xs h=>?_
  ·rw[hat] at hbx; exact hM bx (hb.trans hbx)
  grind [ng]
 |any v=>exact .any v
theorem Sub.L3(s:Sub j M w ids B){x:ag}{v:Value}(h:gu j M w x v)(hf:x.vu=true)(hi:∀i,i∈x.nC->i∈ids):gu (down j M ids) B w (x.sd (iy ids)) v:=by
 by_cases hfn:∃f caps,x = .func f caps
 ·obtain⟨f,caps,rfl⟩:=hfn;obtain⟨vs,rfl,hl,hc⟩:=h.ru;refine .func j6 fun i c u hci hu=>?_
  rw[aX,aV] at hci;obtain⟨c0,hc0,rfl⟩:=hci;have hm:=aI hc0;exact s.WJ (hc i _ u hc0 hu) (bM.1 hf _ hm) fun q hq=>hi q (jr.2 ⟨c0,hm,hq⟩)
 ·have e1:x.sd (iy ids)=x.uk (iy ids):=by cases x<;>first|rfl|grind
  have e2:x.nC=x.iI:=by cases x<;>first|rfl|grind
  have e3:x.IC=true:=by cases x<;>first|rfl|exact absurd ⟨_,_,rfl⟩ hfn|cases hf
  rw[e1];exact s.WJ h e3 (by rw[<-e2]; omega)
theorem Sub.rep(s:Sub j M w ids B){x:ag}{v:Value}(h:gu j M w x v)(hf:x.flat=true)(hi:∀i,i∈x.ids->i∈ids):gu (down j M ids) B w (x.pj (iy ids)) v:=by
 by_cases hag:∃cs,x = .agg cs
 ·obtain⟨cs,rfl⟩:=hag;obtain⟨vs,rfl,hl,hc⟩:=h.mW;refine .agg j6 fun i c u hci hu=>?_
  rw[aX,aV] at hci;obtain⟨c0,hc0,rfl⟩:=hci;have hm:=aI hc0;exact s.L3 (hc i _ u hc0 hu) (bM.1 hf _ hm) fun q hq=>hi q (jr.2 ⟨c0,hm,hq⟩)
 ·have e1:x.pj (iy ids)=x.sd (iy ids):=by cases x<;>first|rfl|grind
  have e2:x.ids=x.nC:=by cases x<;>first|rfl|grind
  have e3:x.vu=true:=by cases x<;>first|exact hf|grind
  rw[e1];exact s.L3 h e3 (by rw[<-e2]; omega)
theorem Sub.rel(s:Sub j M w ids B)(hr:Rel j M w):Rel (down j M ids) B w:=by
 have Qx:∀ {i id:Nat},ids[i]?=some id->id<M.length:=fun h=>by
  obtain⟨b,h1,_⟩:=s.box _ _ h
  grind
 refine⟨fun i i' b hi hi' h h'=>?_,fun i b hi h=>?_,fun i cb h hf=>?_,fun i sz n b h hj=>?_,fun i sz ver xs h=>?_,fun i b hi h off hx=>?_,fun b off h=>?_⟩
 ·obtain⟨id,h1,h2⟩:=rl h;obtain⟨id',h1',h2'⟩:=rl h';have:=hr.inj id id' b (Qx h1) (Qx h1') h2 h2';subst this;rw[<-CM s.nodup h1,CM s.nodup h1']
 ·obtain⟨id,h1,h2⟩:=rl h;exact hr.lt id b (Qx h1) h2
 ·obtain⟨id,bx,h1,h2,h3,h4⟩:=s.inv h;subst h4;have hfx:bx.fixed=true:=by cases bx<;>first|rfl|cases hf
  obtain⟨b,g1,g2⟩:=hr.fix id bx h2 hfx;refine⟨b,by grind [down],?_⟩
  have hcl:∀p,p∈bx.ids->p∈ids:=s.closed id _ (aI h1) h2;cases bx with
  |tick sz n=>cases hf
  |cells cs0 =>
   obtain⟨vs,t,k1,k2,k3⟩:=g2;refine⟨vs,t,k1,by simpa using k2,fun q c v hc hv=>?_⟩
   rw[aX,aV] at hc;obtain⟨c0,hc0,rfl⟩:=hc;have hm:=aI hc0;exact s.L3 (k3 q c0 v hc0 hv) (bM.1 h3 c0 hm) fun p hp=>hcl p (jr.2 ⟨c0,hm,hp⟩)
  |map ks vs =>
   obtain⟨es,cl,k1,k2,k3,k4,k5⟩:=g2;refine⟨es,cl,k1,k2,by simpa using k3,fun q c e hc he=>(k4 q c e hc he).mono fun b off hs=>⟨s.iA hs,rfl⟩,fun q c e hc he=>?_⟩
   rw[aX,aV] at hc;obtain⟨c0,hc0,rfl⟩:=hc;have hm:=aI hc0;exact s.rep (k5 q c0 e hc0 he) (bM.1 h3 c0 hm) fun p hp=>hcl p (jr.2 ⟨c0,hm,hp⟩)
  |nR st pos=>exact g2
  |vO=>cases hf
  |arr=>cases hf
 ·obtain⟨id,bx,h1,h2,h3,h4⟩:=s.inv h;obtain⟨id',h1',h2'⟩:=rl hj;rw[h1] at h1'; cases h1';cases bx<;>first|cases h4|skip
  exact hr.tick id _ _ b h2 h2'
 ·obtain⟨id,bx,h1,h2,h3,h4⟩:=s.inv h;cases bx<;>first|cases h4|skip
  obtain⟨g0,g1⟩|⟨b,vs,t,g1,g2,g3,g4,g5⟩:=hr.arr id _ _ _ h2
  ·grind [down]
  exact .inr ⟨b,vs,t,by grind [down],g2,g3,g4,fun q x k c hx hk=>(g5 q x k c hx hk).imp fun u hu=>⟨hu.1,hu.2.mono fun b off hs=>⟨s.iA hs,rfl⟩⟩⟩
 ·obtain⟨id,h1,h2⟩:=rl h;rcases hx with hx|⟨id',g1,g2,g3,_⟩
  ·exact hr.vd id b (Qx h1) h2 off hx
  ·have:=hr.inj id id' b (Qx h1) g1 h2 g3
   grind
 ·rcases h with h|⟨id,g1,_,g3,_⟩
  ·exact hr.Aq b off h
  ·exact hr.lt id b g1 g3
variable {j2:J} {B':aC} {w':World}
open Classical in
noncomputable def Qc(j j2:J)(ids:List Nat):J:=⟨fun id=>if id∈ids then j2 (iy ids id) else j id,j.X⟩
theorem lO{id:Nat}(h:id∈ids):(Qc j j2 ids) id=j2 (iy ids id):=by grind [Qc]
theorem oQ{id:Nat}(h:id∉ids):(Qc j j2 ids) id=j id:=by grind [Qc]
structure wN(j:J)(M B:aC)(w:World)(ids:List Nat)(j2:J)(B':aC)(w':World):Prop where
 sub:Sub j M w ids B
 hr:Rel j M w
 ext:Ext (down j M ids) B w j2 B' w'
 rel:Rel j2 B' w'
 len:B'.length=B.length
 flat:∀b,b∈B'->b.flat=true
variable (bk:wN j M B w ids j2 B' w')
include bk
theorem wN.Qx{i id:Nat}(h:ids[i]?=some id):id<M.length:=by
 obtain⟨b,h1,_⟩:=bk.sub.box _ _ h
 grind
def wN.Lq{id:Nat}(h:id∈ids){b:cL}(hb:B'[iy ids id]?=some b):(ma ids M ids B')[id]?=some (b.pj (wu ids)) :=
 (wk bk.sub.nodup (by rw[bk.len,bk.sub.len])).2.2 _ _ b (ub h) (bk.Qx (ub h)) hb
def wN.LX{id:Nat}(h:id∉ids):(ma ids M ids B')[id]?=M[id]?:=(wk bk.sub.nodup (by rw[bk.len,bk.sub.len])).2.1 _ h
def wN.si:(ma ids M ids B').length=M.length:=(wk bk.sub.nodup (by rw[bk.len,bk.sub.len])).1
def wN.some_{id:Nat}(h:id∈ids):∃b,B'[iy ids id]?=some b/\b.flat=true:=by
 have hi:iy ids id<B'.length:=by rw[bk.len,bk.sub.len]; exact uL h
 exact⟨_,ai hi,bk.flat _ (jq _)⟩
theorem wN.uh{id b:Nat}(hid:id<M.length)(h:id∉ids)(hj:j id=some b):w'.heap[b]?=w.heap[b]?/\∀i,i<B'.length->j2 i≠some b:=by
 refine bk.ext.uh b (bk.hr.lt _ b hid hj) fun i hi he=>?_
 obtain⟨id',h1,h2⟩:=rl he;have:=bk.hr.inj _ _ b hid (bk.Qx h1) hj h2
 grind
def wN.iA{b off:Nat}(h:om j2 B' w' b off):om (Qc j j2 ids) (ma ids M ids B') w' b off:=by
 have hX:=bk.ext.X;have hnx:=h.nx;rw[hX] at hnx;refine⟨h.lt,fun id hid hj=>?_,fun hx=>hnx (.inl hx)⟩
 rw[bk.si] at hid
 by_cases hi:id∈ids
 ·rw[lO hi] at hj;obtain⟨sz,n,h1,h2⟩:=h.ids _ (by rw[bk.len,bk.sub.len]; exact uL hi) hj
  exact⟨sz,n,bk.Lq hi h1,h2⟩
 ·rw[oQ hi] at hj;rw[bk.LX hi];exact Classical.byContradiction fun hc=>hnx (.inr ⟨id,hid,hi,hj,hc⟩)
def wN.YG:Ext j M w (Qc j j2 ids) (ma ids M ids B') w' where
 len:=by rw[bk.si]; exact au _
 size:=bk.ext.size
 os:=bk.ext.os
 tape:=bk.ext.tape
 output:=bk.ext.output
 X:=rfl
 fix:=fun id bx h hf=>by
  by_cases hi:id∈ids
  ·obtain⟨g1,bx',g2,g3⟩:=bk.ext.fix _ _ (bk.sub.at_ hi h) (by cases bx<;>first|rfl|cases hf)
   rw[lO hi,g1,ng hi];refine⟨rfl,_,bk.Lq hi g2,?_⟩;rw[NH,g3,NH]
  ·rw[oQ hi,bk.LX hi]; exact⟨rfl,bx,h,rfl⟩
 tick:=fun id sz n h=>by
  by_cases hi:id∈ids
  ·obtain⟨n',g1,g2,g3⟩:=bk.ext.tick _ _ _ (bk.sub.at_ hi h);refine⟨n',g1,bk.Lq hi g2,fun he=>?_⟩
   obtain⟨k1,k2⟩:=g3 he;rw[lO hi,k1,ng hi];exact⟨rfl,fun b vs t hb hv=>k2 b vs t (by rw[ng hi]; exact hb) hv⟩
  ·rw[oQ hi,bk.LX hi];exact⟨n,au _,h,fun _=>⟨rfl,fun b vs t hb hv=>⟨vs,(bk.uh (aN h) hi hb).1.trans hv,rfl⟩⟩⟩
 arr:=fun id sz v xs h=>by
  by_cases hi:id∈ids
  ·rcases bk.ext.arr _ _ _ _ (bk.sub.at_ hi h) with ⟨n',g⟩|⟨v',xs',g2,g3,g4⟩
   ·exact .inl ⟨n',bk.Lq hi g⟩
   ·refine .inr ⟨v',xs',bk.Lq hi g2,g3,fun he=>?_⟩
    obtain⟨k1,k2,k3⟩:=g4 he;rw[lO hi,k1,ng hi];exact⟨rfl,k2,fun b vs t hb hv=>k3 b _ t (by rw[ng hi]; exact hb) hv⟩
  ·rw[oQ hi,bk.LX hi];exact .inr ⟨v,xs,h,au _,fun _=>⟨rfl,rfl,fun b vs t hb hv=>⟨vs,(bk.uh (aN h) hi hb).1.trans hv,rfl⟩⟩⟩
 tags:=bk.ext.tags
 iA:=fun b off h=>by
  obtain⟨h1,h2⟩:=bk.ext.iA b _ (bk.sub.iA h);exact⟨bk.iA h1,h2⟩
 uh:=fun b hb h=>by
  have h1:∀i,i<B.length->(down j M _) i≠some b:=fun i _ he=>by
   obtain⟨id,g1,g2⟩:=rl he;exact h id (bk.Qx g1) g2
  obtain⟨h2,h3⟩:=bk.ext.uh b hb h1;refine⟨h2,fun id hid he=>?_⟩
  rw[bk.si] at hid
  by_cases hi:id∈ids
  ·rw[lO hi] at he;exact h3 _ (by rw[bk.len,bk.sub.len]; exact uL hi) he
  ·rw[oQ hi] at he;exact h id hid he
def wN.C7{i:Nat}(h:i<B'.length):∃id,ids[i]?=some id/\id∈ids/\wu ids i=id/\iy ids id=i:=by
 have hi:i<ids.length:=by rw[<-bk.sub.len,<-bk.len]; omega
 have hg:=ai hi;exact⟨_,hg,aI hg,aed hg,CM bk.sub.nodup hg⟩
theorem wN.WJ{x:ag}{v:Value}(h:gu j2 B' w' x v)(hf:x.IC=true):gu (Qc j j2 ids) (ma ids M ids B') w' (x.uk (wu ids)) v:=by
 cases h with
 |plain h =>
  have:x.uk (wu ids)=x:=by cases h<;>rfl
  rw[this];exact .plain (h.mono fun b off hs=>⟨bk.iA hs,rfl⟩)
 |c0 A=>exact .c0 A
 | @own k xs v sz n hk hn hp ht =>
  obtain⟨id,g1,g2,g3,g4⟩:=bk.C7 (aN hk);simp only[ag.uk,g3];refine .own (sz:=sz) (n:=n) (bk.Lq g2 (b := .tick sz n) (by rw[g4]; exact hk)) hn (hp.mono fun b off hs=>⟨bk.iA hs,rfl⟩) fun he=>?_
  rcases ht he with ⟨e1,e2,e3⟩|⟨b,cap,vs,t,e1,e2,e3,e4,e5⟩
  ·exact .inl ⟨by rw[lO g2,g4]; omega,e2,e3⟩
  ·exact .inr ⟨b,cap,vs,t,by rw[lO g2,g4]; grind,e2,e3,e4,e5⟩
 | @kj t k off b hc hj =>
  obtain⟨cs,hc⟩:=hc;obtain⟨id,g1,g2,g3,g4⟩:=bk.C7 (aN hc);simp only[ag.uk,g3];exact .kj ⟨_,bk.Lq g2 (b := .cells cs) (by rw[g4]; omega)⟩ (by rw[lO g2,g4]; omega)
 |agg=>cases hf
 |tuple=>cases hf
 | @ptr k off b hid hc hj =>
  obtain⟨id,g1,g2,g3,g4⟩:=bk.C7 hid;obtain⟨cs,hc⟩:=hc;simp only[ag.uk,g3];exact .ptr (by rw[bk.si]; exact bk.Qx g1) ⟨_,bk.Lq g2 (b := .cells cs) (by rw[g4]; exact hc)⟩ (by rw[lO g2,g4]; omega)
 |jB h=>exact .jB fun k c hk=>⟨(h k c hk).1,bk.iA (h k c hk).2.1,(h k c hk).2.2.mono fun b off hs=>⟨bk.iA hs,rfl⟩⟩
 |func=>cases hf
 | @iz k b hc hj =>
  obtain⟨ks,vs,hc⟩:=hc;obtain⟨id,g1,g2,g3,g4⟩:=bk.C7 (aN hc);simp only[ag.uk,g3];exact .iz ⟨_,_,bk.Lq g2 (b := .map ks vs) (by rw[g4]; omega)⟩ (by rw[lO g2,g4]; omega)
 | @j4 k b hc hj =>
  obtain⟨st,p,hc⟩:=hc;obtain⟨id,g1,g2,g3,g4⟩:=bk.C7 (aN hc);simp only[ag.uk,g3];exact .j4 ⟨_,_,bk.Lq g2 (b := .nR st p) (by rw[g4]; exact hc)⟩ (by rw[lO g2,g4]; exact hj)
 |qV hl hd=>exact .qV hl fun i c v h1 h2=>(hd i c v h1 h2).mono fun b off hs=>⟨bk.iA hs,rfl⟩
 | @kf ks vs b es cl hb hfr hx hw hk hv hks hvs =>
  rw[bk.ext.X] at hx;refine .kf hb (fun id hid he=>?_) (fun off hx'=>hx off (.inl hx')) hw hk hv (fun i k e h1 h2=>(hks i k e h1 h2).mono fun b off hs=>⟨bk.iA hs,rfl⟩) (fun i k e h1 h2=>(hvs i k e h1 h2).mono fun b off hs=>⟨bk.iA hs,rfl⟩)
  rw[bk.si] at hid
  by_cases m:id∈ids
  ·rw[lO m] at he;exact hfr _ (by rw[bk.len,bk.sub.len]; exact uL m) he
  ·rw[oQ m] at he
   by_cases ht:∃sz n,M[id]?=some (.tick sz n)
   ·obtain⟨sz,n,ht⟩:=ht;refine hx (n*sz) (.inr ⟨id,hid,m,he,?_⟩)
    grind
   ·exact hx 0 (.inr ⟨id,hid,m,he,fun⟨sz,n,h1,_⟩=>ht ⟨sz,n,h1⟩⟩)
 | @cB k ver sz0 lo hi v h0 hid hM hv =>
  obtain⟨id,g1,g2,g3,g4⟩:=bk.C7 hid;have hb:=ai hid;have hin:=bk.Lq g2 (b:=B'[k]) (by rw[g4]; exact hb)
  rw[x7 (hM _ hb)] at hin;simp only[ag.uk,g3];refine .cB h0 (by rw[bk.si]; exact bk.Qx g1) (fun bx hbx=>?_) fun sz v' xs h=>?_
  ·rw[hin] at hbx; exact hM bx (hb.trans hbx)
  ·rw[hin] at h;obtain⟨k1,k2⟩:=hv sz v' xs (hb.trans h)
   exact⟨k1,fun he=>by
    obtain⟨l0,l1,l2,⟨l3,l4,l5⟩|⟨b,cap,vs,t,l3,r⟩⟩:=k2 he
    ·exact⟨l0,l1,l2,.inl ⟨l3,by rw[lO g2,g4]; exact l4,l5⟩⟩
    exact⟨l0,l1,l2,.inr ⟨b,cap,vs,t,by rw[lO g2,g4]; exact l3,r⟩⟩⟩
 | @jt k ver i off v h0 hid hM hv =>
  obtain⟨id,g1,g2,g3,g4⟩:=bk.C7 hid;have hb:=ai hid;have hin:=bk.Lq g2 (b:=B'[k]) (by rw[g4]; exact hb)
  rw[x7 (hM _ hb)] at hin;simp only[ag.uk,g3];refine .jt h0 (by rw[bk.si]; exact bk.Qx g1) (fun bx hbx=>?_) fun sz v' xs h=>?_
  ·rw[hin] at hbx; exact hM bx (hb.trans hbx)
  grind [lO]
 |any v=>exact .any v
theorem wN.L3{x:ag}{v:Value}(h:gu j2 B' w' x v)(hf:x.vu=true):gu (Qc j j2 ids) (ma ids M ids B') w' (x.sd (wu ids)) v:=by
 by_cases hfn:∃f caps,x = .func f caps
 ·obtain⟨f,caps,rfl⟩:=hfn;obtain⟨vs,rfl,hl,hc⟩:=h.ru;refine .func j6 fun i c u hci hu=>?_
  rw[aX,aV] at hci;obtain⟨c0,hc0,rfl⟩:=hci;exact bk.WJ (hc i _ u hc0 hu) (bM.1 hf _ (aI hc0))
 ·have e1:x.sd (wu ids)=x.uk (wu ids):=by cases x<;>first|rfl|grind
  have e3:x.IC=true:=by cases x<;>first|rfl|exact absurd ⟨_,_,rfl⟩ hfn|cases hf
  rw[e1];exact bk.WJ h e3
theorem wN.rep{x:ag}{v:Value}(h:gu j2 B' w' x v)(hf:x.flat=true):gu (Qc j j2 ids) (ma ids M ids B') w' (x.pj (wu ids)) v:=by
 by_cases hag:∃cs,x = .agg cs
 ·obtain⟨cs,rfl⟩:=hag;obtain⟨vs,rfl,hl,hc⟩:=h.mW;refine .agg j6 fun i c u hci hu=>?_
  rw[aX,aV] at hci;obtain⟨c0,hc0,rfl⟩:=hci;exact bk.L3 (hc i _ u hc0 hu) (bM.1 hf _ (aI hc0))
 ·have e1:x.pj (wu ids)=x.sd (wu ids):=by cases x<;>first|rfl|grind
  have e3:x.vu=true:=by cases x<;>first|exact hf|grind
  rw[e1];exact bk.L3 h e3
theorem wN.atO{x:ag}{v:Value}(h:gu j2 B' w' x v)(hf:x.wz=true):gu (Qc j j2 ids) (ma ids M ids B') w' (x.Ah (wu ids)) v:=by
 by_cases ht:∃vs,x = .tuple vs
 ·obtain⟨cs,rfl⟩:=ht;obtain⟨vs,rfl,hl,hc⟩:=h.tJ;refine .tuple j6 fun i c u hci hu=>?_
  rw[aX,aV] at hci;obtain⟨c0,hc0,rfl⟩:=hci;exact bk.rep (hc i _ u hc0 hu) (bM.1 hf _ (aI hc0))
 ·have e1:x.Ah (wu ids)=x.pj (wu ids):=by cases x<;>first|rfl|grind
  have e3:x.flat=true:=by cases x<;>first|exact hf|grind
  rw[e1];exact bk.rep h e3
theorem wN.ant:Rel (Qc j j2 ids) (ma ids M ids B') w':=by
 have ltin:∀ {id:Nat},id∈ids->iy ids id<B'.length:=fun h=>by rw[bk.len,bk.sub.len]; exact uL h
 refine⟨fun id id' b hi hi' h h'=>?_,fun id b hi h=>?_,fun id cb h hf=>?_,fun id sz n b h hj=>?_,fun id sz ver xs h=>?_,fun id b hi h off hx=>?_,fun b off h=>bz (bk.hr.Aq b off h) bk.ext.size⟩
 ·rw[bk.si] at hi hi'
  by_cases m:id∈ids<;>by_cases m':id'∈ids
  ·rw[lO m] at h;rw[lO m'] at h';have:=bk.rel.inj _ _ b (ltin m) (ltin m') h h';rw[<-Mo m,this,Mo m']
  ·rw[lO m] at h;rw[oQ m'] at h';exact absurd h ((bk.uh hi' m' h').2 _ (ltin m))
  ·rw[oQ m] at h;rw[lO m'] at h';exact absurd h' ((bk.uh hi m h).2 _ (ltin m'))
  ·rw[oQ m] at h;rw[oQ m'] at h';exact bk.hr.inj id id' b hi hi' h h'
 ·rw[bk.si] at hi
  by_cases m:id∈ids
  ·rw[lO m] at h; exact bk.rel.lt _ b (ltin m) h
  ·rw[oQ m] at h; exact bz (bk.hr.lt id b hi h) bk.ext.size
 ·by_cases m:id∈ids
  ·obtain⟨bx,h1,h2⟩:=bk.some_ m;rw[bk.Lq m h1] at h;injection h with h
   subst h;have hfx:bx.fixed=true:=by cases bx<;>first|rfl|cases hf
   obtain⟨b,g1,g2⟩:=bk.rel.fix _ bx h1 hfx;refine⟨b,by rw[lO m]; omega,?_⟩
   cases bx with
   |tick sz n=>cases hf
   |cells cs0 =>
    obtain⟨vs,t,k1,k2,k3⟩:=g2;refine⟨vs,t,k1,j6,fun q c v hc hv=>?_⟩
    rw[aX,aV] at hc;obtain⟨c0,hc0,rfl⟩:=hc;exact bk.L3 (k3 q c0 v hc0 hv) (bM.1 h2 c0 (aI hc0))
   |map ks vs =>
    obtain⟨es,cl,k1,k2,k3,k4,k5⟩:=g2;refine⟨es,cl,k1,k2,j6,fun q c e hc he=>(k4 q c e hc he).mono fun b off hs=>⟨bk.iA hs,rfl⟩,fun q c e hc he=>?_⟩
    rw[aX,aV] at hc;obtain⟨c0,hc0,rfl⟩:=hc;exact bk.rep (k5 q c0 e hc0 he) (bM.1 h2 c0 (aI hc0))
   |nR st pos=>exact g2
   |vO=>cases hf
   |arr=>cases hf
  ·rw[bk.LX m] at h;obtain⟨b,g1,g2⟩:=bk.hr.fix id cb h hf;exact⟨b,by rw[oQ m]; omega,g2.mono bk.YG (bk.uh (aN h) m g1).1⟩
 ·by_cases m:id∈ids
  ·obtain⟨bx,h1,h2⟩:=bk.some_ m;rw[bk.Lq m h1] at h;injection h with h
   rw[lO m] at hj;cases bx<;>first|cases h|skip
   exact bk.rel.tick _ _ _ b h1 hj
  ·rw[bk.LX m] at h;rw[oQ m] at hj;obtain⟨vs,t,g⟩:=bk.hr.tick id sz n b h hj;exact⟨vs,t,(bk.uh (aN h) m hj).1.trans g⟩
 ·by_cases m:id∈ids
  ·obtain⟨bx,h1,h2⟩:=bk.some_ m;rw[bk.Lq m h1] at h;injection h with h
   cases bx<;>first|cases h|skip
   obtain⟨g0,g1⟩|⟨b,vs,t,g1,g2,g3,g4,g5⟩:=bk.rel.arr _ _ _ _ h1
   ·grind [lO]
   exact .inr ⟨b,vs,t,by rw[lO m]; omega,g2,g3,g4,fun q x k c hx hk=>(g5 q x k c hx hk).imp fun u hu=>⟨hu.1,hu.2.mono fun b off hs=>⟨bk.iA hs,rfl⟩⟩⟩
  ·rw[bk.LX m] at h;exact qC bk.hr bk.YG h (oQ m) fun b hb=>(bk.uh (aN h) m hb).1
 ·rw[bk.si] at hi
  by_cases m:id∈ids
  ·rw[lO m] at h;have:=bk.rel.vd _ b (ltin m) h off;rw[bk.ext.X] at this;exact this (.inl hx)
  ·rw[oQ m] at h;exact bk.hr.vd id b hi h off hx
end
theorem Gn{ρ:Nat->Nat}{x:ag}(h:x.iI=[]):x.uk ρ=x:=by
 cases x with
 |slice tk xs=>cases tk<;>first|rfl|grind [ag.iI]
 |ptr=>grind [ag.iI]
 |iz=>grind [ag.iI]
 |j4=>grind [ag.iI]
 |cB=>grind [ag.iI]
 |jt=>grind [ag.iI]
 |kj=>grind [ag.iI]
 |_=>rfl
def Jm{ρ:Nat->Nat}:∀ {l:List ag},l.flatMap ag.iI=[]->l.map (ag.uk ρ)=l
 | [],_=>rfl
 |c::r,h=>by
  rw[List.flatMap_cons,List.append_eq_nil_iff] at h;rw[aK,Gn h.1,Jm h.2]
theorem Gp{ρ:Nat->Nat}{x:ag}(h:x.nC=[]):x.sd ρ=x:=by
 by_cases hf:∃f caps,x = .func f caps
 ·obtain⟨f,caps,rfl⟩:=hf;exact congrArg _ (Jm h)
 ·have e1:x.sd ρ=x.uk ρ:=by cases x<;>first|rfl|grind
  have e2:x.nC=x.iI:=by cases x<;>first|rfl|grind
  grind [Gn]
def Jn{ρ:Nat->Nat}:∀ {l:List ag},l.flatMap ag.nC=[]->l.map (ag.sd ρ)=l
 | [],_=>rfl
 |c::r,h=>by
  rw[List.flatMap_cons,List.append_eq_nil_iff] at h;rw[aK,Gp h.1,Jn h.2]
theorem WI{ρ:Nat->Nat}{x:ag}(_:x.flat=true)(h:x.ids=[]):x.pj ρ=x:=by
 by_cases hf:∃cs,x = .agg cs
 ·obtain⟨cs,rfl⟩:=hf;exact congrArg _ (Jn h)
 ·have e1:x.pj ρ=x.sd ρ:=by cases x<;>first|rfl|grind
  have e2:x.ids=x.nC:=by cases x<;>first|rfl|grind
  grind [Gp]
theorem ri{P:Program}{C:eR}(hC:nI P C){j:J}{M:aC}{w:World}{f:Nat}{vs:List ag}{us:Array Value}{x:ag×aC}(hr:Rel j M w)(hG:sO j M w)(h:aR C f vs M=some x)
  (hl:vs.length=us.size) (hv:∀(i:Nat)(c:ag)(u:Value),vs[i]?=some c->us[i]?=some u->gu j M w c u) :
  lB P f=true/\Calls P f us w fun e w'=>vP j M w x e w':=by
 unfold aR at h;generalize hids:reach M (vs.flatMap ag.ids)=ids at h;split at h
 ·rename_i hf;obtain⟨B,hB,h⟩:=bp h;split at h
  ·rename_i hcl;obtain⟨y,hy,h⟩:=bp h;split at h
   ·rename_i hcond;obtain⟨c1,c2,c3⟩:=hcond;cases h;obtain⟨h1,h2⟩:=hC _ _ _ _ hy;obtain⟨p1,p2⟩:=Ek hB;have s:Sub j M w ids B:=⟨by rw[<-hids]; simp[Ju],p1,p2,fun i b hi hb x hx=>OI hcl hi hb hx⟩
    refine⟨h1,(h2 (down j M ids) w us (s.rel hr) (hG.iA fun b off h=>s.iA h) j6 fun i c u hc hu=>?_).mono ?_⟩
    ·rw[aX,aV] at hc;obtain⟨c0,hc0,rfl⟩:=hc;have hm:=aI hc0;exact s.rep (hv i c0 u hc0 hu) (bM.1 hf c0 hm) fun q hq=>by rw[<-hids]; exact PB (jr.2 ⟨c0,hm,hq⟩)
    ·rintro e w' (⟨v,rfl,j2,g1,g2,g3⟩|⟨u,rfl,hu,j2,g1,g2⟩)
     ·have bk:wN j M B w ids j2 y.2 w':=⟨s,hr,g2,g1,c1,fun b hb=>bM.1 c3 b hb⟩
      exact .inl ⟨v,rfl,Qc j j2 ids,bk.ant,bk.YG,bk.atO g3 c2⟩
     ·have bk:wN j M B w ids j2 y.2 w':=⟨s,hr,g2,g1,c1,fun b hb=>bM.1 c3 b hb⟩
      exact .inr ⟨u,rfl,by rw[hu]; rfl,Qc j j2 ids,bk.ant,bk.YG⟩
   grind
  grind
 grind
theorem WR{j j2:J}{G:aC}{w w':World}{p sz n:Nat}{xs:List ag}{v:Value}(hr:Rel j G w)(hp:G[p]?=some .vO)(h2:Rel j2 [.tick sz n] w')(hx:Ext (down j G []) [] w j2 [.tick sz n] w')
  (hv:gu j2 [.tick sz n] w' (.slice (.own 0) xs) v):iV j G w (.slice (.own p) xs,G.set p (.tick sz n)) v w':=by
 have hpl:=aN hp
 have hold:∀b,b<w.heap.size->w'.heap[b]?=w.heap[b]?/\j2 0≠some b:=fun b hb=>by
  obtain⟨h1,h3⟩:=hx.uh b hb (fun i hi=>by simp at hi)
  exact⟨h1,h3 0 dw⟩
 have up:∀i,i≠p->gF j p (j2 0) i=j i:=fun i hi=>by simp[gF,hi]
 have atp:gF j p (j2 0) p=j2 0:=by simp[gF]
 have nX:∀ {b off},om j2 [.tick sz n] w' b off->¬j.X b off/\∀id,id<G.length->j id=some b->∃sz n,G[id]?=some (.tick sz n)/\off<n*sz:=fun {b off} hs=>by
  have:=hs.nx;rw[hx.X] at this;refine⟨fun h=>this (.inl h),fun id hid hj=>?_⟩
  by_cases hc:∃sz n,G[id]?=some (.tick sz n)/\off<n*sz
  ·exact hc
  ·exact absurd (Or.inr ⟨id,hid,dw,hj,hc⟩) this
 have iA:∀b off,om j2 [.tick sz n] w' b off->om (gF j p (j2 0)) (G.set p (.tick sz n)) w' b off:=fun b off hs=>by
  obtain⟨n1,n2⟩:=nX hs;refine⟨hs.lt,fun id hid hj=>?_,n1⟩
  by_cases e:id=p
  ·subst e;rw[atp] at hj;obtain⟨s1,m1,h3,h4⟩:=hs.ids 0 dw hj
   grind
  grind
 have q:Quiet w w':=⟨hx.size,hx.os,hx.tape,hx.output⟩
 have ext:Ext j G w (gF j p (j2 0)) (G.set p (.tick sz n)) w':={
  len:=dw
  size:=q.size
  os:=q.os
  tape:=q.tape
  output:=q.output
  X:=rfl
  fix:=fun i bx h hf=>by
   have e:i≠p:=by rintro rfl; rw[hp] at h; cases h; cases hf
   grind
  tick:=fun i sz n h=>by
   grind
  arr:=fun i sz v xs h=>by
   grind
  tags:=fun b0 vs0 t0 fr0 h=>⟨vs0,fr0,(hold b0 (lt_of_block h)).1.trans h,rfl⟩
  iA:=fun b0 off h=>by
   refine⟨⟨bz h.1 q.size,fun id hid hj=>?_,h.3⟩,World.cell?_of_block (w:=w) (hold b0 h.1).1⟩
   by_cases e:id=p
   ·subst e; rw[atp] at hj; exact absurd hj (hold b0 h.1).2
   ·rw[cN (eY e)];rw[up id e] at hj;exact h.2 id (by simpa using hid) hj
  uh:=fun b0 cJ h=>by
   grind }
 refine⟨gF j p (j2 0),⟨fun i i' b0 hi hi' h h'=>?_,fun i b0 hi h=>?_,fun i bx' h hf=>?_,fun i sz0 n0 b0 h hj=>?_,fun i sz0 ver ys h=>?_,fun i b0 hi h off hxx=>?_,fun b off h=>bz (hr.Aq b off h) q.size⟩,ext,?_⟩
 ·simp only[dL] at hi hi'
  by_cases e:i=p<;>by_cases e':i'=p
  ·omega
  ·subst e;rw[atp] at h; rw[up i' e'] at h';exact absurd h (hold b0 (hr.lt i' b0 hi' h')).2
  ·subst e';rw[atp] at h'; rw[up i e] at h;exact absurd h' (hold b0 (hr.lt i b0 hi h)).2
  ·rw[up i e] at h; rw[up i' e'] at h';exact hr.inj i i' b0 hi hi' h h'
 ·simp only[dL] at hi
  by_cases e:i=p
  ·subst e; rw[atp] at h; exact h2.lt 0 b0 dw h
  ·rw[up i e] at h;exact bz (hr.lt i b0 hi h) q.size
 ·by_cases e:i=p
  ·subst e;rw[ec hpl] at h;cases h; cases hf
  ·rw[cN (eY e)] at h;obtain⟨b0,h1,h3⟩:=hr.fix i bx' h hf;exact⟨b0,by rw[up i e]; exact h1,h3.mono ext (hold b0 (hr.lt i b0 (aN h) h1)).1⟩
 ·by_cases e:i=p
  ·subst e; rw[atp] at hj;exact h2.tick 0 sz n b0 rfl hj
  ·rw[cN (eY e)] at h;rw[up i e] at hj;obtain⟨vs,t,h1⟩:=hr.tick i sz0 n0 b0 h hj;exact⟨vs,t,(hold b0 (lt_of_block h1)).1.trans h1⟩
 ·by_cases e:i=p
  ·subst e; rw[ec hpl] at h; cases h
  ·rw[cN (eY e)] at h;exact qC hr ext h (up i e) fun b0 h1=>(hold b0 (hr.lt i b0 (aN h) h1)).1
 ·simp only[dL] at hi
  by_cases e:i=p
  ·subst e; rw[atp] at h;exact absurd h (hold b0 (hr.Aq b0 off hxx)).2
  ·rw[up i e] at h;exact hr.vd i b0 hi h off hxx
 ·cases hv with
  |plain h=>cases h
  |own hk hn h ht =>
   simp at hk;obtain⟨rfl,rfl⟩:=hk;refine .own (ec hpl) hn (h.mono fun b off hs=>⟨iA b off hs,rfl⟩) fun he=>?_
   rcases ht he with ⟨h1,h3,h4⟩|⟨b,cap,vs,t,h1,h3,h4,h5,h6⟩
   ·exact .inl ⟨by rw[atp]; exact h1,h3,h4⟩
   ·exact .inr ⟨b,cap,vs,t,by rw[atp]; exact h1,h3,h4,h5,h6⟩
theorem P1{P:Program}{C:eR}(hC:nI P C){j:J}{G:aC}{w:World}{f p:Nat}{vs:List ag}{us:Array Value}{xs:List ag}{sz n:Nat}(hr:Rel j G w)(hG:sO j G w)(hp:G[p]?=some .vO)(hf:vs.all ag.flat=true)(hi:vs.flatMap ag.ids=[])
  (h:C f vs []=some (.slice (.own 0) xs,[.tick sz n])) (hl:vs.length=us.size) (hv:∀(i:Nat)(c:ag)(u:Value),vs[i]?=some c->us[i]?=some u->gu j G w c u) :
  lB P f=true/\Calls P f us w fun e w'=>∃v,e = .returned v/\iV j G w (.slice (.own p) xs,G.set p (.tick sz n)) v w':=by
 obtain⟨h1,h2⟩:=hC _ _ _ _ h;have s:Sub j G w _ []:=⟨lq,rfl,fun i id h=>by simp_all,fun i b hi=>j6⟩
 refine⟨h1,(h2 _ w _ (s.rel hr) (hG.iA fun b off h=>s.iA h) hl fun i c u hc hu=>?_).mono ?_⟩
 ·have hm:=aI hc
  have:=s.rep (hv i c u hc hu) (bM.1 hf c hm) fun q hq=>by
   have hci  := mB.1 hi c hm;rw[hci] at hq; omega
  rwa[WI (bM.1 hf c hm) (mB.1 hi c hm)] at this
 ·rintro e w' (⟨v,rfl,j2,g1,g2,g3⟩|⟨u,rfl,hu,_⟩)
  ·exact⟨v,rfl,WR hr hp g1 g2 g3⟩
  grind
section
variable {P:Program} {C:eR} {o:Oper} {bq:Env} {M:aC} {j:J} {w:World} {a:Act} {x:ag×aC}
theorem BI:∀ {xs:List ag} {l:List UInt8},bytesOf xs=some l->l.length=xs.length/\∀(i:Nat)(x:ag),xs[i]?=some x->∃n,x = .int .u8 n/\l[i]?=some (UInt8.ofNat n.toNat)
 | [],l,h=>by grind [bytesOf]
 |y::r,l,h=>by
  unfold bytesOf at h;split at h
  ·grind
  ·rename_i n r' e;injection e with e1 e2; subst e2
   obtain⟨l',h1,h⟩:=bp h;injection h with h; obtain⟨g1,g2⟩:=BI h1
   grind
  grind
def Gg(g:Value->ByteArray->Sem (ForInStep ByteArray))(hg:∀n s,g (.int .u8 n) s=pure (ForInStep.yield (s.push (UInt8.ofNat n.toNat)))):∀(vs:List Value)(l:List UInt8)(s:ByteArray),vs.length=l.length->(∀(i:Nat)(v:Value)(b:UInt8),vs[i]?=some v->l[i]?=some b->∃n,v = .int .u8 n/\b=UInt8.ofNat n.toNat) ->
  (forIn vs s g).run P w = .ok ⟨s.data++l.toArray⟩ w
 | [],[],s,_,_=>by rfl
 |v::vs,b::l,s,hl,h=>by
  obtain⟨n,rfl,rfl⟩:=h 0 v b rfl rfl;have:=Gg g hg vs l (s.push (UInt8.ofNat n.toNat)) j6 fun i v b hv hb=>h (i+1) v b j6 j6
  simp_all
 | [],_::_,_,hl,_=>j6
 |_::_,[],_,hl,_=>j6
theorem ahc(hr:Rel j M w)(he:cn j M w bq a){s d e:TypeId}{y:Operand}{z:fZ}(hop:o.op = .convert s d y)(hs:P.underlying s=some (.slice e))(hd:P.underlying d=some .string)(hu:P.underlying e=some (.int .u8))
  (hz:eW y=some z) (h:ef C bq M (.b2s z)=some x):∃v w',rb P o a w v w'/\iV j M w x v w':=by
 simp only[ef] at h;have h1:=cS he hz;split at h
 ·rename_i tk xs ev;obtain⟨l,hl,h⟩:=bp h;cases h;rw[ev] at h1;obtain⟨g1,g2⟩:=BI hl;refine⟨.string (bs l),w,.inl ?_,.still hr (.plain (.str _))⟩;obtain⟨A,cap,b,off,sz,vs,hv,hc,ha,hwid,hcell,hrep⟩:=h1.er.er
  have hrun:(Conv.bytesToString (a.eval y)).run P w = .ok (.string (bs l)) w:=by
   rw[hv];cases A with
   |none =>
    have:xs=[]:=by
     grind
    subst this;have:l=[]:=dD g1;subst this;rfl
   |some A =>
    have hload:∃us:Array Value,(loadCells A xs.length).run P w = .ok us w/\us.size=l.length/\∀(i:Nat)(v:Value)(b:UInt8),us[i]?=some v->l[i]?=some b->∃n,v = .int .u8 n/\b=UInt8.ofNat n.toNat:=by
     by_cases hx:xs=[]
     ·subst hx;have:l=[]:=dD g1;subst this;exact⟨#[],by rfl,rfl,fun i v b h=>by simp at h⟩
     ·have hA:=ha hx;cases hA
      have hsz:sz=1:=by
       cases xs with
       |nil=>grind
       |cons c r =>
        obtain⟨n,rfl,_⟩:=g2 0 c rfl;exact(hwid (.int .u8 n) dw).symm
      subst hsz
      have cellOf:∀i,i<xs.length->∃n,w.cell? ⟨b,off+i,none⟩=some (vs i)/\vs i = .int .u8 n/\l[i]?=some (UInt8.ofNat n.toNat):=by
       intro i hi;have hxi:xs[i]?=some xs[i]:=ai hi;obtain⟨n,hn,hb⟩:=g2 i _ hxi;have q1:=hcell i _ 0 (.int .u8 n) hxi (by rw[hn]; rfl)
       have q2:=hrep i _ 0 (.int .u8 n) hxi (by rw[hn]; rfl)
       simp only[pK,df] at q1 q2;exact⟨n,q1.1,(gu.plain (j:=j) (M:=M) q2).fX,hb⟩
      refine⟨_,oY (P:=P) (w:=w) b off xs.length vs (fun k hk=>(cellOf k hk).choose_spec.1),by simp[g1],fun i v c hi hb=>?_⟩
      grind
    obtain⟨us,u1,u2,u3⟩:=hload;simp only[Conv.bytesToString,Sem.run_bind,u1,Result.andThen_ok];rw[<-Array.forIn_toList];refine(congrArg (fun r=>Result.andThen r _) (Gg (P:=P) (w:=w) _ ?_ us.toList l ByteArray.empty aH fun i v b hv hb=>u3 i v b (by simpa using hv) hb)).trans ?_
    ·simp
    simp[bs]
  simp only[execOp,hop,convert,Sem.run_bind,eb hs,eb hd,Result.andThen_ok];rw[hv] at hrun ⊢;cases A<;>simp[eb hu,hrun]
 ·cases h
theorem Ds{fk:FK}{k k':ag}{b:Bool}(h:km fk k k'=some b) :
  (∃t x y,k = .int t x/\k' = .int t y/\fk = .i/\b=(x==y))\/(∃x y,k = .str x/\k' = .str y/\fk = .s/\b=(x==y))\/∃x y,k = .bool x/\k' = .bool y/\fk = .b/\b=(x==y):=by
 unfold km at h
 grind
def FK.is:FK->TypeDesc->Prop
 | .i,.int _=>True
 | .s,.string=>True
 | .b,.bool=>True
 |_,_=>False
theorem FW{t:TypeId}{fk:FK}(h:DU P t=some fk):∃d,P.underlying t=some d/\fk.is d:=by
 unfold DU at h
 split at h<;>first
  |(rename_i hd; cases h; exact⟨_,hd,trivial⟩)
  |grind
theorem JS{fk:FK}{d:TypeDesc}(hd:fk.is d){k k':ag}{b:Bool}(h:km fk k k'=some b){iA:Nat->Nat->Prop}{v v':Value}(hv:gu j M w k v)(hv':fR w iA k' v') :
  Instr.sameNow d v v'=some b/\(b=true->Instr.sameBits 10000 v' v=true)/\fR w (om j M w) k v:=by
 rcases Ds h with ⟨t,x,y,rfl,rfl,rfl,rfl⟩|⟨x,y,rfl,rfl,rfl,rfl⟩|⟨x,y,rfl,rfl,rfl,rfl⟩
 ·have e1:=hv.fX; subst e1; cases hv';cases d<;>first|exact False.elim hd|skip
  exact⟨by simp[Instr.sameNow],fun h=>by grind [Instr.sameBits],.int _ _⟩
 ·have e1:=hv.kv; subst e1; cases hv';cases d<;>first|exact False.elim hd|skip
  have this:∀x y,(bs x==bs y)=(x==y):=fun x y=>by
   show(x.toArray==y.toArray)=(x==y)
   simp
  exact⟨by simp_all [Instr.sameNow],fun h=>by grind [Instr.sameBits],.str _⟩
 ·have e1:=hv.jA; subst e1; cases hv';cases d<;>first|exact False.elim hd|skip
  exact⟨by simp[Instr.sameNow],fun h=>by grind [Instr.sameBits],.bool _⟩
def Pm{fk:FK}{k:ag}{b:Bool}(h:km fk k k=some b){v:Value}(hv:gu j M w k v):fR w (om j M w) k v:=by
 rcases Ds h with ⟨t,x,y,rfl,_⟩|⟨x,y,rfl,_⟩|⟨x,y,rfl,_⟩
 ·have:=hv.fX; subst this; exact .int _ _
 ·have:=hv.kv; subst this; exact .str _
 ·have:=hv.jA; subst this; exact .bool _
def Fq{fk:FK}{d:TypeDesc}(hd:fk.is d){t:TypeId}(ht:P.underlying t=some d)(e:Bool)(v:Value):(Instr.checkKey e 10000 t v).run P w = .ok () w:=by
 rw[Instr.checkKey.eq_def];simp only[Sem.run_bind,eb ht];cases fk<;>cases d<;>first|exact False.elim hd|(cases v<;>rfl)
theorem IA{fk:FK}{d:TypeDesc}(hd:fk.is d){k:ag}{v:Value}(hv:gu j M w k v){iA:Nat->Nat->Prop}:∀ {ks vs:List ag} {es:List MapEntry} {r:Option ag} (n:Nat),xh fk k ks vs=some r ->
  ks.length=es.length->vs.length=es.length->(∀(i:Nat)(k:ag)(e:MapEntry),ks[i]?=some k->es[i]?=some e->fR w iA k e.key) ->
  (r=none/\Instr.findNow d v es n=some none)\/∃i u e,r=some u/\vs[i]?=some u/\es[i]?=some e/\Instr.findNow d v es n=some (some (n+i,e.val))
 | [],[],[],r,n,h,_,_,_=>by simp[xh] at h; exact .inl ⟨h.symm,rfl⟩
 |k'::ks,u::vs,e::es,r,n,h,h1,h2,h3=>by
  obtain⟨b,hb,h⟩:=bp h;obtain⟨s1,_⟩:=JS hd hb hv (h3 0 k' e rfl rfl);rcases lC h with ⟨rfl,h⟩|⟨rfl,h⟩
  ·injection h with h
   exact .inr ⟨0,u,e,h.symm,rfl,rfl,by grind [Instr.findNow]⟩
  ·have hf:Instr.findNow d v (e::es) n=Instr.findNow d v es (n+1):=by rw[Instr.findNow,s1]
   rcases IA hd hv (n+1) h (by simpa using h1) (by simpa using h2) (fun i k e hk he=>h3 (i+1) k e j6 j6) with ⟨g1,g2⟩|⟨i,u',e',g1,g2,g3,g4⟩
   ·grind
   ·exact .inr ⟨i+1,u',e',g1,j6,j6,j6⟩
 | [],_::_,[],_,_,_,_,h2,_=>by simp at h2
 |_::_,[],_::_,_,_,_,_,h2,_=>by simp at h2
 | [],_,_::_,_,_,_,h1,_,_=>by simp at h1
 |_::_,_,[],_,_,_,h1,_,_=>by simp at h1
theorem IB{fk:FK}{d:TypeDesc}(hd:fk.is d){k y:ag}{v:Value}(hv:gu j M w k v){iA:Nat->Nat->Prop}:∀ {ks vs:List ag} {es:List MapEntry} {r:List ag×List ag} (n:Nat),xj fk k y ks vs=some r ->
  ks.length=es.length->vs.length=es.length->(∀(i:Nat)(k:ag)(e:MapEntry),ks[i]?=some k->es[i]?=some e->fR w iA k e.key) ->
  fR w (om j M w) k v/\((r=(ks++[k],vs++[y])/\Instr.findNow d v es n=some none)\/∃i e,r=(ks.set i k,vs.set i y)/\es[i]?=some e/\Instr.sameBits 10000 e.key v=true/\Instr.findNow d v es n=some (some (n+i,e.val)))
 | [],[],[],r,n,h,_,_,_=>by
  obtain⟨b,hb,h⟩:=bp h;injection h with h
  exact⟨Pm hb hv,.inl ⟨h.symm,rfl⟩⟩
 |k'::ks,u::vs,e::es,r,n,h,h1,h2,h3=>by
  obtain⟨b,hb,h⟩:=bp h;obtain⟨s1,s2,s3⟩:=JS hd hb hv (h3 0 k' e rfl rfl);refine⟨s3,?_⟩;rcases lC h with ⟨rfl,h⟩|⟨rfl,h⟩
  ·injection h with h
   exact .inr ⟨0,e,h.symm,rfl,s2 rfl,by grind [Instr.findNow]⟩
  ·obtain⟨r',h',h⟩:=bp h;cases h;have hf:Instr.findNow d v (e::es) n=Instr.findNow d v es (n+1):=by rw[Instr.findNow,s1]
   rcases(IB hd hv (n+1) h' (by simpa using h1) (by simpa using h2) (fun i k e hk he=>h3 (i+1) k e j6 j6)).2 with ⟨g1,g2⟩|⟨i,e',g1,g2,g3,g4⟩
   ·grind
   ·exact .inr ⟨i+1,e',by rw[g1]; rfl,j6,g3,by rw[hf,g4]; grind⟩
 | [],_::_,[],_,_,_,_,h2,_=>j6
 |_::_,[],_::_,_,_,_,_,h2,_=>j6
 | [],_,_::_,_,_,_,h1,_,_=>by simp at h1
 |_::_,_,[],_,_,_,h1,_,_=>j6
def Cr.rep{x:ag}{v:Value}(h:Cr w (om j M w) x v):gu j M w x v:=by
 by_cases hag:∃cs,x = .agg cs
 ·obtain⟨cs,rfl⟩:=hag;obtain⟨us,rfl,h2,h3⟩:=h;exact .agg h2 fun i c u hc hu => .plain (h3 i c u hc hu)
 ·cases x<;>first|exact absurd ⟨_,rfl⟩ hag|exact .plain h
theorem F5(hr:Rel j M w){m:ag}{v:Value}{e:List ag×List ag}(h:mapOf M m=some e)(hm:gu j M w m v):∃(b:Nat) (es:Array MapEntry) (clock:Nat),v = .map (some b)/\w.heap[b]?=some (.map es clock) /\
  e.1.length=es.size/\e.2.length=es.size/\(∀(i:Nat)(k:ag)(e':MapEntry),e.1[i]?=some k->es[i]?=some e'->fR w (om j M w) k e'.key)/\∀(i:Nat)(k:ag)(e':MapEntry),e.2[i]?=some k->es[i]?=some e'->gu j M w k e'.val:=by
 unfold mapOf at h;split at h
 ·split at h
  ·rename_i ks vs hM;injection h with h; rw[fe] at hM
   obtain⟨b,_,hj,rfl⟩:=hm.vA;obtain⟨b',hj',es,clock,g1,g2,g3,g4,g5⟩:=hr.fix _ _ hM rfl
   grind
  grind
 ·cases h;cases hm with
  |plain h=>cases h
  |kf hb hf hx hw hk hv hks hvs=>exact⟨_,_,_,rfl,hw,hk,hv,hks,fun i k e h1 h2=>(hvs i k e h1 h2).rep⟩
 ·cases h
theorem Jl{zero:ag}{ok:Bool}{r:Option ag}{v:Value}(h:gu j M w (r.getD zero) v):gu j M w (ph zero ok r) (if ok then .tuple #[v,.bool r.isSome] else v):=by
 cases ok with
 |false=>exact h
 |true =>
  refine .tuple rfl fun i c u hc hu=>?_
  match i with
  |0=>grind
  |1=>simp at hc hu; subst hc; subst hu; exact .plain (.bool _)
  |n+2=>simp_all
def aaH(hr:Rel j M w)(he:cn j M w bq a){t kt et:TypeId}{m k:Operand}{m' k':fZ}{ok:Bool}{fk:FK}{ie:TypeInfo}{zv:Value}{z:ag}(hop:o.op = .lookup t m k ok)(ht:P.underlying t=some (.map kt et))
  (hk:DU P kt=some fk) (hi:P.info? et=some ie) (hz:ie.zero=some zv) (hzv:QR zv=some z) (hm':eW m=some m') (hk':eW k=some k') (h:ef C bq M (.look fk z ok m' k')=some x) :
  ∃v w',rb P o a w v w'/\iV j M w x v w':=by
 simp only[ef] at h;obtain⟨e,h1,h⟩:=bp h;obtain⟨r,h2,h⟩:=bp h;cases h;obtain⟨d,hd,hfk⟩:=FW hk;obtain⟨b,es,clock,hv,hb,g1,g2,g3,g4⟩:=F5 hr h1 (cS he hm');have hc:∀q,(Instr.checkKey q 10000 kt (a.eval k)).run P w = .ok () w:=fun q=>Fq hfk hd q _
 rcases IA hfk (cS he hk') (es:=es.toList) 0 h2 (by simpa using g1) (by simpa using g2) (fun i k e hk he=>g3 i k e hk (by simpa using he)) with ⟨rfl,f1⟩|⟨i,u,e',rfl,f2,f3,f1⟩
 ·refine⟨if ok then .tuple #[zv,.bool false] else zv,w,.inl ?_,.still hr (Jl (r:=none) (HQ hzv))⟩
  simp[execOp,hop,Instr.lookup,eb ht,hv,MapKept.run_getObj_map hb,hc,Instr.findKey,eb hd,f1,zeroValue,pT hi,hz]
 ·refine⟨if ok then .tuple #[e'.val,.bool true] else e'.val,w,.inl ?_,.still hr (Jl (r:=some u) (g4 i u e' f2 (by simpa using f3)))⟩
  simp[execOp,hop,Instr.lookup,eb ht,hv,MapKept.run_getObj_map hb,hc,Instr.findKey,eb hd,f1]
def aaE(hr:Rel j M w)(he:cn j M w bq a){c:Call}{y:Operand}{z:fZ}{t k e:TypeId}(hop:o.op = .call c)(hb:c.callee = .builtin .len)(ha:c.args.toList=[y])
  (ht:c.argTypes[0]?=some t) (hs:P.underlying t=some (.map k e)) (hz:eW y=some z) (h:ef C bq M (.Pp z)=some x):∃v w',rb P o a w v w'/\iV j M w x v w':=by
 simp only[ef] at h;obtain⟨e,h1,h⟩:=bp h;cases h;obtain⟨b,es,clock,hv,hbl,g1,g2,g3,g4⟩:=F5 hr h1 (cS he hz);have ha':c.args = #[y]:=by rw[<-ha]
 refine⟨.int .i64 e.1.length,w,.inl ?_,.still hr (.plain (.int _ _))⟩;simp[execOp,hop,resolve,hb,invoke,builtin,Builtin.len_,ha',ht,eb hs,hv,MapKept.run_getObj_map hbl,goInt,g1]
def Nu(hr:Rel j M w){bx:cL}{ob:Obj}(hfx:bx.fixed=true)(hh:∀j' M' (w':World),w'.heap[w.heap.size]?=some ob->Holds j' M' w' w.heap.size bx) :
  ∃j':J,Rel j' (M++[bx]) { w with heap:=w.heap.push ob }/\Ext j M w j' (M++[bx]) { w with heap:=w.heap.push ob }/\j' M.length=some w.heap.size:=by
 have q:Quiet w { w with heap:=w.heap.push ob }:=⟨dw,rfl,rfl,rfl⟩
 have hb:∀b,b<w.heap.size->({ w with heap:=w.heap.push ob }:World).heap[b]?=w.heap[b]?:=fun b hb=>by
  show(w.heap.push _)[b]?=_
  rw[fW,aP aH]
 have hn:({ w with heap:=w.heap.push ob }:World).heap[w.heap.size]?=some ob:=dw
 refine⟨gF j M.length (some w.heap.size),hr.push (fun b h=>?_) q hb (fun _=>?_) (fun sz n b h=>by rw[h] at hfx; cases hfx) (fun sz v xs h=>by rw[h] at hfx; cases hfx),Ext.push (fun b h=>?_) q hb,by simp[gF]⟩
 ·cases h; simp
 ·exact⟨_,rfl,fun j' M' hx=>hh j' M' _ hn⟩
 ·injection h with h; omega
def Wg(hr:Rel j M w){t:TypeId}(hop:o.op = .makeMap t none)(h:ef C bq M .mkMap=some x):∃v w',rb P o a w v w'/\iV j M w x v w':=by
 simp only[ef] at h;cases h;obtain⟨j',h1,h2,h3⟩:=Nu (ob := .map #[] 0) (bx := .map [] []) hr rfl fun j' M' w' hw=>⟨#[],0,hw,rfl,rfl,fun i k e h=>by simp at h,fun i k e h=>by simp at h⟩
 exact⟨.map (some w.heap.size),_,.inl (by simp[execOp,hop,Instr.makeMap]),j',h1,h2,.iz ⟨[],[],dw⟩ h3⟩
def aaL(hr:Rel j M w)(he:cn j M w bq a){t:TypeId}{y:Operand}{z:fZ}(hop:o.op = .range t y)(ht:P.underlying t=some .string)(hz:eW y=some z)(h:ef C bq M (.P3 z)=some x):∃v w',rb P o a w v w'/\iV j M w x v w':=by
 simp only[ef] at h;have h0:=cS he hz;split at h
 ·rename_i s e;rw[e] at h0;cases h;obtain⟨j',h1,h2,h3⟩:=Nu (ob := .stringIter (bs s) 0) (bx := .nR s 0) hr rfl fun j' M' w' hw=>hw
  exact⟨.pointer (some ⟨w.heap.size,0,none⟩),_,.inl (by simp[execOp,hop,Instr.range,eb ht,h0.kv]),j',h1,h2,.j4 ⟨s,0,dw⟩ h3⟩
 ·cases h
def Ho(hr:Rel j M w){id b:Nat}{bx bx':cL}{ob:Obj}(hM:M[id]?=some bx)(hfx:bx.fixed=true)(htag:bx'.tag=bx.tag)(hj:j id=some b)(hnc:∀vs t fr,w.heap[b]?≠some (.cells vs t fr))
  (hh:∀j' M' (w':World),Ext j M w j' M' w'->w'.heap[b]?=some ob->Holds j' M' w' b bx') :
  Rel j (M.set id bx') { w with heap:=w.heap.setIfInBounds b ob }/\Ext j M w j (M.set id bx') { w with heap:=w.heap.setIfInBounds b ob }:=by
 have q:Quiet w { w with heap:=w.heap.setIfInBounds b ob }:=⟨dw,rfl,rfl,rfl⟩
 have hb:∀b',b'≠b->b'<w.heap.size->({ w with heap:=w.heap.setIfInBounds b ob }:World).heap[b']?=w.heap[b']?:=fun b' hne _=>by
  show(w.heap.setIfInBounds b ob)[b']?=_
  rw[fF (eY hne)]
 have cJ:b<w.heap.size:=hr.lt id b (aN hM) hj
 have hn:({ w with heap:=w.heap.setIfInBounds b ob }:World).heap[b]?=some ob:=by
  show(w.heap.setIfInBounds b ob)[b]?=_
  simp[cJ]
 exact⟨Rel.store hM hfx htag hj hr q hb (fun vs t fr h=>absurd h (hnc vs t fr)) fun j' M' hx=>hh j' M' _ hx hn,Ext.store hM hfx htag hj hr q hb (fun vs t fr h=>absurd h (hnc vs t fr))⟩
def Wi(hr:Rel j M w)(he:cn j M w bq a){y:Operand}{z:fZ}(hop:o.op = .next y true)(hz:eW y=some z)(h:ef C bq M (.F8 z)=some x):∃v w',rb P o a w v w'/\iV j M w x v w':=by
 simp only[ef] at h;have h0:=cS he hz;split at h
 ·rename_i id e;rw[e] at h0;obtain⟨b,_,hj,hv⟩:=h0.DM;split at h
  ·rename_i s pos hM;rw[fe] at hM;obtain⟨b',hj',hw⟩:=hr.fix _ _ hM rfl;rw[hj] at hj'; cases hj';have hw:w.heap[b]?=some (.stringIter (bs s) pos):=hw;have hsz:(bs s).size=s.length:=by simp[bs,ByteArray.size]
   have hget:(getObj b).run P w = .ok (.stringIter (bs s) pos) w:=by simp[getObj,Sem.run,hw]
   rcases lC h with ⟨cJ,h⟩|⟨cJ,h⟩<;>(cases h)
   ·have hlt':pos<s.length:=by simpa using cJ
    have hset:∀ob,(setObj b ob).run P w = .ok () { w with heap:=w.heap.setIfInBounds b ob }:=fun ob=>by simp[setObj,Sem.run,hw]
    obtain⟨r1,r2⟩:=Ho (ob := .stringIter (bs s) (pos+(Utf8.decode (bs s) pos).2)) (bx' := .nR s (pos+(Utf8.decode ⟨s.toArray⟩ pos).2)) hr hM rfl rfl hj (fun vs t fr h=>by rw[hw] at h; cases h) fun j' M' w' _ hw=>hw
    refine⟨.tuple #[.bool true,goInt pos,.int .i32 (Utf8.decode (bs s) pos).1],{ w with heap:=w.heap.setIfInBounds b (.stringIter (bs s) (pos+(Utf8.decode (bs s) pos).2)) },.inl ?_,j,?_,?_,?_⟩
    ·simp[execOp,hop,Instr.next,hv,hget,hsz,hlt',hset]
    ·rw[fj]; exact r1
    ·rw[fj]; exact r2
    ·refine .tuple rfl fun i c u hc hu=>?_
     match i with
     |0=>simp at hc hu; subst hc; subst hu; exact .plain (.bool _)
     |1=>simp at hc hu; subst hc; subst hu; exact .plain (.int _ _)
     |2=>simp at hc hu; subst hc; subst hu; exact .plain (.int _ _)
     |n+3=>simp at hc
   ·have hlt':¬pos<s.length:=by simpa using cJ
    refine⟨.tuple #[.bool false],w,.inl ?_,.still hr (.tuple rfl fun i c u hc hu=>?_)⟩
    ·simp[execOp,hop,Instr.next,hv,hget,hsz,hlt']
    ·match i with
     |0=>simp at hc hu; subst hc; subst hu; exact .plain (.bool _)
     |n+1=>simp at hc
  ·cases h
 ·cases h
def Wn(hr:Rel j M w)(he:cn j M w bq a){t kt et:TypeId}{m k y:Operand}{m' k' y':fZ}{fk:FK}(hop:o.op = .mapUpdate t m k y\/o.op = .insert t m k y)(ht:P.underlying t=some (.map kt et))
  (hk:DU P kt=some fk) (hm':eW m=some m') (hk':eW k=some k') (hyr:gu j M w (y'.ev bq) (a.eval y)) (h:ef C bq M (.gF fk m' k' y')=some x):∃v w',rb P o a w v w'/\iV j M w x v w':=by
 simp only[ef] at h;have h0:=cS he hm';split at h
 ·rename_i id e;rw[e] at h0;split at h
  ·rename_i ks vs hM;obtain⟨r,hr',h⟩:=bp h;cases h;rw[fe] at hM;obtain⟨b,_,hj,hv⟩:=h0.vA;obtain⟨b',hj',es,clock,hb,g2,g3,g4,g5⟩:=hr.fix _ _ hM rfl;rw[hj] at hj'; cases hj';obtain⟨d,hd,hfk⟩:=FW hk;have hc:∀q,(Instr.checkKey q 10000 kt (a.eval k)).run P w = .ok () w:=fun q=>Fq hfk hd q _
   obtain⟨kp,hf⟩:=IB hfk (cS he hk') (es:=es.toList) 0 hr' (by simpa using g2) (by simpa using g3) (fun i k e hk he=>g4 i k e hk (by simpa using he))
   have hset:∀ob,(setObj b ob).run P w = .ok () { w with heap:=w.heap.setIfInBounds b ob }:=fun ob=>MapKept.run_setObj_map ob hb
   rcases hf with ⟨rfl,f1⟩|⟨i,e',rfl,f3,f4,f1⟩
   ·obtain⟨r1,r2⟩:=Ho (ob := .map (es.push { key:=a.eval k,val:=a.eval y,born:=clock }) (clock+1)) (bx' := .map (ks++[k'.ev bq]) (vs++[y'.ev bq])) hr hM rfl rfl hj (fun vs t fr h=>by rw[hb] at h; cases h) fun j' M' w' hx hw=>by
     refine⟨_,_,hw,by simp[g2],by simp[g3],fun i k e hk he=>?_,fun i k e hk he=>?_⟩
     ·rw[fW] at he;rw[nK] at hk
      by_cases hi:i=es.size
      ·subst hi;simp[g2] at hk he;subst hk; subst he;exact kp.mono hx.iA
      ·rw[aP hi] at he;have hi':i<es.size:=(fK.1 he).1;rw[aW aH] at hk;exact(g4 i k e hk he).mono hx.iA
     ·rw[fW] at he;rw[nK] at hk
      by_cases hi:i=es.size
      ·subst hi;simp[g3] at hk he;subst hk; subst he;exact hyr.mono hx
      ·rw[aP hi] at he;have hi':i<es.size:=(fK.1 he).1;rw[aW aH] at hk;exact(g5 i k e hk he).mono hx
    refine⟨undef,{ w with heap:=w.heap.setIfInBounds b (.map (es.push { key:=a.eval k,val:=a.eval y,born:=clock }) (clock+1)) },.inr ⟨?_,rfl⟩,j,?_,?_,.any _⟩
    ·rcases hop with hop|hop<;>simp[execOp,hop,Instr.mapUpdate,eb ht,hv,MapKept.run_getObj_map hb,hc,Instr.findKey,eb hd,f1,hset]
    ·rw[fj]; exact r1
    ·rw[fj]; exact r2
   ·have hi:i<es.size:=by simpa using(aj.1 f3).1
    have he':es[i]?=some e':=by simpa using f3
    obtain⟨r1,r2⟩:=Ho (ob := .map (es.modify i fun e=>{ e with key:=a.eval k,val:=a.eval y }) clock) (bx' := .map (ks.set i (k'.ev bq)) (vs.set i (y'.ev bq))) hr hM rfl rfl hj (fun vs t fr h=>by rw[hb] at h; cases h) fun j' M' w' hx hw=>by
     refine⟨_,_,hw,by simp[g2],by simp[g3],fun q k e hk he=>?_,fun q k e hk he=>?_⟩
     ·rw[gX] at he
      by_cases hq:i=q
      ·subst hq;simp[he'] at he;rw[fa aH] at hk;cases hk; subst he;exact kp.mono hx.iA
      ·rw[aP hq] at he;rw[fc hq] at hk;exact(g4 q k e hk he).mono hx.iA
     ·rw[gX] at he
      by_cases hq:i=q
      ·subst hq;simp[he'] at he;rw[fa aH] at hk;cases hk; subst he;exact hyr.mono hx
      ·rw[aP hq] at he;rw[fc hq] at hk;exact(g5 q k e hk he).mono hx
    refine⟨undef,{ w with heap:=w.heap.setIfInBounds b (.map (es.modify i fun e=>{ e with key:=a.eval k,val:=a.eval y }) clock) },.inr ⟨?_,rfl⟩,j,?_,?_,.any _⟩
    ·rcases hop with hop|hop<;>simp[execOp,hop,Instr.mapUpdate,eb ht,hv,MapKept.run_getObj_map hb,hc,Instr.findKey,eb hd,f1,hset,he',Instr.keyThatStays,f4]
    ·rw[fj]; exact r1
    ·rw[fj]; exact r2
  ·cases h
 ·cases h
end
def j5(xs:List ag):List ag:=xs.flatMap ag.cells
def oN(x:ag)(xs:List ag):j5 (x::xs)=x.cells++j5 xs:=rfl
def oM(xs ys:List ag):j5 (xs++ys)=j5 xs++j5 ys:=by simp[j5]
def iR{sz:Nat}:∀ {xs:List ag},wid xs sz->(j5 xs).length=xs.length*sz
 | [],_=>by simp[j5]
 |x::xs,h=>by
  rw[oN,aA,h x (bD ..),iR fun y hy=>h y (bw _ hy),av,bP]
  omega
def nz{sz:Nat}{xs ys:List ag}(h1:wid xs sz)(h2:wid ys sz):wid (xs++ys) sz:=fun x hx=>(bo.1 hx).elim (h1 x) (h2 x)
def vM{sz n:Nat}{xs:List ag}(h:wid xs sz):wid (xs.take n) sz:=fun x hx=>h x (dN hx)
def vL{sz n:Nat}{xs:List ag}(h:wid xs sz):wid (xs.drop n) sz:=fun x hx=>h x (dy hx)
def rZ{sz:Nat}:∀(n:Nat){xs:List ag},wid xs sz->j5 (xs.take n)=(j5 xs).take (n*sz)
 |0,_,_=>by simp[j5]
 |n+1,[],_=>by simp[j5]
 |n+1,x::xs,h=>by
  have hx:=h x (bD ..);have e:(n+1)*sz=sz+n*sz:=by rw[bP]; omega
  rw[List.take_succ_cons,oN,oN,rZ n fun y hy=>h y (bw _ hy),List.take_append,hx,e,iX,bB (l:=x.cells) aH]
def tX{sz:Nat}:∀(n:Nat){xs:List ag},wid xs sz->j5 (xs.drop n)=(j5 xs).drop (n*sz)
 |0,_,_=>dw
 |n+1,[],_=>by simp[j5]
 |n+1,x::xs,h=>by
  have hx:=h x (bD ..);have e:(n+1)*sz=sz+n*sz:=by rw[bP]; omega
  rw[oy,oN,tX n fun y hy=>h y (bw _ hy),List.drop_append,hx,e,iX,iu (l:=x.cells) aH,aO]
theorem AO{sz:Nat}:∀ {xs:List ag},wid xs sz->∀ {q:Nat} {x:ag} {k:Nat} {c:ag},xs[q]?=some x->x.cells[k]?=some c->(j5 xs)[q*sz+k]?=some c
 | [],_,q,x,k,c,hx,_=>j6
 |y::xs,h,0,x,k,c,hx,hk=>by
  simp at hx; subst hx;rw[oN,jD,aJ,aQ (aj.1 hk).1];omega
 |y::xs,h,q+1,x,k,c,hx,hk=>by
  have hy:=h y (bD ..);rw[oN,bt (by rw[bP]; omega),hy]
  rw[show(q+1)*sz+k-sz=q*sz+k by rw[bP]; omega]
  exact AO (fun z hz=>h z (bw _ hz)) j6 hk
theorem Dx{sz:Nat}{xs:List ag}(h:wid xs sz){p:Nat}{c:ag}(hp:(j5 xs)[p]?=some c):∃q x k,xs[q]?=some x/\x.cells[k]?=some c/\p=q*sz+k:=by
 have cJ:p<xs.length*sz:=by rw[<-iR h]; grind
 have hsz:0<sz:=by
  grind
 have hq:p / sz<xs.length:=by rw[kR hsz]; omega
 have hk:p % sz<(xs[p / sz]).cells.length:=by rw[h _ (jq _)]; simp_all [nu]
 grind [Nat.mul_comm,Nat.div_add_mod,AO]
def RL(w:World)(iA:Nat->Nat->Prop)(cs:List ag)(vs:List Value):Prop:=cs.length=vs.length/\∀(p:Nat)(c:ag)(v:Value),cs[p]?=some c->vs[p]?=some v->fR w iA c v
section
variable {w w':World} {iA saf':Nat->Nat->Prop} {cs ds:List ag} {us vs:List Value}
def RL.append(h:RL w iA cs us)(k:RL w iA ds vs):RL w iA (cs++ds) (us++vs):=by
 refine⟨by simp[h.1,k.1],fun p c v hc hv=>?_⟩
 rcases bE p _ with hp|hp
 ·rw[aQ hp] at hc;rw[aQ (by rw[<-h.1]; omega)] at hv
  exact h.2 p c v hc hv
 ·rw[bt hp] at hc;rw[bt (by rw[<-h.1]; omega),<-h.1] at hv
  exact k.2 _ c v hc hv
theorem RL.take(n:Nat)(h:RL w iA cs us):RL w iA (cs.take n) (us.take n):=by
 refine⟨by simp[h.1],fun p c v hc hv=>?_⟩
 rw[fz] at hc hv;split at hc
 ·rename_i hp;rw[aW hp] at hv;exact h.2 p c v hc hv
 grind
def RL.drop(n:Nat)(h:RL w iA cs us):RL w iA (cs.drop n) (us.drop n):=by
 refine⟨by simp[h.1],fun p c v hc hv=>?_⟩
 rw[cC] at hc hv;exact h.2 _ c v hc hv
def RL.mono(hm:∀b off,iA b off->saf' b off/\w'.cell? ⟨b,off,none⟩=w.cell? ⟨b,off,none⟩)(h:RL w iA cs us):RL w' saf' cs us:=⟨h.1,fun p c v hc hv=>(h.2 p c v hc hv).mono hm⟩
end
section
variable {j:J} {M:aC} {w:World}
theorem xM{b sz:Nat}{xs:List ag}{vs:Array Value}(hl:xs.length*sz<=vs.size)(hwd:wid xs sz)
  (hc:∀(q:Nat)(x:ag)(k:Nat)(c:ag),xs[q]?=some x->x.cells[k]?=some c->∃v,vs[q*sz+k]?=some v/\fR w (om j M w) c v):RL w (om j M w) (j5 xs) (vs.toList.take (xs.length*sz)):=by
 refine⟨by rw[iR hwd]; grind,fun p c v hp hv=>?_⟩
 obtain⟨q,x,k,h1,h2,rfl⟩:=Dx hwd hp
 grind
theorem mD{j':J}{M':aC}{w':World}{b sz:Nat}{t:TypeId}{xs:List ag}{us:List Value}{vs:Array Value}(hw:w'.heap[b]?=some (.cells vs t (0,0)))(hwd:wid xs sz)(hr:RL w' (om j' M' w') (j5 xs) us)
  (hv:∀p,p<us.length->vs[p]?=us[p]?):Fc j' M' w' b sz xs:=by
 have dR:us.length=xs.length*sz:=by rw[<-hr.1,iR hwd]
 refine⟨vs,t,hw,?_,hwd,fun q x k c hx hk=>?_⟩
 ·grind
 ·have h1:=AO hwd hx hk;have hp:q*sz+k<us.length:=by rw[<-hr.1]; grind
  exact⟨us[q*sz+k],by rw[hv _ hp,ai _],hr.2 _ _ _ h1 (ai _)⟩
theorem AR:∀(ids:List Nat){M:aC}{i:Nat}{bx:cL},M[i]?=some bx->(∀sz v xs,bx ≠ .arr sz v xs)->(qG M ids)[i]?=some bx
 | [],_,_,_,h,_=>h
 |a::r,M,i,bx,h,hn=>by
  simp[qG,fe];split
  ·refine AR r ?_ hn
   grind [fj]
  ·exact AR r h hn
theorem zH:∀(ids:List Nat){M:aC},Rel j M w->Ext j M w j (qG M ids) w/\Rel j (qG M ids) w/\(qG M ids).length=M.length/\∀id,id∈ids->∀sz v xs,M[id]?=some (.arr sz v xs)->(qG M ids)[id]?=some (.tick sz xs.length)
 | [],M,hr=>⟨.refl _ _ _,hr,rfl,fun id h=>by cases h⟩
 |a::r,M,hr=>by
  simp only[qG,fe];split
  ·rename_i sz v xs hM;rw[fj];obtain⟨h1,h2,h3,h4⟩:=zH r (Rel.freeze hM hr);refine⟨(Ext.freeze hM).trans h1,h2,by rw[h3]; simp,fun id hid sz' v' xs' hid'=>?_⟩
   grind [id,AR,ec,aN]
  ·obtain⟨h1,h2,h3,h4⟩:=zH r hr
   grind
def gu.pa{M':aC}(hr:Rel j M w)(hx:Ext j M w j M' w)(hr':Rel j M' w)(hl:M'.length=M.length){x:ag}{v:Value}(h:gu j M w x v)(hf:∀id,id∈x.iI->∀sz v xs,M[id]?=some (.arr sz v xs)->M'[id]?=some (.tick sz xs.length)):gu j M' w (x.pa M) v:=by
 cases x<;>try exact h.mono hx
 rename_i id ver sz lo hi;simp[ag.pa,fe];split
 ·rename_i sz' v' xs hM;split
  ·rename_i hv;subst hv;obtain⟨_,hid,_,g⟩:=h.nb;obtain⟨e1,l1,l2,⟨rfl,_,A,rfl⟩|⟨b,cap,vs,t,l3,l4,l5,l6,l7⟩⟩:=(g sz' v' xs hM).2 rfl
   ·simp;exact .plain (fR.nil _ _ _)
   subst e1;obtain⟨b',vs',t',k1,k2,k3,k4,k5⟩:=hr.yK hM l3;rw[l3] at k1; cases k1;rw[l4];refine .plain (xN k2 k4 k5 (fun b off hs=>(hx.iA b off hs).1) (fun off ho=>⟨hr'.lt id b (by rw[hl]; exact aN hM) l3,fun i hi hji=>?_,hr'.vd id b aH l3 off⟩) l1 l2 l5)
   have  := hr'.inj i id b hi (by rw[hl]; exact aN hM) hji l3
   subst this;exact⟨sz',xs.length,hf i (by simp[ag.iI]) _ _ _ hM,ho⟩
  ·exact .any _
 ·exact .any _
theorem gu.rM{M':aC}(hr:Rel j M w)(hx:Ext j M w j M' w)(hr':Rel j M' w)(hl:M'.length=M.length){x:ag}{v:Value}(h:gu j M w x v)(hf:∀id,id∈x.ids->∀sz v xs,M[id]?=some (.arr sz v xs)->M'[id]?=some (.tick sz xs.length)):gu j M' w (x.rM M) v:=by
 by_cases hag:∃cs,x = .agg cs
 ·obtain⟨cs,rfl⟩:=hag;obtain⟨vs,rfl,hl',hc⟩:=h.mW;refine .agg j6 fun i c u hi hu=>?_
  rw[aX,aV] at hi;obtain⟨c0,hc0,rfl⟩:=hi;refine(hc i c0 u hc0 hu).pa hr hx hr' hl fun id hid=>hf _ ?_
  refine jr.2 ⟨c0,aI hc0,?_⟩;cases c0<;>first|exact hid|(simp[ag.iI] at hid)
 ·have:x.rM M=x.pa M:=by cases x<;>first|rfl|grind
  rw[this];refine h.pa hr hx hr' hl fun id hid=>hf id ?_
  cases x<;>first|exact hid|exact absurd _ _|grind [ag.iI]
end
section
variable {P:Program} {C:eR} {o:Oper} {bq:Env} {M:aC} {j:J} {w:World} {a:Act} {x:ag×aC}
theorem rL(z:Array Value)(n:Nat):(Builtin.zeroCells z n).toList=(List.replicate n z.toList).flatten:=by
 induction n with
 |zero=>simp[Builtin.zeroCells]
 |succ n ih =>
  rw[nL,List.flatten_append,<-ih];apply cE;intro i;simp only[Builtin.zeroCells,Array.toList_map,Array.toList_range,List.flatten_cons,List.flatten_nil,db];rcases bE i (n*z.size) with h|h
  ·grind
  ·rw[bt j6];simp only[eK,List.length_range];rcases bE i ((n+1)*z.size) with h2|h2
   ·have h3:i-n*z.size<z.size:=by rw[bP] at h2; omega
    have h4:i % z.size=i-n*z.size:=by
     have:i=(i-n*z.size)+n*z.size:=aH;rw[this,Nat.add_mul_mod_self_right,nG h3]; omega
    rw[aX,gP h2];simp[h4,h3]
   grind
def O1(n:Nat)(zero:List ag):j5 (List.replicate n (.agg zero))=(List.replicate n zero).flatten:=by
 induction n with
 |zero=>rfl
 |succ n ih=>rw[jj,oN,ih]; rfl
theorem QO{iA:Nat->Nat->Prop}(n:Nat){cs:List ag}{us:List Value}(h:RL w iA cs us):RL w iA (List.replicate n cs).flatten (List.replicate n us).flatten:=by
 induction n with
 |zero=>exact⟨rfl,fun p c v hc=>dw⟩
 |succ n ih=>exact h.append ih
theorem xL{id b sz ver ver':Nat}{xs xs':List ag}{vs vs':Array Value}{t:TypeId}{us:List Value}{w':World}(hr:Rel j M w)(hM:M[id]?=some (.arr sz ver xs))(hj:j id=some b)(q:Quiet w w')
  (hb:∀b',b'≠b->b'<w.heap.size->w'.heap[b']?=w.heap[b']?) (hw:w.heap[b]?=some (.cells vs t (0,0))) (hw':w'.heap[b]?=some (.cells vs' t (0,0))) (hs:vs'.size=vs.size)
  (hv:ver<=ver') (hl:ver'=ver->xs'.length=xs.length) (hwd:wid xs' sz) (hrl:RL w (om j M w) (j5 xs') us) (hus:∀p,p<us.length->vs'[p]?=us[p]?) :
  Rel j (M.set id (.arr sz ver' xs')) w'/\Ext j M w j (M.set id (.arr sz ver' xs')) w':=by
 have hwr:∀vs0 t1,w.heap[b]?=some (.cells vs0 t1 (0,0))->∃vs1,w'.heap[b]?=some (.cells vs1 t1 (0,0))/\vs1.size=vs0.size:=fun vs0 t1 h=>by
  grind
 exact⟨Rel.Fi hM hj hr q hb hwr hv hl fun j' M' hx=>mD hw' hwd (hrl.mono hx.iA) hus,Ext.Fi hM hj hr q hb hwr hv hl⟩
theorem C2{l:List ag}{vs:List Value}(hl:tf vs=some l)(hp:(l.map ag.shut).all ag.plainCell=true):RL w (om j M w) (l.map ag.shut) vs/\∀v,v∈vs->v.oneCell'=true:=by
 obtain⟨h1,h2⟩:=qB (j:=j) (M:=M) (w:=w) hl;rw[List.all_map,bM] at hp;refine⟨⟨j6,fun p c v hc hv=>?_⟩,fun v hv=>?_⟩
 ·grind [Aj,List.mem_of_getElem?]
 ·obtain⟨p,hp',rfl⟩:=ka hv;have hpl:p<l.length:=aH;exact Df (h2 p _ _ (ai hpl) (ai hp')) (Cd (hp _ (jq hpl)))
theorem PH(hr:Rel j M w)(he:cn j M w bq a){c:Call}{y:Operand}{z:fZ}{t e:TypeId}{i:TypeInfo}{zv:Value}{l:List ag}(hop:o.op = .call c)(hb:c.callee = .builtin .clear)(ha:c.args.toList=[y])
  (ht:c.argTypes.toList=[t]) (hs:P.underlying t=some (.slice e)) (hi:P.info? e=some i) (hzv:i.zero=some zv) (hl:tf zv.cells.toList=some l) (hsz:l.length=i.size) (hz:eW y=some z)
  (h:ef C bq M (.w5 i.size (l.map ag.shut) z)=some x):∃v w',rb P o a w v w'/\iV j M w x v w':=by
 simp only[ef] at h;have h1:=cS he hz;have ha':c.args = #[y]:=by rw[<-ha]
 have ht':c.argTypes = #[t]:=by rw[<-ht]
 split at h
 ·rename_i tk xs ez;rw[ez] at h1;split at h
  ·cases h;obtain⟨A,cap,b,off,sz,vs,hv,_⟩:=h1.er.er;refine⟨.tuple #[],w,.inl ?_,.still hr (.any _)⟩;cases A<;>simp[execOp,hop,resolve,hb,invoke,builtin,Builtin.clear_,ha',ht',eb hs,hv]
  ·cases h
 ·rename_i id ver sz' lo hi' ez;rw[ez] at h1;rw[fe] at h;split at h
  ·rename_i sz0 v0 xs hM;split at h
   ·rename_i hc;obtain⟨c1,c2,c3,c4⟩:=hc;cases h;subst c1; subst c2;obtain⟨_,hid,_,g⟩:=h1.nb;obtain⟨e1,l1,l2,⟨rfl,_,A,hA⟩|⟨b,cap,vs,t0,l3,l4,l5,l6,l7⟩⟩:=(g sz0 v0 xs hM).2 rfl
    ·have hlo:lo=0:=Nat.le_zero.1 (aY l1 l2);have hhi:hi'=0:=Nat.le_zero.1 l2;subst hlo; subst hhi;refine⟨.tuple #[],w,.inl ?_,?_⟩
     ·cases A<;>simp[execOp,hop,resolve,hb,invoke,builtin,Builtin.clear_,ha',ht',eb hs,hA]
     ·rw[fj]
      have he:M.set id (.arr sz0 v0 (List.take 0 ([]:List ag)++(List.replicate (0-0) (ag.agg (l.map ag.shut))++List.drop 0 [])))=M:=by
       apply cE
       grind
      rw[he];exact .still hr (.any _)
    subst e1;obtain⟨b',vs',t',k1,k2,k3,k4,k5⟩:=hr.yK hM l3;rw[l3] at k1; cases k1;rw[l6] at k2; injection k2 with k2; injection k2 with k2 k2'
    subst k2; subst k2';obtain⟨p1,p2⟩:=C2 (j:=j) (M:=M) (w:=w) hl c4;have hzl:zv.cells.toList.length=i.size:=by rw[<-p1.1]; simpa using hsz
    have dR:(List.replicate (hi'-lo) zv.cells.toList).flatten.length=(hi'-lo)*i.size:=by simp[List.length_flatten,gZ,List.sum_replicate_nat,hzl]
    have hbd:lo*i.size+(hi'-lo)*i.size<=xs.length*i.size:=by rw[<-bP]; exact bd _ aH
    have hfit:lo*i.size+(List.replicate (hi'-lo) zv.cells.toList).flatten.length<=vs.size:=by rw[dR]; omega
    have hone:∀v,v∈(List.replicate (hi'-lo) zv.cells.toList).flatten->v.oneCell'=true:=fun v hv=>by
     obtain⟨r,hr1,hr2⟩:=List.mem_flatten.1 hv;rw[mc hr1] at hr2;exact p2 v hr2
    have hrun:=ny (P:=P) (List.replicate (hi'-lo) zv.cells.toList).flatten w (lo*i.size) 0 vs l6 aH hone;obtain⟨s1,s2,s3,s4,s5,vs',s6,s7,s8,s9⟩:=mr (List.replicate (hi'-lo) zv.cells.toList).flatten w (lo*i.size) vs l6 hfit;have hrow:=xM (b:=b) k3 k4 k5;have hwz:wid (List.replicate (hi'-lo) (ag.agg (l.map ag.shut))) i.size:=fun x hx=>by rw[mc hx]; simpa[ag.cells] using hsz
    have ju:RL w (om j M w) (j5 (xs.take lo++(List.replicate (hi'-lo) (ag.agg (l.map ag.shut))++xs.drop hi'))) ((vs.toList.take (xs.length*i.size)).take (lo*i.size)++((List.replicate (hi'-lo) zv.cells.toList).flatten++(vs.toList.take (xs.length*i.size)).drop (hi'*i.size))):=by
     rw[oM,oM,rZ lo k4,tX hi' k4,O1];exact(hrow.take _).append ((QO _ p1).append (hrow.drop _))
    have hhi:lo*i.size+(hi'-lo)*i.size=hi'*i.size:=by rw[<-bP,du l1]
    have hput:=xL (ver':=v0) (xs':=xs.take lo++(List.replicate (hi'-lo) (ag.agg (l.map ag.shut))++xs.drop hi')) hr hM l3 (w':=pq w b (lo*i.size) (List.replicate (hi'-lo) zv.cells.toList).flatten) ⟨aH,s2,s3,s4⟩ (fun b' hb' _=>s5 b' hb') l6 s6 s7 (au _)
     (fun _=>gh) (nz (vM k4) (nz hwz (vL k4))) ju (fun p hp=>by
      have hp':p<xs.length*i.size:=by
       rw[<-ju.1,iR (nz (vM k4) (nz hwz (vL k4)))] at hp;have:(xs.take lo++(List.replicate (hi'-lo) (ag.agg (l.map ag.shut))++xs.drop hi')).length=xs.length:=gh;rwa[this] at hp
      have htk:(List.take (lo*i.size) (vs.toList.take (xs.length*i.size))).length=lo*i.size:=gh;rcases bE p (lo*i.size) with q1|q1
      ·rw[s8 p (.inl q1),aQ (by rw[htk]; omega),bG q1,bG hp']; simp
      ·rw[bt (by rw[htk]; exact q1),htk]
       rcases bE p (hi'*i.size) with q2|q2
       ·rw[aQ (by rw[dR]; omega)]
        have:=s9 (p-lo*i.size) (by rw[dR]; omega)
        rw[du q1] at this;exact this
       ·rw[bt (by rw[dR]; omega),s8 p (.inr (by rw[dR]; omega)),cC,dR,show hi'*i.size+(p-lo*i.size-(hi'-lo)*i.size)=p by omega,bG hp']; simp)
    rw[fj];rcases hU (hi'-lo) with h0|h0
    ·refine⟨.tuple #[],pq w b (lo*i.size) (List.replicate (hi'-lo) zv.cells.toList).flatten,.inl ?_,j,hput.1,hput.2,.any _⟩;rw[h0] at l4;simp[execOp,hop,resolve,hb,invoke,builtin,Builtin.clear_,ha',ht',eb hs,l4,h0,pq]
    ·refine⟨.tuple #[],pq w b (lo*i.size) (List.replicate (hi'-lo) zv.cells.toList).flatten,.inl ?_,j,hput.1,hput.2,.any _⟩;obtain⟨m,hm⟩:∃m,hi'-lo=m+1:=⟨hi'-lo-1,aH⟩;simp only[df] at hrun;rw[<-rL,hm] at hrun;rw[hm] at l4;rw[<-rL,hm];simp[execOp,hop,resolve,hb,invoke,builtin,Builtin.clear_,ha',ht',eb hs,l4,zeroValue,pT hi,hzv,hrun]
   ·cases h
  ·cases h
 ·cases h
end
def fR.xt{j:J}{M:aC}{w:World}{x:ag}{v:Value}(h:gu j M w x v)(hp:x.plainCell=true):fR w (om j M w) x v:=by
 cases x with
 |slice tk xs=>cases tk with
  |sh=>exact h.er
  |c0=>cases hp
  |own k=>cases hp
 |bool b=>cases h with|plain h=>exact h
 |int k n=>cases h with|plain h=>exact h
 |str s=>cases h with|plain h=>exact h
 |raw v=>cases h with|plain h=>exact h
 |agg _=>cases hp
 |tuple _=>cases hp
 |ptr _ _=>cases hp
 |jB _=>cases hp
 |func _ _=>cases hp
 |iz _=>cases hp
 |j4 _=>cases hp
 |kf _ _=>cases hp
 |cB _ _ _ _ _=>cases hp
 |jt _ _ _ _=>cases hp
 |qV _ _=>cases hp
 |nD _=>cases hp
 |kj _ _ _=>cases hp
 |any=>cases hp
def Cr.xt{j:J}{M:aC}{w:World}{x:ag}{v:Value}(h:gu j M w x v)(hp:x.plain=true):Cr w (om j M w) x v:=by
 by_cases hag:∃cs,x = .agg cs
 ·obtain⟨cs,rfl⟩:=hag;obtain⟨us,h1,h2,h3⟩:=h.mW;refine⟨us,h1,h2,fun i c u hc hu => .xt (h3 i c u hc hu) ?_⟩
  simp only[ag.plain,bM] at hp;exact hp c (aI hc)
 ·have e1:x.plain=x.plainCell:=by cases x<;>first|rfl|exact absurd ⟨_,rfl⟩ hag
  have:=fR.xt h (e1▸hp);cases x<;>first|exact absurd ⟨_,rfl⟩ hag|exact this
def P5{j:J}{M:aC}{w:World}{x:ag}{v:Value}(h:gu j M w x v):gu j M w x.fV v:=by
 have hs:∀ {x:ag} {v:Value},gu j M w x v->gu j M w x.shut v:=fun {x v} h=>by
  cases x<;>first|exact h|exact .plain h.er
 by_cases hag:∃cs,x = .agg cs
 ·obtain⟨cs,rfl⟩:=hag;obtain⟨us,rfl,h2,h3⟩:=h.mW;refine .agg (by simpa using h2) fun i c u hc hu=>?_
  rw[aX,aV] at hc;obtain⟨c0,hc0,rfl⟩:=hc;exact hs (h3 i c0 u hc0 hu)
 ·cases x<;>first|exact absurd ⟨_,rfl⟩ hag|exact h|exact .plain h.er
section
variable {P:Program} {C:eR} {o:Oper} {bq:Env} {M:aC} {j:J} {w:World} {a:Act} {x:ag×aC}
def V3(hr:Rel j M w)(he:cn j M w bq a){f:Nat}{first caps:Array Operand}{zs:List fZ}(hop:o.op = .makeFunc (.func f) first caps)(hf:caps.isEmpty=true)(hz:vn first.toList=some zs)
  (h:ef C bq M (.Fm f zs)=some x):∃v w',rb P o a w v w'/\iV j M w x v w':=by
 simp only[ef] at h;split at h
 ·rename_i hp;cases h;obtain⟨h1,h2⟩:=ui he hz;have hf':caps = #[]:=by simpa using hf
  refine⟨.func (.func f) (first.map a.eval) #[],w,.inl ?_,.still hr (.qV (by simpa using h1) fun i c v hc hv=>?_)⟩
  ·simp[execOp,hop,Instr.makeFunc,hf']
  ·have hpc:=bM.1 hp c (aI hc);rw[aX,aV] at hc;obtain⟨y,hy,rfl⟩:=hc;rw[iL,aV] at hv;obtain⟨z,hz',rfl⟩:=hv;exact .xt (P5 (h2 i y z hy (by simpa using hz'))) hpc
 ·cases h
def PK(hr:Rel j M w)(he:cn j M w bq a){y i:Operand}{z z':fZ}{t e:TypeId}{len n:Nat}(hop:o.op = .indexAddr t y i)(ht:P.underlying t=some (.array len e))(hn:qA P e=some n)
  (hz:eW y=some z) (hz':eW i=some z') (h:ef C bq M (.AX len n z z')=some x):∃v w',rb P o a w v w'/\iV j M w x v w':=by
 simp only[ef] at h;have h1:=cS he hz;have h2:=cS he hz';split at h
 ·rename_i cs k m ez ez';obtain⟨⟨h0,hm,hle⟩,h⟩:=dh h;cases h;rw[ez] at h1;rw[ez'] at h2;obtain⟨b,off,vs,hv,hc⟩:=h1.um;refine⟨.pointer (some ⟨b,off+m.toNat*n,none⟩),w,.inl ?_,.still hr (.jB (vs:=fun q=>vs (m.toNat*n+q)) fun q c hq=>?_)⟩
  ·simp[execOp,hop,Instr.indexAt,eb ht,hv,h2.fX,asIntOf,h0,hm,jo hn,lP,Instr.sureAddr]
  ·rw[cC] at hq;have h3:=hc _ c hq;rw[Nat.add_assoc];exact h3
 ·rename_i id off k m ez ez';obtain⟨⟨h0,hm⟩,h⟩:=dh h;cases h;rw[ez] at h1;rw[ez'] at h2;obtain⟨b,h3,h4,h5,hv⟩:=h1.qe;refine⟨.pointer (some ⟨b,off+m.toNat*n,none⟩),w,.inl ?_,.still hr (.ptr h3 h4 h5)⟩;simp[execOp,hop,Instr.indexAt,eb ht,hv,h2.fX,asIntOf,h0,hm,jo hn,lP,Instr.sureAddr]
 ·cases h
def PW(hr:Rel j M w){id q sz:Nat}{cs:List ag}(hM:M[id]?=some (.cells cs))(hc:cs[q]?=some (.slice .c0 [])) :
  ∃j',Rel j' (M.set id (.cells (cs.set q (.slice (.own M.length) [])))++[.tick sz 0]) w/\Ext j M w j' (M.set id (.cells (cs.set q (.slice (.own M.length) [])))++[.tick sz 0]) w:=by
 have q0:Quiet w w:=⟨au _,rfl,rfl,rfl⟩;have hr1:Rel (gF j M.length none) (M++[.tick sz 0]) w:=hr.push (ob:=none) (fun b h=>by cases h) q0 (fun _ _=>rfl) (fun h=>by cases h) (fun sz n b h h'=>by cases h')
 have hx1:Ext j M w (gF j M.length none) (M++[.tick sz 0]) w:=Ext.push (fun b h=>by cases h) q0 (fun _ _=>rfl)
 have hid:=aN hM;have hM1:(M++[cL.tick sz 0])[id]?=some (.cells cs):=by rw[xJ hid]; exact hM
 obtain⟨b,vs,t,hj,hw,hl,hcs⟩:=hr.box id cs hM;have hj1:gF j M.length none id=some b:=by simp[gF,gI hid,hj]
 have hset:M.set id (cL.cells (cs.set q (.slice (.own M.length) [])))++[cL.tick sz 0]=(M++[cL.tick sz 0]).set id (cL.cells (cs.set q (.slice (.own M.length) []))):=by rw[List.set_append_left _ _ hid]
 rw[hset];have hh:∀j' M',Ext (gF j M.length none) (M++[.tick sz 0]) w j' M' w->Holds j' M' w b (.cells (cs.set q (.slice (.own M.length) []))):=fun j' M' hx=>⟨vs,t,hw,by simpa using hl,fun p c v hc' hv=>gu.mono hx ?_⟩
 ·exact⟨_,Rel.store hM1 rfl rfl hj1 hr1 q0 (fun _ _ _=>rfl) (fun vs t fr h=>⟨vs,fr,h,rfl⟩) hh,hx1.trans (Ext.store hM1 rfl rfl hj1 hr1 q0 (fun _ _ _=>rfl) (fun vs t fr h=>⟨vs,fr,h,rfl⟩))⟩
 ·by_cases hp:q=p
  ·subst hp;rw[fa (aN hc)] at hc';cases hc';have h1:=hcs q _ v hc hv
   obtain⟨A,hA⟩:∃A,v = .slice A 0 0:=by
    cases h1 with
    |plain h=>cases h
    |c0 A=>exact⟨A,rfl⟩
   rw[hA];exact .own (sz:=sz) (n:=0) dw dw (fR.nil _ _ _) fun _ => .inl ⟨by simp[gF],rfl,A,rfl⟩
  ·rw[fc hp] at hc';exact gu.mono hx1 (hcs p c v hc' hv)
def LZ(hr:Rel j M w){id q sz:Nat}{cs:List ag}(hM:M[id]?=some (.cells cs))(hc:cs[q]?=some (.slice .c0 [])) :
  ∃j',Rel j' (M.set id (.cells (cs.set q (.cB M.length 0 sz 0 0)))++[.arr sz 0 []]) w/\Ext j M w j' (M.set id (.cells (cs.set q (.cB M.length 0 sz 0 0)))++[.arr sz 0 []]) w:=by
 have q0:Quiet w w:=⟨au _,rfl,rfl,rfl⟩;have hr1:Rel (gF j M.length none) (M++[.arr sz 0 []]) w:=hr.push (ob:=none) (bx := .arr sz 0 []) (fun b h=>by cases h) q0 (fun _ _=>rfl) (fun h=>by cases h) (fun sz n b h h'=>by cases h') (fun sz ver xs h=>by injection h with e1 e2 e3; exact .inl ⟨e3.symm,rfl⟩)
 have hx1:Ext j M w (gF j M.length none) (M++[.arr sz 0 []]) w:=Ext.push (fun b h=>by cases h) q0 (fun _ _=>rfl)
 have hid:=aN hM;have hM1:(M++[cL.arr sz 0 []])[id]?=some (.cells cs):=by rw[xJ hid]; exact hM
 obtain⟨b,vs,t,hj,hw,hl,hcs⟩:=hr.box id cs hM;have hj1:gF j M.length none id=some b:=by simp[gF,gI hid,hj]
 have hset:M.set id (cL.cells (cs.set q (.cB M.length 0 sz 0 0)))++[cL.arr sz 0 []]=(M++[cL.arr sz 0 []]).set id (cL.cells (cs.set q (.cB M.length 0 sz 0 0))):=by rw[List.set_append_left _ _ hid]
 rw[hset];have hh:∀j' M',Ext (gF j M.length none) (M++[.arr sz 0 []]) w j' M' w->Holds j' M' w b (.cells (cs.set q (.cB M.length 0 sz 0 0))):=fun j' M' hx=>⟨vs,t,hw,by simpa using hl,fun p c v hc' hv=>gu.mono hx ?_⟩
 ·exact⟨_,Rel.store hM1 rfl rfl hj1 hr1 q0 (fun _ _ _=>rfl) (fun vs t fr h=>⟨vs,fr,h,rfl⟩) hh,hx1.trans (Ext.store hM1 rfl rfl hj1 hr1 q0 (fun _ _ _=>rfl) (fun vs t fr h=>⟨vs,fr,h,rfl⟩))⟩
 ·by_cases hp:q=p
  ·subst hp;rw[fa (aN hc)] at hc';cases hc';have h1:=hcs q _ v hc hv
   obtain⟨A,hA⟩:∃A,v = .slice A 0 0:=by
    cases h1 with
    |plain h=>cases h
    |c0 A=>exact⟨A,rfl⟩
   rw[hA];refine .cB (.inr ⟨rfl,A,rfl⟩) dw (fun bx hbx=>by rw[kc] at hbx; cases hbx; rfl) fun sz' v' zs hx=>?_
   rw[kc] at hx; injection hx with hx; injection hx with e1 e2 e3
   subst e1; subst e2; subst e3;exact⟨au _,fun _=>⟨rfl,au _,au _,.inl ⟨rfl,by simp[gF],A,rfl⟩⟩⟩
  ·rw[fc hp] at hc';exact gu.mono hx1 (hcs p c v hc' hv)
def J8{cs new:List ag}{off p:Nat}{x:ag}(h:off+new.length<=cs.length)(hp:p<new.length):mQ cs off (new.set p x)=(mQ cs off new).set (off+p) x:=by
 apply cE;intro i;rw[qY (by simpa using h)]
 by_cases hi:off+p=i
 ·subst hi;rw[fa (by rw[uU h]; omega),aW gh,show off+p-off=p by omega,fa hp]
 ·rw[fc hi,qY h];simp only[dL];split
  ·rename_i hc;rw[fc aH]
  ·rfl
def PN(hr:Rel j M w)(he:cn j M w bq a){y y':Operand}{z z':fZ}{t:TypeId}{n sz p:Nat}(hop:o.op = .store t y y')(hn:qA P t=some n)(hz:eW y=some z)(hz':eW y'=some z')
  (h:ef C bq M (.Bu sz p n z z')=some x):∃v w',rb P o a w v w'/\iV j M w x v w':=by
 simp only[ef] at h;split at h
 ·rename_i id off e;split at h
  ·rename_i cs hM;obtain⟨new,ju,h⟩:=bp h;split at h
   ·rename_i hp;split at h
    ·rename_i hcond;cases h
     have hs:ef C bq M (.store n z z')=some (.any,iT M id (.cells (mQ cs off new))):=by
      simp only[ef,e,hM,ju,bO];rw[aW hcond]
     obtain⟨v,w',h1,j',h2,h3,h4⟩:=Ee hr he hop hn hz hz' hs;rw[fe] at hM hp;have cJ:=aN hM;have hpl:=aN hp;have hle:off+new.length<=cs.length:=aH;rw[fj] at h2 h3 h4;have hM2:(M.set id (.cells (mQ cs off new)))[id]?=some (.cells (mQ cs off new)):=ec cJ
     have hc2:(mQ cs off new)[off+p]?=some (.slice .c0 []):=by
      rw[qY hle,aW aH,show off+p-off=p by omega]
      exact hp
     rw[fj,fj,J8 hle hpl];unfold PV PU;split
     ·obtain⟨j'',k1,k2⟩:=LZ (sz:=sz-500) h2 hM2 hc2;rw[List.set_set,dL] at k1 k2;exact⟨v,w',h1,j'',k1,h3.trans k2,.any _⟩
     ·obtain⟨j'',k1,k2⟩:=PW (sz:=sz) h2 hM2 hc2;rw[List.set_set,dL] at k1 k2;exact⟨v,w',h1,j'',k1,h3.trans k2,.any _⟩
    ·cases h
   ·cases h
  ·cases h
 ·cases h
end
section
variable {P:Program} {C:eR} {o:Oper} {bq:Env} {M:aC} {x:ag×aC} {j:J} {w:World} {a:Act}
def aaJ(hr:Rel j M w)(he:cn j M w bq a){t e:TypeId}{len:Nat}{parts:Array (Nat×Operand)}{i:TypeInfo}(hop:o.op = .buildSlice t len parts)(ht:P.underlying t=some (.slice e))
  (hi:P.info? e=some i) (hzs:GN 0 parts.toList=some []) (dR:0=len) (hroom:len*i.size<=2 ^ 24) (hzero:(i.zero.map fun z=>z.cells.size)=some i.size)
  (h:ef C bq M (.own (500+i.size) (.sY (.slice .c0 [])))=some x):∃v w',rb P o a w v w'/\iV j M w x v w':=by
 subst dR;simp only[ef,fZ.ev] at h;cases h;obtain⟨hll,hwd,cells',hcs,hrun,hel⟩:=A7 (w:=w) he hop ht hi hzs rfl hroom hzero (l:=[]) rfl;obtain⟨q,hb,ju⟩:=o6 (w:=w) (.cells cells' e (0,0));refine⟨_,_,.inl hrun,gF j M.length none,?_⟩;unfold PV PU;rw[aW (kh _ _),aW (kh _ _)];refine⟨hr.push (ob:=none) (fun b h=>by cases h) q hb (fun h=>by cases h) (fun sz n b h h'=>by cases h') (fun sz ver xs h=>by injection h with e1 e2 e3; exact .inl ⟨e3.symm,rfl⟩),Ext.push (fun b h=>by cases h) q hb,?_⟩
 refine .cB (.inr ⟨rfl,_,rfl⟩) dw (fun bx hbx=>by rw[kc] at hbx; cases hbx; rfl) fun sz' v' zs hx=>?_
 rw[kc] at hx; injection hx with hx; injection hx with e1 e2 e3
 subst e1; subst e2; subst e3;exact⟨au _,fun _=>⟨rfl,au _,au _,.inl ⟨rfl,by simp[gF],_,rfl⟩⟩⟩
end
section
variable {P:Program} {C:eR} {o:Oper} {bq:Env} {M:aC} {j:J} {w:World} {a:Act} {x:ag×aC}
def Qg{x:ag}{u v:Value}(h:valOf x=some u)(hr:gu j M w x v):v=u:=by
 unfold valOf at h;split at h
 ·cases h; exact hr.fX
 ·rename_i k n;cases h;obtain⟨vs,rfl,hl,hc⟩:=hr.mW;have hs:vs.size=1:=by simpa using hl.symm
  have h0:vs[0]?=some (vs[0]'(by omega)):=bg aH;have h1:=(hc 0 _ _ rfl h0).fX;congr 1;apply Array.ext
  ·simpa using hs
  ·intro i h2 h3;have:i=0:=aH;subst this;simpa using h1
 ·cases h
def gu.NG{u v:Value}(h:gu j M w (.raw u) v):v=u:=by cases h with|plain h=>cases h; rfl
def Wb(hr:Rel j M w)(he:cn j M w bq a){t:TypeId}{y:Operand}{z:fZ}{d:TypeDesc}(hop:o.op = .makeInterface t y)(hu:P.underlying t=some d)(hd:∀m,d ≠ .interface m)(hz:eW y=some z)
  (h:ef C bq M (.iface t z)=some x):∃v w',rb P o a w v w'/\iV j M w x v w':=by
 simp only[ef] at h;have h1:=cS he hz;split at h
 ·rename_i id off e;cases h;rw[e] at h1;obtain⟨b,_,hc,hj,hy⟩:=h1.qe;refine⟨_,w,.inl ?_,.still hr (.kj hc hj)⟩;simp only[execOp,hop,Instr.makeInterface,hy];cases d<;>first|exact absurd rfl (hd _)|simp[eb hu]
 obtain⟨v,hv,h⟩:=bp h;cases h;have hy:=Qg hv h1;refine⟨.iface t v,w,.inl ?_,.still hr (.plain (.raw _ rfl))⟩;simp only[execOp,hop,Instr.makeInterface,hy];cases d<;>first|exact absurd rfl (hd _)|simp[eb hu]
def Wl(hr:Rel j M w)(he:cn j M w bq a){y:Operand}{z:fZ}(hop:o.op = .panic y)(hz:eW y=some z)(h:ef C bq M (.raise z)=some x) :
  ∃u,(execOp a.eval o).run P w = .halt (.panic u) w/\HM j M w x u w:=by
 simp only[ef] at h;have h1:=cS he hz;split at h
 ·rename_i v e;split at h
  ·rename_i t u;cases h;rw[e] at h1;refine⟨.iface t u,?_,rfl,j,hr,Ext.refl j M w⟩;have:a.eval y = .iface t u:=h1.NG;simp[execOp,hop,Instr.panic,this]
  ·cases h
 ·cases h
end
section
variable {P:Program} {C:eR} {o:Oper} {bq:Env} {M:aC} {j:J} {w:World} {a:Act} {x:ag×aC}
def Wo(he:cn j M w bq a){y:Operand}{z:fZ}(hz:Q3 y=some z):gu j M w (z.ev bq) (a.eval y):=by
 unfold Q3 at hz;split at hz
 ·cases hz;exact .plain (.raw _ rfl)
 ·exact cS he hz
def RG{n:Nat}(he:cn j M w bq a):∀ {parts:List (Nat×Operand)} {ps:List (Nat×Nat×fZ)} {cs cs':List ag} {cells:Array Value},
  xP n parts=some ps->ml bq cs ps=some cs'->RC j M w cs cells ->
  ∃cells',Instr.fill (fun i=>some (i*n,n)) cells (parts.map fun p=>(p.1,a.eval p.2))=some cells'/\RC j M w cs' cells':=by
 intro parts;induction parts with
 |nil =>
  intro ps cs cs' cells h1 h2 h3;simp[xP] at h1; subst h1;simp[ml] at h2; subst h2;exact⟨cells,rfl,h3⟩
 |cons p r ih =>
  intro ps cs cs' cells h1 h2 h3;obtain⟨i,y⟩:=p;simp only[xP] at h1;obtain⟨z,hz,h1⟩:=bf h1;obtain⟨l,hl,h1⟩:=bf h1;cases h1;simp only[ml] at h2;obtain⟨new,ju,h2⟩:=bp h2;split at h2
  ·rename_i hc;obtain⟨c1,c2⟩:=hc;have hrc:=tz (cS he hz) ju;obtain⟨cells',e1,e2⟩:=ih hl h2 (h3.write (off:=i*n) hrc aH);refine⟨cells',?_,e2⟩;have hs1:=hrc.1;have hs2:=h3.1;simp only[aK,Instr.fill];rw[aP gh];exact e1
  ·cases h2
def PG(hr:Rel j M w)(he:cn j M w bq a){t e:TypeId}{len n:Nat}{parts:Array (Nat×Operand)}{i:TypeInfo}{zv:Value}{l:List ag}{ps:List (Nat×Nat×fZ)}(hop:o.op = .build t parts)
  (ht:P.underlying t=some (.array len e)) (hi:P.info? t=some i) (hzv:i.zero=some zv) (hl:tf zv.cells.toList=some l) (hn:qA P e=some n) (hps:xP n parts.toList=some ps)
  (h:ef C bq M (.build l ps)=some x):∃v w',rb P o a w v w'/\iV j M w x v w':=by
 simp only[ef] at h;obtain⟨cs,hcs,h⟩:=bp h;cases h;obtain⟨h1,h2⟩:=qB (j:=j) (M:=M) (w:=w) hl;obtain⟨cells',e1,e2⟩:=RG (n:=n) he hps hcs (cells:=zv.cells) ⟨by simpa using h1,fun i c v hc hv=>h2 i c v hc (by simpa using hv)⟩
 refine⟨.agg cells',w,.inl ?_,.still hr (.agg e2.1 e2.2)⟩;have e1':Instr.fill (fun i=>some (i*n,n)) zv.cells (parts.map fun p=>(p.1,a.eval p.2)).toList=some cells':=by simpa using e1
 simp only[execOp,hop,Instr.build,zeroValue,Sem.run_bind,pT hi,Result.andThen_ok,hzv,Sem.run_pure,eb ht,jo hn];simp only[e1',Sem.run_pure,Result.andThen_ok]
def La{a b:ag}{r:Bool}(h:km .i a b=some r):∃k x y,a = .int k x/\b = .int k y/\r=(x==y):=by
 cases a<;>cases b<;>first
  |(simp only[km] at h
    split at h
    ·rename_i hk; subst hk; injection h with h; exact⟨_,_,_,rfl,rfl,h.symm⟩
    ·cases h)
  |cases h
def BT{d:Nat}{e:TypeId}{k0:IntKind}(hk:P.underlying e=some (.int k0))(hc1:P.cellsOf e=1){cs ds:List ag}{us vs:Array Value}(hc:RC j M w cs us)(hd:RC j M w ds vs):∀(n k:Nat){r:Bool},kU (List.replicate n .i) (cs.drop k) (ds.drop k)=some r ->
  (Op.eqItems (d+1) e (P.cellsOf e) us vs (List.range' k n)).run P w = .ok r w
 |0,k,r,h2=>by
  unfold kU at h2;split at h2<;>simp_all [Op.eqItems]
 |n+1,k,r,h2=>by
  have hk1:k<cs.length:=by
   rcases bE k cs.length with h|h
   ·exact h
   ·rw[jl h,jj] at h2; simp[kU] at h2
  have hk2:k<ds.length:=by
   rcases bE k ds.length with h|h
   ·exact h
   ·rw[jl h,cW hk1,jj] at h2;simp[kU] at h2
  rw[cW hk1,cW hk2,jj] at h2;simp only[kU] at h2;obtain⟨e1,he1,h2⟩:=bp h2;obtain⟨e2,he2,h2⟩:=bp h2;cases h2;have hlu:k<us.size:=by have:=hc.1; omega
  have hlv:k<vs.size:=by have:=hd.1; omega
  have hu:=bg hlu;have hv:=bg hlv;have ih:=BT (d:=d) hk hc1 hc hd n (k+1) he2;have hr1:=hc.2 k _ _ (ai hk1) hu;have hr2:=hd.2 k _ _ (ai hk2) hv;have hag:Cs P e=some false:=by simp[Cs,hk]
  have p1:(part e us (k*P.cellsOf e)).run P w = .ok us[k] w:=by simp[part,lG hag,hc1,hu]
  have p2:(part e vs (k*P.cellsOf e)).run P w = .ok vs[k] w:=by simp[part,lG hag,hc1,hv]
  have p3:(Op.equalIn (d+1) e us[k] vs[k]).run P w = .ok e1 w:=by
   obtain⟨kk,x,y,e3,e4,rfl⟩:=La he1;rw[e3] at hr1; rw[e4] at hr2;rw[hr1.fX,hr2.fX];exact run_equalIn_int w d e _ _ x y hk
  rw[List.range'_succ];simp only[Op.eqItems,Sem.run_bind,p1,p2,p3,Result.andThen_ok];cases e1
  ·simp
  ·simpa using ih
def V7(hr:Rel j M w)(he:cn j M w bq a){y y':Operand}{z z':fZ}{t t' e:TypeId}{len:Nat}{k0:IntKind}(hop:o.op = .binOp .eql t y y' t')(ht:P.underlying t=some (.array len e))(hk:P.underlying e=some (.int k0))(hs:qA P e=some 1)
  (hz:eW y=some z) (hz':eW y'=some z') (h:ef C bq M (.Qs (List.replicate len .i) false z z')=some x):∃v w',rb P o a w v w'/\iV j M w x v w':=by
 simp only[ef] at h;have h1:=cS he hz;have h2:=cS he hz';split at h
 ·rename_i cs ds ez ez';obtain⟨r,hee,h⟩:=bp h;cases h;rw[ez] at h1;rw[ez'] at h2;obtain⟨us,hus,hul,huc⟩:=h1.mW;obtain⟨vs,hvs,hvl,hvc⟩:=h2.mW;obtain⟨inf,hinf,hsz⟩:=EC hs;have hc1:P.cellsOf e=1:=by simp[Program.cellsOf,hinf,hsz]
  have heq:(Op.equal t (.agg us) (.agg vs)).run P w = .ok r w:=by
   unfold Op.equal;rw[show Op.maxDepth=9998+1+1 from rfl,run_equalIn_array w (9998+1) us vs ht hinf,lu]
   exact BT (d:=9998) hk hc1 ⟨hul,huc⟩ ⟨hvl,hvc⟩ len 0 (by simpa using hee)
  have hgt:P.eqGuardType P.depth t=false:=by
   unfold Program.depth;rw[show 2*(P.types.size+Made.depth)+2=(2*(P.types.size+Made.depth))+1+1 from rfl,Program.eqGuardType,ht]
   simp only[Program.eqGuardType,hk]
  have hguard:∀op,(eqGuard op t y y' (.agg us) (.agg vs)).run P w = .ok () w:=by
   intro op;unfold eqGuard;cases op<;>simp[hgt]
  exact⟨.bool r,w,.inl (by simp[execOp,hop,hus,hvs,hguard,binOp,heq]),.still hr (.plain (.bool _))⟩
 ·cases h
def ug{l:List ag}(hp:0<l.length)(h1:l.all ag.plainCell=true):(ag.agg l).norm.cells=l:=by
 match l with
 | []=>simp at hp
 | [c] =>
  simp only[kG,List.all_nil,gb] at h1
  show c.cells=[c]
  cases c<;>first|rfl|cases h1
 |_::_::_=>rfl
def VL(z:Array Value)(n k:Nat)(h:k<n)(hz:0<z.size):(madeCells z n)[k]?=z[k % z.size]?:=by
 have hm:k % z.size<z.size:=nu _ hz;rw[bg hm];simp[madeCells,h,hm]
def Og(w:World)(iA:Nat->Nat->Prop){v:Value}{c:ag}(h:Kq v=some c):fR w iA c.shut v:=by
 unfold Kq at h
 split at h<;>first
  |(cases h; first|exact .bool _|exact .int _ _|exact .str _|exact .raw _ rfl|exact fR.nil _ _ _)
  |cases h
def HO:∀ {vs:List Value} {l:List ag},tf vs=some l->∀(i:Nat)(c:ag)(v:Value),l[i]?=some c->vs[i]?=some v->Kq v=some c
 | [],l,h,i,c,v,h1,h2=>by simp at h2
 |u::r,l,h,i,c,v,h1,h2=>by
  simp only[tf] at h;obtain⟨x,hx,h⟩:=bf h;obtain⟨l',hl,h⟩:=bf h;cases h;cases i with
  |zero=>simp at h1 h2; subst h1; subst h2; exact hx
  |succ i=>exact HO hl i c v (by simpa using h1) (by simpa using h2)
def Nr{t e:TypeId}{i:TypeInfo}{zv:Value}{l:List ag}{y:Operand}{k:Int}{kk:IntKind}(hop:o.op = .makeSlice t y y)(ht:P.underlying t=some (.slice e))(hi:P.info? e=some i)(hzv:i.zero=some zv)
  (hl:tf zv.cells.toList=some l) (c1:l.length=i.size) (c2:0<i.size) (c3:i.bytes<=32*i.size) (hev:a.eval y = .int kk k) (h0:0<=k) (hroom:cr k.toNat (8*(l.map ag.shut).length)) (hpl:(l.map ag.shut).all ag.plainCell=true) :
  ∃row:Array Value,(execOp a.eval o).run P w = .ok (.value (.slice (some ⟨w.heap.size,0,none⟩) k.toNat k.toNat)) (w.alloc (.cells row e))/\row.size=k.toNat*i.size /\
   ∀iA (w':World) (q:Nat) (x:ag) (p:Nat) (c:ag),(List.replicate k.toNat (ag.agg (l.map ag.shut)).norm)[q]?=some x->x.cells[p]?=some c->∃v,row[q*i.size+p]?=some v/\fR w' iA c v:=by
 have hls:(l.map ag.shut).length=i.size:=by simpa using c1
 have hzs:zv.cells.size=i.size:=by
  have:=(qB (j:=⟨fun _=>none,fun _ _=>False⟩) (M:=[]) (w:=w) hl).1
  simp at this; omega
 unfold cr at hroom;rw[hls] at hroom
 have hb:i.bytes*k.toNat<=2 ^ 46:=by
  have h1:=bd k.toNat c3;have h2:32*i.size*k.toNat=4*(k.toNat*(8*i.size)):=by rw[show(32:Nat)=4*8 from rfl,Nat.mul_assoc 4 8,Nat.mul_assoc 4,Nat.mul_comm (8*i.size)]
  omega
 have hk44:k.toNat<=2 ^ 44:=aY (fM _ aH) hroom
 have hrun:=run_make (P:=P) w t e i zv ht hi hzv kk kk k k h0 (dP _) (by
  have:((i.bytes*k.toNat:Nat):Int)<=2 ^ 46:=by exact_mod_cast hb
  rw[Int.natCast_mul,ou h0] at this;omega) aH
 refine⟨madeCells zv.cells (k.toNat*i.size),by simp[execOp,hop,hev,hrun],size_madeCells _ _,fun iA w' q x p c hx hc=>?_⟩
 rw[gm] at hx;split at hx
 ·rename_i hq;cases hx;rw[ug aH hpl] at hc;have hp:p<i.size:=by rw[<-hls]; exact aN hc
  have cJ:q*i.size+p<k.toNat*i.size:=by
   have:(q+1)*i.size<=k.toNat*i.size:=bd _ hq;rw[bP,fN] at this;omega
  rw[VL _ _ _ cJ aH,hzs,Nat.add_comm,Nat.add_mul_mod_self_right,nG hp];rw[aX,aV] at hc;obtain⟨c0,hc0,rfl⟩:=hc;have hpz:p<zv.cells.size:=aH;have hv:=bg hpz;refine⟨_,hv,?_⟩;exact Og w' iA (HO hl p c0 _ hc0 dw)
 ·cases hx
def Wh(hr:Rel j M w)(he:cn j M w bq a){t e:TypeId}{i:TypeInfo}{zv:Value}{l:List ag}{y:Operand}{z:fZ}(hop:o.op = .makeSlice t y y)(ht:P.underlying t=some (.slice e))(hi:P.info? e=some i)(hzv:i.zero=some zv)
  (hl:tf zv.cells.toList=some l) (hz:eW y=some z) (c1:l.length=i.size) (c2:0<i.size) (c3:i.bytes<=32*i.size) (h:ef C bq M (.mkS (l.map ag.shut) z)=some x):∃v w',rb P o a w v w'/\iV j M w x v w':=by
 simp only[ef] at h;have h1:=cS he hz;split at h
 ·rename_i kk k ek;obtain⟨⟨h0,hroom,hpl⟩,h⟩:=dh h;cases h;rw[ek] at h1;obtain⟨row,hrun,hsz,hel⟩:=Nr (w:=w) hop ht hi hzv hl c1 c2 c3 h1.fX h0 hroom hpl;have hls:(l.map ag.shut).length=i.size:=by simpa using c1
  obtain⟨q,hb,ju⟩:=o6 (w:=w) (.cells row e (0,0));refine⟨_,{ w with heap:=w.heap.push (.cells row e (0,0)) },.inl hrun,?_⟩
  have ext:Ext j M w j M { w with heap:=w.heap.push (.cells row e (0,0)) }:=Ext.grow q.size rfl rfl rfl hb
  have rel:Rel j M { w with heap:=w.heap.push (.cells row e (0,0)) }:=hr.grow q.size rfl rfl rfl hb
  refine⟨j,rel,ext,.plain (.slice _ _ _ _ w.heap.size 0 i.size (fun p=>(row[p]?).getD undef) dw (au _) (fun _=>rfl) (fun x hx=>?_) (fun n y k c hn hk=>?_) (fun n y k c hn hk=>?_))⟩
  ·obtain⟨_,rfl⟩:=List.mem_replicate.1 hx;rw[ug aH hpl,hls]
  ·obtain⟨u,hu,_⟩:=hel (om j M { w with heap:=w.heap.push (.cells row e (0,0)) }) { w with heap:=w.heap.push (.cells row e (0,0)) } n y k c hn hk
   refine⟨?_,dw,fun id hid hj=>?_,fun hx=>absurd (hr.Aq _ _ hx) (ic _)⟩
   ·simp only[World.cell?,ju,aJ,hu];rfl
   ·have:=hr.lt id _ hid hj;omega
  ·obtain⟨u,hu,hru⟩:=hel (om j M { w with heap:=w.heap.push (.cells row e (0,0)) }) { w with heap:=w.heap.push (.cells row e (0,0)) } n y k c hn hk
   rw[hu];exact hru
 ·cases h
def aaI(hr:Rel j M w)(he:cn j M w bq a){t e:TypeId}{i:TypeInfo}{zv:Value}{l:List ag}{y:Operand}{z:fZ}(hop:o.op = .makeSlice t y y)(ht:P.underlying t=some (.slice e))(hi:P.info? e=some i)(hzv:i.zero=some zv)
  (hl:tf zv.cells.toList=some l) (hz:eW y=some z) (c1:l.length=i.size) (c2:0<i.size) (c3:i.bytes<=32*i.size) (h:ef C bq M (.PC (l.map ag.shut) z)=some x):∃v w',rb P o a w v w'/\iV j M w x v w':=by
 simp only[ef] at h;have h1:=cS he hz;split at h
 ·rename_i kk k ek;obtain⟨⟨h0,hroom,hpl⟩,h⟩:=dh h;cases h;rw[ek] at h1;obtain⟨row,hrun,hsz,hel⟩:=Nr (w:=w) hop ht hi hzv hl c1 c2 c3 h1.fX h0 hroom hpl;have hls:(l.map ag.shut).length=i.size:=by simpa using c1
  rw[hls];obtain⟨q,hb,ju⟩:=o6 (w:=w) (.cells row e (0,0));have hob:∀b,some w.heap.size=some b->w.heap.size<=b/\b<({ w with heap:=w.heap.push (.cells row e (0,0)) }:World).heap.size:=fun b h=>by cases h; simp
  have ext:Ext j M w (gF j M.length (some w.heap.size)) (M++[.arr i.size 0 (List.replicate k.toNat (ag.agg (l.map ag.shut)).norm)]) { w with heap:=w.heap.push (.cells row e (0,0)) }:=Ext.push (fun b hb=>(hob b hb).1) q hb
  refine⟨_,{ w with heap:=w.heap.push (.cells row e (0,0)) },.inl hrun,gF j M.length (some w.heap.size),hr.push hob q hb (fun h=>by cases h) (fun sz n b h _=>by cases h) (fun sz0 v0 xs0 he=>?_),ext,?_⟩
  ·injection he with e1 e2 e3
   subst e1; subst e2; subst e3;refine .inr ⟨w.heap.size,row,e,rfl,ju,by simp[hsz],fun x hx=>?_,fun j' M' hx q0 x p c hq hp=>hel (om j' M' { w with heap:=w.heap.push (.cells row e (0,0)) }) { w with heap:=w.heap.push (.cells row e (0,0)) } q0 x p c hq hp⟩
   obtain⟨_,rfl⟩:=List.mem_replicate.1 hx;rw[ug aH hpl,hls]
  ·refine .cB (.inl ⟨_,_,_,by rw[bT],aH⟩) dw (fun bx hbx=>by rw[kc] at hbx; cases hbx; rfl) fun sz' v' ys hx=>?_
   rw[kc] at hx; injection hx with hx; injection hx with e1 e2 e3
   subst e1; subst e2; subst e3;exact⟨au _,fun _=>⟨rfl,cR _,dw,.inr ⟨w.heap.size,k.toNat,row,e,by simp[gF],dw,aH,ju,by rw[aJ]; omega⟩⟩⟩
 ·cases h
end
section
variable {j:J} {M:aC} {w w':World}
def Ext.uV{k b' sz ver ver':Nat}{xs xs':List ag}(hM:M[k]?=some (.arr sz ver xs))(q:Quiet w w')(hb:∀b,b<w.heap.size->w'.heap[b]?=w.heap[b]?)(hf:w.heap.size<=b')(hn:ver<ver') :
  Ext j M w (gF j k (some b')) (M.set k (.arr sz ver' xs')) w' where
 len:=dw
 size:=q.size
 os:=q.os
 tape:=q.tape
 output:=q.output
 X:=rfl
 fix:=fun i b0 h hf=>by
  have e:k≠i:=by rintro rfl; rw[hM] at h; cases h; cases hf
  exact⟨by simp[gF,eY e],b0,by rw[cN e]; exact h,rfl⟩
 tick:=fun i sz0 n0 h=>by
  have e:k≠i:=by rintro rfl; rw[hM] at h; cases h
  exact⟨n0,au _,by rw[cN e]; exact h,fun _=>⟨by simp[gF,eY e],fun b vs0 t0 _ hv=>⟨vs0,(hb b (lt_of_block hv)).trans hv,rfl⟩⟩⟩
 arr:=fun i sz0 v0 xs0 h=>by
  by_cases e:k=i
  ·subst e;rw[hM] at h;injection h with h; injection h with h1 h2 h3
   subst h1; subst h2; subst h3;exact .inr ⟨ver',xs',ec (aN hM),aH,fun he=>aH⟩
  ·exact .inr ⟨v0,xs0,by rw[cN e]; exact h,au _,fun _=>⟨by simp[gF,eY e],rfl,fun b vs0 t0 _ hv=>⟨vs0,(hb b (lt_of_block hv)).trans hv,rfl⟩⟩⟩
 tags:=fun b0 vs0 t0 fr0 h=>⟨vs0,fr0,(hb b0 (lt_of_block h)).trans h,rfl⟩
 iA:=fun b0 off h=>by
  refine⟨⟨bz h.1 q.size,fun i hi hji=>?_,h.3⟩,World.cell?_of_block (w:=w) (hb b0 h.1)⟩
  have e:k≠i:=by
   rintro rfl;have:b'=b0:=by simpa[gF] using hji
   have:=h.1;omega
  rw[cN e];exact h.2 i (by simpa using hi) (by simpa[gF,eY e] using hji)
 uh:=fun b0 cJ h=>by
  refine⟨hb b0 cJ,fun i hi hji=>?_⟩
  by_cases e:i=k
  ·have:b'=b0:=by simpa[gF,e] using hji
   omega
  ·exact h i (by simpa using hi) (by simpa[gF,e] using hji)
def Rel.uV{k b' sz ver ver':Nat}{xs xs':List ag}(hM:M[k]?=some (.arr sz ver xs))(hr:Rel j M w)(q:Quiet w w')(hb:∀b,b<w.heap.size->w'.heap[b]?=w.heap[b]?)
  (hf:w.heap.size<=b') (cJ:b'<w'.heap.size) (hn:ver<ver') (hh:∀j' M',Ext j M w j' M' w'->Fc j' M' w' b' sz xs'):Rel (gF j k (some b')) (M.set k (.arr sz ver' xs')) w':=by
 have ext:Ext j M w (gF j k (some b')) (M.set k (.arr sz ver' xs')) w':=Ext.uV hM q hb hf hn;refine⟨fun i i' b0 hi hi' h h'=>?_,fun i b0 hi h=>?_,fun i bx0 h hf=>?_,fun i sz0 n0 b0 h hji=>?_,fun i sz0 v0 xs0 h=>?_,fun i b0 hi h off hx=>?_,fun b0 off h=>bz (hr.Aq b0 off h) q.size⟩
 ·simp only[dL] at hi hi'
  by_cases e:i=k<;>by_cases e':i'=k
  ·omega
  ·have h1:b'=b0:=by simpa[gF,e] using h
   have:=hr.lt i' b0 hi' (by simpa[gF,e'] using h')
   omega
  ·have h1:b'=b0:=by simpa[gF,e'] using h'
   have:=hr.lt i b0 hi (by simpa[gF,e] using h)
   omega
  ·exact hr.inj i i' b0 hi hi' (by simpa[gF,e] using h) (by simpa[gF,e'] using h')
 ·simp only[dL] at hi
  by_cases e:i=k
  ·have h1:b'=b0:=by simpa[gF,e] using h
   subst h1;exact cJ
  ·exact bz (hr.lt i b0 hi (by simpa[gF,e] using h)) q.size
 ·have e:k≠i:=by rintro rfl; rw[ec (aN hM)] at h; cases h; cases hf
  rw[cN e] at h;obtain⟨b0,h1,h2⟩:=hr.fix i bx0 h hf;exact⟨b0,by simpa[gF,eY e] using h1,h2.mono ext (hb b0 (hr.lt i b0 (aN h) h1))⟩
 ·have e:k≠i:=by rintro rfl; rw[ec (aN hM)] at h; cases h
  rw[cN e] at h;obtain⟨vs0,t0,h1⟩:=hr.tick i sz0 n0 b0 h (by simpa[gF,eY e] using hji)
  exact⟨vs0,t0,(hb b0 (lt_of_block h1)).trans h1⟩
 ·by_cases e:k=i
  ·subst e;rw[ec (aN hM)] at h;injection h with h; injection h with e1 e2 e3
   subst e1; subst e2; subst e3;obtain⟨vs,t,g⟩:=hh _ _ ext;exact .inr ⟨b',vs,t,by simp[gF],g⟩
  ·rw[cN e] at h;exact qC hr ext h (by simp[gF,eY e]) fun b0 h1=>hb b0 (hr.lt i b0 (aN h) h1)
 ·by_cases e:i=k
  ·have h1:b'=b0:=by simpa[gF,e] using h
   have h2:=hr.Aq b0 off hx;omega
  ·exact hr.vd i b0 (by simpa using hi) (by simpa[gF,e] using h) off hx
def nS{iA:Nat->Nat->Prop}{xs:List ag}{v:Value}{size:Nat}(hx:fR w iA (.slice .sh xs) v)(hw:wid xs size):∃A cap,v = .slice A xs.length cap/\xs.length<=cap /\
  (xs=[]\/∃b off,A=some ⟨b,off,none⟩/\∃us:List Value,RL w iA (j5 xs) us/\us.length=xs.length*size/\(∀u,u∈us->u.oneCell'=true)/\∀p u,us[p]?=some u->w.cell? ⟨b,off+p,none⟩=some u/\iA b (off+p)):=by
 cases hx with
 |slice _ A len cap b off sz vs hl hc ha hz hs hr =>
  subst hl;refine⟨A,cap,rfl,hc,?_⟩;rcases List.eq_nil_or_concat xs with h0|⟨_,_,h0⟩
  ·exact .inl h0
  ·have hne:xs≠[]:=by rw[h0]; simp
   have hsz:sz=size:=by
    obtain⟨x,r,hxr⟩:=fm hne;have hm:x∈xs:=by rw[hxr]; exact bD ..
    rw[<-hz x hm,hw x hm]
   subst hsz;have dR:((List.range (xs.length*sz)).map vs).length=xs.length*sz:=dw
   have hrl:RL w iA (j5 xs) ((List.range (xs.length*sz)).map vs):=by
    refine⟨by rw[iR hw,dR],fun p c v hc hv=>?_⟩
    obtain⟨q,x,k,h1,h2,rfl⟩:=Dx hw hc;have cJ:q*sz+k<xs.length*sz:=by rw[<-iR hw]; exact aN hc
    rw[aX,gP cJ] at hv;simp only[eL] at hv;cases hv;exact hr q x k c h1 h2
   refine .inr ⟨b,off,ha hne,_,hrl,dR,fun u hu=>?_,fun p u hu=>?_⟩
   ·obtain⟨p,hp⟩:=bZ hu;have hp':p<(j5 xs).length:=by rw[hrl.1]; exact aN hp
    exact fR.one (hrl.2 p _ u (ai hp') hp)
   ·have hp':p<(j5 xs).length:=by rw[hrl.1]; exact aN hu
    obtain⟨q,x,k,h1,h2,rfl⟩:=Dx hw (ai hp');have cJ:q*sz+k<xs.length*sz:=by rw[<-iR hw]; exact hp'
    rw[aX,gP cJ] at hu;simp only[eL] at hu;cases hu;exact hs q x k _ h1 h2
end
end
end Go.Abs
