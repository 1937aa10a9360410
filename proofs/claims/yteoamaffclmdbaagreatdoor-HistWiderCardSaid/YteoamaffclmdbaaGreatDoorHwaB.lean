import Derived.KernelRfl
import Derived.Laws.Strings
import Derived.Laws.StructEq
import Derived.MapKept
import Derived.Laws.IdiomStrings
import Derived.Laws.MakeOwn
import Derived.ChangeKeysEq
import Derived.Test.YteoamaffclmdbaaGreatDoorHwaA
set_option linter.unusedSimpArgs false
set_option linter.unusedVariables false
set_option linter.unusedSectionVars false
set_option linter.defProp false
open Go.Proofs.Tryz
set_option linter.defProp false
set_option maxRecDepth 100000
namespace Go.Proofs.YteoamaffclmdbaaGreatDoor
open Go Go.Abs
def fp{o:Option eH}{n:Nat}{r:List sP}{c:cA}(h:o=some (eH.mk n r c):=by kernel_rfl):o=some (eH.mk n r (sub c 0)):=okc h
def fO(r k:cA)(h:At r 0 k:=by exact aiJ _):eqs r 0 k:=wh r k 0 h
def U2:Ko [] f238:=eM
def aj8:=U2.1
def adb:=eH.mk 1 [.tmp 2] (sub aj8 0)
def U4:Ko [] f240:=eM
def aka:=U4.1
def adf:=eH.mk 2 [.tmp 4,.tmp 5] (sub aka 0)
def Uu:Ko [] f194:=eM
def ajI:=Uu.1
def acN:=eH.mk 2 [.dH 4 6,.tmp 5] (sub ajI 0)
def Ux:Ko [] f197:=eM
def ajL:=Ux.1
def acP:=eH.mk 2 [.dH 4 6,.tmp 5] (sub ajL 0)
def Uy:Ko [] f198:=eM
def aeE:=Uy.1
def I0:=eH.mk 1 [.tmp 2] (sub aeE 0)
abbrev Nn:=sub aeE 15
def amL:Ko [] f249:=eM
def api:=amL.1
def ali:=eH.mk 3 [.tmp 6,.tmp 7] (sub api 0)
def U9:Ko [] f250:=eM
def ake:=U9.1
def adj:=eH.mk 2 [.tmp 4] (sub ake 0)
def Va:Ko [] f251:=eM
def akf:=Va.1
def adk:=eH.mk 2 [.tmp 4] (sub akf 0)
def Uz:Ko [] f199:=eM
def ajM:=Uz.1
def acQ:=eH.mk 2 [.tmp 4,.tmp 5] (sub ajM 0)
def pA:=by
 have h:=bR (fO aj8 U2.1) (bR (fO aka U4.1) (bR (fO ajI Uu.1) (bR (fO ajL Ux.1) (bR (fO aeE Uy.1) (bR (fO ake U9.1) (bR (fO akf Va.1) (fO ajM Uz.1)))))));simp only[eM,U2,U4,Uu,Ux,Uy,U9,Va,Uz,yK,seval] at h;exact h
def aiv:=pA.1
def aoT:=pA.2.1
def aed:=pA.2.2.1
def X3:=pA.2.2.2.1
def wM:=pA.2.2.2.2.1
def aoW:=pA.2.2.2.2.2.1
def aoX:=pA.2.2.2.2.2.2.1
def aoF:=pA.2.2.2.2.2.2.2
def TN:Ko [] f151:=eM
def ajg:=TN.1
def acr:=eH.mk 3 [.tmp 6,.tmp 7] (sub ajg 0)
def Ur:Ko [] f191:=eM
def ajG:=Ur.1
def acK:=eH.mk 2 [.dH 4 6,.tmp 5] (sub ajG 0)
def UA:Ko [9] f200:=eM
def aeF:=UA.1
def Sh:=eH.mk 2 [.tmp 4] (sub aeF 0)
def ank:sO [9] f200 Sh:=fp
abbrev ZW:=sub aeF 7
def U3:Ko [] f239:=eM
def aj9:=U3.1
def ade:=eH.mk 2 [.tmp 4] (sub aj9 0)
def Ui:Ko [1000241,1000242] f182:=eM
def ajz:=Ui.1
def Sb:=eH.mk 2 [] (sub ajz 0)
def anf:sO [1000241,1000242] f182 Sb:=fp
def U5:Ko [1000241,1000283] f244:=eM
def akb:=U5.1
def Sl:=eH.mk 2 [] (sub akb 0)
def ano:sO [1000241,1000283] f244 Sl:=fp
def Uj:Ko [1000205,1000243,2000182] f183:=eM
def ajA:=Uj.1
def Sc:=eH.mk 4 [] (sub ajA 0)
def ang:sO [1000205,1000243,2000182] f183 Sc:=fp
def Uv:Ko [1000205,1000248,2000182] f195:=eM
def ajJ:=Uv.1
def Sg:=eH.mk 3 [] (sub ajJ 0)
def anj:sO [1000205,1000248,2000182] f195 Sg:=fp
def pB:=by
 have h:=bR (fO ajg TN.1) (bR (fO ajG Ur.1) (bR (fO aeF UA.1) (bR (fO aj9 U3.1) (bR (fO ajz Ui.1) (bR (fO akb U5.1) (bR (fO ajA Uj.1) (fO ajJ Uv.1)))))));simp only[eM,TN,Ur,UA,U3,Ui,U5,Uj,Uv,yK,seval] at h;exact h
def Ks:=pB.1
def aoE:=pB.2.1
def CB:=pB.2.2.1
def aoS:=pB.2.2.2.1
def aec:=pB.2.2.2.2.1
def aej:=pB.2.2.2.2.2.1
def QP:=pB.2.2.2.2.2.2.1
def X2:=pB.2.2.2.2.2.2.2
def Uw:Ko [] f196:=eM
def ajK:=Uw.1
def acO:=eH.mk 2 [] (sub ajK 0)
def Uh:Ko [] f181:=eM
def ajy:=Uh.1
def acG:=eH.mk 3 [.tmp 6] (sub ajy 0)
def UC:Ko [] f202:=eM
def ajO:=UC.1
def acS:=eH.mk 2 [.tmp 4] (sub ajO 0)
def Un:Ko [] f187:=eM
def ajD:=Un.1
def acI:=eH.mk 2 [.dH 4 3,.tmp 5] (sub ajD 0)
def US:Ko [] f225:=eM
def aj2:=US.1
def ac7:=eH.mk 3 [.dH 6 3,.tmp 7] (sub aj2 0)
def TJ:Ko [] f147:=eM
def ajd:=TJ.1
def aco:=eH.mk 4 [.dH 8 3,.tmp 9,.tmp 10] (sub ajd 0)
def TL:Ko [] f149:=eM
def aje:=TL.1
def acp:=eH.mk 4 [.dH 8 3,.tmp 9] (sub aje 0)
def TM:Ko [] f150:=eM
def ajf:=TM.1
def acq:=eH.mk 3 [.dH 6 3,.tmp 7,.tmp 8] (sub ajf 0)
def oj:=by
 have h:=bR (fO ajK Uw.1) (bR (fO ajy Uh.1) (bR (fO ajO UC.1) (bR (fO ajD Un.1) (bR (fO aj2 US.1) (bR (fO ajd TJ.1) (bR (fO aje TL.1) (fO ajf TM.1)))))));simp only[eM,Uw,Uh,UC,Un,US,TJ,TL,TM,yK,seval] at h;exact h
def aee:=oj.1
def HS:=oj.2.1
def air:=oj.2.2.1
def aiq:=oj.2.2.2.1
def X4:=oj.2.2.2.2.1
def ad5:=oj.2.2.2.2.2.1
def ad6:=oj.2.2.2.2.2.2.1
def QN:=oj.2.2.2.2.2.2.2
def Vb:Ko [] f252:=eM
def aeK:=Vb.1
def adl:=eH.mk 2 [.tmp 4] (sub aeK 0)
abbrev Z3:=sub aeK 7
def UB:Ko [] f201:=eM
def ajN:=UB.1
def acR:=eH.mk 2 [.tmp 4] (sub ajN 0)
def Vd:Ko [] f254:=eM
def akh:=Vd.1
def adn:=eH.mk 5 [.tmp 6] (sub akh 0)
def amP:Ko [] f287:=eM
def apm:=amP.1
def alq:=eH.mk 2 [.tmp 4] (sub apm 0)
def Vc:Ko [] f253:=eM
def akg:=Vc.1
def adm:=eH.mk 2 [.tmp 4] (sub akg 0)
def UD:Ko [] f203:=eM
def ajP:=UD.1
def acT:=eH.mk 3 [.tmp 6] (sub ajP 0)
def TP:Ko [] f152:=eM
def aeB:=TP.1
def acs:=eH.mk 5 [.dH 10 3,.tmp 11,.tmp 12] (sub aeB 0)
abbrev NL:=sub aeB 86
def amM:Ko [] f263:=eM
def apj:=amM.1
def alm:=eH.mk 3 [.tmp 6,.tmp 7] (sub apj 0)
def Vo:Ko [] f278:=eM
def akr:=Vo.1
def adv:=eH.mk 2 [.tmp 4] (sub akr 0)
def UG:Ko [] f209:=eM
def ajS:=UG.1
def acW:=eH.mk 2 [.tmp 4] (sub ajS 0)
def om:=by
 have h:=bR (fO aeK Vb.1) (bR (fO ajN UB.1) (bR (fO akh Vd.1) (bR (fO akg Vc.1) (bR (fO ajP UD.1) (bR (fO aeB TP.1) (bR (fO akr Vo.1) (fO ajS UG.1)))))));simp only[eM,Vb,UB,Vd,Vc,UD,TP,Vo,UG,yK,seval] at h;exact h
def Ku:=om.1
def aoG:=om.2.1
def aix:=om.2.2.1
def aoY:=om.2.2.2.1
def aoH:=om.2.2.2.2.1
def yL:=om.2.2.2.2.2.1
def ao7:=om.2.2.2.2.2.2.1
def ais:=om.2.2.2.2.2.2.2
def Ve:Ko [] f257:=eM
def aki:=Ve.1
def ado:=eH.mk 1 [.tmp 2] (sub aki 0)
def agi:Ko [] f56:=eM
def b56:=agi.1
def alF:=eH.mk 2 [.tmp 4] (sub b56 0)
def Td:Ko [] f111:=eM
def aiU:=Td.1
def ab3:=eH.mk 2 [.tmp 4] (sub aiU 0)
def Te:Ko [] f112:=eM
def aiV:=Te.1
def ab4:=eH.mk 2 [.tmp 4] (sub aiV 0)
def amH:Ko [] f113:=eM
def ape:=amH.1
def ak7:=eH.mk 2 [.tmp 4] (sub ape 0)
def amI:Ko [] f114:=eM
def apf:=amI.1
def ak8:=eH.mk 3 [.tmp 6] (sub apf 0)
def TQ:Ko [1000205] f153:=eM
def ajh:=TQ.1
def yC:=eH.mk 4 [.tmp 8,.tmp 9,.tmp 10] (sub ajh 0)
def am4:sO [1000205] f153 yC:=fp
def T2:Ko [] f166:=eM
def ajp:=T2.1
def acw:=eH.mk 2 [.tmp 4] (sub ajp 0)
def UE:Ko [] f204:=eM
def ajQ:=UE.1
def acU:=eH.mk 2 [.tmp 4] (sub ajQ 0)
def UF:Ko [] f206:=eM
def ajR:=UF.1
def acV:=eH.mk 2 [.tmp 3] (sub ajR 0)
def oo:=by
 have h:=bR (fO aki Ve.1) (bR (fO b56 agi.1) (bR (fO aiU Td.1) (bR (fO aiV Te.1) (bR (fO ajh TQ.1) (bR (fO ajp T2.1) (bR (fO ajQ UE.1) (fO ajR UF.1)))))));simp only[eM,Ve,agi,Td,Te,TQ,T2,UE,UF,yK,seval] at h;exact h
def aoZ:=oo.1
def E56:=oo.2.1
def aih:=oo.2.2.1
def aot:=oo.2.2.2.1
def HR:=oo.2.2.2.2.1
def aim:=oo.2.2.2.2.2.1
def aoI:=oo.2.2.2.2.2.2.1
def aoJ:=oo.2.2.2.2.2.2.2
def amJ:Ko [] f208:=eM
def apg:=amJ.1
def ald:=eH.mk 2 [.tmp 4] (sub apg 0)
def af3:Ko [] f39:=eM
def b39:=af3.1
def aly:=eH.mk 0 [.dH 0 3] (sub b39 0)
def Ue:Ko [] f178:=eM
def Yo:=Ue.1
def acD:=eH.mk 2 [.tmp 4,.tmp 5] (sub Yo 0)
abbrev ZT:=sub Yo 19
abbrev ahB:=sub Yo 39
def Ug:Ko [] f180:=eM
def ajx:=Ug.1
def acF:=eH.mk 1 [.tmp 2,.tmp 3,.tmp 4] (sub ajx 0)
def w6:=by
 have h:=And.intro (fO b39 af3.1) (And.intro (fO Yo Ue.1) (fO ajx Ug.1));simp only[eM,af3,Ue,Ug,yK,seval] at h;exact h
def E39:=w6.1
def Kt:=w6.2.1
def X1:=w6.2.2
end Go.Proofs.YteoamaffclmdbaaGreatDoor
set_option linter.defProp false
set_option maxRecDepth 100000
namespace Go.Proofs.YteoamaffclmdbaaGreatDoor
open Go Go.Abs
def UH:Ko [] f210:=eM
def ajT:=UH.1
def acX:=eH.mk 1 [.tmp 2] (sub ajT 0)
def UI:Ko [] f211:=eM
def aeG:=UI.1
def acY:=eH.mk 3 [.tmp 6,.tmp 7] (sub aeG 0)
abbrev ZX:=sub aeG 9
def UJ:Ko [] f212:=eM
def ajU:=UJ.1
def acZ:=eH.mk 3 [.tmp 6] (sub ajU 0)
def UK:Ko [] f213:=eM
def ajV:=UK.1
def ac0:=eH.mk 1 [.tmp 2] (sub ajV 0)
def Vf:Ko [] f258:=eM
def akj:=Vf.1
def adp:=eH.mk 1 [.dH 2 2] (sub akj 0)
def UL:Ko [] f217:=eM
def ajW:=UL.1
def ac1:=eH.mk 2 [.tmp 4] (sub ajW 0)
def amK:Ko [] f216:=eM
def aph:=amK.1
def ale:=eH.mk 2 [.tmp 4] (sub aph 0)
def UM:Ko [] f219:=eM
def ajX:=UM.1
def ac2:=eH.mk 2 [.tmp 4] (sub ajX 0)
def Vh:Ko [] f262:=eM
def akl:=Vh.1
def adq:=eH.mk 2 [.tmp 3] (sub akl 0)
def pC:=by
 have h:=bR (fO ajT UH.1) (bR (fO aeG UI.1) (bR (fO ajU UJ.1) (bR (fO ajV UK.1) (bR (fO akj Vf.1) (bR (fO ajW UL.1) (bR (fO ajX UM.1) (fO akl Vh.1)))))));simp only[eM,UH,UI,UJ,UK,Vf,UL,UM,Vh,yK,seval] at h;exact h
def ait:=pC.1
def HT:=pC.2.1
def aoK:=pC.2.2.1
def aiu:=pC.2.2.2.1
def ao0:=pC.2.2.2.2.1
def aoL:=pC.2.2.2.2.2.1
def aoM:=pC.2.2.2.2.2.2.1
def ao1:=pC.2.2.2.2.2.2.2
def Ul:Ko [] f185:=eM
def ajB:=Ul.1
def Se:=eH.mk 2 [.tmp 4] (sub ajB 0)
def TU:Ko [1000215,1000214] f156:=eM
def ajj:=TU.1
def R7:=eH.mk 5 [.tmp 10,.tmp 11] (sub ajj 0)
def am6:sO [1000215,1000214] f156 R7:=fp
def TV:Ko [1000215,1000218,2000219] f157:=eM
def ajk:=TV.1
def MW:=eH.mk 4 [.dH 8 3,.tmp 9,.tmp 10] (sub ajk 0)
def am7:sO [1000215,1000218,2000219] f157 MW:=fp
def T5:Ko [] f169:=eM
def Ym:=T5.1
def acz:=eH.mk 3 [.dH 6 3,.tmp 7] (sub Ym 0)
abbrev ZK:=sub Ym 7
abbrev ahA:=sub Ym 23
def UR:Ko [] f224:=eM
def aj1:=UR.1
def ac6:=eH.mk 3 [.tmp 6,.tmp 7] (sub aj1 0)
def Uk:Ko [3] f184:=eM
def Yp:=Uk.1
def Sd:=eH.mk 1 [.tmp 2] (sub Yp 0)
def anh:sO [3] f184 Sd:=fp
abbrev ZU:=sub Yp 9
abbrev ahC:=sub Yp 25
def Ut:Ko [] f193:=eM
def ajH:=Ut.1
def acM:=eH.mk 2 [.tmp 4,.tmp 5] (sub ajH 0)
def U8:Ko [] f247:=eM
def aeJ:=U8.1
def adi:=eH.mk 5 [] (sub aeJ 0)
abbrev Z2:=sub aeJ 8
def pD:=by
 have h:=bR (fO ajB Ul.1) (bR (fO ajj TU.1) (bR (fO ajk TV.1) (bR (fO Ym T5.1) (bR (fO aj1 UR.1) (bR (fO Yp Uk.1) (bR (fO ajH Ut.1) (fO aeJ U8.1)))))));simp only[eM,Ul,TU,TV,T5,UR,Uk,Ut,U8,yK,seval] at h;exact h
def aip:=pD.1
def Ob:=pD.2.1
def ad7:=pD.2.2.1
def Od:=pD.2.2.2.1
def aeg:=pD.2.2.2.2.1
def Oe:=pD.2.2.2.2.2.1
def QQ:=pD.2.2.2.2.2.2.1
def Og:=pD.2.2.2.2.2.2.2
def UT:Ko [] f226:=eM
def aj3:=UT.1
def ac8:=eH.mk 2 [.tmp 4,.tmp 5] (sub aj3 0)
def amN:Ko [] f267:=eM
def apk:=amN.1
def aln:=eH.mk 3 [.tmp 6,.tmp 7] (sub apk 0)
def Vl:Ko [] f268:=eM
def akp:=Vl.1
def adu:=eH.mk 2 [.tmp 4] (sub akp 0)
def Vp:Ko [] f284:=eM
def aeL:=Vp.1
def adw:=eH.mk 3 [] (sub aeL 0)
abbrev Z5:=sub aeL 4
def U7:Ko [] f246:=eM
def akd:=U7.1
def adh:=eH.mk 3 [.tmp 6] (sub akd 0)
def Vq:Ko [] f285:=eM
def aks:=Vq.1
def adx:=eH.mk 3 [.tmp 4] (sub aks 0)
def U6:Ko [] f245:=eM
def akc:=U6.1
def adg:=eH.mk 2 [.tmp 4] (sub akc 0)
def TZ:Ko [1000189,1000227,1000228] f162:=eM
def ajn:=TZ.1
def IX:=eH.mk 5 [.tmp 10,.tmp 11] (sub ajn 0)
def am9:sO [1000189,1000227,1000228] f162 IX:=fp
def Vg:Ko [] f259:=eM
def akk:=Vg.1
def Sm:=eH.mk 1 [.tmp 2] (sub akk 0)
def oq:=by
 have h:=bR (fO aj3 UT.1) (bR (fO akp Vl.1) (bR (fO aeL Vp.1) (bR (fO akd U7.1) (bR (fO aks Vq.1) (bR (fO akc U6.1) (bR (fO ajn TZ.1) (fO akk Vg.1)))))));simp only[eM,UT,Vl,Vp,U7,Vq,U6,TZ,Vg,yK,seval] at h;exact h
def aoP:=oq.1
def ao5:=oq.2.1
def Oi:=oq.2.2.1
def aoU:=oq.2.2.2.1
def aek:=oq.2.2.2.2.1
def aiw:=oq.2.2.2.2.2.1
def Oc:=oq.2.2.2.2.2.2.1
def HU:=oq.2.2.2.2.2.2.2
def af2:Ko [] f38:=eM
def b38:=af2.1
def alx:=eH.mk 1 [.dH 2 8] (sub b38 0)
def UQ:Ko [] f223:=eM
def aj0:=UQ.1
def ac5:=eH.mk 3 [.tmp 6] (sub aj0 0)
def Vk:Ko [] f266:=eM
def ako:=Vk.1
def adt:=eH.mk 3 [.tmp 4] (sub ako 0)
def Vj:Ko [] f265:=eM
def akn:=Vj.1
def ads:=eH.mk 2 [.tmp 4] (sub akn 0)
def amQ:Ko [] f299:=eM
def apn:=amQ.1
def alr:=eH.mk 2 [.tmp 4] (sub apn 0)
def UN:Ko [] f221:=eM
def ajY:=UN.1
def ac3:=eH.mk 2 [.tmp 4] (sub ajY 0)
def Vi:Ko [] f264:=eM
def akm:=Vi.1
def adr:=eH.mk 2 [.tmp 4] (sub akm 0)
def UO:Ko [] f222:=eM
def ajZ:=UO.1
def ac4:=eH.mk 2 [.tmp 4] (sub ajZ 0)
def TW:Ko [8000220,1001004005] f158:=eM
def Ox:=TW.1
def R8:=eH.mk 2 [.dH 4 8] (sub Ox 0)
def am8:sO [8000220,1001004005] f158 R8:=fp
abbrev ZH:=sub Ox 17
abbrev ZI:=sub Ox 40
abbrev aa9:=sub Ox 62
abbrev aba:=sub Ox 35
def ot:=by
 have h:=bR (fO b38 af2.1) (bR (fO aj0 UQ.1) (bR (fO ako Vk.1) (bR (fO akn Vj.1) (bR (fO ajY UN.1) (bR (fO akm Vi.1) (bR (fO ajZ UO.1) (fO Ox TW.1)))))));simp only[eM,af2,UQ,Vk,Vj,UN,Vi,UO,TW,yK,seval] at h;exact h
def E38:=ot.1
def aoO:=ot.2.1
def ao4:=ot.2.2.1
def ao3:=ot.2.2.2.1
def aef:=ot.2.2.2.2.1
def ao2:=ot.2.2.2.2.2.1
def aoN:=ot.2.2.2.2.2.2.1
def GP:=ot.2.2.2.2.2.2.2
def T0:Ko [8000229] f163:=eM
def ajo:=T0.1
def R9:=eH.mk 2 [.dH 4 8,.tmp 5,.tmp 6] (sub ajo 0)
def ana:sO [8000229] f163 R9:=fp
def UU:Ko [6000012] f230:=eM
def Oz:=UU.1
def Si:=eH.mk 2 [.tmp 4,.tmp 5] (sub Oz 0)
def anl:sO [6000012] f230 Si:=fp
abbrev ZY:=sub Oz 9
abbrev ZZ:=sub Oz 30
abbrev abc:=sub Oz 46
abbrev abd:=sub Oz 25
def Vm:Ko [] f271:=eM
def Yq:=Vm.1
def M6:=eH.mk 5 [.tmp 6] (sub Yq 0)
abbrev Z4:=sub Yq 33
abbrev ahD:=sub Yq 45
def amO:Ko [] f273:=eM
def apl:=amO.1
def alp:=eH.mk 2 [.tmp 4] (sub apl 0)
def T1:Ko [] f164:=eM
def Yl:=T1.1
def acv:=eH.mk 2 [.tmp 4,.tmp 5,.tmp 6] (sub Yl 0)
abbrev ZJ:=sub Yl 7
abbrev ahz:=sub Yl 27
def UW:Ko [5] f232:=eM
def aeH:=UW.1
def Sj:=eH.mk 2 [.tmp 4] (sub aeH 0)
def anm:sO [5] f232 Sj:=fp
abbrev Z0:=sub aeH 9
def UX:Ko [] f233:=eM
def aj4:=UX.1
def ac9:=eH.mk 2 [.tmp 3] (sub aj4 0)
def UY:Ko [5] f234:=eM
def aeI:=UY.1
def Sk:=eH.mk 2 [.tmp 4] (sub aeI 0)
def ann:sO [5] f234 Sk:=fp
abbrev Z1:=sub aeI 9
def UZ:Ko [] f235:=eM
def aj5:=UZ.1
def ada:=eH.mk 2 [.tmp 3] (sub aj5 0)
def ou:=by
 have h:=bR (fO ajo T0.1) (bR (fO Oz UU.1) (bR (fO Yq Vm.1) (bR (fO Yl T1.1) (bR (fO aeH UW.1) (bR (fO aj4 UX.1) (bR (fO aeI UY.1) (fO aj5 UZ.1)))))));simp only[eM,T0,UU,Vm,T1,UW,UX,UY,UZ,yK,seval] at h;exact h
def ail:=ou.1
def GQ:=ou.2.1
def Oh:=ou.2.2.1
def XY:=ou.2.2.2.1
def X5:=ou.2.2.2.2.1
def aoQ:=ou.2.2.2.2.2.1
def X6:=ou.2.2.2.2.2.2.1
def aoR:=ou.2.2.2.2.2.2.2
def T4:Ko [] f168:=eM
def ajr:=T4.1
def acy:=eH.mk 2 [.dH 4 8,.tmp 5] (sub ajr 0)
def atq:Ko [] f57:=eM
def b57:=atq.1
def arZ:=eH.mk 2 [.tmp 4] (sub b57 0)
def atr:Ko [] f58:=eM
def b58:=atr.1
def ar0:=eH.mk 3 [.tmp 6] (sub b58 0)
def ats:Ko [] f59:=eM
def b59:=ats.1
def ar1:=eH.mk 2 [.tmp 4] (sub b59 0)
def att:Ko [] f60:=eM
def b60:=att.1
def ar2:=eH.mk 2 [.tmp 4] (sub b60 0)
def atu:Ko [] f61:=eM
def b61:=atu.1
def ar3:=eH.mk 2 [.tmp 4] (sub b61 0)
def ain:=by
 have h:=fO ajr T4.1;simp only[eM,T4,yK,seval] at h;exact h
end Go.Proofs.YteoamaffclmdbaaGreatDoor
set_option linter.defProp false
set_option maxRecDepth 100000
namespace Go.Proofs.YteoamaffclmdbaaGreatDoor
open Go Go.Abs
def afR:Ko [] f24:=eM
def b24:=afR.1
def alh:=eH.mk 0 [.dH 0 10] (sub b24 0)
def agf:Ko [] f53:=eM
def b53:=agf.1
def alD:=eH.mk 2 [] (sub b53 0)
def Tc:Ko [] f110:=eM
def aiT:=Tc.1
def ab2:=eH.mk 1 [] (sub aiT 0)
def TH:Ko [] f145:=eM
def ajb:=TH.1
def acm:=eH.mk 2 [.dH 4 6] (sub ajb 0)
def Uf:Ko [] f179:=eM
def ajw:=Uf.1
def acE:=eH.mk 2 [.dH 4 6] (sub ajw 0)
def TI:Ko [] f146:=eM
def ajc:=TI.1
def acn:=eH.mk 2 [.tmp 4,.tmp 5] (sub ajc 0)
def TK:Ko [1000189] f148:=eM
def Ow:=TK.1
def R5:=eH.mk 3 [] (sub Ow 0)
def am3:sO [1000189] f148 R5:=fp
abbrev ZF:=sub Ow 7
abbrev Nk:=sub Ow 32
abbrev NK:=sub Ow 46
abbrev aa8:=sub Ow 23
def Um:Ko [] f186:=eM
def ajC:=Um.1
def acH:=eH.mk 2 [.tmp 3] (sub ajC 0)
def pE:=by
 have h:=bR (fO b24 afR.1) (bR (fO b53 agf.1) (bR (fO aiT Tc.1) (bR (fO ajb TH.1) (bR (fO ajw Uf.1) (bR (fO ajc TI.1) (bR (fO Ow TK.1) (fO ajC Um.1)))))));simp only[eM,afR,agf,Tc,TH,Uf,TI,TK,Um,yK,seval] at h;exact h
def E24:=pE.1
def E53:=pE.2.1
def adY:=pE.2.2.1
def ad4:=pE.2.2.2.1
def aoA:=pE.2.2.2.2.1
def XW:=pE.2.2.2.2.2.1
def tg:=pE.2.2.2.2.2.2.1
def aoB:=pE.2.2.2.2.2.2.2
def Uo:Ko [] f188:=eM
def ajE:=Uo.1
def Sf:=eH.mk 2 [.tmp 4] (sub ajE 0)
def ani:sO [] f188 Sf:=fp
def Uq:Ko [] f190:=eM
def ajF:=Uq.1
def acJ:=eH.mk 2 [.tmp 3] (sub ajF 0)
def Us:Ko [] f192:=eM
def Oy:=Us.1
def acL:=eH.mk 2 [.tmp 4] (sub Oy 0)
abbrev ZV:=sub Oy 31
abbrev abb:=sub Oy 55
abbrev Nl:=sub Oy 9
abbrev NM:=sub Oy 56
def TT:Ko [] f155:=eM
def aji:=TT.1
def acu:=eH.mk 1 [.tmp 2] (sub aji 0)
def agG:Ko [] f93:=eM
def b93:=agG.1
def afj:=eH.mk 1 [] (sub b93 0)
def agH:Ko [] f94:=eM
def b94:=agH.1
def Sr:=eH.mk 1 [] (sub b94 0)
def agI:Ko [] f95:=eM
def b95:=agI.1
def Pf:=eH.mk 1 [] (sub b95 0)
def agJ:Ko [] f96:=eM
def b96:=agJ.1
def Ss:=eH.mk 1 [] (sub b96 0)
def pF:=by
 have h:=bR (fO ajE Uo.1) (bR (fO ajF Uq.1) (bR (fO Oy Us.1) (bR (fO aji TT.1) (bR (fO b93 agG.1) (bR (fO b94 agH.1) (bR (fO b95 agI.1) (fO b96 agJ.1)))))));simp only[eM,Uo,Uq,Us,TT,agG,agH,agI,agJ,yK,seval] at h;exact h
def aoC:=pF.1
def aoD:=pF.2.1
def C7:=pF.2.2.1
def aox:=pF.2.2.2.1
def E93:=pF.2.2.2.2.1
def E94:=pF.2.2.2.2.2.1
def E95:=pF.2.2.2.2.2.2.1
def E96:=pF.2.2.2.2.2.2.2
def agK:Ko [] f97:=eM
def b97:=agK.1
def Lv:=eH.mk 1 [] (sub b97 0)
def agL:Ko [] f98:=eM
def b98:=agL.1
def YX:=eH.mk 1 [] (sub b98 0)
def TR:Ko [3] f154:=eM
def Yk:=TR.1
def R6:=eH.mk 1 [.tmp 2] (sub Yk 0)
def am5:sO [3] f154 R6:=fp
abbrev ZG:=sub Yk 9
abbrev ahy:=sub Yk 21
def agM:Ko [] f99:=eM
def b99:=agM.1
def afk:=eH.mk 1 [] (sub b99 0)
def S1:Ko [] f100:=eM
def aiK:=S1.1
def MO:=eH.mk 1 [] (sub aiK 0)
def S2:Ko [] f101:=eM
def aiL:=S2.1
def RY:=eH.mk 1 [] (sub aiL 0)
def TX:Ko [] f159:=eM
def ajl:=TX.1
def MX:=eH.mk 1 [.dH 2 6] (sub ajl 0)
def S3:Ko [] f102:=eM
def aiM:=S3.1
def IT:=eH.mk 1 [] (sub aiM 0)
def ow:=by
 have h:=bR (fO b97 agK.1) (bR (fO b98 agL.1) (bR (fO Yk TR.1) (bR (fO b99 agM.1) (bR (fO aiK S1.1) (bR (fO aiL S2.1) (bR (fO ajl TX.1) (fO aiM S3.1)))))));simp only[eM,agK,agL,TR,agM,S1,S2,TX,S3,yK,seval] at h;exact h
def E97:=ow.1
def E98:=ow.2.1
def XX:=ow.2.2.1
def E99:=ow.2.2.2.1
def adV:=ow.2.2.2.2.1
def aie:=ow.2.2.2.2.2.1
def ad8:=ow.2.2.2.2.2.2.1
def XR:=ow.2.2.2.2.2.2.2
def TY:Ko [] f161:=eM
def ajm:=TY.1
def MY:=eH.mk 3 [] (sub ajm 0)
def S4:Ko [1000160,2000161] f103:=eM
def aiN:=S4.1
def yB:=eH.mk 1 [] (sub aiN 0)
def amX:sO [1000160,2000161] f103 yB:=fp
def S5:Ko [] f104:=eM
def aiO:=S5.1
def MP:=eH.mk 1 [] (sub aiO 0)
def S6:Ko [] f105:=eM
def aiP:=S6.1
def IU:=eH.mk 1 [] (sub aiP 0)
def S7:Ko [] f106:=eM
def aiQ:=S7.1
def MQ:=eH.mk 1 [] (sub aiQ 0)
def S8:Ko [] f107:=eM
def Ov:=S8.1
def MR:=eH.mk 1 [] (sub Ov 0)
abbrev Zm:=sub Ov 15
abbrev Zn:=sub Ov 34
abbrev aa6:=sub Ov 52
abbrev aa7:=sub Ov 27
def T3:Ko [] f167:=eM
def ajq:=T3.1
def acx:=eH.mk 2 [.tmp 3] (sub ajq 0)
def S9:Ko [] f108:=eM
def aiR:=S9.1
def RZ:=eH.mk 1 [] (sub aiR 0)
def oy:=by
 have h:=bR (fO ajm TY.1) (bR (fO aiN S4.1) (bR (fO aiO S5.1) (bR (fO aiP S6.1) (bR (fO aiQ S7.1) (bR (fO Ov S8.1) (bR (fO ajq T3.1) (fO aiR S9.1)))))));simp only[eM,TY,S4,S5,S6,S7,S8,T3,S9,yK,seval] at h;exact h
def ad9:=oy.1
def HP:=oy.2.1
def adW:=oy.2.2.1
def XT:=oy.2.2.2.1
def adX:=oy.2.2.2.2.1
def zA:=oy.2.2.2.2.2.1
def aoy:=oy.2.2.2.2.2.2.1
def aif:=oy.2.2.2.2.2.2.2
def Ta:Ko [] f109:=eM
def aiS:=Ta.1
def ab1:=eH.mk 1 [] (sub aiS 0)
def age:Ko [] f52:=eM
def b52:=age.1
def alC:=eH.mk 0 [.tmp 0] (sub b52 0)
def af0:Ko [] f34:=eM
def b34:=af0.1
def alv:=eH.mk 2 [.tmp 4] (sub b34 0)
def agh:Ko [] f55:=eM
def b55:=agh.1
def alE:=eH.mk 2 [.tmp 4] (sub b55 0)
def uJ:=by
 have h:=bR (fO aiS Ta.1) (bR (fO b52 age.1) (bR (fO b34 af0.1) (fO b55 agh.1)));simp only[eM,Ta,age,af0,agh,yK,seval] at h;exact h
def aos:=uJ.1
def E52:=uJ.2.1
def E34:=uJ.2.2.1
def E55:=uJ.2.2.2
end Go.Proofs.YteoamaffclmdbaaGreatDoor
set_option linter.defProp false
set_option maxRecDepth 100000
namespace Go.Proofs.YteoamaffclmdbaaGreatDoor
open Go Go.Abs
def Vn:Ko [] f275:=eM
def akq:=Vn.1
def M7:=eH.mk 2 [.tmp 4,.tmp 5] (sub akq 0)
def Vr:Ko [] f302:=eM
def aku:=Vr.1
def M8:=eH.mk 2 [.tmp 4,.tmp 5] (sub aku 0)
def Vs:Ko [] f325:=eM
def akv:=Vs.1
def I1:=eH.mk 2 [.tmp 4] (sub akv 0)
def yM:=by
 have h:=And.intro (fO akq Vn.1) (And.intro (fO aku Vr.1) (fO akv Vs.1));simp only[eM,Vn,Vr,Vs,yK,seval] at h;exact h
def ao6:=yM.1
def X7:=yM.2.1
def X8:=yM.2.2
end Go.Proofs.YteoamaffclmdbaaGreatDoor
set_option linter.defProp false
set_option maxRecDepth 100000
namespace Go.Proofs.YteoamaffclmdbaaGreatDoor
open Go Go.Abs
def afI:Ko [] f11:=eM
def b11:=afI.1
def afa:=eH.mk 1 [.tmp 2] (sub b11 0)
def afW:Ko [13000003] f30:=eM
def b30:=afW.1
def afc:=eH.mk 1 [.tmp 2] (sub b30 0)
def atD:sO [13000003] f30 afc:=fp
def af1:Ko [] f35:=eM
def b35:=af1.1
def alw:=eH.mk 2 [.tmp 4] (sub b35 0)
def afL:Ko [5000037,6000016,12000074] f15:=eM
def b15:=afL.1
def afb:=eH.mk 2 [.tmp 4,.tmp 5] (sub b15 0)
def atA:sO [5000037,6000016,12000074] f15 afb:=fp
def afX:Ko [11000006,12000077,15000088] f31:=eM
def Kk:=afX.1
def afd:=eH.mk 9 [.tmp 11] (sub Kk 0)
def atE:sO [11000006,12000077,15000088] f31 afd:=fp
def afZ:Ko [] f33:=eM
def b33:=afZ.1
def alu:=eH.mk 2 [.tmp 3] (sub b33 0)
def afN:Ko [] f18:=eM
def b18:=afN.1
def ala:=eH.mk 2 [.tmp 4] (sub b18 0)
def afY:Ko [] f32:=eM
def b32:=afY.1
def als:=eH.mk 2 [.tmp 4] (sub b32 0)
def pG:=by
 have h:=bR (fO b11 afI.1) (bR (fO b30 afW.1) (bR (fO b35 af1.1) (bR (fO b15 afL.1) (bR (fO Kk afX.1) (bR (fO b33 afZ.1) (bR (fO b18 afN.1) (fO b32 afY.1)))))));simp only[eM,afI,afW,af1,afL,afX,afZ,afN,afY,yK,seval] at h;exact h
def E11:=pG.1
def E30:=pG.2.1
def E35:=pG.2.2.1
def QM:=pG.2.2.2.1
def Oj:=pG.2.2.2.2.1
def E33:=pG.2.2.2.2.2.1
def E18:=pG.2.2.2.2.2.2.1
def E32:=pG.2.2.2.2.2.2.2
def ato:Ko [] f54:=eM
def b54:=ato.1
def arY:=eH.mk 2 [.tmp 4] (sub b54 0)
def atv:Ko [] f62:=eM
def b62:=atv.1
def ar4:=eH.mk 2 [.tmp 4] (sub b62 0)
def atw:Ko [] f63:=eM
def b63:=atw.1
def ar5:=eH.mk 2 [.tmp 4] (sub b63 0)
end Go.Proofs.YteoamaffclmdbaaGreatDoor
set_option linter.defProp false
set_option maxRecDepth 100000
namespace Go.Proofs.YteoamaffclmdbaaGreatDoor
open Go Go.Abs
def afH:Ko [] f10:=eM
def b10:=afH.1
def ak6:=eH.mk 2 [.tmp 4] (sub b10 0)
def afK:Ko [13000008,5000019,5000020,5000021] f14:=eM
def b14:=afK.1
def Lr:=eH.mk 3 [.tmp 6,.dH 7 10] (sub b14 0)
def atz:sO [13000008,5000019,5000020,5000021] f14 Lr:=fp
def atm:Ko [13000005] f20:=eM
def b20:=atm.1
def alc:=eH.mk 2 [.tmp 4] (sub b20 0)
def atC:sO [13000005] f20 alc:=fp
def afP:Ko [] f22:=eM
def b22:=afP.1
def alf:=eH.mk 2 [.dH 4 17] (sub b22 0)
def afQ:Ko [] f23:=eM
def b23:=afQ.1
def alg:=eH.mk 2 [.dH 4 17] (sub b23 0)
def atl:Ko [5000018] f19:=eM
def b19:=atl.1
def alb:=eH.mk 3 [.tmp 6] (sub b19 0)
def atB:sO [5000018] f19 alb:=fp
def atn:Ko [] f37:=eM
def b37:=atn.1
def arX:=eH.mk 2 [.tmp 4] (sub b37 0)
def afM:Ko [] f17:=eM
def b17:=afM.1
def ak9:=eH.mk 2 [.tmp 4] (sub b17 0)
def ko9:Ko [] f9:=eM
def b9:=ko9.1
def fn9:=eH.mk 0 [.tmp 0] (sub b9 0)
def ko4:Ko [1000014,14000006007] f4:=eM
def b4:=ko4.1
def fn4:=eH.mk 2 [.tmp 4] (sub b4 0)
def ok4:sO [1000014,14000006007] f4 fn4:=fp
def ko5:Ko [1000014,2000018,14000010011] f5:=eM
def b5:=ko5.1
def fn5:=eH.mk 4 [.tmp 8] (sub b5 0)
def ok5:sO [1000014,2000018,14000010011] f5 fn5:=fp
def ko7:Ko [69,1000014,14000010011] f7:=eM
def b7:=ko7.1
def fn7:=eH.mk 4 [.tmp 8] (sub b7 0)
def ok7:sO [69,1000014,14000010011] f7 fn7:=fp
def ko8:Ko [1000014,13000091,14000010011,14000016015] f8:=eM
def b8:=ko8.1
def YW:=eH.mk 4 [.tmp 8] (sub b8 0)
def ok8:sO [1000014,13000091,14000010011,14000016015] f8 YW:=fp
def ko6:Ko [1000020,2000015,14000019011] f6:=eM
def b6:=ko6.1
def fn6:=eH.mk 4 [.tmp 8] (sub b6 0)
def ok6:sO [1000020,2000015,14000019011] f6 fn6:=fp
def qN:=by
 have h:=bR (fO b10 afH.1) (bR (fO b14 afK.1) (bR (fO b22 afP.1) (bR (fO b23 afQ.1) (bR (fO b17 afM.1) (bR (fO b9 ko9.1) (fO b8 ko8.1))))));simp only[eM,afH,afK,afP,afQ,afM,ko9,ko8,yK,seval] at h;exact h
def E10:=qN.1
def E14:=qN.2.1
def E22:=qN.2.2.1
def E23:=qN.2.2.2.1
def E17:=qN.2.2.2.2.1
def E9:=qN.2.2.2.2.2.1
def E8:=qN.2.2.2.2.2.2
end Go.Proofs.YteoamaffclmdbaaGreatDoor
set_option linter.defProp false
set_option maxRecDepth 100000
namespace Go.Proofs.YteoamaffclmdbaaGreatDoor
open Go Go.Abs
def afS:Ko [] f25:=eM
def b25:=afS.1
def alj:=eH.mk 1 [.tmp 2] (sub b25 0)
def afT:Ko [] f26:=eM
def b26:=afT.1
def alk:=eH.mk 1 [.tmp 2] (sub b26 0)
def afJ:Ko [] f13:=eM
def b13:=afJ.1
def YT:=eH.mk 1 [.dH 2 10] (sub b13 0)
def yN:=by
 have h:=And.intro (fO b25 afS.1) (And.intro (fO b26 afT.1) (fO b13 afJ.1));simp only[eM,afS,afT,afJ,yK,seval] at h;exact h
def E25:=yN.1
def E26:=yN.2.1
def E13:=yN.2.2
end Go.Proofs.YteoamaffclmdbaaGreatDoor
set_option linter.defProp false
set_option maxRecDepth 100000
namespace Go.Proofs.YteoamaffclmdbaaGreatDoor
open Go Go.Abs
def Tv:Ko [] f130:=eM
def aeA:=Tv.1
def acf:=eH.mk 2 [.tmp 4] (sub aeA 0)
abbrev ZB:=sub aeA 7
def agr:Ko [] f74:=eM
def b74:=agr.1
def alN:=eH.mk 2 [.dH 4 6,.tmp 5] (sub b74 0)
def Tn:Ko [] f123:=eM
def aiZ:=Tn.1
def ab7:=eH.mk 2 [.dH 4 6,.tmp 5] (sub aiZ 0)
def Tq:Ko [] f125:=eM
def aew:=Tq.1
def ab9:=eH.mk 2 [.tmp 4] (sub aew 0)
abbrev Zx:=sub aew 7
def agp:Ko [] f72:=eM
def b72:=agp.1
def alK:=eH.mk 3 [.tmp 6,.tmp 7] (sub b72 0)
def Ti:Ko [5] f119:=eM
def aet:=Ti.1
def R1:=eH.mk 2 [.dH 4 3] (sub aet 0)
def amZ:sO [5] f119 R1:=fp
abbrev Zp:=sub aet 11
def Ub:Ko [5] f175:=eM
def aeD:=Ub.1
def Sa:=eH.mk 2 [.dH 4 3] (sub aeD 0)
def anb:sO [5] f175 Sa:=fp
abbrev ZO:=sub aeD 9
def Tm:Ko [9] f122:=eM
def aeu:=Tm.1
def R2:=eH.mk 3 [.dH 6 3] (sub aeu 0)
def am1:sO [9] f122 R2:=fp
abbrev Zv:=sub aeu 11
def pH:=by
 have h:=bR (fO aeA Tv.1) (bR (fO b74 agr.1) (bR (fO aiZ Tn.1) (bR (fO aew Tq.1) (bR (fO b72 agp.1) (bR (fO aet Ti.1) (bR (fO aeD Ub.1) (fO aeu Tm.1)))))));simp only[eM,Tv,agr,Tn,Tq,agp,Ti,Ub,Tm,yK,seval] at h;exact h
def Kr:=pH.1
def E74:=pH.2.1
def XU:=pH.2.2.1
def Kn:=pH.2.2.2.1
def E72:=pH.2.2.2.2.1
def Kl:=pH.2.2.2.2.2.1
def QO:=pH.2.2.2.2.2.2.1
def Km:=pH.2.2.2.2.2.2.2
def Th:Ko [12] f118:=eM
def aes:=Th.1
def R0:=eH.mk 4 [.dH 8 3] (sub aes 0)
def amY:sO [12] f118 R0:=fp
abbrev Zo:=sub aes 15
def Tt:Ko [] f128:=eM
def aey:=Tt.1
def acd:=eH.mk 2 [.tmp 4] (sub aey 0)
abbrev Zz:=sub aey 7
def Tr:Ko [] f126:=eM
def aex:=Tr.1
def aca:=eH.mk 3 [.tmp 6] (sub aex 0)
abbrev Zy:=sub aex 7
def T7:Ko [] f171:=eM
def ajs:=T7.1
def acB:=eH.mk 2 [.tmp 4] (sub ajs 0)
def Tg:Ko [] f117:=eM
def aiX:=Tg.1
def ab5:=eH.mk 3 [.tmp 6] (sub aiX 0)
def agn:Ko [] f70:=eM
def b70:=agn.1
def alI:=eH.mk 4 [.dH 8 3,.tmp 9,.tmp 10] (sub b70 0)
def agl:Ko [] f68:=eM
def b68:=agl.1
def alH:=eH.mk 4 [.dH 8 3,.tmp 9] (sub b68 0)
def Tl:Ko [] f121:=eM
def aiY:=Tl.1
def ab6:=eH.mk 2 [.dH 4 3] (sub aiY 0)
def pI:=by
 have h:=bR (fO aes Th.1) (bR (fO aey Tt.1) (bR (fO aex Tr.1) (bR (fO ajs T7.1) (bR (fO aiX Tg.1) (bR (fO b70 agn.1) (bR (fO b68 agl.1) (fO aiY Tl.1)))))));simp only[eM,Th,Tt,Tr,T7,Tg,agn,agl,Tl,yK,seval] at h;exact h
def GM:=pI.1
def Kq:=pI.2.1
def GN:=pI.2.2.1
def aio:=pI.2.2.2.1
def GL:=pI.2.2.2.2.1
def E70:=pI.2.2.2.2.2.1
def E68:=pI.2.2.2.2.2.2.1
def aii:=pI.2.2.2.2.2.2.2
def ago:Ko [] f71:=eM
def b71:=ago.1
def alJ:=eH.mk 3 [.dH 6 3,.tmp 7,.tmp 8] (sub b71 0)
def Ts:Ko [] f127:=eM
def ai0:=Ts.1
def acb:=eH.mk 3 [.tmp 6] (sub ai0 0)
def Tu:Ko [] f129:=eM
def aez:=Tu.1
def ace:=eH.mk 3 [.tmp 6] (sub aez 0)
abbrev ZA:=sub aez 11
def agq:Ko [] f73:=eM
def b73:=agq.1
def alM:=eH.mk 5 [.dH 10 3,.tmp 11,.tmp 12] (sub b73 0)
def agA:Ko [27] f83:=eM
def b83:=agA.1
def afi:=eH.mk 3 [.dH 6 3,.tmp 7] (sub b83 0)
def atS:sO [27] f83 afi:=fp
def TC:Ko [] f137:=eM
def ai7:=TC.1
def ack:=eH.mk 2 [.dH 4 3,.tmp 5] (sub ai7 0)
def af5:Ko [] f41:=eM
def b41:=af5.1
def alA:=eH.mk 0 [.dH 0 3] (sub b41 0)
def Tp:Ko [] f124:=eM
def aev:=Tp.1
def ab8:=eH.mk 1 [.tmp 2] (sub aev 0)
abbrev Zw:=sub aev 15
def oz:=by
 have h:=bR (fO b71 ago.1) (bR (fO ai0 Ts.1) (bR (fO aez Tu.1) (bR (fO b73 agq.1) (bR (fO b83 agA.1) (bR (fO ai7 TC.1) (bR (fO b41 af5.1) (fO aev Tp.1)))))));simp only[eM,ago,Ts,Tu,agq,agA,TC,af5,Tp,yK,seval] at h;exact h
def E71:=oz.1
def aij:=oz.2.1
def QJ:=oz.2.2.1
def QS:=oz.2.2.2.1
def E83:=oz.2.2.2.2.1
def aik:=oz.2.2.2.2.2.1
def E41:=oz.2.2.2.2.2.2.1
def HQ:=oz.2.2.2.2.2.2.2
end Go.Proofs.YteoamaffclmdbaaGreatDoor
set_option linter.defProp false
set_option maxRecDepth 100000
namespace Go.Proofs.YteoamaffclmdbaaGreatDoor
open Go Go.Abs
def agC:Ko [7] f85:=eM
def b85:=agC.1
def Pe:=eH.mk 1 [.tmp 2,.tmp 3] (sub b85 0)
def atU:sO [7] f85 Pe:=fp
abbrev ag3:=sub b85 27
def T6:Ko [] f170:=eM
def aeC:=T6.1
def acA:=eH.mk 1 [.tmp 2] (sub aeC 0)
abbrev ZL:=sub aeC 17
def agc:Ko [] f48:=eM
def b48:=agc.1
def YU:=eH.mk 3 [.dH 6 3,.tmp 7] (sub b48 0)
def agE:Ko [] f87:=eM
def b87:=agE.1
def alP:=eH.mk 2 [.tmp 4] (sub b87 0)
def agF:Ko [] f88:=eM
def b88:=agF.1
def alQ:=eH.mk 2 [.tmp 4] (sub b88 0)
def agj:Ko [] f66:=eM
def b66:=agj.1
def alG:=eH.mk 2 [.tmp 4,.tmp 5] (sub b66 0)
def agt:Ko [13] f76:=eM
def b76:=agt.1
def Hc:=eH.mk 4 [.tmp 8,.tmp 9,.tmp 10] (sub b76 0)
def atK:sO [13] f76 Hc:=fp
abbrev agY:=sub b76 32
abbrev agZ:=sub b76 24
def agu:Ko [92] f77:=eM
def b77:=agu.1
def afg:=eH.mk 5 [.tmp 10,.tmp 11] (sub b77 0)
def atL:sO [92] f77 afg:=fp
abbrev ag0:=sub b77 49
def pK:=by
 have h:=bR (fO b85 agC.1) (bR (fO aeC T6.1) (bR (fO b48 agc.1) (bR (fO b87 agE.1) (bR (fO b88 agF.1) (bR (fO b66 agj.1) (bR (fO b76 agt.1) (fO b77 agu.1)))))));simp only[eM,agC,T6,agc,agE,agF,agj,agt,agu,yK,seval] at h;exact h
def QA:=pK.1
def XZ:=pK.2.1
def E48:=pK.2.2.1
def E87:=pK.2.2.2.1
def E88:=pK.2.2.2.2.1
def E66:=pK.2.2.2.2.2.1
def Kw:=pK.2.2.2.2.2.2.1
def X9:=pK.2.2.2.2.2.2.2
def agv:Ko [17] f78:=eM
def b78:=agv.1
def E7:=eH.mk 5 [.tmp 10,.tmp 11] (sub b78 0)
def atM:sO [17] f78 E7:=fp
abbrev ag1:=sub b78 49
def agx:Ko [29] f80:=eM
def b80:=agx.1
def Pc:=eH.mk 4 [.dH 8 3,.tmp 9,.tmp 10] (sub b80 0)
def atP:sO [29] f80 Pc:=fp
def agy:Ko [] f81:=eM
def b81:=agy.1
def afh:=eH.mk 3 [.tmp 6,.tmp 7] (sub b81 0)
def TF:Ko [] f140:=eM
def ai9:=TF.1
def R3:=eH.mk 2 [.tmp 4] (sub ai9 0)
def TG:Ko [] f141:=eM
def aja:=TG.1
def R4:=eH.mk 2 [.tmp 4] (sub aja 0)
def Tf:Ko [] f116:=eM
def aiW:=Tf.1
def MS:=eH.mk 1 [.tmp 2,.tmp 3,.tmp 4] (sub aiW 0)
def Tw:Ko [] f131:=eM
def ai1:=Tw.1
def acg:=eH.mk 2 [.tmp 4] (sub ai1 0)
def Tx:Ko [] f132:=eM
def ai2:=Tx.1
def ach:=eH.mk 3 [.tmp 6] (sub ai2 0)
def pL:=by
 have h:=bR (fO b78 agv.1) (bR (fO b80 agx.1) (bR (fO b81 agy.1) (bR (fO ai9 TF.1) (bR (fO aja TG.1) (bR (fO aiW Tf.1) (bR (fO ai1 Tw.1) (fO ai2 Tx.1)))))));simp only[eM,agv,agx,agy,TF,TG,Tf,Tw,Tx,yK,seval] at h;exact h
def QT:=pL.1
def E80:=pL.2.1
def E81:=pL.2.2.1
def QK:=pL.2.2.2.1
def QL:=pL.2.2.2.2.1
def adZ:=pL.2.2.2.2.2.1
def aov:=pL.2.2.2.2.2.2.1
def ad0:=pL.2.2.2.2.2.2.2
def Ty:Ko [] f133:=eM
def ai3:=Ty.1
def aci:=eH.mk 2 [.tmp 4] (sub ai3 0)
def Tz:Ko [] f134:=eM
def ai4:=Tz.1
def MT:=eH.mk 2 [.tmp 4,.tmp 5] (sub ai4 0)
def TA:Ko [] f135:=eM
def ai5:=TA.1
def MU:=eH.mk 2 [.tmp 4] (sub ai5 0)
def TB:Ko [] f136:=eM
def ai6:=TB.1
def acj:=eH.mk 2 [.tmp 4] (sub ai6 0)
def Uc:Ko [5000014] f176:=eM
def Q9:=Uc.1
def IY:=eH.mk 2 [.tmp 4] (sub Q9 0)
def anc:sO [5000014] f176 IY:=fp
abbrev ZP:=sub Q9 42
abbrev ZQ:=sub Q9 24
abbrev ZR:=sub Q9 9
def U0:Ko [] f236:=eM
def aj6:=U0.1
def M4:=eH.mk 3 [.tmp 6] (sub aj6 0)
def U1:Ko [] f237:=eM
def aj7:=U1.1
def M5:=eH.mk 2 [.tmp 4] (sub aj7 0)
def pJ:=by
 have h:=bR (fO ai3 Ty.1) (bR (fO ai4 Tz.1) (bR (fO ai5 TA.1) (bR (fO ai6 TB.1) (bR (fO Q9 Uc.1) (bR (fO aj6 U0.1) (fO aj7 U1.1))))));simp only[eM,Ty,Tz,TA,TB,Uc,U0,U1,yK,seval] at h;exact h
def aow:=pJ.1
def ad1:=pJ.2.1
def ad2:=pJ.2.2.1
def XV:=pJ.2.2.2.1
def CA:=pJ.2.2.2.2.1
def aeh:=pJ.2.2.2.2.2.1
def aei:=pJ.2.2.2.2.2.2
end Go.Proofs.YteoamaffclmdbaaGreatDoor
set_option linter.defProp false
set_option maxRecDepth 100000
namespace Go.Proofs.YteoamaffclmdbaaGreatDoor
open Go Go.Abs
def afO:Ko [] f21:=eM
def b21:=afO.1
def arW:=eH.mk 2 [.tmp 4] (sub b21 0)
def afU:Ko [] f27:=eM
def b27:=afU.1
def alo:=eH.mk 0 [.dH 0 10] (sub b27 0)
def afV:Ko [] f28:=eM
def b28:=afV.1
def uF:=eH.mk 2 [.dH 4 10,.dH 5 7] (sub b28 0)
def af4:Ko [] f40:=eM
def b40:=af4.1
def alz:=eH.mk 1 [.dH 2 8] (sub b40 0)
def af6:Ko [] f42:=eM
def b42:=af6.1
def alB:=eH.mk 1 [.dH 2 7] (sub b42 0)
def af7:Ko [] f43:=eM
def b43:=af7.1
def Hb:=eH.mk 2 [.dH 4 10,.dH 5 7] (sub b43 0)
def af8:Ko [14] f44:=eM
def b44:=af8.1
def zP:=eH.mk 2 [.dH 4 10,.dH 5 7] (sub b44 0)
def atF:sO [14] f44 zP:=fp
abbrev agP:=sub b44 52
def af9:Ko [] f45:=eM
def b45:=af9.1
def CJ:=eH.mk 2 [.dH 4 10,.dH 5 7] (sub b45 0)
def pM:=by
 have h:=bR (fO b21 afO.1) (bR (fO b27 afU.1) (bR (fO b28 afV.1) (bR (fO b40 af4.1) (bR (fO b42 af6.1) (bR (fO b43 af7.1) (bR (fO b44 af8.1) (fO b45 af9.1)))))));simp only[eM,afO,afU,afV,af4,af6,af7,af8,af9,yK,seval] at h;exact h
def E21:=pM.1
def E27:=pM.2.1
def EZ:=pM.2.2.1
def E40:=pM.2.2.2.1
def E42:=pM.2.2.2.2.1
def E43:=pM.2.2.2.2.2.1
def Ol:=pM.2.2.2.2.2.2.1
def QR:=pM.2.2.2.2.2.2.2
def aga:Ko [17] f46:=eM
def b46:=aga.1
def Ls:=eH.mk 2 [.dH 4 7] (sub b46 0)
def atG:sO [17] f46 Ls:=fp
abbrev agQ:=sub b46 54
abbrev agR:=sub b46 31
abbrev agS:=sub b46 87
def agb:Ko [10,41] f47:=eM
def b47:=agb.1
def Sn:=eH.mk 2 [.dH 4 8,.tmp 5] (sub b47 0)
def atH:sO [10,41] f47 Sn:=fp
abbrev agT:=sub b47 9
abbrev agU:=sub b47 38
def agd:Ko [23,74] f49:=eM
def b49:=agd.1
def Pb:=eH.mk 2 [.dH 4 8] (sub b49 0)
def atJ:sO [23,74] f49 Pb:=fp
abbrev agV:=sub b49 19
abbrev agW:=sub b49 65
abbrev agX:=sub b49 50
def agk:Ko [] f67:=eM
def b67:=agk.1
def afe:=eH.mk 2 [.tmp 4,.tmp 5,.tmp 6] (sub b67 0)
def agm:Ko [] f69:=eM
def b69:=agm.1
def YV:=eH.mk 5 [.dH 10 10,.dH 11 7] (sub b69 0)
def ags:Ko [] f75:=eM
def b75:=ags.1
def aff:=eH.mk 1 [.tmp 2] (sub b75 0)
def agw:Ko [35] f79:=eM
def b79:=agw.1
def Lu:=eH.mk 2 [.dH 4 8,.tmp 5,.tmp 6] (sub b79 0)
def atO:sO [35] f79 Lu:=fp
def agz:Ko [7000011] f82:=eM
def b82:=agz.1
def Pd:=eH.mk 3 [.tmp 6] (sub b82 0)
def atQ:sO [7000011] f82 Pd:=fp
abbrev LI:=sub b82 15
abbrev ag2:=sub b82 28
def pN:=by
 have h:=bR (fO b46 aga.1) (bR (fO b47 agb.1) (bR (fO b49 agd.1) (bR (fO b67 agk.1) (bR (fO b69 agm.1) (bR (fO b75 ags.1) (bR (fO b79 agw.1) (fO b82 agz.1)))))));simp only[eM,aga,agb,agd,agk,agm,ags,agw,agz,yK,seval] at h;exact h
def Kv:=pN.1
def E47:=pN.2.1
def Qz:=pN.2.2.1
def E67:=pN.2.2.2.1
def E69:=pN.2.2.2.2.1
def E75:=pN.2.2.2.2.2.1
def E79:=pN.2.2.2.2.2.2.1
def E82:=pN.2.2.2.2.2.2.2
def agB:Ko [47] f84:=eM
def b84:=agB.1
def Sq:=eH.mk 2 [.tmp 4,.tmp 5,.tmp 6] (sub b84 0)
def atT:sO [47] f84 Sq:=fp
def agD:Ko [] f86:=eM
def b86:=agD.1
def alO:=eH.mk 3 [.tmp 6] (sub b86 0)
def Tj:Ko [8,14] f120:=eM
def Q7:=Tj.1
def IV:=eH.mk 3 [.dH 6 10,.tmp 7] (sub Q7 0)
def am0:sO [8,14] f120 IV:=fp
abbrev Zq:=sub Q7 9
abbrev Zt:=sub Q7 30
abbrev Zu:=sub Q7 49
def TD:Ko [] f138:=eM
def ai8:=TD.1
def MV:=eH.mk 2 [.tmp 4] (sub ai8 0)
def TE:Ko [20,5000016] f139:=eM
def Q8:=TE.1
def IW:=eH.mk 2 [.tmp 4,.tmp 5] (sub Q8 0)
def am2:sO [20,5000016] f139 IW:=fp
abbrev ZC:=sub Q8 36
abbrev ZD:=sub Q8 56
abbrev ZE:=sub Q8 13
def T8:Ko [] f172:=eM
def ajt:=T8.1
def acC:=eH.mk 2 [.tmp 4] (sub ajt 0)
def T9:Ko [] f173:=eM
def Yn:=T9.1
def MZ:=eH.mk 2 [.tmp 4] (sub Yn 0)
abbrev ZM:=sub Yn 41
abbrev ZN:=sub Yn 27
def Ua:Ko [] f174:=eM
def aju:=Ua.1
def M1:=eH.mk 2 [.tmp 4] (sub aju 0)
def oE:=by
 have h:=bR (fO b84 agB.1) (bR (fO b86 agD.1) (bR (fO Q7 Tj.1) (bR (fO ai8 TD.1) (bR (fO Q8 TE.1) (bR (fO ajt T8.1) (bR (fO Yn T9.1) (fO aju Ua.1)))))));simp only[eM,agB,agD,Tj,TD,TE,T8,T9,Ua,yK,seval] at h;exact h
def E84:=oE.1
def E86:=oE.2.1
def EX:=oE.2.2.1
def Oa:=oE.2.2.2.1
def AE:=oE.2.2.2.2.1
def aea:=oE.2.2.2.2.2.1
def EY:=oE.2.2.2.2.2.2.1
def aeb:=oE.2.2.2.2.2.2.2
def Ud:Ko [23] f177:=eM
def ajv:=Ud.1
def IZ:=eH.mk 2 [.tmp 4] (sub ajv 0)
def ane:sO [23] f177 IZ:=fp
def X0:=by
 have h:=fO ajv Ud.1;simp only[eM,Ud,yK,seval] at h;exact h
end Go.Proofs.YteoamaffclmdbaaGreatDoor
namespace Go.Abs
section
open Go Go.RowKit
theorem fc{α:Type}:∀(l:List α)(i:Nat),nth l i=l[i]?
 | [],_=>by rfl
 |_::_,0=>by rfl
 |_::l,n+1=>by simp[nth,fc l n]
theorem fe{α:Type}:∀(l:List α)(i:Nat)(x:α),iP l i x=l.set i x
 | [],_,_=>by rfl
 |_::_,0,_=>by rfl
 |_::l,n+1,x=>by simp[iP,fe l n]
def gF(j:J)(id:Nat)(ob:Option Nat):J:=⟨fun i=>if i=id then ob else j i,j.X⟩
structure Quiet(w w':World):Prop where
 size:w.heap.size<=w'.heap.size
 os:w'.os=w.os
 tape:w'.tape=w.tape
 output:w'.output=w.output
theorem lt_of_block{w:World}{b:Nat}{o:Obj}(h:w.heap[b]?=some o):b<w.heap.size:=by
 grind
theorem aP{α:Type}{l:List α}{i:Nat}{x:α}(h:l[i]?=some x):i<l.length:=ka
section
variable {j:J} {M:aC} {w w':World}
theorem qG{j':J}{M':aC}(hr:Rel j M w)(ext:Ext j M w j' M' w'){i sz ver:Nat}{xs:List ag}(h:M[i]?=some (.arr sz ver xs))(hj:j' i=j i)(hb:∀b,j i=some b->w'.heap[b]?=w.heap[b]?) :
  (xs=[]/\j' i=none)\/∃b vs t,j' i=some b/\w'.heap[b]?=some (.cells vs t (0,0))/\xs.length*sz<=vs.size/\(∀x,x∈xs->x.cells.length=sz) /\
  ∀(q:Nat)(x:ag)(k:Nat)(c:ag),xs[q]?=some x->x.cells[k]?=some c->∃v,vs[q*sz+k]?=some v/\fS w' (oG j' M' w') c v:=by
 rcases hr.arr i _ _ _ h with he|⟨b,vs,t,h1,h2,h3,h4,h5⟩
 ·grind
 refine .inr ⟨b,vs,t,hj.trans h1,(hb b h1).trans h2,h3,h4,fun q x k c hx hk=>?_⟩
 obtain⟨u,h6,h7⟩:=h5 q x k c hx hk;exact⟨u,h6,h7.mono ext.iz⟩
theorem Rel.yQ(hr:Rel j M w){i sz ver b:Nat}{xs:List ag}(h:M[i]?=some (.arr sz ver xs))(hj:j i=some b):∃b vs t,j i=some b/\w.heap[b]?=some (.cells vs t (0,0))/\xs.length*sz<=vs.size/\(∀x,x∈xs->x.cells.length=sz) /\
  ∀(q:Nat)(x:ag)(k:Nat)(c:ag),xs[q]?=some x->x.cells[k]?=some c->∃v,vs[q*sz+k]?=some v/\fS w (oG j M w) c v:=by
 rcases hr.arr i _ _ _ h with ⟨_,he⟩|hh
 ·grind
 omega
def xT{bx:cJ}{i:Nat}(h:i<M.length):(M++[bx])[i]?=M[i]?:=ka
def kh{bx:cJ}:(M++[bx])[M.length]?=some bx:=dv
theorem Ext.push{ob:Option Nat}{bx:cJ}(hob:∀b,ob=some b->w.heap.size<=b)(q:Quiet w w')(hb:∀b,b<w.heap.size->w'.heap[b]?=w.heap[b]?) :
  Ext j M w (gF j M.length ob) (M++[bx]) w' where
 len:=dv
 size:=q.size
 os:=q.os
 tape:=q.tape
 output:=q.output
 X:=rfl
 fix:=fun i bx h _=>by
  have hi:=aP h;exact⟨by simp[gF,gI hi],bx,by rw[xT hi]; omega,rfl⟩
 tick:=fun i sz n h=>by
  have hi:=aP h;exact⟨n,av _,by rw[xT hi]; omega,fun _=>⟨by simp[gF,gI hi],fun b vs t _ hv=>⟨vs,(hb b (lt_of_block hv)).trans hv,rfl⟩⟩⟩
 arr:=fun i sz v xs h=>by
  have hi:=aP h;exact .inr ⟨v,xs,by rw[xT hi]; omega,av _,fun _=>⟨by simp[gF,gI hi],rfl,fun b vs t _ hv=>⟨vs,(hb b (lt_of_block hv)).trans hv,rfl⟩⟩⟩
 tags:=fun b0 vs0 t0 fr0 h=>⟨vs0,fr0,(hb b0 (lt_of_block h)).trans h,rfl⟩
 iz:=fun b off h=>by
  refine⟨⟨bz h.1 q.size,fun id hid hj=>?_,h.3⟩,World.cell?_of_block (hb b h.1)⟩
  by_cases he:id=M.length
  ·have:ob=some b:=by grind [gF]
   have:=hob b this;have:=h.1;omega
  ·have cL:id<M.length:=ka;rw[xT cL];exact h.2 id cL (by grind [gF])
 um:=fun b cL h=>by
  grind [ob,gF]
theorem Rel.anH(hr:Rel j M w){ob:Option Nat}{bx:cJ}(hob:∀b,ob=some b->w.heap.size<=b/\b<w'.heap.size)(q:Quiet w w')(hb:∀b,b<w.heap.size->w'.heap[b]?=w.heap[b]?)
  (hbox:bx.fixed=true->∃b,ob=some b/\(Ext j M w (gF j M.length ob) (M++[bx]) w'->Holds (gF j M.length ob) (M++[bx]) w' b bx))
  (htick:∀sz n b,bx = .tick sz n->ob=some b->∃vs t,w'.heap[b]?=some (.cells vs t (0,0)))
  (harr:∀sz ver xs,bx = .arr sz ver xs->(xs=[]/\ob=none)\/∃b vs t,ob=some b/\w'.heap[b]?=some (.cells vs t (0,0))/\xs.length*sz<=vs.size/\(∀x,x∈xs->x.cells.length=sz) /\
   ∀j' M',Ext j M w j' M' w'->∀(q:Nat)(x:ag)(k:Nat)(c:ag),xs[q]?=some x->x.cells[k]?=some c->∃v,vs[q*sz+k]?=some v/\fS w' (oG j' M' w') c v:=by intro _ _ _ h; cases h):Rel (gF j M.length ob) (M++[bx]) w':=by
 have ext:Ext j M w (gF j M.length ob) (M++[bx]) w':=Ext.push (fun b h=>(hob b h).1) q hb
 have up:∀i,i<M.length->gF j M.length ob i=j i:=fun i hi=>by simp[gF,gI hi]
 have cas:∀i x,(M++[bx])[i]?=some x->(i<M.length/\M[i]?=some x)\/(i=M.length/\x=bx):=by
  grind
 refine⟨fun i i' b hi hi' h h'=>?_,fun i b hi h=>?_,fun i bx' h hf=>?_,fun i sz n b h hj=>?_,fun i sz ver xs h=>?_,fun i b hi h off hx=>?_,fun b off h=>bz (hr.AD b off h) q.size⟩
 ·simp only[aA,au,aw] at hi hi'
  by_cases e:i=M.length<;>by_cases e':i'=M.length
  ·omega
  ·have h1:ob=some b:=by simpa[gF,e] using h
   rw[up i' aI] at h';have:=hr.lt i' b aI h';have:=(hob b h1).1;omega
  ·have h1:ob=some b:=by simpa[gF,e'] using h'
   rw[up i aI] at h;have:=hr.lt i b aI h;have:=(hob b h1).1;omega
  ·rw[up i aI] at h;rw[up i' aI] at h';exact hr.inj i i' b aI aI h h'
 ·simp only[aA,au,aw] at hi
  by_cases e:i=M.length
  ·exact(hob b (by simpa[gF,e] using h)).2
  ·rw[up i aI] at h;exact bz (hr.lt i b aI h) q.size
 ·rcases cas i _ h with ⟨hi,h⟩|⟨rfl,hx⟩
  ·obtain⟨b,h1,h2⟩:=hr.fix i bx' h hf;exact⟨b,by rw[up i hi]; exact h1,h2.mono ext (hb b (hr.lt i b hi h1))⟩
  ·subst hx;obtain⟨b,h1,h2⟩:=hbox hf;exact⟨b,by simp[gF,h1],h2 ext⟩
 ·rcases cas i _ h with ⟨hi,h⟩|⟨rfl,hx⟩
  ·rw[up i hi] at hj;obtain⟨vs,t,h1⟩:=hr.tick i sz n b h hj;exact⟨vs,t,(hb b (lt_of_block h1)).trans h1⟩
  ·exact htick sz n b hx.symm (by simpa[gF] using hj)
 ·rcases cas i _ h with ⟨hi,h⟩|⟨rfl,hx⟩
  ·exact qG hr ext h (up i hi) fun b h1=>hb b (hr.lt i b hi h1)
  grind [gF]
 ·by_cases e:i=M.length
  ·have h1:=(hob b (by simpa[gF,e] using h)).1
   have h2:=hr.AD b off hx;omega
  ·exact hr.vj i b (by simp at hi; omega) (by rw[up i (by simp at hi; omega)] at h; exact h) off hx
def Rel.push(hr:Rel j M w){ob:Option Nat}{bx:cJ}(hob:∀b,ob=some b->w.heap.size<=b/\b<w'.heap.size)(q:Quiet w w')(hb:∀b,b<w.heap.size->w'.heap[b]?=w.heap[b]?)
  (hbox:bx.fixed=true->∃b,ob=some b/\∀j' M',Ext j M w j' M' w'->Holds j' M' w' b bx)
  (htick:∀sz n b,bx = .tick sz n->ob=some b->∃vs t,w'.heap[b]?=some (.cells vs t (0,0)))
  (harr:∀sz ver xs,bx = .arr sz ver xs->(xs=[]/\ob=none)\/∃b vs t,ob=some b/\w'.heap[b]?=some (.cells vs t (0,0))/\xs.length*sz<=vs.size/\(∀x,x∈xs->x.cells.length=sz) /\
   ∀j' M',Ext j M w j' M' w'->∀(q:Nat)(x:ag)(k:Nat)(c:ag),xs[q]?=some x->x.cells[k]?=some c->∃v,vs[q*sz+k]?=some v/\fS w' (oG j' M' w') c v:=by intro _ _ _ h; cases h):Rel (gF j M.length ob) (M++[bx]) w' :=
 hr.anH hob q hb (fun hf=>(hbox hf).imp fun b h=>⟨h.1,fun hx=>h.2 _ _ hx⟩) htick harr
theorem eb{id:Nat}{bx:cJ}(h:id<M.length):(M.set id bx)[id]?=some bx:=ka
def cK{id i:Nat}{bx:cJ}(h:id≠i):(M.set id bx)[i]?=M[i]?:=ka
theorem Ext.store{id b:Nat}{bx bx':cJ}(hM:M[id]?=some bx)(hfx:bx.fixed=true)(htag:bx'.tag=bx.tag)(hj:j id=some b)(hr:Rel j M w)(q:Quiet w w')
  (hb:∀b',b'≠b->b'<w.heap.size->w'.heap[b']?=w.heap[b']?) (htg:∀(vs:Array Value)(t:TypeId)(fr:Nat×Nat),w.heap[b]?=some (.cells vs t fr)->∃vs' fr',w'.heap[b]?=some (.cells vs' t fr')/\vs'.size=vs.size):Ext j M w j (M.set id bx') w' where
 len:=dv
 size:=q.size
 os:=q.os
 tape:=q.tape
 output:=q.output
 X:=rfl
 fix:=fun i b0 h _=>⟨rfl,by
  grind⟩
 tick:=fun i sz n h=>by
  have e:id≠i:=by rintro rfl; rw[hM] at h; cases h; cases hfx
  refine⟨n,av _,by rw[cK e]; omega,fun _=>⟨rfl,fun b' vs t hb' hv=>⟨vs,?_,rfl⟩⟩⟩
  refine(hb b' ?_ (lt_of_block hv)).trans hv;rintro rfl;exact e (hr.inj _ _ _ (aP hM) (aP h) hj hb')
 arr:=fun i sz v xs h=>by
  have e:id≠i:=by rintro rfl; rw[hM] at h; cases h; cases hfx
  refine .inr ⟨v,xs,by rw[cK e]; omega,av _,fun _=>⟨rfl,rfl,fun b' vs t hb' hv=>⟨vs,?_,rfl⟩⟩⟩
  refine(hb b' ?_ (lt_of_block hv)).trans hv;rintro rfl;exact e (hr.inj _ _ _ (aP hM) (aP h) hj hb')
 tags:=fun b0 vs0 t0 fr0 h=>by
  grind
 iz:=fun b0 off h=>by
  have hne:b0≠b:=by
   rintro rfl;obtain⟨sz,n,h1,_⟩:=h.2 id (aP hM) hj;rw[hM] at h1; cases h1; cases hfx
  refine⟨⟨bz h.1 q.size,fun i hi hji=>?_,h.3⟩,World.cell?_of_block (w:=w) (hb b0 hne h.1)⟩
  have e:id≠i:=ka;rw[cK e];exact h.2 i (by simpa using hi) hji
 um:=fun b0 cL h=>by
  grind
theorem Rel.store{id b:Nat}{bx bx':cJ}(hM:M[id]?=some bx)(hfx:bx.fixed=true)(htag:bx'.tag=bx.tag)(hj:j id=some b)(hr:Rel j M w)(q:Quiet w w')
  (hb:∀b',b'≠b->b'<w.heap.size->w'.heap[b']?=w.heap[b']?) (htg:∀(vs:Array Value)(t:TypeId)(fr:Nat×Nat),w.heap[b]?=some (.cells vs t fr)->∃vs' fr',w'.heap[b]?=some (.cells vs' t fr')/\vs'.size=vs.size) (hh:∀j' M',Ext j M w j' M' w'->Holds j' M' w' b bx'):Rel j (M.set id bx') w':=by
 have ext  := Ext.store hM hfx htag hj hr q hb htg;refine⟨fun i i' b0 hi hi'=>hr.inj i i' b0 (by simpa using hi) (by simpa using hi'),fun i b0 hi h=>bz (hr.lt i b0 (by simpa using hi) h) q.size,fun i bx0 h hf=>?_,fun i sz n b0 h hji=>?_,fun i sz ver xs h=>?_,fun i b0 hi h=>hr.vj i b0 (by simpa using hi) h,fun b0 off h=>bz (hr.AD b0 off h) q.size⟩
 ·by_cases e:id=i
  ·grind
  ·rw[cK e] at h;obtain⟨b0,h1,h2⟩:=hr.fix i _ h hf;refine⟨b0,h1,h2.mono ext (hb b0 ?_ (hr.lt i b0 (aP h) h1))⟩;rintro rfl;exact e (hr.inj _ _ _ (aP hM) (aP h) hj h1)
 ·have e:id≠i:=by
   rintro rfl;rw[eb (aP hM)] at h;injection h with h
   have:=BH htag hfx;rw[h] at this; cases this
  rw[cK e] at h;obtain⟨vs,t0,h1⟩:=hr.tick i sz n b0 h hji;refine⟨vs,t0,(hb b0 ?_ (lt_of_block h1)).trans h1⟩;rintro rfl;exact e (hr.inj _ _ _ (aP hM) (aP h) hj hji)
 ·have e:id≠i:=by
   rintro rfl;rw[eb (aP hM)] at h;injection h with h
   have:=BH htag hfx;rw[h] at this; cases this
  rw[cK e] at h;refine qG hr ext h rfl fun b0 h1=>hb b0 ?_ (hr.lt i b0 (aP h) h1)
  rintro rfl;exact e (hr.inj _ _ _ (aP hM) (aP h) hj h1)
theorem Ext.HI{k b sz n n':Nat}{vs vs':Array Value}{t:TypeId}(hM:M[k]?=some (.tick sz n))(hj:j k=some b)(hr:Rel j M w)(q:Quiet w w')
  (hb:∀b',b'≠b->b'<w.heap.size->w'.heap[b']?=w.heap[b']?) (hw:w.heap[b]?=some (.cells vs t (0,0))) (hw':w'.heap[b]?=some (.cells vs' t (0,0))) (hvs:vs'.size=vs.size)
  (hq:∀p,p<n*sz->vs'[p]?=vs[p]?) (hn:n<=n'):Ext j M w j (M.set k (.tick sz n')) w' where
 len:=dv
 size:=q.size
 os:=q.os
 tape:=q.tape
 output:=q.output
 X:=rfl
 fix:=fun i b0 h hf=>⟨rfl,by
  have e:k≠i:=by rintro rfl; rw[hM] at h; cases h; cases hf
  grind⟩
 tick:=fun i sz0 n0 h=>by
  grind
 arr:=fun i sz v xs h=>by
  grind
 tags:=fun b0 vs0 t0 fr0 h=>by
  grind
 iz:=fun b0 off h=>by
  refine⟨⟨bz h.1 q.size,fun i hi hji=>?_,h.3⟩,?_⟩
  ·by_cases e:k=i
   ·subst e;obtain⟨sz0,n0,h1,h2⟩:=h.2 k (aP hM) hji;rw[hM] at h1;injection h1 with h1; injection h1 with e1 e2
    subst e1; subst e2;exact⟨sz,n',eb (aP hM),bz h2 (bd _ hn)⟩
   ·rw[cK e];exact h.2 i (by simpa using hi) hji
  ·by_cases e:b0=b
   ·subst e;obtain⟨sz0,n0,h1,h2⟩:=h.2 k (aP hM) hj;rw[hM] at h1
    grind [World.cell?]
   ·exact World.cell?_of_block (w:=w) (hb b0 e h.1)
 um:=fun b0 cL h=>by
  grind
theorem Rel.HI{k b sz n n':Nat}{vs vs':Array Value}{t:TypeId}(hM:M[k]?=some (.tick sz n))(hj:j k=some b)(hr:Rel j M w)(q:Quiet w w')
  (hb:∀b',b'≠b->b'<w.heap.size->w'.heap[b']?=w.heap[b']?) (hw:w.heap[b]?=some (.cells vs t (0,0))) (hw':w'.heap[b]?=some (.cells vs' t (0,0))) (hvs:vs'.size=vs.size)
  (hq:∀p,p<n*sz->vs'[p]?=vs[p]?) (hn:n<=n'):Rel j (M.set k (.tick sz n')) w':=by
 have ext:Ext j M w j (M.set k (.tick sz n')) w':=Ext.HI hM hj hr q hb hw hw' hvs hq hn;refine⟨fun i i' b0 hi hi'=>hr.inj i i' b0 ka ka,fun i b0 hi h=>bz (hr.lt i b0 ka h) q.size,fun i bx0 h hf=>?_,fun i sz0 n0 b0 h hji=>?_,fun i sz ver xs h=>?_,fun i b0 hi h=>hr.vj i b0 ka h,fun b0 off h=>bz (hr.AD b0 off h) q.size⟩
 ·have e:k≠i:=by rintro rfl; rw[eb (aP hM)] at h; cases h; cases hf
  rw[cK e] at h;obtain⟨b0,h1,h2⟩:=hr.fix i bx0 h hf;refine⟨b0,h1,h2.mono ext (hb b0 ?_ (hr.lt i b0 (aP h) h1))⟩;rintro rfl;exact e (hr.inj _ _ _ (aP hM) (aP h) hj h1)
 ·by_cases e:k=i
  ·grind
  ·rw[cK e] at h;obtain⟨vs0,t0,h1⟩:=hr.tick i sz0 n0 b0 h hji
   grind
 ·have e:k≠i:=ka;rw[cK e] at h;refine qG hr ext h rfl fun b0 h1=>hb b0 ?_ (hr.lt i b0 (aP h) h1)
  rintro rfl;exact e (hr.inj _ _ _ (aP hM) (aP h) hj h1)
theorem Ext.C5{k b' sz n n':Nat}(hM:M[k]?=some (.tick sz n))(q:Quiet w w')(hb:∀b,b<w.heap.size->w'.heap[b]?=w.heap[b]?)(hf:w.heap.size<=b')(hn:n<n') :
  Ext j M w (gF j k (some b')) (M.set k (.tick sz n')) w' where
 len:=dv
 size:=q.size
 os:=q.os
 tape:=q.tape
 output:=q.output
 X:=rfl
 fix:=fun i b0 h hf=>by
  have e:k≠i:=by rintro rfl; rw[hM] at h; cases h; cases hf
  exact⟨by simp[gF,eS e],b0,by rw[cK e]; omega,rfl⟩
 tick:=fun i sz0 n0 h=>by
  by_cases e:k=i
  ·grind
  ·exact⟨n0,av _,by rw[cK e]; omega,fun _=>⟨by simp[gF,eS e],fun b vs0 t0 _ hv=>⟨vs0,(hb b (lt_of_block hv)).trans hv,rfl⟩⟩⟩
 arr:=fun i sz v xs h=>by
  have e:k≠i:=ka;exact .inr ⟨v,xs,by rw[cK e]; omega,av _,fun _=>⟨by simp[gF,eS e],rfl,fun b vs0 t0 _ hv=>⟨vs0,(hb b (lt_of_block hv)).trans hv,rfl⟩⟩⟩
 tags:=fun b0 vs0 t0 fr0 h=>⟨vs0,fr0,(hb b0 (lt_of_block h)).trans h,rfl⟩
 iz:=fun b0 off h=>by
  refine⟨⟨bz h.1 q.size,fun i hi hji=>?_,h.3⟩,World.cell?_of_block (w:=w) (hb b0 h.1)⟩
  have e:k≠i:=by
   rintro rfl;have:b'=b0:=by grind [gF]
   have:=h.1;omega
  rw[cK e];exact h.2 i ka (by simp_all [gF,eS])
 um:=fun b0 cL h=>by
  grind [gF]
def Rel.C5{k b' sz n n':Nat}{vs:Array Value}{t:TypeId}(hM:M[k]?=some (.tick sz n))(hr:Rel j M w)(q:Quiet w w')(hb:∀b,b<w.heap.size->w'.heap[b]?=w.heap[b]?)
  (hf:w.heap.size<=b') (hw':w'.heap[b']?=some (.cells vs t (0,0))) (hn:n<n'):Rel (gF j k (some b')) (M.set k (.tick sz n')) w':=by
 have ext:Ext j M w (gF j k (some b')) (M.set k (.tick sz n')) w':=Ext.C5 hM q hb hf hn;refine⟨fun i i' b0 hi hi' h h'=>?_,fun i b0 hi h=>?_,fun i bx0 h hf=>?_,fun i sz0 n0 b0 h hji=>?_,fun i sz ver xs h=>?_,fun i b0 hi h off hx=>?_,fun b0 off h=>bz (hr.AD b0 off h) q.size⟩
 ·simp only[cG] at hi hi'
  by_cases e:i=k<;>by_cases e':i'=k
  ·omega
  ·have h1:b'=b0:=by simpa[gF,e] using h
   have:=hr.lt i' b0 hi' (by simpa[gF,e'] using h')
   omega
  ·have h1:b'=b0:=by simpa[gF,e'] using h'
   have:=hr.lt i b0 hi (by simpa[gF,e] using h)
   omega
  ·exact hr.inj i i' b0 hi hi' (by simpa[gF,e] using h) (by simpa[gF,e'] using h')
 ·simp only[cG] at hi
  by_cases e:i=k
  ·have h1:b'=b0:=by simpa[gF,e] using h
   subst h1;exact lt_of_block hw'
  ·exact bz (hr.lt i b0 hi (by simpa[gF,e] using h)) q.size
 ·have e:k≠i:=by rintro rfl; rw[eb (aP hM)] at h; cases h; cases hf
  rw[cK e] at h;obtain⟨b0,h1,h2⟩:=hr.fix i bx0 h hf;exact⟨b0,by simpa[gF,eS e] using h1,h2.mono ext (hb b0 (hr.lt i b0 (aP h) h1))⟩
 ·by_cases e:i=k
  ·have h1:b'=b0:=by simpa[gF,e] using hji
   subst h1;exact⟨vs,t,hw'⟩
  ·rw[cK (eS e)] at h;obtain⟨vs0,t0,h1⟩:=hr.tick i sz0 n0 b0 h (by simpa[gF,e] using hji)
   exact⟨vs0,t0,(hb b0 (lt_of_block h1)).trans h1⟩
 ·have e:k≠i:=by rintro rfl; rw[eb (aP hM)] at h; cases h
  rw[cK e] at h;exact qG hr ext h (by simp[gF,eS e]) fun b0 h1=>hb b0 (hr.lt i b0 (aP h) h1)
 ·by_cases e:i=k
  ·have h1:b'=b0:=by simpa[gF,e] using h
   have h2:=hr.AD b0 off hx;omega
  ·exact hr.vj i b0 (by simpa using hi) (by simpa[gF,e] using h) off hx
end
section
variable {j:J} {M:aC} {w w':World}
def Fk(j:J)(M:aC)(w:World)(b sz:Nat)(xs:List ag):Prop:=∃vs t,w.heap[b]?=some (.cells vs t (0,0))/\xs.length*sz<=vs.size/\(∀x,x∈xs->x.cells.length=sz) /\
  ∀(q:Nat)(x:ag)(k:Nat)(c:ag),xs[q]?=some x->x.cells[k]?=some c->∃v,vs[q*sz+k]?=some v/\fS w (oG j M w) c v
def Ext.Fq{id b sz ver ver':Nat}{xs xs':List ag}(hM:M[id]?=some (.arr sz ver xs))(hj:j id=some b)(hr:Rel j M w)(q:Quiet w w')
  (hb:∀b',b'≠b->b'<w.heap.size->w'.heap[b']?=w.heap[b']?) (hw:∀vs t,w.heap[b]?=some (.cells vs t (0,0))->∃vs',w'.heap[b]?=some (.cells vs' t (0,0))/\vs'.size=vs.size)
  (hv:ver<=ver') (hl:ver'=ver->xs'.length=xs.length):Ext j M w j (M.set id (.arr sz ver' xs')) w' where
 len:=dv
 size:=q.size
 os:=q.os
 tape:=q.tape
 output:=q.output
 X:=rfl
 fix:=fun i b0 h hf=>⟨rfl,by
  have e:id≠i:=by rintro rfl; rw[hM] at h; cases h; cases hf
  exact⟨b0,by rw[cK e]; exact h,rfl⟩⟩
 tick:=fun i sz0 n0 h=>by
  have e:id≠i:=by rintro rfl; rw[hM] at h; cases h
  refine⟨n0,av _,by rw[cK e]; exact h,fun _=>⟨rfl,fun b' vs0 t0 hb' hv=>⟨vs0,?_,rfl⟩⟩⟩
  refine(hb b' ?_ (lt_of_block hv)).trans hv;rintro rfl;exact e (hr.inj _ _ _ (aP hM) (aP h) hj hb')
 arr:=fun i sz0 v0 xs0 h=>by
  by_cases e:id=i
  ·subst e;rw[hM] at h;injection h with h; injection h with e1 e2 e3
   subst e1; subst e2; subst e3;refine .inr ⟨ver',xs',eb (aP hM),hv,fun he=>⟨rfl,hl he,fun b' vs t hb' hv=>?_⟩⟩
   rw[hj] at hb'; cases hb';exact hw vs t hv
  ·refine .inr ⟨v0,xs0,by rw[cK e]; exact h,av _,fun _=>⟨rfl,rfl,fun b' vs t hb' hv=>⟨vs,?_,rfl⟩⟩⟩
   refine(hb b' ?_ (lt_of_block hv)).trans hv;rintro rfl;exact e (hr.inj _ _ _ (aP hM) (aP h) hj hb')
 tags:=fun b0 vs0 t0 fr0 h=>by
  by_cases e:b0=b
  ·subst e;obtain⟨b',vs,t,g1,g2,_⟩:=hr.yQ hM hj;rw[hj] at g1; cases g1;rw[g2] at h; injection h with h; injection h with h1 h2 h3
   subst h1; subst h2;obtain⟨vs',k1,k2⟩:=hw vs t g2;exact⟨_,_,k1,k2⟩
  ·exact⟨vs0,fr0,(hb b0 e (lt_of_block h)).trans h,rfl⟩
 iz:=fun b0 off h=>by
  have hne:b0≠b:=by
   rintro rfl;obtain⟨sz,n,h1,_⟩:=h.2 id (aP hM) hj;rw[hM] at h1; cases h1
  refine⟨⟨bz h.1 q.size,fun i hi hji=>?_,h.3⟩,World.cell?_of_block (w:=w) (hb b0 hne h.1)⟩
  have e:id≠i:=by rintro rfl; rw[hj] at hji; injection hji with hji; exact hne hji.symm
  rw[cK e];exact h.2 i (by simpa using hi) hji
 um:=fun b0 cL h=>by
  have hne:b0≠b:=by rintro rfl; exact h id (aP hM) hj
  exact⟨hb b0 hne cL,fun i hi=>h i (by simpa using hi)⟩
def Rel.Fq{id b sz ver ver':Nat}{xs xs':List ag}(hM:M[id]?=some (.arr sz ver xs))(hj:j id=some b)(hr:Rel j M w)(q:Quiet w w')
  (hb:∀b',b'≠b->b'<w.heap.size->w'.heap[b']?=w.heap[b']?) (hw:∀vs t,w.heap[b]?=some (.cells vs t (0,0))->∃vs',w'.heap[b]?=some (.cells vs' t (0,0))/\vs'.size=vs.size)
  (hv:ver<=ver') (hl:ver'=ver->xs'.length=xs.length) (hh:∀j' M',Ext j M w j' M' w'->Fk j' M' w' b sz xs'):Rel j (M.set id (.arr sz ver' xs')) w':=by
 have ext:Ext j M w j (M.set id (.arr sz ver' xs')) w':=Ext.Fq hM hj hr q hb hw hv hl;refine⟨fun i i' b0 hi hi'=>hr.inj i i' b0 (by simpa using hi) (by simpa using hi'),fun i b0 hi h=>bz (hr.lt i b0 (by simpa using hi) h) q.size,fun i bx0 h hf=>?_,fun i sz0 n0 b0 h hji=>?_,fun i sz0 v0 xs0 h=>?_,fun i b0 hi h=>hr.vj i b0 (by simpa using hi) h,fun b0 off h=>bz (hr.AD b0 off h) q.size⟩
 ·have e:id≠i:=by rintro rfl; rw[eb (aP hM)] at h; cases h; cases hf
  rw[cK e] at h;obtain⟨b0,h1,h2⟩:=hr.fix i bx0 h hf;refine⟨b0,h1,h2.mono ext (hb b0 ?_ (hr.lt i b0 (aP h) h1))⟩;rintro rfl;exact e (hr.inj _ _ _ (aP hM) (aP h) hj h1)
 ·have e:id≠i:=by rintro rfl; rw[eb (aP hM)] at h; cases h
  rw[cK e] at h;obtain⟨vs,t0,h1⟩:=hr.tick i sz0 n0 b0 h hji;refine⟨vs,t0,(hb b0 ?_ (lt_of_block h1)).trans h1⟩;rintro rfl;exact e (hr.inj _ _ _ (aP hM) (aP h) hj hji)
 ·by_cases e:id=i
  ·subst e;rw[eb (aP hM)] at h;injection h with h; injection h with e1 e2 e3
   subst e1; subst e2; subst e3;obtain⟨vs,t,g⟩:=hh _ _ ext;exact .inr ⟨b,vs,t,hj,g⟩
  ·rw[cK e] at h;refine qG hr ext h rfl fun b0 h1=>hb b0 ?_ (hr.lt i b0 (aP h) h1)
   rintro rfl;exact e (hr.inj _ _ _ (aP hM) (aP h) hj h1)
def Ext.freeze{id sz ver:Nat}{xs:List ag}(hM:M[id]?=some (.arr sz ver xs)):Ext j M w j (M.set id (.tick sz xs.length)) w where
 len:=dv
 size:=av _
 os:=rfl
 tape:=rfl
 output:=rfl
 X:=rfl
 fix:=fun i b0 h hf=>⟨rfl,by
  have e:id≠i:=by rintro rfl; rw[hM] at h; cases h; cases hf
  exact⟨b0,by rw[cK e]; exact h,rfl⟩⟩
 tick:=fun i sz0 n0 h=>by
  have e:id≠i:=by rintro rfl; rw[hM] at h; cases h
  exact⟨n0,av _,by rw[cK e]; exact h,fun _=>⟨rfl,fun b' vs0 t0 hb' hv=>⟨vs0,hv,rfl⟩⟩⟩
 arr:=fun i sz0 v0 xs0 h=>by
  by_cases e:id=i
  ·subst e;rw[hM] at h;injection h with h; injection h with e1 e2 e3
   subst e1; subst e2; subst e3;exact .inl ⟨_,eb (aP hM)⟩
  ·exact .inr ⟨v0,xs0,by rw[cK e]; exact h,av _,fun _=>⟨rfl,rfl,fun b' vs t hb' hv=>⟨vs,hv,rfl⟩⟩⟩
 tags:=fun b vs t fr h=>⟨vs,fr,h,rfl⟩
 iz:=fun b0 off h=>by
  refine⟨⟨h.1,fun i hi hji=>?_,h.3⟩,rfl⟩
  have e:id≠i:=by
   rintro rfl;obtain⟨sz,n,h1,_⟩:=h.2 id (aP hM) hji;rw[hM] at h1; cases h1
  rw[cK e];exact h.2 i (by simpa using hi) hji
 um:=fun b0 cL h=>⟨rfl,fun i hi=>h i (by simpa using hi)⟩
def Rel.freeze{id sz ver:Nat}{xs:List ag}(hM:M[id]?=some (.arr sz ver xs))(hr:Rel j M w):Rel j (M.set id (.tick sz xs.length)) w:=by
 have ext:Ext j M w j (M.set id (.tick sz xs.length)) w:=Ext.freeze hM;refine⟨fun i i' b0 hi hi'=>hr.inj i i' b0 (by simpa using hi) (by simpa using hi'),fun i b0 hi h=>hr.lt i b0 (by simpa using hi) h,fun i bx0 h hf=>?_,fun i sz0 n0 b0 h hji=>?_,fun i sz0 v0 xs0 h=>?_,fun i b0 hi h=>hr.vj i b0 (by simpa using hi) h,hr.AD⟩
 ·have e:id≠i:=by rintro rfl; rw[eb (aP hM)] at h; cases h; cases hf
  rw[cK e] at h;obtain⟨b0,h1,h2⟩:=hr.fix i bx0 h hf;exact⟨b0,h1,h2.mono ext rfl⟩
 ·by_cases e:id=i
  ·subst e;obtain⟨b,vs,t,g1,g2,_⟩:=hr.yQ hM hji;rw[hji] at g1; cases g1;exact⟨vs,t,g2⟩
  ·rw[cK e] at h;exact hr.tick i sz0 n0 b0 h hji
 ·have e:id≠i:=by rintro rfl; rw[eb (aP hM)] at h; cases h
  rw[cK e] at h;exact qG hr ext h rfl fun b0 h1=>rfl
end
def xX{w:World}{iz saf':Nat->Nat->Prop}{b lo hi sz cap:Nat}{vs:Array Value}{t:TypeId}{xs:List ag}(hw:w.heap[b]?=some (.cells vs t (0,0)))(hwid:∀x,x∈xs->x.cells.length=sz)
  (hc:∀(q:Nat)(x:ag)(k:Nat)(c:ag),xs[q]?=some x->x.cells[k]?=some c->∃v,vs[q*sz+k]?=some v/\fS w iz c v) (hm:∀b off,iz b off->saf' b off) (hs:∀off,off<xs.length*sz->saf' b off)
  (h1:lo<=hi) (h2:hi<=xs.length) (h3:hi-lo<=cap):fS w saf' (.slice .sh ((xs.take hi).drop lo)) (.slice (some ⟨b,lo*sz,none⟩) (hi-lo) cap):=by
 have hget:∀(i:Nat)(x:ag),((xs.take hi).drop lo)[i]?=some x->xs[lo+i]?=some x/\lo+i<hi:=by
  intro i x h;rw[cI] at h;have cL:lo+i<hi:=by have:=aP h; simp at this; omega
  rw[bH cL] at h;exact⟨h,cL⟩
 have idx:∀i k,lo*sz+(i*sz+k)=(lo+i)*sz+k:=fun i k=>by rw[bP]; omega
 refine .slice _ _ _ _ b (lo*sz) sz (fun p=>(vs[lo*sz+p]?).getD undef) gm aI (fun _=>rfl) (fun x hx=>hwid x (dM (dx hx))) (fun i x k c hx hk=>?_) fun i x k c hx hk=>?_
 ·obtain⟨g1,g2⟩:=hget i x hx;obtain⟨v,g3,g4⟩:=hc _ x k c g1 hk;have hk':k<sz:=by rw[<-hwid x (aK g1)]; exact aP hk
  rw[idx];refine⟨by simp[World.cell?,hw,g3],hs _ ?_⟩
  calc (lo+i)*sz+k<(lo+i)*sz+sz:=aI
   _=(lo+i+1)*sz:=by rw[bP (lo+i) 1]; omega
   _<=xs.length*sz:=bd _ aI
 ·obtain⟨g1,g2⟩:=hget i x hx;obtain⟨v,g3,g4⟩:=hc _ x k c g1 hk;simp only[idx,g3,bm];exact g4.mono fun b off h=>⟨hm b off h,rfl⟩
section
variable [kH]
def iU(j:J)(M:aC)(w:World)(x:ag×aC)(v:Value)(w':World):Prop:=∃j',Rel j' x.2 w'/\Ext j M w j' x.2 w'/\gn j' x.2 w' x.1 v
def HW(j:J)(M:aC)(w:World)(x:ag×aC)(u:Value)(w':World):Prop:=x.1 = .nK u/\∃j',Rel j' x.2 w'/\Ext j M w j' x.2 w'
def vV(j:J)(M:aC)(w:World)(x:ag×aC)(e:Ending)(w':World):Prop :=
 (∃v,e = .returned v/\iU j M w x v w')\/∃u,e = .panicked [{ v:=u,recovered:=false }]/\HW j M w x u w'
def vV.ret{j:J}{M:aC}{w:World}{x:ag×aC}{e:Ending}{w':World}(h:vV j M w x e w')(hx:x.1.jo=false):∃v,e = .returned v/\iU j M w x v w':=by
 rcases h with h|⟨u,_,h,_⟩
 ·omega
 ·rw[h] at hx; cases hx
def dh(P:Program)(f:Nat)(args:List ag)(M:aC)(x:ag×aC):Prop :=
 ∀(j:J)(w:World)(vs:Array Value),Rel j M w->sQ j M w->args.length=vs.size->(∀(i:Nat)(c:ag)(v:Value),args[i]?=some c->vs[i]?=some v->gn j M w c v) ->
  Calls P f vs w fun e w'=>vV j M w x e w'
def nQ(P:Program)(f:Nat)(args:List ag)(M:aC)(x:ag×aC):Prop :=
 ∀(j:J)(w:World)(vs:Array Value),Rel j M w->sQ j M w->args.length=vs.size->(∀(i:Nat)(c:ag)(v:Value),args[i]?=some c->vs[i]?=some v->gn j M w c v) ->
  Calls P f vs w fun e w'=>∃v j',e = .returned v/\Rel j' x.2 w'/\Ext j M w j' x.2 w'/\gn j' x.2 w' x.1 v
def nQ.call{P:Program}{f:Nat}{args:List ag}{M:aC}{x:ag×aC}(h:nQ P f args M x):dh P f args M x:=fun j w vs h1 h2 h3 h4 =>
 (h j w _ h1 h2 h3 h4).mono fun e w' ⟨v,j',he,g1,g2,g3⟩ => .inl ⟨v,he,j',g1,g2,g3⟩
def nP(P:Program)(C:eR):Prop:=∀f a M x,C f a M=some x->lL P f=true/\dh P f a M x
section
variable {j:J} {M:aC} {w:World} {P:Program}
def iU.still{v:Value}{y:ag}(hr:Rel j M w)(h:gn j M w y v):iU j M w (y,M) v w:=⟨j,hr,Ext.refl j M w,h⟩
theorem H2{v:Value}{x:ag}(h:Kz v=some x):gn j M w x v:=by
 unfold Kz at h
 split at h<;>first
  |(cases h; first|exact .plain (.bool _)|exact .plain (.int _ _)|exact .plain (.str _)|exact .plain (.raw _ rfl)|exact .c0 _)
  |grind
theorem HZ{iz:Nat->Nat->Prop}:∀ {vs:List Value} {l:List ag},Q0 vs=some l->l.length=vs.length/\∀(i:Nat)(c:ag)(v:Value),l[i]?=some c->vs[i]?=some v->fS w iz c v
 | [],l,h=>by
  grind [Q0]
 |v::r,l,h=>by
  simp[Q0] at h;rw[dy] at h;obtain⟨x,hx,h⟩:=h;rw[dy] at h;obtain⟨l',hl,h⟩:=h;cases h;obtain⟨h1,h2⟩:=HZ hl;refine⟨ka,fun i c u hc hu=>?_⟩
  cases i with
  |zero =>
   simp at hc hu; subst hc; subst hu;unfold abJ at hx
   split at hx<;>first
    |(cases hx; first|exact .bool _|exact .int _ _|exact .str _|exact .raw _ rfl)
    |grind
  |succ i=>exact h2 i c u ka ka
theorem qF:∀ {vs:List Value} {l:List ag},th vs=some l->l.length=vs.length/\∀(i:Nat)(c:ag)(v:Value),l[i]?=some c->vs[i]?=some v->gn j M w c v
 | [],l,h=>by
  grind [th]
 |v::r,l,h=>by
  simp[th] at h;rw[dy] at h;obtain⟨x,hx,h⟩:=h;rw[dy] at h;obtain⟨l',hl,h⟩:=h;injection h with h; obtain⟨h1,h2⟩:=qF hl
  grind [H2]
theorem H0{v:Value}{x:ag}(h:Q1 v=some x):gn j M w x v:=by
 unfold Q1 at h;split at h
 ·rw[dy] at h;obtain⟨l,hl,h⟩:=h;cases h;obtain⟨h1,h2⟩:=qF hl;exact .agg aI fun i c v hc hv=>h2 i c v hc ka
 grind [H2]
theorem cR{bq:Env}{a:Act}(he:cn j M w bq a){x:Operand}{y:fZ}(h:eV x=some y):gn j M w (y.ev bq) (a.eval x):=by
 unfold eV at h;split at h
 ·cases h; exact he.at' _
 ·rw[dy] at h;obtain⟨z,hz,h⟩:=h;cases h;exact H0 hz
 ·cases h;exact .func (by rfl) fun i c v hc=>dv
 ·rename_i g;rw[dy] at h;obtain⟨vs,hg,h⟩:=h;rw[dy] at h;obtain⟨l,hl,h⟩:=h;cases h;obtain⟨h1,h2⟩:=HZ (w:=w) (iz:=oG j M w) hl;refine .jE (vs:=fun k=>(vs[k]?).getD undef) fun k c hk=>?_
  have hk':=aP hk;have hv:vs[k]?=some _:=ai aI;obtain⟨h3,h4⟩:=he.gl.g g _ k _ hg hv
  grind
theorem uo{bq:Env}{a:Act}(he:cn j M w bq a):∀ {xs:List Operand} {ys:List fZ},vr xs=some ys ->
  ys.length=xs.length/\∀(i:Nat)(y:fZ)(x:Operand),ys[i]?=some y->xs[i]?=some x->gn j M w (y.ev bq) (a.eval x)
 | [],ys,h=>by
  grind [vr]
 |x::r,ys,h=>by
  simp[vr] at h;rw[dy] at h;obtain⟨y,hy,h⟩:=h;rw[dy] at h;obtain⟨l,hl,h⟩:=h;injection h with h; obtain⟨h1,h2⟩:=uo he hl
  grind [cR]
def gn.jD{b:Bool}{v:Value}(h:gn j M w (.bool b) v):v = .bool b:=by cases h with|plain h=>cases h; rfl
def gn.fX{k:IntKind}{n:Int}{v:Value}(h:gn j M w (.int k n) v):v = .int k n:=by cases h with|plain h=>cases h; rfl
def gn.kG{s:List UInt8}{v:Value}(h:gn j M w (.str s) v):v = .string (bs s):=by cases h with|plain h=>cases h; rfl
theorem gn.ng{cs:List ag}{v:Value}(h:gn j M w (.agg cs) v):∃vs,v = .agg vs/\cs.length=vs.size/\∀(i:Nat)(c:ag)(u:Value),cs[i]?=some c->vs[i]?=some u->gn j M w c u:=by
 cases h with
 |plain h=>cases h
 |agg hl h=>grind
theorem gn.tN{cs:List ag}{v:Value}(h:gn j M w (.tuple cs) v):∃vs,v = .tuple vs/\cs.length=vs.size/\∀(i:Nat)(c:ag)(u:Value),cs[i]?=some c->vs[i]?=some u->gn j M w c u:=by
 cases h with
 |plain h=>cases h
 |tuple hl h=>grind
theorem gn.rz{f:Nat}{cs:List ag}{v:Value}(h:gn j M w (.func f cs) v):∃vs,v = .func (.func f) #[] vs/\cs.length=vs.size/\∀(i:Nat)(c:ag)(u:Value),cs[i]?=some c->vs[i]?=some u->gn j M w c u:=by
 cases h with
 |plain h=>cases h
 |func hl h=>grind
theorem gn.qt{id off:Nat}{v:Value}(h:gn j M w (.ptr id off) v):∃b,id<M.length/\(∃cs,M[id]?=some (.cells cs))/\j id=some b/\v = .pointer (some ⟨b,off,none⟩):=by
 cases h with
 |plain h=>cases h
 |ptr h1 h2 h3=>grind
theorem gn.vG{id:Nat}{v:Value}(h:gn j M w (.iy id) v):∃b,(∃ks vs,M[id]?=some (.map ks vs))/\j id=some b/\v = .map (some b):=by
 cases h with
 |plain h=>cases h
 |iy h1 h2=>grind
theorem gn.DX{id:Nat}{v:Value}(h:gn j M w (.j8 id) v):∃b,(∃s p,M[id]?=some (.oa s p))/\j id=some b/\v = .pointer (some ⟨b,0,none⟩):=by
 cases h with
 |plain h=>cases h
 |j8 h1 h2=>grind
theorem gn.Hq{f:Nat}{fs:List ag}{v:Value}(h:gn j M w (.ra f fs) v):∃vs:Array Value,v = .func (.func f) vs #[]/\fs.length=vs.size/\∀(i:Nat)(c:ag)(v:Value),fs[i]?=some c->vs[i]?=some v->CD w (oG j M w) c v:=by
 cases h with
 |plain h=>cases h
 |ra hl h=>grind
theorem gn.Jf{t id off:Nat}{v:Value}(h:gn j M w (.ky t id off) v):∃b:Nat,(∃cs,M[id]?=some (.cells cs))/\j id=some b/\v = .iface t (.pointer (some ⟨b,off,none⟩)):=by
 cases h with
 |plain h=>cases h
 |ky h1 h2=>grind
def gn.IQ{ks vs:List ag}{v:Value}(h:gn j M w (.kl ks vs) v):∃(b:Nat) (es:Array MapEntry) (clock:Nat),v = .map (some b)/\w.heap[b]?=some (.map es clock)/\ks.length=es.size/\vs.length=es.size /\
  (∀(i:Nat)(k:ag)(e:MapEntry),ks[i]?=some k->es[i]?=some e->fS w (oG j M w) k e.key)/\∀(i:Nat)(v:ag)(e:MapEntry),vs[i]?=some v->es[i]?=some e->CD w (oG j M w) v e.val:=by
 cases h with
 |plain h=>cases h
 |kl hb hf hx hw hk hv hks hvs=>exact⟨_,_,_,rfl,hw,hk,hv,hks,hvs⟩
def gn.nn{id ver sz lo hi:Nat}{v:Value}(h:gn j M w (.cz id ver sz lo hi) v):((∃b off c,v = .slice (some ⟨b,off,none⟩) (hi-lo) c/\hi-lo<=c)\/hi-lo=0/\∃A,v = .slice A 0 0)/\id<M.length/\(∀bx,M[id]?=some bx->bx.loose=true) /\
  ∀sz' v' xs,M[id]?=some (.arr sz' v' xs)->ver<=v'/\(v'=ver->sz'=sz/\lo<=hi/\hi<=xs.length/\((xs=[]/\j id=none/\∃A,v = .slice A 0 0)\/∃b cap vs t,j id=some b/\v = .slice (some ⟨b,lo*sz,none⟩) (hi-lo) cap/\hi-lo<=cap/\w.heap[b]?=some (.cells vs t (0,0))/\(lo+cap)*sz<=vs.size)):=by
 cases h with
 |plain h=>cases h
 |cz h0 h1 h2 h3=>exact⟨h0,h1,h2,h3⟩
theorem gn.zD{id ver sz lo hi:Nat}{v:Value}(h:gn j M w (.cz id ver sz lo hi) v):∃A cap,v = .slice A (hi-lo) cap:=by
 rcases h.nn.1 with ⟨b,off,c,e,_⟩|⟨e,A,e'⟩
 ·grind
 grind
def gn.Yg{id ver sz lo hi:Nat}{v:Value}(h:gn j M w (.cz id ver sz lo hi) v)(hne:lo<hi):∃b off c,v = .slice (some ⟨b,off,none⟩) (hi-lo) c/\hi-lo<=c :=
 h.nn.1.resolve_right fun e=>aI
def gn.sB{id ver i off:Nat}{v:Value}(h:gn j M w (.jv id ver i off) v):(∃b o,v = .pointer (some ⟨b,o,none⟩))/\id<M.length/\(∀bx,M[id]?=some bx->bx.loose=true) /\
  ∀sz v' xs,M[id]?=some (.arr sz v' xs)->ver<=v'/\(v'=ver->i<xs.length/\∃b,j id=some b/\v = .pointer (some ⟨b,i*sz+off,none⟩)):=by
 cases h with
 |plain h=>cases h
 |jv h0 h1 h2 h3=>exact⟨h0,h1,h2,h3⟩
def gn.uu{cs:List ag}{v:Value}(h:gn j M w (.jE cs) v):∃(b off:Nat) (vs:Nat->Value),v = .pointer (some ⟨b,off,none⟩) /\
  ∀(k:Nat)(c:ag),cs[k]?=some c->w.cell? ⟨b,off+k,none⟩=some (vs k)/\oG j M w b (off+k)/\fS w (oG j M w) c (vs k):=by
 cases h with
 |plain h=>cases h
 | @jE _ b off vs h=>exact⟨b,off,vs,rfl,h⟩
def fS.nil(iz:Nat->Nat->Prop)(A:Option Addr)(cap:Nat):fS w iz (.slice .sh []) (.slice A 0 cap) :=
 .slice _ A 0 _ 0 0 0 (fun _=>undef) rfl (cQ _) (fun h=>absurd rfl h) (fun x h=>ka) (fun i x k c h=>ka) (fun i x k c h=>ka)
def gn.ep{tk:Tk}{xs:List ag}{v:Value}(h:gn j M w (.slice tk xs) v):fS w (oG j M w) (.slice .sh xs) v:=by
 cases h with
 |plain h=>cases h with|slice=>exact .slice _ _ _ _ _ _ _ _ aI aI aI aI aI aI
 |c0 A=>simp[fS.nil]
 |own _ _ h _=>omega
def fS.ep{iz:Nat->Nat->Prop}{xs:List ag}{v:Value}(h:fS w iz (.slice .sh xs) v):∃(A:Option Addr) (cap b off sz:Nat) (vs:Nat->Value),v = .slice A xs.length cap/\xs.length<=cap/\(xs≠[]->A=some ⟨b,off,none⟩) /\
  (∀x,x∈xs->x.cells.length=sz)/\(∀(i:Nat)(x:ag)(k:Nat)(c:ag),xs[i]?=some x->x.cells[k]?=some c->w.cell? ⟨b,off+(i*sz+k),none⟩=some (vs (i*sz+k))/\iz b (off+(i*sz+k))) /\
  (∀(i:Nat)(x:ag)(k:Nat)(c:ag),xs[i]?=some x->x.cells[k]?=some c->fS w iz c (vs (i*sz+k))):=by
 cases h with
 |slice _ A len cap b off sz vs hl hc ha hz hs hr=>subst hl; exact⟨A,cap,b,off,sz,vs,rfl,hc,ha,hz,hs,hr⟩
end
def rj(P:Program)(o:Oper)(a:Act)(w:World)(v:Value)(w':World):Prop :=
 (execOp a.eval o).run P w = .ok (.value v) w'\/((execOp a.eval o).run P w = .ok .skip w'/\v=undef)
theorem bf{α β:Type}{x:Option α}{f:α->Option β}{y:β}(h:x.bind f=some y):∃a,x=some a/\f a=some y:=by
 cases x<;>grind
section
variable {P:Program} {C:eR} {o:Oper} {bq:Env} {M:aC} {j:J} {w:World} {a:Act} {x:ag×aC}
def dY{t:TypeId}{d:TypeDesc}(h:P.underlying t=some d):(underlying t).run P w = .ok d w:=by simp[underlying,h]
def pY{t:TypeId}{i:TypeInfo}(h:P.info? t=some i):(typeInfo t).run P w = .ok i w:=by simp[typeInfo,h]
theorem EK{t:TypeId}{n:Nat}(h:qE P t=some n):∃i,P.info? t=some i/\i.size=n:=by
 obtain⟨i,h1,h2⟩:=bf h
 grind
def jr{t:TypeId}{n:Nat}(h:qE P t=some n):(sizeOf t).run P w = .ok n w:=by
 obtain⟨i,h1,h2⟩:=EK h;simp_all [sizeOf,pY]
def lO{t:TypeId}{g:Bool}(h:CE P t=some g):(isAgg t).run P w = .ok g w:=by
 obtain⟨d,h1,h2⟩:=bf h;injection h2 with h2
 subst h2;simp[isAgg,dY h1];cases d<;>rfl
def lY(b off n:Nat):(⟨b,off,none⟩:Addr).add n=⟨b,off+n,none⟩:=by
 simp[Addr.add]
def Af(hr:Rel j M w)(he:cn j M w bq a){y:Operand}{z:fZ}(hop:o.op = .move y\/o.op = .assign y)(hz:eV y=some z)(h:ec C bq M (.mv z)=some x) :
  ∃v w',rj P o a w v w'/\iU j M w x v w':=by
 cases h;exact⟨a.eval y,w,.inl (by rcases hop with hop|hop<;>simp[execOp,hop]),.still hr (cR he hz)⟩
theorem aaX(hr:Rel j M w)(he:cn j M w bq a){c p q:Operand}{c' p' q':fZ}(hop:o.op = .pick c p q)(hc:eV c=some c')(hp:eV p=some p')(hq:eV q=some q')
  (h:ec C bq M (.pick c' p' q')=some x):∃v w',rj P o a w v w'/\iU j M w x v w':=by
 simp[ec] at h;have h1:=cR he hc;split at h
 ·rename_i t ht;rw[ht] at h1;have h1:=h1.jD;rcases lM h with ⟨rfl,h⟩|⟨rfl,h⟩<;>(cases h)
  ·exact⟨a.eval p,w,.inl (by simp_all [execOp,asBool]),.still hr (cR he hp)⟩
  ·exact⟨a.eval q,w,.inl (by simp_all [execOp,asBool]),.still hr (cR he hq)⟩
 grind
theorem aho(hr:Rel j M w)(he:cn j M w bq a){y:Operand}{z:fZ}(hop:o.op = .nilCheck y)(hz:eV y=some z)(h:ec C bq M (.chk z)=some x) :
  ∃v w',rj P o a w v w'/\iU j M w x v w':=by
 simp[ec] at h;have h1:=cR he hz;split at h
 ·rename_i id off e;cases h;rw[e] at h1;obtain⟨b,_,_,_,hv⟩:=h1.qt;exact⟨_,w,.inl (by simp_all [execOp]),.still hr (hv▸h1)⟩
 ·rename_i cs e;cases h;rw[e] at h1;obtain⟨b,off,vs,hv,_⟩:=h1.uu;exact⟨_,w,.inl (by simp_all [execOp]),.still hr (hv▸h1)⟩
 ·rename_i f caps e;cases h;rw[e] at h1;obtain⟨vs,hv,_⟩:=h1.rz;exact⟨_,w,.inl (by simp_all [execOp]),.still hr (hv▸h1)⟩
 ·rename_i id v0 i off e;cases h;rw[e] at h1;obtain⟨⟨b,q,hv⟩,_⟩:=h1.sB;exact⟨_,w,.inl (by simp_all [execOp]),.still hr (hv▸h1)⟩
 grind
theorem ahq(hr:Rel j M w)(he:cn j M w bq a){y:Operand}{z:fZ}{t:TypeId}(hop:o.op = .unOp .not t y)(hz:eV y=some z)(h:ec C bq M (.not z)=some x) :
  ∃v w',rj P o a w v w'/\iU j M w x v w':=by
 simp[ec] at h;have h1:=cR he hz;split at h
 ·rename_i b e;cases h;rw[e] at h1;exact⟨_,w,.inl (by simp[execOp,hop,h1.jD]; rfl),.still hr (.plain (.bool _))⟩
 grind
theorem ahp(hr:Rel j M w)(he:cn j M w bq a){y:Operand}{z:fZ}{t:TypeId}(hop:o.op = .unOp .neg t y)(hz:eV y=some z)(h:ec C bq M (.neg z)=some x) :
  ∃v w',rj P o a w v w'/\iU j M w x v w':=by
 simp only[ec] at h;have h1:=cR he hz;split at h
 ·rename_i k n e;cases h;rw[e] at h1;exact⟨_,w,.inl (by simp only[execOp,hop,h1.fX]; rfl),.still hr (.plain (.int _ _))⟩
 grind
theorem aaP(hr:Rel j M w)(he:cn j M w bq a){y:Operand}{z:fZ}{s d:TypeId}{k0 k:IntKind}(hop:o.op = .convert s d y)(hs:P.underlying s=some (.int k0))(hd:P.underlying d=some (.int k))
  (hz:eV y=some z) (h:ec C bq M (.conv k z)=some x):∃v w',rj P o a w v w'/\iU j M w x v w':=by
 simp[ec] at h;have h1:=cR he hz;split at h
 ·rename_i k1 n e;cases h;rw[e] at h1;refine⟨.int k _,w,.inl ?_,.still hr (.plain (.int _ _))⟩;simp[execOp,hop,convert,dY hs,dY hd,h1.fX,Conv.intToInt]
 grind
theorem aaZ(hr:Rel j M w)(he:cn j M w bq a){y:Operand}{z:fZ}{s d:TypeId}(hop:o.op = .convert s d y)(hs:P.underlying s=some .string)(hd:P.underlying d=some .string)
  (hz:eV y=some z) (h:ec C bq M (.same z)=some x):∃v w',rj P o a w v w'/\iU j M w x v w':=by
 simp[ec] at h;have h1:=cR he hz;split at h
 ·rename_i l e;cases h;rw[e] at h1;refine⟨.string _,w,.inl ?_,.still hr (.plain (.str _))⟩;simp[execOp,hop,convert,dY hs,dY hd,h1.kG]
 grind
theorem ant(hr:Rel j M w)(he:cn j M w bq a){f:Nat}{first caps:Array Operand}{zs:List fZ}(hop:o.op = .makeFunc (.func f) first caps)(hf:first.isEmpty=true)(hz:vr caps.toList=some zs)
  (h:ec C bq M (.fn f zs)=some x):∃v w',rj P o a w v w'/\iU j M w x v w':=by
 cases h;obtain⟨h1,h2⟩:=uo he hz;have hf':first = #[]:=ka
 refine⟨.func _ _ (caps.map a.eval),w,.inl ?_,.still hr (.func ka fun i c v hc hv=>?_)⟩
 ·simp[execOp,hop,Instr.makeFunc,hf']
 grind
theorem L3(hr:Rel j M w)(he:cn j M w bq a){y:Operand}{z:fZ}{i:Nat}(hop:o.op = .extract y i)(hz:eV y=some z)(h:ec C bq M (.extract z i)=some x) :
  ∃v w',rj P o a w v w'/\iU j M w x v w':=by
 simp[ec] at h;have h1:=cR he hz;split at h
 ·rename_i vs e;obtain⟨c,hc,h⟩:=bp h;cases h;rw[e] at h1;obtain⟨us,hv,hl,hu⟩:=h1.tN;rw[fc] at hc;have hi:=aP hc;have hui:us[i]?=some _:=bh aI;exact⟨_,w,.inl (by simp[execOp,hop,Instr.extract,hv,hui]),.still hr (hu i c _ hc hui)⟩
 grind
theorem aaS(hr:Rel j M w)(he:cn j M w bq a){c:Call}{y:Operand}{z:fZ}{t:TypeId}(hop:o.op = .call c)(hb:c.callee = .builtin .len)(ha:c.args.toList=[y])
  (ht:c.argTypes[0]?=some t) (hs:P.underlying t=some .string) (hz:eV y=some z) (h:ec C bq M (.Vx z)=some x):∃v w',rj P o a w v w'/\iU j M w x v w':=by
 simp only[ec] at h;have h1:=cR he hz;split at h
 ·rename_i l e;cases h;rw[e] at h1;have ha':c.args = #[y]:=by rw[<-ha]
  refine⟨.int .i64 _,w,.inl ?_,.still hr (.plain (.int _ _))⟩;have hsz:(bs l).size=l.length:=by rfl
  simp[execOp,hop,resolve,hb,invoke,builtin,Builtin.len_,ha',ht,dY hs,h1.kG,goInt,hsz]
 grind
theorem aaT(hr:Rel j M w)(he:cn j M w bq a){c:Call}{y:Operand}{z:fZ}{t e:TypeId}(hop:o.op = .call c)(hb:c.callee = .builtin .len)(ha:c.args.toList=[y])
  (ht:c.argTypes[0]?=some t) (hs:P.underlying t=some (.slice e)) (hz:eV y=some z) (h:ec C bq M (.z7 z)=some x):∃v w',rj P o a w v w'/\iU j M w x v w':=by
 simp only[ec] at h;have h1:=cR he hz;split at h
 ·rename_i tk l e;cases h;rw[e] at h1;have ha':c.args = #[y]:=by rw[<-ha]
  obtain⟨A,cap,b,off,sz,vs,hv,_⟩:=h1.ep.ep;refine⟨.int .i64 l.length,w,.inl ?_,.still hr (.plain (.int _ _))⟩;simp[execOp,hop,resolve,hb,invoke,builtin,Builtin.len_,ha',ht,dY hs,hv,goInt]
 ·rename_i id v0 sz lo hi e;cases h;rw[e] at h1;have ha':c.args = #[y]:=by rw[<-ha]
  obtain⟨A,cap,hv⟩:=h1.zD;refine⟨.int .i64 (hi-lo:Nat),w,.inl ?_,.still hr (.plain (.int _ _))⟩;simp[execOp,hop,resolve,hb,invoke,builtin,Builtin.len_,ha',ht,dY hs,hv,goInt]
 grind
theorem Gi(hr:Rel j M w)(he:cn j M w bq a){c:Call}{y y':Operand}{z z':fZ}{mx:Bool}(hop:o.op = .call c)(hb:c.callee = .builtin (if mx then .max else .min))(ha:c.args.toList=[y,y'])
  (hz:eV y=some z) (hz':eV y'=some z') (h:ec C bq M (.Bp mx z z')=some x):∃v w',rj P o a w v w'/\iU j M w x v w':=by
 simp only[ec] at h;have h1:=cR he hz;have h2:=cR he hz';split at h
 ·rename_i k n k' n' e e';cases h;rw[e] at h1;rw[e'] at h2;have ha':c.args = #[y,y']:=by rw[<-ha]
  refine⟨_,w,.inl ?_,.still hr (.plain (.int _ _))⟩;cases mx
  ·simp[execOp,hop,resolve,hb,invoke,builtin,Builtin.min_,Builtin.min2,ha',h1.fX,h2.fX,List.foldlM]
  ·simp[execOp,hop,resolve,hb,invoke,builtin,Builtin.max_,Builtin.max2,ha',h1.fX,h2.fX]
 grind
theorem PV(hr:Rel j M w)(he:cn j M w bq a){y i:Operand}{z z':fZ}{t:TypeId}(hop:o.op = .index t y i)(ht:P.underlying t=some .string)(hz:eV y=some z)(hz':eV i=some z')
  (h:ec C bq M (.Be z z')=some x):∃v w',rj P o a w v w'/\iU j M w x v w':=by
 simp only[ec] at h;have h1:=cR he hz;have h2:=cR he hz';split at h
 ·rename_i l k n e e';obtain⟨hn,h⟩:=dg h;obtain⟨b,hb,h⟩:=bp h;cases h;rw[e] at h1;rw[e'] at h2;refine⟨.int .u8 b.toNat,w,.inl ?_,.still hr (.plain (.int _ _))⟩
  have hg:(bs l)[n.toNat]?=some b:=by
   have cL:=aP hb;have:n.toNat<(bs l).size:=by simp_all [bs,ByteArray.size]
   rw[getElem?_pos (bs l) n.toNat this];congr 1
   have h3:l[n.toNat]=b:=by
    have:=ai cL
    grind
   exact h3
  simp[execOp,hop,Instr.index,asIntOf,dY ht,h1.kG,h2.fX,hn,hg]
 ·cases h
theorem PS(hr:Rel j M w)(he:cn j M w bq a){y:Operand}{z:fZ}{s:TypeId}{fs:Array Field}{f:Field}{i:Nat}(hop:o.op = .field s y i)(hs:P.underlying s=some (.struct fs))(hf:fs[i]?=some f)
  (hg:CE P f.type=some false) (hz:eV y=some z) (h:ec C bq M (.DD f.offset z)=some x):∃v w',rj P o a w v w'/\iU j M w x v w':=by
 simp[ec] at h;have h1:=cR he hz;split at h
 ·rename_i cs e;obtain⟨c,hc,h⟩:=bp h;cases h;rw[e] at h1;obtain⟨us,hv,hl,hu⟩:=h1.ng;rw[fc] at hc;have hi:=aP hc;have hui:us[f.offset]?=some _:=bh aI;refine⟨_,w,.inl ?_,.still hr (hu _ c _ hc hui)⟩;simp[execOp,hop,Instr.field,dY hs,hf,asAgg,hv,part,lO hg,hui]
 grind
theorem PT(hr:Rel j M w)(he:cn j M w bq a){y:Operand}{z:fZ}{s:TypeId}{fs:Array Field}{f:Field}{i n:Nat}(hop:o.op = .field s y i)(hs:P.underlying s=some (.struct fs))(hf:fs[i]?=some f)
  (hg:CE P f.type=some true) (hn:qE P f.type=some n) (hz:eV y=some z) (h:ec C bq M (.DE f.offset n z)=some x):∃v w',rj P o a w v w'/\iU j M w x v w':=by
 simp only[ec] at h;have h1:=cR he hz;split at h
 ·rename_i cs e;split at h
  ·cases h;rw[e] at h1;obtain⟨us,hv,hl,hu⟩:=h1.ng;refine⟨.agg (us.extract f.offset (f.offset+n)),w,.inl ?_,.still hr (.agg ka fun p c u hc hu'=>?_)⟩
   ·simp[execOp,hop,Instr.field,dY hs,hf,asAgg,hv,part,lO hg,jr hn]
   grind
  ·cases h
 ·cases h
theorem Wl(hr:Rel j M w)(he:cn j M w bq a){y:Operand}{z:fZ}{s:TypeId}{fs:Array Field}{f:Field}{i:Nat}(hop:o.op = .fieldAddr s y i)(hs:P.underlying s=some (.struct fs))(hf:fs[i]?=some f)
  {n:Nat} (hn:qE P f.type=some n) (hpos:0<n) (hz:eV y=some z) (h:ec C bq M (.yA f.offset z)=some x):∃v w',rj P o a w v w'/\iU j M w x v w':=by
 simp only[ec] at h;have h1:=cR he hz
 have hrun:∀b off,a.eval y = .pointer (some ⟨b,off,none⟩)->(execOp a.eval o).run P w = .ok (.value (.pointer (some ⟨b,off+f.offset,none⟩))) w:=by
  intro b off hv;have hne:n≠0:=aI;simp[execOp,hop,Instr.fieldAt,dY hs,hf,Instr.sureAddr,hv,fieldPlace,jr hn,hne,lY]
 split at h
 ·rename_i id off e;cases h;rw[e] at h1;obtain⟨b,h2,h3,h4,hv⟩:=h1.qt;exact⟨_,w,.inl (hrun _ _ hv),.still hr (.ptr h2 h3 h4)⟩
 ·rename_i cs e;cases h;rw[e] at h1;obtain⟨b,off,vs,hv,hc⟩:=h1.uu;refine⟨_,w,.inl (hrun _ _ hv),.still hr (.jE (vs:=fun k=>vs (f.offset+k)) fun k c hk=>?_)⟩
  rw[cI] at hk;have:=hc _ c hk;rw[Nat.add_assoc];omega
 ·rename_i id v0 i0 o0 e;cases h;rw[e] at h1;obtain⟨⟨b,q,hv⟩,h2,h3,h4⟩:=h1.sB;refine⟨_,w,.inl (hrun _ _ hv),.still hr (.jv ⟨_,_,rfl⟩ h2 h3 fun sz v' xs hM=>?_)⟩
  grind
 grind
end
theorem Yx(l:List UInt8):∀(n i:Nat)(acc:List UInt8),i+n=l.length->ByteArray.toList.loop (bs l) i acc=acc.reverse++l.drop i:=by
 intro n;induction n with
 |zero =>
  simp_all [bs,ByteArray.size,ByteArray.toList.loop]
 |succ n ih =>
  intro i acc h;have hs:(bs l).size=l.length:=by rfl
  rw[ByteArray.toList.loop,aX aI]
  grind [bs,ByteArray.get!,List.reverse_cons,List.append_assoc,List.singleton_append,List.drop_eq_getElem_cons]
def vq(l:List UInt8):(bs l).toList=l:=by
 rw[ByteArray.toList,Yx l l.length 0 _ dv]; rfl
def MA(l:List UInt8):(bs l).size=l.length:=by rfl
def J9:∀a b:List UInt8,Op.bytesLess a b=strLt a b
 | [],[]=>rfl
 | [],_::_=>rfl
 |_::_,[]=>rfl
 |a::x,b::y=>by simp[Op.bytesLess,strLt,J9 x y]
def yT(a:List UInt8)(l h:Nat):(bs a).extract l h=bs ((a.take h).drop l):=by
 apply ByteArray.ext;simp[bs,List.drop_take]
section
variable {P:Program} {C:eR} {o:Oper} {bq:Env} {M:aC} {j:J} {w:World} {a:Act} {x:ag×aC}
def Pj(op:BinOp)(t:TypeId)(y z:Operand)(k k':IntKind)(m n:Int):(eqGuard op t y z (.int k m) (.int k' n)).run P w = .ok () w:=by
 simp[eqGuard]
def Pk(op:BinOp)(t:TypeId)(y z:Operand)(m n:ByteArray):(eqGuard op t y z (.string m) (.string n)).run P w = .ok () w:=by
 simp[eqGuard]
def DR(op:BinOp)(t:TypeId)(y z:Operand)(m n:Bool):(eqGuard op t y z (.bool m) (.bool n)).run P w = .ok () w:=by
 simp[eqGuard]
theorem Yr{op:BinOp}{b:N9}(hb:OI op=some b){t:TypeId}{k k':IntKind}{m n:Int}{r:ag}(h:p9 b (.int k m) (.int k' n)=some r) :
  ∃v,(binOp op t (.int k m) (.int k' n)).run P w = .ok v w/\fS w (oG j M w) r v:=by
 cases op<;>simp only[OI,reduceCtorEq,gd] at hb<;>subst hb<;>simp only[p9] at h
 case shl =>
  split at h
  ·rename_i hn;cases h;exact⟨_,by simp[binOp,Op.shift,Int.not_lt.2 hn],.int _ _⟩
  ·cases h
 case shr =>
  split at h
  ·rename_i hn;cases h;exact⟨_,by simp[binOp,Op.shift,Int.not_lt.2 hn],.int _ _⟩
  grind
 case quo =>
  split at h
  ·cases h
  ·rename_i hk;split at h
   ·cases h
   ·rename_i hn;cases h;have hk:k=k':=ka;subst hk;exact⟨_,by simp[binOp,Op.intDiv,hn],.int _ _⟩
 case rem =>
  split at h
  ·cases h
  ·rename_i hk;split at h
   ·cases h
   ·rename_i hn;cases h;have hk:k=k':=ka;subst hk;exact⟨_,by simp[binOp,Op.intDiv,hn],.int _ _⟩
 case and =>
  split at h
  ·cases h
  ·rename_i hk;cases h;have hk:k=k':=ka;subst hk;exact⟨_,by simp[binOp,Op.intBits]; rfl,.int _ _⟩
 case or =>
  split at h
  ·grind
  ·rename_i hk;cases h;have hk:k=k':=ka;subst hk;exact⟨_,by simp[binOp,Op.intBits]; rfl,.int _ _⟩
 case andNot =>
  split at h
  ·grind
  ·rename_i hk;cases h;have hk:k=k':=ka;subst hk;exact⟨.int k (Hf k m n),by simp[binOp,Op.intBits,Hf],.int _ _⟩
 all_goals
  split at h
  ·cases h
  ·rename_i hk;cases h;have hk:k=k':=by simpa using hk
   subst hk
   first
    |exact⟨_,by simp[binOp,Op.intArith],.int _ _⟩
    |exact⟨_,by simp[binOp,Op.intCmp],.bool _⟩
theorem Yt{op:BinOp}{b:N9}(hb:OI op=some b){t:TypeId}{m n:List UInt8}{r:ag}(h:p9 b (.str m) (.str n)=some r) :
  ∃v,(binOp op t (.string (bs m)) (.string (bs n))).run P w = .ok v w/\fS w (oG j M w) r v:=by
 cases op<;>simp only[OI,reduceCtorEq,gd] at hb<;>subst hb<;>simp only[p9,reduceCtorEq] at h
 case add =>
  split at h
  ·grind
  ·cases h;refine⟨.string (bs m++bs n),?_,by exact .str _⟩
   simp_all [binOp,Op.stringOp,MA,aL]
 all_goals
  cases h;exact⟨_,by simp only[binOp,Op.stringOp,vq,J9]; rfl,.bool _⟩
def Wc(hr:Rel j M w)(he:cn j M w bq a){op:BinOp}{b:N9}{y y':Operand}{z z':fZ}{t t':TypeId}(hop:o.op = .binOp op t y y' t')(hb:OI op=some b)(hz:eV y=some z)(hz':eV y'=some z')
  (h:ec C bq M (.bin b z z')=some x):∃v w',rj P o a w v w'/\iU j M w x v w':=by
 simp only[ec] at h;have h1:=cR he hz;have h2:=cR he hz';obtain⟨r,hr',h⟩:=bp h;cases h;generalize hu:z.ev bq=u at *;generalize hu':z'.ev bq=u' at *;cases u<;>cases u'<;>try (simp[p9] at hr'; done)
 ·rename_i k m k' n;obtain⟨v,hv,hp⟩:=Yr (P:=P) (w:=w) (j:=j) (M:=M) (t:=t) hb hr';exact⟨v,w,.inl (by simp[execOp,hop,h1.fX,h2.fX,Pj,hv]),.still hr (.plain hp)⟩
 ·rename_i m n;obtain⟨v,hv,hp⟩:=Yt (P:=P) (w:=w) (j:=j) (M:=M) (t:=t) hb hr';exact⟨v,w,.inl (by simp[execOp,hop,h1.kG,h2.kG,Pk,hv]),.still hr (.plain hp)⟩
theorem Wj(hr:Rel j M w)(he:cn j M w bq a){neg:Bool}{y y':Operand}{z z':fZ}{t t':TypeId}(hop:o.op = .binOp (if neg then .neq else .eql) t y y' t')(ht:P.underlying t=some .bool)
  (hz:eV y=some z) (hz':eV y'=some z') (h:ec C bq M (.eqB neg z z')=some x):∃v w',rj P o a w v w'/\iU j M w x v w':=by
 simp only[ec] at h;have h1:=cR he hz;have h2:=cR he hz';split at h
 ·rename_i m n e e';cases h;rw[e] at h1;rw[e'] at h2
  have heq:(Op.equal t (.bool m) (.bool n)).run P w = .ok (m==n) w:=by
   unfold Op.equal;rw[show Op.maxDepth=9999+1 from rfl,Op.equalIn]
   simp[dY ht]
  cases neg
  ·exact⟨.bool (m==n),w,.inl (by simp[execOp,hop,h1.jD,h2.jD,DR,binOp,heq]),.still hr (.plain (.bool _))⟩
  ·exact⟨.bool (!(m==n)),w,.inl (by simp[execOp,hop,h1.jD,h2.jD,DR,binOp,heq]),.still hr (.plain (.bool _))⟩
 grind
theorem qV{bq:Env}{a:Act}(he:cn j M w bq a){y:Operand}{z:fZ}(hz:eV y=some z){n:Nat}{i:Int}(h:gz bq n (some z)=some i){m:Nat}(h0:0<=i)(h1:i<=m)(code:BoundsCode) :
  (Instr.sliceBound (a.eval y) m code).run P w = .ok i.toNat w:=by
 unfold gz at h;have h2:=cR he hz;simp at h;split at h
 ·rename_i k i' e;cases h;rw[e] at h2;simp[Instr.sliceBound,h2.fX,asIntOf,h0,h1]
 grind
theorem qH{y:Option Operand}{z:Option fZ}(h:yU y=some z):(y=none/\z=none)\/∃y' z',y=some y'/\z=some z'/\eV y'=some z':=by
 cases y with
 |none=>grind [yU]
 |some y =>
  obtain⟨z',h1,h2⟩:=bf h
  grind
def vY{bq:Env}{a:Act}(he:cn j M w bq a){lo hi:Option Operand}{lo' hi':Option fZ}(hlo:yU lo=some lo')(hhi:yU hi=some hi'){len cap:Nat}{l h:Int}
  (h1:gz bq len hi'=some h) (h2:gz bq 0 lo'=some l) (hh0:0<=h) (hh:h<=len) (hl0:0<=l) (hl:l<=h) (hc:len<=cap) (isS:Bool) :
  (Instr.sliceBounds isS len cap (lo.map a.eval) (hi.map a.eval) none).run P w = .ok (l.toNat,h.toNat,cap) w:=by
 unfold Instr.sliceBounds;rcases qH hhi with ⟨rfl,rfl⟩|⟨y,z,rfl,rfl,hz⟩<;>rcases qH hlo with ⟨rfl,rfl⟩|⟨y',z',rfl,rfl,hz'⟩
 ·simp[gz] at h1 h2; subst h1; subst h2; rfl
 ·simp[gz] at h1; subst h1;have:=qV (P:=P) he hz' h2 hl0 aI .sliceB;simp_all
 ·simp[gz] at h2; subst h2;have:=qV (P:=P) he hz h1 hh0 (m:=cap) aI (if isS then .sliceAcap else .sliceAlen)
  simp_all
 ·have t1:=qV (P:=P) he hz h1 hh0 (m:=cap) aI (if isS then .sliceAcap else .sliceAlen)
  have t2:=qV (P:=P) he hz' h2 hl0 (m:=h.toNat) aI .sliceB;simp_all
theorem PW(hr:Rel j M w)(he:cn j M w bq a){y:Operand}{lo hi:Option Operand}{z:fZ}{lo' hi':Option fZ}{t:TypeId}(hop:o.op = .slice t y lo hi none)(ht:P.underlying t=some .string)
  (hz:eV y=some z) (hlo:yU lo=some lo') (hhi:yU hi=some hi') (h:ec C bq M (.BC z lo' hi')=some x):∃v w',rj P o a w v w'/\iU j M w x v w':=by
 simp[ec] at h;have h1:=cR he hz;split at h
 ·rename_i s e;obtain⟨hh,h2,h⟩:=bp h;obtain⟨l,h3,h⟩:=bp h;obtain⟨⟨c1,c2,c3,c4⟩,h⟩:=dg h;cases h;rw[e] at h1;have hb:=vY (P:=P) he hlo hhi h2 h3 c1 c2 c3 c4 (av _) false;refine⟨.string _,w,.inl ?_,.still hr (.plain (.str _))⟩;simp[execOp,hop,Instr.sliceAt,dY ht,Instr.slice,h1.kG,MA,hb,yT]
 grind
theorem fS.part{iz:Nat->Nat->Prop}{xs:List ag}{A:Option Addr}{cap m l h n:Nat}(hx:fS w iz (.slice .sh xs) (.slice A xs.length cap))(hw:wid xs n)(hl:l<=h)(hh:h<=xs.length)(hm:h<=m) :
  fS w iz (.slice .sh ((xs.take h).drop l)) (.slice (if m=l then A else A.map (·.add (l*n))) (h-l) (m-l)):=by
 obtain⟨A',cap',b,off,sz,vs,hv,hc,ha,hz,hs,hrp⟩:=hx.ep;injection hv with e1 e2 e3
 subst e1; subst e3;have dD:((xs.take h).drop l).length=h-l:=by simp_all
 refine .slice _ _ _ _ b (off+l*sz) sz (fun p=>vs (l*sz+p)) dD.symm aI (fun hne=>?_) (fun x hx=>hz x (dM (dx hx))) (fun i x k c hi hk=>?_) (fun i x k c hi hk=>?_)
 ·have:0<h-l:=by
   rw[<-dD]; exact gP.2 hne
  rw[aL aI];have hne':xs≠[]:=ka;rw[ha hne']
  have:n=sz:=by
   obtain⟨x,r,rfl⟩:=fj hne';rw[<-hw x dv,hz x dv]
  simp[lY,this]
 ·grind
 grind
theorem aaQ(hr:Rel j M w)(he:cn j M w bq a){y:Operand}{lo hi mx:Option Operand}{z hi':fZ}{t e:TypeId}{n:Nat}(hop:o.op = .slice t y lo hi mx)(ht:P.underlying t=some (.slice e))
  (hn:qE P e=some n) (hz:eV y=some z) (hlo:yU lo=some none) (hhi:yU hi=some (some hi')) (hmx:yU mx=some none)
  (h:ec C bq M (.OX n z hi')=some x):∃v w',rj P o a w v w'/\iU j M w x v w':=by
 simp only[ec] at h;have h1:=cR he hz;split at h
 ·rename_i id v0 sz' al ah k hh ez eh;obtain⟨⟨hsz,ha,c1,c2⟩,h⟩:=dg h;cases h;subst hsz; subst ha;rw[ez] at h1;obtain⟨hs0,g1,g2,g3⟩:=h1.nn
  obtain⟨A,cap,hv,hc,hA⟩:∃A cap,a.eval y = .slice A (ah-0) cap/\ah-0<=cap/\(0<ah-0->∃b off,A=some ⟨b,off,none⟩):=by
   grind
  obtain⟨b,off,rfl⟩:=hA aI;rcases qH hmx with ⟨rfl,_⟩|⟨_,_,_,hx,_⟩
  case inr=>cases hx
  have h2:gz bq (ah-0) (some hi')=some hh:=by simp[gz,eh]
  have hb:=vY (P:=P) he hlo hhi (cap:=cap) h2 (l:=0) (by simp[gz]) c1 aI (dN _) c1 hc true
  rw[bK] at hb
  have hrun:(execOp a.eval o).run P w = .ok (.value (.slice (some ⟨b,off,none⟩) hh.toNat cap)) w:=by
   simp[execOp,hop,Instr.sliceAt,dY ht,Instr.slice,hv,hb,jr hn,lY,show cap≠0 by omega]
  refine⟨_,w,.inl hrun,.still hr ?_⟩;refine .cz (.inl ⟨b,off,cap,dv,aI⟩) g1 g2 fun sz v' xs hM=>?_
  obtain⟨k1,k2⟩:=g3 sz v' xs hM;refine⟨k1,fun hev=>?_⟩
  obtain⟨l0,l1,l2,⟨rfl,_⟩|⟨b',cap',vs,t',l3,l4,l5,l6,l7⟩⟩:=k2 hev
  ·simp at l2; omega
  rw[hv] at l4;injection l4 with l4 l4' l4''
  injection l4 with l4; injection l4 with e1 e2 e3
  subst e1; subst e2; subst l4'';exact⟨l0,aI,aI,.inr ⟨b,cap,vs,t',l3,dv,aI,l6,l7⟩⟩
 ·cases h
theorem Gj(hr:Rel j M w)(he:cn j M w bq a){y:Operand}{lo hi mx:Option Operand}{z:fZ}{lo' hi' mx':Option fZ}{t e:TypeId}{n:Nat}(hop:o.op = .slice t y lo hi mx)(ht:P.underlying t=some (.slice e))
  (hn:qE P e=some n) (hz:eV y=some z) (hlo:yU lo=some lo') (hhi:yU hi=some hi') (hmx:yU mx=some mx') (hmh:mx'.isNone=true\/hi'.isSome=true)
  (h:ec C bq M (.uv n z lo' hi' mx')=some x):∃v w',rj P o a w v w'/\iU j M w x v w':=by
 simp only[ec] at h;have h1:=cR he hz;split at h
 ·rename_i tk xs ez;obtain⟨hw,h⟩:=dg h;obtain⟨hh,h2,h⟩:=bp h;obtain⟨l,h3,h⟩:=bp h;rw[ez] at h1;have hp:=h1.ep;obtain⟨A,cap,b,off,sz,vs,hv,hc,_⟩:=hp.ep;rw[hv] at hp;rcases qH hmx with ⟨rfl,rfl⟩|⟨my,mz,rfl,rfl,hmz⟩
  ·simp only at h;obtain⟨⟨c1,c2,c3,c4⟩,h⟩:=dg h;cases h;have hb:=vY (P:=P) he hlo hhi (cap:=cap) h2 h3 c1 c2 c3 c4 hc true;refine⟨_,w,.inl ?_,.still hr (.plain (hp.part (m:=cap) (l:=l.toNat) (h:=hh.toNat) hw aI aI aI))⟩;simp[execOp,hop,Instr.sliceAt,dY ht,Instr.slice,hv,hb,jr hn]
  ·simp only at h;split at h
   ·rename_i mk m em;obtain⟨⟨c0,c0',c1,c2,c3,c4⟩,h⟩:=dg h;have hm:=cR he hmz;rw[em] at hm
    have hmr:(Instr.sliceBound (a.eval my) cap .slice3Acap).run P w = .ok m.toNat w:=by
     simp[Instr.sliceBound,hm.fX,asIntOf,c0,show m<=cap by omega]
    have hbs:(Instr.sliceBounds true xs.length cap (lo.map a.eval) (hi.map a.eval) (some (a.eval my))).run P w = .ok (l.toNat,hh.toNat,m.toNat) w:=by
     unfold Instr.sliceBounds;rcases qH hhi with ⟨rfl,rfl⟩|⟨hy,hz',rfl,rfl,hhz⟩
     ·simp at hmh
     ·have t1:=qV (P:=P) he hhz h2 c1 (m:=m.toNat) aI .slice3B;rcases qH hlo with ⟨rfl,rfl⟩|⟨y',z',rfl,rfl,hz'⟩
      ·simp[gz] at h3; subst h3;simp[hmr,t1]
      ·have t2:=qV (P:=P) he hz' h3 c3 (m:=hh.toNat) aI .slice3C;simp[hmr,t1,t2]
    have hrun:(execOp a.eval o).run P w = .ok (.value (.slice (if m.toNat=l.toNat then A else A.map (·.add (l.toNat*n))) (hh.toNat-l.toNat) (m.toNat-l.toNat))) w:=by
     simp[execOp,hop,Instr.sliceAt,dY ht,Instr.slice,hv,hbs,jr hn]
    rcases lM h with ⟨hm0,h⟩|⟨hm0,h⟩<;>(cases h)
    ·have hm0:m=0:=by simpa using hm0
     subst hm0;have e1:hh=0:=aI;have e2:l=0:=aI;subst e1; subst e2;exact⟨_,w,.inl hrun,.still hr (.c0 _)⟩
    ·exact⟨_,w,.inl hrun,.still hr (.plain (hp.part (m:=m.toNat) hw aI aI aI))⟩
   ·cases h
 ·rename_i id v0 sz' al ah ez;obtain⟨hsz,h⟩:=dg h;subst hsz;obtain⟨hh,h2,h⟩:=bp h;obtain⟨l,h3,h⟩:=bp h;rw[ez] at h1;obtain⟨hs0,g1,g2,g3⟩:=h1.nn
  obtain⟨A,cap,hv,hc,hA⟩:∃A cap,a.eval y = .slice A (ah-al) cap/\ah-al<=cap/\(0<ah-al->∃b off,A=some ⟨b,off,none⟩):=by
   grind
  have key:∀m:Nat,m<=cap->0<=l->l<hh->hh<=m->hh<=(ah-al:Nat)->gn j M w (.cz id v0 sz' (al+l.toNat) (al+hh.toNat)) (.slice (A.map (·.add (l.toNat*sz'))) (hh.toNat-l.toNat) (m-l.toNat)):=by
   intro m hmc hl0 hlh hhm hha;obtain⟨b,off,rfl⟩:=hA aI;simp only[dL,lY];have e0:al+hh.toNat-(al+l.toNat)=hh.toNat-l.toNat:=aI;have e6:hh.toNat-l.toNat<=m-l.toNat:=by clear g3 g2 h1 hv; omega
   have e7:al+l.toNat+(m-l.toNat)<=al+cap:=aI;have e8:al+l.toNat<=al+hh.toNat:=aI;have e9:al+hh.toNat<=ah:=by clear g3 g2 h1 hv; omega
   refine .cz (.inl ⟨b,off+l.toNat*sz',m-l.toNat,by rw[e0],by rw[e0]; exact e6⟩) g1 g2 fun sz v' xs hM=>?_
   obtain⟨k1,k2⟩:=g3 sz v' xs hM;refine⟨k1,fun hev=>?_⟩
   obtain⟨l0,l1,l2,⟨rfl,_⟩|⟨b',cap',vs,t',l3,l4,l5,l6,l7⟩⟩:=k2 hev
   ·simp at l2; omega
   rw[hv] at l4;injection l4 with l4 l4' l4''
   injection l4 with l4; injection l4 with e1 e2 e3
   subst e1; subst e2; subst l4'';exact⟨l0,e8,aZ e9 l2,.inr ⟨b,m-l.toNat,vs,t',l3,by rw[e0,bP],by rw[e0]; exact e6,l6,aZ (bd _ e7) l7⟩⟩
  rcases qH hmx with ⟨rfl,rfl⟩|⟨my,mz,rfl,rfl,hmz⟩
  ·simp only at h;obtain⟨⟨c1,c2,c3,c4⟩,h⟩:=dg h;have hb:=vY (P:=P) he hlo hhi (cap:=cap) h2 h3 c1 c2 c3 c4 hc true
   have hrun:(execOp a.eval o).run P w = .ok (.value (.slice (if cap=l.toNat then A else A.map (·.add (l.toNat*sz'))) (hh.toNat-l.toNat) (cap-l.toNat))) w:=by
    simp[execOp,hop,Instr.sliceAt,dY ht,Instr.slice,hv,hb,jr hn]
   rcases lM h with ⟨hm0,h⟩|⟨hm0,h⟩<;>(cases h)
   ·have:l=hh:=by simpa using hm0
    subst this;refine⟨_,w,.inl hrun,.still hr (.plain ?_)⟩;rw[Nat.sub_self];exact fS.nil _ _ _
   ·have:l≠hh:=by simpa using hm0
    rw[aL aI] at hrun;exact⟨_,w,.inl hrun,.still hr (key cap (av _) c3 aI aI c2)⟩
  ·simp only at h;split at h
   ·rename_i mk m em;obtain⟨⟨c0,c0',c1,c2,c3,c4⟩,h⟩:=dg h;have hm:=cR he hmz;rw[em] at hm
    have hmr:(Instr.sliceBound (a.eval my) cap .slice3Acap).run P w = .ok m.toNat w:=by
     simp[Instr.sliceBound,hm.fX,asIntOf,c0,show m<=cap by omega]
    have hbs:(Instr.sliceBounds true (ah-al) cap (lo.map a.eval) (hi.map a.eval) (some (a.eval my))).run P w = .ok (l.toNat,hh.toNat,m.toNat) w:=by
     unfold Instr.sliceBounds;rcases qH hhi with ⟨rfl,rfl⟩|⟨hy,hz',rfl,rfl,hhz⟩
     ·simp at hmh
     ·have t1:=qV (P:=P) he hhz h2 c1 (m:=m.toNat) aI .slice3B;rcases qH hlo with ⟨rfl,rfl⟩|⟨y',z',rfl,rfl,hz'⟩
      ·simp[gz] at h3; subst h3;simp[hmr,t1]
      ·have t2:=qV (P:=P) he hz' h3 c3 (m:=hh.toNat) aI .slice3C;simp[hmr,t1,t2]
    have hrun:(execOp a.eval o).run P w = .ok (.value (.slice (if m.toNat=l.toNat then A else A.map (·.add (l.toNat*sz'))) (hh.toNat-l.toNat) (m.toNat-l.toNat))) w:=by
     simp[execOp,hop,Instr.sliceAt,dY ht,Instr.slice,hv,hbs,jr hn]
    rcases lM h with ⟨hm0,h⟩|⟨hm0,h⟩
    ·cases h;have hm0:m=0:=by simpa using hm0
     subst hm0;have e1:hh=0:=aI;have e2:l=0:=aI;subst e1; subst e2;exact⟨_,w,.inl hrun,.still hr (.c0 _)⟩
    ·rcases lM h with ⟨hm1,h⟩|⟨hm1,h⟩<;>(cases h)
     ·have:l=hh:=by simpa using hm1
      subst this;refine⟨_,w,.inl hrun,.still hr (.plain ?_)⟩;rw[Nat.sub_self];exact fS.nil _ _ _
     ·have:l≠hh:=by simpa using hm1
      rw[aL aI] at hrun;exact⟨_,w,.inl hrun,.still hr (key m.toNat aI c3 aI aI aI)⟩
   ·cases h
 ·cases h
theorem Wm(hr:Rel j M w)(he:cn j M w bq a){y i:Operand}{z z':fZ}{t e:TypeId}{n:Nat}(hop:o.op = .indexAddr t y i)(ht:P.underlying t=some (.slice e))(hn:qE P e=some n)
  (hz:eV y=some z) (hz':eV i=some z') (h:ec C bq M (.ue n z z')=some x):∃v w',rj P o a w v w'/\iU j M w x v w':=by
 simp only[ec] at h;have h1:=cR he hz;have h2:=cR he hz';split at h
 ·rename_i tk xs k m ez ez';obtain⟨h0,h⟩:=dg h;obtain⟨el,hel,h⟩:=bp h;split at h
  ·rename_i hwd;cases h;rw[ez] at h1;rw[ez'] at h2;obtain⟨A,cap,b,off,sz,vs,hv,hc,ha,hsz,hs,hrp⟩:=h1.ep.ep;have cL:=aP hel;have hne:xs≠[]:=by rintro rfl; simp at cL
   have hA:=ha hne;have hsz':sz=n:=by rw[<-hwd]; exact(hsz el (aK hel)).symm
   subst hsz';subst hA;refine⟨.pointer (some ⟨b,off+m.toNat*sz,none⟩),w,.inl ?_,.still hr (.jE (vs:=fun q=>vs (m.toNat*sz+q)) fun q c hq=>?_)⟩
   ·have hm:m<xs.length:=aI;simp[execOp,hop,Instr.indexAt,dY ht,hv,h2.fX,asIntOf,h0,hm,jr hn,lY]
   grind
  ·cases h
 ·rename_i id v0 sz' lo hi k m ez ez';obtain⟨⟨h0,hm,hsz⟩,h⟩:=dg h;cases h;subst hsz;rw[ez] at h1;rw[ez'] at h2;have hlt0:lo+m.toNat<hi:=aI;obtain⟨b,off,cap,hv,hcap⟩:=h1.Yg aI;obtain⟨_,g1,g2,g3⟩:=h1.nn;refine⟨.pointer (some ⟨b,off+m.toNat*sz',none⟩),w,.inl ?_,.still hr (.jv ⟨_,_,rfl⟩ g1 g2 fun sz v' xs hM=>?_)⟩
  ·simp[execOp,hop,Instr.indexAt,dY ht,hv,h2.fX,asIntOf,h0,hm,jr hn,lY]
  ·obtain⟨k1,k2⟩:=g3 sz v' xs hM;refine⟨k1,fun he=>?_⟩
   obtain⟨rfl,l1,l2,⟨rfl,_⟩|⟨b',cap',vs,t',l3,l4,l5,l6,l7⟩⟩:=k2 he
   ·exact absurd (bz hlt0 l2) dv
   rw[hv] at l4
   grind [Nat.lt_of_lt_of_le,Nat.add_mul]
 ·cases h
def Ho(b off:Nat)(u:Nat->Value):∀(n i:Nat)(acc:Array Value),(∀k,k<n->w.cell? ⟨b,off+(i+k),none⟩=some (u (i+k))) ->
  (loadCellsFrom ⟨b,off,none⟩ i n acc).run P w = .ok (acc++((List.range n).map fun k=>u (i+k)).toArray) w:=by
 intro n;induction n with
 |zero=>simp[loadCellsFrom]
 |succ n ih =>
  intro i acc h;have h0:=h 0 dv;simp_all [loadCellsFrom,lY,List.range_succ_eq_map,Function.comp_def,Nat.add_comm,Nat.add_left_comm]
theorem o9(b off n:Nat)(u:Nat->Value)(h:∀k,k<n->w.cell? ⟨b,off+k,none⟩=some (u k)) :
  (loadCells ⟨b,off,none⟩ n).run P w = .ok (((List.range n).map u).toArray) w:=by
 have:=Ho (P:=P) (w:=w) b off u n 0 #[] ka
 grind [loadCells]
theorem xb{id b:Nat}{cs:List ag}(hr:Rel j M w)(hM:M[id]?=some (.cells cs))(hj:j id=some b):∃vs t,w.heap[b]?=some (.cells vs t (0,0))/\cs.length=vs.size /\
  (∀(q:Nat)(c:ag)(v:Value),cs[q]?=some c->vs[q]?=some v->gn j M w c v)/\∀q,w.cell? ⟨b,q,none⟩=vs[q]?:=by
 obtain⟨b',vs,t,h1,h2,h3,h4⟩:=hr.box _ _ hM
 grind [World.cell?]
theorem H9(hr:Rel j M w){id ver i off sz:Nat}{xs:List ag}{v:Value}{el:ag}(hM:M[id]?=some (.arr sz ver xs))(h:gn j M w (.jv id ver i off) v)(hel:xs[i]?=some el) :
  ∃b,v = .pointer (some ⟨b,i*sz+off,none⟩)/\∀(k:Nat)(c:ag),el.cells[off+k]?=some c->∃u,w.cell? ⟨b,i*sz+off+k,none⟩=some u/\fS w (oG j M w) c u:=by
 obtain⟨_,_,_,g⟩:=h.sB;obtain⟨g1,b,g2,g3⟩:=(g _ _ _ hM).2 rfl;obtain⟨b',vs,t,k1,k2,k3,k4,k5⟩:=hr.yQ hM g2
 grind [World.cell?]
theorem Wp(hr:Rel j M w)(he:cn j M w bq a){y:Operand}{z:fZ}{t:TypeId}(hop:o.op = .load t y)(hg:CE P t=some false)(hz:eV y=some z)(h:ec C bq M (.rD z)=some x) :
  ∃v w',rj P o a w v w'/\iU j M w x v w':=by
 simp only[ec] at h;have h1:=cR he hz;split at h
 ·rename_i id off e;rw[e] at h1;obtain⟨b,_,_,hj,hv⟩:=h1.qt;rw[fc] at h;split at h
  ·rename_i cs hM;obtain⟨c,hc,h⟩:=bp h;cases h;rw[fc] at hc;obtain⟨vs,t0,hw,hl,hcs,hcell⟩:=xb hr hM hj;have cL:=aP hc;have hu:vs[off]?=some (vs[off]'(by omega)):=bh aI;refine⟨_,w,.inl ?_,.still hr (hcs _ c _ hc hu)⟩;simp[execOp,hop,Instr.loadAt,Instr.sureAddr,hv,loadVar,lO hg,hcell,hu]
  grind
 ·rename_i cs e;rw[e] at h1;obtain⟨b,off,vs,hv,hc⟩:=h1.uu;obtain⟨c,hc0,h⟩:=bp h;cases h;rw[fc] at hc0;obtain⟨h2,_,h3⟩:=hc 0 c hc0;refine⟨_,w,.inl ?_,.still hr (.plain h3)⟩;simp_all [execOp,Instr.loadAt,Instr.sureAddr,loadVar,lO]
 ·rename_i id ver i off e;rw[e] at h1;rw[fc] at h;split at h
  ·rename_i sz v0 xs hM;split at h
   ·rename_i hv0;subst hv0;obtain⟨el,hel,h⟩:=bp h;obtain⟨c,hc,h⟩:=bp h;cases h;rw[fc] at hc;obtain⟨b,hv,hcell⟩:=H9 hr hM h1 hel;obtain⟨u,l1,l2⟩:=hcell 0 c aI;refine⟨u,w,.inl ?_,.still hr (.plain l2)⟩;simp_all [execOp,Instr.loadAt,Instr.sureAddr,loadVar,lO]
   grind
  ·cases h
 grind
theorem Wq(hr:Rel j M w)(he:cn j M w bq a){y:Operand}{z:fZ}{t:TypeId}{n:Nat}(hop:o.op = .load t y)(hg:CE P t=some true)(hn:qE P t=some n)(hz:eV y=some z)
  (h:ec C bq M (.mR n z)=some x):∃v w',rj P o a w v w'/\iU j M w x v w':=by
 simp only[ec] at h;have h1:=cR he hz;split at h
 ·rename_i id off e;rw[e] at h1;obtain⟨b,_,_,hj,hv⟩:=h1.qt;rw[fc] at h;split at h
  ·rename_i cs hM;split at h
   ·rename_i hle;cases h;obtain⟨vs,t0,hw,hl,hcs,hcell⟩:=xb hr hM hj
    have hrun:=o9 (P:=P) (w:=w) b off n (fun k=>(vs[off+k]?).getD undef) fun k hk=>by
     rw[hcell,bh aI]; simp
    refine⟨_,w,.inl (by simp[execOp,hop,Instr.loadAt,Instr.sureAddr,hv,loadVar,lO hg,jr hn,hrun]; rfl),.still hr (.agg ka fun p c u hc hu=>?_)⟩
    grind
   ·cases h
  ·cases h
 ·rename_i cs e;split at h
  ·rename_i hle;cases h;rw[e] at h1;obtain⟨b,off,vs,hv,hc⟩:=h1.uu;have hrun:=o9 (P:=P) (w:=w) b off n vs fun k hk=>(hc k _ (ai aI)).1
   refine⟨_,w,.inl (by simp[execOp,hop,Instr.loadAt,Instr.sureAddr,hv,loadVar,lO hg,jr hn,hrun]; rfl),.still hr (.agg gm fun p c u hc' hu=>?_)⟩
   have hp:p<n:=by have:=aP hc'; simp_all
   rw[bH hp] at hc';have hu':u=vs p:=by simp_all
   subst hu';exact .plain (hc p c hc').2.2
  ·cases h
 ·rename_i id ver i off e;rw[e] at h1;rw[fc] at h;split at h
  ·rename_i sz v0 xs hM;split at h
   ·rename_i hv0;subst hv0;obtain⟨el,hel,h⟩:=bp h;split at h
    ·rename_i hle;cases h;obtain⟨b,hv,hcell⟩:=H9 hr hM h1 hel
     have hrun:=o9 (P:=P) (w:=w) b (i*sz+off) n (fun k=>(w.cell? ⟨b,i*sz+off+k,none⟩).getD undef) fun k hk=>by
      obtain⟨u,l1,_⟩:=hcell k _ (ai aI);rw[l1]; rfl
     refine⟨_,w,.inl (by simp[execOp,hop,Instr.loadAt,Instr.sureAddr,hv,loadVar,lO hg,jr hn,hrun]; rfl),.still hr (.agg gm fun p c u hc' hu=>?_)⟩
     have hp:p<n:=by have:=aP hc'; simp at this; omega
     rw[bH hp,cI] at hc';obtain⟨u',l1,l2⟩:=hcell p c hc';have hu':u=(w.cell? ⟨b,i*sz+off+p,none⟩).getD undef:=by simp_all
     rw[l1] at hu';subst hu';exact .plain l2
    ·cases h
   ·cases h
  ·cases h
 ·cases h
end
section
variable {P:Program} {C:eR} {o:Oper} {bq:Env} {M:aC} {j:J} {w:World} {a:Act} {x:ag×aC}
def tE{y:ag}{v:Value}{cs:List ag}(h:gn j M w y v)(hc:y.cells?=some cs):RC j M w cs v.cells:=by
 cases y<;>simp only[ag.cells?,gd,reduceCtorEq] at hc
 case agg cs' =>
  subst hc;obtain⟨vs,rfl,h1,h2⟩:=h.ng;exact⟨h1,h2⟩
 case raw u =>
  cases h with
  |plain h =>
   cases h with
   |raw _ h1 =>
    cases v<;>simp at hc<;>subst hc <;>
     exact⟨rfl,fun i c v hc hv=>by
      cases i with
      |zero=>simp[Value.cells] at hc hv; subst hc; subst hv; exact .plain (.raw _ h1)
      |succ i=>simp at hc⟩
 all_goals
  subst hc
  have hv:v.cells = #[v]:=by
   first
    |(have:=h.jD; subst this; rfl)
    |(have:=h.fX; subst this; rfl)
    |(have:=h.kG; subst this; rfl)
    |(obtain⟨A,cap,b,off,sz,vs,e,_⟩:=h.ep.ep; subst e; rfl)
    |(obtain⟨b,_,_,_,e⟩:=h.qt; subst e; rfl)
    |(obtain⟨b,off,vs,e,_⟩:=h.uu; subst e; rfl)
    |(obtain⟨vs,e,_⟩:=h.rz; subst e; rfl)
    |(obtain⟨b,_,_,e⟩:=h.vG; subst e; rfl)
    |(obtain⟨b,_,_,e⟩:=h.DX; subst e; rfl)
    |(obtain⟨b,es,cl,e,_⟩:=h.IQ; subst e; rfl)
    |(obtain⟨_,_,e⟩:=h.zD; subst e; rfl)
    |(obtain⟨⟨_,_,e⟩,_⟩:=h.sB; subst e; rfl)
    |(obtain⟨_,e,_⟩:=h.Hq; subst e; rfl)
    |(obtain⟨_,_,_,e⟩:=h.Jf; subst e; rfl)
  rw[hv]
  exact⟨rfl,fun i c u hc hu=>by
   cases i with
   |zero=>simp at hc hu; subst hc; subst hu; exact h
   |succ i=>simp at hc⟩
theorem Dq{c:ag}{v:Value}(h:gn j M w c v)(hc:c.jf=true):v.oneCell'=true:=by
 cases c<;>simp only[ag.jf,af] at hc
 case bool=>have:=h.jD; subst this; rfl
 case int=>have:=h.fX; subst this; rfl
 case str=>have:=h.kG; subst this; rfl
 case slice=>obtain⟨A,cap,b,off,sz,vs,e,_⟩:=h.ep.ep; subst e; rfl
 case ptr=>obtain⟨b,_,_,_,e⟩:=h.qt; subst e; rfl
 case jE=>obtain⟨b,off,vs,e,_⟩:=h.uu; subst e; rfl
 case func=>obtain⟨vs,e,_⟩:=h.rz; subst e; rfl
 case iy=>obtain⟨b,_,_,e⟩:=h.vG; subst e; rfl
 case j8=>obtain⟨b,_,_,e⟩:=h.DX; subst e; rfl
 case kl=>obtain⟨b,es,cl,e,_⟩:=h.IQ; subst e; rfl
 case cz=>obtain⟨_,_,e⟩:=h.zD; subst e; rfl
 case jv=>obtain⟨⟨_,_,e⟩,_⟩:=h.sB; subst e; rfl
 case ra=>obtain⟨_,e,_⟩:=h.Hq; subst e; rfl
 case ky=>obtain⟨_,_,_,e⟩:=h.Jf; subst e; rfl
 case raw u =>
  cases h with
  |plain h=>cases h<;>grind
theorem Hr(hr:Rel j M w){cs:List ag}{vs:Array Value}(hc:RC j M w cs vs)(t:TypeId) :
  iU j M w (.ptr M.length 0,M++[.cells cs]) (.pointer (some ⟨w.heap.size,0,none⟩)) { w with heap:=w.heap.push (.cells vs t (0,0)) }:=by
 have q:Quiet w { w with heap:=w.heap.push (.cells vs t (0,0)) }:=⟨dv,rfl,rfl,rfl⟩
 have hb:∀b,b<w.heap.size->({ w with heap:=w.heap.push (.cells vs t (0,0)) }:World).heap[b]?=w.heap[b]?:=fun b hb=>by
  grind
 have hn:({ w with heap:=w.heap.push (.cells vs t (0,0)) }:World).heap[w.heap.size]?=some (.cells vs t (0,0)):=dv
 refine⟨gF j _ (some w.heap.size),hr.push (fun b h=>?_) q hb (fun _=>?_) (fun sz n b h=>ka),Ext.push (fun b h=>?_) q hb,.ptr dv ⟨cs,dv⟩ (by simp[gF])⟩
 ·grind
 ·exact⟨_,rfl,fun j' M' hx=>⟨vs,t,hn,hc.1,fun i c v h1 h2=>(hc.2 i c v h1 h2).mono hx⟩⟩
 grind
def ahn(hr:Rel j M w)(he:cn j M w bq a){y:Operand}{z:fZ}{t:TypeId}(hop:o.op = .box t y)(hz:eV y=some z)(h:ec C bq M (.box z)=some x) :
  ∃v w',rj P o a w v w'/\iU j M w x v w':=by
 obtain⟨cs,hc,h⟩:=bp h;cases h;exact⟨_,_,.inl (by simp_all [execOp,Instr.box,newVar,newRow]),Hr hr (tE (cR he hz) hc) t⟩
def NC(hr:Rel j M w){t:TypeId}{i:TypeInfo}{zv:Value}{l:List ag}(hop:o.op = .alloc t)(hi:P.info? t=some i)(hzv:i.zero=some zv)(hl:th zv.cells.toList=some l)
  (h:ec C bq M (.yR l)=some x):∃v w',rj P o a w v w'/\iU j M w x v w':=by
 cases h;obtain⟨h1,h2⟩:=qF hl;refine⟨_,_,.inl (by simp[execOp,hop,Instr.alloc,zeroValue,pY hi,hzv]; rfl),Hr hr ⟨aI,fun i c v hc hv=>h2 i c v hc ka⟩ t⟩
def Wu(hr:Rel j M w)(he:cn j M w bq a){y:Operand}{z:fZ}{n:Nat}(hop:o.op = .assign y)(hz:eV y=some z)(h:ec C bq M (.own n z)=some x) :
  ∃v w',rj P o a w v w'/\iU j M w x v w':=by
 simp only[ec] at h;split at h
 ·rename_i ez;cases h;have h1:=cR he hz;rw[ez] at h1;have q:Quiet w w:=⟨av _,rfl,rfl,rfl⟩
  obtain⟨A,hA⟩:∃A,a.eval y = .slice A 0 0:=by
   generalize a.eval y=v at h1;cases h1 with
   |plain h=>cases h
   |c0 A=>simp
  refine⟨a.eval y,w,.inl (by simp_all [execOp]),gF j M.length none,?_⟩
  rw[hA];unfold P5 P4;split
  ·refine⟨hr.push (ob:=none) (fun b h=>by cases h) q (fun _ _=>rfl) (fun h=>by cases h) (fun sz n b h h'=>by cases h') (fun sz ver xs h=>by injection h with e1 e2 e3; exact .inl ⟨e3.symm,rfl⟩),Ext.push (fun b h=>by cases h) q (fun _ _=>rfl),?_⟩
   refine .cz (.inr ⟨rfl,A,rfl⟩) dv (fun bx hbx=>by rw[kh] at hbx; cases hbx; rfl) fun sz' v' zs hx=>?_
   rw[kh] at hx; injection hx with hx; injection hx with e1 e2 e3
   subst e1; subst e2; subst e3;exact⟨av _,fun _=>⟨rfl,av _,av _,.inl ⟨rfl,by simp[gF],A,rfl⟩⟩⟩
  ·refine⟨hr.push (fun b h=>ka) q (fun _ _=>rfl) (fun h=>by cases h) (fun sz n b h h'=>ka),Ext.push (fun b h=>ka) q (fun _ _=>rfl),?_⟩
   exact .own (sz:=n) dv dv (fS.nil _ _ _) fun _ => .inl ⟨by simp[gF],rfl,A,rfl⟩
 ·exact Af (C:=C) hr he (.inr hop) hz h
def px(w:World)(b:Nat):Nat->List Value->World
 |_,[]=>w
 |off,v::r=>px (w.setCell ⟨b,off,none⟩ v) b (off+1) r
def mG{b:Nat}{t:TypeId}:∀(l:List Value)(w:World)(off:Nat)(vs:Array Value),w.heap[b]?=some (.cells vs t (0,0))->off+l.length<=vs.size ->
  (px w b off l).heap.size=w.heap.size/\(px w b off l).os=w.os/\(px w b off l).tape=w.tape/\(px w b off l).output=w.output /\
  (∀b',b'≠b->(px w b off l).heap[b']?=w.heap[b']?) /\
  ∃vs',(px w b off l).heap[b]?=some (.cells vs' t (0,0))/\vs'.size=vs.size/\(∀p,p<off\/off+l.length<=p->vs'[p]?=vs[p]?)/\∀p,p<l.length->vs'[off+p]?=l[p]?:=by
 intro l;induction l with
 |nil=>intro w off vs h _; exact⟨rfl,rfl,rfl,rfl,fun _ _=>rfl,vs,h,rfl,fun _ _=>rfl,fun p hp=>by simp at hp⟩
 |cons v r ih =>
  intro w off vs h hle;simp only[au] at hle
  have hs:(w.setCell ⟨b,off,none⟩ v).heap[b]?=some (.cells (vs.setIfInBounds off v) t (0,0)):=by
   simp[World.setCell,gV,h]
  obtain⟨h1,h2,h3,h4,h5,vs',h6,h7,h8,h9⟩:=ih (w.setCell ⟨b,off,none⟩ v) (off+1) (vs.setIfInBounds off v) hs gm;refine⟨by simp only[px]; rw[h1]; simp[World.setCell],by simp only[px]; rw[h2]; rfl,by simp only[px]; rw[h3]; rfl,by simp only[px]; rw[h4]; rfl,fun b' hb'=>?_,vs',h6,by rw[h7]; simp,fun p hp=>?_,fun p hp=>?_⟩
  ·simp only[px];rw[h5 b' hb'];simp[World.setCell,gV,eS hb']
  ·simp only[au] at hp;rw[h8 p aI,fD aI]
  ·cases p with
   |zero =>
    have:vs'[off]?=(vs.setIfInBounds off v)[off]?:=h8 off aI;rw[db,this];simp[gZ];omega
   |succ p =>
    have:=h9 p (by simpa using hp)
    rw[show off+(p+1)=off+1+p by omega,this]
    simp
def nG{b:Nat}{t:TypeId}:∀(l:List Value)(w:World)(off i:Nat)(vs:Array Value),w.heap[b]?=some (.cells vs t (0,0))->off+i+l.length<=vs.size->(∀v,v∈l->v.oneCell'=true) ->
  (storeCells ⟨b,off,none⟩ l i).run P w = .ok () (px w b (off+i) l):=by
 intro l;induction l with
 |nil=>simp[storeCells,px]
 |cons v r ih =>
  intro w off i vs h hle hv;simp only[au] at hle
  have hs:(w.setCell ⟨b,off+i,none⟩ v).heap[b]?=some (.cells (vs.setIfInBounds (off+i) v) t (0,0)):=by
   simp[World.setCell,gV,h]
  have hc:w.cell? ⟨b,off+i,none⟩=some (vs[off+i]'(by omega)):=by
   simp[World.cell?,h]
  have hf:w.frozen? ⟨b,off+i,none⟩=false:=by simp[World.frozen?,h]
  have hi:=ih _ off (i+1) _ hs gm (fun u hu=>hv u (bw _ hu))
  simp[storeCells,lY,run_store P w _ v .plain (hv v _),hc,hf,aD,Result.andThen_ok,hi];rfl
theorem re{cs new:List ag}{off:Nat}(h:off+new.length<=cs.length)(p:Nat) :
  (mX cs off new)[p]?=if off<=p/\p<off+new.length then new[p-off]? else cs[p]?:=by
 grind [mX]
theorem uZ{cs new:List ag}{off:Nat}(h:off+new.length<=cs.length):(mX cs off new).length=cs.length:=by
 grind [mX]
theorem Av{c:ag}{v:Value}(h:gn j M w c v)(hp:c.shut.plainCell=true):fS w (oG j M w) c.shut v:=by
 cases c<;>simp[ag.shut,ag.plainCell] at hp ⊢
 case bool=>have:=h.jD; subst this; exact .bool _
 case int=>have:=h.fX; subst this; exact .int _ _
 case str=>have:=h.kG; subst this; exact .str _
 case slice=>exact h.ep
 case raw=>cases h<;>grind
theorem Co{c:ag}(h:c.shut.plainCell=true):c.jf=true:=by
 cases c<;>simp[ag.shut,ag.plainCell] at h<;>try rfl
 rename_i v;cases v<;>first|rfl|grind
def Hw{c:ag}(h:c.plainCell=true):c.cells=[c]:=by
 cases c<;>first|rfl|cases h
theorem Ex{e:ag}{off:Nat}{new:List ag}(h:off+new.length<=e.cells.length)(hp:new.all ag.plainCell=true):(putCells e off new).cells=mX e.cells off new:=by
 by_cases hag:∃cs,e = .agg cs
 ·obtain⟨cs,rfl⟩:=hag;cases new<;>rfl
 ·have h1:e.cells=[e]:=by cases e<;>first|rfl|grind
  rw[h1] at h ⊢
  match new,h,hp with
  | [],h,_ =>
   have:putCells e off []=e:=by cases e<;>first|rfl|grind
   rw[this,h1]
   match off,h with
   |0,_=>rfl
   |1,_=>rfl
  | [c],h,hp =>
   have:putCells e off [c]=c:=by cases e<;>first|rfl|grind
   have h0:off=0:=ka;subst h0;rw[this,Hw ka];rfl
  |_::_::_,h,_=>grind
theorem Em(hr:Rel j M w)(he:cn j M w bq a){y y':Operand}{z z':fZ}{t:TypeId}{n:Nat}(hop:o.op = .store t y y')(hn:qE P t=some n)(hz:eV y=some z)(hz':eV y'=some z')
  (h:ec C bq M (.store n z z')=some x):∃v w',rj P o a w v w'/\iU j M w x v w':=by
 simp only[ec] at h;have h1:=cR he hz;have h2:=cR he hz';split at h
 ·rename_i id off e;rw[e] at h1;obtain⟨b,_,_,hj,hv⟩:=h1.qt;rw[fc] at h;split at h
  ·rename_i cs hM;obtain⟨new,jw,h⟩:=bp h;split at h
   ·rename_i hcond;obtain⟨c1,c2,c3⟩:=hcond;cases h;obtain⟨vs,t0,hw,hl,hcs,hcell⟩:=xb hr hM hj;obtain⟨n1,n2⟩:=tE h2 jw
    have hone:∀v,v∈(a.eval y').cells.toList->v.oneCell'=true:=by
     intro v hv;obtain⟨p,hp,rfl⟩:=kf hv;have hp':p<(a.eval y').cells.size:=by simpa using hp
     have hpl:p<new.length:=aI;have hr':=n2 p _ _ (ai hpl) (bh hp');have:=Dq hr' (bN.1 c3 _ (js hpl));simpa using this
    have hrun:=nG (P:=P) (a.eval y').cells.toList w off 0 vs hw gm hone;obtain⟨s1,s2,s3,s4,s5,vs',s6,s7,s8,s9⟩:=mG (a.eval y').cells.toList w off vs hw gm;have q:Quiet w (px w b off (a.eval y').cells.toList):=⟨aI,s2,s3,s4⟩;have hle:off+new.length<=cs.length:=aI;rw[fe];refine⟨undef,px w b off (a.eval y').cells.toList,.inr ⟨?_,rfl⟩,j,Rel.store hM rfl rfl hj hr q (fun b' hb' _=>s5 b' hb') (fun vs0 t1 fr h=>by rw[hw] at h; grind) (fun j' M' hx=>⟨vs',t0,s6,by rw[uZ hle]; omega,fun p c v hc hv'=>gn.mono hx ?_⟩),Ext.store hM rfl rfl hj hr q (fun b' hb' _=>s5 b' hb') (fun vs0 t1 fr h=>by rw[hw] at h; grind),.any _⟩
    ·simp_all [db,execOp,Instr.storeAt,Instr.sureAddr,storeVar,jr]
    ·rw[re hle] at hc;split at hc
     ·rename_i hp;have h9:=s9 (p-off) gm;rw[show off+(p-off)=p by omega,hv'] at h9
      exact n2 (p-off) c v hc (by simpa using h9.symm)
     grind
   ·cases h
  ·cases h
 ·rename_i id ver i off e;rw[e] at h1;rw[fc] at h;split at h
  ·rename_i sz v0 xs hM;obtain⟨new,jw,h⟩:=bp h;obtain⟨el,hel,h⟩:=bp h;split at h
   ·rename_i hcond;obtain⟨hv0,c1,c2,c3⟩:=hcond;subst hv0;cases h;obtain⟨_,hid,_,hv⟩:=h1.sB;obtain⟨hi,b,hj,hv⟩:=(hv sz v0 xs hM).2 rfl;obtain⟨b',vs,t0,k1,hw,k3,k4,k5⟩:=hr.yQ hM hj;rw[hj] at k1; cases k1;have hsz:el.cells.length=sz:=k4 el (aK hel)
    have hbd:i*sz+sz<=vs.size:=by
     refine aZ ?_ k3
     calc i*sz+sz=(i+1)*sz:=by rw[bP]; omega
      _<=xs.length*sz:=bd _ hi
    obtain⟨n1,n2⟩:=tE h2 jw
    have hpl:∀(p:Nat)(c:ag),new[p]?=some c->c.shut.plainCell=true:=fun p c hc=>by
     rw[List.all_map,bN] at c3;exact c3 c (aK hc)
    have hone:∀v,v∈(a.eval y').cells.toList->v.oneCell'=true:=by
     intro v hv;obtain⟨p,hp,rfl⟩:=kf hv;have hp':p<(a.eval y').cells.size:=by simpa using hp
     have hpl':p<new.length:=aI;have hr':=n2 p _ _ (ai hpl') (bh hp');have:=Dq hr' (Co (hpl p _ (ai hpl')));simpa using this
    have hrun:=nG (P:=P) (a.eval y').cells.toList w (i*sz+off) 0 vs hw gm hone;obtain⟨s1,s2,s3,s4,s5,vs',s6,s7,s8,s9⟩:=mG (a.eval y').cells.toList w (i*sz+off) vs hw gm;have q:Quiet w (px w b (i*sz+off) (a.eval y').cells.toList):=⟨aI,s2,s3,s4⟩;have hle:off+(new.map ag.shut).length<=el.cells.length:=gm;have hput:=Ex hle c3
    have hw':∀vs0 t1,w.heap[b]?=some (.cells vs0 t1 (0,0))->∃vs1,(px w b (i*sz+off) (a.eval y').cells.toList).heap[b]?=some (.cells vs1 t1 (0,0))/\vs1.size=vs0.size:=fun vs0 t1 h=>by
     rw[hw] at h; grind
    rw[fe,fe];refine⟨undef,px w b (i*sz+off) (a.eval y').cells.toList,.inr ⟨?_,rfl⟩,j,Rel.Fq hM hj hr q (fun b' hb' _=>s5 b' hb') hw' (av _) (fun _=>dv) (fun j' M' hx=>⟨vs',t0,s6,gm,fun x hx'=>?_,fun p x k c hp hk=>?_⟩),Ext.Fq hM hj hr q (fun b' hb' _=>s5 b' hb') hw' (av _) (fun _=>dv),.any _⟩
    ·simp only[db] at hrun;simp[execOp,hop,Instr.storeAt,Instr.sureAddr,hv,storeVar,jr hn,show(a.eval y').cells.size=n by omega,hrun]
    ·rcases jG hx' with hx'|rfl
     ·exact k4 x hx'
     ·rw[hput,uZ hle,hsz]
    ·have dD:(a.eval y').cells.toList.length=n:=gm
     by_cases hpi:i=p
     ·subst hpi;rw[fa hi] at hp;cases hp;rw[hput,re hle] at hk;split at hk
      ·rename_i hin;simp only[ef] at hin;rw[aY,aV] at hk;obtain⟨c0,hc0,rfl⟩:=hk;have h9:=s9 (k-off) aI;rw[show i*sz+off+(k-off)=i*sz+k by omega] at h9
       have cL:k-off<(a.eval y').cells.size:=aI;have hu:(a.eval y').cells[k-off]?=some (a.eval y').cells[k-off]:=bh cL;exact⟨_,by rw[h9]; simp,(Av (n2 _ c0 _ hc0 hu) (hpl _ c0 hc0)).mono hx.iz⟩
      ·rename_i hin;simp only[ef] at hin;obtain⟨u,u1,u2⟩:=k5 i el k c hel hk;exact⟨u,by rw[s8 _ aI]; exact u1,u2.mono hx.iz⟩
     ·rw[eJ hpi] at hp;obtain⟨u,u1,u2⟩:=k5 p x k c hp hk;have hk':k<sz:=by rw[<-k4 x (aK hp)]; exact aP hk
      refine⟨u,(s8 _ ?_).trans u1,u2.mono hx.iz⟩;rcases bD p i with cL|hge
      ·left;have:=bd sz (show p+1<=i from cL)
       rw[bP] at this;omega
      ·right;have:=bd sz (show i+1<=p by omega)
       rw[bP] at this;omega
   ·cases h
  ·cases h
 ·cases h
end
def W7(off:Nat):∀(l:List Value)(k:Nat)(cells:Array Value),
  ((l.zipIdx k).foldl (fun(cs:Array Value) (x:Value×Nat)=>cs.setIfInBounds (off+x.2) x.1) cells).size=cells.size /\
  ∀p,((l.zipIdx k).foldl (fun(cs:Array Value) (x:Value×Nat)=>cs.setIfInBounds (off+x.2) x.1) cells)[p]? =
   if off+k<=p/\p<off+k+l.length/\p<cells.size then l[p-(off+k)]? else cells[p]?:=by
 intro l;induction l with
 |nil=>intro k cells; exact⟨rfl,fun p=>gm⟩
 |cons v r ih =>
  intro k cells;rw[List.zipIdx_cons,cF];obtain⟨h1,h2⟩:=ih (k+1) (cells.setIfInBounds (off+k) v);refine⟨by rw[h1]; simp,fun p=>?_⟩
  rw[h2];simp only[Array.size_setIfInBounds,au]
  by_cases c1:off+(k+1)<=p/\p<off+(k+1)+r.length/\p<cells.size
  ·rw[aX c1,aX aI,show p-(off+k)=(p-(off+(k+1)))+1 by omega]
   simp
  ·rw[aL c1]
   by_cases c2:p=off+k/\p<cells.size
   ·obtain⟨rfl,cL⟩:=c2;rw[aX aI];simp[gZ,cL]
   ·rw[aL aI]
    by_cases c3:p=off+k
    ·have:¬p<cells.size:=fun h=>c2 ⟨c3,h⟩
     rw[iq gm,iq aI]
    ·rw[fD aI]
def putRow(cells:Array Value)(off:Nat)(vs:Array Value):Array Value:=vs.zipIdx.foldl (fun cs (c,k)=>cs.setIfInBounds (off+k) c) cells
def Cm(cells:Array Value)(off:Nat)(vs:Array Value):(putRow cells off vs).size=cells.size /\
  ∀p,(putRow cells off vs)[p]?=if off<=p/\p<off+vs.size/\p<cells.size then vs[p-off]? else cells[p]?:=by
 have h:=W7 off vs.toList 0 cells
 have e:putRow cells off vs=(vs.toList.zipIdx 0).foldl (fun(cs:Array Value) (x:Value×Nat)=>cs.setIfInBounds (off+x.2) x.1) cells:=by
  unfold putRow;rw[<-Array.foldl_toList];simp
 rw[e];exact⟨h.1,fun p=>by rw[h.2 p]; simp⟩
section
variable {P:Program} {C:eR} {o:Oper} {bq:Env} {M:aC} {j:J} {w:World} {a:Act} {x:ag×aC}
def RC.write{cs new:List ag}{cells vs:Array Value}{off:Nat}(h:RC j M w cs cells)(hn:RC j M w new vs)(hle:off+new.length<=cs.length):RC j M w (mX cs off new) (putRow cells off vs):=by
 obtain⟨p1,p2⟩:=Cm cells off vs;have h1:=h.1;have h2:=hn.1;refine⟨by rw[uZ hle,p1]; exact h1,fun i c v hc hv=>?_⟩
 rw[re hle] at hc;rw[p2] at hv
 have hi:i<cells.size:=by
  rcases bD i cells.size with hi|hi
  ·exact hi
  ·rw[aL aI,iq hi] at hv; cases hv
 split at hc
 ·rename_i hp;rw[aX aI] at hv;exact hn.2 _ c v hc hv
 ·rename_i hp;rw[aL aI] at hv;exact h.2 _ c v hc hv
def VY{α β:Type}{g:α->Sem β}{f:α->β}:∀(l:List α),(∀x,x∈l->(g x).run P w = .ok (f x) w)->(l.mapM g).run P w = .ok (l.map f) w:=by
 intro l;induction l with
 |nil=>intro _; simp
 |cons y r ih =>
  intro h;simp[List.mapM_cons,h y dv,ih fun x hx=>h x (by simp[hx])]
def IK{fs:Array Field}(he:cn j M w bq a)(hfs:∀f,f∈fs.toList->(P.info? f.type).isSome=true):∀ {parts:List (Nat×Operand)} {ps:List (Nat×Nat×fZ)} {cs cs':List ag} {cells:Array Value},
  AO P fs parts=some ps->mC bq cs ps=some cs'->RC j M w cs cells ->
  ∃cells',Instr.fill (fun i=>(fs.map fun f=>(f.offset,P.cellsOf f.type))[i]?) cells (parts.map fun p=>(p.1,a.eval p.2))=some cells'/\RC j M w cs' cells':=by
 intro parts;induction parts with
 |nil =>
  intro ps cs cs' cells h1 h2 h3;simp[AO] at h1; subst h1;simp[mC] at h2; subst h2;exact⟨cells,rfl,h3⟩
 |cons p r ih =>
  intro ps cs cs' cells h1 h2 h3;obtain⟨i,y⟩:=p;simp only[AO] at h1;obtain⟨f,hf,h1⟩:=bf h1;obtain⟨n,hn,h1⟩:=bf h1;obtain⟨z,hz,h1⟩:=bf h1;obtain⟨l,hl,h1⟩:=bf h1;cases h1;simp only[mC] at h2;obtain⟨new,jw,h2⟩:=bp h2;split at h2
  ·rename_i hc;obtain⟨c1,c2⟩:=hc;have hrc:=tE (cR he hz) jw;obtain⟨inf,hinf,hsz⟩:=EK hn;have hco:P.cellsOf f.type=n:=by simp[Program.cellsOf,hinf,hsz]
   obtain⟨cells',e1,e2⟩:=ih hl h2 (h3.write (off:=f.offset) hrc aI);refine⟨cells',?_,e2⟩;have hs1:=hrc.1;have hs2:=h3.1;have hpl:(fs.map fun f=>(f.offset,P.cellsOf f.type))[i]?=some (f.offset,n):=by simp[hf,hco]
   simp only[aF,Instr.fill,hpl];rw[aL gm];exact e1
  ·cases h2
def Wf(hr:Rel j M w)(he:cn j M w bq a){t:TypeId}{parts:Array (Nat×Operand)}{fs:Array Field}{i:TypeInfo}{zv:Value}{l:List ag}{ps:List (Nat×Nat×fZ)}(hop:o.op = .build t parts)
  (ht:P.underlying t=some (.struct fs)) (hi:P.info? t=some i) (hzv:i.zero=some zv) (hl:th zv.cells.toList=some l) (hps:AO P fs parts.toList=some ps) (hfs:fs.all (fun f=>(P.info? f.type).isSome)=true)
  (h:ec C bq M (.build l ps)=some x):∃v w',rj P o a w v w'/\iU j M w x v w':=by
 simp only[ec] at h;obtain⟨cs,hcs,h⟩:=bp h;cases h;obtain⟨h1,h2⟩:=qF (j:=j) (M:=M) (w:=w) hl
 have hfs':∀f,f∈fs.toList->(P.info? f.type).isSome=true:=fun f hf=>by
  have:=Array.all_eq_true'.1 hfs f (by simpa using hf)
  simpa using this
 obtain⟨cells',e1,e2⟩:=IK (P:=P) he hfs' hps hcs (cells:=zv.cells) ⟨by simpa using h1,fun i c v hc hv=>h2 i c v hc (by simpa using hv)⟩
 have hmap:(fs.mapM fun f=>do pure (f.offset,<-sizeOf f.type):Sem _).run P w = .ok (fs.map fun f=>(f.offset,P.cellsOf f.type)) w:=by
  rw[lU]
  have hm:=VY (P:=P) (w:=w) (g:=fun f:Field=>(do pure (f.offset,<-sizeOf f.type):Sem _)) (f:=fun f:Field=>(f.offset,P.cellsOf f.type)) fs.toList fun f hf=>by
   obtain⟨inf,hinf⟩:=fz.1 (hfs' f hf);simp[sizeOf,pY hinf,Program.cellsOf,hinf]
  rw[Sem.run_map,hm,<-Array.toList_map];simp only[Result.andThen_ok,Array.toArray_toList]
 refine⟨.agg cells',w,.inl ?_,.still hr (.agg e2.1 e2.2)⟩;have e1':Instr.fill (fun i=>(fs.map fun f=>(f.offset,P.cellsOf f.type))[i]?) zv.cells (parts.map fun p=>(p.1,a.eval p.2)).toList=some cells':=by simpa using e1
 simp only[execOp,hop,Instr.build,zeroValue,Sem.run_bind,pY hi,Result.andThen_ok,hzv,Sem.run_pure,dY ht,hmap];simp only[e1',Sem.run_pure,Result.andThen_ok]
def Cn{y:ag}{v:Value}(h:gn j M w y v)(hp:y.fV.plain=true):y.fV.cells.length=v.cells.size /\
  ∀(k:Nat)(c:ag)(u:Value),y.fV.cells[k]?=some c->v.cells[k]?=some u->fS w (oG j M w) c u:=by
 by_cases hag:∃cs,y = .agg cs
 ·obtain⟨cs,rfl⟩:=hag;obtain⟨vs,rfl,h1,h2⟩:=h.ng;simp only[ag.fV,ag.plain,ag.cells,Value.cells] at hp ⊢;refine⟨by simpa using h1,fun k c u hc hu=>?_⟩
  rw[aY,aV] at hc;obtain⟨c0,hc0,rfl⟩:=hc;refine Av (h2 k c0 u hc0 hu) ?_;have:=bN.1 hp c0.shut (eK.2 ⟨c0,aK hc0,rfl⟩);exact this
 ·have hs:y.fV=y.shut:=by cases y<;>first|rfl|exact absurd ⟨_,rfl⟩ hag
  have hpl:y.shut.plainCell=true:=by
   rw[hs] at hp;cases y<;>first|exact hp|exact absurd ⟨_,rfl⟩ hag
  have hr:=Av h hpl;have hc1:y.shut.cells=[y.shut]:=by cases y<;>first|rfl|exact absurd ⟨_,rfl⟩ hag
  have hv1:v.cells = #[v]:=by
   cases y<;>simp only[ag.shut,ag.plainCell,af] at hpl
   case bool=>have:=h.jD; subst this; rfl
   case int=>have:=h.fX; subst this; rfl
   case str=>have:=h.kG; subst this; rfl
   case slice=>obtain⟨A,cap,b,off,sz,vs,e,_⟩:=h.ep.ep; subst e; rfl
   case raw=>cases h with|plain h=>cases h; cases v<;>simp_all [Value.cells]
  rw[hs,hc1,hv1];refine⟨rfl,fun k c u hc hu=>?_⟩
  cases k with
  |zero=>simp at hc hu; subst hc; subst hu; exact hr
  |succ k=>simp at hc
def RU{sz:Nat}:∀(l:List Value)(k:Nat)(cells:Array Value),(∀v,v∈l->v.cells.size=sz)->(k+l.length)*sz<=cells.size ->
  ∃cells',Instr.fill (fun i=>some (i*sz,sz)) cells ((l.zipIdx k).map fun x=>(x.2,x.1))=some cells'/\cells'.size=cells.size/\(∀p,p<k*sz->cells'[p]?=cells[p]?) /\
   ∀i v q,l[i]?=some v->q<sz->cells'[(k+i)*sz+q]?=v.cells[q]?:=by
 intro l;induction l with
 |nil=>intro k cells _ _; exact⟨cells,rfl,rfl,fun _ _=>rfl,fun i v q h=>by simp at h⟩
 |cons v r ih =>
  intro k cells hv hle;have hv0:=hv v dv;have hk1:(k+1)*sz=k*sz+sz:=na k sz
  have hle':k*sz+sz<=cells.size:=by
   have:(k+1)*sz<=(k+(r.length+1))*sz:=bd _ aI;simp only[au] at hle;omega
  obtain⟨p1,p2⟩:=Cm cells (k*sz) v.cells;obtain⟨cells',e1,e2,e3,e4⟩:=ih (k+1) (putRow cells (k*sz) v.cells) (fun u hu=>hv u (by simp[hu])) (by rw[p1]; simp only[au] at hle; rw[show k+1+r.length=k+(r.length+1) by omega]; exact hle)
  refine⟨cells',?_,by rw[e2,p1],fun p hp=>?_,fun i u q hi hq=>?_⟩
  ·rw[List.zipIdx_cons,aF];simp only[Instr.fill];rw[aL gm];exact e1
  ·rw[e3 p aI,p2,aL aI]
  ·cases i with
   |zero =>
    simp at hi; subst hi;rw[db,e3 _ aI,p2,aX aI];congr 1;omega
   |succ i =>
    have:=e4 i u q (by simpa using hi) hq
    rw[show k+1+i=k+(i+1) by omega] at this
    exact this
def Fw:∀ {l:List (Nat×Operand)} {k:Nat} {zs:List fZ},GW k l=some zs->∃ys:List Operand,l=(ys.zipIdx k).map (fun x=>(x.2,x.1))/\vr ys=some zs
 | [],k,zs,h=>by simp[GW] at h; subst h; exact⟨[],rfl,rfl⟩
 |(i,y)::r,k,zs,h=>by
  simp only[GW] at h;split at h
  ·rename_i hi;obtain⟨z,hz,h⟩:=bf h;obtain⟨l,hl,h⟩:=bf h;cases h;obtain⟨ys,e1,e2⟩:=Fw hl;exact⟨y::ys,by rw[List.zipIdx_cons,aF,hi,e1],by simp[vr,hz,e2]⟩
  ·cases h
def Ga:∀ {zs:List fZ} {sz:Nat} {l:List ag},sV bq sz zs=some l->l.length=zs.length /\
  ∀(i:Nat)(y:ag)(z:fZ),l[i]?=some y->zs[i]?=some z->y=(z.ev bq).fV/\y.plain=true/\y.cells.length=sz
 | [],sz,l,h=>by simp[sV] at h; subst h; exact⟨rfl,fun i y z h=>by simp at h⟩
 |z::r,sz,l,h=>by
  simp only[sV] at h;split at h
  ·rename_i hc;obtain⟨l',hl,h⟩:=bp h;cases h;obtain⟨h1,h2⟩:=Ga hl;refine⟨by simp[h1],fun i y z' hy hz=>?_⟩
   cases i with
   |zero=>simp at hy hz; subst hy; subst hz; exact⟨rfl,hc.1,hc.2⟩
   |succ i=>exact h2 i y z' (by simpa using hy) (by simpa using hz)
  ·cases h
def pd(o:Obj):Quiet w { w with heap:=w.heap.push o }/\(∀b,b<w.heap.size->({ w with heap:=w.heap.push o }:World).heap[b]?=w.heap[b]?)/\({ w with heap:=w.heap.push o }:World).heap[w.heap.size]?=some o :=
 ⟨⟨dv,rfl,rfl,rfl⟩,fun b hb=>by
  show(w.heap.push _)[b]?=_
  rw[fW,aL aI],dv⟩
def Bl(he:cn j M w bq a){t e:TypeId}{len:Nat}{parts:Array (Nat×Operand)}{i:TypeInfo}{zs:List fZ}{l:List ag}(hop:o.op = .buildSlice t len parts)(ht:P.underlying t=some (.slice e))
  (hi:P.info? e=some i) (hzs:GW 0 parts.toList=some zs) (dD:zs.length=len) (hroom:len*i.size<=2 ^ 24) (hzero:(i.zero.map fun z=>z.cells.size)=some i.size)
  (hl:sV bq i.size zs=some l):l.length=len/\wid l i.size/\∃cells':Array Value,cells'.size=len*i.size /\
   (execOp a.eval o).run P w = .ok (.value (.slice (some ⟨w.heap.size,0,none⟩) len len)) { w with heap:=w.heap.push (.cells cells' e (0,0)) } /\
   ∀(n:Nat)(y:ag)(k:Nat)(c:ag),l[n]?=some y->y.cells[k]?=some c->∃u,cells'[n*i.size+k]?=some u/\fS w (oG j M w) c u:=by
 obtain⟨ys,hys,hyz⟩:=Fw hzs;obtain⟨l1,l2⟩:=Ga hl;obtain⟨y1,y2⟩:=uo he hyz
 obtain⟨zv,hzv,hzs'⟩:∃zv,i.zero=some zv/\zv.cells.size=i.size:=by
  cases hz:i.zero with
  |none=>rw[hz] at hzero; cases hzero
  |some zv=>rw[hz] at hzero; exact⟨zv,rfl,by simpa using hzero⟩
 have hvs:∀v,v∈ys.map a.eval->v.cells.size=i.size:=by
  intro v hv;obtain⟨y,hy,rfl⟩:=eK.1 hv;obtain⟨p,hp,rfl⟩:=kf hy;have hpz:p<zs.length:=aI;have hpl:p<l.length:=aI;have hrep:=y2 p _ _ (ai hpz) (ai hp);obtain⟨e1,e2,e3⟩:=l2 p _ _ (ai hpl) (ai hpz);have:=(Cn hrep (by rw[<-e1]; exact e2)).1
  rw[<-e1] at this;omega
 let zero:Array Value:=if len*i.size=0 then #[] else zv.cells
 let cells0:Array Value:=(Array.range (len*i.size)).map (zero[· % zero.size]!)
 obtain⟨cells',f1,f2,f3,f4⟩:=RU (sz:=i.size) (ys.map a.eval) 0 cells0 hvs (by simp[cells0,<-dD,y1])
 have hfill:Instr.fill (fun k=>some (k*i.size,i.size)) cells0 (parts.map fun p=>(p.1,a.eval p.2)).toList=some cells':=by
  have:(parts.map fun p=>(p.1,a.eval p.2)).toList=((ys.map a.eval).zipIdx 0).map fun x=>(x.2,x.1):=by
   rw[Array.toList_map,hys,gH,List.zipIdx_map,gH];rfl
  rw[this]; exact f1
 have hrun:(execOp a.eval o).run P w = .ok (.value (.slice (some ⟨w.heap.size,0,none⟩) len len)) { w with heap:=w.heap.push (.cells cells' e (0,0)) }:=by
  simp only[execOp,hop,Instr.buildSlice,Sem.run_bind,dY ht,Result.andThen_ok,jr (show qE P e=some i.size by simp[qE,hi]),aL (show ¬len*i.size>2 ^ 24 by omega),Sem.run_pure]
  simp only[cells0] at hfill
  by_cases hc:len*i.size=0
  ·have hz:zero = #[]:=aX hc;rw[hz] at hfill;rw[aX hc];simp only[Sem.run_bind,Sem.run_pure,Result.andThen_ok,hfill];simp[newRow]
  ·have hz:zero=zv.cells:=aL hc;rw[hz] at hfill;rw[aL hc];simp only[zeroValue,Sem.run_bind,pY hi,Result.andThen_ok,hzv,Sem.run_pure,hfill];simp[newRow]
 have hel:∀(n:Nat)(y:ag)(k:Nat)(c:ag),l[n]?=some y->y.cells[k]?=some c->∃u,cells'[n*i.size+k]?=some u/\fS w (oG j M w) c u:=by
  intro n y k c hn hk;have hnl:=aP hn;have hz:=ai (show n<zs.length by omega)
  have hy:=ai (show n<ys.length by omega)
  obtain⟨e1,e2,e3⟩:=l2 n y _ hn hz;have hrep:=y2 n _ _ hz hy;obtain⟨s1,s2⟩:=Cn hrep (by rw[<-e1]; exact e2)
  rw[<-e1] at s1 s2;have hkl:=aP hk;have hu:=bh (show k<(a.eval ys[n]).cells.size by omega)
  have f:=f4 n (a.eval ys[n]) k (by simp[hy]) aI
  rw[aJ] at f;exact⟨_,f.trans hu,s2 k c _ hk hu⟩
 refine⟨aI,fun y hy=>?_,cells',by first|(simp[f2,cells0])|(simp[f3,cells0]),hrun,hel⟩
 obtain⟨p,hp,rfl⟩:=kf hy;exact(l2 p _ _ (ai hp) (ai aI)).2.2
def ND(hr:Rel j M w)(he:cn j M w bq a){t e:TypeId}{len:Nat}{parts:Array (Nat×Operand)}{i:TypeInfo}{zs:List fZ}(hop:o.op = .buildSlice t len parts)(ht:P.underlying t=some (.slice e))
  (hi:P.info? e=some i) (hzs:GW 0 parts.toList=some zs) (dD:zs.length=len) (hroom:len*i.size<=2 ^ 24) (hzero:(i.zero.map fun z=>z.cells.size)=some i.size)
  (h:ec C bq M (.lits i.size zs)=some x):∃v w',rj P o a w v w'/\iU j M w x v w':=by
 simp only[ec] at h;obtain⟨l,hl,h⟩:=bp h;obtain⟨hll,hwd,cells',_,hrun,hel⟩:=Bl (w:=w) he hop ht hi hzs dD hroom hzero hl;obtain⟨q,hb,jw⟩:=pd (w:=w) (.cells cells' e (0,0));refine⟨_,_,.inl hrun,?_⟩;have ext:Ext j M w j M { w with heap:=w.heap.push (.cells cells' e (0,0)) }:=Ext.grow q.size rfl rfl rfl hb
 have rel:Rel j M { w with heap:=w.heap.push (.cells cells' e (0,0)) }:=hr.grow q.size rfl rfl rfl hb
 have key:fS { w with heap:=w.heap.push (.cells cells' e (0,0)) } (oG j M { w with heap:=w.heap.push (.cells cells' e (0,0)) }) (.slice .sh l) (.slice (some ⟨w.heap.size,0,none⟩) len len):=by
  refine .slice l _ _ _ w.heap.size 0 i.size (fun p=>(cells'[p]?).getD undef) hll.symm (av _) (fun _=>rfl) hwd (fun n y k c hn hk=>?_) (fun n y k c hn hk=>?_)
  ·obtain⟨u,hu,_⟩:=hel n y k c hn hk;refine⟨?_,dv,fun id hid hj=>?_,fun hx=>absurd (hr.AD _ _ hx) (ib _)⟩
   ·simp only[World.cell?,jw,aJ,hu];rfl
   ·have:=hr.lt id _ hid hj;omega
  ·obtain⟨u,hu,hru⟩:=hel n y k c hn hk;rw[hu];exact hru.mono ext.iz
 injection h with h
 subst h;cases l with
 |nil =>
  have:len=0:=by simpa using hll.symm
  subst this;exact⟨j,rel,ext,.c0 _⟩
 |cons y r=>exact⟨j,rel,ext,.plain key⟩
def Wo(hr:Rel j M w)(he:cn j M w bq a){t e:TypeId}{len:Nat}{parts:Array (Nat×Operand)}{i:TypeInfo}{zs:List fZ}(hop:o.op = .buildSlice t len parts)(ht:P.underlying t=some (.slice e))
  (hi:P.info? e=some i) (hzs:GW 0 parts.toList=some zs) (dD:zs.length=len) (hroom:len*i.size<=2 ^ 24) (hzero:(i.zero.map fun z=>z.cells.size)=some i.size)
  (h:ec C bq M (.F9 i.size zs)=some x):∃v w',rj P o a w v w'/\iU j M w x v w':=by
 simp only[ec] at h;obtain⟨l,hl,h⟩:=bp h;cases h;obtain⟨hll,hwd,cells',hcs,hrun,hel⟩:=Bl (w:=w) he hop ht hi hzs dD hroom hzero hl;obtain⟨q,hb,jw⟩:=pd (w:=w) (.cells cells' e (0,0));have hob:∀b,some w.heap.size=some b->w.heap.size<=b/\b<({ w with heap:=w.heap.push (.cells cells' e (0,0)) }:World).heap.size:=fun b h=>by cases h; simp
 have ext:Ext j M w (gF j M.length (some w.heap.size)) (M++[.tick i.size l.length]) { w with heap:=w.heap.push (.cells cells' e (0,0)) }:=Ext.push (fun b hb=>(hob b hb).1) q hb
 refine⟨_,_,.inl hrun,gF j M.length (some w.heap.size),hr.push hob q hb (fun h=>by cases h) (fun sz n b _ hb=>by cases hb; exact⟨cells',e,jw⟩),ext,?_⟩
 refine .own (sz:=i.size) (n:=l.length) dv (av _) ?_ fun _ => .inr ⟨w.heap.size,len,cells',e,by simp[gF],by rw[hll],jw,aI,aI⟩
 refine .slice l _ _ _ w.heap.size 0 i.size (fun p=>(cells'[p]?).getD undef) hll.symm (av _) (fun _=>rfl) hwd (fun n y k c hn hk=>?_) (fun n y k c hn hk=>?_)
 ·obtain⟨u,hu,_⟩:=hel n y k c hn hk;have hk':k<i.size:=by rw[<-hwd y (aK hn)]; exact aP hk
  refine⟨?_,dv,fun id hid hj=>?_,fun hx=>absurd (hr.AD _ _ (by rw[<-ext.X]; exact hx)) (ib _)⟩
  ·simp only[World.cell?,jw,aJ,hu];rfl
  ·have hid':id=M.length:=by
    rcases bD id M.length with h|h
    ·rw[show gF j M.length (some w.heap.size) id=j id by simp[gF,gI h]] at hj
     exact absurd (hr.lt id _ h hj) (ib _)
    ·simp at hid; omega
   subst hid';refine⟨i.size,l.length,dv,?_⟩;have:=bd i.size (show n+1<=l.length from aP hn)
   rw[bP] at this;omega
 ·obtain⟨u,hu,hru⟩:=hel n y k c hn hk;rw[hu];exact hru.mono ext.iz
end
def gn.Dm{j:J}{M:aC}{w:World}{xs:List ag}{v:Value}(h:gn j M w (.slice .c0 xs) v):∃A,v = .slice A 0 0:=by
 cases h with
 |plain h=>cases h
 |c0 A=>simp
theorem gn.aa2{j:J}{M:aC}{w:World}{k:Nat}{xs:List ag}{v:Value}(h:gn j M w (.slice (.own k) xs) v) :
  ∃sz n,M[k]?=some (.tick sz n)/\xs.length<=n/\fS w (oG j M w) (.slice .sh xs) v/\(xs.length=n->HX j w k sz n v):=by
 cases h with
 |plain h=>cases h
 |own hk hn h ht=>grind
theorem FM(n:Nat):∀(r c:Nat),c<=2*n+1000->Builtin.growBy n r c<=2*n+1000
 |0,c,h=>h
 |r+1,c,h=>by
  unfold Builtin.growBy;split
  ·omega
  ·exact FM n r _ aI
theorem Eg{n c:Nat}(h:c<n):Builtin.nextslicecap n c<=2*n+1000:=by
 grind [Builtin.nextslicecap,FM]
def fS.one{w:World}{iz:Nat->Nat->Prop}{c:ag}{v:Value}(h:fS w iz c v):v.oneCell'=true:=by
 cases h<;>first|rfl|omega
section
variable {P:Program} {C:eR} {o:Oper} {bq:Env} {M:aC} {j:J} {w:World} {a:Act} {x:ag×aC}
theorem FF{iz:Nat->Nat->Prop}{xs:List ag}{v:Value}{size:Nat}(hx:fS w iz (.slice .sh xs) v)(hw:wid xs size)(hpos:0<size) :
  ∃u:Nat->Value,(∀w':World,w'.heap=w.heap->(Builtin.firstCells size xs.length v).run P w' = .ok (((List.range (xs.length*size)).map u).toArray) w') /\
   (∀(i:Nat)(y:ag)(k:Nat)(c:ag),xs[i]?=some y->y.cells[k]?=some c->fS w iz c (u (i*size+k))) /\
   ∀b,(∃n cap,v = .slice (some ⟨b,0,none⟩) n cap)->∀p,p<xs.length*size->w.cell? ⟨b,p,none⟩=some (u p):=by
 obtain⟨A,cap,b,off,sz,vs,hv,hc,ha,hz,hs,hr⟩:=hx.ep
 by_cases hne:xs=[]
 ·subst hne;rw[hv];cases A<;>simp_all [Builtin.firstCells,loadCells,loadCellsFrom]
 ·have hsz:sz=size:=by
   obtain⟨y,r,rfl⟩:=fj hne;rw[<-hz y dv,hw y dv]
  subst hsz;have hA:=ha hne;subst hA
  have hcell:∀p,p<xs.length*sz->w.cell? ⟨b,off+p,none⟩=some (vs p):=by
   intro p hp;have hd:p / sz<xs.length:=(kY hpos).2 hp;have hm:p % sz<sz:=kZ _ hpos;have hy:=ai hd;have hcl:=hw _ (js hd);have:=(hs (p / sz) _ (p % sz) _ hy (ai aI)).1;rw[Nat.div_add_mod'] at this;omega
  refine⟨vs,fun w' hw'=>?_,hr,fun b' hb' p hp=>?_⟩
  ·rw[hv]
   have hc':∀p,p<xs.length*sz->w'.cell? ⟨b,off+p,none⟩=some (vs p):=fun p hp=>by
    grind [World.cell?]
   exact o9 (P:=P) b off (xs.length*sz) vs hc'
  grind
theorem fS.join{w':World}{saf':Nat->Nat->Prop}{xs ys:List ag}{size:Nat}(hwx:wid xs size)(hwy:wid ys size)(hpos:0<size){ux uy:Nat->Value}
  (hx:∀(i:Nat)(y:ag)(k:Nat)(c:ag),xs[i]?=some y->y.cells[k]?=some c->fS w' saf' c (ux (i*size+k)))
  (hy:∀(i:Nat)(y:ag)(k:Nat)(c:ag),ys[i]?=some y->y.cells[k]?=some c->fS w' saf' c (uy (i*size+k)))
  {b:Nat} {arr:Array Value} {t:TypeId} (harr:w'.heap[b]?=some (.cells arr t (0,0))) (h1:∀p,p<xs.length*size->arr[p]?=some (ux p)) (h2:∀p,p<ys.length*size->arr[xs.length*size+p]?=some (uy p))
  (hs:∀p,p<(xs.length+ys.length)*size->saf' b p) {cap:Nat} (hc:xs.length+ys.length<=cap):fS w' saf' (.slice .sh (xs++ys)) (.slice (some ⟨b,0,none⟩) (xs.length+ys.length) cap):=by
 have cL:∀(i k n:Nat),i<n->k<size->i*size+k<n*size:=by
  intro i k n hi hk;have:(i+1)*size<=n*size:=bd _ hi;rw[na] at this;omega
 have cas:∀(i:Nat)(y:ag),(xs++ys)[i]?=some y->(i<xs.length/\xs[i]?=some y)\/(∃i',i=xs.length+i'/\ys[i']?=some y):=by
  grind
 refine .slice _ _ _ _ b 0 size (fun p=>if p<xs.length*size then ux p else uy (p-xs.length*size)) dv hc (fun _=>rfl) (fun y hy'=>?_) (fun i y k c hi hk=>?_) (fun i y k c hi hk=>?_)
 ·rcases bo.1 hy' with h|h
  ·exact hwx y h
  ·exact hwy y h
 ·have hkl:=aP hk;rw[aJ];rcases cas i y hi with ⟨hil,hxi⟩|⟨i',rfl,hyi⟩
  ·have hk':k<size:=by rw[<-hwx y (aK hxi)]; omega
   have hp:=cL i k _ hil hk';refine⟨?_,hs _ (cL i k _ aI hk')⟩;rw[aX hp,<-h1 _ hp];simp[World.cell?,harr]
  ·have hk':k<size:=by rw[<-hwy y (aK hyi)]; exact hkl
   have hil:=aP hyi;have hp:=cL i' k _ hil hk';refine⟨?_,hs _ (cL _ k _ aI hk')⟩;have he:(xs.length+i')*size+k=xs.length*size+(i'*size+k):=by rw[bP]; omega
   rw[he,aL dv,iW,<-h2 _ hp];simp[World.cell?,harr]
 ·have hkl:=aP hk;rcases cas i y hi with ⟨hil,hxi⟩|⟨i',rfl,hyi⟩
  ·have hk':k<size:=by rw[<-hwx y (aK hxi)]; exact hkl
   rw[aX (cL i k _ hil hk')];exact hx i y k c hxi hk
  ·have he:(xs.length+i')*size+k=xs.length*size+(i'*size+k):=by rw[bP]; omega
   rw[he,aL dv,iW]
   grind
theorem qO{t t' e:TypeId}{d':TypeDesc}{v':Value}{i:TypeInfo}{zv:Value}(hs:P.underlying t=some (.slice e))(hs':P.underlying t'=some d')(hd':∀k,d' ≠ .int k)(hi:P.info? e=some i)(hz:i.zero=some zv)(hb0:0<i.bytes)(hb1:i.bytes<=2 ^ 20)
  (ty:TypeId) {bS:Option Addr} {n cap m:Nat} {um new:Array Value} (dD:∀w':World,(Builtin.lenOf v').run P w' = .ok m w')
  (hold:∀w':World,w'.heap=w.heap->(Builtin.firstCells i.size n (.slice bS n cap)).run P w' = .ok um w') (jw:∀w':World,w'.heap=w.heap->(Builtin.firstCells i.size m v').run P w' = .ok new w')
  (hroom:(n+m)*i.bytes<=2 ^ 44) :
  (n+m<=cap->∀w',(match bS with|some ad=>(storeCells (ad.add (n*i.size)) new.toList).run P w = .ok () w'|none=>w'=w)->(Builtin.append_ #[t,t'] ty #[.slice bS n cap,v']).run P w = .ok (.slice bS (n+m) cap) w') /\
  (cap<n+m->∃newCap rest,n+m<=newCap/\rest.size=(newCap-(n+m))*zv.cells.size /\
   (Builtin.append_ #[t,t'] ty #[.slice bS n cap,v']).run P w = .ok (.slice (some ⟨w.heap.size,0,none⟩) (n+m) newCap) { w with heap:=w.heap.push (.cells (um++new++rest) e (0,0)),drawn:=w.drawn+1 }):=by
 have hsz:(sizeOf e).run P w = .ok i.size w:=jr (by grind [qE])
 refine⟨fun hle w' hst=>?_,fun cL=>?_⟩
 ·have h1:=jw w rfl;unfold Builtin.append_;simp only[List.getElem?_toArray,gq,cW,Sem.run_bind,dY hs,dY hs',Result.andThen_ok,hsz,Sem.run_pure];simp only[af,aD,dD,Result.andThen_ok,ew,aE,aX hle,h1,Sem.run_bind];cases bS with
  |none=>simp_all
  |some ad=>simp_all
 ·have hcapb:¬Builtin.nextslicecap (n+m) cap*i.bytes>2 ^ 48:=by
   have h1:=Eg cL;have h2:Builtin.nextslicecap (n+m) cap*i.bytes<=(2*(n+m)+1000)*i.bytes:=bd _ h1
   grind
  let q:Question := .appendCap (n+m) cap e
  refine⟨q.cut (w.tape w.drawn q),Builtin.zeroCells zv.cells (q.cut (w.tape w.drawn q)-(n+m)),by grind [Question.cut],by simp[Builtin.zeroCells],?_⟩
  have h1:=hold w.drew rfl;have h2:=jw w.drew rfl;have hne:i.bytes≠0:=aI;have hqf:q.forced=false:=rfl;unfold Builtin.append_;simp only[List.getElem?_toArray,gq,cW,Sem.run_bind,dY hs,dY hs',Result.andThen_ok,hsz,Sem.run_pure];simp only[af,aD,dD,Result.andThen_ok,ew,aE,aL (Nat.not_le.2 cL),Sem.run_bind];simp[pY hi,hne,hcapb,h1,h2,zeroValue,hz,newRow,q,Question.forced];rfl
theorem H7(hr:Rel j M w){c:Call}{y y':Operand}{t t' e:TypeId}{d':TypeDesc}{i:TypeInfo}{zv:Value}(hop:o.op = .call c)(hb:c.callee = .builtin .append)(ha:c.args.toList=[y,y'])
  (hat:c.argTypes = #[t,t']) (hs:P.underlying t=some (.slice e)) (hs':P.underlying t'=some d') (hd':∀k,d' ≠ .int k) (hi:P.info? e=some i) (hz:i.zero=some zv) (hzs:zv.cells.size=i.size) (hpos:0<i.size) (hb0:0<i.bytes) (hb1:i.bytes<=2 ^ 20)
  {tk:Tk} {xs ys:List ag} (r1:gn j M w (.slice tk xs) (a.eval y)) (dD:∀w':World,(Builtin.lenOf (a.eval y')).run P w' = .ok ys.length w') {uy:Nat->Value}
  (fy1:∀w':World,w'.heap=w.heap->(Builtin.firstCells i.size ys.length (a.eval y')).run P w' = .ok (((List.range (ys.length*i.size)).map uy).toArray) w')
  (fy2:∀(q:Nat)(y:ag)(k:Nat)(c:ag),ys[q]?=some y->y.cells[k]?=some c->fS w (oG j M w) c (uy (q*i.size+k)))
  (h:cr (cq (xs.length+ys.length) i.bytes/\wid xs i.size/\wid ys i.size) (
    match tk with
    | .c0=>match xs with|[]=>some (.slice (.own M.length) ys,M++[.tick i.size ys.length])|_=>none
    | .own k=>match nth M k with
     |some (.tick sz' n)=>cr (sz'=i.size/\n=xs.length) (some (.slice (.own k) (xs++ys),iP M k (.tick i.size (xs.length+ys.length))))
     |_=>none
    | .sh=>none)=some x):∃v w' j',rj P o a w v w'/\Rel j' x.2 w'/\Ext j M w j' x.2 w'/\gn j' x.2 w' x.1 v/\(ys=[]->v=a.eval y/\∀k,tk = .own k->j'=j)/\∀k b',tk = .own k->j' k=some b'->j k=some b'\/∃vs,w'.heap[b']?=some (.cells vs e (0,0)):=by
 obtain⟨⟨hroom,hwx,hwy⟩,h9⟩:=dg h;clear h;have h:=h9;clear h9;have p1:=r1.ep;obtain⟨ux,fx1,fx2,fx3⟩:=FF (P:=P) p1 hwx hpos;obtain⟨bS,cap,_,_,_,_,hv,hcap,_⟩:=p1.ep;have ha':c.args = #[y,y']:=by rw[<-ha]
 have hexec:∀r,(Builtin.append_ #[t,t'] o.type #[a.eval y,a.eval y']).run P w=r->(execOp a.eval o).run P w=r.andThen fun v w' => .ok (.value v) w':=by
  intro r hr';simp[execOp,hop,resolve,hb,invoke,builtin,ha',hat,hr']
 rw[hv] at fx1;obtain⟨A1,A2⟩:=qO (P:=P) (w:=w) hs hs' hd' hi hz hb0 hb1 o.type (bS:=bS) (n:=xs.length) (cap:=cap) (m:=ys.length) dD fx1 fy1 hroom;rw[<-hv] at A1 A2
 -- nothing is appended
 have nil:ys=[]->∃v,(execOp a.eval o).run P w = .ok (.value v) w/\v=a.eval y:=by
  intro hy;subst hy;refine⟨_,?_,rfl⟩
  have:=A1 (by simp; exact hcap) w (by
   cases bS with
   |none=>rfl
   |some ad=>simp[storeCells])
  rw[hexec _ this];simp[hv]
 -- a new block
 have fresh:cap<xs.length+ys.length->∃newCap arr w',xs.length+ys.length<=newCap/\(execOp a.eval o).run P w = .ok (.value (.slice (some ⟨w.heap.size,0,none⟩) (xs.length+ys.length) newCap)) w' /\
   Quiet w w'/\(∀b,b<w.heap.size->w'.heap[b]?=w.heap[b]?)/\w'.heap[w.heap.size]?=some (.cells arr e (0,0))/\newCap*i.size<=arr.size /\
   (∀p,p<xs.length*i.size->arr[p]?=some (ux p))/\∀p,p<ys.length*i.size->arr[xs.length*i.size+p]?=some (uy p):=by
  intro cL;obtain⟨newCap,rest,h1,h2,h3⟩:=A2 cL;obtain⟨q,hbk,jw⟩:=pd (w:=w) (.cells (((List.range (xs.length*i.size)).map ux).toArray++((List.range (ys.length*i.size)).map uy).toArray++rest) e (0,0));refine⟨newCap,_,{ w with heap:=w.heap.push (.cells (((List.range (xs.length*i.size)).map ux).toArray++((List.range (ys.length*i.size)).map uy).toArray++rest) e (0,0)),drawn:=w.drawn+1 },h1,(hexec _ h3).trans rfl,⟨q.size,rfl,rfl,rfl⟩,hbk,jw,?_,fun p hp=>?_,fun p hp=>?_⟩
  ·simp only[ga,cY,ef,List.length_range,h2,hzs];rw[<-bP,<-bP];exact bd _ aI
  ·rw[Array.append_assoc,cf (by simpa using hp)]
   simp[hp]
  ·rw[Array.append_assoc,Array.getElem?_append_right dv,cf gm];simp[hp]
 split at h
 ·-- c0
  split at h
  ·cases h;simp only[aw,aJ] at *
   have hc0:cap=0:=by
    obtain⟨A',hA'⟩:=r1.Dm;rw[hv] at hA';injection hA'
   by_cases hy:ys=[]
   ·subst hy;obtain⟨v,h1,h2⟩:=nil rfl;have q:Quiet w w:=⟨av _,rfl,rfl,rfl⟩;refine⟨v,w,gF j M.length none,.inl h1,hr.push (ob:=none) (fun b h=>by cases h) q (fun _ _=>rfl) (fun h=>by cases h) (fun sz n b h h'=>by cases h'),Ext.push (fun b h=>by cases h) q (fun _ _=>rfl),?_,fun _=>⟨h2,fun _ h=>by cases h⟩,fun _ _ h=>by cases h⟩
    rw[h2,hv,hc0];exact .own (sz:=i.size) (n:=0) dv dv (fS.nil _ _ _) fun _ => .inl ⟨by simp[gF],rfl,bS,rfl⟩
   ·have hyl:0<ys.length:=gP.2 hy;obtain⟨newCap,arr,w',g1,g2,g3,g4,g5,g6,g7,g8⟩:=fresh aI
    have hob:∀b,some w.heap.size=some b->w.heap.size<=b/\b<w'.heap.size:=fun b hb=>by
     cases hb; exact⟨av _,lt_of_block g5⟩
    have ext:Ext j M w (gF j M.length (some w.heap.size)) (M++[.tick i.size ys.length]) w':=Ext.push (fun b hb=>(hob b hb).1) g3 g4
    refine⟨_,w',gF j M.length (some w.heap.size),.inl g2,hr.push hob g3 g4 (fun h=>by cases h) (fun sz n b _ hb=>ka),ext,?_,fun h=>absurd h hy,fun _ _ h=>by cases h⟩
    have hsaf:∀p,p<(0+ys.length)*i.size->oG (gF j M.length (some w.heap.size)) (M++[.tick i.size ys.length]) w' w.heap.size p:=by
     intro p hp;refine⟨lt_of_block g5,fun id hid hj=>?_,fun hx=>absurd (hr.AD _ _ hx) (ib _)⟩
     by_cases hid':id=M.length
     ·subst hid'; exact⟨i.size,ys.length,dv,by simpa using hp⟩
     ·have:=hr.lt id w.heap.size (by simp at hid; omega) (by simpa[gF,hid'] using hj)
      omega
    have hj:=fS.join (xs:=[]) (ys:=ys) (w':=w') hwx hwy hpos (ux:=ux) (uy:=uy) (fun i y k c h=>by simp at h) (fun i y k c h1 h2=>(fy2 i y k c h1 h2).mono ext.iz) g5 (fun p hp=>by simp at hp) (fun p hp=>by simpa using g8 p hp) hsaf (cap:=newCap) (by simpa using g1)
    simp only[aQ,aw,aJ] at hj;exact .own (sz:=i.size) (n:=ys.length) dv (av _) hj fun _ => .inr ⟨w.heap.size,newCap,arr,e,by simp[gF],rfl,g5,g6,g1⟩
  ·cases h
 ·-- own
  rename_i k;rw[fc] at h;split at h
  ·rename_i sz' n' hMk;obtain⟨⟨e1,e2⟩,hx⟩:=dg h;subst e1;subst e2;injection hx with hx
   subst hx;rw[fe];obtain⟨sz0,n0,hk,hn,hrp,ht⟩:=r1.aa2
   ·rw[hMk] at hk;injection hk with hk; injection hk with e1 e2
    subst e1; subst e2
    by_cases hy:ys=[]
    ·subst hy;obtain⟨v,h1,h2⟩:=nil rfl
     have hset:M.set k (.tick i.size (xs.length+([]:List ag).length))=M:=by
      apply ct
      grind
     rw[h2] at h1;rw[hset,c8];exact⟨a.eval y,w,j,.inl h1,hr,Ext.refl j M w,r1,fun _=>⟨rfl,fun _ _=>rfl⟩,fun _ _ _ h => .inl h⟩
    ·have hyl:0<ys.length:=gP.2 hy
     have moved:cap<xs.length+ys.length->∃v w' j',rj P o a w v w'/\Rel j' (M.set k (.tick i.size (xs.length+ys.length))) w'/\Ext j M w j' (M.set k (.tick i.size (xs.length+ys.length))) w'/\gn j' (M.set k (.tick i.size (xs.length+ys.length))) w' (.slice (.own k) (xs++ys)) v/\(ys=[]->v=a.eval y/\∀k',Tk.own k = .own k'->j'=j)/\∀k' b',Tk.own k = .own k'->j' k'=some b'->j k'=some b'\/∃vs,w'.heap[b']?=some (.cells vs e (0,0)):=by
      intro cL;obtain⟨newCap,arr,w',g1,g2,g3,g4,g5,g6,g7,g8⟩:=fresh cL;have ext:Ext j M w (gF j k (some w.heap.size)) (M.set k (.tick i.size (xs.length+ys.length))) w':=Ext.C5 hMk g3 g4 (av _) aI;refine⟨_,w',gF j k (some w.heap.size),.inl g2,Rel.C5 hMk hr g3 g4 (av _) g5 aI,ext,?_,fun h=>absurd h hy,fun k' b' hk' hb' => .inr ⟨arr,(by grind [gF])⟩⟩
      have hsaf:∀p,p<(xs.length+ys.length)*i.size->oG (gF j k (some w.heap.size)) (M.set k (.tick i.size (xs.length+ys.length))) w' w.heap.size p:=by
       intro p hp;refine⟨lt_of_block g5,fun id hid hj=>?_,fun hx=>absurd (hr.AD _ _ hx) (ib _)⟩
       by_cases hid':id=k
       ·subst hid'; exact⟨i.size,_,eb (aP hMk),hp⟩
       ·have:=hr.lt id w.heap.size (by simpa using hid) (by simpa[gF,hid'] using hj)
        omega
      have hj:=fS.join (w':=w') hwx hwy hpos (ux:=ux) (uy:=uy) (fun i y k c h1 h2=>(fx2 i y k c h1 h2).mono ext.iz) (fun i y k c h1 h2=>(fy2 i y k c h1 h2).mono ext.iz) g5 g7 g8 hsaf (cap:=newCap) g1
      exact .own (sz:=i.size) (n:=xs.length+ys.length) (eb (aP hMk)) dv hj fun _ => .inr ⟨w.heap.size,newCap,arr,e,by simp[gF],rfl,g5,g6,g1⟩
     rcases ht rfl with ⟨_,hn0,A',hA'⟩|⟨b,cap0,vs,t0,hj,hv0,hw0,hsz0,hcap0⟩
     ·rw[hv] at hA';injection hA' with _ _ e3
      exact moved aI
     ·have hvv:=hv.symm.trans hv0;injection hvv with e1 e2 e3
      subst e1; subst e3
      by_cases hfit:xs.length+ys.length<=cap
      ·have jw:(((List.range (ys.length*i.size)).map uy).toArray).toList.length=ys.length*i.size:=dv
       have hle:xs.length*i.size+ys.length*i.size<=vs.size:=by
        rw[<-bP];exact aZ (bd _ hfit) hsz0
       have hone:∀v,v∈(((List.range (ys.length*i.size)).map uy).toArray).toList->v.oneCell'=true:=by
        intro v hv;simp only[eK,gk] at hv;obtain⟨p,hp,rfl⟩:=hv;have hd:p / i.size<ys.length:=(kY hpos).2 hp;have hm:p % i.size<i.size:=kZ _ hpos;have hcl:=hwy _ (js hd);have:=fy2 (p / i.size) _ (p % i.size) _ (ai hd) (ai aI);rw[Nat.div_add_mod'] at this;exact this.one
       have hst:=nG (P:=P) (((List.range (ys.length*i.size)).map uy).toArray).toList w (xs.length*i.size) 0 vs hw0 (by rw[jw]; omega) hone
       rw[db] at hst;obtain⟨s1,s2,s3,s4,s5,vs',s6,s7,s8,s9⟩:=mG (((List.range (ys.length*i.size)).map uy).toArray).toList w (xs.length*i.size) vs hw0 (by rw[jw]; omega)
       have hrun:=A1 hfit _ (by
        show(storeCells ((⟨b,0,none⟩:Addr).add (xs.length*i.size)) _).run P w=_
        rw[lY,aJ];exact hst)
       have q:Quiet w (px w b (xs.length*i.size) (((List.range (ys.length*i.size)).map uy).toArray).toList):=⟨aI,s2,s3,s4⟩;have hkeep:∀p,p<xs.length*i.size->vs'[p]?=vs[p]?:=fun p hp=>s8 p (.inl hp)
       have ext:Ext j M w j (M.set k (.tick i.size (xs.length+ys.length))) (px w b (xs.length*i.size) (((List.range (ys.length*i.size)).map uy).toArray).toList) :=
        Ext.HI hMk hj hr q (fun b' hb' _=>s5 b' hb') hw0 s6 s7 hkeep aI
       refine⟨_,_,j,.inl ((hexec _ hrun).trans rfl),Rel.HI hMk hj hr q (fun b' hb' _=>s5 b' hb') hw0 s6 s7 hkeep aI,ext,?_,fun h=>absurd h hy,fun _ _ _ h => .inl h⟩
       have hsaf:∀p,p<(xs.length+ys.length)*i.size->oG j (M.set k (.tick i.size (xs.length+ys.length))) (px w b (xs.length*i.size) (((List.range (ys.length*i.size)).map uy).toArray).toList) b p:=by
        intro p hp;refine⟨lt_of_block s6,fun id hid hj'=>?_,hr.vj k b (aP hMk) hj p⟩
        have:id=k:=hr.inj id k b (by simpa using hid) (aP hMk) hj' hj
        subst this;exact⟨i.size,_,eb (aP hMk),hp⟩
       have hjn:=fS.join hwx hwy hpos (ux:=ux) (uy:=uy) (fun i y k c h1 h2=>(fx2 i y k c h1 h2).mono ext.iz) (fun i y k c h1 h2=>(fy2 i y k c h1 h2).mono ext.iz) s6 (fun p hp=>by
        rw[hkeep p hp];have:=fx3 b ⟨_,_,hv⟩ p hp;simpa[World.cell?,hw0] using this) (fun p hp=>by
        rw[s9 p (by rw[jw]; exact hp)]
        simp[hp]) hsaf (cap:=cap) hfit
       exact .own (sz:=i.size) (n:=xs.length+ys.length) (eb (aP hMk)) dv hjn fun _ => .inr ⟨b,cap,vs',t0,hj,rfl,s6,aI,hfit⟩
      ·exact moved aI
  ·cases h
 ·cases h
theorem L1(hr:Rel j M w)(he:cn j M w bq a){c:Call}{y y':Operand}{z z':fZ}{t t' e e':TypeId}{i:TypeInfo}{zv:Value}(hop:o.op = .call c)(hb:c.callee = .builtin .append)(ha:c.args.toList=[y,y'])
  (hat:c.argTypes = #[t,t']) (hs:P.underlying t=some (.slice e)) (hs':P.underlying t'=some (.slice e')) (hi:P.info? e=some i) (hz:i.zero=some zv) (hzs:zv.cells.size=i.size) (hpos:0<i.size) (hb0:0<i.bytes) (hb1:i.bytes<=2 ^ 20)
  (hzy:eV y=some z) (hzy':eV y'=some z') (h:ec C bq M (.append i.size i.bytes z z')=some x) (hna:∀id ver sz lo hi,z.ev bq ≠ .cz id ver sz lo hi):∃v w',rj P o a w v w'/\iU j M w x v w':=by
 simp[ec] at h;have r1:=cR he hzy;have r2:=cR he hzy';split at h
 ·rename_i tk xs tk' ys ez ez';obtain⟨⟨_,hwx,hwy⟩,_⟩:=dg h;rw[ez] at r1;rw[ez'] at r2;have p2:=r2.ep;obtain⟨uy,fy1,fy2,_⟩:=FF p2 hwy hpos;obtain⟨A,cap',_,_,_,_,hv',_⟩:=p2.ep;obtain⟨v,w',j',q1,q2,q3,q4,_⟩:=H7 hr hop hb ha hat hs hs' (fun k h=>by cases h) hi hz hzs hpos hb0 hb1 r1 (fun w'=>by rw[hv']; rfl) fy1 fy2 h
  exact⟨v,w',q1,j',q2,q3,q4⟩
 ·grind
 grind
end
section
variable {P:Program} {C:eR} {o:Oper} {bq:Env} {M:aC} {j:J} {w:World} {a:Act} {x:ag×aC}
def Lp {f:Field} {k:FK} (h:RX P f=some k):f.name ≠ "_" /\ CE P f.type=some false/\(match k with | .b=>P.underlying f.type=some .bool | .i=>∃q,P.underlying f.type=some (.int q) | .s=>P.underlying f.type=some .string):=by
 unfold RX at h;split at h
 ·cases h
 ·rename_i hn;refine⟨hn,?_⟩
  split at h<;>first
   |(cases h; rename_i hu; exact⟨by simp[CE,hu],by first|exact hu|exact⟨_,hu⟩⟩)
   |cases h
def Ll{d:Nat}{f:Field}{k:FK}(hf:RX P f=some k){y z:ag}{u v:Value}(hu:gn j M w y u)(hv:gn j M w z v){e:Bool}(h:kC k y z=some e) :
  (Op.equalIn (d+1) f.type u v).run P w = .ok e w:=by
 have hk:=(Lp hf).2.2;unfold kC at h;split at h
 ·rename_i k1 a k2 b;obtain⟨q,hq⟩:=hk;split at h
  ·rename_i he;subst he;cases h;rw[hu.fX,hv.fX];exact run_equalIn_int w d f.type _ _ a b hq
  ·cases h
 ·rename_i a b;cases h;rw[hu.kG,hv.kG,run_equalIn_string w d f.type _ _ hk,vq,vq]
 ·rename_i a b;cases h;rw[hu.jD,hv.jD];exact run_equalIn_bool' w d f.type a b hk
 ·cases h
def zO{d:Nat}{cs ds:List ag}{us vs:Array Value}(hc:RC j M w cs us)(hd:RC j M w ds vs):∀ {l:List Field} {k:Nat} {ks:List FK} {e:Bool},B7 P k l=some ks->lh ks (cs.drop k) (ds.drop k)=some e ->
  (Op.eqFields (d+1) us vs l).run P w = .ok e w
 | [],k,ks,e,h1,h2=>by
  simp[B7] at h1; subst h1;unfold lh at h2;split at h2<;>simp_all [Op.eqFields]
 |f::r,k,ks,e,h1,h2=>by
  simp only[B7] at h1;split at h1
  ·rename_i hoff;obtain⟨q,hq,h1⟩:=bf h1;obtain⟨qs,hqs,h1⟩:=bf h1;cases h1
   have hk1:k<cs.length:=by
    rcases bD k cs.length with h|h
    ·exact h
    ·rw[jn h] at h2; simp[lh] at h2
   have hk2:k<ds.length:=by
    rcases bD k ds.length with h|h
    ·exact h
    ·rw[jn h] at h2;rw[du hk1] at h2;simp[lh] at h2
   rw[du hk1,du hk2] at h2;simp only[lh] at h2;obtain⟨e1,he1,h2⟩:=bp h2;obtain⟨e2,he2,h2⟩:=bp h2;cases h2;have hlu:k<us.size:=by have:=hc.1; omega
   have hlv:k<vs.size:=by have:=hd.1; omega
   have hu:=bh hlu;have hv:=bh hlv;have ih:=zO (d:=d) hc hd hqs he2;obtain⟨hn,hag,_⟩:=Lp hq;have p1:(part f.type us f.offset).run P w = .ok us[k] w:=by simp[part,lO hag,hoff,hu]
   have p2:(part f.type vs f.offset).run P w = .ok vs[k] w:=by simp[part,lO hag,hoff,hv]
   have p3:=Ll (d:=d) hq (hc.2 k _ _ (ai hk1) hu) (hd.2 k _ _ (ai hk2) hv) he1;simp only[Op.eqFields,aX hn,Sem.run_bind,p1,p2,p3,Result.andThen_ok];cases e1
   ·simp
   ·simpa using ih
  ·cases h1
def MN:∀ {l:List Field} {k:Nat} {ks:List FK},B7 P k l=some ks->∀f,f∈l->∃q,RX P f=some q
 | [],_,_,_,f,hf=>by simp at hf
 |g::r,k,ks,h,f,hf=>by
  simp only[B7] at h;split at h
  ·obtain⟨q,hq,h⟩:=bf h;obtain⟨qs,hqs,h⟩:=bf h;rcases bI.1 hf with rfl|hf
   ·exact⟨q,hq⟩
   ·exact MN hqs f hf
  ·cases h
def Wh(hr:Rel j M w)(he:cn j M w bq a){neg:Bool}{y y':Operand}{z z':fZ}{t t':TypeId}{fs:Array Field}{ks:List FK}(hop:o.op = .binOp (if neg then .neq else .eql) t y y' t')(ht:P.underlying t=some (.struct fs))
  (hst:P.stoodInHeld t=false) (hks:B7 P 0 fs.toList=some ks) (hz:eV y=some z) (hz':eV y'=some z') (h:ec C bq M (.QC ks neg z z')=some x):∃v w',rj P o a w v w'/\iU j M w x v w':=by
 simp only[ec] at h;have h1:=cR he hz;have h2:=cR he hz';split at h
 ·rename_i cs ds ez ez';obtain⟨e,hee,h⟩:=bp h;cases h;rw[ez] at h1;rw[ez'] at h2;obtain⟨us,hus,hul,huc⟩:=h1.ng;obtain⟨vs,hvs,hvl,hvc⟩:=h2.ng;have hfs:P.fieldsOf t=fs:=by simp[Program.fieldsOf,ht]
  have heq:(Op.equal t (.agg us) (.agg vs)).run P w = .ok e w:=by
   unfold Op.equal;rw[show Op.maxDepth=9999+1 from rfl,run_equalIn_struct w 9999 t us vs (by rw[hfs]; exact ht) hst,hfs]
   exact zO (d:=9998) ⟨hul,huc⟩ ⟨hvl,hvc⟩ hks (by simpa using hee)
  have hgt:P.eqGuardType P.depth t=false:=by
   unfold Program.depth;rw[show 2*(P.types.size+Made.depth)+2=(2*(P.types.size+Made.depth)+1)+1 from rfl,Program.eqGuardType,ht]
   simp only;rw[Array.any_eq_false];intro i hi;obtain⟨q,hq⟩:=MN hks fs[i] dv;have:=(Lp hq).2.2;simp only[Program.eqGuardType];cases q<;>simp only at this
   ·obtain⟨_,hu⟩:=this; simp[hu]
   ·simp[this]
   ·simp[this]
  have hguard:∀op,(eqGuard op t y y' (.agg us) (.agg vs)).run P w = .ok () w:=by
   intro op;unfold eqGuard;cases op<;>simp[hgt]
  cases neg
  ·exact⟨.bool e,w,.inl (by simp[execOp,hop,hus,hvs,hguard,binOp,heq]),.still hr (.plain (.bool _))⟩
  ·exact⟨.bool (!e),w,.inl (by simp[execOp,hop,hus,hvs,hguard,binOp,heq]),.still hr (.plain (.bool _))⟩
 ·cases h
end
end
end
section
open Go Go.RowKit
variable [kH]
section
variable {j:J} {M:aC} {w w':World}
def Bz(hr:Rel j M w):∀n,∃j',Rel j' (M++List.replicate n cJ.vT) w/\Ext j M w j' (M++List.replicate n cJ.vT) w
 |0=>⟨j,by simpa using hr,by simpa using Ext.refl j M w⟩
 |n+1=>by
  obtain⟨j',h1,h2⟩:=Bz hr n;have q:Quiet w w:=⟨av _,rfl,rfl,rfl⟩;refine⟨gF j' (M++List.replicate n cJ.vT).length none,?_⟩;rw[nS,<-bZ];exact⟨h1.push (ob:=none) (bx := .vT) (fun b h=>by cases h) q (fun _ _=>rfl) (fun h=>by cases h) (fun sz n b h h'=>by cases h'),h2.trans (Ext.push (fun b h=>by cases h) q (fun _ _=>rfl))⟩
def Ext.fill{p b:Nat}{cs:List ag}(hM:M[p]?=some .vT)(hob:w.heap.size<=b)(q:Quiet w w')(hb:∀b,b<w.heap.size->w'.heap[b]?=w.heap[b]?) :
  Ext j M w (gF j p (some b)) (M.set p (.cells cs)) w' where
 len:=dv
 size:=q.size
 os:=q.os
 tape:=q.tape
 output:=q.output
 X:=rfl
 fix:=fun i bx h hf=>by
  have e:p≠i:=by rintro rfl; rw[hM] at h; cases h; cases hf
  exact⟨by simp[gF,eS e],bx,by rw[cK e]; exact h,rfl⟩
 tick:=fun i sz n h=>by
  have e:p≠i:=by rintro rfl; rw[hM] at h; cases h
  exact⟨n,av _,by rw[cK e]; exact h,fun _=>⟨by simp[gF,eS e],fun b vs t _ hv=>⟨vs,(hb b (lt_of_block hv)).trans hv,rfl⟩⟩⟩
 arr:=fun i sz v xs h=>by
  have e:p≠i:=by rintro rfl; rw[hM] at h; cases h
  exact .inr ⟨v,xs,by rw[cK e]; exact h,av _,fun _=>⟨by simp[gF,eS e],rfl,fun b vs t _ hv=>⟨vs,(hb b (lt_of_block hv)).trans hv,rfl⟩⟩⟩
 tags:=fun b0 vs0 t0 fr0 h=>⟨vs0,fr0,(hb b0 (lt_of_block h)).trans h,rfl⟩
 iz:=fun b0 off h=>by
  refine⟨⟨bz h.1 q.size,fun id hid hj=>?_,h.3⟩,World.cell?_of_block (w:=w) (hb b0 h.1)⟩
  by_cases he:id=p
  ·have:b=b0:=by simpa[gF,he] using hj
   have:=h.1;omega
  ·rw[cK (eS he)];exact h.2 id (by simpa using hid) (by simpa[gF,he] using hj)
 um:=fun b0 cL h=>by
  refine⟨hb b0 cL,fun i hi hj=>?_⟩
  by_cases he:i=p
  ·have:b=b0:=by simpa[gF,he] using hj
   omega
  ·exact h i (by simpa using hi) (by simpa[gF,he] using hj)
def Rel.fill(hr:Rel j M w){p b:Nat}{cs:List ag}(hM:M[p]?=some .vT)(hob:w.heap.size<=b)(hbl:b<w'.heap.size)(q:Quiet w w')(hb:∀b,b<w.heap.size->w'.heap[b]?=w.heap[b]?)
  (hbox:∀j' M',Ext j M w j' M' w'->Holds j' M' w' b (.cells cs)):Rel (gF j p (some b)) (M.set p (.cells cs)) w':=by
 have ext:Ext j M w (gF j p (some b)) (M.set p (.cells cs)) w':=Ext.fill hM hob q hb;have up:∀i,i≠p->gF j p (some b) i=j i:=fun i hi=>by simp[gF,hi]
 have hp:=aP hM;refine⟨fun i i' b0 hi hi' h h'=>?_,fun i b0 hi h=>?_,fun i bx' h hf=>?_,fun i sz n b0 h hj=>?_,fun i sz ver xs h=>?_,fun i b0 hi h off hx=>?_,fun b off h=>bz (hr.AD b off h) q.size⟩
 ·simp only[cG] at hi hi'
  by_cases e:i=p<;>by_cases e':i'=p
  ·omega
  ·have h1:b=b0:=by simpa[gF,e] using h
   rw[up i' e'] at h';have:=hr.lt i' b0 hi' h';omega
  ·have h1:b=b0:=by simpa[gF,e'] using h'
   rw[up i e] at h;have:=hr.lt i b0 hi h;omega
  ·rw[up i e] at h;rw[up i' e'] at h';exact hr.inj i i' b0 hi hi' h h'
 ·simp only[cG] at hi
  by_cases e:i=p
  ·have h1:b=b0:=by simpa[gF,e] using h
   omega
  ·rw[up i e] at h;exact bz (hr.lt i b0 hi h) q.size
 ·by_cases e:i=p
  ·subst e;rw[eb hp] at h;cases h;exact⟨b,by simp[gF],hbox _ _ ext⟩
  ·rw[cK (eS e)] at h;obtain⟨b0,h1,h2⟩:=hr.fix i bx' h hf;exact⟨b0,by rw[up i e]; exact h1,h2.mono ext (hb b0 (hr.lt i b0 (aP h) h1))⟩
 ·by_cases e:i=p
  ·subst e; rw[eb hp] at h; cases h
  ·rw[cK (eS e)] at h;rw[up i e] at hj;obtain⟨vs,t,h1⟩:=hr.tick i sz n b0 h hj;exact⟨vs,t,(hb b0 (lt_of_block h1)).trans h1⟩
 ·by_cases e:i=p
  ·subst e; rw[eb hp] at h; cases h
  ·rw[cK (eS e)] at h;exact qG hr ext h (up i e) fun b0 h1=>hb b0 (hr.lt i b0 (aP h) h1)
 ·simp only[cG] at hi
  by_cases e:i=p
  ·have h1:b=b0:=by simpa[gF,e] using h
   have h2:=hr.AD b0 off hx;omega
  ·rw[up i e] at h;exact hr.vj i b0 hi h off hx
def IJ(hr:Rel j M w){p:Nat}(hM:M[p]?=some .vT){cs:List ag}{vs:Array Value}(hc:RC j M w cs vs)(t:TypeId) :
  iU j M w (.ptr p 0,M.set p (.cells cs)) (.pointer (some ⟨w.heap.size,0,none⟩)) { w with heap:=w.heap.push (.cells vs t (0,0)) }:=by
 have q:Quiet w { w with heap:=w.heap.push (.cells vs t (0,0)) }:=⟨dv,rfl,rfl,rfl⟩
 have hb:∀b,b<w.heap.size->({ w with heap:=w.heap.push (.cells vs t (0,0)) }:World).heap[b]?=w.heap[b]?:=fun b hb=>by
  show(w.heap.push _)[b]?=_
  rw[fW,aL aI]
 have hn:({ w with heap:=w.heap.push (.cells vs t (0,0)) }:World).heap[w.heap.size]?=some (.cells vs t (0,0)):=dv
 have hp:=aP hM;exact⟨gF j p (some w.heap.size),hr.fill hM (av _) dv q hb (fun j' M' hx=>⟨vs,t,hn,hc.1,fun i c v h1 h2=>(hc.2 i c v h1 h2).mono hx⟩),Ext.fill hM (av _) q hb,.ptr (by simpa using hp) ⟨cs,eb hp⟩ (by simp[gF])⟩
end
variable {P:Program} {own:List Nat} {o:Oper}
def Ot{l:List ag}{t:TypeId}(hop:o.op = .alloc t)(h:OJ P own o=some (.yR l)):∃i zv,P.info? t=some i/\i.zero=some zv/\th zv.cells.toList=some l:=by
 simp only[OJ,hop] at h;obtain⟨i,hi,h⟩:=bf h;obtain⟨z,hz,h⟩:=bf h;obtain⟨l',hl,h⟩:=bf h;split at h
 ·split at h
  ·split at h
   ·obtain⟨n,hn,h⟩:=bf h;cases h
   ·cases h
  ·injection h with h; cases h; exact⟨i,z,hi,hz,hl⟩
 ·injection h with h; cases h; exact⟨i,z,hi,hz,hl⟩
def Ou{l:List ag}{t0:TypeId}(hop:o.op = .alloc t0)(h:OJ P own o=some (.yR l))(a:Act)(w:World):∃vs t,(∀j M w',RC j M w' l vs)/\rj P o a w (.pointer (some ⟨w.heap.size,0,none⟩)) { w with heap:=w.heap.push (.cells vs t (0,0)) }:=by
 obtain⟨i,zv,hi,hz,hl⟩:=Ot hop h;refine⟨zv.cells,t0,fun j M w'=>?_,.inl (by simp[execOp,hop,Instr.alloc,zeroValue,pY hi,hz,newVar,newRow])⟩
 obtain⟨h1,h2⟩:=qF (j:=j) (M:=M) (w:=w') hl;exact⟨by simpa using h1,fun i c v hc hv=>h2 i c v hc (by simpa using hv)⟩
end
section
open Go Go.RowKit
variable [kH]
theorem zh{x:Nat}:∀(l a:List Nat),x∈kc a l↔x∈a\/x∈l
 | [],a=>by simp[kc]
 |y::r,a=>by
  rw[kc,zh r]
  grind
theorem rE:∀(l a:List Nat),a.Nodup->(kc a l).Nodup
 | [],a,h=>h
 |y::r,a,h=>by
  refine rE r _ ?_
  grind
def JE(M:aC)(l:List Nat):(reach M l).Nodup:=rE _ _ (rE _ _ (rE _ _ (rE _ _ lF)))
def PK{M:aC}{l:List Nat}{x:Nat}(h:x∈l):x∈reach M l:=by
 simp_all [reach,kD,zh]
theorem Gd{M:aC}{x i:Nat}{b:cJ}:∀ {l:List Nat},i∈l->M[i]?=some b->x∈b.ids->x∈qz M l
 | [],h,_,_=>ka
 |k::r,h,hb,hx=>by
  rw[qz,bo];rcases bI.1 h with rfl|h
  ·grind [fc]
  ·exact .inr (Gd h hb hx)
theorem OT{M:aC}{ids:List Nat}(h:kD M ids=ids){i x:Nat}{b:cJ}(hi:i∈ids)(hb:M[i]?=some b)(hx:x∈b.ids):x∈ids:=by
 rw[<-h,kD,zh]
 grind [Gd]
theorem uf:∀ {ids:List Nat} {x:Nat},x∈ids->ids[iw ids x]?=some x
 | [],_,h=>ka
 |a::l,x,h=>by
  rw[iw];split
  ·grind
  ·rcases bI.1 h with rfl|h
   ·omega
   ·simpa using uf h
def uR{ids:List Nat}{x:Nat}(h:x∈ids):iw ids x<ids.length:=aP (uf h)
theorem CX:∀ {ids:List Nat} {i x:Nat},ids.Nodup->ids[i]?=some x->iw ids x=i
 | [],i,x,_,h=>ka
 |a::l,i,x,hn,h=>by
  rw[iw];have hn':=oO.1 hn;cases i with
  |zero=>grind
  |succ i =>
   have h':l[i]?=some x:=ka;rw[aL ka,CX hn'.2 h']
def Mx{ids:List Nat}{x:Nat}(h:x∈ids):wD ids (iw ids x)=x:=by rw[wD,fc,uf h]; rfl
def aep{ids:List Nat}{i x:Nat}(h:ids[i]?=some x):wD ids i=x:=by rw[wD,fc,h]; rfl
theorem Et{M:aC}{ρ:Nat->Nat}:∀ {l:List Nat} {B:aC},j5 M ρ l=some B->B.length=l.length/\∀(i id:Nat),l[i]?=some id->∃b,M[id]?=some b/\b.flat=true/\B[i]?=some (b.pq ρ)
 | [],B,h=>by grind [j5]
 |k::r,B,h=>by
  simp[j5,fc] at h;split at h
  ·split at h
   ·obtain⟨l,hl,h⟩:=bp h;injection h with h; obtain⟨h1,h2⟩:=Et hl
    grind
   grind
  grind
theorem wz{ids:List Nat}:∀ {l:List Nat} {B M:aC},l.Nodup->l.length=B.length->(mh ids M l B).length=M.length/\(∀i,i∉l->(mh ids M l B)[i]?=M[i]?) /\
  ∀(i id:Nat)(b:cJ),l[i]?=some id->id<M.length->B[i]?=some b->(mh ids M l B)[id]?=some (b.pq (wD ids))
 | [],B,M,_,_=>by simp[mh]
 |k::r,[],M,_,hl=>by simp at hl
 |k::r,b::B,M,hn,hl=>by
  rw[mh,fe];have hn':=oO.1 hn;obtain⟨h1,h2,h3⟩:=wz (ids:=ids) (B:=B) (M:=M.set k (b.pq (wD ids))) hn'.2 ka
  grind
def NP(ρ:Nat->Nat)(b:cJ):(b.pq ρ).tag=b.tag:=by cases b<;>rfl
def yg{ρ:Nat->Nat}{b:cJ}(h:b.loose=true):b.pq ρ=b:=by cases b<;>first|rfl|cases h
structure Sub(j:J)(M:aC)(w:World)(ids:List Nat)(B:aC):Prop where
 nodup:ids.Nodup
 len:B.length=ids.length
 box:∀(i id:Nat),ids[i]?=some id->∃b,M[id]?=some b/\b.flat=true/\B[i]?=some (b.pq (iw ids))
 closed:∀(i:Nat)(b:cJ),i∈ids->M[i]?=some b->∀x,x∈b.ids->x∈ids
def down(j:J)(M:aC)(ids:List Nat):J:=⟨fun i=>match ids[i]? with|some id=>j id|none=>none,fun b off=>j.X b off\/∃id,id<M.length/\id∉ids/\j id=some b/\¬ ∃sz n,M[id]?=some (.tick sz n)/\off<n*sz⟩
section
variable {j:J} {M B:aC} {w:World} {ids:List Nat}
theorem Sub.at_(s:Sub j M w ids B){id:Nat}(h:id∈ids){b:cJ}(hb:M[id]?=some b):B[iw ids id]?=some (b.pq (iw ids)):=by
 obtain⟨b',h1,_,h2⟩:=s.box _ _ (uf h)
 grind
theorem Sub.inv(s:Sub j M w ids B){i:Nat}{c:cJ}(h:B[i]?=some c):∃id b,ids[i]?=some id/\M[id]?=some b/\b.flat=true/\c=b.pq (iw ids):=by
 have hi:i<ids.length:=by rw[<-s.len]; grind
 obtain⟨b,h1,h2,h3⟩:=s.box i _ (ai hi)
 grind
theorem nt{id:Nat}(h:id∈ids):(down j M ids) (iw ids id)=j id:=by grind [down,uf]
theorem rq{i b:Nat}(h:(down j M ids) i=some b):∃id,ids[i]?=some id/\j id=some b:=by
 grind [down]
def Sub.iz(s:Sub j M w ids B){b off:Nat}(h:oG j M w b off):oG (down j M ids) B w b off:=by
 refine⟨h.lt,fun i hi hj=>?_,fun hx=>?_⟩
 ·obtain⟨id,h1,h2⟩:=rq hj;obtain⟨bx,h3,_,h4⟩:=s.box i _ h1;obtain⟨sz,n,h5,h6⟩:=h.ids _ (aP h3) h2;rw[h3] at h5; cases h5;exact⟨sz,n,h4,h6⟩
 ·rcases hx with hx|⟨id,h1,_,h2,h3⟩
  ·exact h.nx hx
  ·exact h3 (h.ids _ h1 h2)
theorem Sub.WU(s:Sub j M w ids B){x:ag}{v:Value}(h:gn j M w x v)(hf:x.IP=true)(hi:∀i,i∈x.iH->i∈ids):gn (down j M ids) B w (x.ur (iw ids)) v:=by
 cases h with
 |plain h =>
  have:x.ur (iw ids)=x:=by cases h<;>rfl
  rw[this];exact .plain (h.mono fun b off hs=>⟨s.iz hs,rfl⟩)
 |c0 A=>exact .c0 A
 | @own k xs v sz n hk hn hp ht =>
  have hki:k∈ids:=hi k (by simp[ag.iH])
  refine .own (sz:=sz) (n:=n) (s.at_ hki hk) hn (hp.mono fun b off hs=>⟨s.iz hs,rfl⟩) fun he=>?_
  rcases ht he with ⟨g1,g2,g3⟩|⟨b,cap,vs,t,g1,g2,g3,g4,g5⟩
  ·exact .inl ⟨by rw[nt hki]; omega,g2,g3⟩
  ·exact .inr ⟨b,cap,vs,t,by rw[nt hki]; exact g1,g2,g3,g4,g5⟩
 |agg=>cases hf
 |tuple=>cases hf
 | @ptr id off b hid hc hj =>
  have hki:id∈ids:=hi id (by simp[ag.iH])
  obtain⟨cs,hc⟩:=hc;exact .ptr (by rw[s.len]; exact uR hki) ⟨_,s.at_ hki hc⟩ (by rw[nt hki]; omega)
 |jE h=>exact .jE fun k c hk=>⟨(h k c hk).1,s.iz (h k c hk).2.1,(h k c hk).2.2.mono fun b off hs=>⟨s.iz hs,rfl⟩⟩
 |func=>cases hf
 | @iy id b hc hj =>
  have hki:id∈ids:=hi id (by simp[ag.iH])
  obtain⟨ks,vs,hc⟩:=hc;exact .iy ⟨_,_,s.at_ hki hc⟩ (by rw[nt hki]; exact hj)
 | @j8 id b hc hj =>
  have hki:id∈ids:=hi id (by simp[ag.iH])
  obtain⟨ks,vs,hc⟩:=hc;exact .j8 ⟨_,_,s.at_ hki hc⟩ (by rw[nt hki]; omega)
 | @ky t id off b hc hj =>
  have hki:id∈ids:=hi id (by simp[ag.iH])
  obtain⟨cs,hc⟩:=hc;exact .ky ⟨_,s.at_ hki hc⟩ (by rw[nt hki]; exact hj)
 |ra hl hd=>exact .ra hl fun i c v h1 h2=>(hd i c v h1 h2).mono fun b off hs=>⟨s.iz hs,rfl⟩
 | @kl ks vs b es cl hb hfr hx hw hk hv hks hvs =>
  refine .kl hb (fun i _ he=>?_) (fun off hx'=>?_) hw hk hv (fun i k e h1 h2=>(hks i k e h1 h2).mono fun b off hs=>⟨s.iz hs,rfl⟩) (fun i k e h1 h2=>(hvs i k e h1 h2).mono fun b off hs=>⟨s.iz hs,rfl⟩)
  ·obtain⟨id,h1,h2⟩:=rq he;obtain⟨bx,h3,_⟩:=s.box _ _ h1
   grind
  ·rcases hx' with hx'|⟨id,h1,_,h2,_⟩
   ·exact hx off hx'
   grind
 | @cz id ver sz0 lo hi v h0 hid hM hv =>
  have hki:id∈ids:=hi id (by simp[ag.iH])
  have hb:=ai hid;have hat:=s.at_ hki hb;rw[yg (hM _ hb)] at hat;refine .cz h0 (by rw[s.len]; exact uR hki) (fun bx hbx=>?_) fun sz v' xs h=>?_
  ·rw[hat] at hbx; exact hM bx (hb.trans hbx)
  ·rw[hat] at h;obtain⟨k1,k2⟩:=hv sz v' xs (hb.trans h)
   exact⟨k1,fun he=>by
    obtain⟨l0,l1,l2,⟨l3,l4,l5⟩|⟨b,cap,vs,t,l3,r⟩⟩:=k2 he
    ·exact⟨l0,l1,l2,.inl ⟨l3,by rw[nt hki]; omega,l5⟩⟩
    exact⟨l0,l1,l2,.inr ⟨b,cap,vs,t,by rw[nt hki]; omega,r⟩⟩⟩
 | @jv id ver i off v h0 hid hM hv =>
  have hki:id∈ids:=hi id (by simp[ag.iH])
  have hb:=ai hid;have hat:=s.at_ hki hb;rw[yg (hM _ hb)] at hat;refine .jv h0 (by rw[s.len]; exact uR hki) (fun bx hbx=>?_) fun sz v' xs h=>?_
  ·rw[hat] at hbx; exact hM bx (hb.trans hbx)
  grind [nt]
 |any v=>exact .any v
theorem Sub.Mc(s:Sub j M w ids B){x:ag}{v:Value}(h:gn j M w x v)(hf:x.vA=true)(hi:∀i,i∈x.nJ->i∈ids):gn (down j M ids) B w (x.sf (iw ids)) v:=by
 by_cases hfn:∃f caps,x = .func f caps
 ·obtain⟨f,caps,rfl⟩:=hfn;obtain⟨vs,rfl,hl,hc⟩:=h.rz;refine .func ka fun i c u hci hu=>?_
  rw[aY,aV] at hci;obtain⟨c0,hc0,rfl⟩:=hci;have hm:=aK hc0;exact s.WU (hc i _ u hc0 hu) (bN.1 hf _ hm) fun q hq=>hi q (jt.2 ⟨c0,hm,hq⟩)
 ·have e1:x.sf (iw ids)=x.ur (iw ids):=by cases x<;>first|rfl|grind
  have e2:x.nJ=x.iH:=by cases x<;>first|rfl|grind
  have e3:x.IP=true:=by cases x<;>first|rfl|exact absurd ⟨_,_,rfl⟩ hfn|cases hf
  rw[e1];exact s.WU h e3 (by rw[<-e2]; omega)
theorem Sub.rep(s:Sub j M w ids B){x:ag}{v:Value}(h:gn j M w x v)(hf:x.flat=true)(hi:∀i,i∈x.ids->i∈ids):gn (down j M ids) B w (x.pq (iw ids)) v:=by
 by_cases hag:∃cs,x = .agg cs
 ·obtain⟨cs,rfl⟩:=hag;obtain⟨vs,rfl,hl,hc⟩:=h.ng;refine .agg ka fun i c u hci hu=>?_
  rw[aY,aV] at hci;obtain⟨c0,hc0,rfl⟩:=hci;have hm:=aK hc0;exact s.Mc (hc i _ u hc0 hu) (bN.1 hf _ hm) fun q hq=>hi q (jt.2 ⟨c0,hm,hq⟩)
 ·have e1:x.pq (iw ids)=x.sf (iw ids):=by cases x<;>first|rfl|grind
  have e2:x.ids=x.nJ:=by cases x<;>first|rfl|grind
  have e3:x.vA=true:=by cases x<;>first|exact hf|grind
  rw[e1];exact s.Mc h e3 (by rw[<-e2]; omega)
theorem Sub.rel(s:Sub j M w ids B)(hr:Rel j M w):Rel (down j M ids) B w:=by
 have QG:∀ {i id:Nat},ids[i]?=some id->id<M.length:=fun h=>by
  obtain⟨b,h1,_⟩:=s.box _ _ h
  grind
 refine⟨fun i i' b hi hi' h h'=>?_,fun i b hi h=>?_,fun i cb h hf=>?_,fun i sz n b h hj=>?_,fun i sz ver xs h=>?_,fun i b hi h off hx=>?_,fun b off h=>?_⟩
 ·obtain⟨id,h1,h2⟩:=rq h;obtain⟨id',h1',h2'⟩:=rq h';have:=hr.inj id id' b (QG h1) (QG h1') h2 h2';subst this;rw[<-CX s.nodup h1,CX s.nodup h1']
 ·obtain⟨id,h1,h2⟩:=rq h;exact hr.lt id b (QG h1) h2
 ·obtain⟨id,bx,h1,h2,h3,h4⟩:=s.inv h;subst h4;have hfx:bx.fixed=true:=by cases bx<;>first|rfl|cases hf
  obtain⟨b,g1,g2⟩:=hr.fix id bx h2 hfx;refine⟨b,by grind [down],?_⟩
  have hcl:∀p,p∈bx.ids->p∈ids:=s.closed id _ (aK h1) h2;cases bx with
  |tick sz n=>cases hf
  |cells cs0 =>
   obtain⟨vs,t,k1,k2,k3⟩:=g2;refine⟨vs,t,k1,by simpa using k2,fun q c v hc hv=>?_⟩
   rw[aY,aV] at hc;obtain⟨c0,hc0,rfl⟩:=hc;have hm:=aK hc0;exact s.Mc (k3 q c0 v hc0 hv) (bN.1 h3 c0 hm) fun p hp=>hcl p (jt.2 ⟨c0,hm,hp⟩)
  |map ks vs =>
   obtain⟨es,cl,k1,k2,k3,k4,k5⟩:=g2;refine⟨es,cl,k1,k2,by simpa using k3,fun q c e hc he=>(k4 q c e hc he).mono fun b off hs=>⟨s.iz hs,rfl⟩,fun q c e hc he=>?_⟩
   rw[aY,aV] at hc;obtain⟨c0,hc0,rfl⟩:=hc;have hm:=aK hc0;exact s.rep (k5 q c0 e hc0 he) (bN.1 h3 c0 hm) fun p hp=>hcl p (jt.2 ⟨c0,hm,hp⟩)
  |oa st pos=>exact g2
  |vT=>cases hf
  |arr=>cases hf
 ·obtain⟨id,bx,h1,h2,h3,h4⟩:=s.inv h;obtain⟨id',h1',h2'⟩:=rq hj;rw[h1] at h1'; cases h1';cases bx<;>first|cases h4|skip
  exact hr.tick id _ _ b h2 h2'
 ·obtain⟨id,bx,h1,h2,h3,h4⟩:=s.inv h;cases bx<;>first|cases h4|skip
  obtain⟨g0,g1⟩|⟨b,vs,t,g1,g2,g3,g4,g5⟩:=hr.arr id _ _ _ h2
  ·grind [down]
  exact .inr ⟨b,vs,t,by grind [down],g2,g3,g4,fun q x k c hx hk=>(g5 q x k c hx hk).imp fun u hu=>⟨hu.1,hu.2.mono fun b off hs=>⟨s.iz hs,rfl⟩⟩⟩
 ·obtain⟨id,h1,h2⟩:=rq h;rcases hx with hx|⟨id',g1,g2,g3,_⟩
  ·exact hr.vj id b (QG h1) h2 off hx
  ·have:=hr.inj id id' b (QG h1) g1 h2 g3
   grind
 ·rcases h with h|⟨id,g1,_,g3,_⟩
  ·exact hr.AD b off h
  ·exact hr.lt id b g1 g3
variable {j2:J} {B':aC} {w':World}
open Classical in
noncomputable def Qn(j j2:J)(ids:List Nat):J:=⟨fun id=>if id∈ids then j2 (iw ids id) else j id,j.X⟩
theorem lX{id:Nat}(h:id∈ids):(Qn j j2 ids) id=j2 (iw ids id):=by grind [Qn]
theorem oZ{id:Nat}(h:id∉ids):(Qn j j2 ids) id=j id:=by grind [Qn]
structure wV(j:J)(M B:aC)(w:World)(ids:List Nat)(j2:J)(B':aC)(w':World):Prop where
 sub:Sub j M w ids B
 hr:Rel j M w
 ext:Ext (down j M ids) B w j2 B' w'
 rel:Rel j2 B' w'
 len:B'.length=B.length
 flat:∀b,b∈B'->b.flat=true
variable (bk:wV j M B w ids j2 B' w')
include bk
theorem wV.QG{i id:Nat}(h:ids[i]?=some id):id<M.length:=by
 obtain⟨b,h1,_⟩:=bk.sub.box _ _ h
 grind
def wV.Lz{id:Nat}(h:id∈ids){b:cJ}(hb:B'[iw ids id]?=some b):(mh ids M ids B')[id]?=some (b.pq (wD ids)) :=
 (wz bk.sub.nodup (by rw[bk.len,bk.sub.len])).2.2 _ _ b (uf h) (bk.QG (uf h)) hb
def wV.L6{id:Nat}(h:id∉ids):(mh ids M ids B')[id]?=M[id]?:=(wz bk.sub.nodup (by rw[bk.len,bk.sub.len])).2.1 _ h
def wV.si:(mh ids M ids B').length=M.length:=(wz bk.sub.nodup (by rw[bk.len,bk.sub.len])).1
def wV.some_{id:Nat}(h:id∈ids):∃b,B'[iw ids id]?=some b/\b.flat=true:=by
 have hi:iw ids id<B'.length:=by rw[bk.len,bk.sub.len]; exact uR h
 exact⟨_,ai hi,bk.flat _ (js _)⟩
theorem wV.um{id b:Nat}(hid:id<M.length)(h:id∉ids)(hj:j id=some b):w'.heap[b]?=w.heap[b]?/\∀i,i<B'.length->j2 i≠some b:=by
 refine bk.ext.um b (bk.hr.lt _ b hid hj) fun i hi he=>?_
 obtain⟨id',h1,h2⟩:=rq he;have:=bk.hr.inj _ _ b hid (bk.QG h1) hj h2
 grind
def wV.iz{b off:Nat}(h:oG j2 B' w' b off):oG (Qn j j2 ids) (mh ids M ids B') w' b off:=by
 have hX:=bk.ext.X;have hnx:=h.nx;rw[hX] at hnx;refine⟨h.lt,fun id hid hj=>?_,fun hx=>hnx (.inl hx)⟩
 rw[bk.si] at hid
 by_cases hi:id∈ids
 ·rw[lX hi] at hj;obtain⟨sz,n,h1,h2⟩:=h.ids _ (by rw[bk.len,bk.sub.len]; exact uR hi) hj
  exact⟨sz,n,bk.Lz hi h1,h2⟩
 ·rw[oZ hi] at hj;rw[bk.L6 hi];exact Classical.byContradiction fun hc=>hnx (.inr ⟨id,hid,hi,hj,hc⟩)
def wV.YR:Ext j M w (Qn j j2 ids) (mh ids M ids B') w' where
 len:=by rw[bk.si]; exact av _
 size:=bk.ext.size
 os:=bk.ext.os
 tape:=bk.ext.tape
 output:=bk.ext.output
 X:=rfl
 fix:=fun id bx h hf=>by
  by_cases hi:id∈ids
  ·obtain⟨g1,bx',g2,g3⟩:=bk.ext.fix _ _ (bk.sub.at_ hi h) (by cases bx<;>first|rfl|cases hf)
   rw[lX hi,g1,nt hi];refine⟨rfl,_,bk.Lz hi g2,?_⟩;rw[NP,g3,NP]
  ·rw[oZ hi,bk.L6 hi]; exact⟨rfl,bx,h,rfl⟩
 tick:=fun id sz n h=>by
  by_cases hi:id∈ids
  ·obtain⟨n',g1,g2,g3⟩:=bk.ext.tick _ _ _ (bk.sub.at_ hi h);refine⟨n',g1,bk.Lz hi g2,fun he=>?_⟩
   obtain⟨k1,k2⟩:=g3 he;rw[lX hi,k1,nt hi];exact⟨rfl,fun b vs t hb hv=>k2 b vs t (by rw[nt hi]; exact hb) hv⟩
  ·rw[oZ hi,bk.L6 hi];exact⟨n,av _,h,fun _=>⟨rfl,fun b vs t hb hv=>⟨vs,(bk.um (aP h) hi hb).1.trans hv,rfl⟩⟩⟩
 arr:=fun id sz v xs h=>by
  by_cases hi:id∈ids
  ·rcases bk.ext.arr _ _ _ _ (bk.sub.at_ hi h) with ⟨n',g⟩|⟨v',xs',g2,g3,g4⟩
   ·exact .inl ⟨n',bk.Lz hi g⟩
   ·refine .inr ⟨v',xs',bk.Lz hi g2,g3,fun he=>?_⟩
    obtain⟨k1,k2,k3⟩:=g4 he;rw[lX hi,k1,nt hi];exact⟨rfl,k2,fun b vs t hb hv=>k3 b _ t (by rw[nt hi]; exact hb) hv⟩
  ·rw[oZ hi,bk.L6 hi];exact .inr ⟨v,xs,h,av _,fun _=>⟨rfl,rfl,fun b vs t hb hv=>⟨vs,(bk.um (aP h) hi hb).1.trans hv,rfl⟩⟩⟩
 tags:=bk.ext.tags
 iz:=fun b off h=>by
  obtain⟨h1,h2⟩:=bk.ext.iz b _ (bk.sub.iz h);exact⟨bk.iz h1,h2⟩
 um:=fun b hb h=>by
  have h1:∀i,i<B.length->(down j M _) i≠some b:=fun i _ he=>by
   obtain⟨id,g1,g2⟩:=rq he;exact h id (bk.QG g1) g2
  obtain⟨h2,h3⟩:=bk.ext.um b hb h1;refine⟨h2,fun id hid he=>?_⟩
  rw[bk.si] at hid
  by_cases hi:id∈ids
  ·rw[lX hi] at he;exact h3 _ (by rw[bk.len,bk.sub.len]; exact uR hi) he
  ·rw[oZ hi] at he;exact h id hid he
def wV.Dg{i:Nat}(h:i<B'.length):∃id,ids[i]?=some id/\id∈ids/\wD ids i=id/\iw ids id=i:=by
 have hi:i<ids.length:=by rw[<-bk.sub.len,<-bk.len]; omega
 have hg:=ai hi;exact⟨_,hg,aK hg,aep hg,CX bk.sub.nodup hg⟩
theorem wV.WU{x:ag}{v:Value}(h:gn j2 B' w' x v)(hf:x.IP=true):gn (Qn j j2 ids) (mh ids M ids B') w' (x.ur (wD ids)) v:=by
 cases h with
 |plain h =>
  have:x.ur (wD ids)=x:=by cases h<;>rfl
  rw[this];exact .plain (h.mono fun b off hs=>⟨bk.iz hs,rfl⟩)
 |c0 A=>exact .c0 A
 | @own k xs v sz n hk hn hp ht =>
  obtain⟨id,g1,g2,g3,g4⟩:=bk.Dg (aP hk);simp only[ag.ur,g3];refine .own (sz:=sz) (n:=n) (bk.Lz g2 (b := .tick sz n) (by rw[g4]; exact hk)) hn (hp.mono fun b off hs=>⟨bk.iz hs,rfl⟩) fun he=>?_
  rcases ht he with ⟨e1,e2,e3⟩|⟨b,cap,vs,t,e1,e2,e3,e4,e5⟩
  ·exact .inl ⟨by rw[lX g2,g4]; omega,e2,e3⟩
  ·exact .inr ⟨b,cap,vs,t,by rw[lX g2,g4]; grind,e2,e3,e4,e5⟩
 | @ky t k off b hc hj =>
  obtain⟨cs,hc⟩:=hc;obtain⟨id,g1,g2,g3,g4⟩:=bk.Dg (aP hc);simp only[ag.ur,g3];exact .ky ⟨_,bk.Lz g2 (b := .cells cs) (by rw[g4]; omega)⟩ (by rw[lX g2,g4]; omega)
 |agg=>cases hf
 |tuple=>cases hf
 | @ptr k off b hid hc hj =>
  obtain⟨id,g1,g2,g3,g4⟩:=bk.Dg hid;obtain⟨cs,hc⟩:=hc;simp only[ag.ur,g3];exact .ptr (by rw[bk.si]; exact bk.QG g1) ⟨_,bk.Lz g2 (b := .cells cs) (by rw[g4]; exact hc)⟩ (by rw[lX g2,g4]; omega)
 |jE h=>exact .jE fun k c hk=>⟨(h k c hk).1,bk.iz (h k c hk).2.1,(h k c hk).2.2.mono fun b off hs=>⟨bk.iz hs,rfl⟩⟩
 |func=>cases hf
 | @iy k b hc hj =>
  obtain⟨ks,vs,hc⟩:=hc;obtain⟨id,g1,g2,g3,g4⟩:=bk.Dg (aP hc);simp only[ag.ur,g3];exact .iy ⟨_,_,bk.Lz g2 (b := .map ks vs) (by rw[g4]; omega)⟩ (by rw[lX g2,g4]; omega)
 | @j8 k b hc hj =>
  obtain⟨st,p,hc⟩:=hc;obtain⟨id,g1,g2,g3,g4⟩:=bk.Dg (aP hc);simp only[ag.ur,g3];exact .j8 ⟨_,_,bk.Lz g2 (b := .oa st p) (by rw[g4]; exact hc)⟩ (by rw[lX g2,g4]; exact hj)
 |ra hl hd=>exact .ra hl fun i c v h1 h2=>(hd i c v h1 h2).mono fun b off hs=>⟨bk.iz hs,rfl⟩
 | @kl ks vs b es cl hb hfr hx hw hk hv hks hvs =>
  rw[bk.ext.X] at hx;refine .kl hb (fun id hid he=>?_) (fun off hx'=>hx off (.inl hx')) hw hk hv (fun i k e h1 h2=>(hks i k e h1 h2).mono fun b off hs=>⟨bk.iz hs,rfl⟩) (fun i k e h1 h2=>(hvs i k e h1 h2).mono fun b off hs=>⟨bk.iz hs,rfl⟩)
  rw[bk.si] at hid
  by_cases m:id∈ids
  ·rw[lX m] at he;exact hfr _ (by rw[bk.len,bk.sub.len]; exact uR m) he
  ·rw[oZ m] at he
   by_cases ht:∃sz n,M[id]?=some (.tick sz n)
   ·obtain⟨sz,n,ht⟩:=ht;refine hx (n*sz) (.inr ⟨id,hid,m,he,?_⟩)
    grind
   ·exact hx 0 (.inr ⟨id,hid,m,he,fun⟨sz,n,h1,_⟩=>ht ⟨sz,n,h1⟩⟩)
 | @cz k ver sz0 lo hi v h0 hid hM hv =>
  obtain⟨id,g1,g2,g3,g4⟩:=bk.Dg hid;have hb:=ai hid;have hin:=bk.Lz g2 (b:=B'[k]) (by rw[g4]; exact hb)
  rw[yg (hM _ hb)] at hin;simp only[ag.ur,g3];refine .cz h0 (by rw[bk.si]; exact bk.QG g1) (fun bx hbx=>?_) fun sz v' xs h=>?_
  ·rw[hin] at hbx; exact hM bx (hb.trans hbx)
  ·rw[hin] at h;obtain⟨k1,k2⟩:=hv sz v' xs (hb.trans h)
   exact⟨k1,fun he=>by
    obtain⟨l0,l1,l2,⟨l3,l4,l5⟩|⟨b,cap,vs,t,l3,r⟩⟩:=k2 he
    ·exact⟨l0,l1,l2,.inl ⟨l3,by rw[lX g2,g4]; exact l4,l5⟩⟩
    exact⟨l0,l1,l2,.inr ⟨b,cap,vs,t,by rw[lX g2,g4]; exact l3,r⟩⟩⟩
 | @jv k ver i off v h0 hid hM hv =>
  obtain⟨id,g1,g2,g3,g4⟩:=bk.Dg hid;have hb:=ai hid;have hin:=bk.Lz g2 (b:=B'[k]) (by rw[g4]; exact hb)
  rw[yg (hM _ hb)] at hin;simp only[ag.ur,g3];refine .jv h0 (by rw[bk.si]; exact bk.QG g1) (fun bx hbx=>?_) fun sz v' xs h=>?_
  ·rw[hin] at hbx; exact hM bx (hb.trans hbx)
  grind [lX]
 |any v=>exact .any v
theorem wV.Mc{x:ag}{v:Value}(h:gn j2 B' w' x v)(hf:x.vA=true):gn (Qn j j2 ids) (mh ids M ids B') w' (x.sf (wD ids)) v:=by
 by_cases hfn:∃f caps,x = .func f caps
 ·obtain⟨f,caps,rfl⟩:=hfn;obtain⟨vs,rfl,hl,hc⟩:=h.rz;refine .func ka fun i c u hci hu=>?_
  rw[aY,aV] at hci;obtain⟨c0,hc0,rfl⟩:=hci;exact bk.WU (hc i _ u hc0 hu) (bN.1 hf _ (aK hc0))
 ·have e1:x.sf (wD ids)=x.ur (wD ids):=by cases x<;>first|rfl|grind
  have e3:x.IP=true:=by cases x<;>first|rfl|exact absurd ⟨_,_,rfl⟩ hfn|cases hf
  rw[e1];exact bk.WU h e3
theorem wV.rep{x:ag}{v:Value}(h:gn j2 B' w' x v)(hf:x.flat=true):gn (Qn j j2 ids) (mh ids M ids B') w' (x.pq (wD ids)) v:=by
 by_cases hag:∃cs,x = .agg cs
 ·obtain⟨cs,rfl⟩:=hag;obtain⟨vs,rfl,hl,hc⟩:=h.ng;refine .agg ka fun i c u hci hu=>?_
  rw[aY,aV] at hci;obtain⟨c0,hc0,rfl⟩:=hci;exact bk.Mc (hc i _ u hc0 hu) (bN.1 hf _ (aK hc0))
 ·have e1:x.pq (wD ids)=x.sf (wD ids):=by cases x<;>first|rfl|grind
  have e3:x.vA=true:=by cases x<;>first|exact hf|grind
  rw[e1];exact bk.Mc h e3
theorem wV.at5{x:ag}{v:Value}(h:gn j2 B' w' x v)(hf:x.wH=true):gn (Qn j j2 ids) (mh ids M ids B') w' (x.Ar (wD ids)) v:=by
 by_cases ht:∃vs,x = .tuple vs
 ·obtain⟨cs,rfl⟩:=ht;obtain⟨vs,rfl,hl,hc⟩:=h.tN;refine .tuple ka fun i c u hci hu=>?_
  rw[aY,aV] at hci;obtain⟨c0,hc0,rfl⟩:=hci;exact bk.rep (hc i _ u hc0 hu) (bN.1 hf _ (aK hc0))
 ·have e1:x.Ar (wD ids)=x.pq (wD ids):=by cases x<;>first|rfl|grind
  have e3:x.flat=true:=by cases x<;>first|exact hf|grind
  rw[e1];exact bk.rep h e3
theorem wV.anI:Rel (Qn j j2 ids) (mh ids M ids B') w':=by
 have ltin:∀ {id:Nat},id∈ids->iw ids id<B'.length:=fun h=>by rw[bk.len,bk.sub.len]; exact uR h
 refine⟨fun id id' b hi hi' h h'=>?_,fun id b hi h=>?_,fun id cb h hf=>?_,fun id sz n b h hj=>?_,fun id sz ver xs h=>?_,fun id b hi h off hx=>?_,fun b off h=>bz (bk.hr.AD b off h) bk.ext.size⟩
 ·rw[bk.si] at hi hi'
  by_cases m:id∈ids<;>by_cases m':id'∈ids
  ·rw[lX m] at h;rw[lX m'] at h';have:=bk.rel.inj _ _ b (ltin m) (ltin m') h h';rw[<-Mx m,this,Mx m']
  ·rw[lX m] at h;rw[oZ m'] at h';exact absurd h ((bk.um hi' m' h').2 _ (ltin m))
  ·rw[oZ m] at h;rw[lX m'] at h';exact absurd h' ((bk.um hi m h).2 _ (ltin m'))
  ·rw[oZ m] at h;rw[oZ m'] at h';exact bk.hr.inj id id' b hi hi' h h'
 ·rw[bk.si] at hi
  by_cases m:id∈ids
  ·rw[lX m] at h; exact bk.rel.lt _ b (ltin m) h
  ·rw[oZ m] at h; exact bz (bk.hr.lt id b hi h) bk.ext.size
 ·by_cases m:id∈ids
  ·obtain⟨bx,h1,h2⟩:=bk.some_ m;rw[bk.Lz m h1] at h;injection h with h
   subst h;have hfx:bx.fixed=true:=by cases bx<;>first|rfl|cases hf
   obtain⟨b,g1,g2⟩:=bk.rel.fix _ bx h1 hfx;refine⟨b,by rw[lX m]; omega,?_⟩
   cases bx with
   |tick sz n=>cases hf
   |cells cs0 =>
    obtain⟨vs,t,k1,k2,k3⟩:=g2;refine⟨vs,t,k1,ka,fun q c v hc hv=>?_⟩
    rw[aY,aV] at hc;obtain⟨c0,hc0,rfl⟩:=hc;exact bk.Mc (k3 q c0 v hc0 hv) (bN.1 h2 c0 (aK hc0))
   |map ks vs =>
    obtain⟨es,cl,k1,k2,k3,k4,k5⟩:=g2;refine⟨es,cl,k1,k2,ka,fun q c e hc he=>(k4 q c e hc he).mono fun b off hs=>⟨bk.iz hs,rfl⟩,fun q c e hc he=>?_⟩
    rw[aY,aV] at hc;obtain⟨c0,hc0,rfl⟩:=hc;exact bk.rep (k5 q c0 e hc0 he) (bN.1 h2 c0 (aK hc0))
   |oa st pos=>exact g2
   |vT=>cases hf
   |arr=>cases hf
  ·rw[bk.L6 m] at h;obtain⟨b,g1,g2⟩:=bk.hr.fix id cb h hf;exact⟨b,by rw[oZ m]; omega,g2.mono bk.YR (bk.um (aP h) m g1).1⟩
 ·by_cases m:id∈ids
  ·obtain⟨bx,h1,h2⟩:=bk.some_ m;rw[bk.Lz m h1] at h;injection h with h
   rw[lX m] at hj;cases bx<;>first|cases h|skip
   exact bk.rel.tick _ _ _ b h1 hj
  ·rw[bk.L6 m] at h;rw[oZ m] at hj;obtain⟨vs,t,g⟩:=bk.hr.tick id sz n b h hj;exact⟨vs,t,(bk.um (aP h) m hj).1.trans g⟩
 ·by_cases m:id∈ids
  ·obtain⟨bx,h1,h2⟩:=bk.some_ m;rw[bk.Lz m h1] at h;injection h with h
   cases bx<;>first|cases h|skip
   obtain⟨g0,g1⟩|⟨b,vs,t,g1,g2,g3,g4,g5⟩:=bk.rel.arr _ _ _ _ h1
   ·grind [lX]
   exact .inr ⟨b,vs,t,by rw[lX m]; omega,g2,g3,g4,fun q x k c hx hk=>(g5 q x k c hx hk).imp fun u hu=>⟨hu.1,hu.2.mono fun b off hs=>⟨bk.iz hs,rfl⟩⟩⟩
  ·rw[bk.L6 m] at h;exact qG bk.hr bk.YR h (oZ m) fun b hb=>(bk.um (aP h) m hb).1
 ·rw[bk.si] at hi
  by_cases m:id∈ids
  ·rw[lX m] at h;have:=bk.rel.vj _ b (ltin m) h off;rw[bk.ext.X] at this;exact this (.inl hx)
  ·rw[oZ m] at h;exact bk.hr.vj id b hi h off hx
end
theorem Gv{ρ:Nat->Nat}{x:ag}(h:x.iH=[]):x.ur ρ=x:=by
 cases x with
 |slice tk xs=>cases tk<;>first|rfl|grind [ag.iH]
 |ptr=>grind [ag.iH]
 |iy=>grind [ag.iH]
 |j8=>grind [ag.iH]
 |cz=>grind [ag.iH]
 |jv=>grind [ag.iH]
 |ky=>grind [ag.iH]
 |_=>rfl
def Jv{ρ:Nat->Nat}:∀ {l:List ag},l.flatMap ag.iH=[]->l.map (ag.ur ρ)=l
 | [],_=>rfl
 |c::r,h=>by
  rw[List.flatMap_cons,List.append_eq_nil_iff] at h;rw[aF,Gv h.1,Jv h.2]
theorem Gw{ρ:Nat->Nat}{x:ag}(h:x.nJ=[]):x.sf ρ=x:=by
 by_cases hf:∃f caps,x = .func f caps
 ·obtain⟨f,caps,rfl⟩:=hf;exact congrArg _ (Jv h)
 ·have e1:x.sf ρ=x.ur ρ:=by cases x<;>first|rfl|grind
  have e2:x.nJ=x.iH:=by cases x<;>first|rfl|grind
  grind [Gv]
def Jw{ρ:Nat->Nat}:∀ {l:List ag},l.flatMap ag.nJ=[]->l.map (ag.sf ρ)=l
 | [],_=>rfl
 |c::r,h=>by
  rw[List.flatMap_cons,List.append_eq_nil_iff] at h;rw[aF,Gw h.1,Jw h.2]
theorem WT{ρ:Nat->Nat}{x:ag}(_:x.flat=true)(h:x.ids=[]):x.pq ρ=x:=by
 by_cases hf:∃cs,x = .agg cs
 ·obtain⟨cs,rfl⟩:=hf;exact congrArg _ (Jw h)
 ·have e1:x.pq ρ=x.sf ρ:=by cases x<;>first|rfl|grind
  have e2:x.ids=x.nJ:=by cases x<;>first|rfl|grind
  grind [Gw]
theorem rn{P:Program}{C:eR}(hC:nP P C){j:J}{M:aC}{w:World}{f:Nat}{vs:List ag}{us:Array Value}{x:ag×aC}(hr:Rel j M w)(hG:sQ j M w)(h:aU C f vs M=some x)
  (hl:vs.length=us.size) (hv:∀(i:Nat)(c:ag)(u:Value),vs[i]?=some c->us[i]?=some u->gn j M w c u) :
  lL P f=true/\Calls P f us w fun e w'=>vV j M w x e w':=by
 unfold aU at h;generalize hids:reach M (vs.flatMap ag.ids)=ids at h;split at h
 ·rename_i hf;obtain⟨B,hB,h⟩:=bp h;split at h
  ·rename_i hcl;obtain⟨y,hy,h⟩:=bp h;split at h
   ·rename_i hcond;obtain⟨c1,c2,c3⟩:=hcond;cases h;obtain⟨h1,h2⟩:=hC _ _ _ _ hy;obtain⟨p1,p2⟩:=Et hB;have s:Sub j M w ids B:=⟨by rw[<-hids]; simp[JE],p1,p2,fun i b hi hb x hx=>OT hcl hi hb hx⟩
    refine⟨h1,(h2 (down j M ids) w us (s.rel hr) (hG.iz fun b off h=>s.iz h) ka fun i c u hc hu=>?_).mono ?_⟩
    ·rw[aY,aV] at hc;obtain⟨c0,hc0,rfl⟩:=hc;have hm:=aK hc0;exact s.rep (hv i c0 u hc0 hu) (bN.1 hf c0 hm) fun q hq=>by rw[<-hids]; exact PK (jt.2 ⟨c0,hm,hq⟩)
    ·rintro e w' (⟨v,rfl,j2,g1,g2,g3⟩|⟨u,rfl,hu,j2,g1,g2⟩)
     ·have bk:wV j M B w ids j2 y.2 w':=⟨s,hr,g2,g1,c1,fun b hb=>bN.1 c3 b hb⟩
      exact .inl ⟨v,rfl,Qn j j2 ids,bk.anI,bk.YR,bk.at5 g3 c2⟩
     ·have bk:wV j M B w ids j2 y.2 w':=⟨s,hr,g2,g1,c1,fun b hb=>bN.1 c3 b hb⟩
      exact .inr ⟨u,rfl,by rw[hu]; rfl,Qn j j2 ids,bk.anI,bk.YR⟩
   grind
  grind
 grind
theorem W6{j j2:J}{G:aC}{w w':World}{p sz n:Nat}{xs:List ag}{v:Value}(hr:Rel j G w)(hp:G[p]?=some .vT)(h2:Rel j2 [.tick sz n] w')(hx:Ext (down j G []) [] w j2 [.tick sz n] w')
  (hv:gn j2 [.tick sz n] w' (.slice (.own 0) xs) v):iU j G w (.slice (.own p) xs,G.set p (.tick sz n)) v w':=by
 have hpl:=aP hp
 have hold:∀b,b<w.heap.size->w'.heap[b]?=w.heap[b]?/\j2 0≠some b:=fun b hb=>by
  obtain⟨h1,h3⟩:=hx.um b hb (fun i hi=>by simp at hi)
  exact⟨h1,h3 0 dv⟩
 have up:∀i,i≠p->gF j p (j2 0) i=j i:=fun i hi=>by simp[gF,hi]
 have atp:gF j p (j2 0) p=j2 0:=by simp[gF]
 have nX:∀ {b off},oG j2 [.tick sz n] w' b off->¬j.X b off/\∀id,id<G.length->j id=some b->∃sz n,G[id]?=some (.tick sz n)/\off<n*sz:=fun {b off} hs=>by
  have:=hs.nx;rw[hx.X] at this;refine⟨fun h=>this (.inl h),fun id hid hj=>?_⟩
  by_cases hc:∃sz n,G[id]?=some (.tick sz n)/\off<n*sz
  ·exact hc
  ·exact absurd (Or.inr ⟨id,hid,dv,hj,hc⟩) this
 have iz:∀b off,oG j2 [.tick sz n] w' b off->oG (gF j p (j2 0)) (G.set p (.tick sz n)) w' b off:=fun b off hs=>by
  obtain⟨n1,n2⟩:=nX hs;refine⟨hs.lt,fun id hid hj=>?_,n1⟩
  by_cases e:id=p
  ·subst e;rw[atp] at hj;obtain⟨s1,m1,h3,h4⟩:=hs.ids 0 dv hj
   grind
  grind
 have q:Quiet w w':=⟨hx.size,hx.os,hx.tape,hx.output⟩
 have ext:Ext j G w (gF j p (j2 0)) (G.set p (.tick sz n)) w':={
  len:=dv
  size:=q.size
  os:=q.os
  tape:=q.tape
  output:=q.output
  X:=rfl
  fix:=fun i bx h hf=>by
   have e:i≠p:=by rintro rfl; rw[hp] at h; cases h; cases hf
   grind
  tick:=fun i sz n h=>by
   grind
  arr:=fun i sz v xs h=>by
   grind
  tags:=fun b0 vs0 t0 fr0 h=>⟨vs0,fr0,(hold b0 (lt_of_block h)).1.trans h,rfl⟩
  iz:=fun b0 off h=>by
   refine⟨⟨bz h.1 q.size,fun id hid hj=>?_,h.3⟩,World.cell?_of_block (w:=w) (hold b0 h.1).1⟩
   by_cases e:id=p
   ·subst e; rw[atp] at hj; exact absurd hj (hold b0 h.1).2
   ·rw[cK (eS e)];rw[up id e] at hj;exact h.2 id (by simpa using hid) hj
  um:=fun b0 cL h=>by
   grind }
 refine⟨gF j p (j2 0),⟨fun i i' b0 hi hi' h h'=>?_,fun i b0 hi h=>?_,fun i bx' h hf=>?_,fun i sz0 n0 b0 h hj=>?_,fun i sz0 ver ys h=>?_,fun i b0 hi h off hxx=>?_,fun b off h=>bz (hr.AD b off h) q.size⟩,ext,?_⟩
 ·simp only[cG] at hi hi'
  by_cases e:i=p<;>by_cases e':i'=p
  ·omega
  ·subst e;rw[atp] at h; rw[up i' e'] at h';exact absurd h (hold b0 (hr.lt i' b0 hi' h')).2
  ·subst e';rw[atp] at h'; rw[up i e] at h;exact absurd h' (hold b0 (hr.lt i b0 hi h)).2
  ·rw[up i e] at h; rw[up i' e'] at h';exact hr.inj i i' b0 hi hi' h h'
 ·simp only[cG] at hi
  by_cases e:i=p
  ·subst e; rw[atp] at h; exact h2.lt 0 b0 dv h
  ·rw[up i e] at h;exact bz (hr.lt i b0 hi h) q.size
 ·by_cases e:i=p
  ·subst e;rw[eb hpl] at h;cases h; cases hf
  ·rw[cK (eS e)] at h;obtain⟨b0,h1,h3⟩:=hr.fix i bx' h hf;exact⟨b0,by rw[up i e]; exact h1,h3.mono ext (hold b0 (hr.lt i b0 (aP h) h1)).1⟩
 ·by_cases e:i=p
  ·subst e; rw[atp] at hj;exact h2.tick 0 sz n b0 rfl hj
  ·rw[cK (eS e)] at h;rw[up i e] at hj;obtain⟨vs,t,h1⟩:=hr.tick i sz0 n0 b0 h hj;exact⟨vs,t,(hold b0 (lt_of_block h1)).1.trans h1⟩
 ·by_cases e:i=p
  ·subst e; rw[eb hpl] at h; cases h
  ·rw[cK (eS e)] at h;exact qG hr ext h (up i e) fun b0 h1=>(hold b0 (hr.lt i b0 (aP h) h1)).1
 ·simp only[cG] at hi
  by_cases e:i=p
  ·subst e; rw[atp] at h;exact absurd h (hold b0 (hr.AD b0 off hxx)).2
  ·rw[up i e] at h;exact hr.vj i b0 hi h off hxx
 ·cases hv with
  |plain h=>cases h
  |own hk hn h ht =>
   simp at hk;obtain⟨rfl,rfl⟩:=hk;refine .own (eb hpl) hn (h.mono fun b off hs=>⟨iz b off hs,rfl⟩) fun he=>?_
   rcases ht he with ⟨h1,h3,h4⟩|⟨b,cap,vs,t,h1,h3,h4,h5,h6⟩
   ·exact .inl ⟨by rw[atp]; exact h1,h3,h4⟩
   ·exact .inr ⟨b,cap,vs,t,by rw[atp]; exact h1,h3,h4,h5,h6⟩
theorem Qc{P:Program}{C:eR}(hC:nP P C){j:J}{G:aC}{w:World}{f p:Nat}{vs:List ag}{us:Array Value}{xs:List ag}{sz n:Nat}(hr:Rel j G w)(hG:sQ j G w)(hp:G[p]?=some .vT)(hf:vs.all ag.flat=true)(hi:vs.flatMap ag.ids=[])
  (h:C f vs []=some (.slice (.own 0) xs,[.tick sz n])) (hl:vs.length=us.size) (hv:∀(i:Nat)(c:ag)(u:Value),vs[i]?=some c->us[i]?=some u->gn j G w c u) :
  lL P f=true/\Calls P f us w fun e w'=>∃v,e = .returned v/\iU j G w (.slice (.own p) xs,G.set p (.tick sz n)) v w':=by
 obtain⟨h1,h2⟩:=hC _ _ _ _ h;have s:Sub j G w _ []:=⟨lF,rfl,fun i id h=>by simp_all,fun i b hi=>ka⟩
 refine⟨h1,(h2 _ w _ (s.rel hr) (hG.iz fun b off h=>s.iz h) hl fun i c u hc hu=>?_).mono ?_⟩
 ·have hm:=aK hc
  have:=s.rep (hv i c u hc hu) (bN.1 hf c hm) fun q hq=>by
   have hci  := mJ.1 hi c hm;rw[hci] at hq; omega
  rwa[WT (bN.1 hf c hm) (mJ.1 hi c hm)] at this
 ·rintro e w' (⟨v,rfl,j2,g1,g2,g3⟩|⟨u,rfl,hu,_⟩)
  ·exact⟨v,rfl,W6 hr hp g1 g2 g3⟩
  grind
section
variable {P:Program} {C:eR} {o:Oper} {bq:Env} {M:aC} {j:J} {w:World} {a:Act} {x:ag×aC}
theorem BT:∀ {xs:List ag} {l:List UInt8},bytesOf xs=some l->l.length=xs.length/\∀(i:Nat)(x:ag),xs[i]?=some x->∃n,x = .int .u8 n/\l[i]?=some (UInt8.ofNat n.toNat)
 | [],l,h=>by grind [bytesOf]
 |y::r,l,h=>by
  unfold bytesOf at h;split at h
  ·grind
  ·rename_i n r' e;injection e with e1 e2; subst e2
   obtain⟨l',h1,h⟩:=bp h;injection h with h; obtain⟨g1,g2⟩:=BT h1
   grind
  grind
def Gm(g:Value->ByteArray->Sem (ForInStep ByteArray))(hg:∀n s,g (.int .u8 n) s=pure (ForInStep.yield (s.push (UInt8.ofNat n.toNat)))):∀(vs:List Value)(l:List UInt8)(s:ByteArray),vs.length=l.length->(∀(i:Nat)(v:Value)(b:UInt8),vs[i]?=some v->l[i]?=some b->∃n,v = .int .u8 n/\b=UInt8.ofNat n.toNat) ->
  (forIn vs s g).run P w = .ok ⟨s.data++l.toArray⟩ w
 | [],[],s,_,_=>by rfl
 |v::vs,b::l,s,hl,h=>by
  obtain⟨n,rfl,rfl⟩:=h 0 v b rfl rfl;have:=Gm g hg vs l (s.push (UInt8.ofNat n.toNat)) ka fun i v b hv hb=>h (i+1) v b ka ka
  simp_all
 | [],_::_,_,hl,_=>ka
 |_::_,[],_,hl,_=>ka
theorem ahm(hr:Rel j M w)(he:cn j M w bq a){s d e:TypeId}{y:Operand}{z:fZ}(hop:o.op = .convert s d y)(hs:P.underlying s=some (.slice e))(hd:P.underlying d=some .string)(hu:P.underlying e=some (.int .u8))
  (hz:eV y=some z) (h:ec C bq M (.b2s z)=some x):∃v w',rj P o a w v w'/\iU j M w x v w':=by
 simp only[ec] at h;have h1:=cR he hz;split at h
 ·rename_i tk xs ev;obtain⟨l,hl,h⟩:=bp h;cases h;rw[ev] at h1;obtain⟨g1,g2⟩:=BT hl;refine⟨.string (bs l),w,.inl ?_,.still hr (.plain (.str _))⟩;obtain⟨A,cap,b,off,sz,vs,hv,hc,ha,hwid,hcell,hrep⟩:=h1.ep.ep
  have hrun:(Conv.bytesToString (a.eval y)).run P w = .ok (.string (bs l)) w:=by
   rw[hv];cases A with
   |none =>
    have:xs=[]:=by
     grind
    subst this;have:l=[]:=dC g1;subst this;rfl
   |some A =>
    have hload:∃us:Array Value,(loadCells A xs.length).run P w = .ok us w/\us.size=l.length/\∀(i:Nat)(v:Value)(b:UInt8),us[i]?=some v->l[i]?=some b->∃n,v = .int .u8 n/\b=UInt8.ofNat n.toNat:=by
     by_cases hx:xs=[]
     ·subst hx;have:l=[]:=dC g1;subst this;exact⟨#[],by rfl,rfl,fun i v b h=>by simp at h⟩
     ·have hA:=ha hx;cases hA
      have hsz:sz=1:=by
       cases xs with
       |nil=>grind
       |cons c r =>
        obtain⟨n,rfl,_⟩:=g2 0 c rfl;exact(hwid (.int .u8 n) dv).symm
      subst hsz
      have cellOf:∀i,i<xs.length->∃n,w.cell? ⟨b,off+i,none⟩=some (vs i)/\vs i = .int .u8 n/\l[i]?=some (UInt8.ofNat n.toNat):=by
       intro i hi;have hxi:xs[i]?=some xs[i]:=ai hi;obtain⟨n,hn,hb⟩:=g2 i _ hxi;have q1:=hcell i _ 0 (.int .u8 n) hxi (by rw[hn]; rfl)
       have q2:=hrep i _ 0 (.int .u8 n) hxi (by rw[hn]; rfl)
       simp only[pP,db] at q1 q2;exact⟨n,q1.1,(gn.plain (j:=j) (M:=M) q2).fX,hb⟩
      refine⟨_,o9 (P:=P) (w:=w) b off xs.length vs (fun k hk=>(cellOf k hk).choose_spec.1),by simp[g1],fun i v c hi hb=>?_⟩
      grind
    obtain⟨us,u1,u2,u3⟩:=hload;simp only[Conv.bytesToString,Sem.run_bind,u1,Result.andThen_ok];rw[<-Array.forIn_toList];refine(congrArg (fun r=>Result.andThen r _) (Gm (P:=P) (w:=w) _ ?_ us.toList l ByteArray.empty aI fun i v b hv hb=>u3 i v b (by simpa using hv) hb)).trans ?_
    ·simp
    simp[bs]
  simp only[execOp,hop,convert,Sem.run_bind,dY hs,dY hd,Result.andThen_ok];rw[hv] at hrun ⊢;cases A<;>simp[dY hu,hrun]
 ·cases h
theorem DC{fk:FK}{k k':ag}{b:Bool}(h:kC fk k k'=some b) :
  (∃t x y,k = .int t x/\k' = .int t y/\fk = .i/\b=(x==y))\/(∃x y,k = .str x/\k' = .str y/\fk = .s/\b=(x==y))\/∃x y,k = .bool x/\k' = .bool y/\fk = .b/\b=(x==y):=by
 unfold kC at h
 grind
def FK.is:FK->TypeDesc->Prop
 | .i,.int _=>True
 | .s,.string=>True
 | .b,.bool=>True
 |_,_=>False
theorem F5{t:TypeId}{fk:FK}(h:D4 P t=some fk):∃d,P.underlying t=some d/\fk.is d:=by
 unfold D4 at h
 split at h<;>first
  |(rename_i hd; cases h; exact⟨_,hd,trivial⟩)
  |grind
theorem J1{fk:FK}{d:TypeDesc}(hd:fk.is d){k k':ag}{b:Bool}(h:kC fk k k'=some b){iz:Nat->Nat->Prop}{v v':Value}(hv:gn j M w k v)(hv':fS w iz k' v') :
  Instr.sameNow d v v'=some b/\(b=true->Instr.sameBits 10000 v' v=true)/\fS w (oG j M w) k v:=by
 rcases DC h with ⟨t,x,y,rfl,rfl,rfl,rfl⟩|⟨x,y,rfl,rfl,rfl,rfl⟩|⟨x,y,rfl,rfl,rfl,rfl⟩
 ·have e1:=hv.fX; subst e1; cases hv';cases d<;>first|exact False.elim hd|skip
  exact⟨by simp[Instr.sameNow],fun h=>by grind [Instr.sameBits],.int _ _⟩
 ·have e1:=hv.kG; subst e1; cases hv';cases d<;>first|exact False.elim hd|skip
  have this:∀x y,(bs x==bs y)=(x==y):=fun x y=>by
   show(x.toArray==y.toArray)=(x==y)
   simp
  exact⟨by simp_all [Instr.sameNow],fun h=>by grind [Instr.sameBits],.str _⟩
 ·have e1:=hv.jD; subst e1; cases hv';cases d<;>first|exact False.elim hd|skip
  exact⟨by simp[Instr.sameNow],fun h=>by grind [Instr.sameBits],.bool _⟩
def Pv{fk:FK}{k:ag}{b:Bool}(h:kC fk k k=some b){v:Value}(hv:gn j M w k v):fS w (oG j M w) k v:=by
 rcases DC h with ⟨t,x,y,rfl,_⟩|⟨x,y,rfl,_⟩|⟨x,y,rfl,_⟩
 ·have:=hv.fX; subst this; exact .int _ _
 ·have:=hv.kG; subst this; exact .str _
 ·have:=hv.jD; subst this; exact .bool _
def Fy{fk:FK}{d:TypeDesc}(hd:fk.is d){t:TypeId}(ht:P.underlying t=some d)(e:Bool)(v:Value):(Instr.checkKey e 10000 t v).run P w = .ok () w:=by
 rw[Instr.checkKey.eq_def];simp only[Sem.run_bind,dY ht];cases fk<;>cases d<;>first|exact False.elim hd|(cases v<;>rfl)
theorem IL{fk:FK}{d:TypeDesc}(hd:fk.is d){k:ag}{v:Value}(hv:gn j M w k v){iz:Nat->Nat->Prop}:∀ {ks vs:List ag} {es:List MapEntry} {r:Option ag} (n:Nat),xu fk k ks vs=some r ->
  ks.length=es.length->vs.length=es.length->(∀(i:Nat)(k:ag)(e:MapEntry),ks[i]?=some k->es[i]?=some e->fS w iz k e.key) ->
  (r=none/\Instr.findNow d v es n=some none)\/∃i u e,r=some u/\vs[i]?=some u/\es[i]?=some e/\Instr.findNow d v es n=some (some (n+i,e.val))
 | [],[],[],r,n,h,_,_,_=>by simp[xu] at h; exact .inl ⟨h.symm,rfl⟩
 |k'::ks,u::vs,e::es,r,n,h,h1,h2,h3=>by
  obtain⟨b,hb,h⟩:=bp h;obtain⟨s1,_⟩:=J1 hd hb hv (h3 0 k' e rfl rfl);rcases lM h with ⟨rfl,h⟩|⟨rfl,h⟩
  ·injection h with h
   exact .inr ⟨0,u,e,h.symm,rfl,rfl,by grind [Instr.findNow]⟩
  ·have hf:Instr.findNow d v (e::es) n=Instr.findNow d v es (n+1):=by rw[Instr.findNow,s1]
   rcases IL hd hv (n+1) h (by simpa using h1) (by simpa using h2) (fun i k e hk he=>h3 (i+1) k e ka ka) with ⟨g1,g2⟩|⟨i,u',e',g1,g2,g3,g4⟩
   ·grind
   ·exact .inr ⟨i+1,u',e',g1,ka,ka,ka⟩
 | [],_::_,[],_,_,_,_,h2,_=>by simp at h2
 |_::_,[],_::_,_,_,_,_,h2,_=>by simp at h2
 | [],_,_::_,_,_,_,h1,_,_=>by simp at h1
 |_::_,_,[],_,_,_,h1,_,_=>by simp at h1
theorem IM{fk:FK}{d:TypeDesc}(hd:fk.is d){k y:ag}{v:Value}(hv:gn j M w k v){iz:Nat->Nat->Prop}:∀ {ks vs:List ag} {es:List MapEntry} {r:List ag×List ag} (n:Nat),xw fk k y ks vs=some r ->
  ks.length=es.length->vs.length=es.length->(∀(i:Nat)(k:ag)(e:MapEntry),ks[i]?=some k->es[i]?=some e->fS w iz k e.key) ->
  fS w (oG j M w) k v/\((r=(ks++[k],vs++[y])/\Instr.findNow d v es n=some none)\/∃i e,r=(ks.set i k,vs.set i y)/\es[i]?=some e/\Instr.sameBits 10000 e.key v=true/\Instr.findNow d v es n=some (some (n+i,e.val)))
 | [],[],[],r,n,h,_,_,_=>by
  obtain⟨b,hb,h⟩:=bp h;injection h with h
  exact⟨Pv hb hv,.inl ⟨h.symm,rfl⟩⟩
 |k'::ks,u::vs,e::es,r,n,h,h1,h2,h3=>by
  obtain⟨b,hb,h⟩:=bp h;obtain⟨s1,s2,s3⟩:=J1 hd hb hv (h3 0 k' e rfl rfl);refine⟨s3,?_⟩;rcases lM h with ⟨rfl,h⟩|⟨rfl,h⟩
  ·injection h with h
   exact .inr ⟨0,e,h.symm,rfl,s2 rfl,by grind [Instr.findNow]⟩
  ·obtain⟨r',h',h⟩:=bp h;cases h;have hf:Instr.findNow d v (e::es) n=Instr.findNow d v es (n+1):=by rw[Instr.findNow,s1]
   rcases(IM hd hv (n+1) h' (by simpa using h1) (by simpa using h2) (fun i k e hk he=>h3 (i+1) k e ka ka)).2 with ⟨g1,g2⟩|⟨i,e',g1,g2,g3,g4⟩
   ·grind
   ·exact .inr ⟨i+1,e',by rw[g1]; rfl,ka,g3,by rw[hf,g4]; grind⟩
 | [],_::_,[],_,_,_,_,h2,_=>ka
 |_::_,[],_::_,_,_,_,_,h2,_=>ka
 | [],_,_::_,_,_,_,h1,_,_=>by simp at h1
 |_::_,_,[],_,_,_,h1,_,_=>ka
def CD.rep{x:ag}{v:Value}(h:CD w (oG j M w) x v):gn j M w x v:=by
 by_cases hag:∃cs,x = .agg cs
 ·obtain⟨cs,rfl⟩:=hag;obtain⟨us,rfl,h2,h3⟩:=h;exact .agg h2 fun i c u hc hu => .plain (h3 i c u hc hu)
 ·cases x<;>first|exact absurd ⟨_,rfl⟩ hag|exact .plain h
theorem Gb(hr:Rel j M w){m:ag}{v:Value}{e:List ag×List ag}(h:mapOf M m=some e)(hm:gn j M w m v):∃(b:Nat) (es:Array MapEntry) (clock:Nat),v = .map (some b)/\w.heap[b]?=some (.map es clock) /\
  e.1.length=es.size/\e.2.length=es.size/\(∀(i:Nat)(k:ag)(e':MapEntry),e.1[i]?=some k->es[i]?=some e'->fS w (oG j M w) k e'.key)/\∀(i:Nat)(k:ag)(e':MapEntry),e.2[i]?=some k->es[i]?=some e'->gn j M w k e'.val:=by
 unfold mapOf at h;split at h
 ·split at h
  ·rename_i ks vs hM;injection h with h; rw[fc] at hM
   obtain⟨b,_,hj,rfl⟩:=hm.vG;obtain⟨b',hj',es,clock,g1,g2,g3,g4,g5⟩:=hr.fix _ _ hM rfl
   grind
  grind
 ·cases h;cases hm with
  |plain h=>cases h
  |kl hb hf hx hw hk hv hks hvs=>exact⟨_,_,_,rfl,hw,hk,hv,hks,fun i k e h1 h2=>(hvs i k e h1 h2).rep⟩
 ·cases h
theorem Ju{zero:ag}{ok:Bool}{r:Option ag}{v:Value}(h:gn j M w (r.getD zero) v):gn j M w (po zero ok r) (if ok then .tuple #[v,.bool r.isSome] else v):=by
 cases ok with
 |false=>exact h
 |true =>
  refine .tuple rfl fun i c u hc hu=>?_
  match i with
  |0=>grind
  |1=>simp at hc hu; subst hc; subst hu; exact .plain (.bool _)
  |n+2=>simp_all
def aaU(hr:Rel j M w)(he:cn j M w bq a){t kt et:TypeId}{m k:Operand}{m' k':fZ}{ok:Bool}{fk:FK}{ie:TypeInfo}{zv:Value}{z:ag}(hop:o.op = .lookup t m k ok)(ht:P.underlying t=some (.map kt et))
  (hk:D4 P kt=some fk) (hi:P.info? et=some ie) (hz:ie.zero=some zv) (hzv:Q1 zv=some z) (hm':eV m=some m') (hk':eV k=some k') (h:ec C bq M (.look fk z ok m' k')=some x) :
  ∃v w',rj P o a w v w'/\iU j M w x v w':=by
 simp only[ec] at h;obtain⟨e,h1,h⟩:=bp h;obtain⟨r,h2,h⟩:=bp h;cases h;obtain⟨d,hd,hfk⟩:=F5 hk;obtain⟨b,es,clock,hv,hb,g1,g2,g3,g4⟩:=Gb hr h1 (cR he hm');have hc:∀q,(Instr.checkKey q 10000 kt (a.eval k)).run P w = .ok () w:=fun q=>Fy hfk hd q _
 rcases IL hfk (cR he hk') (es:=es.toList) 0 h2 (by simpa using g1) (by simpa using g2) (fun i k e hk he=>g3 i k e hk (by simpa using he)) with ⟨rfl,f1⟩|⟨i,u,e',rfl,f2,f3,f1⟩
 ·refine⟨if ok then .tuple #[zv,.bool false] else zv,w,.inl ?_,.still hr (Ju (r:=none) (H0 hzv))⟩
  simp[execOp,hop,Instr.lookup,dY ht,hv,MapKept.run_getObj_map hb,hc,Instr.findKey,dY hd,f1,zeroValue,pY hi,hz]
 ·refine⟨if ok then .tuple #[e'.val,.bool true] else e'.val,w,.inl ?_,.still hr (Ju (r:=some u) (g4 i u e' f2 (by simpa using f3)))⟩
  simp[execOp,hop,Instr.lookup,dY ht,hv,MapKept.run_getObj_map hb,hc,Instr.findKey,dY hd,f1]
def aaR(hr:Rel j M w)(he:cn j M w bq a){c:Call}{y:Operand}{z:fZ}{t k e:TypeId}(hop:o.op = .call c)(hb:c.callee = .builtin .len)(ha:c.args.toList=[y])
  (ht:c.argTypes[0]?=some t) (hs:P.underlying t=some (.map k e)) (hz:eV y=some z) (h:ec C bq M (.Py z)=some x):∃v w',rj P o a w v w'/\iU j M w x v w':=by
 simp only[ec] at h;obtain⟨e,h1,h⟩:=bp h;cases h;obtain⟨b,es,clock,hv,hbl,g1,g2,g3,g4⟩:=Gb hr h1 (cR he hz);have ha':c.args = #[y]:=by rw[<-ha]
 refine⟨.int .i64 e.1.length,w,.inl ?_,.still hr (.plain (.int _ _))⟩;simp[execOp,hop,resolve,hb,invoke,builtin,Builtin.len_,ha',ht,dY hs,hv,MapKept.run_getObj_map hbl,goInt,g1]
def NA(hr:Rel j M w){bx:cJ}{ob:Obj}(hfx:bx.fixed=true)(hh:∀j' M' (w':World),w'.heap[w.heap.size]?=some ob->Holds j' M' w' w.heap.size bx) :
  ∃j':J,Rel j' (M++[bx]) { w with heap:=w.heap.push ob }/\Ext j M w j' (M++[bx]) { w with heap:=w.heap.push ob }/\j' M.length=some w.heap.size:=by
 have q:Quiet w { w with heap:=w.heap.push ob }:=⟨dv,rfl,rfl,rfl⟩
 have hb:∀b,b<w.heap.size->({ w with heap:=w.heap.push ob }:World).heap[b]?=w.heap[b]?:=fun b hb=>by
  show(w.heap.push _)[b]?=_
  rw[fW,aL aI]
 have hn:({ w with heap:=w.heap.push ob }:World).heap[w.heap.size]?=some ob:=dv
 refine⟨gF j M.length (some w.heap.size),hr.push (fun b h=>?_) q hb (fun _=>?_) (fun sz n b h=>by rw[h] at hfx; cases hfx) (fun sz v xs h=>by rw[h] at hfx; cases hfx),Ext.push (fun b h=>?_) q hb,by simp[gF]⟩
 ·cases h; simp
 ·exact⟨_,rfl,fun j' M' hx=>hh j' M' _ hn⟩
 ·injection h with h; omega
def Wr(hr:Rel j M w){t:TypeId}(hop:o.op = .makeMap t none)(h:ec C bq M .mkMap=some x):∃v w',rj P o a w v w'/\iU j M w x v w':=by
 simp only[ec] at h;cases h;obtain⟨j',h1,h2,h3⟩:=NA (ob := .map #[] 0) (bx := .map [] []) hr rfl fun j' M' w' hw=>⟨#[],0,hw,rfl,rfl,fun i k e h=>by simp at h,fun i k e h=>by simp at h⟩
 exact⟨.map (some w.heap.size),_,.inl (by simp[execOp,hop,Instr.makeMap]),j',h1,h2,.iy ⟨[],[],dv⟩ h3⟩
def aaY(hr:Rel j M w)(he:cn j M w bq a){t:TypeId}{y:Operand}{z:fZ}(hop:o.op = .range t y)(ht:P.underlying t=some .string)(hz:eV y=some z)(h:ec C bq M (.Qe z)=some x):∃v w',rj P o a w v w'/\iU j M w x v w':=by
 simp only[ec] at h;have h0:=cR he hz;split at h
 ·rename_i s e;rw[e] at h0;cases h;obtain⟨j',h1,h2,h3⟩:=NA (ob := .stringIter (bs s) 0) (bx := .oa s 0) hr rfl fun j' M' w' hw=>hw
  exact⟨.pointer (some ⟨w.heap.size,0,none⟩),_,.inl (by simp[execOp,hop,Instr.range,dY ht,h0.kG]),j',h1,h2,.j8 ⟨s,0,dv⟩ h3⟩
 ·cases h
def Hz(hr:Rel j M w){id b:Nat}{bx bx':cJ}{ob:Obj}(hM:M[id]?=some bx)(hfx:bx.fixed=true)(htag:bx'.tag=bx.tag)(hj:j id=some b)(hnc:∀vs t fr,w.heap[b]?≠some (.cells vs t fr))
  (hh:∀j' M' (w':World),Ext j M w j' M' w'->w'.heap[b]?=some ob->Holds j' M' w' b bx') :
  Rel j (M.set id bx') { w with heap:=w.heap.setIfInBounds b ob }/\Ext j M w j (M.set id bx') { w with heap:=w.heap.setIfInBounds b ob }:=by
 have q:Quiet w { w with heap:=w.heap.setIfInBounds b ob }:=⟨dv,rfl,rfl,rfl⟩
 have hb:∀b',b'≠b->b'<w.heap.size->({ w with heap:=w.heap.setIfInBounds b ob }:World).heap[b']?=w.heap[b']?:=fun b' hne _=>by
  show(w.heap.setIfInBounds b ob)[b']?=_
  rw[fD (eS hne)]
 have cL:b<w.heap.size:=hr.lt id b (aP hM) hj
 have hn:({ w with heap:=w.heap.setIfInBounds b ob }:World).heap[b]?=some ob:=by
  show(w.heap.setIfInBounds b ob)[b]?=_
  simp[cL]
 exact⟨Rel.store hM hfx htag hj hr q hb (fun vs t fr h=>absurd h (hnc vs t fr)) fun j' M' hx=>hh j' M' _ hx hn,Ext.store hM hfx htag hj hr q hb (fun vs t fr h=>absurd h (hnc vs t fr))⟩
def Wt(hr:Rel j M w)(he:cn j M w bq a){y:Operand}{z:fZ}(hop:o.op = .next y true)(hz:eV y=some z)(h:ec C bq M (.Gf z)=some x):∃v w',rj P o a w v w'/\iU j M w x v w':=by
 simp only[ec] at h;have h0:=cR he hz;split at h
 ·rename_i id e;rw[e] at h0;obtain⟨b,_,hj,hv⟩:=h0.DX;split at h
  ·rename_i s pos hM;rw[fc] at hM;obtain⟨b',hj',hw⟩:=hr.fix _ _ hM rfl;rw[hj] at hj'; cases hj';have hw:w.heap[b]?=some (.stringIter (bs s) pos):=hw;have hsz:(bs s).size=s.length:=by simp[bs,ByteArray.size]
   have hget:(getObj b).run P w = .ok (.stringIter (bs s) pos) w:=by simp[getObj,Sem.run,hw]
   rcases lM h with ⟨cL,h⟩|⟨cL,h⟩<;>(cases h)
   ·have hlt':pos<s.length:=by simpa using cL
    have hset:∀ob,(setObj b ob).run P w = .ok () { w with heap:=w.heap.setIfInBounds b ob }:=fun ob=>by simp[setObj,Sem.run,hw]
    obtain⟨r1,r2⟩:=Hz (ob := .stringIter (bs s) (pos+(Utf8.decode (bs s) pos).2)) (bx' := .oa s (pos+(Utf8.decode ⟨s.toArray⟩ pos).2)) hr hM rfl rfl hj (fun vs t fr h=>by rw[hw] at h; cases h) fun j' M' w' _ hw=>hw
    refine⟨.tuple #[.bool true,goInt pos,.int .i32 (Utf8.decode (bs s) pos).1],{ w with heap:=w.heap.setIfInBounds b (.stringIter (bs s) (pos+(Utf8.decode (bs s) pos).2)) },.inl ?_,j,?_,?_,?_⟩
    ·simp[execOp,hop,Instr.next,hv,hget,hsz,hlt',hset]
    ·rw[fe]; exact r1
    ·rw[fe]; exact r2
    ·refine .tuple rfl fun i c u hc hu=>?_
     match i with
     |0=>simp at hc hu; subst hc; subst hu; exact .plain (.bool _)
     |1=>simp at hc hu; subst hc; subst hu; exact .plain (.int _ _)
     |2=>simp at hc hu; subst hc; subst hu; exact .plain (.int _ _)
     |n+3=>simp at hc
   ·have hlt':¬pos<s.length:=by simpa using cL
    refine⟨.tuple #[.bool false],w,.inl ?_,.still hr (.tuple rfl fun i c u hc hu=>?_)⟩
    ·simp[execOp,hop,Instr.next,hv,hget,hsz,hlt']
    ·match i with
     |0=>simp at hc hu; subst hc; subst hu; exact .plain (.bool _)
     |n+1=>simp at hc
  ·cases h
 ·cases h
def Wx(hr:Rel j M w)(he:cn j M w bq a){t kt et:TypeId}{m k y:Operand}{m' k' y':fZ}{fk:FK}(hop:o.op = .mapUpdate t m k y\/o.op = .insert t m k y)(ht:P.underlying t=some (.map kt et))
  (hk:D4 P kt=some fk) (hm':eV m=some m') (hk':eV k=some k') (hyr:gn j M w (y'.ev bq) (a.eval y)) (h:ec C bq M (.gF fk m' k' y')=some x):∃v w',rj P o a w v w'/\iU j M w x v w':=by
 simp only[ec] at h;have h0:=cR he hm';split at h
 ·rename_i id e;rw[e] at h0;split at h
  ·rename_i ks vs hM;obtain⟨r,hr',h⟩:=bp h;cases h;rw[fc] at hM;obtain⟨b,_,hj,hv⟩:=h0.vG;obtain⟨b',hj',es,clock,hb,g2,g3,g4,g5⟩:=hr.fix _ _ hM rfl;rw[hj] at hj'; cases hj';obtain⟨d,hd,hfk⟩:=F5 hk;have hc:∀q,(Instr.checkKey q 10000 kt (a.eval k)).run P w = .ok () w:=fun q=>Fy hfk hd q _
   obtain⟨kp,hf⟩:=IM hfk (cR he hk') (es:=es.toList) 0 hr' (by simpa using g2) (by simpa using g3) (fun i k e hk he=>g4 i k e hk (by simpa using he))
   have hset:∀ob,(setObj b ob).run P w = .ok () { w with heap:=w.heap.setIfInBounds b ob }:=fun ob=>MapKept.run_setObj_map ob hb
   rcases hf with ⟨rfl,f1⟩|⟨i,e',rfl,f3,f4,f1⟩
   ·obtain⟨r1,r2⟩:=Hz (ob := .map (es.push { key:=a.eval k,val:=a.eval y,born:=clock }) (clock+1)) (bx' := .map (ks++[k'.ev bq]) (vs++[y'.ev bq])) hr hM rfl rfl hj (fun vs t fr h=>by rw[hb] at h; cases h) fun j' M' w' hx hw=>by
     refine⟨_,_,hw,by simp[g2],by simp[g3],fun i k e hk he=>?_,fun i k e hk he=>?_⟩
     ·rw[fW] at he;rw[nR] at hk
      by_cases hi:i=es.size
      ·subst hi;simp[g2] at hk he;subst hk; subst he;exact kp.mono hx.iz
      ·rw[aL hi] at he;have hi':i<es.size:=(fI.1 he).1;rw[aX aI] at hk;exact(g4 i k e hk he).mono hx.iz
     ·rw[fW] at he;rw[nR] at hk
      by_cases hi:i=es.size
      ·subst hi;simp[g3] at hk he;subst hk; subst he;exact hyr.mono hx
      ·rw[aL hi] at he;have hi':i<es.size:=(fI.1 he).1;rw[aX aI] at hk;exact(g5 i k e hk he).mono hx
    refine⟨undef,{ w with heap:=w.heap.setIfInBounds b (.map (es.push { key:=a.eval k,val:=a.eval y,born:=clock }) (clock+1)) },.inr ⟨?_,rfl⟩,j,?_,?_,.any _⟩
    ·rcases hop with hop|hop<;>simp[execOp,hop,Instr.mapUpdate,dY ht,hv,MapKept.run_getObj_map hb,hc,Instr.findKey,dY hd,f1,hset]
    ·rw[fe]; exact r1
    ·rw[fe]; exact r2
   ·have hi:i<es.size:=by simpa using(aj.1 f3).1
    have he':es[i]?=some e':=by simpa using f3
    obtain⟨r1,r2⟩:=Hz (ob := .map (es.modify i fun e=>{ e with key:=a.eval k,val:=a.eval y }) clock) (bx' := .map (ks.set i (k'.ev bq)) (vs.set i (y'.ev bq))) hr hM rfl rfl hj (fun vs t fr h=>by rw[hb] at h; cases h) fun j' M' w' hx hw=>by
     refine⟨_,_,hw,by simp[g2],by simp[g3],fun q k e hk he=>?_,fun q k e hk he=>?_⟩
     ·rw[gV] at he
      by_cases hq:i=q
      ·subst hq;simp[he'] at he;rw[fa aI] at hk;cases hk; subst he;exact kp.mono hx.iz
      ·rw[aL hq] at he;rw[eJ hq] at hk;exact(g4 q k e hk he).mono hx.iz
     ·rw[gV] at he
      by_cases hq:i=q
      ·subst hq;simp[he'] at he;rw[fa aI] at hk;cases hk; subst he;exact hyr.mono hx
      ·rw[aL hq] at he;rw[eJ hq] at hk;exact(g5 q k e hk he).mono hx
    refine⟨undef,{ w with heap:=w.heap.setIfInBounds b (.map (es.modify i fun e=>{ e with key:=a.eval k,val:=a.eval y }) clock) },.inr ⟨?_,rfl⟩,j,?_,?_,.any _⟩
    ·rcases hop with hop|hop<;>simp[execOp,hop,Instr.mapUpdate,dY ht,hv,MapKept.run_getObj_map hb,hc,Instr.findKey,dY hd,f1,hset,he',Instr.keyThatStays,f4]
    ·rw[fe]; exact r1
    ·rw[fe]; exact r2
  ·cases h
 ·cases h
end
def j9(xs:List ag):List ag:=xs.flatMap ag.cells
def oX(x:ag)(xs:List ag):j9 (x::xs)=x.cells++j9 xs:=rfl
def oW(xs ys:List ag):j9 (xs++ys)=j9 xs++j9 ys:=by simp[j9]
def iR{sz:Nat}:∀ {xs:List ag},wid xs sz->(j9 xs).length=xs.length*sz
 | [],_=>by simp[j9]
 |x::xs,h=>by
  rw[oX,aA,h x (bE ..),iR fun y hy=>h y (bw _ hy),au,bP]
  omega
def nH{sz:Nat}{xs ys:List ag}(h1:wid xs sz)(h2:wid ys sz):wid (xs++ys) sz:=fun x hx=>(bo.1 hx).elim (h1 x) (h2 x)
def vS{sz n:Nat}{xs:List ag}(h:wid xs sz):wid (xs.take n) sz:=fun x hx=>h x (dM hx)
def vR{sz n:Nat}{xs:List ag}(h:wid xs sz):wid (xs.drop n) sz:=fun x hx=>h x (dx hx)
def r9{sz:Nat}:∀(n:Nat){xs:List ag},wid xs sz->j9 (xs.take n)=(j9 xs).take (n*sz)
 |0,_,_=>by simp[j9]
 |n+1,[],_=>by simp[j9]
 |n+1,x::xs,h=>by
  have hx:=h x (bE ..);have e:(n+1)*sz=sz+n*sz:=by rw[bP]; omega
  rw[ml,oX,oX,r9 n fun y hy=>h y (bw _ hy),List.take_append,hx,e,iW,bB (l:=x.cells) aI]
def ub{sz:Nat}:∀(n:Nat){xs:List ag},wid xs sz->j9 (xs.drop n)=(j9 xs).drop (n*sz)
 |0,_,_=>dv
 |n+1,[],_=>by simp[j9]
 |n+1,x::xs,h=>by
  have hx:=h x (bE ..);have e:(n+1)*sz=sz+n*sz:=by rw[bP]; omega
  rw[ke,oX,ub n fun y hy=>h y (bw _ hy),List.drop_append,hx,e,iW,ir (l:=x.cells) aI,aQ]
theorem A5{sz:Nat}:∀ {xs:List ag},wid xs sz->∀ {q:Nat} {x:ag} {k:Nat} {c:ag},xs[q]?=some x->x.cells[k]?=some c->(j9 xs)[q*sz+k]?=some c
 | [],_,q,x,k,c,hx,_=>ka
 |y::xs,h,0,x,k,c,hx,hk=>by
  simp at hx; subst hx;rw[oX,jH,aJ,aO (aj.1 hk).1];omega
 |y::xs,h,q+1,x,k,c,hx,hk=>by
  have hy:=h y (bE ..);rw[oX,bg (by rw[bP]; omega),hy]
  rw[show(q+1)*sz+k-sz=q*sz+k by rw[bP]; omega]
  exact A5 (fun z hz=>h z (bw _ hz)) ka hk
theorem DH{sz:Nat}{xs:List ag}(h:wid xs sz){p:Nat}{c:ag}(hp:(j9 xs)[p]?=some c):∃q x k,xs[q]?=some x/\x.cells[k]?=some c/\p=q*sz+k:=by
 have cL:p<xs.length*sz:=by rw[<-iR h]; grind
 have hsz:0<sz:=by
  grind
 have hq:p / sz<xs.length:=by rw[kY hsz]; omega
 have hk:p % sz<(xs[p / sz]).cells.length:=by rw[h _ (js _)]; simp_all [kZ]
 grind [Nat.mul_comm,Nat.div_add_mod,A5]
def RL(w:World)(iz:Nat->Nat->Prop)(cs:List ag)(vs:List Value):Prop:=cs.length=vs.length/\∀(p:Nat)(c:ag)(v:Value),cs[p]?=some c->vs[p]?=some v->fS w iz c v
section
variable {w w':World} {iz saf':Nat->Nat->Prop} {cs ds:List ag} {us vs:List Value}
def RL.append(h:RL w iz cs us)(k:RL w iz ds vs):RL w iz (cs++ds) (us++vs):=by
 refine⟨by simp[h.1,k.1],fun p c v hc hv=>?_⟩
 rcases bD p _ with hp|hp
 ·rw[aO hp] at hc;rw[aO (by rw[<-h.1]; omega)] at hv
  exact h.2 p c v hc hv
 ·rw[bg hp] at hc;rw[bg (by rw[<-h.1]; omega),<-h.1] at hv
  exact k.2 _ c v hc hv
theorem RL.take(n:Nat)(h:RL w iz cs us):RL w iz (cs.take n) (us.take n):=by
 refine⟨by simp[h.1],fun p c v hc hv=>?_⟩
 rw[fx] at hc hv;split at hc
 ·rename_i hp;rw[aX hp] at hv;exact h.2 p c v hc hv
 grind
def RL.drop(n:Nat)(h:RL w iz cs us):RL w iz (cs.drop n) (us.drop n):=by
 refine⟨by simp[h.1],fun p c v hc hv=>?_⟩
 rw[cI] at hc hv;exact h.2 _ c v hc hv
def RL.mono(hm:∀b off,iz b off->saf' b off/\w'.cell? ⟨b,off,none⟩=w.cell? ⟨b,off,none⟩)(h:RL w iz cs us):RL w' saf' cs us:=⟨h.1,fun p c v hc hv=>(h.2 p c v hc hv).mono hm⟩
end
section
variable {j:J} {M:aC} {w:World}
theorem xW{b sz:Nat}{xs:List ag}{vs:Array Value}(hl:xs.length*sz<=vs.size)(hwd:wid xs sz)
  (hc:∀(q:Nat)(x:ag)(k:Nat)(c:ag),xs[q]?=some x->x.cells[k]?=some c->∃v,vs[q*sz+k]?=some v/\fS w (oG j M w) c v):RL w (oG j M w) (j9 xs) (vs.toList.take (xs.length*sz)):=by
 refine⟨by rw[iR hwd]; grind,fun p c v hp hv=>?_⟩
 obtain⟨q,x,k,h1,h2,rfl⟩:=DH hwd hp
 grind
theorem mM{j':J}{M':aC}{w':World}{b sz:Nat}{t:TypeId}{xs:List ag}{us:List Value}{vs:Array Value}(hw:w'.heap[b]?=some (.cells vs t (0,0)))(hwd:wid xs sz)(hr:RL w' (oG j' M' w') (j9 xs) us)
  (hv:∀p,p<us.length->vs[p]?=us[p]?):Fk j' M' w' b sz xs:=by
 have dD:us.length=xs.length*sz:=by rw[<-hr.1,iR hwd]
 refine⟨vs,t,hw,?_,hwd,fun q x k c hx hk=>?_⟩
 ·grind
 ·have h1:=A5 hwd hx hk;have hp:q*sz+k<us.length:=by rw[<-hr.1]; grind
  exact⟨us[q*sz+k],by rw[hv _ hp,ai _],hr.2 _ _ _ h1 (ai _)⟩
theorem A8:∀(ids:List Nat){M:aC}{i:Nat}{bx:cJ},M[i]?=some bx->(∀sz v xs,bx ≠ .arr sz v xs)->(pw M ids)[i]?=some bx
 | [],_,_,_,h,_=>h
 |a::r,M,i,bx,h,hn=>by
  simp[pw,fc];split
  ·refine A8 r ?_ hn
   grind [fe]
  ·exact A8 r h hn
theorem zR:∀(ids:List Nat){M:aC},Rel j M w->Ext j M w j (pw M ids) w/\Rel j (pw M ids) w/\(pw M ids).length=M.length/\∀id,id∈ids->∀sz v xs,M[id]?=some (.arr sz v xs)->(pw M ids)[id]?=some (.tick sz xs.length)
 | [],M,hr=>⟨.refl _ _ _,hr,rfl,fun id h=>by cases h⟩
 |a::r,M,hr=>by
  simp only[pw,fc];split
  ·rename_i sz v xs hM;rw[fe];obtain⟨h1,h2,h3,h4⟩:=zR r (Rel.freeze hM hr);refine⟨(Ext.freeze hM).trans h1,h2,by rw[h3]; simp,fun id hid sz' v' xs' hid'=>?_⟩
   grind [id,A8,eb,aP]
  ·obtain⟨h1,h2,h3,h4⟩:=zR r hr
   grind
def gn.nY{M':aC}(hr:Rel j M w)(hx:Ext j M w j M' w)(hr':Rel j M' w)(hl:M'.length=M.length){x:ag}{v:Value}(h:gn j M w x v)(hf:∀id,id∈x.iH->∀sz v xs,M[id]?=some (.arr sz v xs)->M'[id]?=some (.tick sz xs.length)):gn j M' w (x.nY M) v:=by
 cases x<;>try exact h.mono hx
 rename_i id ver sz lo hi;simp[ag.nY,fc];split
 ·rename_i sz' v' xs hM;split
  ·rename_i hv;subst hv;obtain⟨_,hid,_,g⟩:=h.nn;obtain⟨e1,l1,l2,⟨rfl,_,A,rfl⟩|⟨b,cap,vs,t,l3,l4,l5,l6,l7⟩⟩:=(g sz' v' xs hM).2 rfl
   ·simp;exact .plain (fS.nil _ _ _)
   subst e1;obtain⟨b',vs',t',k1,k2,k3,k4,k5⟩:=hr.yQ hM l3;rw[l3] at k1; cases k1;rw[l4];refine .plain (xX k2 k4 k5 (fun b off hs=>(hx.iz b off hs).1) (fun off ho=>⟨hr'.lt id b (by rw[hl]; exact aP hM) l3,fun i hi hji=>?_,hr'.vj id b aI l3 off⟩) l1 l2 l5)
   have  := hr'.inj i id b hi (by rw[hl]; exact aP hM) hji l3
   subst this;exact⟨sz',xs.length,hf i (by simp[ag.iH]) _ _ _ hM,ho⟩
  ·exact .any _
 ·exact .any _
theorem gn.qX{M':aC}(hr:Rel j M w)(hx:Ext j M w j M' w)(hr':Rel j M' w)(hl:M'.length=M.length){x:ag}{v:Value}(h:gn j M w x v)(hf:∀id,id∈x.ids->∀sz v xs,M[id]?=some (.arr sz v xs)->M'[id]?=some (.tick sz xs.length)):gn j M' w (x.qX M) v:=by
 by_cases hag:∃cs,x = .agg cs
 ·obtain⟨cs,rfl⟩:=hag;obtain⟨vs,rfl,hl',hc⟩:=h.ng;refine .agg ka fun i c u hi hu=>?_
  rw[aY,aV] at hi;obtain⟨c0,hc0,rfl⟩:=hi;refine(hc i c0 u hc0 hu).nY hr hx hr' hl fun id hid=>hf _ ?_
  refine jt.2 ⟨c0,aK hc0,?_⟩;cases c0<;>first|exact hid|(simp[ag.iH] at hid)
 ·have:x.qX M=x.nY M:=by cases x<;>first|rfl|grind
  rw[this];refine h.nY hr hx hr' hl fun id hid=>hf id ?_
  cases x<;>first|exact hid|exact absurd _ _|grind [ag.iH]
end
section
variable {P:Program} {C:eR} {o:Oper} {bq:Env} {M:aC} {j:J} {w:World} {a:Act} {x:ag×aC}
theorem rN(z:Array Value)(n:Nat):(Builtin.zeroCells z n).toList=(List.replicate n z.toList).flatten:=by
 induction n with
 |zero=>simp[Builtin.zeroCells]
 |succ n ih =>
  rw[nS,List.flatten_append,<-ih];apply ct;intro i;simp only[Builtin.zeroCells,Array.toList_map,Array.toList_range,List.flatten_cons,List.flatten_nil,c8];rcases bD i (n*z.size) with h|h
  ·grind
  ·rw[bg ka];simp only[ef,List.length_range];rcases bD i ((n+1)*z.size) with h2|h2
   ·have h3:i-n*z.size<z.size:=by rw[bP] at h2; omega
    have h4:i % z.size=i-n*z.size:=by
     have:i=(i-n*z.size)+n*z.size:=aI;rw[this,Nat.add_mul_mod_self_right,nL h3]; omega
    rw[aY,jj h2];simp[h4,h3]
   grind
def Pa(n:Nat)(zero:List ag):j9 (List.replicate n (.agg zero))=(List.replicate n zero).flatten:=by
 induction n with
 |zero=>rfl
 |succ n ih=>rw[jk,oX,ih]; rfl
theorem QX{iz:Nat->Nat->Prop}(n:Nat){cs:List ag}{us:List Value}(h:RL w iz cs us):RL w iz (List.replicate n cs).flatten (List.replicate n us).flatten:=by
 induction n with
 |zero=>exact⟨rfl,fun p c v hc=>dv⟩
 |succ n ih=>exact h.append ih
theorem xV{id b sz ver ver':Nat}{xs xs':List ag}{vs vs':Array Value}{t:TypeId}{us:List Value}{w':World}(hr:Rel j M w)(hM:M[id]?=some (.arr sz ver xs))(hj:j id=some b)(q:Quiet w w')
  (hb:∀b',b'≠b->b'<w.heap.size->w'.heap[b']?=w.heap[b']?) (hw:w.heap[b]?=some (.cells vs t (0,0))) (hw':w'.heap[b]?=some (.cells vs' t (0,0))) (hs:vs'.size=vs.size)
  (hv:ver<=ver') (hl:ver'=ver->xs'.length=xs.length) (hwd:wid xs' sz) (hrl:RL w (oG j M w) (j9 xs') us) (hus:∀p,p<us.length->vs'[p]?=us[p]?) :
  Rel j (M.set id (.arr sz ver' xs')) w'/\Ext j M w j (M.set id (.arr sz ver' xs')) w':=by
 have hwr:∀vs0 t1,w.heap[b]?=some (.cells vs0 t1 (0,0))->∃vs1,w'.heap[b]?=some (.cells vs1 t1 (0,0))/\vs1.size=vs0.size:=fun vs0 t1 h=>by
  grind
 exact⟨Rel.Fq hM hj hr q hb hwr hv hl fun j' M' hx=>mM hw' hwd (hrl.mono hx.iz) hus,Ext.Fq hM hj hr q hb hwr hv hl⟩
theorem Db{l:List ag}{vs:List Value}(hl:th vs=some l)(hp:(l.map ag.shut).all ag.plainCell=true):RL w (oG j M w) (l.map ag.shut) vs/\∀v,v∈vs->v.oneCell'=true:=by
 obtain⟨h1,h2⟩:=qF (j:=j) (M:=M) (w:=w) hl;rw[List.all_map,bN] at hp;refine⟨⟨ka,fun p c v hc hv=>?_⟩,fun v hv=>?_⟩
 ·grind [Av,List.mem_of_getElem?]
 ·obtain⟨p,hp',rfl⟩:=kf hv;have hpl:p<l.length:=aI;exact Dq (h2 p _ _ (ai hpl) (ai hp')) (Co (hp _ (js hpl)))
theorem PR(hr:Rel j M w)(he:cn j M w bq a){c:Call}{y:Operand}{z:fZ}{t e:TypeId}{i:TypeInfo}{zv:Value}{l:List ag}(hop:o.op = .call c)(hb:c.callee = .builtin .clear)(ha:c.args.toList=[y])
  (ht:c.argTypes.toList=[t]) (hs:P.underlying t=some (.slice e)) (hi:P.info? e=some i) (hzv:i.zero=some zv) (hl:th zv.cells.toList=some l) (hsz:l.length=i.size) (hz:eV y=some z)
  (h:ec C bq M (.xc i.size (l.map ag.shut) z)=some x):∃v w',rj P o a w v w'/\iU j M w x v w':=by
 simp only[ec] at h;have h1:=cR he hz;have ha':c.args = #[y]:=by rw[<-ha]
 have ht':c.argTypes = #[t]:=by rw[<-ht]
 split at h
 ·rename_i tk xs ez;rw[ez] at h1;split at h
  ·cases h;obtain⟨A,cap,b,off,sz,vs,hv,_⟩:=h1.ep.ep;refine⟨.tuple #[],w,.inl ?_,.still hr (.any _)⟩;cases A<;>simp[execOp,hop,resolve,hb,invoke,builtin,Builtin.clear_,ha',ht',dY hs,hv]
  ·cases h
 ·rename_i id ver sz' lo hi' ez;rw[ez] at h1;rw[fc] at h;split at h
  ·rename_i sz0 v0 xs hM;split at h
   ·rename_i hc;obtain⟨c1,c2,c3,c4⟩:=hc;cases h;subst c1; subst c2;obtain⟨_,hid,_,g⟩:=h1.nn;obtain⟨e1,l1,l2,⟨rfl,_,A,hA⟩|⟨b,cap,vs,t0,l3,l4,l5,l6,l7⟩⟩:=(g sz0 v0 xs hM).2 rfl
    ·have hlo:lo=0:=Nat.le_zero.1 (aZ l1 l2);have hhi:hi'=0:=Nat.le_zero.1 l2;subst hlo; subst hhi;refine⟨.tuple #[],w,.inl ?_,?_⟩
     ·cases A<;>simp[execOp,hop,resolve,hb,invoke,builtin,Builtin.clear_,ha',ht',dY hs,hA]
     ·rw[fe]
      have he:M.set id (.arr sz0 v0 (List.take 0 ([]:List ag)++(List.replicate (0-0) (ag.agg (l.map ag.shut))++List.drop 0 [])))=M:=by
       apply ct
       grind
      rw[he];exact .still hr (.any _)
    subst e1;obtain⟨b',vs',t',k1,k2,k3,k4,k5⟩:=hr.yQ hM l3;rw[l3] at k1; cases k1;rw[l6] at k2; injection k2 with k2; injection k2 with k2 k2'
    subst k2; subst k2';obtain⟨p1,p2⟩:=Db (j:=j) (M:=M) (w:=w) hl c4;have hzl:zv.cells.toList.length=i.size:=by rw[<-p1.1]; simpa using hsz
    have dD:(List.replicate (hi'-lo) zv.cells.toList).flatten.length=(hi'-lo)*i.size:=by simp[List.length_flatten,gX,List.sum_replicate_nat,hzl]
    have hbd:lo*i.size+(hi'-lo)*i.size<=xs.length*i.size:=by rw[<-bP]; exact bd _ aI
    have hfit:lo*i.size+(List.replicate (hi'-lo) zv.cells.toList).flatten.length<=vs.size:=by rw[dD]; omega
    have hone:∀v,v∈(List.replicate (hi'-lo) zv.cells.toList).flatten->v.oneCell'=true:=fun v hv=>by
     obtain⟨r,hr1,hr2⟩:=List.mem_flatten.1 hv;rw[mj hr1] at hr2;exact p2 v hr2
    have hrun:=nG (P:=P) (List.replicate (hi'-lo) zv.cells.toList).flatten w (lo*i.size) 0 vs l6 aI hone;obtain⟨s1,s2,s3,s4,s5,vs',s6,s7,s8,s9⟩:=mG (List.replicate (hi'-lo) zv.cells.toList).flatten w (lo*i.size) vs l6 hfit;have hrow:=xW (b:=b) k3 k4 k5;have hwz:wid (List.replicate (hi'-lo) (ag.agg (l.map ag.shut))) i.size:=fun x hx=>by rw[mj hx]; simpa[ag.cells] using hsz
    have jw:RL w (oG j M w) (j9 (xs.take lo++(List.replicate (hi'-lo) (ag.agg (l.map ag.shut))++xs.drop hi'))) ((vs.toList.take (xs.length*i.size)).take (lo*i.size)++((List.replicate (hi'-lo) zv.cells.toList).flatten++(vs.toList.take (xs.length*i.size)).drop (hi'*i.size))):=by
     rw[oW,oW,r9 lo k4,ub hi' k4,Pa];exact(hrow.take _).append ((QX _ p1).append (hrow.drop _))
    have hhi:lo*i.size+(hi'-lo)*i.size=hi'*i.size:=by rw[<-bP,dq l1]
    have hput:=xV (ver':=v0) (xs':=xs.take lo++(List.replicate (hi'-lo) (ag.agg (l.map ag.shut))++xs.drop hi')) hr hM l3 (w':=px w b (lo*i.size) (List.replicate (hi'-lo) zv.cells.toList).flatten) ⟨aI,s2,s3,s4⟩ (fun b' hb' _=>s5 b' hb') l6 s6 s7 (av _)
     (fun _=>gm) (nH (vS k4) (nH hwz (vR k4))) jw (fun p hp=>by
      have hp':p<xs.length*i.size:=by
       rw[<-jw.1,iR (nH (vS k4) (nH hwz (vR k4)))] at hp;have:(xs.take lo++(List.replicate (hi'-lo) (ag.agg (l.map ag.shut))++xs.drop hi')).length=xs.length:=gm;rwa[this] at hp
      have htk:(List.take (lo*i.size) (vs.toList.take (xs.length*i.size))).length=lo*i.size:=gm;rcases bD p (lo*i.size) with q1|q1
      ·rw[s8 p (.inl q1),aO (by rw[htk]; omega),bH q1,bH hp']; simp
      ·rw[bg (by rw[htk]; exact q1),htk]
       rcases bD p (hi'*i.size) with q2|q2
       ·rw[aO (by rw[dD]; omega)]
        have:=s9 (p-lo*i.size) (by rw[dD]; omega)
        rw[dq q1] at this;exact this
       ·rw[bg (by rw[dD]; omega),s8 p (.inr (by rw[dD]; omega)),cI,dD,show hi'*i.size+(p-lo*i.size-(hi'-lo)*i.size)=p by omega,bH hp']; simp)
    rw[fe];rcases gY (hi'-lo) with h0|h0
    ·refine⟨.tuple #[],px w b (lo*i.size) (List.replicate (hi'-lo) zv.cells.toList).flatten,.inl ?_,j,hput.1,hput.2,.any _⟩;rw[h0] at l4;simp[execOp,hop,resolve,hb,invoke,builtin,Builtin.clear_,ha',ht',dY hs,l4,h0,px]
    ·refine⟨.tuple #[],px w b (lo*i.size) (List.replicate (hi'-lo) zv.cells.toList).flatten,.inl ?_,j,hput.1,hput.2,.any _⟩;obtain⟨m,hm⟩:∃m,hi'-lo=m+1:=⟨hi'-lo-1,aI⟩;simp only[db] at hrun;rw[<-rN,hm] at hrun;rw[hm] at l4;rw[<-rN,hm];simp[execOp,hop,resolve,hb,invoke,builtin,Builtin.clear_,ha',ht',dY hs,l4,zeroValue,pY hi,hzv,hrun]
   ·cases h
  ·cases h
 ·cases h
end
def fS.xB{j:J}{M:aC}{w:World}{x:ag}{v:Value}(h:gn j M w x v)(hp:x.plainCell=true):fS w (oG j M w) x v:=by
 cases x with
 |slice tk xs=>cases tk with
  |sh=>exact h.ep
  |c0=>cases hp
  |own k=>cases hp
 |bool b=>cases h with|plain h=>exact h
 |int k n=>cases h with|plain h=>exact h
 |str s=>cases h with|plain h=>exact h
 |raw v=>cases h with|plain h=>exact h
 |agg _=>cases hp
 |tuple _=>cases hp
 |ptr _ _=>cases hp
 |jE _=>cases hp
 |func _ _=>cases hp
 |iy _=>cases hp
 |j8 _=>cases hp
 |kl _ _=>cases hp
 |cz _ _ _ _ _=>cases hp
 |jv _ _ _ _=>cases hp
 |ra _ _=>cases hp
 |nK _=>cases hp
 |ky _ _ _=>cases hp
 |any=>cases hp
def CD.xB{j:J}{M:aC}{w:World}{x:ag}{v:Value}(h:gn j M w x v)(hp:x.plain=true):CD w (oG j M w) x v:=by
 by_cases hag:∃cs,x = .agg cs
 ·obtain⟨cs,rfl⟩:=hag;obtain⟨us,h1,h2,h3⟩:=h.ng;refine⟨us,h1,h2,fun i c u hc hu => .xB (h3 i c u hc hu) ?_⟩
  simp only[ag.plain,bN] at hp;exact hp c (aK hc)
 ·have e1:x.plain=x.plainCell:=by cases x<;>first|rfl|exact absurd ⟨_,rfl⟩ hag
  have:=fS.xB h (e1▸hp);cases x<;>first|exact absurd ⟨_,rfl⟩ hag|exact this
def Qg{j:J}{M:aC}{w:World}{x:ag}{v:Value}(h:gn j M w x v):gn j M w x.fV v:=by
 have hs:∀ {x:ag} {v:Value},gn j M w x v->gn j M w x.shut v:=fun {x v} h=>by
  cases x<;>first|exact h|exact .plain h.ep
 by_cases hag:∃cs,x = .agg cs
 ·obtain⟨cs,rfl⟩:=hag;obtain⟨us,rfl,h2,h3⟩:=h.ng;refine .agg (by simpa using h2) fun i c u hc hu=>?_
  rw[aY,aV] at hc;obtain⟨c0,hc0,rfl⟩:=hc;exact hs (h3 i c0 u hc0 hu)
 ·cases x<;>first|exact absurd ⟨_,rfl⟩ hag|exact h|exact .plain h.ep
section
variable {P:Program} {C:eR} {o:Oper} {bq:Env} {M:aC} {j:J} {w:World} {a:Act} {x:ag×aC}
def We(hr:Rel j M w)(he:cn j M w bq a){f:Nat}{first caps:Array Operand}{zs:List fZ}(hop:o.op = .makeFunc (.func f) first caps)(hf:caps.isEmpty=true)(hz:vr first.toList=some zs)
  (h:ec C bq M (.Fv f zs)=some x):∃v w',rj P o a w v w'/\iU j M w x v w':=by
 simp only[ec] at h;split at h
 ·rename_i hp;cases h;obtain⟨h1,h2⟩:=uo he hz;have hf':caps = #[]:=by simpa using hf
  refine⟨.func (.func f) (first.map a.eval) #[],w,.inl ?_,.still hr (.ra (by simpa using h1) fun i c v hc hv=>?_)⟩
  ·simp[execOp,hop,Instr.makeFunc,hf']
  ·have hpc:=bN.1 hp c (aK hc);rw[aY,aV] at hc;obtain⟨y,hy,rfl⟩:=hc;rw[iJ,aV] at hv;obtain⟨z,hz',rfl⟩:=hv;exact .xB (Qg (h2 i y z hy (by simpa using hz'))) hpc
 ·cases h
def PU(hr:Rel j M w)(he:cn j M w bq a){y i:Operand}{z z':fZ}{t e:TypeId}{len n:Nat}(hop:o.op = .indexAddr t y i)(ht:P.underlying t=some (.array len e))(hn:qE P e=some n)
  (hz:eV y=some z) (hz':eV i=some z') (h:ec C bq M (.Bc len n z z')=some x):∃v w',rj P o a w v w'/\iU j M w x v w':=by
 simp only[ec] at h;have h1:=cR he hz;have h2:=cR he hz';split at h
 ·rename_i cs k m ez ez';obtain⟨⟨h0,hm,hle⟩,h⟩:=dg h;cases h;rw[ez] at h1;rw[ez'] at h2;obtain⟨b,off,vs,hv,hc⟩:=h1.uu;refine⟨.pointer (some ⟨b,off+m.toNat*n,none⟩),w,.inl ?_,.still hr (.jE (vs:=fun q=>vs (m.toNat*n+q)) fun q c hq=>?_)⟩
  ·simp[execOp,hop,Instr.indexAt,dY ht,hv,h2.fX,asIntOf,h0,hm,jr hn,lY,Instr.sureAddr]
  ·rw[cI] at hq;have h3:=hc _ c hq;rw[Nat.add_assoc];exact h3
 ·rename_i id off k m ez ez';obtain⟨⟨h0,hm⟩,h⟩:=dg h;cases h;rw[ez] at h1;rw[ez'] at h2;obtain⟨b,h3,h4,h5,hv⟩:=h1.qt;refine⟨.pointer (some ⟨b,off+m.toNat*n,none⟩),w,.inl ?_,.still hr (.ptr h3 h4 h5)⟩;simp[execOp,hop,Instr.indexAt,dY ht,hv,h2.fX,asIntOf,h0,hm,jr hn,lY,Instr.sureAddr]
 ·cases h
def P6(hr:Rel j M w){id q sz:Nat}{cs:List ag}(hM:M[id]?=some (.cells cs))(hc:cs[q]?=some (.slice .c0 [])) :
  ∃j',Rel j' (M.set id (.cells (cs.set q (.slice (.own M.length) [])))++[.tick sz 0]) w/\Ext j M w j' (M.set id (.cells (cs.set q (.slice (.own M.length) [])))++[.tick sz 0]) w:=by
 have q0:Quiet w w:=⟨av _,rfl,rfl,rfl⟩;have hr1:Rel (gF j M.length none) (M++[.tick sz 0]) w:=hr.push (ob:=none) (fun b h=>by cases h) q0 (fun _ _=>rfl) (fun h=>by cases h) (fun sz n b h h'=>by cases h')
 have hx1:Ext j M w (gF j M.length none) (M++[.tick sz 0]) w:=Ext.push (fun b h=>by cases h) q0 (fun _ _=>rfl)
 have hid:=aP hM;have hM1:(M++[cJ.tick sz 0])[id]?=some (.cells cs):=by rw[xT hid]; exact hM
 obtain⟨b,vs,t,hj,hw,hl,hcs⟩:=hr.box id cs hM;have hj1:gF j M.length none id=some b:=by simp[gF,gI hid,hj]
 have hset:M.set id (cJ.cells (cs.set q (.slice (.own M.length) [])))++[cJ.tick sz 0]=(M++[cJ.tick sz 0]).set id (cJ.cells (cs.set q (.slice (.own M.length) []))):=by rw[List.set_append_left _ _ hid]
 rw[hset];have hh:∀j' M',Ext (gF j M.length none) (M++[.tick sz 0]) w j' M' w->Holds j' M' w b (.cells (cs.set q (.slice (.own M.length) []))):=fun j' M' hx=>⟨vs,t,hw,by simpa using hl,fun p c v hc' hv=>gn.mono hx ?_⟩
 ·exact⟨_,Rel.store hM1 rfl rfl hj1 hr1 q0 (fun _ _ _=>rfl) (fun vs t fr h=>⟨vs,fr,h,rfl⟩) hh,hx1.trans (Ext.store hM1 rfl rfl hj1 hr1 q0 (fun _ _ _=>rfl) (fun vs t fr h=>⟨vs,fr,h,rfl⟩))⟩
 ·by_cases hp:q=p
  ·subst hp;rw[fa (aP hc)] at hc';cases hc';have h1:=hcs q _ v hc hv
   obtain⟨A,hA⟩:∃A,v = .slice A 0 0:=by
    cases h1 with
    |plain h=>cases h
    |c0 A=>exact⟨A,rfl⟩
   rw[hA];exact .own (sz:=sz) (n:=0) dv dv (fS.nil _ _ _) fun _ => .inl ⟨by simp[gF],rfl,A,rfl⟩
  ·rw[eJ hp] at hc';exact gn.mono hx1 (hcs p c v hc' hv)
def L8(hr:Rel j M w){id q sz:Nat}{cs:List ag}(hM:M[id]?=some (.cells cs))(hc:cs[q]?=some (.slice .c0 [])) :
  ∃j',Rel j' (M.set id (.cells (cs.set q (.cz M.length 0 sz 0 0)))++[.arr sz 0 []]) w/\Ext j M w j' (M.set id (.cells (cs.set q (.cz M.length 0 sz 0 0)))++[.arr sz 0 []]) w:=by
 have q0:Quiet w w:=⟨av _,rfl,rfl,rfl⟩;have hr1:Rel (gF j M.length none) (M++[.arr sz 0 []]) w:=hr.push (ob:=none) (bx := .arr sz 0 []) (fun b h=>by cases h) q0 (fun _ _=>rfl) (fun h=>by cases h) (fun sz n b h h'=>by cases h') (fun sz ver xs h=>by injection h with e1 e2 e3; exact .inl ⟨e3.symm,rfl⟩)
 have hx1:Ext j M w (gF j M.length none) (M++[.arr sz 0 []]) w:=Ext.push (fun b h=>by cases h) q0 (fun _ _=>rfl)
 have hid:=aP hM;have hM1:(M++[cJ.arr sz 0 []])[id]?=some (.cells cs):=by rw[xT hid]; exact hM
 obtain⟨b,vs,t,hj,hw,hl,hcs⟩:=hr.box id cs hM;have hj1:gF j M.length none id=some b:=by simp[gF,gI hid,hj]
 have hset:M.set id (cJ.cells (cs.set q (.cz M.length 0 sz 0 0)))++[cJ.arr sz 0 []]=(M++[cJ.arr sz 0 []]).set id (cJ.cells (cs.set q (.cz M.length 0 sz 0 0))):=by rw[List.set_append_left _ _ hid]
 rw[hset];have hh:∀j' M',Ext (gF j M.length none) (M++[.arr sz 0 []]) w j' M' w->Holds j' M' w b (.cells (cs.set q (.cz M.length 0 sz 0 0))):=fun j' M' hx=>⟨vs,t,hw,by simpa using hl,fun p c v hc' hv=>gn.mono hx ?_⟩
 ·exact⟨_,Rel.store hM1 rfl rfl hj1 hr1 q0 (fun _ _ _=>rfl) (fun vs t fr h=>⟨vs,fr,h,rfl⟩) hh,hx1.trans (Ext.store hM1 rfl rfl hj1 hr1 q0 (fun _ _ _=>rfl) (fun vs t fr h=>⟨vs,fr,h,rfl⟩))⟩
 ·by_cases hp:q=p
  ·subst hp;rw[fa (aP hc)] at hc';cases hc';have h1:=hcs q _ v hc hv
   obtain⟨A,hA⟩:∃A,v = .slice A 0 0:=by
    cases h1 with
    |plain h=>cases h
    |c0 A=>exact⟨A,rfl⟩
   rw[hA];refine .cz (.inr ⟨rfl,A,rfl⟩) dv (fun bx hbx=>by rw[kh] at hbx; cases hbx; rfl) fun sz' v' zs hx=>?_
   rw[kh] at hx; injection hx with hx; injection hx with e1 e2 e3
   subst e1; subst e2; subst e3;exact⟨av _,fun _=>⟨rfl,av _,av _,.inl ⟨rfl,by simp[gF],A,rfl⟩⟩⟩
  ·rw[eJ hp] at hc';exact gn.mono hx1 (hcs p c v hc' hv)
def Kh{cs new:List ag}{off p:Nat}{x:ag}(h:off+new.length<=cs.length)(hp:p<new.length):mX cs off (new.set p x)=(mX cs off new).set (off+p) x:=by
 apply ct;intro i;rw[re (by simpa using h)]
 by_cases hi:off+p=i
 ·subst hi;rw[fa (by rw[uZ h]; omega),aX gm,show off+p-off=p by omega,fa hp]
 ·rw[eJ hi,re h];simp only[cG];split
  ·rename_i hc;rw[eJ aI]
  ·rfl
def PX(hr:Rel j M w)(he:cn j M w bq a){y y':Operand}{z z':fZ}{t:TypeId}{n sz p:Nat}(hop:o.op = .store t y y')(hn:qE P t=some n)(hz:eV y=some z)(hz':eV y'=some z')
  (h:ec C bq M (.BF sz p n z z')=some x):∃v w',rj P o a w v w'/\iU j M w x v w':=by
 simp only[ec] at h;split at h
 ·rename_i id off e;split at h
  ·rename_i cs hM;obtain⟨new,jw,h⟩:=bp h;split at h
   ·rename_i hp;split at h
    ·rename_i hcond;cases h
     have hs:ec C bq M (.store n z z')=some (.any,iP M id (.cells (mX cs off new))):=by
      simp only[ec,e,hM,jw,bO];rw[aX hcond]
     obtain⟨v,w',h1,j',h2,h3,h4⟩:=Em hr he hop hn hz hz' hs;rw[fc] at hM hp;have cL:=aP hM;have hpl:=aP hp;have hle:off+new.length<=cs.length:=aI;rw[fe] at h2 h3 h4;have hM2:(M.set id (.cells (mX cs off new)))[id]?=some (.cells (mX cs off new)):=eb cL
     have hc2:(mX cs off new)[off+p]?=some (.slice .c0 []):=by
      rw[re hle,aX aI,show off+p-off=p by omega]
      exact hp
     rw[fe,fe,Kh hle hpl];unfold P5 P4;split
     ·obtain⟨j'',k1,k2⟩:=L8 (sz:=sz-500) h2 hM2 hc2;rw[List.set_set,cG] at k1 k2;exact⟨v,w',h1,j'',k1,h3.trans k2,.any _⟩
     ·obtain⟨j'',k1,k2⟩:=P6 (sz:=sz) h2 hM2 hc2;rw[List.set_set,cG] at k1 k2;exact⟨v,w',h1,j'',k1,h3.trans k2,.any _⟩
    ·cases h
   ·cases h
  ·cases h
 ·cases h
end
section
variable {P:Program} {C:eR} {o:Oper} {bq:Env} {M:aC} {x:ag×aC} {j:J} {w:World} {a:Act}
def aaW(hr:Rel j M w)(he:cn j M w bq a){t e:TypeId}{len:Nat}{parts:Array (Nat×Operand)}{i:TypeInfo}(hop:o.op = .buildSlice t len parts)(ht:P.underlying t=some (.slice e))
  (hi:P.info? e=some i) (hzs:GW 0 parts.toList=some []) (dD:0=len) (hroom:len*i.size<=2 ^ 24) (hzero:(i.zero.map fun z=>z.cells.size)=some i.size)
  (h:ec C bq M (.own (500+i.size) (.tc (.slice .c0 [])))=some x):∃v w',rj P o a w v w'/\iU j M w x v w':=by
 subst dD;simp only[ec,fZ.ev] at h;cases h;obtain⟨hll,hwd,cells',hcs,hrun,hel⟩:=Bl (w:=w) he hop ht hi hzs rfl hroom hzero (l:=[]) rfl;obtain⟨q,hb,jw⟩:=pd (w:=w) (.cells cells' e (0,0));refine⟨_,_,.inl hrun,gF j M.length none,?_⟩;unfold P5 P4;rw[aX (kv _ _),aX (kv _ _)];refine⟨hr.push (ob:=none) (fun b h=>by cases h) q hb (fun h=>by cases h) (fun sz n b h h'=>by cases h') (fun sz ver xs h=>by injection h with e1 e2 e3; exact .inl ⟨e3.symm,rfl⟩),Ext.push (fun b h=>by cases h) q hb,?_⟩
 refine .cz (.inr ⟨rfl,_,rfl⟩) dv (fun bx hbx=>by rw[kh] at hbx; cases hbx; rfl) fun sz' v' zs hx=>?_
 rw[kh] at hx; injection hx with hx; injection hx with e1 e2 e3
 subst e1; subst e2; subst e3;exact⟨av _,fun _=>⟨rfl,av _,av _,.inl ⟨rfl,by simp[gF],_,rfl⟩⟩⟩
end
section
variable {P:Program} {C:eR} {o:Oper} {bq:Env} {M:aC} {j:J} {w:World} {a:Act} {x:ag×aC}
def Qr{x:ag}{u v:Value}(h:valOf x=some u)(hr:gn j M w x v):v=u:=by
 unfold valOf at h;split at h
 ·cases h; exact hr.fX
 ·rename_i k n;cases h;obtain⟨vs,rfl,hl,hc⟩:=hr.ng;have hs:vs.size=1:=by simpa using hl.symm
  have h0:vs[0]?=some (vs[0]'(by omega)):=bh aI;have h1:=(hc 0 _ _ rfl h0).fX;congr 1;apply Array.ext
  ·simpa using hs
  ·intro i h2 h3;have:i=0:=aI;subst this;simpa using h1
 ·cases h
def gn.NN{u v:Value}(h:gn j M w (.raw u) v):v=u:=by cases h with|plain h=>cases h; rfl
def Wn(hr:Rel j M w)(he:cn j M w bq a){t:TypeId}{y:Operand}{z:fZ}{d:TypeDesc}(hop:o.op = .makeInterface t y)(hu:P.underlying t=some d)(hd:∀m,d ≠ .interface m)(hz:eV y=some z)
  (h:ec C bq M (.iface t z)=some x):∃v w',rj P o a w v w'/\iU j M w x v w':=by
 simp only[ec] at h;have h1:=cR he hz;split at h
 ·rename_i id off e;cases h;rw[e] at h1;obtain⟨b,_,hc,hj,hy⟩:=h1.qt;refine⟨_,w,.inl ?_,.still hr (.ky hc hj)⟩;simp only[execOp,hop,Instr.makeInterface,hy];cases d<;>first|exact absurd rfl (hd _)|simp[dY hu]
 obtain⟨v,hv,h⟩:=bp h;cases h;have hy:=Qr hv h1;refine⟨.iface t v,w,.inl ?_,.still hr (.plain (.raw _ rfl))⟩;simp only[execOp,hop,Instr.makeInterface,hy];cases d<;>first|exact absurd rfl (hd _)|simp[dY hu]
def Wv(hr:Rel j M w)(he:cn j M w bq a){y:Operand}{z:fZ}(hop:o.op = .panic y)(hz:eV y=some z)(h:ec C bq M (.raise z)=some x) :
  ∃u,(execOp a.eval o).run P w = .halt (.panic u) w/\HW j M w x u w:=by
 simp only[ec] at h;have h1:=cR he hz;split at h
 ·rename_i v e;split at h
  ·rename_i t u;cases h;rw[e] at h1;refine⟨.iface t u,?_,rfl,j,hr,Ext.refl j M w⟩;have:a.eval y = .iface t u:=h1.NN;simp[execOp,hop,Instr.panic,this]
  ·cases h
 ·cases h
end
section
variable {P:Program} {C:eR} {o:Oper} {bq:Env} {M:aC} {j:J} {w:World} {a:Act} {x:ag×aC}
def Wy(he:cn j M w bq a){y:Operand}{z:fZ}(hz:Re y=some z):gn j M w (z.ev bq) (a.eval y):=by
 unfold Re at hz;split at hz
 ·cases hz;exact .plain (.raw _ rfl)
 ·exact cR he hz
def RT{n:Nat}(he:cn j M w bq a):∀ {parts:List (Nat×Operand)} {ps:List (Nat×Nat×fZ)} {cs cs':List ag} {cells:Array Value},
  xZ n parts=some ps->mC bq cs ps=some cs'->RC j M w cs cells ->
  ∃cells',Instr.fill (fun i=>some (i*n,n)) cells (parts.map fun p=>(p.1,a.eval p.2))=some cells'/\RC j M w cs' cells':=by
 intro parts;induction parts with
 |nil =>
  intro ps cs cs' cells h1 h2 h3;simp[xZ] at h1; subst h1;simp[mC] at h2; subst h2;exact⟨cells,rfl,h3⟩
 |cons p r ih =>
  intro ps cs cs' cells h1 h2 h3;obtain⟨i,y⟩:=p;simp only[xZ] at h1;obtain⟨z,hz,h1⟩:=bf h1;obtain⟨l,hl,h1⟩:=bf h1;cases h1;simp only[mC] at h2;obtain⟨new,jw,h2⟩:=bp h2;split at h2
  ·rename_i hc;obtain⟨c1,c2⟩:=hc;have hrc:=tE (cR he hz) jw;obtain⟨cells',e1,e2⟩:=ih hl h2 (h3.write (off:=i*n) hrc aI);refine⟨cells',?_,e2⟩;have hs1:=hrc.1;have hs2:=h3.1;simp only[aF,Instr.fill];rw[aL gm];exact e1
  ·cases h2
def PQ(hr:Rel j M w)(he:cn j M w bq a){t e:TypeId}{len n:Nat}{parts:Array (Nat×Operand)}{i:TypeInfo}{zv:Value}{l:List ag}{ps:List (Nat×Nat×fZ)}(hop:o.op = .build t parts)
  (ht:P.underlying t=some (.array len e)) (hi:P.info? t=some i) (hzv:i.zero=some zv) (hl:th zv.cells.toList=some l) (hn:qE P e=some n) (hps:xZ n parts.toList=some ps)
  (h:ec C bq M (.build l ps)=some x):∃v w',rj P o a w v w'/\iU j M w x v w':=by
 simp only[ec] at h;obtain⟨cs,hcs,h⟩:=bp h;cases h;obtain⟨h1,h2⟩:=qF (j:=j) (M:=M) (w:=w) hl;obtain⟨cells',e1,e2⟩:=RT (n:=n) he hps hcs (cells:=zv.cells) ⟨by simpa using h1,fun i c v hc hv=>h2 i c v hc (by simpa using hv)⟩
 refine⟨.agg cells',w,.inl ?_,.still hr (.agg e2.1 e2.2)⟩;have e1':Instr.fill (fun i=>some (i*n,n)) zv.cells (parts.map fun p=>(p.1,a.eval p.2)).toList=some cells':=by simpa using e1
 simp only[execOp,hop,Instr.build,zeroValue,Sem.run_bind,pY hi,Result.andThen_ok,hzv,Sem.run_pure,dY ht,jr hn];simp only[e1',Sem.run_pure,Result.andThen_ok]
def Lj{a b:ag}{r:Bool}(h:kC .i a b=some r):∃k x y,a = .int k x/\b = .int k y/\r=(x==y):=by
 cases a<;>cases b<;>first
  |(simp only[kC] at h
    split at h
    ·rename_i hk; subst hk; injection h with h; exact⟨_,_,_,rfl,rfl,h.symm⟩
    ·cases h)
  |cases h
def B5{d:Nat}{e:TypeId}{k0:IntKind}(hk:P.underlying e=some (.int k0))(hc1:P.cellsOf e=1){cs ds:List ag}{us vs:Array Value}(hc:RC j M w cs us)(hd:RC j M w ds vs):∀(n k:Nat){r:Bool},lh (List.replicate n .i) (cs.drop k) (ds.drop k)=some r ->
  (Op.eqItems (d+1) e (P.cellsOf e) us vs (List.range' k n)).run P w = .ok r w
 |0,k,r,h2=>by
  unfold lh at h2;split at h2<;>simp_all [Op.eqItems]
 |n+1,k,r,h2=>by
  have hk1:k<cs.length:=by
   rcases bD k cs.length with h|h
   ·exact h
   ·rw[jn h,jk] at h2; simp[lh] at h2
  have hk2:k<ds.length:=by
   rcases bD k ds.length with h|h
   ·exact h
   ·rw[jn h,du hk1,jk] at h2;simp[lh] at h2
  rw[du hk1,du hk2,jk] at h2;simp only[lh] at h2;obtain⟨e1,he1,h2⟩:=bp h2;obtain⟨e2,he2,h2⟩:=bp h2;cases h2;have hlu:k<us.size:=by have:=hc.1; omega
  have hlv:k<vs.size:=by have:=hd.1; omega
  have hu:=bh hlu;have hv:=bh hlv;have ih:=B5 (d:=d) hk hc1 hc hd n (k+1) he2;have hr1:=hc.2 k _ _ (ai hk1) hu;have hr2:=hd.2 k _ _ (ai hk2) hv;have hag:CE P e=some false:=by simp[CE,hk]
  have p1:(part e us (k*P.cellsOf e)).run P w = .ok us[k] w:=by simp[part,lO hag,hc1,hu]
  have p2:(part e vs (k*P.cellsOf e)).run P w = .ok vs[k] w:=by simp[part,lO hag,hc1,hv]
  have p3:(Op.equalIn (d+1) e us[k] vs[k]).run P w = .ok e1 w:=by
   obtain⟨kk,x,y,e3,e4,rfl⟩:=Lj he1;rw[e3] at hr1; rw[e4] at hr2;rw[hr1.fX,hr2.fX];exact run_equalIn_int w d e _ _ x y hk
  rw[List.range'_succ];simp only[Op.eqItems,Sem.run_bind,p1,p2,p3,Result.andThen_ok];cases e1
  ·simp
  ·simpa using ih
def Wi(hr:Rel j M w)(he:cn j M w bq a){y y':Operand}{z z':fZ}{t t' e:TypeId}{len:Nat}{k0:IntKind}(hop:o.op = .binOp .eql t y y' t')(ht:P.underlying t=some (.array len e))(hk:P.underlying e=some (.int k0))(hs:qE P e=some 1)
  (hz:eV y=some z) (hz':eV y'=some z') (h:ec C bq M (.QC (List.replicate len .i) false z z')=some x):∃v w',rj P o a w v w'/\iU j M w x v w':=by
 simp only[ec] at h;have h1:=cR he hz;have h2:=cR he hz';split at h
 ·rename_i cs ds ez ez';obtain⟨r,hee,h⟩:=bp h;cases h;rw[ez] at h1;rw[ez'] at h2;obtain⟨us,hus,hul,huc⟩:=h1.ng;obtain⟨vs,hvs,hvl,hvc⟩:=h2.ng;obtain⟨inf,hinf,hsz⟩:=EK hs;have hc1:P.cellsOf e=1:=by simp[Program.cellsOf,hinf,hsz]
  have heq:(Op.equal t (.agg us) (.agg vs)).run P w = .ok r w:=by
   unfold Op.equal;rw[show Op.maxDepth=9998+1+1 from rfl,run_equalIn_array w (9998+1) us vs ht hinf,lG]
   exact B5 (d:=9998) hk hc1 ⟨hul,huc⟩ ⟨hvl,hvc⟩ len 0 (by simpa using hee)
  have hgt:P.eqGuardType P.depth t=false:=by
   unfold Program.depth;rw[show 2*(P.types.size+Made.depth)+2=(2*(P.types.size+Made.depth))+1+1 from rfl,Program.eqGuardType,ht]
   simp only[Program.eqGuardType,hk]
  have hguard:∀op,(eqGuard op t y y' (.agg us) (.agg vs)).run P w = .ok () w:=by
   intro op;unfold eqGuard;cases op<;>simp[hgt]
  exact⟨.bool r,w,.inl (by simp[execOp,hop,hus,hvs,hguard,binOp,heq]),.still hr (.plain (.bool _))⟩
 ·cases h
def uk{l:List ag}(hp:0<l.length)(h1:l.all ag.plainCell=true):(ag.agg l).norm.cells=l:=by
 match l with
 | []=>simp at hp
 | [c] =>
  simp only[kN,List.all_nil,gG] at h1
  show c.cells=[c]
  cases c<;>first|rfl|cases h1
 |_::_::_=>rfl
def VX(z:Array Value)(n k:Nat)(h:k<n)(hz:0<z.size):(madeCells z n)[k]?=z[k % z.size]?:=by
 have hm:k % z.size<z.size:=kZ _ hz;rw[bh hm];simp[madeCells,h,hm]
def Oq(w:World)(iz:Nat->Nat->Prop){v:Value}{c:ag}(h:Kz v=some c):fS w iz c.shut v:=by
 unfold Kz at h
 split at h<;>first
  |(cases h; first|exact .bool _|exact .int _ _|exact .str _|exact .raw _ rfl|exact fS.nil _ _ _)
  |cases h
def HY:∀ {vs:List Value} {l:List ag},th vs=some l->∀(i:Nat)(c:ag)(v:Value),l[i]?=some c->vs[i]?=some v->Kz v=some c
 | [],l,h,i,c,v,h1,h2=>by simp at h2
 |u::r,l,h,i,c,v,h1,h2=>by
  simp only[th] at h;obtain⟨x,hx,h⟩:=bf h;obtain⟨l',hl,h⟩:=bf h;cases h;cases i with
  |zero=>simp at h1 h2; subst h1; subst h2; exact hx
  |succ i=>exact HY hl i c v (by simpa using h1) (by simpa using h2)
def Ny{t e:TypeId}{i:TypeInfo}{zv:Value}{l:List ag}{y:Operand}{k:Int}{kk:IntKind}(hop:o.op = .makeSlice t y y)(ht:P.underlying t=some (.slice e))(hi:P.info? e=some i)(hzv:i.zero=some zv)
  (hl:th zv.cells.toList=some l) (c1:l.length=i.size) (c2:0<i.size) (c3:i.bytes<=32*i.size) (hev:a.eval y = .int kk k) (h0:0<=k) (hroom:cq k.toNat (8*(l.map ag.shut).length)) (hpl:(l.map ag.shut).all ag.plainCell=true) :
  ∃row:Array Value,(execOp a.eval o).run P w = .ok (.value (.slice (some ⟨w.heap.size,0,none⟩) k.toNat k.toNat)) (w.alloc (.cells row e))/\row.size=k.toNat*i.size /\
   ∀iz (w':World) (q:Nat) (x:ag) (p:Nat) (c:ag),(List.replicate k.toNat (ag.agg (l.map ag.shut)).norm)[q]?=some x->x.cells[p]?=some c->∃v,row[q*i.size+p]?=some v/\fS w' iz c v:=by
 have hls:(l.map ag.shut).length=i.size:=by simpa using c1
 have hzs:zv.cells.size=i.size:=by
  have:=(qF (j:=⟨fun _=>none,fun _ _=>False⟩) (M:=[]) (w:=w) hl).1
  simp at this; omega
 unfold cq at hroom;rw[hls] at hroom
 have hb:i.bytes*k.toNat<=2 ^ 46:=by
  have h1:=bd k.toNat c3;have h2:32*i.size*k.toNat=4*(k.toNat*(8*i.size)):=by rw[show(32:Nat)=4*8 from rfl,Nat.mul_assoc 4 8,Nat.mul_assoc 4,Nat.mul_comm (8*i.size)]
  omega
 have hk44:k.toNat<=2 ^ 44:=aZ (fK _ aI) hroom
 have hrun:=run_make (P:=P) w t e i zv ht hi hzv kk kk k k h0 (dN _) (by
  have:((i.bytes*k.toNat:Nat):Int)<=2 ^ 46:=by exact_mod_cast hb
  rw[Int.natCast_mul,oL h0] at this;omega) aI
 refine⟨madeCells zv.cells (k.toNat*i.size),by simp[execOp,hop,hev,hrun],size_madeCells _ _,fun iz w' q x p c hx hc=>?_⟩
 rw[ia] at hx;split at hx
 ·rename_i hq;cases hx;rw[uk aI hpl] at hc;have hp:p<i.size:=by rw[<-hls]; exact aP hc
  have cL:q*i.size+p<k.toNat*i.size:=by
   have:(q+1)*i.size<=k.toNat*i.size:=bd _ hq;rw[bP,fL] at this;omega
  rw[VX _ _ _ cL aI,hzs,Nat.add_comm,Nat.add_mul_mod_self_right,nL hp];rw[aY,aV] at hc;obtain⟨c0,hc0,rfl⟩:=hc;have hpz:p<zv.cells.size:=aI;have hv:=bh hpz;refine⟨_,hv,?_⟩;exact Oq w' iz (HY hl p c0 _ hc0 dv)
 ·cases hx
def Ws(hr:Rel j M w)(he:cn j M w bq a){t e:TypeId}{i:TypeInfo}{zv:Value}{l:List ag}{y:Operand}{z:fZ}(hop:o.op = .makeSlice t y y)(ht:P.underlying t=some (.slice e))(hi:P.info? e=some i)(hzv:i.zero=some zv)
  (hl:th zv.cells.toList=some l) (hz:eV y=some z) (c1:l.length=i.size) (c2:0<i.size) (c3:i.bytes<=32*i.size) (h:ec C bq M (.mkS (l.map ag.shut) z)=some x):∃v w',rj P o a w v w'/\iU j M w x v w':=by
 simp only[ec] at h;have h1:=cR he hz;split at h
 ·rename_i kk k ek;obtain⟨⟨h0,hroom,hpl⟩,h⟩:=dg h;cases h;rw[ek] at h1;obtain⟨row,hrun,hsz,hel⟩:=Ny (w:=w) hop ht hi hzv hl c1 c2 c3 h1.fX h0 hroom hpl;have hls:(l.map ag.shut).length=i.size:=by simpa using c1
  obtain⟨q,hb,jw⟩:=pd (w:=w) (.cells row e (0,0));refine⟨_,{ w with heap:=w.heap.push (.cells row e (0,0)) },.inl hrun,?_⟩
  have ext:Ext j M w j M { w with heap:=w.heap.push (.cells row e (0,0)) }:=Ext.grow q.size rfl rfl rfl hb
  have rel:Rel j M { w with heap:=w.heap.push (.cells row e (0,0)) }:=hr.grow q.size rfl rfl rfl hb
  refine⟨j,rel,ext,.plain (.slice _ _ _ _ w.heap.size 0 i.size (fun p=>(row[p]?).getD undef) dv (av _) (fun _=>rfl) (fun x hx=>?_) (fun n y k c hn hk=>?_) (fun n y k c hn hk=>?_))⟩
  ·obtain⟨_,rfl⟩:=List.mem_replicate.1 hx;rw[uk aI hpl,hls]
  ·obtain⟨u,hu,_⟩:=hel (oG j M { w with heap:=w.heap.push (.cells row e (0,0)) }) { w with heap:=w.heap.push (.cells row e (0,0)) } n y k c hn hk
   refine⟨?_,dv,fun id hid hj=>?_,fun hx=>absurd (hr.AD _ _ hx) (ib _)⟩
   ·simp only[World.cell?,jw,aJ,hu];rfl
   ·have:=hr.lt id _ hid hj;omega
  ·obtain⟨u,hu,hru⟩:=hel (oG j M { w with heap:=w.heap.push (.cells row e (0,0)) }) { w with heap:=w.heap.push (.cells row e (0,0)) } n y k c hn hk
   rw[hu];exact hru
 ·cases h
def aaV(hr:Rel j M w)(he:cn j M w bq a){t e:TypeId}{i:TypeInfo}{zv:Value}{l:List ag}{y:Operand}{z:fZ}(hop:o.op = .makeSlice t y y)(ht:P.underlying t=some (.slice e))(hi:P.info? e=some i)(hzv:i.zero=some zv)
  (hl:th zv.cells.toList=some l) (hz:eV y=some z) (c1:l.length=i.size) (c2:0<i.size) (c3:i.bytes<=32*i.size) (h:ec C bq M (.PL (l.map ag.shut) z)=some x):∃v w',rj P o a w v w'/\iU j M w x v w':=by
 simp only[ec] at h;have h1:=cR he hz;split at h
 ·rename_i kk k ek;obtain⟨⟨h0,hroom,hpl⟩,h⟩:=dg h;cases h;rw[ek] at h1;obtain⟨row,hrun,hsz,hel⟩:=Ny (w:=w) hop ht hi hzv hl c1 c2 c3 h1.fX h0 hroom hpl;have hls:(l.map ag.shut).length=i.size:=by simpa using c1
  rw[hls];obtain⟨q,hb,jw⟩:=pd (w:=w) (.cells row e (0,0));have hob:∀b,some w.heap.size=some b->w.heap.size<=b/\b<({ w with heap:=w.heap.push (.cells row e (0,0)) }:World).heap.size:=fun b h=>by cases h; simp
  have ext:Ext j M w (gF j M.length (some w.heap.size)) (M++[.arr i.size 0 (List.replicate k.toNat (ag.agg (l.map ag.shut)).norm)]) { w with heap:=w.heap.push (.cells row e (0,0)) }:=Ext.push (fun b hb=>(hob b hb).1) q hb
  refine⟨_,{ w with heap:=w.heap.push (.cells row e (0,0)) },.inl hrun,gF j M.length (some w.heap.size),hr.push hob q hb (fun h=>by cases h) (fun sz n b h _=>by cases h) (fun sz0 v0 xs0 he=>?_),ext,?_⟩
  ·injection he with e1 e2 e3
   subst e1; subst e2; subst e3;refine .inr ⟨w.heap.size,row,e,rfl,jw,by simp[hsz],fun x hx=>?_,fun j' M' hx q0 x p c hq hp=>hel (oG j' M' { w with heap:=w.heap.push (.cells row e (0,0)) }) { w with heap:=w.heap.push (.cells row e (0,0)) } q0 x p c hq hp⟩
   obtain⟨_,rfl⟩:=List.mem_replicate.1 hx;rw[uk aI hpl,hls]
  ·refine .cz (.inl ⟨_,_,_,by rw[bK],aI⟩) dv (fun bx hbx=>by rw[kh] at hbx; cases hbx; rfl) fun sz' v' ys hx=>?_
   rw[kh] at hx; injection hx with hx; injection hx with e1 e2 e3
   subst e1; subst e2; subst e3;exact⟨av _,fun _=>⟨rfl,cQ _,dv,.inr ⟨w.heap.size,k.toNat,row,e,by simp[gF],dv,aI,jw,by rw[aJ]; omega⟩⟩⟩
 ·cases h
end
section
variable {j:J} {M:aC} {w w':World}
def Ext.u6{k b' sz ver ver':Nat}{xs xs':List ag}(hM:M[k]?=some (.arr sz ver xs))(q:Quiet w w')(hb:∀b,b<w.heap.size->w'.heap[b]?=w.heap[b]?)(hf:w.heap.size<=b')(hn:ver<ver') :
  Ext j M w (gF j k (some b')) (M.set k (.arr sz ver' xs')) w' where
 len:=dv
 size:=q.size
 os:=q.os
 tape:=q.tape
 output:=q.output
 X:=rfl
 fix:=fun i b0 h hf=>by
  have e:k≠i:=by rintro rfl; rw[hM] at h; cases h; cases hf
  exact⟨by simp[gF,eS e],b0,by rw[cK e]; exact h,rfl⟩
 tick:=fun i sz0 n0 h=>by
  have e:k≠i:=by rintro rfl; rw[hM] at h; cases h
  exact⟨n0,av _,by rw[cK e]; exact h,fun _=>⟨by simp[gF,eS e],fun b vs0 t0 _ hv=>⟨vs0,(hb b (lt_of_block hv)).trans hv,rfl⟩⟩⟩
 arr:=fun i sz0 v0 xs0 h=>by
  by_cases e:k=i
  ·subst e;rw[hM] at h;injection h with h; injection h with h1 h2 h3
   subst h1; subst h2; subst h3;exact .inr ⟨ver',xs',eb (aP hM),aI,fun he=>aI⟩
  ·exact .inr ⟨v0,xs0,by rw[cK e]; exact h,av _,fun _=>⟨by simp[gF,eS e],rfl,fun b vs0 t0 _ hv=>⟨vs0,(hb b (lt_of_block hv)).trans hv,rfl⟩⟩⟩
 tags:=fun b0 vs0 t0 fr0 h=>⟨vs0,fr0,(hb b0 (lt_of_block h)).trans h,rfl⟩
 iz:=fun b0 off h=>by
  refine⟨⟨bz h.1 q.size,fun i hi hji=>?_,h.3⟩,World.cell?_of_block (w:=w) (hb b0 h.1)⟩
  have e:k≠i:=by
   rintro rfl;have:b'=b0:=by simpa[gF] using hji
   have:=h.1;omega
  rw[cK e];exact h.2 i (by simpa using hi) (by simpa[gF,eS e] using hji)
 um:=fun b0 cL h=>by
  refine⟨hb b0 cL,fun i hi hji=>?_⟩
  by_cases e:i=k
  ·have:b'=b0:=by simpa[gF,e] using hji
   omega
  ·exact h i (by simpa using hi) (by simpa[gF,e] using hji)
def Rel.u6{k b' sz ver ver':Nat}{xs xs':List ag}(hM:M[k]?=some (.arr sz ver xs))(hr:Rel j M w)(q:Quiet w w')(hb:∀b,b<w.heap.size->w'.heap[b]?=w.heap[b]?)
  (hf:w.heap.size<=b') (cL:b'<w'.heap.size) (hn:ver<ver') (hh:∀j' M',Ext j M w j' M' w'->Fk j' M' w' b' sz xs'):Rel (gF j k (some b')) (M.set k (.arr sz ver' xs')) w':=by
 have ext:Ext j M w (gF j k (some b')) (M.set k (.arr sz ver' xs')) w':=Ext.u6 hM q hb hf hn;refine⟨fun i i' b0 hi hi' h h'=>?_,fun i b0 hi h=>?_,fun i bx0 h hf=>?_,fun i sz0 n0 b0 h hji=>?_,fun i sz0 v0 xs0 h=>?_,fun i b0 hi h off hx=>?_,fun b0 off h=>bz (hr.AD b0 off h) q.size⟩
 ·simp only[cG] at hi hi'
  by_cases e:i=k<;>by_cases e':i'=k
  ·omega
  ·have h1:b'=b0:=by simpa[gF,e] using h
   have:=hr.lt i' b0 hi' (by simpa[gF,e'] using h')
   omega
  ·have h1:b'=b0:=by simpa[gF,e'] using h'
   have:=hr.lt i b0 hi (by simpa[gF,e] using h)
   omega
  ·exact hr.inj i i' b0 hi hi' (by simpa[gF,e] using h) (by simpa[gF,e'] using h')
 ·simp only[cG] at hi
  by_cases e:i=k
  ·have h1:b'=b0:=by simpa[gF,e] using h
   subst h1;exact cL
  ·exact bz (hr.lt i b0 hi (by simpa[gF,e] using h)) q.size
 ·have e:k≠i:=by rintro rfl; rw[eb (aP hM)] at h; cases h; cases hf
  rw[cK e] at h;obtain⟨b0,h1,h2⟩:=hr.fix i bx0 h hf;exact⟨b0,by simpa[gF,eS e] using h1,h2.mono ext (hb b0 (hr.lt i b0 (aP h) h1))⟩
 ·have e:k≠i:=by rintro rfl; rw[eb (aP hM)] at h; cases h
  rw[cK e] at h;obtain⟨vs0,t0,h1⟩:=hr.tick i sz0 n0 b0 h (by simpa[gF,eS e] using hji)
  exact⟨vs0,t0,(hb b0 (lt_of_block h1)).trans h1⟩
 ·by_cases e:k=i
  ·subst e;rw[eb (aP hM)] at h;injection h with h; injection h with e1 e2 e3
   subst e1; subst e2; subst e3;obtain⟨vs,t,g⟩:=hh _ _ ext;exact .inr ⟨b',vs,t,by simp[gF],g⟩
  ·rw[cK e] at h;exact qG hr ext h (by simp[gF,eS e]) fun b0 h1=>hb b0 (hr.lt i b0 (aP h) h1)
 ·by_cases e:i=k
  ·have h1:b'=b0:=by simpa[gF,e] using h
   have h2:=hr.AD b0 off hx;omega
  ·exact hr.vj i b0 (by simpa using hi) (by simpa[gF,e] using h) off hx
def oc{iz:Nat->Nat->Prop}{xs:List ag}{v:Value}{size:Nat}(hx:fS w iz (.slice .sh xs) v)(hw:wid xs size):∃A cap,v = .slice A xs.length cap/\xs.length<=cap /\
  (xs=[]\/∃b off,A=some ⟨b,off,none⟩/\∃us:List Value,RL w iz (j9 xs) us/\us.length=xs.length*size/\(∀u,u∈us->u.oneCell'=true)/\∀p u,us[p]?=some u->w.cell? ⟨b,off+p,none⟩=some u/\iz b (off+p)):=by
 cases hx with
 |slice _ A len cap b off sz vs hl hc ha hz hs hr =>
  subst hl;refine⟨A,cap,rfl,hc,?_⟩;rcases nB xs with h0|⟨_,_,h0⟩
  ·exact .inl h0
  ·have hne:xs≠[]:=by rw[h0]; simp
   have hsz:sz=size:=by
    obtain⟨x,r,hxr⟩:=fj hne;have hm:x∈xs:=by rw[hxr]; exact bE ..
    rw[<-hz x hm,hw x hm]
   subst hsz;have dD:((List.range (xs.length*sz)).map vs).length=xs.length*sz:=dv
   have hrl:RL w iz (j9 xs) ((List.range (xs.length*sz)).map vs):=by
    refine⟨by rw[iR hw,dD],fun p c v hc hv=>?_⟩
    obtain⟨q,x,k,h1,h2,rfl⟩:=DH hw hc;have cL:q*sz+k<xs.length*sz:=by rw[<-iR hw]; exact aP hc
    rw[aY,jj cL] at hv;simp only[dL] at hv;cases hv;exact hr q x k c h1 h2
   refine .inr ⟨b,off,ha hne,_,hrl,dD,fun u hu=>?_,fun p u hu=>?_⟩
   ·obtain⟨p,hp⟩:=bV hu;have hp':p<(j9 xs).length:=by rw[hrl.1]; exact aP hp
    exact fS.one (hrl.2 p _ u (ai hp') hp)
   ·have hp':p<(j9 xs).length:=by rw[hrl.1]; exact aP hu
    obtain⟨q,x,k,h1,h2,rfl⟩:=DH hw (ai hp');have cL:q*sz+k<xs.length*sz:=by rw[<-iR hw]; exact hp'
    rw[aY,jj cL] at hu;simp only[dL] at hu;cases hu;exact hs q x k _ h1 h2
end
end
end Go.Abs
