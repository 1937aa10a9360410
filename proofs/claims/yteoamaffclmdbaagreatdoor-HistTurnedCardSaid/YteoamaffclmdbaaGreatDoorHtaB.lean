import Derived.Test.YteoamaffclmdbaaGreatDoorHtaA
set_option linter.all false
open Go.Proofs.Tryz
set_option maxRecDepth 100000
namespace Go.Proofs.YteoamaffclmdbaaGreatDoor
open Go Go.Abs
def fp{o:Option eJ}{n:Nat}{r:List sS}{c:cG}(h:o=some (eJ.mk n r c):=by kernel_rfl):o=some (eJ.mk n r (sub c 0)):=okc h
def fN(r k:cG)(h:At r 0 k:=by exact aiW _):eqs r 0 k:=wi r k 0 h
def U7:Ko [] f238:=eN
def akl:=U7.1
def ado:=eJ.mk 1 [.tmp 2] (sub akl 0)
def U9:Ko [] f240:=eN
def akn:=U9.1
def adq:=eJ.mk 2 [.tmp 4,.tmp 5] (sub akn 0)
def Uz:Ko [] f194:=eN
def ajV:=Uz.1
def acY:=eJ.mk 2 [.dK 4 6,.tmp 5] (sub ajV 0)
def UC:Ko [] f197:=eN
def ajY:=UC.1
def ac0:=eJ.mk 2 [.dK 4 6,.tmp 5] (sub ajY 0)
def UD:Ko [] f198:=eN
def aeO:=UD.1
def I3:=eJ.mk 1 [.tmp 2] (sub aeO 0)
abbrev Ns:=sub aeO 15
def amZ:Ko [] f249:=eN
def apz:=amZ.1
def alx:=eJ.mk 3 [.tmp 6,.tmp 7] (sub apz 0)
def Ve:Ko [] f250:=eN
def akr:=Ve.1
def adu:=eJ.mk 2 [.tmp 4] (sub akr 0)
def Vf:Ko [] f251:=eN
def aks:=Vf.1
def adv:=eJ.mk 2 [.tmp 4] (sub aks 0)
def UE:Ko [] f199:=eN
def ajZ:=UE.1
def ac1:=eJ.mk 2 [.tmp 4,.tmp 5] (sub ajZ 0)
def pz:=by
 have h:=bR (fN akl U7.1) (bR (fN akn U9.1) (bR (fN ajV Uz.1) (bR (fN ajY UC.1) (bR (fN aeO UD.1) (bR (fN akr Ve.1) (bR (fN aks Vf.1) (fN ajZ UE.1)))))));simp only[eN,U7,U9,Uz,UC,UD,Ve,Vf,UE,yx,seval] at h;exact h
def aiJ:=pz.1
def ao9:=pz.2.1
def aen:=pz.2.2.1
def Yb:=pz.2.2.2.1
def wM:=pz.2.2.2.2.1
def apc:=pz.2.2.2.2.2.1
def apd:=pz.2.2.2.2.2.2.1
def aoV:=pz.2.2.2.2.2.2.2
def TU:Ko [] f151:=eN
def ajt:=TU.1
def acD:=eJ.mk 3 [.tmp 6,.tmp 7] (sub ajt 0)
def Uw:Ko [] f191:=eN
def ajT:=Uw.1
def acV:=eJ.mk 2 [.dK 4 6,.tmp 5] (sub ajT 0)
def UF:Ko [9] f200:=eN
def aeP:=UF.1
def Sn:=eJ.mk 2 [.tmp 4] (sub aeP 0)
def anA:sR [9] f200 Sn:=fp
abbrev Z5:=sub aeP 7
def U8:Ko [] f239:=eN
def akm:=U8.1
def adp:=eJ.mk 2 [.tmp 4] (sub akm 0)
def Un:Ko [1000241,1000242] f182:=eN
def ajM:=Un.1
def Sh:=eJ.mk 2 [] (sub ajM 0)
def anu:sR [1000241,1000242] f182 Sh:=fp
def Va:Ko [1000241,1000283] f244:=eN
def ako:=Va.1
def St:=eJ.mk 2 [] (sub ako 0)
def anF:sR [1000241,1000283] f244 St:=fp
def Uo:Ko [1000205,1000243,2000182] f183:=eN
def ajN:=Uo.1
def Si:=eJ.mk 4 [] (sub ajN 0)
def anv:sR [1000205,1000243,2000182] f183 Si:=fp
def UA:Ko [1000205,1000248,2000182] f195:=eN
def ajW:=UA.1
def Sm:=eJ.mk 3 [] (sub ajW 0)
def anz:sR [1000205,1000248,2000182] f195 Sm:=fp
def pA:=by
 have h:=bR (fN ajt TU.1) (bR (fN ajT Uw.1) (bR (fN aeP UF.1) (bR (fN akm U8.1) (bR (fN ajM Un.1) (bR (fN ako Va.1) (bR (fN ajN Uo.1) (fN ajW UA.1)))))));simp only[eN,TU,Uw,UF,U8,Un,Va,Uo,UA,yx,seval] at h;exact h
def Kt:=pA.1
def aoU:=pA.2.1
def CC:=pA.2.2.1
def ao8:=pA.2.2.2.1
def aem:=pA.2.2.2.2.1
def aet:=pA.2.2.2.2.2.1
def QU:=pA.2.2.2.2.2.2.1
def Ya:=pA.2.2.2.2.2.2.2
def UB:Ko [] f196:=eN
def ajX:=UB.1
def acZ:=eJ.mk 2 [] (sub ajX 0)
def Um:Ko [] f181:=eN
def ajL:=Um.1
def acR:=eJ.mk 3 [.tmp 6] (sub ajL 0)
def UH:Ko [] f202:=eN
def aj1:=UH.1
def ac3:=eJ.mk 2 [.tmp 4] (sub aj1 0)
def Ut:Ko [] f187:=eN
def ajQ:=Ut.1
def acT:=eJ.mk 2 [.dK 4 3,.tmp 5] (sub ajQ 0)
def UY:Ko [] f225:=eN
def akf:=UY.1
def adk:=eJ.mk 3 [.dK 6 3,.tmp 7] (sub akf 0)
def TP:Ko [] f147:=eN
def ajq:=TP.1
def acA:=eJ.mk 4 [.dK 8 3,.tmp 9,.tmp 10] (sub ajq 0)
def TR:Ko [] f149:=eN
def ajr:=TR.1
def acB:=eJ.mk 4 [.dK 8 3,.tmp 9] (sub ajr 0)
def TT:Ko [] f150:=eN
def ajs:=TT.1
def acC:=eJ.mk 3 [.dK 6 3,.tmp 7,.tmp 8] (sub ajs 0)
def oa:=by
 have h:=bR (fN ajX UB.1) (bR (fN ajL Um.1) (bR (fN aj1 UH.1) (bR (fN ajQ Ut.1) (bR (fN akf UY.1) (bR (fN ajq TP.1) (bR (fN ajr TR.1) (fN ajs TT.1)))))));simp only[eN,UB,Um,UH,Ut,UY,TP,TR,TT,yx,seval] at h;exact h
def aeo:=oa.1
def HV:=oa.2.1
def aiF:=oa.2.2.1
def aiE:=oa.2.2.2.1
def Yc:=oa.2.2.2.2.1
def aef:=oa.2.2.2.2.2.1
def aeg:=oa.2.2.2.2.2.2.1
def QS:=oa.2.2.2.2.2.2.2
def Vg:Ko [] f252:=eN
def aeU:=Vg.1
def adw:=eJ.mk 2 [.tmp 4] (sub aeU 0)
abbrev aac:=sub aeU 7
def UG:Ko [] f201:=eN
def aj0:=UG.1
def ac2:=eJ.mk 2 [.tmp 4] (sub aj0 0)
def Vi:Ko [] f254:=eN
def aku:=Vi.1
def ady:=eJ.mk 5 [.tmp 6] (sub aku 0)
def am3:Ko [] f287:=eN
def apD:=am3.1
def alE:=eJ.mk 2 [.tmp 4] (sub apD 0)
def Vh:Ko [] f253:=eN
def akt:=Vh.1
def adx:=eJ.mk 2 [.tmp 4] (sub akt 0)
def UI:Ko [] f203:=eN
def aj2:=UI.1
def ac4:=eJ.mk 3 [.tmp 6] (sub aj2 0)
def TV:Ko [] f152:=eN
def aeL:=TV.1
def acE:=eJ.mk 5 [.dK 10 3,.tmp 11,.tmp 12] (sub aeL 0)
abbrev NQ:=sub aeL 86
def am0:Ko [] f263:=eN
def apA:=am0.1
def alA:=eJ.mk 3 [.tmp 6,.tmp 7] (sub apA 0)
def Vt:Ko [] f278:=eN
def akE:=Vt.1
def adH:=eJ.mk 2 [.tmp 4] (sub akE 0)
def UL:Ko [] f209:=eN
def aj5:=UL.1
def ac7:=eJ.mk 2 [.tmp 4] (sub aj5 0)
def oc:=by
 have h:=bR (fN aeU Vg.1) (bR (fN aj0 UG.1) (bR (fN aku Vi.1) (bR (fN akt Vh.1) (bR (fN aj2 UI.1) (bR (fN aeL TV.1) (bR (fN akE Vt.1) (fN aj5 UL.1)))))));simp only[eN,Vg,UG,Vi,Vh,UI,TV,Vt,UL,yx,seval] at h;exact h
def Kv:=oc.1
def aoW:=oc.2.1
def aiL:=oc.2.2.1
def ape:=oc.2.2.2.1
def aoX:=oc.2.2.2.2.1
def yO:=oc.2.2.2.2.2.1
def apn:=oc.2.2.2.2.2.2.1
def aiG:=oc.2.2.2.2.2.2.2
def Vj:Ko [] f257:=eN
def akv:=Vj.1
def adz:=eJ.mk 1 [.tmp 2] (sub akv 0)
def agw:Ko [] f56:=eN
def b56:=agw.1
def alU:=eJ.mk 2 [.tmp 4] (sub b56 0)
def Ti:Ko [] f111:=eN
def ai7:=Ti.1
def acf:=eJ.mk 2 [.tmp 4] (sub ai7 0)
def Tj:Ko [] f112:=eN
def ai8:=Tj.1
def acg:=eJ.mk 2 [.tmp 4] (sub ai8 0)
def amV:Ko [] f113:=eN
def apv:=amV.1
def alk:=eJ.mk 2 [.tmp 4] (sub apv 0)
def amW:Ko [] f114:=eN
def apw:=amW.1
def alm:=eJ.mk 3 [.tmp 6] (sub apw 0)
def TW:Ko [1000205] f153:=eN
def aju:=TW.1
def yG:=eJ.mk 4 [.tmp 8,.tmp 9,.tmp 10] (sub aju 0)
def anj:sR [1000205] f153 yG:=fp
def T7:Ko [] f166:=eN
def ajC:=T7.1
def acH:=eJ.mk 2 [.tmp 4] (sub ajC 0)
def UJ:Ko [] f204:=eN
def aj3:=UJ.1
def ac5:=eJ.mk 2 [.tmp 4] (sub aj3 0)
def UK:Ko [] f206:=eN
def aj4:=UK.1
def ac6:=eJ.mk 2 [.tmp 3] (sub aj4 0)
def oe:=by
 have h:=bR (fN akv Vj.1) (bR (fN b56 agw.1) (bR (fN ai7 Ti.1) (bR (fN ai8 Tj.1) (bR (fN aju TW.1) (bR (fN ajC T7.1) (bR (fN aj3 UJ.1) (fN aj4 UK.1)))))));simp only[eN,Vj,agw,Ti,Tj,TW,T7,UJ,UK,yx,seval] at h;exact h
def apf:=oe.1
def E56:=oe.2.1
def aiv:=oe.2.2.1
def aoJ:=oe.2.2.2.1
def HU:=oe.2.2.2.2.1
def aiA:=oe.2.2.2.2.2.1
def aoY:=oe.2.2.2.2.2.2.1
def aoZ:=oe.2.2.2.2.2.2.2
def amX:Ko [] f208:=eN
def apx:=amX.1
def alq:=eJ.mk 2 [.tmp 4] (sub apx 0)
def agi:Ko [] f39:=eN
def b39:=agi.1
def alN:=eJ.mk 0 [.dK 0 3] (sub b39 0)
def Uj:Ko [] f178:=eN
def Yz:=Uj.1
def acO:=eJ.mk 2 [.tmp 4,.tmp 5] (sub Yz 0)
abbrev Z2:=sub Yz 19
abbrev ahP:=sub Yz 39
def Ul:Ko [] f180:=eN
def ajK:=Ul.1
def acQ:=eJ.mk 1 [.tmp 2,.tmp 3,.tmp 4] (sub ajK 0)
def w5:=by
 have h:=And.intro (fN b39 agi.1) (And.intro (fN Yz Uj.1) (fN ajK Ul.1));simp only[eN,agi,Uj,Ul,yx,seval] at h;exact h
def E39:=w5.1
def Ku:=w5.2.1
def X9:=w5.2.2
end Go.Proofs.YteoamaffclmdbaaGreatDoor
set_option maxRecDepth 100000
namespace Go.Proofs.YteoamaffclmdbaaGreatDoor
open Go Go.Abs
def UM:Ko [] f210:=eN
def aj6:=UM.1
def ac8:=eJ.mk 1 [.tmp 2] (sub aj6 0)
def UN:Ko [] f211:=eN
def aeQ:=UN.1
def ac9:=eJ.mk 3 [.tmp 6,.tmp 7] (sub aeQ 0)
abbrev Z6:=sub aeQ 9
def UO:Ko [] f212:=eN
def aj7:=UO.1
def ada:=eJ.mk 3 [.tmp 6] (sub aj7 0)
def UQ:Ko [] f213:=eN
def aj8:=UQ.1
def adb:=eJ.mk 1 [.tmp 2] (sub aj8 0)
def Vk:Ko [] f258:=eN
def akw:=Vk.1
def adA:=eJ.mk 1 [.dK 2 2] (sub akw 0)
def UR:Ko [] f217:=eN
def aj9:=UR.1
def ade:=eJ.mk 2 [.tmp 4] (sub aj9 0)
def amY:Ko [] f216:=eN
def apy:=amY.1
def als:=eJ.mk 2 [.tmp 4] (sub apy 0)
def US:Ko [] f219:=eN
def aka:=US.1
def adf:=eJ.mk 2 [.tmp 4] (sub aka 0)
def Vm:Ko [] f262:=eN
def aky:=Vm.1
def adB:=eJ.mk 2 [.tmp 3] (sub aky 0)
def pB:=by
 have h:=bR (fN aj6 UM.1) (bR (fN aeQ UN.1) (bR (fN aj7 UO.1) (bR (fN aj8 UQ.1) (bR (fN akw Vk.1) (bR (fN aj9 UR.1) (bR (fN aka US.1) (fN aky Vm.1)))))));simp only[eN,UM,UN,UO,UQ,Vk,UR,US,Vm,yx,seval] at h;exact h
def aiH:=pB.1
def HW:=pB.2.1
def ao0:=pB.2.2.1
def aiI:=pB.2.2.2.1
def apg:=pB.2.2.2.2.1
def ao1:=pB.2.2.2.2.2.1
def ao2:=pB.2.2.2.2.2.2.1
def aph:=pB.2.2.2.2.2.2.2
def Ur:Ko [] f185:=eN
def ajO:=Ur.1
def Sk:=eJ.mk 2 [.tmp 4] (sub ajO 0)
def TZ:Ko [1000215,1000214] f156:=eN
def ajw:=TZ.1
def Sd:=eJ.mk 5 [.tmp 10,.tmp 11] (sub ajw 0)
def anl:sR [1000215,1000214] f156 Sd:=fp
def T0:Ko [1000215,1000218,2000219] f157:=eN
def ajx:=T0.1
def M1:=eJ.mk 4 [.dK 8 3,.tmp 9,.tmp 10] (sub ajx 0)
def anm:sR [1000215,1000218,2000219] f157 M1:=fp
def Ua:Ko [] f169:=eN
def Yx:=Ua.1
def acK:=eJ.mk 3 [.dK 6 3,.tmp 7] (sub Yx 0)
abbrev ZU:=sub Yx 7
abbrev ahO:=sub Yx 23
def UX:Ko [] f224:=eN
def ake:=UX.1
def adj:=eJ.mk 3 [.tmp 6,.tmp 7] (sub ake 0)
def Uq:Ko [3] f184:=eN
def YA:=Uq.1
def Sj:=eJ.mk 1 [.tmp 2] (sub YA 0)
def anw:sR [3] f184 Sj:=fp
abbrev Z3:=sub YA 9
abbrev ahQ:=sub YA 25
def Uy:Ko [] f193:=eN
def ajU:=Uy.1
def acX:=eJ.mk 2 [.tmp 4,.tmp 5] (sub ajU 0)
def Vd:Ko [] f247:=eN
def aeT:=Vd.1
def adt:=eJ.mk 5 [] (sub aeT 0)
abbrev aab:=sub aeT 8
def pC:=by
 have h:=bR (fN ajO Ur.1) (bR (fN ajw TZ.1) (bR (fN ajx T0.1) (bR (fN Yx Ua.1) (bR (fN ake UX.1) (bR (fN YA Uq.1) (bR (fN ajU Uy.1) (fN aeT Vd.1)))))));simp only[eN,Ur,TZ,T0,Ua,UX,Uq,Uy,Vd,yx,seval] at h;exact h
def aiD:=pC.1
def Og:=pC.2.1
def aeh:=pC.2.2.1
def Oi:=pC.2.2.2.1
def aeq:=pC.2.2.2.2.1
def Oj:=pC.2.2.2.2.2.1
def QW:=pC.2.2.2.2.2.2.1
def Ol:=pC.2.2.2.2.2.2.2
def UZ:Ko [] f226:=eN
def akg:=UZ.1
def adl:=eJ.mk 2 [.tmp 4,.tmp 5] (sub akg 0)
def am1:Ko [] f267:=eN
def apB:=am1.1
def alB:=eJ.mk 3 [.tmp 6,.tmp 7] (sub apB 0)
def Vq:Ko [] f268:=eN
def akC:=Vq.1
def adG:=eJ.mk 2 [.tmp 4] (sub akC 0)
def Vu:Ko [] f284:=eN
def aeV:=Vu.1
def adI:=eJ.mk 3 [] (sub aeV 0)
abbrev aae:=sub aeV 4
def Vc:Ko [] f246:=eN
def akq:=Vc.1
def ads:=eJ.mk 3 [.tmp 6] (sub akq 0)
def Vv:Ko [] f285:=eN
def akF:=Vv.1
def adJ:=eJ.mk 3 [.tmp 4] (sub akF 0)
def Vb:Ko [] f245:=eN
def akp:=Vb.1
def adr:=eJ.mk 2 [.tmp 4] (sub akp 0)
def T4:Ko [1000189,1000227,1000228] f162:=eN
def ajA:=T4.1
def I0:=eJ.mk 5 [.tmp 10,.tmp 11] (sub ajA 0)
def ano:sR [1000189,1000227,1000228] f162 I0:=fp
def Vl:Ko [] f259:=eN
def akx:=Vl.1
def Su:=eJ.mk 1 [.tmp 2] (sub akx 0)
def oh:=by
 have h:=bR (fN akg UZ.1) (bR (fN akC Vq.1) (bR (fN aeV Vu.1) (bR (fN akq Vc.1) (bR (fN akF Vv.1) (bR (fN akp Vb.1) (bR (fN ajA T4.1) (fN akx Vl.1)))))));simp only[eN,UZ,Vq,Vu,Vc,Vv,Vb,T4,Vl,yx,seval] at h;exact h
def ao5:=oh.1
def apl:=oh.2.1
def On:=oh.2.2.1
def apa:=oh.2.2.2.1
def aeu:=oh.2.2.2.2.1
def aiK:=oh.2.2.2.2.2.1
def Oh:=oh.2.2.2.2.2.2.1
def HX:=oh.2.2.2.2.2.2.2
def agh:Ko [] f38:=eN
def b38:=agh.1
def alM:=eJ.mk 1 [.dK 2 8] (sub b38 0)
def UW:Ko [] f223:=eN
def akd:=UW.1
def adi:=eJ.mk 3 [.tmp 6] (sub akd 0)
def Vp:Ko [] f266:=eN
def akB:=Vp.1
def adF:=eJ.mk 3 [.tmp 4] (sub akB 0)
def Vo:Ko [] f265:=eN
def akA:=Vo.1
def adE:=eJ.mk 2 [.tmp 4] (sub akA 0)
def am4:Ko [] f299:=eN
def apE:=am4.1
def alF:=eJ.mk 2 [.tmp 4] (sub apE 0)
def UT:Ko [] f221:=eN
def akb:=UT.1
def adg:=eJ.mk 2 [.tmp 4] (sub akb 0)
def Vn:Ko [] f264:=eN
def akz:=Vn.1
def adC:=eJ.mk 2 [.tmp 4] (sub akz 0)
def UU:Ko [] f222:=eN
def akc:=UU.1
def adh:=eJ.mk 2 [.tmp 4] (sub akc 0)
def T1:Ko [8000220,1001004005] f158:=eN
def OB:=T1.1
def Se:=eJ.mk 2 [.dK 4 8] (sub OB 0)
def ann:sR [8000220,1001004005] f158 Se:=fp
abbrev ZQ:=sub OB 17
abbrev ZR:=sub OB 40
abbrev abi:=sub OB 62
abbrev abj:=sub OB 35
def oj:=by
 have h:=bR (fN b38 agh.1) (bR (fN akd UW.1) (bR (fN akB Vp.1) (bR (fN akA Vo.1) (bR (fN akb UT.1) (bR (fN akz Vn.1) (bR (fN akc UU.1) (fN OB T1.1)))))));simp only[eN,agh,UW,Vp,Vo,UT,Vn,UU,T1,yx,seval] at h;exact h
def E38:=oj.1
def ao4:=oj.2.1
def apk:=oj.2.2.1
def apj:=oj.2.2.2.1
def aep:=oj.2.2.2.2.1
def api:=oj.2.2.2.2.2.1
def ao3:=oj.2.2.2.2.2.2.1
def GU:=oj.2.2.2.2.2.2.2
def T5:Ko [8000229] f163:=eN
def ajB:=T5.1
def Sf:=eJ.mk 2 [.dK 4 8,.tmp 5,.tmp 6] (sub ajB 0)
def anp:sR [8000229] f163 Sf:=fp
def U0:Ko [6000012] f230:=eN
def OE:=U0.1
def Sq:=eJ.mk 2 [.tmp 4,.tmp 5] (sub OE 0)
def anB:sR [6000012] f230 Sq:=fp
abbrev Z7:=sub OE 9
abbrev Z8:=sub OE 30
abbrev abl:=sub OE 46
abbrev abm:=sub OE 25
def Vr:Ko [] f271:=eN
def YB:=Vr.1
def Na:=eJ.mk 5 [.tmp 6] (sub YB 0)
abbrev aad:=sub YB 33
abbrev ahR:=sub YB 45
def am2:Ko [] f273:=eN
def apC:=am2.1
def alD:=eJ.mk 2 [.tmp 4] (sub apC 0)
def T6:Ko [] f164:=eN
def Yw:=T6.1
def acG:=eJ.mk 2 [.tmp 4,.tmp 5,.tmp 6] (sub Yw 0)
abbrev ZT:=sub Yw 7
abbrev ahN:=sub Yw 27
def U1:Ko [5] f232:=eN
def aeR:=U1.1
def Sr:=eJ.mk 2 [.tmp 4] (sub aeR 0)
def anC:sR [5] f232 Sr:=fp
abbrev Z9:=sub aeR 9
def U2:Ko [] f233:=eN
def akh:=U2.1
def adm:=eJ.mk 2 [.tmp 3] (sub akh 0)
def U3:Ko [5] f234:=eN
def aeS:=U3.1
def Ss:=eJ.mk 2 [.tmp 4] (sub aeS 0)
def anE:sR [5] f234 Ss:=fp
abbrev aaa:=sub aeS 9
def U4:Ko [] f235:=eN
def aki:=U4.1
def adn:=eJ.mk 2 [.tmp 3] (sub aki 0)
def om:=by
 have h:=bR (fN ajB T5.1) (bR (fN OE U0.1) (bR (fN YB Vr.1) (bR (fN Yw T6.1) (bR (fN aeR U1.1) (bR (fN akh U2.1) (bR (fN aeS U3.1) (fN aki U4.1)))))));simp only[eN,T5,U0,Vr,T6,U1,U2,U3,U4,yx,seval] at h;exact h
def aiz:=om.1
def GV:=om.2.1
def Om:=om.2.2.1
def X6:=om.2.2.2.1
def Yd:=om.2.2.2.2.1
def ao6:=om.2.2.2.2.2.1
def Ye:=om.2.2.2.2.2.2.1
def ao7:=om.2.2.2.2.2.2.2
def T9:Ko [] f168:=eN
def ajE:=T9.1
def acJ:=eJ.mk 2 [.dK 4 8,.tmp 5] (sub ajE 0)
def atB:Ko [] f57:=eN
def b57:=atB.1
def asd:=eJ.mk 2 [.tmp 4] (sub b57 0)
def atC:Ko [] f58:=eN
def b58:=atC.1
def ase:=eJ.mk 3 [.tmp 6] (sub b58 0)
def atD:Ko [] f59:=eN
def b59:=atD.1
def asf:=eJ.mk 2 [.tmp 4] (sub b59 0)
def atE:Ko [] f60:=eN
def b60:=atE.1
def asg:=eJ.mk 2 [.tmp 4] (sub b60 0)
def atF:Ko [] f61:=eN
def b61:=atF.1
def ash:=eJ.mk 2 [.tmp 4] (sub b61 0)
def aiB:=by
 have h:=fN ajE T9.1;simp only[eN,T9,yx,seval] at h;exact h
end Go.Proofs.YteoamaffclmdbaaGreatDoor
set_option maxRecDepth 100000
namespace Go.Proofs.YteoamaffclmdbaaGreatDoor
open Go Go.Abs
def af4:Ko [] f24:=eN
def b24:=af4.1
def alw:=eJ.mk 0 [.dK 0 10] (sub b24 0)
def agu:Ko [] f53:=eN
def b53:=agu.1
def alS:=eJ.mk 2 [] (sub b53 0)
def Th:Ko [] f110:=eN
def ai6:=Th.1
def ace:=eJ.mk 1 [] (sub ai6 0)
def TM:Ko [] f145:=eN
def ajo:=TM.1
def acy:=eJ.mk 2 [.dK 4 6] (sub ajo 0)
def Uk:Ko [] f179:=eN
def ajJ:=Uk.1
def acP:=eJ.mk 2 [.dK 4 6] (sub ajJ 0)
def TN:Ko [] f146:=eN
def ajp:=TN.1
def acz:=eJ.mk 2 [.tmp 4,.tmp 5] (sub ajp 0)
def TQ:Ko [1000189] f148:=eN
def OA:=TQ.1
def Sb:=eJ.mk 3 [] (sub OA 0)
def ani:sR [1000189] f148 Sb:=fp
abbrev ZO:=sub OA 7
abbrev Nq:=sub OA 32
abbrev NP:=sub OA 46
abbrev abh:=sub OA 23
def Us:Ko [] f186:=eN
def ajP:=Us.1
def acS:=eJ.mk 2 [.tmp 3] (sub ajP 0)
def pD:=by
 have h:=bR (fN b24 af4.1) (bR (fN b53 agu.1) (bR (fN ai6 Th.1) (bR (fN ajo TM.1) (bR (fN ajJ Uk.1) (bR (fN ajp TN.1) (bR (fN OA TQ.1) (fN ajP Us.1)))))));simp only[eN,af4,agu,Th,TM,Uk,TN,TQ,Us,yx,seval] at h;exact h
def E24:=pD.1
def E53:=pD.2.1
def ad8:=pD.2.2.1
def aee:=pD.2.2.2.1
def aoQ:=pD.2.2.2.2.1
def X4:=pD.2.2.2.2.2.1
def tn:=pD.2.2.2.2.2.2.1
def aoR:=pD.2.2.2.2.2.2.2
def Uu:Ko [] f188:=eN
def ajR:=Uu.1
def Sl:=eJ.mk 2 [.tmp 4] (sub ajR 0)
def anx:sR [] f188 Sl:=fp
def Uv:Ko [] f190:=eN
def ajS:=Uv.1
def acU:=eJ.mk 2 [.tmp 3] (sub ajS 0)
def Ux:Ko [] f192:=eN
def OC:=Ux.1
def acW:=eJ.mk 2 [.tmp 4] (sub OC 0)
abbrev Z4:=sub OC 31
abbrev abk:=sub OC 55
abbrev Nr:=sub OC 9
abbrev NR:=sub OC 56
def TY:Ko [] f155:=eN
def ajv:=TY.1
def acF:=eJ.mk 1 [.tmp 2] (sub ajv 0)
def agU:Ko [] f93:=eN
def b93:=agU.1
def afu:=eJ.mk 1 [] (sub b93 0)
def agV:Ko [] f94:=eN
def b94:=agV.1
def Sx:=eJ.mk 1 [] (sub b94 0)
def agW:Ko [] f95:=eN
def b95:=agW.1
def Pj:=eJ.mk 1 [] (sub b95 0)
def agX:Ko [] f96:=eN
def b96:=agX.1
def Sy:=eJ.mk 1 [] (sub b96 0)
def pE:=by
 have h:=bR (fN ajR Uu.1) (bR (fN ajS Uv.1) (bR (fN OC Ux.1) (bR (fN ajv TY.1) (bR (fN b93 agU.1) (bR (fN b94 agV.1) (bR (fN b95 agW.1) (fN b96 agX.1)))))));simp only[eN,Uu,Uv,Ux,TY,agU,agV,agW,agX,yx,seval] at h;exact h
def aoS:=pE.1
def aoT:=pE.2.1
def C8:=pE.2.2.1
def aoN:=pE.2.2.2.1
def E93:=pE.2.2.2.2.1
def E94:=pE.2.2.2.2.2.1
def E95:=pE.2.2.2.2.2.2.1
def E96:=pE.2.2.2.2.2.2.2
def agY:Ko [] f97:=eN
def b97:=agY.1
def Lx:=eJ.mk 1 [] (sub b97 0)
def agZ:Ko [] f98:=eN
def b98:=agZ.1
def Y6:=eJ.mk 1 [] (sub b98 0)
def TX:Ko [3] f154:=eN
def Yv:=TX.1
def Sc:=eJ.mk 1 [.tmp 2] (sub Yv 0)
def ank:sR [3] f154 Sc:=fp
abbrev ZP:=sub Yv 9
abbrev ahM:=sub Yv 21
def ag0:Ko [] f99:=eN
def b99:=ag0.1
def afv:=eJ.mk 1 [] (sub b99 0)
def S6:Ko [] f100:=eN
def aiX:=S6.1
def MS:=eJ.mk 1 [] (sub aiX 0)
def S7:Ko [] f101:=eN
def aiY:=S7.1
def R4:=eJ.mk 1 [] (sub aiY 0)
def T2:Ko [] f159:=eN
def ajy:=T2.1
def M4:=eJ.mk 1 [.dK 2 6] (sub ajy 0)
def S8:Ko [] f102:=eN
def aiZ:=S8.1
def IW:=eJ.mk 1 [] (sub aiZ 0)
def oo:=by
 have h:=bR (fN b97 agY.1) (bR (fN b98 agZ.1) (bR (fN Yv TX.1) (bR (fN b99 ag0.1) (bR (fN aiX S6.1) (bR (fN aiY S7.1) (bR (fN ajy T2.1) (fN aiZ S8.1)))))));simp only[eN,agY,agZ,TX,ag0,S6,S7,T2,S8,yx,seval] at h;exact h
def E97:=oo.1
def E98:=oo.2.1
def X5:=oo.2.2.1
def E99:=oo.2.2.2.1
def ad5:=oo.2.2.2.2.1
def ait:=oo.2.2.2.2.2.1
def aei:=oo.2.2.2.2.2.2.1
def X0:=oo.2.2.2.2.2.2.2
def T3:Ko [] f161:=eN
def ajz:=T3.1
def M5:=eJ.mk 3 [] (sub ajz 0)
def S9:Ko [1000160,2000161] f103:=eN
def ai0:=S9.1
def yF:=eJ.mk 1 [] (sub ai0 0)
def anb:sR [1000160,2000161] f103 yF:=fp
def Ta:Ko [] f104:=eN
def ai1:=Ta.1
def MT:=eJ.mk 1 [] (sub ai1 0)
def Tc:Ko [] f105:=eN
def ai2:=Tc.1
def IX:=eJ.mk 1 [] (sub ai2 0)
def Td:Ko [] f106:=eN
def ai3:=Td.1
def MU:=eJ.mk 1 [] (sub ai3 0)
def Te:Ko [] f107:=eN
def Oz:=Te.1
def MV:=eJ.mk 1 [] (sub Oz 0)
abbrev Zx:=sub Oz 15
abbrev Zy:=sub Oz 34
abbrev abf:=sub Oz 52
abbrev abg:=sub Oz 27
def T8:Ko [] f167:=eN
def ajD:=T8.1
def acI:=eJ.mk 2 [.tmp 3] (sub ajD 0)
def Tf:Ko [] f108:=eN
def ai4:=Tf.1
def R5:=eJ.mk 1 [] (sub ai4 0)
def oq:=by
 have h:=bR (fN ajz T3.1) (bR (fN ai0 S9.1) (bR (fN ai1 Ta.1) (bR (fN ai2 Tc.1) (bR (fN ai3 Td.1) (bR (fN Oz Te.1) (bR (fN ajD T8.1) (fN ai4 Tf.1)))))));simp only[eN,T3,S9,Ta,Tc,Td,Te,T8,Tf,yx,seval] at h;exact h
def aej:=oq.1
def HS:=oq.2.1
def ad6:=oq.2.2.1
def X1:=oq.2.2.2.1
def ad7:=oq.2.2.2.2.1
def AG:=oq.2.2.2.2.2.1
def aoO:=oq.2.2.2.2.2.2.1
def aiu:=oq.2.2.2.2.2.2.2
def Tg:Ko [] f109:=eN
def ai5:=Tg.1
def acd:=eJ.mk 1 [] (sub ai5 0)
def agt:Ko [] f52:=eN
def b52:=agt.1
def alR:=eJ.mk 0 [.tmp 0] (sub b52 0)
def agd:Ko [] f34:=eN
def b34:=agd.1
def alI:=eJ.mk 2 [.tmp 4] (sub b34 0)
def agv:Ko [] f55:=eN
def b55:=agv.1
def alT:=eJ.mk 2 [.tmp 4] (sub b55 0)
def uL:=by
 have h:=bR (fN ai5 Tg.1) (bR (fN b52 agt.1) (bR (fN b34 agd.1) (fN b55 agv.1)));simp only[eN,Tg,agt,agd,agv,yx,seval] at h;exact h
def aoI:=uL.1
def E52:=uL.2.1
def E34:=uL.2.2.1
def E55:=uL.2.2.2
end Go.Proofs.YteoamaffclmdbaaGreatDoor
set_option maxRecDepth 100000
namespace Go.Proofs.YteoamaffclmdbaaGreatDoor
open Go Go.Abs
def Vs:Ko [] f275:=eN
def akD:=Vs.1
def Nb:=eJ.mk 2 [.tmp 4,.tmp 5] (sub akD 0)
def Vw:Ko [] f302:=eN
def akH:=Vw.1
def Nc:=eJ.mk 2 [.tmp 4,.tmp 5] (sub akH 0)
def Vx:Ko [] f325:=eN
def akI:=Vx.1
def I4:=eJ.mk 2 [.tmp 4] (sub akI 0)
def yP:=by
 have h:=And.intro (fN akD Vs.1) (And.intro (fN akH Vw.1) (fN akI Vx.1));simp only[eN,Vs,Vw,Vx,yx,seval] at h;exact h
def apm:=yP.1
def Yf:=yP.2.1
def Yg:=yP.2.2
end Go.Proofs.YteoamaffclmdbaaGreatDoor
set_option maxRecDepth 100000
namespace Go.Proofs.YteoamaffclmdbaaGreatDoor
open Go Go.Abs
def afU:Ko [] f11:=eN
def b11:=afU.1
def afk:=eJ.mk 1 [.tmp 2] (sub b11 0)
def af9:Ko [13000003] f30:=eN
def b30:=af9.1
def afn:=eJ.mk 1 [.tmp 2] (sub b30 0)
def atP:sR [13000003] f30 afn:=fp
def age:Ko [] f35:=eN
def b35:=age.1
def alJ:=eJ.mk 2 [.tmp 4] (sub b35 0)
def afX:Ko [5000037,6000016,12000074] f15:=eN
def b15:=afX.1
def afl:=eJ.mk 2 [.tmp 4,.tmp 5] (sub b15 0)
def atL:sR [5000037,6000016,12000074] f15 afl:=fp
def aga:Ko [11000006,12000077,15000088] f31:=eN
def Kl:=aga.1
def afo:=eJ.mk 9 [.tmp 11] (sub Kl 0)
def atQ:sR [11000006,12000077,15000088] f31 afo:=fp
def agc:Ko [] f33:=eN
def b33:=agc.1
def alH:=eJ.mk 2 [.tmp 3] (sub b33 0)
def afZ:Ko [] f18:=eN
def b18:=afZ.1
def alo:=eJ.mk 2 [.tmp 4] (sub b18 0)
def agb:Ko [] f32:=eN
def b32:=agb.1
def alG:=eJ.mk 2 [.tmp 4] (sub b32 0)
def pF:=by
 have h:=bR (fN b11 afU.1) (bR (fN b30 af9.1) (bR (fN b35 age.1) (bR (fN b15 afX.1) (bR (fN Kl aga.1) (bR (fN b33 agc.1) (bR (fN b18 afZ.1) (fN b32 agb.1)))))));simp only[eN,afU,af9,age,afX,aga,agc,afZ,agb,yx,seval] at h;exact h
def E11:=pF.1
def E30:=pF.2.1
def E35:=pF.2.2.1
def QR:=pF.2.2.2.1
def Oo:=pF.2.2.2.2.1
def E33:=pF.2.2.2.2.2.1
def E18:=pF.2.2.2.2.2.2.1
def E32:=pF.2.2.2.2.2.2.2
def atA:Ko [] f54:=eN
def b54:=atA.1
def asb:=eJ.mk 2 [.tmp 4] (sub b54 0)
def atG:Ko [] f62:=eN
def b62:=atG.1
def asi:=eJ.mk 2 [.tmp 4] (sub b62 0)
def atH:Ko [] f63:=eN
def b63:=atH.1
def asj:=eJ.mk 2 [.tmp 4] (sub b63 0)
end Go.Proofs.YteoamaffclmdbaaGreatDoor
set_option maxRecDepth 100000
namespace Go.Proofs.YteoamaffclmdbaaGreatDoor
open Go Go.Abs
def afT:Ko [] f10:=eN
def b10:=afT.1
def alj:=eJ.mk 2 [.tmp 4] (sub b10 0)
def afW:Ko [13000008,5000019,5000020,5000021] f14:=eN
def b14:=afW.1
def Lu:=eJ.mk 3 [.tmp 6,.dK 7 10] (sub b14 0)
def atK:sR [13000008,5000019,5000020,5000021] f14 Lu:=fp
def aty:Ko [13000005] f20:=eN
def b20:=aty.1
def alp:=eJ.mk 2 [.tmp 4] (sub b20 0)
def atO:sR [13000005] f20 alp:=fp
def af2:Ko [] f22:=eN
def b22:=af2.1
def alu:=eJ.mk 2 [.dK 4 17] (sub b22 0)
def af3:Ko [] f23:=eN
def b23:=af3.1
def alv:=eJ.mk 2 [.dK 4 17] (sub b23 0)
def af0:Ko [5000018] f19:=eN
def b19:=af0.1
def afm:=eJ.mk 3 [.tmp 6] (sub b19 0)
def atM:sR [5000018] f19 afm:=fp
def agf:Ko [] f37:=eN
def b37:=agf.1
def alK:=eJ.mk 2 [.tmp 4] (sub b37 0)
def afY:Ko [] f17:=eN
def b17:=afY.1
def aln:=eJ.mk 2 [.tmp 4] (sub b17 0)
def ko9:Ko [] f9:=eN
def b9:=ko9.1
def fn9:=eJ.mk 0 [.tmp 0] (sub b9 0)
def pG:=by
 have h:=bR (fN b10 afT.1) (bR (fN b14 afW.1) (bR (fN b22 af2.1) (bR (fN b23 af3.1) (bR (fN b19 af0.1) (bR (fN b37 agf.1) (bR (fN b17 afY.1) (fN b9 ko9.1)))))));simp only[eN,afT,afW,af2,af3,af0,agf,afY,ko9,yx,seval] at h;exact h
def E10:=pG.1
def E14:=pG.2.1
def E22:=pG.2.2.1
def E23:=pG.2.2.2.1
def QV:=pG.2.2.2.2.1
def E37:=pG.2.2.2.2.2.1
def E17:=pG.2.2.2.2.2.2.1
def E9:=pG.2.2.2.2.2.2.2
def ko4:Ko [1000014,14000006007] f4:=eN
def b4:=ko4.1
def fn4:=eJ.mk 2 [.tmp 4] (sub b4 0)
def ok4:sR [1000014,14000006007] f4 fn4:=fp
def ko5:Ko [1000014,2000018,14000010011] f5:=eN
def b5:=ko5.1
def fn5:=eJ.mk 4 [.tmp 8] (sub b5 0)
def ok5:sR [1000014,2000018,14000010011] f5 fn5:=fp
def ko7:Ko [69,1000014,14000010011] f7:=eN
def b7:=ko7.1
def fn7:=eJ.mk 4 [.tmp 8] (sub b7 0)
def ok7:sR [69,1000014,14000010011] f7 fn7:=fp
def ko8:Ko [1000014,13000091,14000010011,14000016015] f8:=eN
def b8:=ko8.1
def fn8:=eJ.mk 4 [.tmp 8] (sub b8 0)
def ok8:sR [1000014,13000091,14000010011,14000016015] f8 fn8:=fp
def ko6:Ko [1000020,2000015,14000019011] f6:=eN
def b6:=ko6.1
def fn6:=eJ.mk 4 [.tmp 8] (sub b6 0)
def ok6:sR [1000020,2000015,14000019011] f6 fn6:=fp
def E5:=by
 have h:=fN b5 ko5.1;simp only[eN,ko5,yx,seval] at h;exact h
end Go.Proofs.YteoamaffclmdbaaGreatDoor
set_option maxRecDepth 100000
namespace Go.Proofs.YteoamaffclmdbaaGreatDoor
open Go Go.Abs
def af5:Ko [] f25:=eN
def b25:=af5.1
def aly:=eJ.mk 1 [.tmp 2] (sub b25 0)
def af6:Ko [] f26:=eN
def b26:=af6.1
def alz:=eJ.mk 1 [.tmp 2] (sub b26 0)
def afV:Ko [] f13:=eN
def b13:=afV.1
def Y3:=eJ.mk 1 [.dK 2 10] (sub b13 0)
def yQ:=by
 have h:=And.intro (fN b25 af5.1) (And.intro (fN b26 af6.1) (fN b13 afV.1));simp only[eN,af5,af6,afV,yx,seval] at h;exact h
def E25:=yQ.1
def E26:=yQ.2.1
def E13:=yQ.2.2
end Go.Proofs.YteoamaffclmdbaaGreatDoor
set_option maxRecDepth 100000
namespace Go.Proofs.YteoamaffclmdbaaGreatDoor
open Go Go.Abs
def TA:Ko [] f130:=eN
def aeK:=TA.1
def acr:=eJ.mk 2 [.tmp 4] (sub aeK 0)
abbrev ZK:=sub aeK 7
def agF:Ko [] f74:=eN
def b74:=agF.1
def al1:=eJ.mk 2 [.dK 4 6,.tmp 5] (sub b74 0)
def Tt:Ko [] f123:=eN
def ajc:=Tt.1
def acj:=eJ.mk 2 [.dK 4 6,.tmp 5] (sub ajc 0)
def Tv:Ko [] f125:=eN
def aeG:=Tv.1
def acm:=eJ.mk 2 [.tmp 4] (sub aeG 0)
abbrev ZG:=sub aeG 7
def agD:Ko [] f72:=eN
def b72:=agD.1
def alZ:=eJ.mk 3 [.tmp 6,.tmp 7] (sub b72 0)
def Tp:Ko [5] f119:=eN
def aeD:=Tp.1
def R7:=eJ.mk 2 [.dK 4 3] (sub aeD 0)
def ane:sR [5] f119 R7:=fp
abbrev ZA:=sub aeD 11
def Ug:Ko [5] f175:=eN
def aeN:=Ug.1
def Sg:=eJ.mk 2 [.dK 4 3] (sub aeN 0)
def anq:sR [5] f175 Sg:=fp
abbrev ZY:=sub aeN 9
def Ts:Ko [9] f122:=eN
def aeE:=Ts.1
def R8:=eJ.mk 3 [.dK 6 3] (sub aeE 0)
def ang:sR [9] f122 R8:=fp
abbrev ZE:=sub aeE 11
def pH:=by
 have h:=bR (fN aeK TA.1) (bR (fN b74 agF.1) (bR (fN ajc Tt.1) (bR (fN aeG Tv.1) (bR (fN b72 agD.1) (bR (fN aeD Tp.1) (bR (fN aeN Ug.1) (fN aeE Ts.1)))))));simp only[eN,TA,agF,Tt,Tv,agD,Tp,Ug,Ts,yx,seval] at h;exact h
def Ks:=pH.1
def E74:=pH.2.1
def X2:=pH.2.2.1
def Kq:=pH.2.2.2.1
def E72:=pH.2.2.2.2.1
def Km:=pH.2.2.2.2.2.1
def QT:=pH.2.2.2.2.2.2.1
def Kn:=pH.2.2.2.2.2.2.2
def Tn:Ko [12] f118:=eN
def aeC:=Tn.1
def R6:=eJ.mk 4 [.dK 8 3] (sub aeC 0)
def anc:sR [12] f118 R6:=fp
abbrev Zz:=sub aeC 15
def Ty:Ko [] f128:=eN
def aeI:=Ty.1
def acp:=eJ.mk 2 [.tmp 4] (sub aeI 0)
abbrev ZI:=sub aeI 7
def Tw:Ko [] f126:=eN
def aeH:=Tw.1
def acn:=eJ.mk 3 [.tmp 6] (sub aeH 0)
abbrev ZH:=sub aeH 7
def Uc:Ko [] f171:=eN
def ajF:=Uc.1
def acM:=eJ.mk 2 [.tmp 4] (sub ajF 0)
def Tm:Ko [] f117:=eN
def aja:=Tm.1
def ach:=eJ.mk 3 [.tmp 6] (sub aja 0)
def agB:Ko [] f70:=eN
def b70:=agB.1
def alX:=eJ.mk 4 [.dK 8 3,.tmp 9,.tmp 10] (sub b70 0)
def agz:Ko [] f68:=eN
def b68:=agz.1
def alW:=eJ.mk 4 [.dK 8 3,.tmp 9] (sub b68 0)
def Tr:Ko [] f121:=eN
def ajb:=Tr.1
def aci:=eJ.mk 2 [.dK 4 3] (sub ajb 0)
def pI:=by
 have h:=bR (fN aeC Tn.1) (bR (fN aeI Ty.1) (bR (fN aeH Tw.1) (bR (fN ajF Uc.1) (bR (fN aja Tm.1) (bR (fN b70 agB.1) (bR (fN b68 agz.1) (fN ajb Tr.1)))))));simp only[eN,Tn,Ty,Tw,Uc,Tm,agB,agz,Tr,yx,seval] at h;exact h
def GR:=pI.1
def Kr:=pI.2.1
def GS:=pI.2.2.1
def aiC:=pI.2.2.2.1
def GQ:=pI.2.2.2.2.1
def E70:=pI.2.2.2.2.2.1
def E68:=pI.2.2.2.2.2.2.1
def aiw:=pI.2.2.2.2.2.2.2
def agC:Ko [] f71:=eN
def b71:=agC.1
def alY:=eJ.mk 3 [.dK 6 3,.tmp 7,.tmp 8] (sub b71 0)
def Tx:Ko [] f127:=eN
def ajd:=Tx.1
def aco:=eJ.mk 3 [.tmp 6] (sub ajd 0)
def Tz:Ko [] f129:=eN
def aeJ:=Tz.1
def acq:=eJ.mk 3 [.tmp 6] (sub aeJ 0)
abbrev ZJ:=sub aeJ 11
def agE:Ko [] f73:=eN
def b73:=agE.1
def al0:=eJ.mk 5 [.dK 10 3,.tmp 11,.tmp 12] (sub b73 0)
def agO:Ko [27] f83:=eN
def b83:=agO.1
def aft:=eJ.mk 3 [.dK 6 3,.tmp 7] (sub b83 0)
def at3:sR [27] f83 aft:=fp
def TH:Ko [] f137:=eN
def ajk:=TH.1
def acx:=eJ.mk 2 [.dK 4 3,.tmp 5] (sub ajk 0)
def agk:Ko [] f41:=eN
def b41:=agk.1
def alP:=eJ.mk 0 [.dK 0 3] (sub b41 0)
def Tu:Ko [] f124:=eN
def aeF:=Tu.1
def ack:=eJ.mk 1 [.tmp 2] (sub aeF 0)
abbrev ZF:=sub aeF 15
def ot:=by
 have h:=bR (fN b71 agC.1) (bR (fN ajd Tx.1) (bR (fN aeJ Tz.1) (bR (fN b73 agE.1) (bR (fN b83 agO.1) (bR (fN ajk TH.1) (bR (fN b41 agk.1) (fN aeF Tu.1)))))));simp only[eN,agC,Tx,Tz,agE,agO,TH,agk,Tu,yx,seval] at h;exact h
def E71:=ot.1
def aix:=ot.2.1
def QO:=ot.2.2.1
def QY:=ot.2.2.2.1
def E83:=ot.2.2.2.2.1
def aiy:=ot.2.2.2.2.2.1
def E41:=ot.2.2.2.2.2.2.1
def HT:=ot.2.2.2.2.2.2.2
end Go.Proofs.YteoamaffclmdbaaGreatDoor
set_option maxRecDepth 100000
namespace Go.Proofs.YteoamaffclmdbaaGreatDoor
open Go Go.Abs
def agQ:Ko [7] f85:=eN
def b85:=agQ.1
def Ph:=eJ.mk 1 [.tmp 2,.tmp 3] (sub b85 0)
def at5:sR [7] f85 Ph:=fp
abbrev ahh:=sub b85 27
def Ub:Ko [] f170:=eN
def aeM:=Ub.1
def acL:=eJ.mk 1 [.tmp 2] (sub aeM 0)
abbrev ZV:=sub aeM 17
def agr:Ko [] f48:=eN
def b48:=agr.1
def Y4:=eJ.mk 3 [.dK 6 3,.tmp 7] (sub b48 0)
def agS:Ko [] f87:=eN
def b87:=agS.1
def al3:=eJ.mk 2 [.tmp 4] (sub b87 0)
def agT:Ko [] f88:=eN
def b88:=agT.1
def al4:=eJ.mk 2 [.tmp 4] (sub b88 0)
def agx:Ko [] f66:=eN
def b66:=agx.1
def alV:=eJ.mk 2 [.tmp 4,.tmp 5] (sub b66 0)
def agH:Ko [13] f76:=eN
def b76:=agH.1
def Hf:=eJ.mk 4 [.tmp 8,.tmp 9,.tmp 10] (sub b76 0)
def atW:sR [13] f76 Hf:=fp
abbrev ahc:=sub b76 32
abbrev ahd:=sub b76 24
def agI:Ko [92] f77:=eN
def b77:=agI.1
def afr:=eJ.mk 5 [.tmp 10,.tmp 11] (sub b77 0)
def atX:sR [92] f77 afr:=fp
abbrev ahe:=sub b77 49
def pK:=by
 have h:=bR (fN b85 agQ.1) (bR (fN aeM Ub.1) (bR (fN b48 agr.1) (bR (fN b87 agS.1) (bR (fN b88 agT.1) (bR (fN b66 agx.1) (bR (fN b76 agH.1) (fN b77 agI.1)))))));simp only[eN,agQ,Ub,agr,agS,agT,agx,agH,agI,yx,seval] at h;exact h
def QE:=pK.1
def X7:=pK.2.1
def E48:=pK.2.2.1
def E87:=pK.2.2.2.1
def E88:=pK.2.2.2.2.1
def E66:=pK.2.2.2.2.2.1
def Kx:=pK.2.2.2.2.2.2.1
def Yh:=pK.2.2.2.2.2.2.2
def agJ:Ko [17] f78:=eN
def b78:=agJ.1
def Fa:=eJ.mk 5 [.tmp 10,.tmp 11] (sub b78 0)
def atY:sR [17] f78 Fa:=fp
abbrev ahf:=sub b78 49
def agL:Ko [29] f80:=eN
def b80:=agL.1
def Pf:=eJ.mk 4 [.dK 8 3,.tmp 9,.tmp 10] (sub b80 0)
def at0:sR [29] f80 Pf:=fp
def agM:Ko [] f81:=eN
def b81:=agM.1
def afs:=eJ.mk 3 [.tmp 6,.tmp 7] (sub b81 0)
def TK:Ko [] f140:=eN
def ajm:=TK.1
def R9:=eJ.mk 2 [.tmp 4] (sub ajm 0)
def TL:Ko [] f141:=eN
def ajn:=TL.1
def Sa:=eJ.mk 2 [.tmp 4] (sub ajn 0)
def Tl:Ko [] f116:=eN
def ai9:=Tl.1
def MW:=eJ.mk 1 [.tmp 2,.tmp 3,.tmp 4] (sub ai9 0)
def TB:Ko [] f131:=eN
def aje:=TB.1
def acs:=eJ.mk 2 [.tmp 4] (sub aje 0)
def TC:Ko [] f132:=eN
def ajf:=TC.1
def acu:=eJ.mk 3 [.tmp 6] (sub ajf 0)
def pL:=by
 have h:=bR (fN b78 agJ.1) (bR (fN b80 agL.1) (bR (fN b81 agM.1) (bR (fN ajm TK.1) (bR (fN ajn TL.1) (bR (fN ai9 Tl.1) (bR (fN aje TB.1) (fN ajf TC.1)))))));simp only[eN,agJ,agL,agM,TK,TL,Tl,TB,TC,yx,seval] at h;exact h
def QZ:=pL.1
def E80:=pL.2.1
def E81:=pL.2.2.1
def QP:=pL.2.2.2.1
def QQ:=pL.2.2.2.2.1
def ad9:=pL.2.2.2.2.2.1
def aoL:=pL.2.2.2.2.2.2.1
def aea:=pL.2.2.2.2.2.2.2
def TD:Ko [] f133:=eN
def ajg:=TD.1
def acv:=eJ.mk 2 [.tmp 4] (sub ajg 0)
def TE:Ko [] f134:=eN
def ajh:=TE.1
def MX:=eJ.mk 2 [.tmp 4,.tmp 5] (sub ajh 0)
def TF:Ko [] f135:=eN
def aji:=TF.1
def MY:=eJ.mk 2 [.tmp 4] (sub aji 0)
def TG:Ko [] f136:=eN
def ajj:=TG.1
def acw:=eJ.mk 2 [.tmp 4] (sub ajj 0)
def Uh:Ko [5000014] f176:=eN
def Re:=Uh.1
def I1:=eJ.mk 2 [.tmp 4] (sub Re 0)
def anr:sR [5000014] f176 I1:=fp
abbrev ZZ:=sub Re 42
abbrev Z0:=sub Re 24
abbrev Z1:=sub Re 9
def U5:Ko [] f236:=eN
def akj:=U5.1
def M8:=eJ.mk 3 [.tmp 6] (sub akj 0)
def U6:Ko [] f237:=eN
def akk:=U6.1
def M9:=eJ.mk 2 [.tmp 4] (sub akk 0)
def pJ:=by
 have h:=bR (fN ajg TD.1) (bR (fN ajh TE.1) (bR (fN aji TF.1) (bR (fN ajj TG.1) (bR (fN Re Uh.1) (bR (fN akj U5.1) (fN akk U6.1))))));simp only[eN,TD,TE,TF,TG,Uh,U5,U6,yx,seval] at h;exact h
def aoM:=pJ.1
def aeb:=pJ.2.1
def aec:=pJ.2.2.1
def X3:=pJ.2.2.2.1
def CB:=pJ.2.2.2.2.1
def aer:=pJ.2.2.2.2.2.1
def aes:=pJ.2.2.2.2.2.2
end Go.Proofs.YteoamaffclmdbaaGreatDoor
set_option maxRecDepth 100000
namespace Go.Proofs.YteoamaffclmdbaaGreatDoor
open Go Go.Abs
def af1:Ko [] f21:=eN
def b21:=af1.1
def alr:=eJ.mk 2 [.tmp 4] (sub b21 0)
def af7:Ko [] f27:=eN
def b27:=af7.1
def alC:=eJ.mk 0 [.dK 0 10] (sub b27 0)
def af8:Ko [] f28:=eN
def b28:=af8.1
def uI:=eJ.mk 2 [.dK 4 10,.dK 5 7] (sub b28 0)
def agj:Ko [] f40:=eN
def b40:=agj.1
def alO:=eJ.mk 1 [.dK 2 8] (sub b40 0)
def agl:Ko [] f42:=eN
def b42:=agl.1
def alQ:=eJ.mk 1 [.dK 2 7] (sub b42 0)
def agm:Ko [] f43:=eN
def b43:=agm.1
def He:=eJ.mk 2 [.dK 4 10,.dK 5 7] (sub b43 0)
def agn:Ko [14] f44:=eN
def b44:=agn.1
def zO:=eJ.mk 2 [.dK 4 10,.dK 5 7] (sub b44 0)
def atS:sR [14] f44 zO:=fp
abbrev ag3:=sub b44 52
def ago:Ko [] f45:=eN
def b45:=ago.1
def CK:=eJ.mk 2 [.dK 4 10,.dK 5 7] (sub b45 0)
def pM:=by
 have h:=bR (fN b21 af1.1) (bR (fN b27 af7.1) (bR (fN b28 af8.1) (bR (fN b40 agj.1) (bR (fN b42 agl.1) (bR (fN b43 agm.1) (bR (fN b44 agn.1) (fN b45 ago.1)))))));simp only[eN,af1,af7,af8,agj,agl,agm,agn,ago,yx,seval] at h;exact h
def QC:=pM.1
def E27:=pM.2.1
def E0:=pM.2.2.1
def E40:=pM.2.2.2.1
def E42:=pM.2.2.2.2.1
def E43:=pM.2.2.2.2.2.1
def Oq:=pM.2.2.2.2.2.2.1
def QX:=pM.2.2.2.2.2.2.2
def agp:Ko [17] f46:=eN
def b46:=agp.1
def Lv:=eJ.mk 2 [.dK 4 7] (sub b46 0)
def atT:sR [17] f46 Lv:=fp
abbrev ag4:=sub b46 54
abbrev ag5:=sub b46 31
abbrev ag6:=sub b46 87
def agq:Ko [10,41] f47:=eN
def b47:=agq.1
def Sv:=eJ.mk 2 [.dK 4 8,.tmp 5] (sub b47 0)
def atU:sR [10,41] f47 Sv:=fp
abbrev ag7:=sub b47 9
abbrev ag8:=sub b47 38
def ags:Ko [23,74] f49:=eN
def b49:=ags.1
def Pe:=eJ.mk 2 [.dK 4 8] (sub b49 0)
def atV:sR [23,74] f49 Pe:=fp
abbrev ag9:=sub b49 19
abbrev aha:=sub b49 65
abbrev ahb:=sub b49 50
def agy:Ko [] f67:=eN
def b67:=agy.1
def afp:=eJ.mk 2 [.tmp 4,.tmp 5,.tmp 6] (sub b67 0)
def agA:Ko [] f69:=eN
def b69:=agA.1
def Y5:=eJ.mk 5 [.dK 10 10,.dK 11 7] (sub b69 0)
def agG:Ko [] f75:=eN
def b75:=agG.1
def afq:=eJ.mk 1 [.tmp 2] (sub b75 0)
def agK:Ko [35] f79:=eN
def b79:=agK.1
def Lw:=eJ.mk 2 [.dK 4 8,.tmp 5,.tmp 6] (sub b79 0)
def atZ:sR [35] f79 Lw:=fp
def agN:Ko [7000011] f82:=eN
def b82:=agN.1
def Pg:=eJ.mk 3 [.tmp 6] (sub b82 0)
def at2:sR [7000011] f82 Pg:=fp
abbrev LK:=sub b82 15
abbrev ahg:=sub b82 28
def pN:=by
 have h:=bR (fN b46 agp.1) (bR (fN b47 agq.1) (bR (fN b49 ags.1) (bR (fN b67 agy.1) (bR (fN b69 agA.1) (bR (fN b75 agG.1) (bR (fN b79 agK.1) (fN b82 agN.1)))))));simp only[eN,agp,agq,ags,agy,agA,agG,agK,agN,yx,seval] at h;exact h
def Kw:=pN.1
def E47:=pN.2.1
def QD:=pN.2.2.1
def E67:=pN.2.2.2.1
def E69:=pN.2.2.2.2.1
def E75:=pN.2.2.2.2.2.1
def E79:=pN.2.2.2.2.2.2.1
def E82:=pN.2.2.2.2.2.2.2
def agP:Ko [47] f84:=eN
def b84:=agP.1
def Sw:=eJ.mk 2 [.tmp 4,.tmp 5,.tmp 6] (sub b84 0)
def at4:sR [47] f84 Sw:=fp
def agR:Ko [] f86:=eN
def b86:=agR.1
def al2:=eJ.mk 3 [.tmp 6] (sub b86 0)
def Tq:Ko [8,14] f120:=eN
def Rb:=Tq.1
def IY:=eJ.mk 3 [.dK 6 10,.tmp 7] (sub Rb 0)
def anf:sR [8,14] f120 IY:=fp
abbrev ZB:=sub Rb 9
abbrev ZC:=sub Rb 30
abbrev ZD:=sub Rb 49
def TI:Ko [] f138:=eN
def ajl:=TI.1
def MZ:=eJ.mk 2 [.tmp 4] (sub ajl 0)
def TJ:Ko [20,5000016] f139:=eN
def Rc:=TJ.1
def IZ:=eJ.mk 2 [.tmp 4,.tmp 5] (sub Rc 0)
def anh:sR [20,5000016] f139 IZ:=fp
abbrev ZL:=sub Rc 36
abbrev ZM:=sub Rc 56
abbrev ZN:=sub Rc 13
def Ud:Ko [] f172:=eN
def ajG:=Ud.1
def acN:=eJ.mk 2 [.tmp 4] (sub ajG 0)
def Ue:Ko [] f173:=eN
def Yy:=Ue.1
def M6:=eJ.mk 2 [.tmp 4] (sub Yy 0)
abbrev ZW:=sub Yy 41
abbrev ZX:=sub Yy 27
def Uf:Ko [] f174:=eN
def ajH:=Uf.1
def M7:=eJ.mk 2 [.tmp 4] (sub ajH 0)
def ou:=by
 have h:=bR (fN b84 agP.1) (bR (fN b86 agR.1) (bR (fN Rb Tq.1) (bR (fN ajl TI.1) (bR (fN Rc TJ.1) (bR (fN ajG Ud.1) (bR (fN Yy Ue.1) (fN ajH Uf.1)))))));simp only[eN,agP,agR,Tq,TI,TJ,Ud,Ue,Uf,yx,seval] at h;exact h
def E84:=ou.1
def E86:=ou.2.1
def EY:=ou.2.2.1
def Oe:=ou.2.2.2.1
def AH:=ou.2.2.2.2.1
def aek:=ou.2.2.2.2.2.1
def EZ:=ou.2.2.2.2.2.2.1
def ael:=ou.2.2.2.2.2.2.2
def Ui:Ko [23] f177:=eN
def ajI:=Ui.1
def I2:=eJ.mk 2 [.tmp 4] (sub ajI 0)
def ant:sR [23] f177 I2:=fp
def X8:=by
 have h:=fN ajI Ui.1;simp only[eN,Ui,yx,seval] at h;exact h
end Go.Proofs.YteoamaffclmdbaaGreatDoor
namespace Go.Abs
section
open Go Go.RowKit
theorem fc{α:Type}:∀(l:List α)(i:Nat),nth l i=l[i]?
 | [],_=>by rfl
 |_::_,0=>by rfl
 |_::l,n+1=>by simp[nth,fc l n]
theorem fe{α:Type}:∀(l:List α)(i:Nat)(x:α),iR l i x=l.set i x
 | [],_,_=>by rfl
 |_::_,0,_=>by rfl
 |_::l,n+1,x=>by simp[iR,fe l n]
def gI(j:J)(id:Nat)(ob:Option Nat):J:=⟨fun i=>if i=id then ob else j i,j.X⟩
structure Quiet(w w':World):Prop where
 size:w.heap.size<=w'.heap.size
 os:w'.os=w.os
 tape:w'.tape=w.tape
 output:w'.output=w.output
theorem lt_of_block{w:World}{b:Nat}{o:Obj}(h:w.heap[b]?=some o):b<w.heap.size:=by
 grind
theorem aO{α:Type}{l:List α}{i:Nat}{x:α}(h:l[i]?=some x):i<l.length:=jK
section
variable {j:J} {M:aC} {w w':World}
theorem qG{j':J}{M':aC}(hr:Rel j M w)(ext:Ext j M w j' M' w'){i sz ver:Nat}{xs:List ag}(h:M[i]?=some (.arr sz ver xs))(hj:j' i=j i)(hb:∀b,j i=some b->w'.heap[b]?=w.heap[b]?) :
  (xs=[]/\j' i=none)\/∃b vs t,j' i=some b/\w'.heap[b]?=some (.cells vs t (0,0))/\xs.length*sz<=vs.size/\(∀x,x∈xs->x.cells.length=sz) /\
  ∀(q:Nat)(x:ag)(k:Nat)(c:ag),xs[q]?=some x->x.cells[k]?=some c->∃v,vs[q*sz+k]?=some v/\fR w' (ow j' M' w') c v:=by
 rcases hr.arr i _ _ _ h with he|⟨b,vs,t,h1,h2,h3,h4,h5⟩
 ·grind
 refine .inr ⟨b,vs,t,hj.trans h1,(hb b h1).trans h2,h3,h4,fun q x k c hx hk=>?_⟩
 obtain⟨u,h6,h7⟩:=h5 q x k c hx hk;exact⟨u,h6,h7.mono ext.iE⟩
theorem Rel.yT(hr:Rel j M w){i sz ver b:Nat}{xs:List ag}(h:M[i]?=some (.arr sz ver xs))(hj:j i=some b):∃b vs t,j i=some b/\w.heap[b]?=some (.cells vs t (0,0))/\xs.length*sz<=vs.size/\(∀x,x∈xs->x.cells.length=sz) /\
  ∀(q:Nat)(x:ag)(k:Nat)(c:ag),xs[q]?=some x->x.cells[k]?=some c->∃v,vs[q*sz+k]?=some v/\fR w (ow j M w) c v:=by
 rcases hr.arr i _ _ _ h with ⟨_,he⟩|hh
 ·grind
 omega
def xU{bx:cL}{i:Nat}(h:i<M.length):(M++[bx])[i]?=M[i]?:=jK
def kf{bx:cL}:(M++[bx])[M.length]?=some bx:=dx
theorem Ext.push{ob:Option Nat}{bx:cL}(hob:∀b,ob=some b->w.heap.size<=b)(q:Quiet w w')(hb:∀b,b<w.heap.size->w'.heap[b]?=w.heap[b]?) :
  Ext j M w (gI j M.length ob) (M++[bx]) w' where
 len:=dx
 size:=q.size
 os:=q.os
 tape:=q.tape
 output:=q.output
 X:=rfl
 fix:=fun i bx h _=>by
  have hi:=aO h;exact⟨by simp[gI,gM hi],bx,by rw[xU hi]; omega,rfl⟩
 tick:=fun i sz n h=>by
  have hi:=aO h;exact⟨n,au _,by rw[xU hi]; omega,fun _=>⟨by simp[gI,gM hi],fun b vs t _ hv=>⟨vs,(hb b (lt_of_block hv)).trans hv,rfl⟩⟩⟩
 arr:=fun i sz v xs h=>by
  have hi:=aO h;exact .inr ⟨v,xs,by rw[xU hi]; omega,au _,fun _=>⟨by simp[gI,gM hi],rfl,fun b vs t _ hv=>⟨vs,(hb b (lt_of_block hv)).trans hv,rfl⟩⟩⟩
 tags:=fun b0 vs0 t0 fr0 h=>⟨vs0,fr0,(hb b0 (lt_of_block h)).trans h,rfl⟩
 iE:=fun b off h=>by
  refine⟨⟨bu h.1 q.size,fun id hid hj=>?_,h.3⟩,World.cell?_of_block (hb b h.1)⟩
  by_cases he:id=M.length
  ·have:ob=some b:=by grind [gI]
   have:=hob b this;have:=h.1;omega
  ·have cJ:id<M.length:=jK;rw[xU cJ];exact h.2 id cJ (by grind [gI])
 ur:=fun b cJ h=>by
  grind [ob,gI]
theorem Rel.anV(hr:Rel j M w){ob:Option Nat}{bx:cL}(hob:∀b,ob=some b->w.heap.size<=b/\b<w'.heap.size)(q:Quiet w w')(hb:∀b,b<w.heap.size->w'.heap[b]?=w.heap[b]?)
  (hbox:bx.fixed=true->∃b,ob=some b/\(Ext j M w (gI j M.length ob) (M++[bx]) w'->Holds (gI j M.length ob) (M++[bx]) w' b bx))
  (htick:∀sz n b,bx = .tick sz n->ob=some b->∃vs t,w'.heap[b]?=some (.cells vs t (0,0)))
  (harr:∀sz ver xs,bx = .arr sz ver xs->(xs=[]/\ob=none)\/∃b vs t,ob=some b/\w'.heap[b]?=some (.cells vs t (0,0))/\xs.length*sz<=vs.size/\(∀x,x∈xs->x.cells.length=sz) /\
   ∀j' M',Ext j M w j' M' w'->∀(q:Nat)(x:ag)(k:Nat)(c:ag),xs[q]?=some x->x.cells[k]?=some c->∃v,vs[q*sz+k]?=some v/\fR w' (ow j' M' w') c v:=by intro _ _ _ h; cases h):Rel (gI j M.length ob) (M++[bx]) w':=by
 have ext:Ext j M w (gI j M.length ob) (M++[bx]) w':=Ext.push (fun b h=>(hob b h).1) q hb
 have up:∀i,i<M.length->gI j M.length ob i=j i:=fun i hi=>by simp[gI,gM hi]
 have cas:∀i x,(M++[bx])[i]?=some x->(i<M.length/\M[i]?=some x)\/(i=M.length/\x=bx):=by
  grind
 refine⟨fun i i' b hi hi' h h'=>?_,fun i b hi h=>?_,fun i bx' h hf=>?_,fun i sz n b h hj=>?_,fun i sz ver xs h=>?_,fun i b hi h off hx=>?_,fun b off h=>bu (hr.AF b off h) q.size⟩
 ·simp only[aA,aw,az] at hi hi'
  by_cases e:i=M.length<;>by_cases e':i'=M.length
  ·omega
  ·have h1:ob=some b:=by simpa[gI,e] using h
   rw[up i' aJ] at h';have:=hr.lt i' b aJ h';have:=(hob b h1).1;omega
  ·have h1:ob=some b:=by simpa[gI,e'] using h'
   rw[up i aJ] at h;have:=hr.lt i b aJ h;have:=(hob b h1).1;omega
  ·rw[up i aJ] at h;rw[up i' aJ] at h';exact hr.inj i i' b aJ aJ h h'
 ·simp only[aA,aw,az] at hi
  by_cases e:i=M.length
  ·exact(hob b (by simpa[gI,e] using h)).2
  ·rw[up i aJ] at h;exact bu (hr.lt i b aJ h) q.size
 ·rcases cas i _ h with ⟨hi,h⟩|⟨rfl,hx⟩
  ·obtain⟨b,h1,h2⟩:=hr.fix i bx' h hf;exact⟨b,by rw[up i hi]; exact h1,h2.mono ext (hb b (hr.lt i b hi h1))⟩
  ·subst hx;obtain⟨b,h1,h2⟩:=hbox hf;exact⟨b,by simp[gI,h1],h2 ext⟩
 ·rcases cas i _ h with ⟨hi,h⟩|⟨rfl,hx⟩
  ·rw[up i hi] at hj;obtain⟨vs,t,h1⟩:=hr.tick i sz n b h hj;exact⟨vs,t,(hb b (lt_of_block h1)).trans h1⟩
  ·exact htick sz n b hx.symm (by simpa[gI] using hj)
 ·rcases cas i _ h with ⟨hi,h⟩|⟨rfl,hx⟩
  ·exact qG hr ext h (up i hi) fun b h1=>hb b (hr.lt i b hi h1)
  grind [gI]
 ·by_cases e:i=M.length
  ·have h1:=(hob b (by simpa[gI,e] using h)).1
   have h2:=hr.AF b off hx;omega
  ·exact hr.vk i b (by simp at hi; omega) (by rw[up i (by simp at hi; omega)] at h; exact h) off hx
def Rel.push(hr:Rel j M w){ob:Option Nat}{bx:cL}(hob:∀b,ob=some b->w.heap.size<=b/\b<w'.heap.size)(q:Quiet w w')(hb:∀b,b<w.heap.size->w'.heap[b]?=w.heap[b]?)
  (hbox:bx.fixed=true->∃b,ob=some b/\∀j' M',Ext j M w j' M' w'->Holds j' M' w' b bx)
  (htick:∀sz n b,bx = .tick sz n->ob=some b->∃vs t,w'.heap[b]?=some (.cells vs t (0,0)))
  (harr:∀sz ver xs,bx = .arr sz ver xs->(xs=[]/\ob=none)\/∃b vs t,ob=some b/\w'.heap[b]?=some (.cells vs t (0,0))/\xs.length*sz<=vs.size/\(∀x,x∈xs->x.cells.length=sz) /\
   ∀j' M',Ext j M w j' M' w'->∀(q:Nat)(x:ag)(k:Nat)(c:ag),xs[q]?=some x->x.cells[k]?=some c->∃v,vs[q*sz+k]?=some v/\fR w' (ow j' M' w') c v:=by intro _ _ _ h; cases h):Rel (gI j M.length ob) (M++[bx]) w' :=
 hr.anV hob q hb (fun hf=>(hbox hf).imp fun b h=>⟨h.1,fun hx=>h.2 _ _ hx⟩) htick harr
theorem ef{id:Nat}{bx:cL}(h:id<M.length):(M.set id bx)[id]?=some bx:=jK
def cQ{id i:Nat}{bx:cL}(h:id≠i):(M.set id bx)[i]?=M[i]?:=jK
theorem Ext.store{id b:Nat}{bx bx':cL}(hM:M[id]?=some bx)(hfx:bx.fixed=true)(htag:bx'.tag=bx.tag)(hj:j id=some b)(hr:Rel j M w)(q:Quiet w w')
  (hb:∀b',b'≠b->b'<w.heap.size->w'.heap[b']?=w.heap[b']?) (htg:∀(vs:Array Value)(t:TypeId)(fr:Nat×Nat),w.heap[b]?=some (.cells vs t fr)->∃vs' fr',w'.heap[b]?=some (.cells vs' t fr')/\vs'.size=vs.size):Ext j M w j (M.set id bx') w' where
 len:=dx
 size:=q.size
 os:=q.os
 tape:=q.tape
 output:=q.output
 X:=rfl
 fix:=fun i b0 h _=>⟨rfl,by
  grind⟩
 tick:=fun i sz n h=>by
  have e:id≠i:=by rintro rfl; rw[hM] at h; cases h; cases hfx
  refine⟨n,au _,by rw[cQ e]; omega,fun _=>⟨rfl,fun b' vs t hb' hv=>⟨vs,?_,rfl⟩⟩⟩
  refine(hb b' ?_ (lt_of_block hv)).trans hv;rintro rfl;exact e (hr.inj _ _ _ (aO hM) (aO h) hj hb')
 arr:=fun i sz v xs h=>by
  have e:id≠i:=by rintro rfl; rw[hM] at h; cases h; cases hfx
  refine .inr ⟨v,xs,by rw[cQ e]; omega,au _,fun _=>⟨rfl,rfl,fun b' vs t hb' hv=>⟨vs,?_,rfl⟩⟩⟩
  refine(hb b' ?_ (lt_of_block hv)).trans hv;rintro rfl;exact e (hr.inj _ _ _ (aO hM) (aO h) hj hb')
 tags:=fun b0 vs0 t0 fr0 h=>by
  grind
 iE:=fun b0 off h=>by
  have hne:b0≠b:=by
   rintro rfl;obtain⟨sz,n,h1,_⟩:=h.2 id (aO hM) hj;rw[hM] at h1; cases h1; cases hfx
  refine⟨⟨bu h.1 q.size,fun i hi hji=>?_,h.3⟩,World.cell?_of_block (w:=w) (hb b0 hne h.1)⟩
  have e:id≠i:=jK;rw[cQ e];exact h.2 i (by simpa using hi) hji
 ur:=fun b0 cJ h=>by
  grind
theorem Rel.store{id b:Nat}{bx bx':cL}(hM:M[id]?=some bx)(hfx:bx.fixed=true)(htag:bx'.tag=bx.tag)(hj:j id=some b)(hr:Rel j M w)(q:Quiet w w')
  (hb:∀b',b'≠b->b'<w.heap.size->w'.heap[b']?=w.heap[b']?) (htg:∀(vs:Array Value)(t:TypeId)(fr:Nat×Nat),w.heap[b]?=some (.cells vs t fr)->∃vs' fr',w'.heap[b]?=some (.cells vs' t fr')/\vs'.size=vs.size) (hh:∀j' M',Ext j M w j' M' w'->Holds j' M' w' b bx'):Rel j (M.set id bx') w':=by
 have ext  := Ext.store hM hfx htag hj hr q hb htg;refine⟨fun i i' b0 hi hi'=>hr.inj i i' b0 (by simpa using hi) (by simpa using hi'),fun i b0 hi h=>bu (hr.lt i b0 (by simpa using hi) h) q.size,fun i bx0 h hf=>?_,fun i sz n b0 h hji=>?_,fun i sz ver xs h=>?_,fun i b0 hi h=>hr.vk i b0 (by simpa using hi) h,fun b0 off h=>bu (hr.AF b0 off h) q.size⟩
 ·by_cases e:id=i
  ·grind
  ·rw[cQ e] at h;obtain⟨b0,h1,h2⟩:=hr.fix i _ h hf;refine⟨b0,h1,h2.mono ext (hb b0 ?_ (hr.lt i b0 (aO h) h1))⟩;rintro rfl;exact e (hr.inj _ _ _ (aO hM) (aO h) hj h1)
 ·have e:id≠i:=by
   rintro rfl;rw[ef (aO hM)] at h;injection h with h
   have:=BI htag hfx;rw[h] at this; cases this
  rw[cQ e] at h;obtain⟨vs,t0,h1⟩:=hr.tick i sz n b0 h hji;refine⟨vs,t0,(hb b0 ?_ (lt_of_block h1)).trans h1⟩;rintro rfl;exact e (hr.inj _ _ _ (aO hM) (aO h) hj hji)
 ·have e:id≠i:=by
   rintro rfl;rw[ef (aO hM)] at h;injection h with h
   have:=BI htag hfx;rw[h] at this; cases this
  rw[cQ e] at h;refine qG hr ext h rfl fun b0 h1=>hb b0 ?_ (hr.lt i b0 (aO h) h1)
  rintro rfl;exact e (hr.inj _ _ _ (aO hM) (aO h) hj h1)
theorem Ext.HM{k b sz n n':Nat}{vs vs':Array Value}{t:TypeId}(hM:M[k]?=some (.tick sz n))(hj:j k=some b)(hr:Rel j M w)(q:Quiet w w')
  (hb:∀b',b'≠b->b'<w.heap.size->w'.heap[b']?=w.heap[b']?) (hw:w.heap[b]?=some (.cells vs t (0,0))) (hw':w'.heap[b]?=some (.cells vs' t (0,0))) (hvs:vs'.size=vs.size)
  (hq:∀p,p<n*sz->vs'[p]?=vs[p]?) (hn:n<=n'):Ext j M w j (M.set k (.tick sz n')) w' where
 len:=dx
 size:=q.size
 os:=q.os
 tape:=q.tape
 output:=q.output
 X:=rfl
 fix:=fun i b0 h hf=>⟨rfl,by
  have e:k≠i:=by rintro rfl; rw[hM] at h; cases h; cases hf
  grind⟩
 tick:=fun i sz0 n0 h=>by
  grind
 arr:=fun i sz v xs h=>by
  grind
 tags:=fun b0 vs0 t0 fr0 h=>by
  grind
 iE:=fun b0 off h=>by
  refine⟨⟨bu h.1 q.size,fun i hi hji=>?_,h.3⟩,?_⟩
  ·by_cases e:k=i
   ·subst e;obtain⟨sz0,n0,h1,h2⟩:=h.2 k (aO hM) hji;rw[hM] at h1;injection h1 with h1; injection h1 with e1 e2
    subst e1; subst e2;exact⟨sz,n',ef (aO hM),bu h2 (bd _ hn)⟩
   ·rw[cQ e];exact h.2 i (by simpa using hi) hji
  ·by_cases e:b0=b
   ·subst e;obtain⟨sz0,n0,h1,h2⟩:=h.2 k (aO hM) hj;rw[hM] at h1
    grind [World.cell?]
   ·exact World.cell?_of_block (w:=w) (hb b0 e h.1)
 ur:=fun b0 cJ h=>by
  grind
theorem Rel.HM{k b sz n n':Nat}{vs vs':Array Value}{t:TypeId}(hM:M[k]?=some (.tick sz n))(hj:j k=some b)(hr:Rel j M w)(q:Quiet w w')
  (hb:∀b',b'≠b->b'<w.heap.size->w'.heap[b']?=w.heap[b']?) (hw:w.heap[b]?=some (.cells vs t (0,0))) (hw':w'.heap[b]?=some (.cells vs' t (0,0))) (hvs:vs'.size=vs.size)
  (hq:∀p,p<n*sz->vs'[p]?=vs[p]?) (hn:n<=n'):Rel j (M.set k (.tick sz n')) w':=by
 have ext:Ext j M w j (M.set k (.tick sz n')) w':=Ext.HM hM hj hr q hb hw hw' hvs hq hn;refine⟨fun i i' b0 hi hi'=>hr.inj i i' b0 jK jK,fun i b0 hi h=>bu (hr.lt i b0 jK h) q.size,fun i bx0 h hf=>?_,fun i sz0 n0 b0 h hji=>?_,fun i sz ver xs h=>?_,fun i b0 hi h=>hr.vk i b0 jK h,fun b0 off h=>bu (hr.AF b0 off h) q.size⟩
 ·have e:k≠i:=by rintro rfl; rw[ef (aO hM)] at h; cases h; cases hf
  rw[cQ e] at h;obtain⟨b0,h1,h2⟩:=hr.fix i bx0 h hf;refine⟨b0,h1,h2.mono ext (hb b0 ?_ (hr.lt i b0 (aO h) h1))⟩;rintro rfl;exact e (hr.inj _ _ _ (aO hM) (aO h) hj h1)
 ·by_cases e:k=i
  ·grind
  ·rw[cQ e] at h;obtain⟨vs0,t0,h1⟩:=hr.tick i sz0 n0 b0 h hji
   grind
 ·have e:k≠i:=jK;rw[cQ e] at h;refine qG hr ext h rfl fun b0 h1=>hb b0 ?_ (hr.lt i b0 (aO h) h1)
  rintro rfl;exact e (hr.inj _ _ _ (aO hM) (aO h) hj h1)
theorem Ext.C6{k b' sz n n':Nat}(hM:M[k]?=some (.tick sz n))(q:Quiet w w')(hb:∀b,b<w.heap.size->w'.heap[b]?=w.heap[b]?)(hf:w.heap.size<=b')(hn:n<n') :
  Ext j M w (gI j k (some b')) (M.set k (.tick sz n')) w' where
 len:=dx
 size:=q.size
 os:=q.os
 tape:=q.tape
 output:=q.output
 X:=rfl
 fix:=fun i b0 h hf=>by
  have e:k≠i:=by rintro rfl; rw[hM] at h; cases h; cases hf
  exact⟨by simp[gI,eY e],b0,by rw[cQ e]; omega,rfl⟩
 tick:=fun i sz0 n0 h=>by
  by_cases e:k=i
  ·grind
  ·exact⟨n0,au _,by rw[cQ e]; omega,fun _=>⟨by simp[gI,eY e],fun b vs0 t0 _ hv=>⟨vs0,(hb b (lt_of_block hv)).trans hv,rfl⟩⟩⟩
 arr:=fun i sz v xs h=>by
  have e:k≠i:=jK;exact .inr ⟨v,xs,by rw[cQ e]; omega,au _,fun _=>⟨by simp[gI,eY e],rfl,fun b vs0 t0 _ hv=>⟨vs0,(hb b (lt_of_block hv)).trans hv,rfl⟩⟩⟩
 tags:=fun b0 vs0 t0 fr0 h=>⟨vs0,fr0,(hb b0 (lt_of_block h)).trans h,rfl⟩
 iE:=fun b0 off h=>by
  refine⟨⟨bu h.1 q.size,fun i hi hji=>?_,h.3⟩,World.cell?_of_block (w:=w) (hb b0 h.1)⟩
  have e:k≠i:=by
   rintro rfl;have:b'=b0:=by grind [gI]
   have:=h.1;omega
  rw[cQ e];exact h.2 i jK (by simp_all [gI,eY])
 ur:=fun b0 cJ h=>by
  grind [gI]
def Rel.C6{k b' sz n n':Nat}{vs:Array Value}{t:TypeId}(hM:M[k]?=some (.tick sz n))(hr:Rel j M w)(q:Quiet w w')(hb:∀b,b<w.heap.size->w'.heap[b]?=w.heap[b]?)
  (hf:w.heap.size<=b') (hw':w'.heap[b']?=some (.cells vs t (0,0))) (hn:n<n'):Rel (gI j k (some b')) (M.set k (.tick sz n')) w':=by
 have ext:Ext j M w (gI j k (some b')) (M.set k (.tick sz n')) w':=Ext.C6 hM q hb hf hn;refine⟨fun i i' b0 hi hi' h h'=>?_,fun i b0 hi h=>?_,fun i bx0 h hf=>?_,fun i sz0 n0 b0 h hji=>?_,fun i sz ver xs h=>?_,fun i b0 hi h off hx=>?_,fun b0 off h=>bu (hr.AF b0 off h) q.size⟩
 ·simp only[dh] at hi hi'
  by_cases e:i=k<;>by_cases e':i'=k
  ·omega
  ·have h1:b'=b0:=by simpa[gI,e] using h
   have:=hr.lt i' b0 hi' (by simpa[gI,e'] using h')
   omega
  ·have h1:b'=b0:=by simpa[gI,e'] using h'
   have:=hr.lt i b0 hi (by simpa[gI,e] using h)
   omega
  ·exact hr.inj i i' b0 hi hi' (by simpa[gI,e] using h) (by simpa[gI,e'] using h')
 ·simp only[dh] at hi
  by_cases e:i=k
  ·have h1:b'=b0:=by simpa[gI,e] using h
   subst h1;exact lt_of_block hw'
  ·exact bu (hr.lt i b0 hi (by simpa[gI,e] using h)) q.size
 ·have e:k≠i:=by rintro rfl; rw[ef (aO hM)] at h; cases h; cases hf
  rw[cQ e] at h;obtain⟨b0,h1,h2⟩:=hr.fix i bx0 h hf;exact⟨b0,by simpa[gI,eY e] using h1,h2.mono ext (hb b0 (hr.lt i b0 (aO h) h1))⟩
 ·by_cases e:i=k
  ·have h1:b'=b0:=by simpa[gI,e] using hji
   subst h1;exact⟨vs,t,hw'⟩
  ·rw[cQ (eY e)] at h;obtain⟨vs0,t0,h1⟩:=hr.tick i sz0 n0 b0 h (by simpa[gI,e] using hji)
   exact⟨vs0,t0,(hb b0 (lt_of_block h1)).trans h1⟩
 ·have e:k≠i:=by rintro rfl; rw[ef (aO hM)] at h; cases h
  rw[cQ e] at h;exact qG hr ext h (by simp[gI,eY e]) fun b0 h1=>hb b0 (hr.lt i b0 (aO h) h1)
 ·by_cases e:i=k
  ·have h1:b'=b0:=by simpa[gI,e] using h
   have h2:=hr.AF b0 off hx;omega
  ·exact hr.vk i b0 (by simpa using hi) (by simpa[gI,e] using h) off hx
end
section
variable {j:J} {M:aC} {w w':World}
def Fm(j:J)(M:aC)(w:World)(b sz:Nat)(xs:List ag):Prop:=∃vs t,w.heap[b]?=some (.cells vs t (0,0))/\xs.length*sz<=vs.size/\(∀x,x∈xs->x.cells.length=sz) /\
  ∀(q:Nat)(x:ag)(k:Nat)(c:ag),xs[q]?=some x->x.cells[k]?=some c->∃v,vs[q*sz+k]?=some v/\fR w (ow j M w) c v
def Ext.Ft{id b sz ver ver':Nat}{xs xs':List ag}(hM:M[id]?=some (.arr sz ver xs))(hj:j id=some b)(hr:Rel j M w)(q:Quiet w w')
  (hb:∀b',b'≠b->b'<w.heap.size->w'.heap[b']?=w.heap[b']?) (hw:∀vs t,w.heap[b]?=some (.cells vs t (0,0))->∃vs',w'.heap[b]?=some (.cells vs' t (0,0))/\vs'.size=vs.size)
  (hv:ver<=ver') (hl:ver'=ver->xs'.length=xs.length):Ext j M w j (M.set id (.arr sz ver' xs')) w' where
 len:=dx
 size:=q.size
 os:=q.os
 tape:=q.tape
 output:=q.output
 X:=rfl
 fix:=fun i b0 h hf=>⟨rfl,by
  have e:id≠i:=by rintro rfl; rw[hM] at h; cases h; cases hf
  exact⟨b0,by rw[cQ e]; exact h,rfl⟩⟩
 tick:=fun i sz0 n0 h=>by
  have e:id≠i:=by rintro rfl; rw[hM] at h; cases h
  refine⟨n0,au _,by rw[cQ e]; exact h,fun _=>⟨rfl,fun b' vs0 t0 hb' hv=>⟨vs0,?_,rfl⟩⟩⟩
  refine(hb b' ?_ (lt_of_block hv)).trans hv;rintro rfl;exact e (hr.inj _ _ _ (aO hM) (aO h) hj hb')
 arr:=fun i sz0 v0 xs0 h=>by
  by_cases e:id=i
  ·subst e;rw[hM] at h;injection h with h; injection h with e1 e2 e3
   subst e1; subst e2; subst e3;refine .inr ⟨ver',xs',ef (aO hM),hv,fun he=>⟨rfl,hl he,fun b' vs t hb' hv=>?_⟩⟩
   rw[hj] at hb'; cases hb';exact hw vs t hv
  ·refine .inr ⟨v0,xs0,by rw[cQ e]; exact h,au _,fun _=>⟨rfl,rfl,fun b' vs t hb' hv=>⟨vs,?_,rfl⟩⟩⟩
   refine(hb b' ?_ (lt_of_block hv)).trans hv;rintro rfl;exact e (hr.inj _ _ _ (aO hM) (aO h) hj hb')
 tags:=fun b0 vs0 t0 fr0 h=>by
  by_cases e:b0=b
  ·subst e;obtain⟨b',vs,t,g1,g2,_⟩:=hr.yT hM hj;rw[hj] at g1; cases g1;rw[g2] at h; injection h with h; injection h with h1 h2 h3
   subst h1; subst h2;obtain⟨vs',k1,k2⟩:=hw vs t g2;exact⟨_,_,k1,k2⟩
  ·exact⟨vs0,fr0,(hb b0 e (lt_of_block h)).trans h,rfl⟩
 iE:=fun b0 off h=>by
  have hne:b0≠b:=by
   rintro rfl;obtain⟨sz,n,h1,_⟩:=h.2 id (aO hM) hj;rw[hM] at h1; cases h1
  refine⟨⟨bu h.1 q.size,fun i hi hji=>?_,h.3⟩,World.cell?_of_block (w:=w) (hb b0 hne h.1)⟩
  have e:id≠i:=by rintro rfl; rw[hj] at hji; injection hji with hji; exact hne hji.symm
  rw[cQ e];exact h.2 i (by simpa using hi) hji
 ur:=fun b0 cJ h=>by
  have hne:b0≠b:=by rintro rfl; exact h id (aO hM) hj
  exact⟨hb b0 hne cJ,fun i hi=>h i (by simpa using hi)⟩
def Rel.Ft{id b sz ver ver':Nat}{xs xs':List ag}(hM:M[id]?=some (.arr sz ver xs))(hj:j id=some b)(hr:Rel j M w)(q:Quiet w w')
  (hb:∀b',b'≠b->b'<w.heap.size->w'.heap[b']?=w.heap[b']?) (hw:∀vs t,w.heap[b]?=some (.cells vs t (0,0))->∃vs',w'.heap[b]?=some (.cells vs' t (0,0))/\vs'.size=vs.size)
  (hv:ver<=ver') (hl:ver'=ver->xs'.length=xs.length) (hh:∀j' M',Ext j M w j' M' w'->Fm j' M' w' b sz xs'):Rel j (M.set id (.arr sz ver' xs')) w':=by
 have ext:Ext j M w j (M.set id (.arr sz ver' xs')) w':=Ext.Ft hM hj hr q hb hw hv hl;refine⟨fun i i' b0 hi hi'=>hr.inj i i' b0 (by simpa using hi) (by simpa using hi'),fun i b0 hi h=>bu (hr.lt i b0 (by simpa using hi) h) q.size,fun i bx0 h hf=>?_,fun i sz0 n0 b0 h hji=>?_,fun i sz0 v0 xs0 h=>?_,fun i b0 hi h=>hr.vk i b0 (by simpa using hi) h,fun b0 off h=>bu (hr.AF b0 off h) q.size⟩
 ·have e:id≠i:=by rintro rfl; rw[ef (aO hM)] at h; cases h; cases hf
  rw[cQ e] at h;obtain⟨b0,h1,h2⟩:=hr.fix i bx0 h hf;refine⟨b0,h1,h2.mono ext (hb b0 ?_ (hr.lt i b0 (aO h) h1))⟩;rintro rfl;exact e (hr.inj _ _ _ (aO hM) (aO h) hj h1)
 ·have e:id≠i:=by rintro rfl; rw[ef (aO hM)] at h; cases h
  rw[cQ e] at h;obtain⟨vs,t0,h1⟩:=hr.tick i sz0 n0 b0 h hji;refine⟨vs,t0,(hb b0 ?_ (lt_of_block h1)).trans h1⟩;rintro rfl;exact e (hr.inj _ _ _ (aO hM) (aO h) hj hji)
 ·by_cases e:id=i
  ·subst e;rw[ef (aO hM)] at h;injection h with h; injection h with e1 e2 e3
   subst e1; subst e2; subst e3;obtain⟨vs,t,g⟩:=hh _ _ ext;exact .inr ⟨b,vs,t,hj,g⟩
  ·rw[cQ e] at h;refine qG hr ext h rfl fun b0 h1=>hb b0 ?_ (hr.lt i b0 (aO h) h1)
   rintro rfl;exact e (hr.inj _ _ _ (aO hM) (aO h) hj h1)
def Ext.freeze{id sz ver:Nat}{xs:List ag}(hM:M[id]?=some (.arr sz ver xs)):Ext j M w j (M.set id (.tick sz xs.length)) w where
 len:=dx
 size:=au _
 os:=rfl
 tape:=rfl
 output:=rfl
 X:=rfl
 fix:=fun i b0 h hf=>⟨rfl,by
  have e:id≠i:=by rintro rfl; rw[hM] at h; cases h; cases hf
  exact⟨b0,by rw[cQ e]; exact h,rfl⟩⟩
 tick:=fun i sz0 n0 h=>by
  have e:id≠i:=by rintro rfl; rw[hM] at h; cases h
  exact⟨n0,au _,by rw[cQ e]; exact h,fun _=>⟨rfl,fun b' vs0 t0 hb' hv=>⟨vs0,hv,rfl⟩⟩⟩
 arr:=fun i sz0 v0 xs0 h=>by
  by_cases e:id=i
  ·subst e;rw[hM] at h;injection h with h; injection h with e1 e2 e3
   subst e1; subst e2; subst e3;exact .inl ⟨_,ef (aO hM)⟩
  ·exact .inr ⟨v0,xs0,by rw[cQ e]; exact h,au _,fun _=>⟨rfl,rfl,fun b' vs t hb' hv=>⟨vs,hv,rfl⟩⟩⟩
 tags:=fun b vs t fr h=>⟨vs,fr,h,rfl⟩
 iE:=fun b0 off h=>by
  refine⟨⟨h.1,fun i hi hji=>?_,h.3⟩,rfl⟩
  have e:id≠i:=by
   rintro rfl;obtain⟨sz,n,h1,_⟩:=h.2 id (aO hM) hji;rw[hM] at h1; cases h1
  rw[cQ e];exact h.2 i (by simpa using hi) hji
 ur:=fun b0 cJ h=>⟨rfl,fun i hi=>h i (by simpa using hi)⟩
def Rel.freeze{id sz ver:Nat}{xs:List ag}(hM:M[id]?=some (.arr sz ver xs))(hr:Rel j M w):Rel j (M.set id (.tick sz xs.length)) w:=by
 have ext:Ext j M w j (M.set id (.tick sz xs.length)) w:=Ext.freeze hM;refine⟨fun i i' b0 hi hi'=>hr.inj i i' b0 (by simpa using hi) (by simpa using hi'),fun i b0 hi h=>hr.lt i b0 (by simpa using hi) h,fun i bx0 h hf=>?_,fun i sz0 n0 b0 h hji=>?_,fun i sz0 v0 xs0 h=>?_,fun i b0 hi h=>hr.vk i b0 (by simpa using hi) h,hr.AF⟩
 ·have e:id≠i:=by rintro rfl; rw[ef (aO hM)] at h; cases h; cases hf
  rw[cQ e] at h;obtain⟨b0,h1,h2⟩:=hr.fix i bx0 h hf;exact⟨b0,h1,h2.mono ext rfl⟩
 ·by_cases e:id=i
  ·subst e;obtain⟨b,vs,t,g1,g2,_⟩:=hr.yT hM hji;rw[hji] at g1; cases g1;exact⟨vs,t,g2⟩
  ·rw[cQ e] at h;exact hr.tick i sz0 n0 b0 h hji
 ·have e:id≠i:=by rintro rfl; rw[ef (aO hM)] at h; cases h
  rw[cQ e] at h;exact qG hr ext h rfl fun b0 h1=>rfl
end
def xY{w:World}{iE saf':Nat->Nat->Prop}{b lo hi sz cap:Nat}{vs:Array Value}{t:TypeId}{xs:List ag}(hw:w.heap[b]?=some (.cells vs t (0,0)))(hwid:∀x,x∈xs->x.cells.length=sz)
  (hc:∀(q:Nat)(x:ag)(k:Nat)(c:ag),xs[q]?=some x->x.cells[k]?=some c->∃v,vs[q*sz+k]?=some v/\fR w iE c v) (hm:∀b off,iE b off->saf' b off) (hs:∀off,off<xs.length*sz->saf' b off)
  (h1:lo<=hi) (h2:hi<=xs.length) (h3:hi-lo<=cap):fR w saf' (.slice .sh ((xs.take hi).drop lo)) (.slice (some ⟨b,lo*sz,none⟩) (hi-lo) cap):=by
 have hget:∀(i:Nat)(x:ag),((xs.take hi).drop lo)[i]?=some x->xs[lo+i]?=some x/\lo+i<hi:=by
  intro i x h;rw[cF] at h;have cJ:lo+i<hi:=by have:=aO h; simp at this; omega
  rw[bH cJ] at h;exact⟨h,cJ⟩
 have idx:∀i k,lo*sz+(i*sz+k)=(lo+i)*sz+k:=fun i k=>by rw[bQ]; omega
 refine .slice _ _ _ _ b (lo*sz) sz (fun p=>(vs[lo*sz+p]?).getD undef) gm aJ (fun _=>rfl) (fun x hx=>hwid x (dS (dA hx))) (fun i x k c hx hk=>?_) fun i x k c hx hk=>?_
 ·obtain⟨g1,g2⟩:=hget i x hx;obtain⟨v,g3,g4⟩:=hc _ x k c g1 hk;have hk':k<sz:=by rw[<-hwid x (aE g1)]; exact aO hk
  rw[idx];refine⟨by simp[World.cell?,hw,g3],hs _ ?_⟩
  calc (lo+i)*sz+k<(lo+i)*sz+sz:=aJ
   _=(lo+i+1)*sz:=by rw[bQ (lo+i) 1]; omega
   _<=xs.length*sz:=bd _ aJ
 ·obtain⟨g1,g2⟩:=hget i x hx;obtain⟨v,g3,g4⟩:=hc _ x k c g1 hk;simp only[idx,g3,bz];exact g4.mono fun b off h=>⟨hm b off h,rfl⟩
section
variable [kC]
def iW(j:J)(M:aC)(w:World)(x:ag×aC)(v:Value)(w':World):Prop:=∃j',Rel j' x.2 w'/\Ext j M w j' x.2 w'/\gn j' x.2 w' x.1 v
def HZ(j:J)(M:aC)(w:World)(x:ag×aC)(u:Value)(w':World):Prop:=x.1 = .nI u/\∃j',Rel j' x.2 w'/\Ext j M w j' x.2 w'
def vX(j:J)(M:aC)(w:World)(x:ag×aC)(e:Ending)(w':World):Prop :=
 (∃v,e = .returned v/\iW j M w x v w')\/∃u,e = .panicked [{ v:=u,recovered:=false }]/\HZ j M w x u w'
def vX.ret{j:J}{M:aC}{w:World}{x:ag×aC}{e:Ending}{w':World}(h:vX j M w x e w')(hx:x.1.jo=false):∃v,e = .returned v/\iW j M w x v w':=by
 rcases h with h|⟨u,_,h,_⟩
 ·omega
 ·rw[h] at hx; cases hx
def dr(P:Program)(f:Nat)(args:List ag)(M:aC)(x:ag×aC):Prop :=
 ∀(j:J)(w:World)(vs:Array Value),Rel j M w->sV j M w->args.length=vs.size->(∀(i:Nat)(c:ag)(v:Value),args[i]?=some c->vs[i]?=some v->gn j M w c v) ->
  Calls P f vs w fun e w'=>vX j M w x e w'
def nN(P:Program)(f:Nat)(args:List ag)(M:aC)(x:ag×aC):Prop :=
 ∀(j:J)(w:World)(vs:Array Value),Rel j M w->sV j M w->args.length=vs.size->(∀(i:Nat)(c:ag)(v:Value),args[i]?=some c->vs[i]?=some v->gn j M w c v) ->
  Calls P f vs w fun e w'=>∃v j',e = .returned v/\Rel j' x.2 w'/\Ext j M w j' x.2 w'/\gn j' x.2 w' x.1 v
def nN.call{P:Program}{f:Nat}{args:List ag}{M:aC}{x:ag×aC}(h:nN P f args M x):dr P f args M x:=fun j w vs h1 h2 h3 h4 =>
 (h j w _ h1 h2 h3 h4).mono fun e w' ⟨v,j',he,g1,g2,g3⟩ => .inl ⟨v,he,j',g1,g2,g3⟩
def nM(P:Program)(C:eR):Prop:=∀f a M x,C f a M=some x->lG P f=true/\dr P f a M x
section
variable {j:J} {M:aC} {w:World} {P:Program}
def iW.still{v:Value}{y:ag}(hr:Rel j M w)(h:gn j M w y v):iW j M w (y,M) v w:=⟨j,hr,Ext.refl j M w,h⟩
theorem H5{v:Value}{x:ag}(h:KA v=some x):gn j M w x v:=by
 unfold KA at h
 split at h<;>first
  |(cases h; first|exact .plain (.bool _)|exact .plain (.int _ _)|exact .plain (.str _)|exact .plain (.raw _ rfl)|exact .c0 _)
  |grind
theorem H3{iE:Nat->Nat->Prop}:∀ {vs:List Value} {l:List ag},Q4 vs=some l->l.length=vs.length/\∀(i:Nat)(c:ag)(v:Value),l[i]?=some c->vs[i]?=some v->fR w iE c v
 | [],l,h=>by
  grind [Q4]
 |v::r,l,h=>by
  simp[Q4] at h;rw[dB] at h;obtain⟨x,hx,h⟩:=h;rw[dB] at h;obtain⟨l',hl,h⟩:=h;cases h;obtain⟨h1,h2⟩:=H3 hl;refine⟨jK,fun i c u hc hu=>?_⟩
  cases i with
  |zero =>
   simp at hc hu; subst hc; subst hu;unfold abU at hx
   split at hx<;>first
    |(cases hx; first|exact .bool _|exact .int _ _|exact .str _|exact .raw _ rfl)
    |grind
  |succ i=>exact h2 i c u jK jK
theorem qF:∀ {vs:List Value} {l:List ag},tp vs=some l->l.length=vs.length/\∀(i:Nat)(c:ag)(v:Value),l[i]?=some c->vs[i]?=some v->gn j M w c v
 | [],l,h=>by
  grind [tp]
 |v::r,l,h=>by
  simp[tp] at h;rw[dB] at h;obtain⟨x,hx,h⟩:=h;rw[dB] at h;obtain⟨l',hl,h⟩:=h;injection h with h; obtain⟨h1,h2⟩:=qF hl
  grind [H5]
theorem H4{v:Value}{x:ag}(h:Q5 v=some x):gn j M w x v:=by
 unfold Q5 at h;split at h
 ·rw[dB] at h;obtain⟨l,hl,h⟩:=h;cases h;obtain⟨h1,h2⟩:=qF hl;exact .agg aJ fun i c v hc hv=>h2 i c v hc jK
 grind [H5]
theorem cT{bp:Env}{a:Act}(he:cn j M w bp a){x:Operand}{y:fX}(h:eW x=some y):gn j M w (y.ev bp) (a.eval x):=by
 unfold eW at h;split at h
 ·cases h; exact he.at' _
 ·rw[dB] at h;obtain⟨z,hz,h⟩:=h;cases h;exact H4 hz
 ·cases h;exact .func (by rfl) fun i c v hc=>dx
 ·rename_i g;rw[dB] at h;obtain⟨vs,hg,h⟩:=h;rw[dB] at h;obtain⟨l,hl,h⟩:=h;cases h;obtain⟨h1,h2⟩:=H3 (w:=w) (iE:=ow j M w) hl;refine .jC (vs:=fun k=>(vs[k]?).getD undef) fun k c hk=>?_
  have hk':=aO hk;have hv:vs[k]?=some _:=ai aJ;obtain⟨h3,h4⟩:=he.gl.g g _ k _ hg hv
  grind
theorem uu{bp:Env}{a:Act}(he:cn j M w bp a):∀ {xs:List Operand} {ys:List fX},vv xs=some ys ->
  ys.length=xs.length/\∀(i:Nat)(y:fX)(x:Operand),ys[i]?=some y->xs[i]?=some x->gn j M w (y.ev bp) (a.eval x)
 | [],ys,h=>by
  grind [vv]
 |x::r,ys,h=>by
  simp[vv] at h;rw[dB] at h;obtain⟨y,hy,h⟩:=h;rw[dB] at h;obtain⟨l,hl,h⟩:=h;injection h with h; obtain⟨h1,h2⟩:=uu he hl
  grind [cT]
def gn.jB{b:Bool}{v:Value}(h:gn j M w (.bool b) v):v = .bool b:=by cases h with|plain h=>cases h; rfl
def gn.fV{k:IntKind}{n:Int}{v:Value}(h:gn j M w (.int k n) v):v = .int k n:=by cases h with|plain h=>cases h; rfl
def gn.kB{s:List UInt8}{v:Value}(h:gn j M w (.str s) v):v = .string (bs s):=by cases h with|plain h=>cases h; rfl
theorem gn.nb{cs:List ag}{v:Value}(h:gn j M w (.agg cs) v):∃vs,v = .agg vs/\cs.length=vs.size/\∀(i:Nat)(c:ag)(u:Value),cs[i]?=some c->vs[i]?=some u->gn j M w c u:=by
 cases h with
 |plain h=>cases h
 |agg hl h=>grind
theorem gn.tQ{cs:List ag}{v:Value}(h:gn j M w (.tuple cs) v):∃vs,v = .tuple vs/\cs.length=vs.size/\∀(i:Nat)(c:ag)(u:Value),cs[i]?=some c->vs[i]?=some u->gn j M w c u:=by
 cases h with
 |plain h=>cases h
 |tuple hl h=>grind
theorem gn.rF{f:Nat}{cs:List ag}{v:Value}(h:gn j M w (.func f cs) v):∃vs,v = .func (.func f) #[] vs/\cs.length=vs.size/\∀(i:Nat)(c:ag)(u:Value),cs[i]?=some c->vs[i]?=some u->gn j M w c u:=by
 cases h with
 |plain h=>cases h
 |func hl h=>grind
theorem gn.qt{id off:Nat}{v:Value}(h:gn j M w (.ptr id off) v):∃b,id<M.length/\(∃cs,M[id]?=some (.cells cs))/\j id=some b/\v = .pointer (some ⟨b,off,none⟩):=by
 cases h with
 |plain h=>cases h
 |ptr h1 h2 h3=>grind
theorem gn.vH{id:Nat}{v:Value}(h:gn j M w (.iC id) v):∃b,(∃ks vs,M[id]?=some (.map ks vs))/\j id=some b/\v = .map (some b):=by
 cases h with
 |plain h=>cases h
 |iC h1 h2=>grind
theorem gn.DZ{id:Nat}{v:Value}(h:gn j M w (.j7 id) v):∃b,(∃s p,M[id]?=some (.nW s p))/\j id=some b/\v = .pointer (some ⟨b,0,none⟩):=by
 cases h with
 |plain h=>cases h
 |j7 h1 h2=>grind
theorem gn.Ht{f:Nat}{fs:List ag}{v:Value}(h:gn j M w (.qZ f fs) v):∃vs:Array Value,v = .func (.func f) vs #[]/\fs.length=vs.size/\∀(i:Nat)(c:ag)(v:Value),fs[i]?=some c->vs[i]?=some v->CD w (ow j M w) c v:=by
 cases h with
 |plain h=>cases h
 |qZ hl h=>grind
theorem gn.Jh{t id off:Nat}{v:Value}(h:gn j M w (.ko t id off) v):∃b:Nat,(∃cs,M[id]?=some (.cells cs))/\j id=some b/\v = .iface t (.pointer (some ⟨b,off,none⟩)):=by
 cases h with
 |plain h=>cases h
 |ko h1 h2=>grind
def gn.IV{ks vs:List ag}{v:Value}(h:gn j M w (.ki ks vs) v):∃(b:Nat) (es:Array MapEntry) (clock:Nat),v = .map (some b)/\w.heap[b]?=some (.map es clock)/\ks.length=es.size/\vs.length=es.size /\
  (∀(i:Nat)(k:ag)(e:MapEntry),ks[i]?=some k->es[i]?=some e->fR w (ow j M w) k e.key)/\∀(i:Nat)(v:ag)(e:MapEntry),vs[i]?=some v->es[i]?=some e->CD w (ow j M w) v e.val:=by
 cases h with
 |plain h=>cases h
 |ki hb hf hx hw hk hv hks hvs=>exact⟨_,_,_,rfl,hw,hk,hv,hks,hvs⟩
def gn.nk{id ver sz lo hi:Nat}{v:Value}(h:gn j M w (.cD id ver sz lo hi) v):((∃b off c,v = .slice (some ⟨b,off,none⟩) (hi-lo) c/\hi-lo<=c)\/hi-lo=0/\∃A,v = .slice A 0 0)/\id<M.length/\(∀bx,M[id]?=some bx->bx.loose=true) /\
  ∀sz' v' xs,M[id]?=some (.arr sz' v' xs)->ver<=v'/\(v'=ver->sz'=sz/\lo<=hi/\hi<=xs.length/\((xs=[]/\j id=none/\∃A,v = .slice A 0 0)\/∃b cap vs t,j id=some b/\v = .slice (some ⟨b,lo*sz,none⟩) (hi-lo) cap/\hi-lo<=cap/\w.heap[b]?=some (.cells vs t (0,0))/\(lo+cap)*sz<=vs.size)):=by
 cases h with
 |plain h=>cases h
 |cD h0 h1 h2 h3=>exact⟨h0,h1,h2,h3⟩
theorem gn.zD{id ver sz lo hi:Nat}{v:Value}(h:gn j M w (.cD id ver sz lo hi) v):∃A cap,v = .slice A (hi-lo) cap:=by
 rcases h.nk.1 with ⟨b,off,c,e,_⟩|⟨e,A,e'⟩
 ·grind
 grind
def gn.Yr{id ver sz lo hi:Nat}{v:Value}(h:gn j M w (.cD id ver sz lo hi) v)(hne:lo<hi):∃b off c,v = .slice (some ⟨b,off,none⟩) (hi-lo) c/\hi-lo<=c :=
 h.nk.1.resolve_right fun e=>aJ
def gn.sH{id ver i off:Nat}{v:Value}(h:gn j M w (.jv id ver i off) v):(∃b o,v = .pointer (some ⟨b,o,none⟩))/\id<M.length/\(∀bx,M[id]?=some bx->bx.loose=true) /\
  ∀sz v' xs,M[id]?=some (.arr sz v' xs)->ver<=v'/\(v'=ver->i<xs.length/\∃b,j id=some b/\v = .pointer (some ⟨b,i*sz+off,none⟩)):=by
 cases h with
 |plain h=>cases h
 |jv h0 h1 h2 h3=>exact⟨h0,h1,h2,h3⟩
def gn.uz{cs:List ag}{v:Value}(h:gn j M w (.jC cs) v):∃(b off:Nat) (vs:Nat->Value),v = .pointer (some ⟨b,off,none⟩) /\
  ∀(k:Nat)(c:ag),cs[k]?=some c->w.cell? ⟨b,off+k,none⟩=some (vs k)/\ow j M w b (off+k)/\fR w (ow j M w) c (vs k):=by
 cases h with
 |plain h=>cases h
 | @jC _ b off vs h=>exact⟨b,off,vs,rfl,h⟩
def fR.nil(iE:Nat->Nat->Prop)(A:Option Addr)(cap:Nat):fR w iE (.slice .sh []) (.slice A 0 cap) :=
 .slice _ A 0 _ 0 0 0 (fun _=>undef) rfl (cS _) (fun h=>absurd rfl h) (fun x h=>jK) (fun i x k c h=>jK) (fun i x k c h=>jK)
def gn.ep{tk:Tk}{xs:List ag}{v:Value}(h:gn j M w (.slice tk xs) v):fR w (ow j M w) (.slice .sh xs) v:=by
 cases h with
 |plain h=>cases h with|slice=>exact .slice _ _ _ _ _ _ _ _ aJ aJ aJ aJ aJ aJ
 |c0 A=>simp[fR.nil]
 |own _ _ h _=>omega
def fR.ep{iE:Nat->Nat->Prop}{xs:List ag}{v:Value}(h:fR w iE (.slice .sh xs) v):∃(A:Option Addr) (cap b off sz:Nat) (vs:Nat->Value),v = .slice A xs.length cap/\xs.length<=cap/\(xs≠[]->A=some ⟨b,off,none⟩) /\
  (∀x,x∈xs->x.cells.length=sz)/\(∀(i:Nat)(x:ag)(k:Nat)(c:ag),xs[i]?=some x->x.cells[k]?=some c->w.cell? ⟨b,off+(i*sz+k),none⟩=some (vs (i*sz+k))/\iE b (off+(i*sz+k))) /\
  (∀(i:Nat)(x:ag)(k:Nat)(c:ag),xs[i]?=some x->x.cells[k]?=some c->fR w iE c (vs (i*sz+k))):=by
 cases h with
 |slice _ A len cap b off sz vs hl hc ha hz hs hr=>subst hl; exact⟨A,cap,b,off,sz,vs,rfl,hc,ha,hz,hs,hr⟩
end
def rj(P:Program)(o:Oper)(a:Act)(w:World)(v:Value)(w':World):Prop :=
 (execOp a.eval o).run P w = .ok (.value v) w'\/((execOp a.eval o).run P w = .ok .skip w'/\v=undef)
theorem bf{α β:Type}{x:Option α}{f:α->Option β}{y:β}(h:x.bind f=some y):∃a,x=some a/\f a=some y:=by
 cases x<;>grind
section
variable {P:Program} {C:eR} {o:Oper} {bp:Env} {M:aC} {j:J} {w:World} {a:Act} {x:ag×aC}
def ec{t:TypeId}{d:TypeDesc}(h:P.underlying t=some d):(underlying t).run P w = .ok d w:=by simp[underlying,h]
def pW{t:TypeId}{i:TypeInfo}(h:P.info? t=some i):(typeInfo t).run P w = .ok i w:=by simp[typeInfo,h]
theorem EM{t:TypeId}{n:Nat}(h:qE P t=some n):∃i,P.info? t=some i/\i.size=n:=by
 obtain⟨i,h1,h2⟩:=bf h
 grind
def jr{t:TypeId}{n:Nat}(h:qE P t=some n):(sizeOf t).run P w = .ok n w:=by
 obtain⟨i,h1,h2⟩:=EM h;simp_all [sizeOf,pW]
def lK{t:TypeId}{g:Bool}(h:CE P t=some g):(isAgg t).run P w = .ok g w:=by
 obtain⟨d,h1,h2⟩:=bf h;injection h2 with h2
 subst h2;simp[isAgg,ec h1];cases d<;>rfl
def lR(b off n:Nat):(⟨b,off,none⟩:Addr).add n=⟨b,off+n,none⟩:=by
 simp[Addr.add]
def Ae(hr:Rel j M w)(he:cn j M w bp a){y:Operand}{z:fX}(hop:o.op = .move y\/o.op = .assign y)(hz:eW y=some z)(h:ei C bp M (.mv z)=some x) :
  ∃v w',rj P o a w v w'/\iW j M w x v w':=by
 cases h;exact⟨a.eval y,w,.inl (by rcases hop with hop|hop<;>simp[execOp,hop]),.still hr (cT he hz)⟩
theorem aa5(hr:Rel j M w)(he:cn j M w bp a){c p q:Operand}{c' p' q':fX}(hop:o.op = .pick c p q)(hc:eW c=some c')(hp:eW p=some p')(hq:eW q=some q')
  (h:ei C bp M (.pick c' p' q')=some x):∃v w',rj P o a w v w'/\iW j M w x v w':=by
 simp[ei] at h;have h1:=cT he hc;split at h
 ·rename_i t ht;rw[ht] at h1;have h1:=h1.jB;rcases lI h with ⟨rfl,h⟩|⟨rfl,h⟩<;>(cases h)
  ·exact⟨a.eval p,w,.inl (by simp_all [execOp,asBool]),.still hr (cT he hp)⟩
  ·exact⟨a.eval q,w,.inl (by simp_all [execOp,asBool]),.still hr (cT he hq)⟩
 grind
theorem ahC(hr:Rel j M w)(he:cn j M w bp a){y:Operand}{z:fX}(hop:o.op = .nilCheck y)(hz:eW y=some z)(h:ei C bp M (.chk z)=some x) :
  ∃v w',rj P o a w v w'/\iW j M w x v w':=by
 simp[ei] at h;have h1:=cT he hz;split at h
 ·rename_i id off e;cases h;rw[e] at h1;obtain⟨b,_,_,_,hv⟩:=h1.qt;exact⟨_,w,.inl (by simp_all [execOp]),.still hr (hv▸h1)⟩
 ·rename_i cs e;cases h;rw[e] at h1;obtain⟨b,off,vs,hv,_⟩:=h1.uz;exact⟨_,w,.inl (by simp_all [execOp]),.still hr (hv▸h1)⟩
 ·rename_i f caps e;cases h;rw[e] at h1;obtain⟨vs,hv,_⟩:=h1.rF;exact⟨_,w,.inl (by simp_all [execOp]),.still hr (hv▸h1)⟩
 ·rename_i id v0 i off e;cases h;rw[e] at h1;obtain⟨⟨b,q,hv⟩,_⟩:=h1.sH;exact⟨_,w,.inl (by simp_all [execOp]),.still hr (hv▸h1)⟩
 grind
theorem ahE(hr:Rel j M w)(he:cn j M w bp a){y:Operand}{z:fX}{t:TypeId}(hop:o.op = .unOp .not t y)(hz:eW y=some z)(h:ei C bp M (.not z)=some x) :
  ∃v w',rj P o a w v w'/\iW j M w x v w':=by
 simp[ei] at h;have h1:=cT he hz;split at h
 ·rename_i b e;cases h;rw[e] at h1;exact⟨_,w,.inl (by simp[execOp,hop,h1.jB]; rfl),.still hr (.plain (.bool _))⟩
 grind
theorem ahD(hr:Rel j M w)(he:cn j M w bp a){y:Operand}{z:fX}{t:TypeId}(hop:o.op = .unOp .neg t y)(hz:eW y=some z)(h:ei C bp M (.neg z)=some x) :
  ∃v w',rj P o a w v w'/\iW j M w x v w':=by
 simp only[ei] at h;have h1:=cT he hz;split at h
 ·rename_i k n e;cases h;rw[e] at h1;exact⟨_,w,.inl (by simp only[execOp,hop,h1.fV]; rfl),.still hr (.plain (.int _ _))⟩
 grind
theorem aaX(hr:Rel j M w)(he:cn j M w bp a){y:Operand}{z:fX}{s d:TypeId}{k0 k:IntKind}(hop:o.op = .convert s d y)(hs:P.underlying s=some (.int k0))(hd:P.underlying d=some (.int k))
  (hz:eW y=some z) (h:ei C bp M (.conv k z)=some x):∃v w',rj P o a w v w'/\iW j M w x v w':=by
 simp[ei] at h;have h1:=cT he hz;split at h
 ·rename_i k1 n e;cases h;rw[e] at h1;refine⟨.int k _,w,.inl ?_,.still hr (.plain (.int _ _))⟩;simp[execOp,hop,convert,ec hs,ec hd,h1.fV,Conv.intToInt]
 grind
theorem aa7(hr:Rel j M w)(he:cn j M w bp a){y:Operand}{z:fX}{s d:TypeId}(hop:o.op = .convert s d y)(hs:P.underlying s=some .string)(hd:P.underlying d=some .string)
  (hz:eW y=some z) (h:ei C bp M (.same z)=some x):∃v w',rj P o a w v w'/\iW j M w x v w':=by
 simp[ei] at h;have h1:=cT he hz;split at h
 ·rename_i l e;cases h;rw[e] at h1;refine⟨.string _,w,.inl ?_,.still hr (.plain (.str _))⟩;simp[execOp,hop,convert,ec hs,ec hd,h1.kB]
 grind
theorem anJ(hr:Rel j M w)(he:cn j M w bp a){f:Nat}{first caps:Array Operand}{zs:List fX}(hop:o.op = .makeFunc (.func f) first caps)(hf:first.isEmpty=true)(hz:vv caps.toList=some zs)
  (h:ei C bp M (.fn f zs)=some x):∃v w',rj P o a w v w'/\iW j M w x v w':=by
 cases h;obtain⟨h1,h2⟩:=uu he hz;have hf':first = #[]:=jK
 refine⟨.func _ _ (caps.map a.eval),w,.inl ?_,.still hr (.func jK fun i c v hc hv=>?_)⟩
 ·simp[execOp,hop,Instr.makeFunc,hf']
 grind
theorem L5(hr:Rel j M w)(he:cn j M w bp a){y:Operand}{z:fX}{i:Nat}(hop:o.op = .extract y i)(hz:eW y=some z)(h:ei C bp M (.extract z i)=some x) :
  ∃v w',rj P o a w v w'/\iW j M w x v w':=by
 simp[ei] at h;have h1:=cT he hz;split at h
 ·rename_i vs e;obtain⟨c,hc,h⟩:=bo h;cases h;rw[e] at h1;obtain⟨us,hv,hl,hu⟩:=h1.tQ;rw[fc] at hc;have hi:=aO hc;have hui:us[i]?=some _:=bg aJ;exact⟨_,w,.inl (by simp[execOp,hop,Instr.extract,hv,hui]),.still hr (hu i c _ hc hui)⟩
 grind
theorem aa0(hr:Rel j M w)(he:cn j M w bp a){c:Call}{y:Operand}{z:fX}{t:TypeId}(hop:o.op = .call c)(hb:c.callee = .builtin .len)(ha:c.args.toList=[y])
  (ht:c.argTypes[0]?=some t) (hs:P.underlying t=some .string) (hz:eW y=some z) (h:ei C bp M (.VC z)=some x):∃v w',rj P o a w v w'/\iW j M w x v w':=by
 simp only[ei] at h;have h1:=cT he hz;split at h
 ·rename_i l e;cases h;rw[e] at h1;have ha':c.args = #[y]:=by rw[<-ha]
  refine⟨.int .i64 _,w,.inl ?_,.still hr (.plain (.int _ _))⟩;have hsz:(bs l).size=l.length:=by rfl
  simp[execOp,hop,resolve,hb,invoke,builtin,Builtin.len_,ha',ht,ec hs,h1.kB,goInt,hsz]
 grind
theorem aa1(hr:Rel j M w)(he:cn j M w bp a){c:Call}{y:Operand}{z:fX}{t e:TypeId}(hop:o.op = .call c)(hb:c.callee = .builtin .len)(ha:c.args.toList=[y])
  (ht:c.argTypes[0]?=some t) (hs:P.underlying t=some (.slice e)) (hz:eW y=some z) (h:ei C bp M (.z6 z)=some x):∃v w',rj P o a w v w'/\iW j M w x v w':=by
 simp only[ei] at h;have h1:=cT he hz;split at h
 ·rename_i tk l e;cases h;rw[e] at h1;have ha':c.args = #[y]:=by rw[<-ha]
  obtain⟨A,cap,b,off,sz,vs,hv,_⟩:=h1.ep.ep;refine⟨.int .i64 l.length,w,.inl ?_,.still hr (.plain (.int _ _))⟩;simp[execOp,hop,resolve,hb,invoke,builtin,Builtin.len_,ha',ht,ec hs,hv,goInt]
 ·rename_i id v0 sz lo hi e;cases h;rw[e] at h1;have ha':c.args = #[y]:=by rw[<-ha]
  obtain⟨A,cap,hv⟩:=h1.zD;refine⟨.int .i64 (hi-lo:Nat),w,.inl ?_,.still hr (.plain (.int _ _))⟩;simp[execOp,hop,resolve,hb,invoke,builtin,Builtin.len_,ha',ht,ec hs,hv,goInt]
 grind
theorem Gl(hr:Rel j M w)(he:cn j M w bp a){c:Call}{y y':Operand}{z z':fX}{mx:Bool}(hop:o.op = .call c)(hb:c.callee = .builtin (if mx then .max else .min))(ha:c.args.toList=[y,y'])
  (hz:eW y=some z) (hz':eW y'=some z') (h:ei C bp M (.Bq mx z z')=some x):∃v w',rj P o a w v w'/\iW j M w x v w':=by
 simp only[ei] at h;have h1:=cT he hz;have h2:=cT he hz';split at h
 ·rename_i k n k' n' e e';cases h;rw[e] at h1;rw[e'] at h2;have ha':c.args = #[y,y']:=by rw[<-ha]
  refine⟨_,w,.inl ?_,.still hr (.plain (.int _ _))⟩;cases mx
  ·simp[execOp,hop,resolve,hb,invoke,builtin,Builtin.min_,Builtin.min2,ha',h1.fV,h2.fV,List.foldlM]
  ·simp[execOp,hop,resolve,hb,invoke,builtin,Builtin.max_,Builtin.max2,ha',h1.fV,h2.fV]
 grind
theorem PY(hr:Rel j M w)(he:cn j M w bp a){y i:Operand}{z z':fX}{t:TypeId}(hop:o.op = .index t y i)(ht:P.underlying t=some .string)(hz:eW y=some z)(hz':eW i=some z')
  (h:ei C bp M (.Bf z z')=some x):∃v w',rj P o a w v w'/\iW j M w x v w':=by
 simp only[ei] at h;have h1:=cT he hz;have h2:=cT he hz';split at h
 ·rename_i l k n e e';obtain⟨hn,h⟩:=dq h;obtain⟨b,hb,h⟩:=bo h;cases h;rw[e] at h1;rw[e'] at h2;refine⟨.int .u8 b.toNat,w,.inl ?_,.still hr (.plain (.int _ _))⟩
  have hg:(bs l)[n.toNat]?=some b:=by
   have cJ:=aO hb;have:n.toNat<(bs l).size:=by simp_all [bs,ByteArray.size]
   rw[getElem?_pos (bs l) n.toNat this];congr 1
   have h3:l[n.toNat]=b:=by
    have:=ai cJ
    grind
   exact h3
  simp[execOp,hop,Instr.index,asIntOf,ec ht,h1.kB,h2.fV,hn,hg]
 ·cases h
theorem PV(hr:Rel j M w)(he:cn j M w bp a){y:Operand}{z:fX}{s:TypeId}{fs:Array Field}{f:Field}{i:Nat}(hop:o.op = .field s y i)(hs:P.underlying s=some (.struct fs))(hf:fs[i]?=some f)
  (hg:CE P f.type=some false) (hz:eW y=some z) (h:ei C bp M (.DF f.offset z)=some x):∃v w',rj P o a w v w'/\iW j M w x v w':=by
 simp[ei] at h;have h1:=cT he hz;split at h
 ·rename_i cs e;obtain⟨c,hc,h⟩:=bo h;cases h;rw[e] at h1;obtain⟨us,hv,hl,hu⟩:=h1.nb;rw[fc] at hc;have hi:=aO hc;have hui:us[f.offset]?=some _:=bg aJ;refine⟨_,w,.inl ?_,.still hr (hu _ c _ hc hui)⟩;simp[execOp,hop,Instr.field,ec hs,hf,asAgg,hv,part,lK hg,hui]
 grind
theorem PW(hr:Rel j M w)(he:cn j M w bp a){y:Operand}{z:fX}{s:TypeId}{fs:Array Field}{f:Field}{i n:Nat}(hop:o.op = .field s y i)(hs:P.underlying s=some (.struct fs))(hf:fs[i]?=some f)
  (hg:CE P f.type=some true) (hn:qE P f.type=some n) (hz:eW y=some z) (h:ei C bp M (.DG f.offset n z)=some x):∃v w',rj P o a w v w'/\iW j M w x v w':=by
 simp only[ei] at h;have h1:=cT he hz;split at h
 ·rename_i cs e;split at h
  ·cases h;rw[e] at h1;obtain⟨us,hv,hl,hu⟩:=h1.nb;refine⟨.agg (us.extract f.offset (f.offset+n)),w,.inl ?_,.still hr (.agg jK fun p c u hc hu'=>?_)⟩
   ·simp[execOp,hop,Instr.field,ec hs,hf,asAgg,hv,part,lK hg,jr hn]
   grind
  ·cases h
 ·cases h
theorem Ws(hr:Rel j M w)(he:cn j M w bp a){y:Operand}{z:fX}{s:TypeId}{fs:Array Field}{f:Field}{i:Nat}(hop:o.op = .fieldAddr s y i)(hs:P.underlying s=some (.struct fs))(hf:fs[i]?=some f)
  {n:Nat} (hn:qE P f.type=some n) (hpos:0<n) (hz:eW y=some z) (h:ei C bp M (.yE f.offset z)=some x):∃v w',rj P o a w v w'/\iW j M w x v w':=by
 simp only[ei] at h;have h1:=cT he hz
 have hrun:∀b off,a.eval y = .pointer (some ⟨b,off,none⟩)->(execOp a.eval o).run P w = .ok (.value (.pointer (some ⟨b,off+f.offset,none⟩))) w:=by
  intro b off hv;have hne:n≠0:=aJ;simp[execOp,hop,Instr.fieldAt,ec hs,hf,Instr.sureAddr,hv,fieldPlace,jr hn,hne,lR]
 split at h
 ·rename_i id off e;cases h;rw[e] at h1;obtain⟨b,h2,h3,h4,hv⟩:=h1.qt;exact⟨_,w,.inl (hrun _ _ hv),.still hr (.ptr h2 h3 h4)⟩
 ·rename_i cs e;cases h;rw[e] at h1;obtain⟨b,off,vs,hv,hc⟩:=h1.uz;refine⟨_,w,.inl (hrun _ _ hv),.still hr (.jC (vs:=fun k=>vs (f.offset+k)) fun k c hk=>?_)⟩
  rw[cF] at hk;have:=hc _ c hk;rw[Nat.add_assoc];omega
 ·rename_i id v0 i0 o0 e;cases h;rw[e] at h1;obtain⟨⟨b,q,hv⟩,h2,h3,h4⟩:=h1.sH;refine⟨_,w,.inl (hrun _ _ hv),.still hr (.jv ⟨_,_,rfl⟩ h2 h3 fun sz v' xs hM=>?_)⟩
  grind
 grind
end
theorem YG(l:List UInt8):∀(n i:Nat)(acc:List UInt8),i+n=l.length->ByteArray.toList.loop (bs l) i acc=acc.reverse++l.drop i:=by
 intro n;induction n with
 |zero =>
  simp_all [bs,ByteArray.size,ByteArray.toList.loop]
 |succ n ih =>
  intro i acc h;have hs:(bs l).size=l.length:=by rfl
  rw[ByteArray.toList.loop,aZ aJ]
  grind [bs,ByteArray.get!,List.reverse_cons,List.append_assoc,List.singleton_append,List.drop_eq_getElem_cons]
def vt(l:List UInt8):(bs l).toList=l:=by
 rw[ByteArray.toList,YG l l.length 0 _ dx]; rfl
def MC(l:List UInt8):(bs l).size=l.length:=by rfl
def Ka:∀a b:List UInt8,Op.bytesLess a b=strLt a b
 | [],[]=>rfl
 | [],_::_=>rfl
 |_::_,[]=>rfl
 |a::x,b::y=>by simp[Op.bytesLess,strLt,Ka x y]
def yV(a:List UInt8)(l h:Nat):(bs a).extract l h=bs ((a.take h).drop l):=by
 apply ByteArray.ext;simp[bs,List.drop_take]
section
variable {P:Program} {C:eR} {o:Oper} {bp:Env} {M:aC} {j:J} {w:World} {a:Act} {x:ag×aC}
def Pn(op:BinOp)(t:TypeId)(y z:Operand)(k k':IntKind)(m n:Int):(eqGuard op t y z (.int k m) (.int k' n)).run P w = .ok () w:=by
 simp[eqGuard]
def Po(op:BinOp)(t:TypeId)(y z:Operand)(m n:ByteArray):(eqGuard op t y z (.string m) (.string n)).run P w = .ok () w:=by
 simp[eqGuard]
def DT(op:BinOp)(t:TypeId)(y z:Operand)(m n:Bool):(eqGuard op t y z (.bool m) (.bool n)).run P w = .ok () w:=by
 simp[eqGuard]
theorem YC{op:BinOp}{b:Od}(hb:OM op=some b){t:TypeId}{k k':IntKind}{m n:Int}{r:ag}(h:p7 b (.int k m) (.int k' n)=some r) :
  ∃v,(binOp op t (.int k m) (.int k' n)).run P w = .ok v w/\fR w (ow j M w) r v:=by
 cases op<;>simp only[OM,reduceCtorEq,fZ] at hb<;>subst hb<;>simp only[p7] at h
 case shl =>
  split at h
  ·rename_i hn;cases h;exact⟨_,by simp[binOp,Op.shift,Int.not_lt.2 hn],.int _ _⟩
  ·cases h
 case shr =>
  split at h
  ·rename_i hn;cases h;exact⟨_,by simp[binOp,Op.shift,Int.not_lt.2 hn],.int _ _⟩
  grind
 case quo =>
  split at h
  ·cases h
  ·rename_i hk;split at h
   ·cases h
   ·rename_i hn;cases h;have hk:k=k':=jK;subst hk;exact⟨_,by simp[binOp,Op.intDiv,hn],.int _ _⟩
 case rem =>
  split at h
  ·cases h
  ·rename_i hk;split at h
   ·cases h
   ·rename_i hn;cases h;have hk:k=k':=jK;subst hk;exact⟨_,by simp[binOp,Op.intDiv,hn],.int _ _⟩
 case and =>
  split at h
  ·cases h
  ·rename_i hk;cases h;have hk:k=k':=jK;subst hk;exact⟨_,by simp[binOp,Op.intBits]; rfl,.int _ _⟩
 case or =>
  split at h
  ·grind
  ·rename_i hk;cases h;have hk:k=k':=jK;subst hk;exact⟨_,by simp[binOp,Op.intBits]; rfl,.int _ _⟩
 case andNot =>
  split at h
  ·grind
  ·rename_i hk;cases h;have hk:k=k':=jK;subst hk;exact⟨.int k (Hh k m n),by simp[binOp,Op.intBits,Hh],.int _ _⟩
 all_goals
  split at h
  ·cases h
  ·rename_i hk;cases h;have hk:k=k':=by simpa using hk
   subst hk
   first
    |exact⟨_,by simp[binOp,Op.intArith],.int _ _⟩
    |exact⟨_,by simp[binOp,Op.intCmp],.bool _⟩
theorem YD{op:BinOp}{b:Od}(hb:OM op=some b){t:TypeId}{m n:List UInt8}{r:ag}(h:p7 b (.str m) (.str n)=some r) :
  ∃v,(binOp op t (.string (bs m)) (.string (bs n))).run P w = .ok v w/\fR w (ow j M w) r v:=by
 cases op<;>simp only[OM,reduceCtorEq,fZ] at hb<;>subst hb<;>simp only[p7,reduceCtorEq] at h
 case add =>
  split at h
  ·grind
  ·cases h;refine⟨.string (bs m++bs n),?_,by exact .str _⟩
   simp_all [binOp,Op.stringOp,MC,aR]
 all_goals
  cases h;exact⟨_,by simp only[binOp,Op.stringOp,vt,Ka]; rfl,.bool _⟩
def Wl(hr:Rel j M w)(he:cn j M w bp a){op:BinOp}{b:Od}{y y':Operand}{z z':fX}{t t':TypeId}(hop:o.op = .binOp op t y y' t')(hb:OM op=some b)(hz:eW y=some z)(hz':eW y'=some z')
  (h:ei C bp M (.bin b z z')=some x):∃v w',rj P o a w v w'/\iW j M w x v w':=by
 simp only[ei] at h;have h1:=cT he hz;have h2:=cT he hz';obtain⟨r,hr',h⟩:=bo h;cases h;generalize hu:z.ev bp=u at *;generalize hu':z'.ev bp=u' at *;cases u<;>cases u'<;>try (simp[p7] at hr'; done)
 ·rename_i k m k' n;obtain⟨v,hv,hp⟩:=YC (P:=P) (w:=w) (j:=j) (M:=M) (t:=t) hb hr';exact⟨v,w,.inl (by simp[execOp,hop,h1.fV,h2.fV,Pn,hv]),.still hr (.plain hp)⟩
 ·rename_i m n;obtain⟨v,hv,hp⟩:=YD (P:=P) (w:=w) (j:=j) (M:=M) (t:=t) hb hr';exact⟨v,w,.inl (by simp[execOp,hop,h1.kB,h2.kB,Po,hv]),.still hr (.plain hp)⟩
theorem Wr(hr:Rel j M w)(he:cn j M w bp a){neg:Bool}{y y':Operand}{z z':fX}{t t':TypeId}(hop:o.op = .binOp (if neg then .neq else .eql) t y y' t')(ht:P.underlying t=some .bool)
  (hz:eW y=some z) (hz':eW y'=some z') (h:ei C bp M (.eqB neg z z')=some x):∃v w',rj P o a w v w'/\iW j M w x v w':=by
 simp only[ei] at h;have h1:=cT he hz;have h2:=cT he hz';split at h
 ·rename_i m n e e';cases h;rw[e] at h1;rw[e'] at h2
  have heq:(Op.equal t (.bool m) (.bool n)).run P w = .ok (m==n) w:=by
   unfold Op.equal;rw[show Op.maxDepth=9999+1 from rfl,Op.equalIn]
   simp[ec ht]
  cases neg
  ·exact⟨.bool (m==n),w,.inl (by simp[execOp,hop,h1.jB,h2.jB,DT,binOp,heq]),.still hr (.plain (.bool _))⟩
  ·exact⟨.bool (!(m==n)),w,.inl (by simp[execOp,hop,h1.jB,h2.jB,DT,binOp,heq]),.still hr (.plain (.bool _))⟩
 grind
theorem qV{bp:Env}{a:Act}(he:cn j M w bp a){y:Operand}{z:fX}(hz:eW y=some z){n:Nat}{i:Int}(h:gD bp n (some z)=some i){m:Nat}(h0:0<=i)(h1:i<=m)(code:BoundsCode) :
  (Instr.sliceBound (a.eval y) m code).run P w = .ok i.toNat w:=by
 unfold gD at h;have h2:=cT he hz;simp at h;split at h
 ·rename_i k i' e;cases h;rw[e] at h2;simp[Instr.sliceBound,h2.fV,asIntOf,h0,h1]
 grind
theorem qH{y:Option Operand}{z:Option fX}(h:yW y=some z):(y=none/\z=none)\/∃y' z',y=some y'/\z=some z'/\eW y'=some z':=by
 cases y with
 |none=>grind [yW]
 |some y =>
  obtain⟨z',h1,h2⟩:=bf h
  grind
def wa{bp:Env}{a:Act}(he:cn j M w bp a){lo hi:Option Operand}{lo' hi':Option fX}(hlo:yW lo=some lo')(hhi:yW hi=some hi'){len cap:Nat}{l h:Int}
  (h1:gD bp len hi'=some h) (h2:gD bp 0 lo'=some l) (hh0:0<=h) (hh:h<=len) (hl0:0<=l) (hl:l<=h) (hc:len<=cap) (isS:Bool) :
  (Instr.sliceBounds isS len cap (lo.map a.eval) (hi.map a.eval) none).run P w = .ok (l.toNat,h.toNat,cap) w:=by
 unfold Instr.sliceBounds;rcases qH hhi with ⟨rfl,rfl⟩|⟨y,z,rfl,rfl,hz⟩<;>rcases qH hlo with ⟨rfl,rfl⟩|⟨y',z',rfl,rfl,hz'⟩
 ·simp[gD] at h1 h2; subst h1; subst h2; rfl
 ·simp[gD] at h1; subst h1;have:=qV (P:=P) he hz' h2 hl0 aJ .sliceB;simp_all
 ·simp[gD] at h2; subst h2;have:=qV (P:=P) he hz h1 hh0 (m:=cap) aJ (if isS then .sliceAcap else .sliceAlen)
  simp_all
 ·have t1:=qV (P:=P) he hz h1 hh0 (m:=cap) aJ (if isS then .sliceAcap else .sliceAlen)
  have t2:=qV (P:=P) he hz' h2 hl0 (m:=h.toNat) aJ .sliceB;simp_all
theorem PZ(hr:Rel j M w)(he:cn j M w bp a){y:Operand}{lo hi:Option Operand}{z:fX}{lo' hi':Option fX}{t:TypeId}(hop:o.op = .slice t y lo hi none)(ht:P.underlying t=some .string)
  (hz:eW y=some z) (hlo:yW lo=some lo') (hhi:yW hi=some hi') (h:ei C bp M (.BD z lo' hi')=some x):∃v w',rj P o a w v w'/\iW j M w x v w':=by
 simp[ei] at h;have h1:=cT he hz;split at h
 ·rename_i s e;obtain⟨hh,h2,h⟩:=bo h;obtain⟨l,h3,h⟩:=bo h;obtain⟨⟨c1,c2,c3,c4⟩,h⟩:=dq h;cases h;rw[e] at h1;have hb:=wa (P:=P) he hlo hhi h2 h3 c1 c2 c3 c4 (au _) false;refine⟨.string _,w,.inl ?_,.still hr (.plain (.str _))⟩;simp[execOp,hop,Instr.sliceAt,ec ht,Instr.slice,h1.kB,MC,hb,yV]
 grind
theorem fR.part{iE:Nat->Nat->Prop}{xs:List ag}{A:Option Addr}{cap m l h n:Nat}(hx:fR w iE (.slice .sh xs) (.slice A xs.length cap))(hw:wid xs n)(hl:l<=h)(hh:h<=xs.length)(hm:h<=m) :
  fR w iE (.slice .sh ((xs.take h).drop l)) (.slice (if m=l then A else A.map (·.add (l*n))) (h-l) (m-l)):=by
 obtain⟨A',cap',b,off,sz,vs,hv,hc,ha,hz,hs,hrp⟩:=hx.ep;injection hv with e1 e2 e3
 subst e1; subst e3;have dQ:((xs.take h).drop l).length=h-l:=by simp_all
 refine .slice _ _ _ _ b (off+l*sz) sz (fun p=>vs (l*sz+p)) dQ.symm aJ (fun hne=>?_) (fun x hx=>hz x (dS (dA hx))) (fun i x k c hi hk=>?_) (fun i x k c hi hk=>?_)
 ·have:0<h-l:=by
   rw[<-dQ]; exact gS.2 hne
  rw[aR aJ];have hne':xs≠[]:=jK;rw[ha hne']
  have:n=sz:=by
   obtain⟨x,r,rfl⟩:=fj hne';rw[<-hw x dx,hz x dx]
  simp[lR,this]
 ·grind
 grind
theorem aaY(hr:Rel j M w)(he:cn j M w bp a){y:Operand}{lo hi mx:Option Operand}{z hi':fX}{t e:TypeId}{n:Nat}(hop:o.op = .slice t y lo hi mx)(ht:P.underlying t=some (.slice e))
  (hn:qE P e=some n) (hz:eW y=some z) (hlo:yW lo=some none) (hhi:yW hi=some (some hi')) (hmx:yW mx=some none)
  (h:ei C bp M (.O0 n z hi')=some x):∃v w',rj P o a w v w'/\iW j M w x v w':=by
 simp only[ei] at h;have h1:=cT he hz;split at h
 ·rename_i id v0 sz' al ah k hh ez eh;obtain⟨⟨hsz,ha,c1,c2⟩,h⟩:=dq h;cases h;subst hsz; subst ha;rw[ez] at h1;obtain⟨hs0,g1,g2,g3⟩:=h1.nk
  obtain⟨A,cap,hv,hc,hA⟩:∃A cap,a.eval y = .slice A (ah-0) cap/\ah-0<=cap/\(0<ah-0->∃b off,A=some ⟨b,off,none⟩):=by
   grind
  obtain⟨b,off,rfl⟩:=hA aJ;rcases qH hmx with ⟨rfl,_⟩|⟨_,_,_,hx,_⟩
  case inr=>cases hx
  have h2:gD bp (ah-0) (some hi')=some hh:=by simp[gD,eh]
  have hb:=wa (P:=P) he hlo hhi (cap:=cap) h2 (l:=0) (by simp[gD]) c1 aJ (dU _) c1 hc true
  rw[bP] at hb
  have hrun:(execOp a.eval o).run P w = .ok (.value (.slice (some ⟨b,off,none⟩) hh.toNat cap)) w:=by
   simp[execOp,hop,Instr.sliceAt,ec ht,Instr.slice,hv,hb,jr hn,lR,show cap≠0 by omega]
  refine⟨_,w,.inl hrun,.still hr ?_⟩;refine .cD (.inl ⟨b,off,cap,dx,aJ⟩) g1 g2 fun sz v' xs hM=>?_
  obtain⟨k1,k2⟩:=g3 sz v' xs hM;refine⟨k1,fun hev=>?_⟩
  obtain⟨l0,l1,l2,⟨rfl,_⟩|⟨b',cap',vs,t',l3,l4,l5,l6,l7⟩⟩:=k2 hev
  ·simp at l2; omega
  rw[hv] at l4;injection l4 with l4 l4' l4''
  injection l4 with l4; injection l4 with e1 e2 e3
  subst e1; subst e2; subst l4'';exact⟨l0,aJ,aJ,.inr ⟨b,cap,vs,t',l3,dx,aJ,l6,l7⟩⟩
 ·cases h
theorem Gm(hr:Rel j M w)(he:cn j M w bp a){y:Operand}{lo hi mx:Option Operand}{z:fX}{lo' hi' mx':Option fX}{t e:TypeId}{n:Nat}(hop:o.op = .slice t y lo hi mx)(ht:P.underlying t=some (.slice e))
  (hn:qE P e=some n) (hz:eW y=some z) (hlo:yW lo=some lo') (hhi:yW hi=some hi') (hmx:yW mx=some mx') (hmh:mx'.isNone=true\/hi'.isSome=true)
  (h:ei C bp M (.uA n z lo' hi' mx')=some x):∃v w',rj P o a w v w'/\iW j M w x v w':=by
 simp only[ei] at h;have h1:=cT he hz;split at h
 ·rename_i tk xs ez;obtain⟨hw,h⟩:=dq h;obtain⟨hh,h2,h⟩:=bo h;obtain⟨l,h3,h⟩:=bo h;rw[ez] at h1;have hp:=h1.ep;obtain⟨A,cap,b,off,sz,vs,hv,hc,_⟩:=hp.ep;rw[hv] at hp;rcases qH hmx with ⟨rfl,rfl⟩|⟨my,mz,rfl,rfl,hmz⟩
  ·simp only at h;obtain⟨⟨c1,c2,c3,c4⟩,h⟩:=dq h;cases h;have hb:=wa (P:=P) he hlo hhi (cap:=cap) h2 h3 c1 c2 c3 c4 hc true;refine⟨_,w,.inl ?_,.still hr (.plain (hp.part (m:=cap) (l:=l.toNat) (h:=hh.toNat) hw aJ aJ aJ))⟩;simp[execOp,hop,Instr.sliceAt,ec ht,Instr.slice,hv,hb,jr hn]
  ·simp only at h;split at h
   ·rename_i mk m em;obtain⟨⟨c0,c0',c1,c2,c3,c4⟩,h⟩:=dq h;have hm:=cT he hmz;rw[em] at hm
    have hmr:(Instr.sliceBound (a.eval my) cap .slice3Acap).run P w = .ok m.toNat w:=by
     simp[Instr.sliceBound,hm.fV,asIntOf,c0,show m<=cap by omega]
    have hbs:(Instr.sliceBounds true xs.length cap (lo.map a.eval) (hi.map a.eval) (some (a.eval my))).run P w = .ok (l.toNat,hh.toNat,m.toNat) w:=by
     unfold Instr.sliceBounds;rcases qH hhi with ⟨rfl,rfl⟩|⟨hy,hz',rfl,rfl,hhz⟩
     ·simp at hmh
     ·have t1:=qV (P:=P) he hhz h2 c1 (m:=m.toNat) aJ .slice3B;rcases qH hlo with ⟨rfl,rfl⟩|⟨y',z',rfl,rfl,hz'⟩
      ·simp[gD] at h3; subst h3;simp[hmr,t1]
      ·have t2:=qV (P:=P) he hz' h3 c3 (m:=hh.toNat) aJ .slice3C;simp[hmr,t1,t2]
    have hrun:(execOp a.eval o).run P w = .ok (.value (.slice (if m.toNat=l.toNat then A else A.map (·.add (l.toNat*n))) (hh.toNat-l.toNat) (m.toNat-l.toNat))) w:=by
     simp[execOp,hop,Instr.sliceAt,ec ht,Instr.slice,hv,hbs,jr hn]
    rcases lI h with ⟨hm0,h⟩|⟨hm0,h⟩<;>(cases h)
    ·have hm0:m=0:=by simpa using hm0
     subst hm0;have e1:hh=0:=aJ;have e2:l=0:=aJ;subst e1; subst e2;exact⟨_,w,.inl hrun,.still hr (.c0 _)⟩
    ·exact⟨_,w,.inl hrun,.still hr (.plain (hp.part (m:=m.toNat) hw aJ aJ aJ))⟩
   ·cases h
 ·rename_i id v0 sz' al ah ez;obtain⟨hsz,h⟩:=dq h;subst hsz;obtain⟨hh,h2,h⟩:=bo h;obtain⟨l,h3,h⟩:=bo h;rw[ez] at h1;obtain⟨hs0,g1,g2,g3⟩:=h1.nk
  obtain⟨A,cap,hv,hc,hA⟩:∃A cap,a.eval y = .slice A (ah-al) cap/\ah-al<=cap/\(0<ah-al->∃b off,A=some ⟨b,off,none⟩):=by
   grind
  have key:∀m:Nat,m<=cap->0<=l->l<hh->hh<=m->hh<=(ah-al:Nat)->gn j M w (.cD id v0 sz' (al+l.toNat) (al+hh.toNat)) (.slice (A.map (·.add (l.toNat*sz'))) (hh.toNat-l.toNat) (m-l.toNat)):=by
   intro m hmc hl0 hlh hhm hha;obtain⟨b,off,rfl⟩:=hA aJ;simp only[dZ,lR];have e0:al+hh.toNat-(al+l.toNat)=hh.toNat-l.toNat:=aJ;have e6:hh.toNat-l.toNat<=m-l.toNat:=by clear g3 g2 h1 hv; omega
   have e7:al+l.toNat+(m-l.toNat)<=al+cap:=aJ;have e8:al+l.toNat<=al+hh.toNat:=aJ;have e9:al+hh.toNat<=ah:=by clear g3 g2 h1 hv; omega
   refine .cD (.inl ⟨b,off+l.toNat*sz',m-l.toNat,by rw[e0],by rw[e0]; exact e6⟩) g1 g2 fun sz v' xs hM=>?_
   obtain⟨k1,k2⟩:=g3 sz v' xs hM;refine⟨k1,fun hev=>?_⟩
   obtain⟨l0,l1,l2,⟨rfl,_⟩|⟨b',cap',vs,t',l3,l4,l5,l6,l7⟩⟩:=k2 hev
   ·simp at l2; omega
   rw[hv] at l4;injection l4 with l4 l4' l4''
   injection l4 with l4; injection l4 with e1 e2 e3
   subst e1; subst e2; subst l4'';exact⟨l0,e8,aY e9 l2,.inr ⟨b,m-l.toNat,vs,t',l3,by rw[e0,bQ],by rw[e0]; exact e6,l6,aY (bd _ e7) l7⟩⟩
  rcases qH hmx with ⟨rfl,rfl⟩|⟨my,mz,rfl,rfl,hmz⟩
  ·simp only at h;obtain⟨⟨c1,c2,c3,c4⟩,h⟩:=dq h;have hb:=wa (P:=P) he hlo hhi (cap:=cap) h2 h3 c1 c2 c3 c4 hc true
   have hrun:(execOp a.eval o).run P w = .ok (.value (.slice (if cap=l.toNat then A else A.map (·.add (l.toNat*sz'))) (hh.toNat-l.toNat) (cap-l.toNat))) w:=by
    simp[execOp,hop,Instr.sliceAt,ec ht,Instr.slice,hv,hb,jr hn]
   rcases lI h with ⟨hm0,h⟩|⟨hm0,h⟩<;>(cases h)
   ·have:l=hh:=by simpa using hm0
    subst this;refine⟨_,w,.inl hrun,.still hr (.plain ?_)⟩;rw[Nat.sub_self];exact fR.nil _ _ _
   ·have:l≠hh:=by simpa using hm0
    rw[aR aJ] at hrun;exact⟨_,w,.inl hrun,.still hr (key cap (au _) c3 aJ aJ c2)⟩
  ·simp only at h;split at h
   ·rename_i mk m em;obtain⟨⟨c0,c0',c1,c2,c3,c4⟩,h⟩:=dq h;have hm:=cT he hmz;rw[em] at hm
    have hmr:(Instr.sliceBound (a.eval my) cap .slice3Acap).run P w = .ok m.toNat w:=by
     simp[Instr.sliceBound,hm.fV,asIntOf,c0,show m<=cap by omega]
    have hbs:(Instr.sliceBounds true (ah-al) cap (lo.map a.eval) (hi.map a.eval) (some (a.eval my))).run P w = .ok (l.toNat,hh.toNat,m.toNat) w:=by
     unfold Instr.sliceBounds;rcases qH hhi with ⟨rfl,rfl⟩|⟨hy,hz',rfl,rfl,hhz⟩
     ·simp at hmh
     ·have t1:=qV (P:=P) he hhz h2 c1 (m:=m.toNat) aJ .slice3B;rcases qH hlo with ⟨rfl,rfl⟩|⟨y',z',rfl,rfl,hz'⟩
      ·simp[gD] at h3; subst h3;simp[hmr,t1]
      ·have t2:=qV (P:=P) he hz' h3 c3 (m:=hh.toNat) aJ .slice3C;simp[hmr,t1,t2]
    have hrun:(execOp a.eval o).run P w = .ok (.value (.slice (if m.toNat=l.toNat then A else A.map (·.add (l.toNat*sz'))) (hh.toNat-l.toNat) (m.toNat-l.toNat))) w:=by
     simp[execOp,hop,Instr.sliceAt,ec ht,Instr.slice,hv,hbs,jr hn]
    rcases lI h with ⟨hm0,h⟩|⟨hm0,h⟩
    ·cases h;have hm0:m=0:=by simpa using hm0
     subst hm0;have e1:hh=0:=aJ;have e2:l=0:=aJ;subst e1; subst e2;exact⟨_,w,.inl hrun,.still hr (.c0 _)⟩
    ·rcases lI h with ⟨hm1,h⟩|⟨hm1,h⟩<;>(cases h)
     ·have:l=hh:=by simpa using hm1
      subst this;refine⟨_,w,.inl hrun,.still hr (.plain ?_)⟩;rw[Nat.sub_self];exact fR.nil _ _ _
     ·have:l≠hh:=by simpa using hm1
      rw[aR aJ] at hrun;exact⟨_,w,.inl hrun,.still hr (key m.toNat aJ c3 aJ aJ aJ)⟩
   ·cases h
 ·cases h
theorem Wt(hr:Rel j M w)(he:cn j M w bp a){y i:Operand}{z z':fX}{t e:TypeId}{n:Nat}(hop:o.op = .indexAddr t y i)(ht:P.underlying t=some (.slice e))(hn:qE P e=some n)
  (hz:eW y=some z) (hz':eW i=some z') (h:ei C bp M (.uh n z z')=some x):∃v w',rj P o a w v w'/\iW j M w x v w':=by
 simp only[ei] at h;have h1:=cT he hz;have h2:=cT he hz';split at h
 ·rename_i tk xs k m ez ez';obtain⟨h0,h⟩:=dq h;obtain⟨el,hel,h⟩:=bo h;split at h
  ·rename_i hwd;cases h;rw[ez] at h1;rw[ez'] at h2;obtain⟨A,cap,b,off,sz,vs,hv,hc,ha,hsz,hs,hrp⟩:=h1.ep.ep;have cJ:=aO hel;have hne:xs≠[]:=by rintro rfl; simp at cJ
   have hA:=ha hne;have hsz':sz=n:=by rw[<-hwd]; exact(hsz el (aE hel)).symm
   subst hsz';subst hA;refine⟨.pointer (some ⟨b,off+m.toNat*sz,none⟩),w,.inl ?_,.still hr (.jC (vs:=fun q=>vs (m.toNat*sz+q)) fun q c hq=>?_)⟩
   ·have hm:m<xs.length:=aJ;simp[execOp,hop,Instr.indexAt,ec ht,hv,h2.fV,asIntOf,h0,hm,jr hn,lR]
   grind
  ·cases h
 ·rename_i id v0 sz' lo hi k m ez ez';obtain⟨⟨h0,hm,hsz⟩,h⟩:=dq h;cases h;subst hsz;rw[ez] at h1;rw[ez'] at h2;have hlt0:lo+m.toNat<hi:=aJ;obtain⟨b,off,cap,hv,hcap⟩:=h1.Yr aJ;obtain⟨_,g1,g2,g3⟩:=h1.nk;refine⟨.pointer (some ⟨b,off+m.toNat*sz',none⟩),w,.inl ?_,.still hr (.jv ⟨_,_,rfl⟩ g1 g2 fun sz v' xs hM=>?_)⟩
  ·simp[execOp,hop,Instr.indexAt,ec ht,hv,h2.fV,asIntOf,h0,hm,jr hn,lR]
  ·obtain⟨k1,k2⟩:=g3 sz v' xs hM;refine⟨k1,fun he=>?_⟩
   obtain⟨rfl,l1,l2,⟨rfl,_⟩|⟨b',cap',vs,t',l3,l4,l5,l6,l7⟩⟩:=k2 he
   ·exact absurd (bu hlt0 l2) dx
   rw[hv] at l4
   grind [Nat.lt_of_lt_of_le,Nat.add_mul]
 ·cases h
def Hp(b off:Nat)(u:Nat->Value):∀(n i:Nat)(acc:Array Value),(∀k,k<n->w.cell? ⟨b,off+(i+k),none⟩=some (u (i+k))) ->
  (loadCellsFrom ⟨b,off,none⟩ i n acc).run P w = .ok (acc++((List.range n).map fun k=>u (i+k)).toArray) w:=by
 intro n;induction n with
 |zero=>simp[loadCellsFrom]
 |succ n ih =>
  intro i acc h;have h0:=h 0 dx;simp_all [loadCellsFrom,lR,List.range_succ_eq_map,Function.comp_def,Nat.add_comm,Nat.add_left_comm]
theorem o8(b off n:Nat)(u:Nat->Value)(h:∀k,k<n->w.cell? ⟨b,off+k,none⟩=some (u k)) :
  (loadCells ⟨b,off,none⟩ n).run P w = .ok (((List.range n).map u).toArray) w:=by
 have:=Hp (P:=P) (w:=w) b off u n 0 #[] jK
 grind [loadCells]
theorem xb{id b:Nat}{cs:List ag}(hr:Rel j M w)(hM:M[id]?=some (.cells cs))(hj:j id=some b):∃vs t,w.heap[b]?=some (.cells vs t (0,0))/\cs.length=vs.size /\
  (∀(q:Nat)(c:ag)(v:Value),cs[q]?=some c->vs[q]?=some v->gn j M w c v)/\∀q,w.cell? ⟨b,q,none⟩=vs[q]?:=by
 obtain⟨b',vs,t,h1,h2,h3,h4⟩:=hr.box _ _ hM
 grind [World.cell?]
theorem Ic(hr:Rel j M w){id ver i off sz:Nat}{xs:List ag}{v:Value}{el:ag}(hM:M[id]?=some (.arr sz ver xs))(h:gn j M w (.jv id ver i off) v)(hel:xs[i]?=some el) :
  ∃b,v = .pointer (some ⟨b,i*sz+off,none⟩)/\∀(k:Nat)(c:ag),el.cells[off+k]?=some c->∃u,w.cell? ⟨b,i*sz+off+k,none⟩=some u/\fR w (ow j M w) c u:=by
 obtain⟨_,_,_,g⟩:=h.sH;obtain⟨g1,b,g2,g3⟩:=(g _ _ _ hM).2 rfl;obtain⟨b',vs,t,k1,k2,k3,k4,k5⟩:=hr.yT hM g2
 grind [World.cell?]
theorem Ww(hr:Rel j M w)(he:cn j M w bp a){y:Operand}{z:fX}{t:TypeId}(hop:o.op = .load t y)(hg:CE P t=some false)(hz:eW y=some z)(h:ei C bp M (.rH z)=some x) :
  ∃v w',rj P o a w v w'/\iW j M w x v w':=by
 simp only[ei] at h;have h1:=cT he hz;split at h
 ·rename_i id off e;rw[e] at h1;obtain⟨b,_,_,hj,hv⟩:=h1.qt;rw[fc] at h;split at h
  ·rename_i cs hM;obtain⟨c,hc,h⟩:=bo h;cases h;rw[fc] at hc;obtain⟨vs,t0,hw,hl,hcs,hcell⟩:=xb hr hM hj;have cJ:=aO hc;have hu:vs[off]?=some (vs[off]'(by omega)):=bg aJ
   refine⟨_,w,.inl ?_,.still hr (hcs _ c _ hc hu)⟩;simp[execOp,hop,Instr.loadAt,Instr.sureAddr,hv,loadVar,lK hg,hcell,hu]
  grind
 ·rename_i cs e;rw[e] at h1;obtain⟨b,off,vs,hv,hc⟩:=h1.uz;obtain⟨c,hc0,h⟩:=bo h;cases h;rw[fc] at hc0;obtain⟨h2,_,h3⟩:=hc 0 c hc0;refine⟨_,w,.inl ?_,.still hr (.plain h3)⟩;simp_all [execOp,Instr.loadAt,Instr.sureAddr,loadVar,lK]
 ·rename_i id ver i off e;rw[e] at h1;rw[fc] at h;split at h
  ·rename_i sz v0 xs hM;split at h
   ·rename_i hv0;subst hv0;obtain⟨el,hel,h⟩:=bo h;obtain⟨c,hc,h⟩:=bo h;cases h;rw[fc] at hc;obtain⟨b,hv,hcell⟩:=Ic hr hM h1 hel;obtain⟨u,l1,l2⟩:=hcell 0 c aJ;refine⟨u,w,.inl ?_,.still hr (.plain l2)⟩;simp_all [execOp,Instr.loadAt,Instr.sureAddr,loadVar,lK]
   grind
  ·cases h
 grind
theorem Wx(hr:Rel j M w)(he:cn j M w bp a){y:Operand}{z:fX}{t:TypeId}{n:Nat}(hop:o.op = .load t y)(hg:CE P t=some true)(hn:qE P t=some n)(hz:eW y=some z)
  (h:ei C bp M (.mP n z)=some x):∃v w',rj P o a w v w'/\iW j M w x v w':=by
 simp only[ei] at h;have h1:=cT he hz;split at h
 ·rename_i id off e;rw[e] at h1;obtain⟨b,_,_,hj,hv⟩:=h1.qt;rw[fc] at h;split at h
  ·rename_i cs hM;split at h
   ·rename_i hle;cases h;obtain⟨vs,t0,hw,hl,hcs,hcell⟩:=xb hr hM hj
    have hrun:=o8 (P:=P) (w:=w) b off n (fun k=>(vs[off+k]?).getD undef) fun k hk=>by
     rw[hcell,bg aJ]; simp
    refine⟨_,w,.inl (by simp[execOp,hop,Instr.loadAt,Instr.sureAddr,hv,loadVar,lK hg,jr hn,hrun]; rfl),.still hr (.agg jK fun p c u hc hu=>?_)⟩
    grind
   ·cases h
  ·cases h
 ·rename_i cs e;split at h
  ·rename_i hle;cases h;rw[e] at h1;obtain⟨b,off,vs,hv,hc⟩:=h1.uz;have hrun:=o8 (P:=P) (w:=w) b off n vs fun k hk=>(hc k _ (ai aJ)).1
   refine⟨_,w,.inl (by simp[execOp,hop,Instr.loadAt,Instr.sureAddr,hv,loadVar,lK hg,jr hn,hrun]; rfl),.still hr (.agg gm fun p c u hc' hu=>?_)⟩
   have hp:p<n:=by have:=aO hc'; simp_all
   rw[bH hp] at hc';have hu':u=vs p:=by simp_all
   subst hu';exact .plain (hc p c hc').2.2
  ·cases h
 ·rename_i id ver i off e;rw[e] at h1;rw[fc] at h;split at h
  ·rename_i sz v0 xs hM;split at h
   ·rename_i hv0;subst hv0;obtain⟨el,hel,h⟩:=bo h;split at h
    ·rename_i hle;cases h;obtain⟨b,hv,hcell⟩:=Ic hr hM h1 hel
     have hrun:=o8 (P:=P) (w:=w) b (i*sz+off) n (fun k=>(w.cell? ⟨b,i*sz+off+k,none⟩).getD undef) fun k hk=>by
      obtain⟨u,l1,_⟩:=hcell k _ (ai aJ);rw[l1]; rfl
     refine⟨_,w,.inl (by simp[execOp,hop,Instr.loadAt,Instr.sureAddr,hv,loadVar,lK hg,jr hn,hrun]; rfl),.still hr (.agg gm fun p c u hc' hu=>?_)⟩
     have hp:p<n:=by have:=aO hc'; simp at this; omega
     rw[bH hp,cF] at hc';obtain⟨u',l1,l2⟩:=hcell p c hc';have hu':u=(w.cell? ⟨b,i*sz+off+p,none⟩).getD undef:=by simp_all
     rw[l1] at hu';subst hu';exact .plain l2
    ·cases h
   ·cases h
  ·cases h
 ·cases h
end
section
variable {P:Program} {C:eR} {o:Oper} {bp:Env} {M:aC} {j:J} {w:World} {a:Act} {x:ag×aC}
def tH{y:ag}{v:Value}{cs:List ag}(h:gn j M w y v)(hc:y.cells?=some cs):RC j M w cs v.cells:=by
 cases y<;>simp only[ag.cells?,fZ,reduceCtorEq] at hc
 case agg cs' =>
  subst hc;obtain⟨vs,rfl,h1,h2⟩:=h.nb;exact⟨h1,h2⟩
 case raw u =>
  cases h with
  |plain h =>
   cases h with
   |raw _ h1 =>
    cases v<;>simp at hc<;>subst hc <;>
     exact⟨rfl,fun i c v hc hv=>by
      cases i with
      |zero=>simp[Value.cells] at hc hv; subst hc; subst hv; exact .plain (.raw _ h1)
      |succ i=>simp at hc⟩
 all_goals
  subst hc
  have hv:v.cells = #[v]:=by
   first
    |(have:=h.jB; subst this; rfl)
    |(have:=h.fV; subst this; rfl)
    |(have:=h.kB; subst this; rfl)
    |(obtain⟨A,cap,b,off,sz,vs,e,_⟩:=h.ep.ep; subst e; rfl)
    |(obtain⟨b,_,_,_,e⟩:=h.qt; subst e; rfl)
    |(obtain⟨b,off,vs,e,_⟩:=h.uz; subst e; rfl)
    |(obtain⟨vs,e,_⟩:=h.rF; subst e; rfl)
    |(obtain⟨b,_,_,e⟩:=h.vH; subst e; rfl)
    |(obtain⟨b,_,_,e⟩:=h.DZ; subst e; rfl)
    |(obtain⟨b,es,cl,e,_⟩:=h.IV; subst e; rfl)
    |(obtain⟨_,_,e⟩:=h.zD; subst e; rfl)
    |(obtain⟨⟨_,_,e⟩,_⟩:=h.sH; subst e; rfl)
    |(obtain⟨_,e,_⟩:=h.Ht; subst e; rfl)
    |(obtain⟨_,_,_,e⟩:=h.Jh; subst e; rfl)
  rw[hv]
  exact⟨rfl,fun i c u hc hu=>by
   cases i with
   |zero=>simp at hc hu; subst hc; subst hu; exact h
   |succ i=>simp at hc⟩
theorem Ds{c:ag}{v:Value}(h:gn j M w c v)(hc:c.jg=true):v.oneCell'=true:=by
 cases c<;>simp only[ag.jg,af] at hc
 case bool=>have:=h.jB; subst this; rfl
 case int=>have:=h.fV; subst this; rfl
 case str=>have:=h.kB; subst this; rfl
 case slice=>obtain⟨A,cap,b,off,sz,vs,e,_⟩:=h.ep.ep; subst e; rfl
 case ptr=>obtain⟨b,_,_,_,e⟩:=h.qt; subst e; rfl
 case jC=>obtain⟨b,off,vs,e,_⟩:=h.uz; subst e; rfl
 case func=>obtain⟨vs,e,_⟩:=h.rF; subst e; rfl
 case iC=>obtain⟨b,_,_,e⟩:=h.vH; subst e; rfl
 case j7=>obtain⟨b,_,_,e⟩:=h.DZ; subst e; rfl
 case ki=>obtain⟨b,es,cl,e,_⟩:=h.IV; subst e; rfl
 case cD=>obtain⟨_,_,e⟩:=h.zD; subst e; rfl
 case jv=>obtain⟨⟨_,_,e⟩,_⟩:=h.sH; subst e; rfl
 case qZ=>obtain⟨_,e,_⟩:=h.Ht; subst e; rfl
 case ko=>obtain⟨_,_,_,e⟩:=h.Jh; subst e; rfl
 case raw u =>
  cases h with
  |plain h=>cases h<;>grind
theorem Hu(hr:Rel j M w){cs:List ag}{vs:Array Value}(hc:RC j M w cs vs)(t:TypeId) :
  iW j M w (.ptr M.length 0,M++[.cells cs]) (.pointer (some ⟨w.heap.size,0,none⟩)) { w with heap:=w.heap.push (.cells vs t (0,0)) }:=by
 have q:Quiet w { w with heap:=w.heap.push (.cells vs t (0,0)) }:=⟨dx,rfl,rfl,rfl⟩
 have hb:∀b,b<w.heap.size->({ w with heap:=w.heap.push (.cells vs t (0,0)) }:World).heap[b]?=w.heap[b]?:=fun b hb=>by
  grind
 have hn:({ w with heap:=w.heap.push (.cells vs t (0,0)) }:World).heap[w.heap.size]?=some (.cells vs t (0,0)):=dx
 refine⟨gI j _ (some w.heap.size),hr.push (fun b h=>?_) q hb (fun _=>?_) (fun sz n b h=>jK),Ext.push (fun b h=>?_) q hb,.ptr dx ⟨cs,dx⟩ (by simp[gI])⟩
 ·grind
 ·exact⟨_,rfl,fun j' M' hx=>⟨vs,t,hn,hc.1,fun i c v h1 h2=>(hc.2 i c v h1 h2).mono hx⟩⟩
 grind
def ahB(hr:Rel j M w)(he:cn j M w bp a){y:Operand}{z:fX}{t:TypeId}(hop:o.op = .box t y)(hz:eW y=some z)(h:ei C bp M (.box z)=some x) :
  ∃v w',rj P o a w v w'/\iW j M w x v w':=by
 obtain⟨cs,hc,h⟩:=bo h;cases h;exact⟨_,_,.inl (by simp_all [execOp,Instr.box,newVar,newRow]),Hu hr (tH (cT he hz) hc) t⟩
def NI(hr:Rel j M w){t:TypeId}{i:TypeInfo}{zv:Value}{l:List ag}(hop:o.op = .alloc t)(hi:P.info? t=some i)(hzv:i.zero=some zv)(hl:tp zv.cells.toList=some l)
  (h:ei C bp M (.yU l)=some x):∃v w',rj P o a w v w'/\iW j M w x v w':=by
 cases h;obtain⟨h1,h2⟩:=qF hl;refine⟨_,_,.inl (by simp[execOp,hop,Instr.alloc,zeroValue,pW hi,hzv]; rfl),Hu hr ⟨aJ,fun i c v hc hv=>h2 i c v hc jK⟩ t⟩
def WB(hr:Rel j M w)(he:cn j M w bp a){y:Operand}{z:fX}{n:Nat}(hop:o.op = .assign y)(hz:eW y=some z)(h:ei C bp M (.own n z)=some x) :
  ∃v w',rj P o a w v w'/\iW j M w x v w':=by
 simp only[ei] at h;split at h
 ·rename_i ez;cases h;have h1:=cT he hz;rw[ez] at h1;have q:Quiet w w:=⟨au _,rfl,rfl,rfl⟩
  obtain⟨A,hA⟩:∃A,a.eval y = .slice A 0 0:=by
   generalize a.eval y=v at h1;cases h1 with
   |plain h=>cases h
   |c0 A=>simp
  refine⟨a.eval y,w,.inl (by simp_all [execOp]),gI j M.length none,?_⟩
  rw[hA];unfold P7 P6;split
  ·refine⟨hr.push (ob:=none) (fun b h=>by cases h) q (fun _ _=>rfl) (fun h=>by cases h) (fun sz n b h h'=>by cases h') (fun sz ver xs h=>by injection h with e1 e2 e3; exact .inl ⟨e3.symm,rfl⟩),Ext.push (fun b h=>by cases h) q (fun _ _=>rfl),?_⟩
   refine .cD (.inr ⟨rfl,A,rfl⟩) dx (fun bx hbx=>by rw[kf] at hbx; cases hbx; rfl) fun sz' v' zs hx=>?_
   rw[kf] at hx; injection hx with hx; injection hx with e1 e2 e3
   subst e1; subst e2; subst e3;exact⟨au _,fun _=>⟨rfl,au _,au _,.inl ⟨rfl,by simp[gI],A,rfl⟩⟩⟩
  ·refine⟨hr.push (fun b h=>jK) q (fun _ _=>rfl) (fun h=>by cases h) (fun sz n b h h'=>jK),Ext.push (fun b h=>jK) q (fun _ _=>rfl),?_⟩
   exact .own (sz:=n) dx dx (fR.nil _ _ _) fun _ => .inl ⟨by simp[gI],rfl,A,rfl⟩
 ·exact Ae (C:=C) hr he (.inr hop) hz h
def pw(w:World)(b:Nat):Nat->List Value->World
 |_,[]=>w
 |off,v::r=>pw (w.setCell ⟨b,off,none⟩ v) b (off+1) r
def mC{b:Nat}{t:TypeId}:∀(l:List Value)(w:World)(off:Nat)(vs:Array Value),w.heap[b]?=some (.cells vs t (0,0))->off+l.length<=vs.size ->
  (pw w b off l).heap.size=w.heap.size/\(pw w b off l).os=w.os/\(pw w b off l).tape=w.tape/\(pw w b off l).output=w.output /\
  (∀b',b'≠b->(pw w b off l).heap[b']?=w.heap[b']?) /\
  ∃vs',(pw w b off l).heap[b]?=some (.cells vs' t (0,0))/\vs'.size=vs.size/\(∀p,p<off\/off+l.length<=p->vs'[p]?=vs[p]?)/\∀p,p<l.length->vs'[off+p]?=l[p]?:=by
 intro l;induction l with
 |nil=>intro w off vs h _; exact⟨rfl,rfl,rfl,rfl,fun _ _=>rfl,vs,h,rfl,fun _ _=>rfl,fun p hp=>by simp at hp⟩
 |cons v r ih =>
  intro w off vs h hle;simp only[aw] at hle
  have hs:(w.setCell ⟨b,off,none⟩ v).heap[b]?=some (.cells (vs.setIfInBounds off v) t (0,0)):=by
   simp[World.setCell,gW,h]
  obtain⟨h1,h2,h3,h4,h5,vs',h6,h7,h8,h9⟩:=ih (w.setCell ⟨b,off,none⟩ v) (off+1) (vs.setIfInBounds off v) hs gm;refine⟨by simp only[pw]; rw[h1]; simp[World.setCell],by simp only[pw]; rw[h2]; rfl,by simp only[pw]; rw[h3]; rfl,by simp only[pw]; rw[h4]; rfl,fun b' hb'=>?_,vs',h6,by rw[h7]; simp,fun p hp=>?_,fun p hp=>?_⟩
  ·simp only[pw];rw[h5 b' hb'];simp[World.setCell,gW,eY hb']
  ·simp only[aw] at hp;rw[h8 p aJ,fD aJ]
  ·cases p with
   |zero =>
    have:vs'[off]?=(vs.setIfInBounds off v)[off]?:=h8 off aJ;rw[dp,this];simp[hV];omega
   |succ p =>
    have:=h9 p (by simpa using hp)
    rw[show off+(p+1)=off+1+p by omega,this]
    simp
def nD{b:Nat}{t:TypeId}:∀(l:List Value)(w:World)(off i:Nat)(vs:Array Value),w.heap[b]?=some (.cells vs t (0,0))->off+i+l.length<=vs.size->(∀v,v∈l->v.oneCell'=true) ->
  (storeCells ⟨b,off,none⟩ l i).run P w = .ok () (pw w b (off+i) l):=by
 intro l;induction l with
 |nil=>simp[storeCells,pw]
 |cons v r ih =>
  intro w off i vs h hle hv;simp only[aw] at hle
  have hs:(w.setCell ⟨b,off+i,none⟩ v).heap[b]?=some (.cells (vs.setIfInBounds (off+i) v) t (0,0)):=by
   simp[World.setCell,gW,h]
  have hc:w.cell? ⟨b,off+i,none⟩=some (vs[off+i]'(by omega)):=by
   simp[World.cell?,h]
  have hf:w.frozen? ⟨b,off+i,none⟩=false:=by simp[World.frozen?,h]
  have hi:=ih _ off (i+1) _ hs gm (fun u hu=>hv u (bt _ hu))
  simp[storeCells,lR,run_store P w _ v .plain (hv v _),hc,hf,aD,Result.andThen_ok,hi];rfl
theorem re{cs new:List ag}{off:Nat}(h:off+new.length<=cs.length)(p:Nat) :
  (mT cs off new)[p]?=if off<=p/\p<off+new.length then new[p-off]? else cs[p]?:=by
 grind [mT]
theorem u7{cs new:List ag}{off:Nat}(h:off+new.length<=cs.length):(mT cs off new).length=cs.length:=by
 grind [mT]
theorem Aw{c:ag}{v:Value}(h:gn j M w c v)(hp:c.shut.plainCell=true):fR w (ow j M w) c.shut v:=by
 cases c<;>simp[ag.shut,ag.plainCell] at hp ⊢
 case bool=>have:=h.jB; subst this; exact .bool _
 case int=>have:=h.fV; subst this; exact .int _ _
 case str=>have:=h.kB; subst this; exact .str _
 case slice=>exact h.ep
 case raw=>cases h<;>grind
theorem Cp{c:ag}(h:c.shut.plainCell=true):c.jg=true:=by
 cases c<;>simp[ag.shut,ag.plainCell] at h<;>try rfl
 rename_i v;cases v<;>first|rfl|grind
def Hz{c:ag}(h:c.plainCell=true):c.cells=[c]:=by
 cases c<;>first|rfl|cases h
theorem Ez{e:ag}{off:Nat}{new:List ag}(h:off+new.length<=e.cells.length)(hp:new.all ag.plainCell=true):(putCells e off new).cells=mT e.cells off new:=by
 by_cases hag:∃cs,e = .agg cs
 ·obtain⟨cs,rfl⟩:=hag;cases new<;>rfl
 ·have h1:e.cells=[e]:=by cases e<;>first|rfl|grind
  rw[h1] at h ⊢
  match new,h,hp with
  | [],h,_ =>
   have:putCells e off []=e:=by cases e<;>first|rfl|grind
   rw[this,h1]
   match off,h with
   |0,_=>rfl
   |1,_=>rfl
  | [c],h,hp =>
   have:putCells e off [c]=c:=by cases e<;>first|rfl|grind
   have h0:off=0:=jK;subst h0;rw[this,Hz jK];rfl
  |_::_::_,h,_=>grind
theorem Eo(hr:Rel j M w)(he:cn j M w bp a){y y':Operand}{z z':fX}{t:TypeId}{n:Nat}(hop:o.op = .store t y y')(hn:qE P t=some n)(hz:eW y=some z)(hz':eW y'=some z')
  (h:ei C bp M (.store n z z')=some x):∃v w',rj P o a w v w'/\iW j M w x v w':=by
 simp only[ei] at h;have h1:=cT he hz;have h2:=cT he hz';split at h
 ·rename_i id off e;rw[e] at h1;obtain⟨b,_,_,hj,hv⟩:=h1.qt;rw[fc] at h;split at h
  ·rename_i cs hM;obtain⟨new,jw,h⟩:=bo h;split at h
   ·rename_i hcond;obtain⟨c1,c2,c3⟩:=hcond;cases h;obtain⟨vs,t0,hw,hl,hcs,hcell⟩:=xb hr hM hj;obtain⟨n1,n2⟩:=tH h2 jw
    have hone:∀v,v∈(a.eval y').cells.toList->v.oneCell'=true:=by
     intro v hv;obtain⟨p,hp,rfl⟩:=kd hv;have hp':p<(a.eval y').cells.size:=by simpa using hp
     have hpl:p<new.length:=aJ;have hr':=n2 p _ _ (ai hpl) (bg hp');have:=Ds hr' (bN.1 c3 _ (js hpl));simpa using this
    have hrun:=nD (P:=P) (a.eval y').cells.toList w off 0 vs hw gm hone;obtain⟨s1,s2,s3,s4,s5,vs',s6,s7,s8,s9⟩:=mC (a.eval y').cells.toList w off vs hw gm;have q:Quiet w (pw w b off (a.eval y').cells.toList):=⟨aJ,s2,s3,s4⟩;have hle:off+new.length<=cs.length:=aJ;rw[fe];refine⟨undef,pw w b off (a.eval y').cells.toList,.inr ⟨?_,rfl⟩,j,Rel.store hM rfl rfl hj hr q (fun b' hb' _=>s5 b' hb') (fun vs0 t1 fr h=>by rw[hw] at h; grind) (fun j' M' hx=>⟨vs',t0,s6,by rw[u7 hle]; omega,fun p c v hc hv'=>gn.mono hx ?_⟩),Ext.store hM rfl rfl hj hr q (fun b' hb' _=>s5 b' hb') (fun vs0 t1 fr h=>by rw[hw] at h; grind),.any _⟩
    ·simp_all [dp,execOp,Instr.storeAt,Instr.sureAddr,storeVar,jr]
    ·rw[re hle] at hc;split at hc
     ·rename_i hp;have h9:=s9 (p-off) gm;rw[show off+(p-off)=p by omega,hv'] at h9
      exact n2 (p-off) c v hc (by simpa using h9.symm)
     grind
   ·cases h
  ·cases h
 ·rename_i id ver i off e;rw[e] at h1;rw[fc] at h;split at h
  ·rename_i sz v0 xs hM;obtain⟨new,jw,h⟩:=bo h;obtain⟨el,hel,h⟩:=bo h;split at h
   ·rename_i hcond;obtain⟨hv0,c1,c2,c3⟩:=hcond;subst hv0;cases h;obtain⟨_,hid,_,hv⟩:=h1.sH;obtain⟨hi,b,hj,hv⟩:=(hv sz v0 xs hM).2 rfl;obtain⟨b',vs,t0,k1,hw,k3,k4,k5⟩:=hr.yT hM hj;rw[hj] at k1; cases k1;have hsz:el.cells.length=sz:=k4 el (aE hel)
    have hbd:i*sz+sz<=vs.size:=by
     refine aY ?_ k3
     calc i*sz+sz=(i+1)*sz:=by rw[bQ]; omega
      _<=xs.length*sz:=bd _ hi
    obtain⟨n1,n2⟩:=tH h2 jw
    have hpl:∀(p:Nat)(c:ag),new[p]?=some c->c.shut.plainCell=true:=fun p c hc=>by
     rw[List.all_map,bN] at c3;exact c3 c (aE hc)
    have hone:∀v,v∈(a.eval y').cells.toList->v.oneCell'=true:=by
     intro v hv;obtain⟨p,hp,rfl⟩:=kd hv;have hp':p<(a.eval y').cells.size:=by simpa using hp
     have hpl':p<new.length:=aJ;have hr':=n2 p _ _ (ai hpl') (bg hp');have:=Ds hr' (Cp (hpl p _ (ai hpl')));simpa using this
    have hrun:=nD (P:=P) (a.eval y').cells.toList w (i*sz+off) 0 vs hw gm hone;obtain⟨s1,s2,s3,s4,s5,vs',s6,s7,s8,s9⟩:=mC (a.eval y').cells.toList w (i*sz+off) vs hw gm;have q:Quiet w (pw w b (i*sz+off) (a.eval y').cells.toList):=⟨aJ,s2,s3,s4⟩;have hle:off+(new.map ag.shut).length<=el.cells.length:=gm;have hput:=Ez hle c3
    have hw':∀vs0 t1,w.heap[b]?=some (.cells vs0 t1 (0,0))->∃vs1,(pw w b (i*sz+off) (a.eval y').cells.toList).heap[b]?=some (.cells vs1 t1 (0,0))/\vs1.size=vs0.size:=fun vs0 t1 h=>by
     rw[hw] at h; grind
    rw[fe,fe];refine⟨undef,pw w b (i*sz+off) (a.eval y').cells.toList,.inr ⟨?_,rfl⟩,j,Rel.Ft hM hj hr q (fun b' hb' _=>s5 b' hb') hw' (au _) (fun _=>dx) (fun j' M' hx=>⟨vs',t0,s6,gm,fun x hx'=>?_,fun p x k c hp hk=>?_⟩),Ext.Ft hM hj hr q (fun b' hb' _=>s5 b' hb') hw' (au _) (fun _=>dx),.any _⟩
    ·simp only[dp] at hrun;simp[execOp,hop,Instr.storeAt,Instr.sureAddr,hv,storeVar,jr hn,show(a.eval y').cells.size=n by omega,hrun]
    ·rcases jE hx' with hx'|rfl
     ·exact k4 x hx'
     ·rw[hput,u7 hle,hsz]
    ·have dQ:(a.eval y').cells.toList.length=n:=gm
     by_cases hpi:i=p
     ·subst hpi;rw[eE hi] at hp;cases hp;rw[hput,re hle] at hk;split at hk
      ·rename_i hin;simp only[cU] at hin;rw[aX,aV] at hk;obtain⟨c0,hc0,rfl⟩:=hk;have h9:=s9 (k-off) aJ;rw[show i*sz+off+(k-off)=i*sz+k by omega] at h9
       have cJ:k-off<(a.eval y').cells.size:=aJ;have hu:(a.eval y').cells[k-off]?=some (a.eval y').cells[k-off]:=bg cJ;exact⟨_,by rw[h9]; simp,(Aw (n2 _ c0 _ hc0 hu) (hpl _ c0 hc0)).mono hx.iE⟩
      ·rename_i hin;simp only[cU] at hin;obtain⟨u,u1,u2⟩:=k5 i el k c hel hk;exact⟨u,by rw[s8 _ aJ]; exact u1,u2.mono hx.iE⟩
     ·rw[fa hpi] at hp;obtain⟨u,u1,u2⟩:=k5 p x k c hp hk;have hk':k<sz:=by rw[<-k4 x (aE hp)]; exact aO hk
      refine⟨u,(s8 _ ?_).trans u1,u2.mono hx.iE⟩;rcases bC p i with cJ|hge
      ·left;have:=bd sz (show p+1<=i from cJ)
       rw[bQ] at this;omega
      ·right;have:=bd sz (show i+1<=p by omega)
       rw[bQ] at this;omega
   ·cases h
  ·cases h
 ·cases h
end
def Xd(off:Nat):∀(l:List Value)(k:Nat)(cells:Array Value),
  ((l.zipIdx k).foldl (fun(cs:Array Value) (x:Value×Nat)=>cs.setIfInBounds (off+x.2) x.1) cells).size=cells.size /\
  ∀p,((l.zipIdx k).foldl (fun(cs:Array Value) (x:Value×Nat)=>cs.setIfInBounds (off+x.2) x.1) cells)[p]? =
   if off+k<=p/\p<off+k+l.length/\p<cells.size then l[p-(off+k)]? else cells[p]?:=by
 intro l;induction l with
 |nil=>intro k cells; exact⟨rfl,fun p=>gm⟩
 |cons v r ih =>
  intro k cells;rw[List.zipIdx_cons,eM];obtain⟨h1,h2⟩:=ih (k+1) (cells.setIfInBounds (off+k) v);refine⟨by rw[h1]; simp,fun p=>?_⟩
  rw[h2];simp only[Array.size_setIfInBounds,aw]
  by_cases c1:off+(k+1)<=p/\p<off+(k+1)+r.length/\p<cells.size
  ·rw[aZ c1,aZ aJ,show p-(off+k)=(p-(off+(k+1)))+1 by omega]
   simp
  ·rw[aR c1]
   by_cases c2:p=off+k/\p<cells.size
   ·obtain⟨rfl,cJ⟩:=c2;rw[aZ aJ];simp[hV,cJ]
   ·rw[aR aJ]
    by_cases c3:p=off+k
    ·have:¬p<cells.size:=fun h=>c2 ⟨c3,h⟩
     rw[iv gm,iv aJ]
    ·rw[fD aJ]
def putRow(cells:Array Value)(off:Nat)(vs:Array Value):Array Value:=vs.zipIdx.foldl (fun cs (c,k)=>cs.setIfInBounds (off+k) c) cells
def Cn(cells:Array Value)(off:Nat)(vs:Array Value):(putRow cells off vs).size=cells.size /\
  ∀p,(putRow cells off vs)[p]?=if off<=p/\p<off+vs.size/\p<cells.size then vs[p-off]? else cells[p]?:=by
 have h:=Xd off vs.toList 0 cells
 have e:putRow cells off vs=(vs.toList.zipIdx 0).foldl (fun(cs:Array Value) (x:Value×Nat)=>cs.setIfInBounds (off+x.2) x.1) cells:=by
  unfold putRow;rw[<-Array.foldl_toList];simp
 rw[e];exact⟨h.1,fun p=>by rw[h.2 p]; simp⟩
section
variable {P:Program} {C:eR} {o:Oper} {bp:Env} {M:aC} {j:J} {w:World} {a:Act} {x:ag×aC}
def RC.write{cs new:List ag}{cells vs:Array Value}{off:Nat}(h:RC j M w cs cells)(hn:RC j M w new vs)(hle:off+new.length<=cs.length):RC j M w (mT cs off new) (putRow cells off vs):=by
 obtain⟨p1,p2⟩:=Cn cells off vs;have h1:=h.1;have h2:=hn.1;refine⟨by rw[u7 hle,p1]; exact h1,fun i c v hc hv=>?_⟩
 rw[re hle] at hc;rw[p2] at hv
 have hi:i<cells.size:=by
  rcases bC i cells.size with hi|hi
  ·exact hi
  ·rw[aR aJ,iv hi] at hv; cases hv
 split at hc
 ·rename_i hp;rw[aZ aJ] at hv;exact hn.2 _ c v hc hv
 ·rename_i hp;rw[aR aJ] at hv;exact h.2 _ c v hc hv
def V3{α β:Type}{g:α->Sem β}{f:α->β}:∀(l:List α),(∀x,x∈l->(g x).run P w = .ok (f x) w)->(l.mapM g).run P w = .ok (l.map f) w:=by
 intro l;induction l with
 |nil=>intro _; simp
 |cons y r ih =>
  intro h;simp[List.mapM_cons,h y dx,ih fun x hx=>h x (by simp[hx])]
def IP{fs:Array Field}(he:cn j M w bp a)(hfs:∀f,f∈fs.toList->(P.info? f.type).isSome=true):∀ {parts:List (Nat×Operand)} {ps:List (Nat×Nat×fX)} {cs cs':List ag} {cells:Array Value},
  AR P fs parts=some ps->mu bp cs ps=some cs'->RC j M w cs cells ->
  ∃cells',Instr.fill (fun i=>(fs.map fun f=>(f.offset,P.cellsOf f.type))[i]?) cells (parts.map fun p=>(p.1,a.eval p.2))=some cells'/\RC j M w cs' cells':=by
 intro parts;induction parts with
 |nil =>
  intro ps cs cs' cells h1 h2 h3;simp[AR] at h1; subst h1;simp[mu] at h2; subst h2;exact⟨cells,rfl,h3⟩
 |cons p r ih =>
  intro ps cs cs' cells h1 h2 h3;obtain⟨i,y⟩:=p;simp only[AR] at h1;obtain⟨f,hf,h1⟩:=bf h1;obtain⟨n,hn,h1⟩:=bf h1;obtain⟨z,hz,h1⟩:=bf h1;obtain⟨l,hl,h1⟩:=bf h1;cases h1;simp only[mu] at h2;obtain⟨new,jw,h2⟩:=bo h2;split at h2
  ·rename_i hc;obtain⟨c1,c2⟩:=hc;have hrc:=tH (cT he hz) jw;obtain⟨inf,hinf,hsz⟩:=EM hn;have hco:P.cellsOf f.type=n:=by simp[Program.cellsOf,hinf,hsz]
   obtain⟨cells',e1,e2⟩:=ih hl h2 (h3.write (off:=f.offset) hrc aJ);refine⟨cells',?_,e2⟩;have hs1:=hrc.1;have hs2:=h3.1;have hpl:(fs.map fun f=>(f.offset,P.cellsOf f.type))[i]?=some (f.offset,n):=by simp[hf,hco]
   simp only[aH,Instr.fill,hpl];rw[aR gm];exact e1
  ·cases h2
def Wn(hr:Rel j M w)(he:cn j M w bp a){t:TypeId}{parts:Array (Nat×Operand)}{fs:Array Field}{i:TypeInfo}{zv:Value}{l:List ag}{ps:List (Nat×Nat×fX)}(hop:o.op = .build t parts)
  (ht:P.underlying t=some (.struct fs)) (hi:P.info? t=some i) (hzv:i.zero=some zv) (hl:tp zv.cells.toList=some l) (hps:AR P fs parts.toList=some ps) (hfs:fs.all (fun f=>(P.info? f.type).isSome)=true)
  (h:ei C bp M (.build l ps)=some x):∃v w',rj P o a w v w'/\iW j M w x v w':=by
 simp only[ei] at h;obtain⟨cs,hcs,h⟩:=bo h;cases h;obtain⟨h1,h2⟩:=qF (j:=j) (M:=M) (w:=w) hl
 have hfs':∀f,f∈fs.toList->(P.info? f.type).isSome=true:=fun f hf=>by
  have:=Array.all_eq_true'.1 hfs f (by simpa using hf)
  simpa using this
 obtain⟨cells',e1,e2⟩:=IP (P:=P) he hfs' hps hcs (cells:=zv.cells) ⟨by simpa using h1,fun i c v hc hv=>h2 i c v hc (by simpa using hv)⟩
 have hmap:(fs.mapM fun f=>do pure (f.offset,<-sizeOf f.type):Sem _).run P w = .ok (fs.map fun f=>(f.offset,P.cellsOf f.type)) w:=by
  rw[lO]
  have hm:=V3 (P:=P) (w:=w) (g:=fun f:Field=>(do pure (f.offset,<-sizeOf f.type):Sem _)) (f:=fun f:Field=>(f.offset,P.cellsOf f.type)) fs.toList fun f hf=>by
   obtain⟨inf,hinf⟩:=fz.1 (hfs' f hf);simp[sizeOf,pW hinf,Program.cellsOf,hinf]
  rw[Sem.run_map,hm,<-Array.toList_map];simp only[Result.andThen_ok,Array.toArray_toList]
 refine⟨.agg cells',w,.inl ?_,.still hr (.agg e2.1 e2.2)⟩;have e1':Instr.fill (fun i=>(fs.map fun f=>(f.offset,P.cellsOf f.type))[i]?) zv.cells (parts.map fun p=>(p.1,a.eval p.2)).toList=some cells':=by simpa using e1
 simp only[execOp,hop,Instr.build,zeroValue,Sem.run_bind,pW hi,Result.andThen_ok,hzv,Sem.run_pure,ec ht,hmap];simp only[e1',Sem.run_pure,Result.andThen_ok]
def Co{y:ag}{v:Value}(h:gn j M w y v)(hp:y.fT.plain=true):y.fT.cells.length=v.cells.size /\
  ∀(k:Nat)(c:ag)(u:Value),y.fT.cells[k]?=some c->v.cells[k]?=some u->fR w (ow j M w) c u:=by
 by_cases hag:∃cs,y = .agg cs
 ·obtain⟨cs,rfl⟩:=hag;obtain⟨vs,rfl,h1,h2⟩:=h.nb;simp only[ag.fT,ag.plain,ag.cells,Value.cells] at hp ⊢;refine⟨by simpa using h1,fun k c u hc hu=>?_⟩
  rw[aX,aV] at hc;obtain⟨c0,hc0,rfl⟩:=hc;refine Aw (h2 k c0 u hc0 hu) ?_;have:=bN.1 hp c0.shut (eL.2 ⟨c0,aE hc0,rfl⟩);exact this
 ·have hs:y.fT=y.shut:=by cases y<;>first|rfl|exact absurd ⟨_,rfl⟩ hag
  have hpl:y.shut.plainCell=true:=by
   rw[hs] at hp;cases y<;>first|exact hp|exact absurd ⟨_,rfl⟩ hag
  have hr:=Aw h hpl;have hc1:y.shut.cells=[y.shut]:=by cases y<;>first|rfl|exact absurd ⟨_,rfl⟩ hag
  have hv1:v.cells = #[v]:=by
   cases y<;>simp only[ag.shut,ag.plainCell,af] at hpl
   case bool=>have:=h.jB; subst this; rfl
   case int=>have:=h.fV; subst this; rfl
   case str=>have:=h.kB; subst this; rfl
   case slice=>obtain⟨A,cap,b,off,sz,vs,e,_⟩:=h.ep.ep; subst e; rfl
   case raw=>cases h with|plain h=>cases h; cases v<;>simp_all [Value.cells]
  rw[hs,hc1,hv1];refine⟨rfl,fun k c u hc hu=>?_⟩
  cases k with
  |zero=>simp at hc hu; subst hc; subst hu; exact hr
  |succ k=>simp at hc
def RZ{sz:Nat}:∀(l:List Value)(k:Nat)(cells:Array Value),(∀v,v∈l->v.cells.size=sz)->(k+l.length)*sz<=cells.size ->
  ∃cells',Instr.fill (fun i=>some (i*sz,sz)) cells ((l.zipIdx k).map fun x=>(x.2,x.1))=some cells'/\cells'.size=cells.size/\(∀p,p<k*sz->cells'[p]?=cells[p]?) /\
   ∀i v q,l[i]?=some v->q<sz->cells'[(k+i)*sz+q]?=v.cells[q]?:=by
 intro l;induction l with
 |nil=>intro k cells _ _; exact⟨cells,rfl,rfl,fun _ _=>rfl,fun i v q h=>by simp at h⟩
 |cons v r ih =>
  intro k cells hv hle;have hv0:=hv v dx;have hk1:(k+1)*sz=k*sz+sz:=mX k sz
  have hle':k*sz+sz<=cells.size:=by
   have:(k+1)*sz<=(k+(r.length+1))*sz:=bd _ aJ;simp only[aw] at hle;omega
  obtain⟨p1,p2⟩:=Cn cells (k*sz) v.cells;obtain⟨cells',e1,e2,e3,e4⟩:=ih (k+1) (putRow cells (k*sz) v.cells) (fun u hu=>hv u (by simp[hu])) (by rw[p1]; simp only[aw] at hle; rw[show k+1+r.length=k+(r.length+1) by omega]; exact hle)
  refine⟨cells',?_,by rw[e2,p1],fun p hp=>?_,fun i u q hi hq=>?_⟩
  ·rw[List.zipIdx_cons,aH];simp only[Instr.fill];rw[aR gm];exact e1
  ·rw[e3 p aJ,p2,aR aJ]
  ·cases i with
   |zero =>
    simp at hi; subst hi;rw[dp,e3 _ aJ,p2,aZ aJ];congr 1;omega
   |succ i =>
    have:=e4 i u q (by simpa using hi) hq
    rw[show k+1+i=k+(i+1) by omega] at this
    exact this
def Fz:∀ {l:List (Nat×Operand)} {k:Nat} {zs:List fX},GZ k l=some zs->∃ys:List Operand,l=(ys.zipIdx k).map (fun x=>(x.2,x.1))/\vv ys=some zs
 | [],k,zs,h=>by simp[GZ] at h; subst h; exact⟨[],rfl,rfl⟩
 |(i,y)::r,k,zs,h=>by
  simp only[GZ] at h;split at h
  ·rename_i hi;obtain⟨z,hz,h⟩:=bf h;obtain⟨l,hl,h⟩:=bf h;cases h;obtain⟨ys,e1,e2⟩:=Fz hl;exact⟨y::ys,by rw[List.zipIdx_cons,aH,hi,e1],by simp[vv,hz,e2]⟩
  ·cases h
def Gd:∀ {zs:List fX} {sz:Nat} {l:List ag},sZ bp sz zs=some l->l.length=zs.length /\
  ∀(i:Nat)(y:ag)(z:fX),l[i]?=some y->zs[i]?=some z->y=(z.ev bp).fT/\y.plain=true/\y.cells.length=sz
 | [],sz,l,h=>by simp[sZ] at h; subst h; exact⟨rfl,fun i y z h=>by simp at h⟩
 |z::r,sz,l,h=>by
  simp only[sZ] at h;split at h
  ·rename_i hc;obtain⟨l',hl,h⟩:=bo h;cases h;obtain⟨h1,h2⟩:=Gd hl;refine⟨by simp[h1],fun i y z' hy hz=>?_⟩
   cases i with
   |zero=>simp at hy hz; subst hy; subst hz; exact⟨rfl,hc.1,hc.2⟩
   |succ i=>exact h2 i y z' (by simpa using hy) (by simpa using hz)
  ·cases h
def pf(o:Obj):Quiet w { w with heap:=w.heap.push o }/\(∀b,b<w.heap.size->({ w with heap:=w.heap.push o }:World).heap[b]?=w.heap[b]?)/\({ w with heap:=w.heap.push o }:World).heap[w.heap.size]?=some o :=
 ⟨⟨dx,rfl,rfl,rfl⟩,fun b hb=>by
  show(w.heap.push _)[b]?=_
  rw[fU,aR aJ],dx⟩
def Bm(he:cn j M w bp a){t e:TypeId}{len:Nat}{parts:Array (Nat×Operand)}{i:TypeInfo}{zs:List fX}{l:List ag}(hop:o.op = .buildSlice t len parts)(ht:P.underlying t=some (.slice e))
  (hi:P.info? e=some i) (hzs:GZ 0 parts.toList=some zs) (dQ:zs.length=len) (hroom:len*i.size<=2 ^ 24) (hzero:(i.zero.map fun z=>z.cells.size)=some i.size)
  (hl:sZ bp i.size zs=some l):l.length=len/\wid l i.size/\∃cells':Array Value,cells'.size=len*i.size /\
   (execOp a.eval o).run P w = .ok (.value (.slice (some ⟨w.heap.size,0,none⟩) len len)) { w with heap:=w.heap.push (.cells cells' e (0,0)) } /\
   ∀(n:Nat)(y:ag)(k:Nat)(c:ag),l[n]?=some y->y.cells[k]?=some c->∃u,cells'[n*i.size+k]?=some u/\fR w (ow j M w) c u:=by
 obtain⟨ys,hys,hyz⟩:=Fz hzs;obtain⟨l1,l2⟩:=Gd hl;obtain⟨y1,y2⟩:=uu he hyz
 obtain⟨zv,hzv,hzs'⟩:∃zv,i.zero=some zv/\zv.cells.size=i.size:=by
  cases hz:i.zero with
  |none=>rw[hz] at hzero; cases hzero
  |some zv=>rw[hz] at hzero; exact⟨zv,rfl,by simpa using hzero⟩
 have hvs:∀v,v∈ys.map a.eval->v.cells.size=i.size:=by
  intro v hv;obtain⟨y,hy,rfl⟩:=eL.1 hv;obtain⟨p,hp,rfl⟩:=kd hy;have hpz:p<zs.length:=aJ;have hpl:p<l.length:=aJ;have hrep:=y2 p _ _ (ai hpz) (ai hp);obtain⟨e1,e2,e3⟩:=l2 p _ _ (ai hpl) (ai hpz);have:=(Co hrep (by rw[<-e1]; exact e2)).1
  rw[<-e1] at this;omega
 let zero:Array Value:=if len*i.size=0 then #[] else zv.cells
 let cells0:Array Value:=(Array.range (len*i.size)).map (zero[· % zero.size]!)
 obtain⟨cells',f1,f2,f3,f4⟩:=RZ (sz:=i.size) (ys.map a.eval) 0 cells0 hvs (by simp[cells0,<-dQ,y1])
 have hfill:Instr.fill (fun k=>some (k*i.size,i.size)) cells0 (parts.map fun p=>(p.1,a.eval p.2)).toList=some cells':=by
  have:(parts.map fun p=>(p.1,a.eval p.2)).toList=((ys.map a.eval).zipIdx 0).map fun x=>(x.2,x.1):=by
   rw[Array.toList_map,hys,gJ,List.zipIdx_map,gJ];rfl
  rw[this]; exact f1
 have hrun:(execOp a.eval o).run P w = .ok (.value (.slice (some ⟨w.heap.size,0,none⟩) len len)) { w with heap:=w.heap.push (.cells cells' e (0,0)) }:=by
  simp only[execOp,hop,Instr.buildSlice,Sem.run_bind,ec ht,Result.andThen_ok,jr (show qE P e=some i.size by simp[qE,hi]),aR (show ¬len*i.size>2 ^ 24 by omega),Sem.run_pure]
  simp only[cells0] at hfill
  by_cases hc:len*i.size=0
  ·have hz:zero = #[]:=aZ hc;rw[hz] at hfill;rw[aZ hc];simp only[Sem.run_bind,Sem.run_pure,Result.andThen_ok,hfill];simp[newRow]
  ·have hz:zero=zv.cells:=aR hc;rw[hz] at hfill;rw[aR hc];simp only[zeroValue,Sem.run_bind,pW hi,Result.andThen_ok,hzv,Sem.run_pure,hfill];simp[newRow]
 have hel:∀(n:Nat)(y:ag)(k:Nat)(c:ag),l[n]?=some y->y.cells[k]?=some c->∃u,cells'[n*i.size+k]?=some u/\fR w (ow j M w) c u:=by
  intro n y k c hn hk;have hnl:=aO hn;have hz:=ai (show n<zs.length by omega)
  have hy:=ai (show n<ys.length by omega)
  obtain⟨e1,e2,e3⟩:=l2 n y _ hn hz;have hrep:=y2 n _ _ hz hy;obtain⟨s1,s2⟩:=Co hrep (by rw[<-e1]; exact e2)
  rw[<-e1] at s1 s2;have hkl:=aO hk;have hu:=bg (show k<(a.eval ys[n]).cells.size by omega)
  have f:=f4 n (a.eval ys[n]) k (by simp[hy]) aJ
  rw[aK] at f;exact⟨_,f.trans hu,s2 k c _ hk hu⟩
 refine⟨aJ,fun y hy=>?_,cells',by first|(simp[f2,cells0])|(simp[f3,cells0]),hrun,hel⟩
 obtain⟨p,hp,rfl⟩:=kd hy;exact(l2 p _ _ (ai hp) (ai aJ)).2.2
def NJ(hr:Rel j M w)(he:cn j M w bp a){t e:TypeId}{len:Nat}{parts:Array (Nat×Operand)}{i:TypeInfo}{zs:List fX}(hop:o.op = .buildSlice t len parts)(ht:P.underlying t=some (.slice e))
  (hi:P.info? e=some i) (hzs:GZ 0 parts.toList=some zs) (dQ:zs.length=len) (hroom:len*i.size<=2 ^ 24) (hzero:(i.zero.map fun z=>z.cells.size)=some i.size)
  (h:ei C bp M (.lits i.size zs)=some x):∃v w',rj P o a w v w'/\iW j M w x v w':=by
 simp only[ei] at h;obtain⟨l,hl,h⟩:=bo h;obtain⟨hll,hwd,cells',_,hrun,hel⟩:=Bm (w:=w) he hop ht hi hzs dQ hroom hzero hl;obtain⟨q,hb,jw⟩:=pf (w:=w) (.cells cells' e (0,0));refine⟨_,_,.inl hrun,?_⟩;have ext:Ext j M w j M { w with heap:=w.heap.push (.cells cells' e (0,0)) }:=Ext.grow q.size rfl rfl rfl hb
 have rel:Rel j M { w with heap:=w.heap.push (.cells cells' e (0,0)) }:=hr.grow q.size rfl rfl rfl hb
 have key:fR { w with heap:=w.heap.push (.cells cells' e (0,0)) } (ow j M { w with heap:=w.heap.push (.cells cells' e (0,0)) }) (.slice .sh l) (.slice (some ⟨w.heap.size,0,none⟩) len len):=by
  refine .slice l _ _ _ w.heap.size 0 i.size (fun p=>(cells'[p]?).getD undef) hll.symm (au _) (fun _=>rfl) hwd (fun n y k c hn hk=>?_) (fun n y k c hn hk=>?_)
  ·obtain⟨u,hu,_⟩:=hel n y k c hn hk;refine⟨?_,dx,fun id hid hj=>?_,fun hx=>absurd (hr.AF _ _ hx) (ig _)⟩
   ·simp only[World.cell?,jw,aK,hu];rfl
   ·have:=hr.lt id _ hid hj;omega
  ·obtain⟨u,hu,hru⟩:=hel n y k c hn hk;rw[hu];exact hru.mono ext.iE
 injection h with h
 subst h;cases l with
 |nil =>
  have:len=0:=by simpa using hll.symm
  subst this;exact⟨j,rel,ext,.c0 _⟩
 |cons y r=>exact⟨j,rel,ext,.plain key⟩
def Wv(hr:Rel j M w)(he:cn j M w bp a){t e:TypeId}{len:Nat}{parts:Array (Nat×Operand)}{i:TypeInfo}{zs:List fX}(hop:o.op = .buildSlice t len parts)(ht:P.underlying t=some (.slice e))
  (hi:P.info? e=some i) (hzs:GZ 0 parts.toList=some zs) (dQ:zs.length=len) (hroom:len*i.size<=2 ^ 24) (hzero:(i.zero.map fun z=>z.cells.size)=some i.size)
  (h:ei C bp M (.Gc i.size zs)=some x):∃v w',rj P o a w v w'/\iW j M w x v w':=by
 simp only[ei] at h;obtain⟨l,hl,h⟩:=bo h;cases h;obtain⟨hll,hwd,cells',hcs,hrun,hel⟩:=Bm (w:=w) he hop ht hi hzs dQ hroom hzero hl;obtain⟨q,hb,jw⟩:=pf (w:=w) (.cells cells' e (0,0));have hob:∀b,some w.heap.size=some b->w.heap.size<=b/\b<({ w with heap:=w.heap.push (.cells cells' e (0,0)) }:World).heap.size:=fun b h=>by cases h; simp
 have ext:Ext j M w (gI j M.length (some w.heap.size)) (M++[.tick i.size l.length]) { w with heap:=w.heap.push (.cells cells' e (0,0)) }:=Ext.push (fun b hb=>(hob b hb).1) q hb
 refine⟨_,_,.inl hrun,gI j M.length (some w.heap.size),hr.push hob q hb (fun h=>by cases h) (fun sz n b _ hb=>by cases hb; exact⟨cells',e,jw⟩),ext,?_⟩
 refine .own (sz:=i.size) (n:=l.length) dx (au _) ?_ fun _ => .inr ⟨w.heap.size,len,cells',e,by simp[gI],by rw[hll],jw,aJ,aJ⟩
 refine .slice l _ _ _ w.heap.size 0 i.size (fun p=>(cells'[p]?).getD undef) hll.symm (au _) (fun _=>rfl) hwd (fun n y k c hn hk=>?_) (fun n y k c hn hk=>?_)
 ·obtain⟨u,hu,_⟩:=hel n y k c hn hk;have hk':k<i.size:=by rw[<-hwd y (aE hn)]; exact aO hk
  refine⟨?_,dx,fun id hid hj=>?_,fun hx=>absurd (hr.AF _ _ (by rw[<-ext.X]; exact hx)) (ig _)⟩
  ·simp only[World.cell?,jw,aK,hu];rfl
  ·have hid':id=M.length:=by
    rcases bC id M.length with h|h
    ·rw[show gI j M.length (some w.heap.size) id=j id by simp[gI,gM h]] at hj
     exact absurd (hr.lt id _ h hj) (ig _)
    ·simp at hid; omega
   subst hid';refine⟨i.size,l.length,dx,?_⟩;have:=bd i.size (show n+1<=l.length from aO hn)
   rw[bQ] at this;omega
 ·obtain⟨u,hu,hru⟩:=hel n y k c hn hk;rw[hu];exact hru.mono ext.iE
end
def gn.Dp{j:J}{M:aC}{w:World}{xs:List ag}{v:Value}(h:gn j M w (.slice .c0 xs) v):∃A,v = .slice A 0 0:=by
 cases h with
 |plain h=>cases h
 |c0 A=>simp
theorem gn.abb{j:J}{M:aC}{w:World}{k:Nat}{xs:List ag}{v:Value}(h:gn j M w (.slice (.own k) xs) v) :
  ∃sz n,M[k]?=some (.tick sz n)/\xs.length<=n/\fR w (ow j M w) (.slice .sh xs) v/\(xs.length=n->H0 j w k sz n v):=by
 cases h with
 |plain h=>cases h
 |own hk hn h ht=>grind
theorem FP(n:Nat):∀(r c:Nat),c<=2*n+1000->Builtin.growBy n r c<=2*n+1000
 |0,c,h=>h
 |r+1,c,h=>by
  unfold Builtin.growBy;split
  ·omega
  ·exact FP n r _ aJ
theorem Ei{n c:Nat}(h:c<n):Builtin.nextslicecap n c<=2*n+1000:=by
 grind [Builtin.nextslicecap,FP]
def fR.one{w:World}{iE:Nat->Nat->Prop}{c:ag}{v:Value}(h:fR w iE c v):v.oneCell'=true:=by
 cases h<;>first|rfl|omega
section
variable {P:Program} {C:eR} {o:Oper} {bp:Env} {M:aC} {j:J} {w:World} {a:Act} {x:ag×aC}
theorem FI{iE:Nat->Nat->Prop}{xs:List ag}{v:Value}{size:Nat}(hx:fR w iE (.slice .sh xs) v)(hw:wid xs size)(hpos:0<size) :
  ∃u:Nat->Value,(∀w':World,w'.heap=w.heap->(Builtin.firstCells size xs.length v).run P w' = .ok (((List.range (xs.length*size)).map u).toArray) w') /\
   (∀(i:Nat)(y:ag)(k:Nat)(c:ag),xs[i]?=some y->y.cells[k]?=some c->fR w iE c (u (i*size+k))) /\
   ∀b,(∃n cap,v = .slice (some ⟨b,0,none⟩) n cap)->∀p,p<xs.length*size->w.cell? ⟨b,p,none⟩=some (u p):=by
 obtain⟨A,cap,b,off,sz,vs,hv,hc,ha,hz,hs,hr⟩:=hx.ep
 by_cases hne:xs=[]
 ·subst hne;rw[hv];cases A<;>simp_all [Builtin.firstCells,loadCells,loadCellsFrom]
 ·have hsz:sz=size:=by
   obtain⟨y,r,rfl⟩:=fj hne;rw[<-hz y dx,hw y dx]
  subst hsz;have hA:=ha hne;subst hA
  have hcell:∀p,p<xs.length*sz->w.cell? ⟨b,off+p,none⟩=some (vs p):=by
   intro p hp;have hd:p / sz<xs.length:=(kW hpos).2 hp;have hm:p % sz<sz:=mj _ hpos;have hy:=ai hd;have hcl:=hw _ (js hd);have:=(hs (p / sz) _ (p % sz) _ hy (ai aJ)).1;rw[Nat.div_add_mod'] at this;omega
  refine⟨vs,fun w' hw'=>?_,hr,fun b' hb' p hp=>?_⟩
  ·rw[hv]
   have hc':∀p,p<xs.length*sz->w'.cell? ⟨b,off+p,none⟩=some (vs p):=fun p hp=>by
    grind [World.cell?]
   exact o8 (P:=P) b off (xs.length*sz) vs hc'
  grind
theorem fR.join{w':World}{saf':Nat->Nat->Prop}{xs ys:List ag}{size:Nat}(hwx:wid xs size)(hwy:wid ys size)(hpos:0<size){ux uy:Nat->Value}
  (hx:∀(i:Nat)(y:ag)(k:Nat)(c:ag),xs[i]?=some y->y.cells[k]?=some c->fR w' saf' c (ux (i*size+k)))
  (hy:∀(i:Nat)(y:ag)(k:Nat)(c:ag),ys[i]?=some y->y.cells[k]?=some c->fR w' saf' c (uy (i*size+k)))
  {b:Nat} {arr:Array Value} {t:TypeId} (harr:w'.heap[b]?=some (.cells arr t (0,0))) (h1:∀p,p<xs.length*size->arr[p]?=some (ux p)) (h2:∀p,p<ys.length*size->arr[xs.length*size+p]?=some (uy p))
  (hs:∀p,p<(xs.length+ys.length)*size->saf' b p) {cap:Nat} (hc:xs.length+ys.length<=cap):fR w' saf' (.slice .sh (xs++ys)) (.slice (some ⟨b,0,none⟩) (xs.length+ys.length) cap):=by
 have cJ:∀(i k n:Nat),i<n->k<size->i*size+k<n*size:=by
  intro i k n hi hk;have:(i+1)*size<=n*size:=bd _ hi;rw[mX] at this;omega
 have cas:∀(i:Nat)(y:ag),(xs++ys)[i]?=some y->(i<xs.length/\xs[i]?=some y)\/(∃i',i=xs.length+i'/\ys[i']?=some y):=by
  grind
 refine .slice _ _ _ _ b 0 size (fun p=>if p<xs.length*size then ux p else uy (p-xs.length*size)) dx hc (fun _=>rfl) (fun y hy'=>?_) (fun i y k c hi hk=>?_) (fun i y k c hi hk=>?_)
 ·rcases bq.1 hy' with h|h
  ·exact hwx y h
  ·exact hwy y h
 ·have hkl:=aO hk;rw[aK];rcases cas i y hi with ⟨hil,hxi⟩|⟨i',rfl,hyi⟩
  ·have hk':k<size:=by rw[<-hwx y (aE hxi)]; omega
   have hp:=cJ i k _ hil hk';refine⟨?_,hs _ (cJ i k _ aJ hk')⟩;rw[aZ hp,<-h1 _ hp];simp[World.cell?,harr]
  ·have hk':k<size:=by rw[<-hwy y (aE hyi)]; exact hkl
   have hil:=aO hyi;have hp:=cJ i' k _ hil hk';refine⟨?_,hs _ (cJ _ k _ aJ hk')⟩;have he:(xs.length+i')*size+k=xs.length*size+(i'*size+k):=by rw[bQ]; omega
   rw[he,aR dx,iY,<-h2 _ hp];simp[World.cell?,harr]
 ·have hkl:=aO hk;rcases cas i y hi with ⟨hil,hxi⟩|⟨i',rfl,hyi⟩
  ·have hk':k<size:=by rw[<-hwx y (aE hxi)]; exact hkl
   rw[aZ (cJ i k _ hil hk')];exact hx i y k c hxi hk
  ·have he:(xs.length+i')*size+k=xs.length*size+(i'*size+k):=by rw[bQ]; omega
   rw[he,aR dx,iY]
   grind
theorem qN{t t' e:TypeId}{d':TypeDesc}{v':Value}{i:TypeInfo}{zv:Value}(hs:P.underlying t=some (.slice e))(hs':P.underlying t'=some d')(hd':∀k,d' ≠ .int k)(hi:P.info? e=some i)(hz:i.zero=some zv)(hb0:0<i.bytes)(hb1:i.bytes<=2 ^ 20)
  (ty:TypeId) {bS:Option Addr} {n cap m:Nat} {ur new:Array Value} (dQ:∀w':World,(Builtin.lenOf v').run P w' = .ok m w')
  (hold:∀w':World,w'.heap=w.heap->(Builtin.firstCells i.size n (.slice bS n cap)).run P w' = .ok ur w') (jw:∀w':World,w'.heap=w.heap->(Builtin.firstCells i.size m v').run P w' = .ok new w')
  (hroom:(n+m)*i.bytes<=2 ^ 44) :
  (n+m<=cap->∀w',(match bS with|some ad=>(storeCells (ad.add (n*i.size)) new.toList).run P w = .ok () w'|none=>w'=w)->(Builtin.append_ #[t,t'] ty #[.slice bS n cap,v']).run P w = .ok (.slice bS (n+m) cap) w') /\
  (cap<n+m->∃newCap rest,n+m<=newCap/\rest.size=(newCap-(n+m))*zv.cells.size /\
   (Builtin.append_ #[t,t'] ty #[.slice bS n cap,v']).run P w = .ok (.slice (some ⟨w.heap.size,0,none⟩) (n+m) newCap) { w with heap:=w.heap.push (.cells (ur++new++rest) e (0,0)),drawn:=w.drawn+1 }):=by
 have hsz:(sizeOf e).run P w = .ok i.size w:=jr (by grind [qE])
 refine⟨fun hle w' hst=>?_,fun cJ=>?_⟩
 ·have h1:=jw w rfl;unfold Builtin.append_;simp only[List.getElem?_toArray,gq,cZ,Sem.run_bind,ec hs,ec hs',Result.andThen_ok,hsz,Sem.run_pure];simp only[af,aD,dQ,Result.andThen_ok,dG,aI,aZ hle,h1,Sem.run_bind];cases bS with
  |none=>simp_all
  |some ad=>simp_all
 ·have hcapb:¬Builtin.nextslicecap (n+m) cap*i.bytes>2 ^ 48:=by
   have h1:=Ei cJ;have h2:Builtin.nextslicecap (n+m) cap*i.bytes<=(2*(n+m)+1000)*i.bytes:=bd _ h1
   grind
  let q:Question := .appendCap (n+m) cap e
  refine⟨q.cut (w.tape w.drawn q),Builtin.zeroCells zv.cells (q.cut (w.tape w.drawn q)-(n+m)),by grind [Question.cut],by simp[Builtin.zeroCells],?_⟩
  have h1:=hold w.drew rfl;have h2:=jw w.drew rfl;have hne:i.bytes≠0:=aJ;have hqf:q.forced=false:=rfl;unfold Builtin.append_;simp only[List.getElem?_toArray,gq,cZ,Sem.run_bind,ec hs,ec hs',Result.andThen_ok,hsz,Sem.run_pure];simp only[af,aD,dQ,Result.andThen_ok,dG,aI,aR (Nat.not_le.2 cJ),Sem.run_bind];simp[pW hi,hne,hcapb,h1,h2,zeroValue,hz,newRow,q,Question.forced];rfl
theorem Ia(hr:Rel j M w){c:Call}{y y':Operand}{t t' e:TypeId}{d':TypeDesc}{i:TypeInfo}{zv:Value}(hop:o.op = .call c)(hb:c.callee = .builtin .append)(ha:c.args.toList=[y,y'])
  (hat:c.argTypes = #[t,t']) (hs:P.underlying t=some (.slice e)) (hs':P.underlying t'=some d') (hd':∀k,d' ≠ .int k) (hi:P.info? e=some i) (hz:i.zero=some zv) (hzs:zv.cells.size=i.size) (hpos:0<i.size) (hb0:0<i.bytes) (hb1:i.bytes<=2 ^ 20)
  {tk:Tk} {xs ys:List ag} (r1:gn j M w (.slice tk xs) (a.eval y)) (dQ:∀w':World,(Builtin.lenOf (a.eval y')).run P w' = .ok ys.length w') {uy:Nat->Value}
  (fy1:∀w':World,w'.heap=w.heap->(Builtin.firstCells i.size ys.length (a.eval y')).run P w' = .ok (((List.range (ys.length*i.size)).map uy).toArray) w')
  (fy2:∀(q:Nat)(y:ag)(k:Nat)(c:ag),ys[q]?=some y->y.cells[k]?=some c->fR w (ow j M w) c (uy (q*i.size+k)))
  (h:cq (ct (xs.length+ys.length) i.bytes/\wid xs i.size/\wid ys i.size) (
    match tk with
    | .c0=>match xs with|[]=>some (.slice (.own M.length) ys,M++[.tick i.size ys.length])|_=>none
    | .own k=>match nth M k with
     |some (.tick sz' n)=>cq (sz'=i.size/\n=xs.length) (some (.slice (.own k) (xs++ys),iR M k (.tick i.size (xs.length+ys.length))))
     |_=>none
    | .sh=>none)=some x):∃v w' j',rj P o a w v w'/\Rel j' x.2 w'/\Ext j M w j' x.2 w'/\gn j' x.2 w' x.1 v/\(ys=[]->v=a.eval y/\∀k,tk = .own k->j'=j)/\∀k b',tk = .own k->j' k=some b'->j k=some b'\/∃vs,w'.heap[b']?=some (.cells vs e (0,0)):=by
 obtain⟨⟨hroom,hwx,hwy⟩,h9⟩:=dq h;clear h;have h:=h9;clear h9;have p1:=r1.ep;obtain⟨ux,fx1,fx2,fx3⟩:=FI (P:=P) p1 hwx hpos;obtain⟨bS,cap,_,_,_,_,hv,hcap,_⟩:=p1.ep;have ha':c.args = #[y,y']:=by rw[<-ha]
 have hexec:∀r,(Builtin.append_ #[t,t'] o.type #[a.eval y,a.eval y']).run P w=r->(execOp a.eval o).run P w=r.andThen fun v w' => .ok (.value v) w':=by
  intro r hr';simp[execOp,hop,resolve,hb,invoke,builtin,ha',hat,hr']
 rw[hv] at fx1;obtain⟨A1,A2⟩:=qN (P:=P) (w:=w) hs hs' hd' hi hz hb0 hb1 o.type (bS:=bS) (n:=xs.length) (cap:=cap) (m:=ys.length) dQ fx1 fy1 hroom;rw[<-hv] at A1 A2
 -- nothing is appended
 have nil:ys=[]->∃v,(execOp a.eval o).run P w = .ok (.value v) w/\v=a.eval y:=by
  intro hy;subst hy;refine⟨_,?_,rfl⟩
  have:=A1 (by simp; exact hcap) w (by
   cases bS with
   |none=>rfl
   |some ad=>simp[storeCells])
  rw[hexec _ this];simp[hv]
 -- a new block
 have fresh:cap<xs.length+ys.length->∃newCap arr w',xs.length+ys.length<=newCap/\(execOp a.eval o).run P w = .ok (.value (.slice (some ⟨w.heap.size,0,none⟩) (xs.length+ys.length) newCap)) w' /\
   Quiet w w'/\(∀b,b<w.heap.size->w'.heap[b]?=w.heap[b]?)/\w'.heap[w.heap.size]?=some (.cells arr e (0,0))/\newCap*i.size<=arr.size /\
   (∀p,p<xs.length*i.size->arr[p]?=some (ux p))/\∀p,p<ys.length*i.size->arr[xs.length*i.size+p]?=some (uy p):=by
  intro cJ;obtain⟨newCap,rest,h1,h2,h3⟩:=A2 cJ;obtain⟨q,hbk,jw⟩:=pf (w:=w) (.cells (((List.range (xs.length*i.size)).map ux).toArray++((List.range (ys.length*i.size)).map uy).toArray++rest) e (0,0));refine⟨newCap,_,{ w with heap:=w.heap.push (.cells (((List.range (xs.length*i.size)).map ux).toArray++((List.range (ys.length*i.size)).map uy).toArray++rest) e (0,0)),drawn:=w.drawn+1 },h1,(hexec _ h3).trans rfl,⟨q.size,rfl,rfl,rfl⟩,hbk,jw,?_,fun p hp=>?_,fun p hp=>?_⟩
  ·simp only[fY,da,cU,List.length_range,h2,hzs];rw[<-bQ,<-bQ];exact bd _ aJ
  ·rw[Array.append_assoc,cj (by simpa using hp)]
   simp[hp]
  ·rw[Array.append_assoc,Array.getElem?_append_right dx,cj gm];simp[hp]
 split at h
 ·-- c0
  split at h
  ·cases h;simp only[az,aK] at *
   have hc0:cap=0:=by
    obtain⟨A',hA'⟩:=r1.Dp;rw[hv] at hA';injection hA'
   by_cases hy:ys=[]
   ·subst hy;obtain⟨v,h1,h2⟩:=nil rfl;have q:Quiet w w:=⟨au _,rfl,rfl,rfl⟩;refine⟨v,w,gI j M.length none,.inl h1,hr.push (ob:=none) (fun b h=>by cases h) q (fun _ _=>rfl) (fun h=>by cases h) (fun sz n b h h'=>by cases h'),Ext.push (fun b h=>by cases h) q (fun _ _=>rfl),?_,fun _=>⟨h2,fun _ h=>by cases h⟩,fun _ _ h=>by cases h⟩
    rw[h2,hv,hc0];exact .own (sz:=i.size) (n:=0) dx dx (fR.nil _ _ _) fun _ => .inl ⟨by simp[gI],rfl,bS,rfl⟩
   ·have hyl:0<ys.length:=gS.2 hy;obtain⟨newCap,arr,w',g1,g2,g3,g4,g5,g6,g7,g8⟩:=fresh aJ
    have hob:∀b,some w.heap.size=some b->w.heap.size<=b/\b<w'.heap.size:=fun b hb=>by
     cases hb; exact⟨au _,lt_of_block g5⟩
    have ext:Ext j M w (gI j M.length (some w.heap.size)) (M++[.tick i.size ys.length]) w':=Ext.push (fun b hb=>(hob b hb).1) g3 g4
    refine⟨_,w',gI j M.length (some w.heap.size),.inl g2,hr.push hob g3 g4 (fun h=>by cases h) (fun sz n b _ hb=>jK),ext,?_,fun h=>absurd h hy,fun _ _ h=>by cases h⟩
    have hsaf:∀p,p<(0+ys.length)*i.size->ow (gI j M.length (some w.heap.size)) (M++[.tick i.size ys.length]) w' w.heap.size p:=by
     intro p hp;refine⟨lt_of_block g5,fun id hid hj=>?_,fun hx=>absurd (hr.AF _ _ hx) (ig _)⟩
     by_cases hid':id=M.length
     ·subst hid'; exact⟨i.size,ys.length,dx,by simpa using hp⟩
     ·have:=hr.lt id w.heap.size (by simp at hid; omega) (by simpa[gI,hid'] using hj)
      omega
    have hj:=fR.join (xs:=[]) (ys:=ys) (w':=w') hwx hwy hpos (ux:=ux) (uy:=uy) (fun i y k c h=>by simp at h) (fun i y k c h1 h2=>(fy2 i y k c h1 h2).mono ext.iE) g5 (fun p hp=>by simp at hp) (fun p hp=>by simpa using g8 p hp) hsaf (cap:=newCap) (by simpa using g1)
    simp only[aP,az,aK] at hj;exact .own (sz:=i.size) (n:=ys.length) dx (au _) hj fun _ => .inr ⟨w.heap.size,newCap,arr,e,by simp[gI],rfl,g5,g6,g1⟩
  ·cases h
 ·-- own
  rename_i k;rw[fc] at h;split at h
  ·rename_i sz' n' hMk;obtain⟨⟨e1,e2⟩,hx⟩:=dq h;subst e1;subst e2;injection hx with hx
   subst hx;rw[fe];obtain⟨sz0,n0,hk,hn,hrp,ht⟩:=r1.abb
   ·rw[hMk] at hk;injection hk with hk; injection hk with e1 e2
    subst e1; subst e2
    by_cases hy:ys=[]
    ·subst hy;obtain⟨v,h1,h2⟩:=nil rfl
     have hset:M.set k (.tick i.size (xs.length+([]:List ag).length))=M:=by
      apply cp
      grind
     rw[h2] at h1;rw[hset,dg];exact⟨a.eval y,w,j,.inl h1,hr,Ext.refl j M w,r1,fun _=>⟨rfl,fun _ _=>rfl⟩,fun _ _ _ h => .inl h⟩
    ·have hyl:0<ys.length:=gS.2 hy
     have moved:cap<xs.length+ys.length->∃v w' j',rj P o a w v w'/\Rel j' (M.set k (.tick i.size (xs.length+ys.length))) w'/\Ext j M w j' (M.set k (.tick i.size (xs.length+ys.length))) w'/\gn j' (M.set k (.tick i.size (xs.length+ys.length))) w' (.slice (.own k) (xs++ys)) v/\(ys=[]->v=a.eval y/\∀k',Tk.own k = .own k'->j'=j)/\∀k' b',Tk.own k = .own k'->j' k'=some b'->j k'=some b'\/∃vs,w'.heap[b']?=some (.cells vs e (0,0)):=by
      intro cJ;obtain⟨newCap,arr,w',g1,g2,g3,g4,g5,g6,g7,g8⟩:=fresh cJ;have ext:Ext j M w (gI j k (some w.heap.size)) (M.set k (.tick i.size (xs.length+ys.length))) w':=Ext.C6 hMk g3 g4 (au _) aJ;refine⟨_,w',gI j k (some w.heap.size),.inl g2,Rel.C6 hMk hr g3 g4 (au _) g5 aJ,ext,?_,fun h=>absurd h hy,fun k' b' hk' hb' => .inr ⟨arr,(by grind [gI])⟩⟩
      have hsaf:∀p,p<(xs.length+ys.length)*i.size->ow (gI j k (some w.heap.size)) (M.set k (.tick i.size (xs.length+ys.length))) w' w.heap.size p:=by
       intro p hp;refine⟨lt_of_block g5,fun id hid hj=>?_,fun hx=>absurd (hr.AF _ _ hx) (ig _)⟩
       by_cases hid':id=k
       ·subst hid'; exact⟨i.size,_,ef (aO hMk),hp⟩
       ·have:=hr.lt id w.heap.size (by simpa using hid) (by simpa[gI,hid'] using hj)
        omega
      have hj:=fR.join (w':=w') hwx hwy hpos (ux:=ux) (uy:=uy) (fun i y k c h1 h2=>(fx2 i y k c h1 h2).mono ext.iE) (fun i y k c h1 h2=>(fy2 i y k c h1 h2).mono ext.iE) g5 g7 g8 hsaf (cap:=newCap) g1
      exact .own (sz:=i.size) (n:=xs.length+ys.length) (ef (aO hMk)) dx hj fun _ => .inr ⟨w.heap.size,newCap,arr,e,by simp[gI],rfl,g5,g6,g1⟩
     rcases ht rfl with ⟨_,hn0,A',hA'⟩|⟨b,cap0,vs,t0,hj,hv0,hw0,hsz0,hcap0⟩
     ·rw[hv] at hA';injection hA' with _ _ e3
      exact moved aJ
     ·have hvv:=hv.symm.trans hv0;injection hvv with e1 e2 e3
      subst e1; subst e3
      by_cases hfit:xs.length+ys.length<=cap
      ·have jw:(((List.range (ys.length*i.size)).map uy).toArray).toList.length=ys.length*i.size:=dx
       have hle:xs.length*i.size+ys.length*i.size<=vs.size:=by
        rw[<-bQ];exact aY (bd _ hfit) hsz0
       have hone:∀v,v∈(((List.range (ys.length*i.size)).map uy).toArray).toList->v.oneCell'=true:=by
        intro v hv;simp only[eL,gj] at hv;obtain⟨p,hp,rfl⟩:=hv;have hd:p / i.size<ys.length:=(kW hpos).2 hp;have hm:p % i.size<i.size:=mj _ hpos;have hcl:=hwy _ (js hd);have:=fy2 (p / i.size) _ (p % i.size) _ (ai hd) (ai aJ);rw[Nat.div_add_mod'] at this;exact this.one
       have hst:=nD (P:=P) (((List.range (ys.length*i.size)).map uy).toArray).toList w (xs.length*i.size) 0 vs hw0 (by rw[jw]; omega) hone
       rw[dp] at hst;obtain⟨s1,s2,s3,s4,s5,vs',s6,s7,s8,s9⟩:=mC (((List.range (ys.length*i.size)).map uy).toArray).toList w (xs.length*i.size) vs hw0 (by rw[jw]; omega)
       have hrun:=A1 hfit _ (by
        show(storeCells ((⟨b,0,none⟩:Addr).add (xs.length*i.size)) _).run P w=_
        rw[lR,aK];exact hst)
       have q:Quiet w (pw w b (xs.length*i.size) (((List.range (ys.length*i.size)).map uy).toArray).toList):=⟨aJ,s2,s3,s4⟩;have hkeep:∀p,p<xs.length*i.size->vs'[p]?=vs[p]?:=fun p hp=>s8 p (.inl hp)
       have ext:Ext j M w j (M.set k (.tick i.size (xs.length+ys.length))) (pw w b (xs.length*i.size) (((List.range (ys.length*i.size)).map uy).toArray).toList) :=
        Ext.HM hMk hj hr q (fun b' hb' _=>s5 b' hb') hw0 s6 s7 hkeep aJ
       refine⟨_,_,j,.inl ((hexec _ hrun).trans rfl),Rel.HM hMk hj hr q (fun b' hb' _=>s5 b' hb') hw0 s6 s7 hkeep aJ,ext,?_,fun h=>absurd h hy,fun _ _ _ h => .inl h⟩
       have hsaf:∀p,p<(xs.length+ys.length)*i.size->ow j (M.set k (.tick i.size (xs.length+ys.length))) (pw w b (xs.length*i.size) (((List.range (ys.length*i.size)).map uy).toArray).toList) b p:=by
        intro p hp;refine⟨lt_of_block s6,fun id hid hj'=>?_,hr.vk k b (aO hMk) hj p⟩
        have:id=k:=hr.inj id k b (by simpa using hid) (aO hMk) hj' hj
        subst this;exact⟨i.size,_,ef (aO hMk),hp⟩
       have hjn:=fR.join hwx hwy hpos (ux:=ux) (uy:=uy) (fun i y k c h1 h2=>(fx2 i y k c h1 h2).mono ext.iE) (fun i y k c h1 h2=>(fy2 i y k c h1 h2).mono ext.iE) s6 (fun p hp=>by
        rw[hkeep p hp];have:=fx3 b ⟨_,_,hv⟩ p hp;simpa[World.cell?,hw0] using this) (fun p hp=>by
        rw[s9 p (by rw[jw]; exact hp)]
        simp[hp]) hsaf (cap:=cap) hfit
       exact .own (sz:=i.size) (n:=xs.length+ys.length) (ef (aO hMk)) dx hjn fun _ => .inr ⟨b,cap,vs',t0,hj,rfl,s6,aJ,hfit⟩
      ·exact moved aJ
  ·cases h
 ·cases h
theorem L3(hr:Rel j M w)(he:cn j M w bp a){c:Call}{y y':Operand}{z z':fX}{t t' e e':TypeId}{i:TypeInfo}{zv:Value}(hop:o.op = .call c)(hb:c.callee = .builtin .append)(ha:c.args.toList=[y,y'])
  (hat:c.argTypes = #[t,t']) (hs:P.underlying t=some (.slice e)) (hs':P.underlying t'=some (.slice e')) (hi:P.info? e=some i) (hz:i.zero=some zv) (hzs:zv.cells.size=i.size) (hpos:0<i.size) (hb0:0<i.bytes) (hb1:i.bytes<=2 ^ 20)
  (hzy:eW y=some z) (hzy':eW y'=some z') (h:ei C bp M (.append i.size i.bytes z z')=some x) (hna:∀id ver sz lo hi,z.ev bp ≠ .cD id ver sz lo hi):∃v w',rj P o a w v w'/\iW j M w x v w':=by
 simp[ei] at h;have r1:=cT he hzy;have r2:=cT he hzy';split at h
 ·rename_i tk xs tk' ys ez ez';obtain⟨⟨_,hwx,hwy⟩,_⟩:=dq h;rw[ez] at r1;rw[ez'] at r2;have p2:=r2.ep;obtain⟨uy,fy1,fy2,_⟩:=FI p2 hwy hpos;obtain⟨A,cap',_,_,_,_,hv',_⟩:=p2.ep;obtain⟨v,w',j',q1,q2,q3,q4,_⟩:=Ia hr hop hb ha hat hs hs' (fun k h=>by cases h) hi hz hzs hpos hb0 hb1 r1 (fun w'=>by rw[hv']; rfl) fy1 fy2 h
  exact⟨v,w',q1,j',q2,q3,q4⟩
 ·grind
 grind
end
section
variable {P:Program} {C:eR} {o:Oper} {bp:Env} {M:aC} {j:J} {w:World} {a:Act} {x:ag×aC}
def Lr {f:Field} {k:FK} (h:R3 P f=some k):f.name ≠ "_" /\ CE P f.type=some false/\(match k with | .b=>P.underlying f.type=some .bool | .i=>∃q,P.underlying f.type=some (.int q) | .s=>P.underlying f.type=some .string):=by
 unfold R3 at h;split at h
 ·cases h
 ·rename_i hn;refine⟨hn,?_⟩
  split at h<;>first
   |(cases h; rename_i hu; exact⟨by simp[CE,hu],by first|exact hu|exact⟨_,hu⟩⟩)
   |cases h
def Ln{d:Nat}{f:Field}{k:FK}(hf:R3 P f=some k){y z:ag}{u v:Value}(hu:gn j M w y u)(hv:gn j M w z v){e:Bool}(h:kv k y z=some e) :
  (Op.equalIn (d+1) f.type u v).run P w = .ok e w:=by
 have hk:=(Lr hf).2.2;unfold kv at h;split at h
 ·rename_i k1 a k2 b;obtain⟨q,hq⟩:=hk;split at h
  ·rename_i he;subst he;cases h;rw[hu.fV,hv.fV];exact run_equalIn_int w d f.type _ _ a b hq
  ·cases h
 ·rename_i a b;cases h;rw[hu.kB,hv.kB,run_equalIn_string w d f.type _ _ hk,vt,vt]
 ·rename_i a b;cases h;rw[hu.jB,hv.jB];exact run_equalIn_bool' w d f.type a b hk
 ·cases h
def zN{d:Nat}{cs ds:List ag}{us vs:Array Value}(hc:RC j M w cs us)(hd:RC j M w ds vs):∀ {l:List Field} {k:Nat} {ks:List FK} {e:Bool},B8 P k l=some ks->kY ks (cs.drop k) (ds.drop k)=some e ->
  (Op.eqFields (d+1) us vs l).run P w = .ok e w
 | [],k,ks,e,h1,h2=>by
  simp[B8] at h1; subst h1;unfold kY at h2;split at h2<;>simp_all [Op.eqFields]
 |f::r,k,ks,e,h1,h2=>by
  simp only[B8] at h1;split at h1
  ·rename_i hoff;obtain⟨q,hq,h1⟩:=bf h1;obtain⟨qs,hqs,h1⟩:=bf h1;cases h1
   have hk1:k<cs.length:=by
    rcases bC k cs.length with h|h
    ·exact h
    ·rw[jn h] at h2; simp[kY] at h2
   have hk2:k<ds.length:=by
    rcases bC k ds.length with h|h
    ·exact h
    ·rw[jn h] at h2;rw[cW hk1] at h2;simp[kY] at h2
   rw[cW hk1,cW hk2] at h2;simp only[kY] at h2;obtain⟨e1,he1,h2⟩:=bo h2;obtain⟨e2,he2,h2⟩:=bo h2;cases h2;have hlu:k<us.size:=by have:=hc.1; omega
   have hlv:k<vs.size:=by have:=hd.1; omega
   have hu:=bg hlu;have hv:=bg hlv;have ih:=zN (d:=d) hc hd hqs he2;obtain⟨hn,hag,_⟩:=Lr hq;have p1:(part f.type us f.offset).run P w = .ok us[k] w:=by simp[part,lK hag,hoff,hu]
   have p2:(part f.type vs f.offset).run P w = .ok vs[k] w:=by simp[part,lK hag,hoff,hv]
   have p3:=Ln (d:=d) hq (hc.2 k _ _ (ai hk1) hu) (hd.2 k _ _ (ai hk2) hv) he1;simp only[Op.eqFields,aZ hn,Sem.run_bind,p1,p2,p3,Result.andThen_ok];cases e1
   ·simp
   ·simpa using ih
  ·cases h1
def MR:∀ {l:List Field} {k:Nat} {ks:List FK},B8 P k l=some ks->∀f,f∈l->∃q,R3 P f=some q
 | [],_,_,_,f,hf=>by simp at hf
 |g::r,k,ks,h,f,hf=>by
  simp only[B8] at h;split at h
  ·obtain⟨q,hq,h⟩:=bf h;obtain⟨qs,hqs,h⟩:=bf h;rcases bJ.1 hf with rfl|hf
   ·exact⟨q,hq⟩
   ·exact MR hqs f hf
  ·cases h
def Wp(hr:Rel j M w)(he:cn j M w bp a){neg:Bool}{y y':Operand}{z z':fX}{t t':TypeId}{fs:Array Field}{ks:List FK}(hop:o.op = .binOp (if neg then .neq else .eql) t y y' t')(ht:P.underlying t=some (.struct fs))
  (hst:P.stoodInHeld t=false) (hks:B8 P 0 fs.toList=some ks) (hz:eW y=some z) (hz':eW y'=some z') (h:ei C bp M (.QG ks neg z z')=some x):∃v w',rj P o a w v w'/\iW j M w x v w':=by
 simp only[ei] at h;have h1:=cT he hz;have h2:=cT he hz';split at h
 ·rename_i cs ds ez ez';obtain⟨e,hee,h⟩:=bo h;cases h;rw[ez] at h1;rw[ez'] at h2;obtain⟨us,hus,hul,huc⟩:=h1.nb;obtain⟨vs,hvs,hvl,hvc⟩:=h2.nb;have hfs:P.fieldsOf t=fs:=by simp[Program.fieldsOf,ht]
  have heq:(Op.equal t (.agg us) (.agg vs)).run P w = .ok e w:=by
   unfold Op.equal;rw[show Op.maxDepth=9999+1 from rfl,run_equalIn_struct w 9999 t us vs (by rw[hfs]; exact ht) hst,hfs]
   exact zN (d:=9998) ⟨hul,huc⟩ ⟨hvl,hvc⟩ hks (by simpa using hee)
  have hgt:P.eqGuardType P.depth t=false:=by
   unfold Program.depth;rw[show 2*(P.types.size+Made.depth)+2=(2*(P.types.size+Made.depth)+1)+1 from rfl,Program.eqGuardType,ht]
   simp only;rw[Array.any_eq_false];intro i hi;obtain⟨q,hq⟩:=MR hks fs[i] dx;have:=(Lr hq).2.2;simp only[Program.eqGuardType];cases q<;>simp only at this
   ·obtain⟨_,hu⟩:=this; simp[hu]
   ·simp[this]
   ·simp[this]
  have hguard:∀op,(eqGuard op t y y' (.agg us) (.agg vs)).run P w = .ok () w:=by
   intro op;unfold eqGuard;cases op<;>simp[hgt]
  cases neg
  ·exact⟨.bool e,w,.inl (by simp[execOp,hop,hus,hvs,hguard,binOp,heq]),.still hr (.plain (.bool _))⟩
  ·exact⟨.bool (!e),w,.inl (by simp[execOp,hop,hus,hvs,hguard,binOp,heq]),.still hr (.plain (.bool _))⟩
 ·cases h
end
end
end
section
open Go Go.RowKit
variable [kC]
section
variable {j:J} {M:aC} {w w':World}
def BA(hr:Rel j M w):∀n,∃j',Rel j' (M++List.replicate n cL.vW) w/\Ext j M w j' (M++List.replicate n cL.vW) w
 |0=>⟨j,by simpa using hr,by simpa using Ext.refl j M w⟩
 |n+1=>by
  obtain⟨j',h1,h2⟩:=BA hr n;have q:Quiet w w:=⟨au _,rfl,rfl,rfl⟩;refine⟨gI j' (M++List.replicate n cL.vW).length none,?_⟩;rw[nQ,<-cd];exact⟨h1.push (ob:=none) (bx := .vW) (fun b h=>by cases h) q (fun _ _=>rfl) (fun h=>by cases h) (fun sz n b h h'=>by cases h'),h2.trans (Ext.push (fun b h=>by cases h) q (fun _ _=>rfl))⟩
def Ext.fill{p b:Nat}{cs:List ag}(hM:M[p]?=some .vW)(hob:w.heap.size<=b)(q:Quiet w w')(hb:∀b,b<w.heap.size->w'.heap[b]?=w.heap[b]?) :
  Ext j M w (gI j p (some b)) (M.set p (.cells cs)) w' where
 len:=dx
 size:=q.size
 os:=q.os
 tape:=q.tape
 output:=q.output
 X:=rfl
 fix:=fun i bx h hf=>by
  have e:p≠i:=by rintro rfl; rw[hM] at h; cases h; cases hf
  exact⟨by simp[gI,eY e],bx,by rw[cQ e]; exact h,rfl⟩
 tick:=fun i sz n h=>by
  have e:p≠i:=by rintro rfl; rw[hM] at h; cases h
  exact⟨n,au _,by rw[cQ e]; exact h,fun _=>⟨by simp[gI,eY e],fun b vs t _ hv=>⟨vs,(hb b (lt_of_block hv)).trans hv,rfl⟩⟩⟩
 arr:=fun i sz v xs h=>by
  have e:p≠i:=by rintro rfl; rw[hM] at h; cases h
  exact .inr ⟨v,xs,by rw[cQ e]; exact h,au _,fun _=>⟨by simp[gI,eY e],rfl,fun b vs t _ hv=>⟨vs,(hb b (lt_of_block hv)).trans hv,rfl⟩⟩⟩
 tags:=fun b0 vs0 t0 fr0 h=>⟨vs0,fr0,(hb b0 (lt_of_block h)).trans h,rfl⟩
 iE:=fun b0 off h=>by
  refine⟨⟨bu h.1 q.size,fun id hid hj=>?_,h.3⟩,World.cell?_of_block (w:=w) (hb b0 h.1)⟩
  by_cases he:id=p
  ·have:b=b0:=by simpa[gI,he] using hj
   have:=h.1;omega
  ·rw[cQ (eY he)];exact h.2 id (by simpa using hid) (by simpa[gI,he] using hj)
 ur:=fun b0 cJ h=>by
  refine⟨hb b0 cJ,fun i hi hj=>?_⟩
  by_cases he:i=p
  ·have:b=b0:=by simpa[gI,he] using hj
   omega
  ·exact h i (by simpa using hi) (by simpa[gI,he] using hj)
def Rel.fill(hr:Rel j M w){p b:Nat}{cs:List ag}(hM:M[p]?=some .vW)(hob:w.heap.size<=b)(hbl:b<w'.heap.size)(q:Quiet w w')(hb:∀b,b<w.heap.size->w'.heap[b]?=w.heap[b]?)
  (hbox:∀j' M',Ext j M w j' M' w'->Holds j' M' w' b (.cells cs)):Rel (gI j p (some b)) (M.set p (.cells cs)) w':=by
 have ext:Ext j M w (gI j p (some b)) (M.set p (.cells cs)) w':=Ext.fill hM hob q hb;have up:∀i,i≠p->gI j p (some b) i=j i:=fun i hi=>by simp[gI,hi]
 have hp:=aO hM;refine⟨fun i i' b0 hi hi' h h'=>?_,fun i b0 hi h=>?_,fun i bx' h hf=>?_,fun i sz n b0 h hj=>?_,fun i sz ver xs h=>?_,fun i b0 hi h off hx=>?_,fun b off h=>bu (hr.AF b off h) q.size⟩
 ·simp only[dh] at hi hi'
  by_cases e:i=p<;>by_cases e':i'=p
  ·omega
  ·have h1:b=b0:=by simpa[gI,e] using h
   rw[up i' e'] at h';have:=hr.lt i' b0 hi' h';omega
  ·have h1:b=b0:=by simpa[gI,e'] using h'
   rw[up i e] at h;have:=hr.lt i b0 hi h;omega
  ·rw[up i e] at h;rw[up i' e'] at h';exact hr.inj i i' b0 hi hi' h h'
 ·simp only[dh] at hi
  by_cases e:i=p
  ·have h1:b=b0:=by simpa[gI,e] using h
   omega
  ·rw[up i e] at h;exact bu (hr.lt i b0 hi h) q.size
 ·by_cases e:i=p
  ·subst e;rw[ef hp] at h;cases h;exact⟨b,by simp[gI],hbox _ _ ext⟩
  ·rw[cQ (eY e)] at h;obtain⟨b0,h1,h2⟩:=hr.fix i bx' h hf;exact⟨b0,by rw[up i e]; exact h1,h2.mono ext (hb b0 (hr.lt i b0 (aO h) h1))⟩
 ·by_cases e:i=p
  ·subst e; rw[ef hp] at h; cases h
  ·rw[cQ (eY e)] at h;rw[up i e] at hj;obtain⟨vs,t,h1⟩:=hr.tick i sz n b0 h hj;exact⟨vs,t,(hb b0 (lt_of_block h1)).trans h1⟩
 ·by_cases e:i=p
  ·subst e; rw[ef hp] at h; cases h
  ·rw[cQ (eY e)] at h;exact qG hr ext h (up i e) fun b0 h1=>hb b0 (hr.lt i b0 (aO h) h1)
 ·simp only[dh] at hi
  by_cases e:i=p
  ·have h1:b=b0:=by simpa[gI,e] using h
   have h2:=hr.AF b0 off hx;omega
  ·rw[up i e] at h;exact hr.vk i b0 hi h off hx
def IM(hr:Rel j M w){p:Nat}(hM:M[p]?=some .vW){cs:List ag}{vs:Array Value}(hc:RC j M w cs vs)(t:TypeId) :
  iW j M w (.ptr p 0,M.set p (.cells cs)) (.pointer (some ⟨w.heap.size,0,none⟩)) { w with heap:=w.heap.push (.cells vs t (0,0)) }:=by
 have q:Quiet w { w with heap:=w.heap.push (.cells vs t (0,0)) }:=⟨dx,rfl,rfl,rfl⟩
 have hb:∀b,b<w.heap.size->({ w with heap:=w.heap.push (.cells vs t (0,0)) }:World).heap[b]?=w.heap[b]?:=fun b hb=>by
  show(w.heap.push _)[b]?=_
  rw[fU,aR aJ]
 have hn:({ w with heap:=w.heap.push (.cells vs t (0,0)) }:World).heap[w.heap.size]?=some (.cells vs t (0,0)):=dx
 have hp:=aO hM;exact⟨gI j p (some w.heap.size),hr.fill hM (au _) dx q hb (fun j' M' hx=>⟨vs,t,hn,hc.1,fun i c v h1 h2=>(hc.2 i c v h1 h2).mono hx⟩),Ext.fill hM (au _) q hb,.ptr (by simpa using hp) ⟨cs,ef hp⟩ (by simp[gI])⟩
end
variable {P:Program} {own:List Nat} {o:Oper}
def Ox{l:List ag}{t:TypeId}(hop:o.op = .alloc t)(h:ON P own o=some (.yU l)):∃i zv,P.info? t=some i/\i.zero=some zv/\tp zv.cells.toList=some l:=by
 simp only[ON,hop] at h;obtain⟨i,hi,h⟩:=bf h;obtain⟨z,hz,h⟩:=bf h;obtain⟨l',hl,h⟩:=bf h;split at h
 ·split at h
  ·split at h
   ·obtain⟨n,hn,h⟩:=bf h;cases h
   ·cases h
  ·injection h with h; cases h; exact⟨i,z,hi,hz,hl⟩
 ·injection h with h; cases h; exact⟨i,z,hi,hz,hl⟩
def Oy{l:List ag}{t0:TypeId}(hop:o.op = .alloc t0)(h:ON P own o=some (.yU l))(a:Act)(w:World):∃vs t,(∀j M w',RC j M w' l vs)/\rj P o a w (.pointer (some ⟨w.heap.size,0,none⟩)) { w with heap:=w.heap.push (.cells vs t (0,0)) }:=by
 obtain⟨i,zv,hi,hz,hl⟩:=Ox hop h;refine⟨zv.cells,t0,fun j M w'=>?_,.inl (by simp[execOp,hop,Instr.alloc,zeroValue,pW hi,hz,newVar,newRow])⟩
 obtain⟨h1,h2⟩:=qF (j:=j) (M:=M) (w:=w') hl;exact⟨by simpa using h1,fun i c v hc hv=>h2 i c v hc (by simpa using hv)⟩
end
section
open Go Go.RowKit
variable [kC]
theorem zi{x:Nat}:∀(l a:List Nat),x∈kb a l↔x∈a\/x∈l
 | [],a=>by simp[kb]
 |y::r,a=>by
  rw[kb,zi r]
  grind
theorem rI:∀(l a:List Nat),a.Nodup->(kb a l).Nodup
 | [],a,h=>h
 |y::r,a,h=>by
  refine rI r _ ?_
  grind
def JG(M:aC)(l:List Nat):(reach M l).Nodup:=rI _ _ (rI _ _ (rI _ _ (rI _ _ ly)))
def PN{M:aC}{l:List Nat}{x:Nat}(h:x∈l):x∈reach M l:=by
 simp_all [reach,kx,zi]
theorem Gh{M:aC}{x i:Nat}{b:cL}:∀ {l:List Nat},i∈l->M[i]?=some b->x∈b.ids->x∈qz M l
 | [],h,_,_=>jK
 |k::r,h,hb,hx=>by
  rw[qz,bq];rcases bJ.1 h with rfl|h
  ·grind [fc]
  ·exact .inr (Gh h hb hx)
theorem OW{M:aC}{ids:List Nat}(h:kx M ids=ids){i x:Nat}{b:cL}(hi:i∈ids)(hb:M[i]?=some b)(hx:x∈b.ids):x∈ids:=by
 rw[<-h,kx,zi]
 grind [Gh]
theorem ui:∀ {ids:List Nat} {x:Nat},x∈ids->ids[iB ids x]?=some x
 | [],_,h=>jK
 |a::l,x,h=>by
  rw[iB];split
  ·grind
  ·rcases bJ.1 h with rfl|h
   ·omega
   ·simpa using ui h
def uT{ids:List Nat}{x:Nat}(h:x∈ids):iB ids x<ids.length:=aO (ui h)
theorem CY:∀ {ids:List Nat} {i x:Nat},ids.Nodup->ids[i]?=some x->iB ids x=i
 | [],i,x,_,h=>jK
 |a::l,i,x,hn,h=>by
  rw[iB];have hn':=oM.1 hn;cases i with
  |zero=>grind
  |succ i =>
   have h':l[i]?=some x:=jK;rw[aR jK,CY hn'.2 h']
def Mz{ids:List Nat}{x:Nat}(h:x∈ids):wD ids (iB ids x)=x:=by rw[wD,fc,ui h]; rfl
def aez{ids:List Nat}{i x:Nat}(h:ids[i]?=some x):wD ids i=x:=by rw[wD,fc,h]; rfl
theorem Ew{M:aC}{ρ:Nat->Nat}:∀ {l:List Nat} {B:aC},jZ M ρ l=some B->B.length=l.length/\∀(i id:Nat),l[i]?=some id->∃b,M[id]?=some b/\b.flat=true/\B[i]?=some (b.pq ρ)
 | [],B,h=>by grind [jZ]
 |k::r,B,h=>by
  simp[jZ,fc] at h;split at h
  ·split at h
   ·obtain⟨l,hl,h⟩:=bo h;injection h with h; obtain⟨h1,h2⟩:=Ew hl
    grind
   grind
  grind
theorem wz{ids:List Nat}:∀ {l:List Nat} {B M:aC},l.Nodup->l.length=B.length->(mb ids M l B).length=M.length/\(∀i,i∉l->(mb ids M l B)[i]?=M[i]?) /\
  ∀(i id:Nat)(b:cL),l[i]?=some id->id<M.length->B[i]?=some b->(mb ids M l B)[id]?=some (b.pq (wD ids))
 | [],B,M,_,_=>by simp[mb]
 |k::r,[],M,_,hl=>by simp at hl
 |k::r,b::B,M,hn,hl=>by
  rw[mb,fe];have hn':=oM.1 hn;obtain⟨h1,h2,h3⟩:=wz (ids:=ids) (B:=B) (M:=M.set k (b.pq (wD ids))) hn'.2 jK
  grind
def NT(ρ:Nat->Nat)(b:cL):(b.pq ρ).tag=b.tag:=by cases b<;>rfl
def yi{ρ:Nat->Nat}{b:cL}(h:b.loose=true):b.pq ρ=b:=by cases b<;>first|rfl|cases h
structure Sub(j:J)(M:aC)(w:World)(ids:List Nat)(B:aC):Prop where
 nodup:ids.Nodup
 len:B.length=ids.length
 box:∀(i id:Nat),ids[i]?=some id->∃b,M[id]?=some b/\b.flat=true/\B[i]?=some (b.pq (iB ids))
 closed:∀(i:Nat)(b:cL),i∈ids->M[i]?=some b->∀x,x∈b.ids->x∈ids
def down(j:J)(M:aC)(ids:List Nat):J:=⟨fun i=>match ids[i]? with|some id=>j id|none=>none,fun b off=>j.X b off\/∃id,id<M.length/\id∉ids/\j id=some b/\¬ ∃sz n,M[id]?=some (.tick sz n)/\off<n*sz⟩
section
variable {j:J} {M B:aC} {w:World} {ids:List Nat}
theorem Sub.at_(s:Sub j M w ids B){id:Nat}(h:id∈ids){b:cL}(hb:M[id]?=some b):B[iB ids id]?=some (b.pq (iB ids)):=by
 obtain⟨b',h1,_,h2⟩:=s.box _ _ (ui h)
 grind
theorem Sub.inv(s:Sub j M w ids B){i:Nat}{c:cL}(h:B[i]?=some c):∃id b,ids[i]?=some id/\M[id]?=some b/\b.flat=true/\c=b.pq (iB ids):=by
 have hi:i<ids.length:=by rw[<-s.len]; grind
 obtain⟨b,h1,h2,h3⟩:=s.box i _ (ai hi)
 grind
theorem nq{id:Nat}(h:id∈ids):(down j M ids) (iB ids id)=j id:=by grind [down,ui]
theorem rz{i b:Nat}(h:(down j M ids) i=some b):∃id,ids[i]?=some id/\j id=some b:=by
 grind [down]
def Sub.iE(s:Sub j M w ids B){b off:Nat}(h:ow j M w b off):ow (down j M ids) B w b off:=by
 refine⟨h.lt,fun i hi hj=>?_,fun hx=>?_⟩
 ·obtain⟨id,h1,h2⟩:=rz hj;obtain⟨bx,h3,_,h4⟩:=s.box i _ h1;obtain⟨sz,n,h5,h6⟩:=h.ids _ (aO h3) h2;rw[h3] at h5; cases h5;exact⟨sz,n,h4,h6⟩
 ·rcases hx with hx|⟨id,h1,_,h2,h3⟩
  ·exact h.nx hx
  ·exact h3 (h.ids _ h1 h2)
theorem Sub.W6(s:Sub j M w ids B){x:ag}{v:Value}(h:gn j M w x v)(hf:x.IU=true)(hi:∀i,i∈x.iK->i∈ids):gn (down j M ids) B w (x.uw (iB ids)) v:=by
 cases h with
 |plain h =>
  have:x.uw (iB ids)=x:=by cases h<;>rfl
  rw[this];exact .plain (h.mono fun b off hs=>⟨s.iE hs,rfl⟩)
 |c0 A=>exact .c0 A
 | @own k xs v sz n hk hn hp ht =>
  have hki:k∈ids:=hi k (by simp[ag.iK])
  refine .own (sz:=sz) (n:=n) (s.at_ hki hk) hn (hp.mono fun b off hs=>⟨s.iE hs,rfl⟩) fun he=>?_
  rcases ht he with ⟨g1,g2,g3⟩|⟨b,cap,vs,t,g1,g2,g3,g4,g5⟩
  ·exact .inl ⟨by rw[nq hki]; omega,g2,g3⟩
  ·exact .inr ⟨b,cap,vs,t,by rw[nq hki]; exact g1,g2,g3,g4,g5⟩
 |agg=>cases hf
 |tuple=>cases hf
 | @ptr id off b hid hc hj =>
  have hki:id∈ids:=hi id (by simp[ag.iK])
  obtain⟨cs,hc⟩:=hc;exact .ptr (by rw[s.len]; exact uT hki) ⟨_,s.at_ hki hc⟩ (by rw[nq hki]; omega)
 |jC h=>exact .jC fun k c hk=>⟨(h k c hk).1,s.iE (h k c hk).2.1,(h k c hk).2.2.mono fun b off hs=>⟨s.iE hs,rfl⟩⟩
 |func=>cases hf
 | @iC id b hc hj =>
  have hki:id∈ids:=hi id (by simp[ag.iK])
  obtain⟨ks,vs,hc⟩:=hc;exact .iC ⟨_,_,s.at_ hki hc⟩ (by rw[nq hki]; exact hj)
 | @j7 id b hc hj =>
  have hki:id∈ids:=hi id (by simp[ag.iK])
  obtain⟨ks,vs,hc⟩:=hc;exact .j7 ⟨_,_,s.at_ hki hc⟩ (by rw[nq hki]; omega)
 | @ko t id off b hc hj =>
  have hki:id∈ids:=hi id (by simp[ag.iK])
  obtain⟨cs,hc⟩:=hc;exact .ko ⟨_,s.at_ hki hc⟩ (by rw[nq hki]; exact hj)
 |qZ hl hd=>exact .qZ hl fun i c v h1 h2=>(hd i c v h1 h2).mono fun b off hs=>⟨s.iE hs,rfl⟩
 | @ki ks vs b es cl hb hfr hx hw hk hv hks hvs =>
  refine .ki hb (fun i _ he=>?_) (fun off hx'=>?_) hw hk hv (fun i k e h1 h2=>(hks i k e h1 h2).mono fun b off hs=>⟨s.iE hs,rfl⟩) (fun i k e h1 h2=>(hvs i k e h1 h2).mono fun b off hs=>⟨s.iE hs,rfl⟩)
  ·obtain⟨id,h1,h2⟩:=rz he;obtain⟨bx,h3,_⟩:=s.box _ _ h1
   grind
  ·rcases hx' with hx'|⟨id,h1,_,h2,_⟩
   ·exact hx off hx'
   grind
 | @cD id ver sz0 lo hi v h0 hid hM hv =>
  have hki:id∈ids:=hi id (by simp[ag.iK])
  have hb:=ai hid;have hat:=s.at_ hki hb;rw[yi (hM _ hb)] at hat;refine .cD h0 (by rw[s.len]; exact uT hki) (fun bx hbx=>?_) fun sz v' xs h=>?_
  ·rw[hat] at hbx; exact hM bx (hb.trans hbx)
  ·rw[hat] at h;obtain⟨k1,k2⟩:=hv sz v' xs (hb.trans h)
   exact⟨k1,fun he=>by
    obtain⟨l0,l1,l2,⟨l3,l4,l5⟩|⟨b,cap,vs,t,l3,r⟩⟩:=k2 he
    ·exact⟨l0,l1,l2,.inl ⟨l3,by rw[nq hki]; omega,l5⟩⟩
    exact⟨l0,l1,l2,.inr ⟨b,cap,vs,t,by rw[nq hki]; omega,r⟩⟩⟩
 | @jv id ver i off v h0 hid hM hv =>
  have hki:id∈ids:=hi id (by simp[ag.iK])
  have hb:=ai hid;have hat:=s.at_ hki hb;rw[yi (hM _ hb)] at hat;refine .jv h0 (by rw[s.len]; exact uT hki) (fun bx hbx=>?_) fun sz v' xs h=>?_
  ·rw[hat] at hbx; exact hM bx (hb.trans hbx)
  grind [nq]
 |any v=>exact .any v
theorem Sub.Md(s:Sub j M w ids B){x:ag}{v:Value}(h:gn j M w x v)(hf:x.vB=true)(hi:∀i,i∈x.nH->i∈ids):gn (down j M ids) B w (x.sk (iB ids)) v:=by
 by_cases hfn:∃f caps,x = .func f caps
 ·obtain⟨f,caps,rfl⟩:=hfn;obtain⟨vs,rfl,hl,hc⟩:=h.rF;refine .func jK fun i c u hci hu=>?_
  rw[aX,aV] at hci;obtain⟨c0,hc0,rfl⟩:=hci;have hm:=aE hc0;exact s.W6 (hc i _ u hc0 hu) (bN.1 hf _ hm) fun q hq=>hi q (jt.2 ⟨c0,hm,hq⟩)
 ·have e1:x.sk (iB ids)=x.uw (iB ids):=by cases x<;>first|rfl|grind
  have e2:x.nH=x.iK:=by cases x<;>first|rfl|grind
  have e3:x.IU=true:=by cases x<;>first|rfl|exact absurd ⟨_,_,rfl⟩ hfn|cases hf
  rw[e1];exact s.W6 h e3 (by rw[<-e2]; omega)
theorem Sub.rep(s:Sub j M w ids B){x:ag}{v:Value}(h:gn j M w x v)(hf:x.flat=true)(hi:∀i,i∈x.ids->i∈ids):gn (down j M ids) B w (x.pq (iB ids)) v:=by
 by_cases hag:∃cs,x = .agg cs
 ·obtain⟨cs,rfl⟩:=hag;obtain⟨vs,rfl,hl,hc⟩:=h.nb;refine .agg jK fun i c u hci hu=>?_
  rw[aX,aV] at hci;obtain⟨c0,hc0,rfl⟩:=hci;have hm:=aE hc0;exact s.Md (hc i _ u hc0 hu) (bN.1 hf _ hm) fun q hq=>hi q (jt.2 ⟨c0,hm,hq⟩)
 ·have e1:x.pq (iB ids)=x.sk (iB ids):=by cases x<;>first|rfl|grind
  have e2:x.ids=x.nH:=by cases x<;>first|rfl|grind
  have e3:x.vB=true:=by cases x<;>first|exact hf|grind
  rw[e1];exact s.Md h e3 (by rw[<-e2]; omega)
theorem Sub.rel(s:Sub j M w ids B)(hr:Rel j M w):Rel (down j M ids) B w:=by
 have QL:∀ {i id:Nat},ids[i]?=some id->id<M.length:=fun h=>by
  obtain⟨b,h1,_⟩:=s.box _ _ h
  grind
 refine⟨fun i i' b hi hi' h h'=>?_,fun i b hi h=>?_,fun i cb h hf=>?_,fun i sz n b h hj=>?_,fun i sz ver xs h=>?_,fun i b hi h off hx=>?_,fun b off h=>?_⟩
 ·obtain⟨id,h1,h2⟩:=rz h;obtain⟨id',h1',h2'⟩:=rz h';have:=hr.inj id id' b (QL h1) (QL h1') h2 h2';subst this;rw[<-CY s.nodup h1,CY s.nodup h1']
 ·obtain⟨id,h1,h2⟩:=rz h;exact hr.lt id b (QL h1) h2
 ·obtain⟨id,bx,h1,h2,h3,h4⟩:=s.inv h;subst h4;have hfx:bx.fixed=true:=by cases bx<;>first|rfl|cases hf
  obtain⟨b,g1,g2⟩:=hr.fix id bx h2 hfx;refine⟨b,by grind [down],?_⟩
  have hcl:∀p,p∈bx.ids->p∈ids:=s.closed id _ (aE h1) h2;cases bx with
  |tick sz n=>cases hf
  |cells cs0 =>
   obtain⟨vs,t,k1,k2,k3⟩:=g2;refine⟨vs,t,k1,by simpa using k2,fun q c v hc hv=>?_⟩
   rw[aX,aV] at hc;obtain⟨c0,hc0,rfl⟩:=hc;have hm:=aE hc0;exact s.Md (k3 q c0 v hc0 hv) (bN.1 h3 c0 hm) fun p hp=>hcl p (jt.2 ⟨c0,hm,hp⟩)
  |map ks vs =>
   obtain⟨es,cl,k1,k2,k3,k4,k5⟩:=g2;refine⟨es,cl,k1,k2,by simpa using k3,fun q c e hc he=>(k4 q c e hc he).mono fun b off hs=>⟨s.iE hs,rfl⟩,fun q c e hc he=>?_⟩
   rw[aX,aV] at hc;obtain⟨c0,hc0,rfl⟩:=hc;have hm:=aE hc0;exact s.rep (k5 q c0 e hc0 he) (bN.1 h3 c0 hm) fun p hp=>hcl p (jt.2 ⟨c0,hm,hp⟩)
  |nW st pos=>exact g2
  |vW=>cases hf
  |arr=>cases hf
 ·obtain⟨id,bx,h1,h2,h3,h4⟩:=s.inv h;obtain⟨id',h1',h2'⟩:=rz hj;rw[h1] at h1'; cases h1';cases bx<;>first|cases h4|skip
  exact hr.tick id _ _ b h2 h2'
 ·obtain⟨id,bx,h1,h2,h3,h4⟩:=s.inv h;cases bx<;>first|cases h4|skip
  obtain⟨g0,g1⟩|⟨b,vs,t,g1,g2,g3,g4,g5⟩:=hr.arr id _ _ _ h2
  ·grind [down]
  exact .inr ⟨b,vs,t,by grind [down],g2,g3,g4,fun q x k c hx hk=>(g5 q x k c hx hk).imp fun u hu=>⟨hu.1,hu.2.mono fun b off hs=>⟨s.iE hs,rfl⟩⟩⟩
 ·obtain⟨id,h1,h2⟩:=rz h;rcases hx with hx|⟨id',g1,g2,g3,_⟩
  ·exact hr.vk id b (QL h1) h2 off hx
  ·have:=hr.inj id id' b (QL h1) g1 h2 g3
   grind
 ·rcases h with h|⟨id,g1,_,g3,_⟩
  ·exact hr.AF b off h
  ·exact hr.lt id b g1 g3
variable {j2:J} {B':aC} {w':World}
open Classical in
noncomputable def Qp(j j2:J)(ids:List Nat):J:=⟨fun id=>if id∈ids then j2 (iB ids id) else j id,j.X⟩
theorem lQ{id:Nat}(h:id∈ids):(Qp j j2 ids) id=j2 (iB ids id):=by grind [Qp]
theorem oY{id:Nat}(h:id∉ids):(Qp j j2 ids) id=j id:=by grind [Qp]
structure wV(j:J)(M B:aC)(w:World)(ids:List Nat)(j2:J)(B':aC)(w':World):Prop where
 sub:Sub j M w ids B
 hr:Rel j M w
 ext:Ext (down j M ids) B w j2 B' w'
 rel:Rel j2 B' w'
 len:B'.length=B.length
 flat:∀b,b∈B'->b.flat=true
variable (bk:wV j M B w ids j2 B' w')
include bk
theorem wV.QL{i id:Nat}(h:ids[i]?=some id):id<M.length:=by
 obtain⟨b,h1,_⟩:=bk.sub.box _ _ h
 grind
def wV.LB{id:Nat}(h:id∈ids){b:cL}(hb:B'[iB ids id]?=some b):(mb ids M ids B')[id]?=some (b.pq (wD ids)) :=
 (wz bk.sub.nodup (by rw[bk.len,bk.sub.len])).2.2 _ _ b (ui h) (bk.QL (ui h)) hb
def wV.L7{id:Nat}(h:id∉ids):(mb ids M ids B')[id]?=M[id]?:=(wz bk.sub.nodup (by rw[bk.len,bk.sub.len])).2.1 _ h
def wV.sq:(mb ids M ids B').length=M.length:=(wz bk.sub.nodup (by rw[bk.len,bk.sub.len])).1
def wV.some_{id:Nat}(h:id∈ids):∃b,B'[iB ids id]?=some b/\b.flat=true:=by
 have hi:iB ids id<B'.length:=by rw[bk.len,bk.sub.len]; exact uT h
 exact⟨_,ai hi,bk.flat _ (js _)⟩
theorem wV.ur{id b:Nat}(hid:id<M.length)(h:id∉ids)(hj:j id=some b):w'.heap[b]?=w.heap[b]?/\∀i,i<B'.length->j2 i≠some b:=by
 refine bk.ext.ur b (bk.hr.lt _ b hid hj) fun i hi he=>?_
 obtain⟨id',h1,h2⟩:=rz he;have:=bk.hr.inj _ _ b hid (bk.QL h1) hj h2
 grind
def wV.iE{b off:Nat}(h:ow j2 B' w' b off):ow (Qp j j2 ids) (mb ids M ids B') w' b off:=by
 have hX:=bk.ext.X;have hnx:=h.nx;rw[hX] at hnx;refine⟨h.lt,fun id hid hj=>?_,fun hx=>hnx (.inl hx)⟩
 rw[bk.sq] at hid
 by_cases hi:id∈ids
 ·rw[lQ hi] at hj;obtain⟨sz,n,h1,h2⟩:=h.ids _ (by rw[bk.len,bk.sub.len]; exact uT hi) hj
  exact⟨sz,n,bk.LB hi h1,h2⟩
 ·rw[oY hi] at hj;rw[bk.L7 hi];exact Classical.byContradiction fun hc=>hnx (.inr ⟨id,hid,hi,hj,hc⟩)
def wV.Y2:Ext j M w (Qp j j2 ids) (mb ids M ids B') w' where
 len:=by rw[bk.sq]; exact au _
 size:=bk.ext.size
 os:=bk.ext.os
 tape:=bk.ext.tape
 output:=bk.ext.output
 X:=rfl
 fix:=fun id bx h hf=>by
  by_cases hi:id∈ids
  ·obtain⟨g1,bx',g2,g3⟩:=bk.ext.fix _ _ (bk.sub.at_ hi h) (by cases bx<;>first|rfl|cases hf)
   rw[lQ hi,g1,nq hi];refine⟨rfl,_,bk.LB hi g2,?_⟩;rw[NT,g3,NT]
  ·rw[oY hi,bk.L7 hi]; exact⟨rfl,bx,h,rfl⟩
 tick:=fun id sz n h=>by
  by_cases hi:id∈ids
  ·obtain⟨n',g1,g2,g3⟩:=bk.ext.tick _ _ _ (bk.sub.at_ hi h);refine⟨n',g1,bk.LB hi g2,fun he=>?_⟩
   obtain⟨k1,k2⟩:=g3 he;rw[lQ hi,k1,nq hi];exact⟨rfl,fun b vs t hb hv=>k2 b vs t (by rw[nq hi]; exact hb) hv⟩
  ·rw[oY hi,bk.L7 hi];exact⟨n,au _,h,fun _=>⟨rfl,fun b vs t hb hv=>⟨vs,(bk.ur (aO h) hi hb).1.trans hv,rfl⟩⟩⟩
 arr:=fun id sz v xs h=>by
  by_cases hi:id∈ids
  ·rcases bk.ext.arr _ _ _ _ (bk.sub.at_ hi h) with ⟨n',g⟩|⟨v',xs',g2,g3,g4⟩
   ·exact .inl ⟨n',bk.LB hi g⟩
   ·refine .inr ⟨v',xs',bk.LB hi g2,g3,fun he=>?_⟩
    obtain⟨k1,k2,k3⟩:=g4 he;rw[lQ hi,k1,nq hi];exact⟨rfl,k2,fun b vs t hb hv=>k3 b _ t (by rw[nq hi]; exact hb) hv⟩
  ·rw[oY hi,bk.L7 hi];exact .inr ⟨v,xs,h,au _,fun _=>⟨rfl,rfl,fun b vs t hb hv=>⟨vs,(bk.ur (aO h) hi hb).1.trans hv,rfl⟩⟩⟩
 tags:=bk.ext.tags
 iE:=fun b off h=>by
  obtain⟨h1,h2⟩:=bk.ext.iE b _ (bk.sub.iE h);exact⟨bk.iE h1,h2⟩
 ur:=fun b hb h=>by
  have h1:∀i,i<B.length->(down j M _) i≠some b:=fun i _ he=>by
   obtain⟨id,g1,g2⟩:=rz he;exact h id (bk.QL g1) g2
  obtain⟨h2,h3⟩:=bk.ext.ur b hb h1;refine⟨h2,fun id hid he=>?_⟩
  rw[bk.sq] at hid
  by_cases hi:id∈ids
  ·rw[lQ hi] at he;exact h3 _ (by rw[bk.len,bk.sub.len]; exact uT hi) he
  ·rw[oY hi] at he;exact h id hid he
def wV.Di{i:Nat}(h:i<B'.length):∃id,ids[i]?=some id/\id∈ids/\wD ids i=id/\iB ids id=i:=by
 have hi:i<ids.length:=by rw[<-bk.sub.len,<-bk.len]; omega
 have hg:=ai hi;exact⟨_,hg,aE hg,aez hg,CY bk.sub.nodup hg⟩
theorem wV.W6{x:ag}{v:Value}(h:gn j2 B' w' x v)(hf:x.IU=true):gn (Qp j j2 ids) (mb ids M ids B') w' (x.uw (wD ids)) v:=by
 cases h with
 |plain h =>
  have:x.uw (wD ids)=x:=by cases h<;>rfl
  rw[this];exact .plain (h.mono fun b off hs=>⟨bk.iE hs,rfl⟩)
 |c0 A=>exact .c0 A
 | @own k xs v sz n hk hn hp ht =>
  obtain⟨id,g1,g2,g3,g4⟩:=bk.Di (aO hk);simp only[ag.uw,g3];refine .own (sz:=sz) (n:=n) (bk.LB g2 (b := .tick sz n) (by rw[g4]; exact hk)) hn (hp.mono fun b off hs=>⟨bk.iE hs,rfl⟩) fun he=>?_
  rcases ht he with ⟨e1,e2,e3⟩|⟨b,cap,vs,t,e1,e2,e3,e4,e5⟩
  ·exact .inl ⟨by rw[lQ g2,g4]; omega,e2,e3⟩
  ·exact .inr ⟨b,cap,vs,t,by rw[lQ g2,g4]; grind,e2,e3,e4,e5⟩
 | @ko t k off b hc hj =>
  obtain⟨cs,hc⟩:=hc;obtain⟨id,g1,g2,g3,g4⟩:=bk.Di (aO hc);simp only[ag.uw,g3];exact .ko ⟨_,bk.LB g2 (b := .cells cs) (by rw[g4]; omega)⟩ (by rw[lQ g2,g4]; omega)
 |agg=>cases hf
 |tuple=>cases hf
 | @ptr k off b hid hc hj =>
  obtain⟨id,g1,g2,g3,g4⟩:=bk.Di hid;obtain⟨cs,hc⟩:=hc;simp only[ag.uw,g3];exact .ptr (by rw[bk.sq]; exact bk.QL g1) ⟨_,bk.LB g2 (b := .cells cs) (by rw[g4]; exact hc)⟩ (by rw[lQ g2,g4]; omega)
 |jC h=>exact .jC fun k c hk=>⟨(h k c hk).1,bk.iE (h k c hk).2.1,(h k c hk).2.2.mono fun b off hs=>⟨bk.iE hs,rfl⟩⟩
 |func=>cases hf
 | @iC k b hc hj =>
  obtain⟨ks,vs,hc⟩:=hc;obtain⟨id,g1,g2,g3,g4⟩:=bk.Di (aO hc);simp only[ag.uw,g3];exact .iC ⟨_,_,bk.LB g2 (b := .map ks vs) (by rw[g4]; omega)⟩ (by rw[lQ g2,g4]; omega)
 | @j7 k b hc hj =>
  obtain⟨st,p,hc⟩:=hc;obtain⟨id,g1,g2,g3,g4⟩:=bk.Di (aO hc);simp only[ag.uw,g3];exact .j7 ⟨_,_,bk.LB g2 (b := .nW st p) (by rw[g4]; exact hc)⟩ (by rw[lQ g2,g4]; exact hj)
 |qZ hl hd=>exact .qZ hl fun i c v h1 h2=>(hd i c v h1 h2).mono fun b off hs=>⟨bk.iE hs,rfl⟩
 | @ki ks vs b es cl hb hfr hx hw hk hv hks hvs =>
  rw[bk.ext.X] at hx;refine .ki hb (fun id hid he=>?_) (fun off hx'=>hx off (.inl hx')) hw hk hv (fun i k e h1 h2=>(hks i k e h1 h2).mono fun b off hs=>⟨bk.iE hs,rfl⟩) (fun i k e h1 h2=>(hvs i k e h1 h2).mono fun b off hs=>⟨bk.iE hs,rfl⟩)
  rw[bk.sq] at hid
  by_cases m:id∈ids
  ·rw[lQ m] at he;exact hfr _ (by rw[bk.len,bk.sub.len]; exact uT m) he
  ·rw[oY m] at he
   by_cases ht:∃sz n,M[id]?=some (.tick sz n)
   ·obtain⟨sz,n,ht⟩:=ht;refine hx (n*sz) (.inr ⟨id,hid,m,he,?_⟩)
    grind
   ·exact hx 0 (.inr ⟨id,hid,m,he,fun⟨sz,n,h1,_⟩=>ht ⟨sz,n,h1⟩⟩)
 | @cD k ver sz0 lo hi v h0 hid hM hv =>
  obtain⟨id,g1,g2,g3,g4⟩:=bk.Di hid;have hb:=ai hid;have hin:=bk.LB g2 (b:=B'[k]) (by rw[g4]; exact hb)
  rw[yi (hM _ hb)] at hin;simp only[ag.uw,g3];refine .cD h0 (by rw[bk.sq]; exact bk.QL g1) (fun bx hbx=>?_) fun sz v' xs h=>?_
  ·rw[hin] at hbx; exact hM bx (hb.trans hbx)
  ·rw[hin] at h;obtain⟨k1,k2⟩:=hv sz v' xs (hb.trans h)
   exact⟨k1,fun he=>by
    obtain⟨l0,l1,l2,⟨l3,l4,l5⟩|⟨b,cap,vs,t,l3,r⟩⟩:=k2 he
    ·exact⟨l0,l1,l2,.inl ⟨l3,by rw[lQ g2,g4]; exact l4,l5⟩⟩
    exact⟨l0,l1,l2,.inr ⟨b,cap,vs,t,by rw[lQ g2,g4]; exact l3,r⟩⟩⟩
 | @jv k ver i off v h0 hid hM hv =>
  obtain⟨id,g1,g2,g3,g4⟩:=bk.Di hid;have hb:=ai hid;have hin:=bk.LB g2 (b:=B'[k]) (by rw[g4]; exact hb)
  rw[yi (hM _ hb)] at hin;simp only[ag.uw,g3];refine .jv h0 (by rw[bk.sq]; exact bk.QL g1) (fun bx hbx=>?_) fun sz v' xs h=>?_
  ·rw[hin] at hbx; exact hM bx (hb.trans hbx)
  grind [lQ]
 |any v=>exact .any v
theorem wV.Md{x:ag}{v:Value}(h:gn j2 B' w' x v)(hf:x.vB=true):gn (Qp j j2 ids) (mb ids M ids B') w' (x.sk (wD ids)) v:=by
 by_cases hfn:∃f caps,x = .func f caps
 ·obtain⟨f,caps,rfl⟩:=hfn;obtain⟨vs,rfl,hl,hc⟩:=h.rF;refine .func jK fun i c u hci hu=>?_
  rw[aX,aV] at hci;obtain⟨c0,hc0,rfl⟩:=hci;exact bk.W6 (hc i _ u hc0 hu) (bN.1 hf _ (aE hc0))
 ·have e1:x.sk (wD ids)=x.uw (wD ids):=by cases x<;>first|rfl|grind
  have e3:x.IU=true:=by cases x<;>first|rfl|exact absurd ⟨_,_,rfl⟩ hfn|cases hf
  rw[e1];exact bk.W6 h e3
theorem wV.rep{x:ag}{v:Value}(h:gn j2 B' w' x v)(hf:x.flat=true):gn (Qp j j2 ids) (mb ids M ids B') w' (x.pq (wD ids)) v:=by
 by_cases hag:∃cs,x = .agg cs
 ·obtain⟨cs,rfl⟩:=hag;obtain⟨vs,rfl,hl,hc⟩:=h.nb;refine .agg jK fun i c u hci hu=>?_
  rw[aX,aV] at hci;obtain⟨c0,hc0,rfl⟩:=hci;exact bk.Md (hc i _ u hc0 hu) (bN.1 hf _ (aE hc0))
 ·have e1:x.pq (wD ids)=x.sk (wD ids):=by cases x<;>first|rfl|grind
  have e3:x.vB=true:=by cases x<;>first|exact hf|grind
  rw[e1];exact bk.Md h e3
theorem wV.auh{x:ag}{v:Value}(h:gn j2 B' w' x v)(hf:x.wH=true):gn (Qp j j2 ids) (mb ids M ids B') w' (x.Aq (wD ids)) v:=by
 by_cases ht:∃vs,x = .tuple vs
 ·obtain⟨cs,rfl⟩:=ht;obtain⟨vs,rfl,hl,hc⟩:=h.tQ;refine .tuple jK fun i c u hci hu=>?_
  rw[aX,aV] at hci;obtain⟨c0,hc0,rfl⟩:=hci;exact bk.rep (hc i _ u hc0 hu) (bN.1 hf _ (aE hc0))
 ·have e1:x.Aq (wD ids)=x.pq (wD ids):=by cases x<;>first|rfl|grind
  have e3:x.flat=true:=by cases x<;>first|exact hf|grind
  rw[e1];exact bk.rep h e3
theorem wV.anW:Rel (Qp j j2 ids) (mb ids M ids B') w':=by
 have ltin:∀ {id:Nat},id∈ids->iB ids id<B'.length:=fun h=>by rw[bk.len,bk.sub.len]; exact uT h
 refine⟨fun id id' b hi hi' h h'=>?_,fun id b hi h=>?_,fun id cb h hf=>?_,fun id sz n b h hj=>?_,fun id sz ver xs h=>?_,fun id b hi h off hx=>?_,fun b off h=>bu (bk.hr.AF b off h) bk.ext.size⟩
 ·rw[bk.sq] at hi hi'
  by_cases m:id∈ids<;>by_cases m':id'∈ids
  ·rw[lQ m] at h;rw[lQ m'] at h';have:=bk.rel.inj _ _ b (ltin m) (ltin m') h h';rw[<-Mz m,this,Mz m']
  ·rw[lQ m] at h;rw[oY m'] at h';exact absurd h ((bk.ur hi' m' h').2 _ (ltin m))
  ·rw[oY m] at h;rw[lQ m'] at h';exact absurd h' ((bk.ur hi m h).2 _ (ltin m'))
  ·rw[oY m] at h;rw[oY m'] at h';exact bk.hr.inj id id' b hi hi' h h'
 ·rw[bk.sq] at hi
  by_cases m:id∈ids
  ·rw[lQ m] at h; exact bk.rel.lt _ b (ltin m) h
  ·rw[oY m] at h; exact bu (bk.hr.lt id b hi h) bk.ext.size
 ·by_cases m:id∈ids
  ·obtain⟨bx,h1,h2⟩:=bk.some_ m;rw[bk.LB m h1] at h;injection h with h
   subst h;have hfx:bx.fixed=true:=by cases bx<;>first|rfl|cases hf
   obtain⟨b,g1,g2⟩:=bk.rel.fix _ bx h1 hfx;refine⟨b,by rw[lQ m]; omega,?_⟩
   cases bx with
   |tick sz n=>cases hf
   |cells cs0 =>
    obtain⟨vs,t,k1,k2,k3⟩:=g2;refine⟨vs,t,k1,jK,fun q c v hc hv=>?_⟩
    rw[aX,aV] at hc;obtain⟨c0,hc0,rfl⟩:=hc;exact bk.Md (k3 q c0 v hc0 hv) (bN.1 h2 c0 (aE hc0))
   |map ks vs =>
    obtain⟨es,cl,k1,k2,k3,k4,k5⟩:=g2;refine⟨es,cl,k1,k2,jK,fun q c e hc he=>(k4 q c e hc he).mono fun b off hs=>⟨bk.iE hs,rfl⟩,fun q c e hc he=>?_⟩
    rw[aX,aV] at hc;obtain⟨c0,hc0,rfl⟩:=hc;exact bk.rep (k5 q c0 e hc0 he) (bN.1 h2 c0 (aE hc0))
   |nW st pos=>exact g2
   |vW=>cases hf
   |arr=>cases hf
  ·rw[bk.L7 m] at h;obtain⟨b,g1,g2⟩:=bk.hr.fix id cb h hf;exact⟨b,by rw[oY m]; omega,g2.mono bk.Y2 (bk.ur (aO h) m g1).1⟩
 ·by_cases m:id∈ids
  ·obtain⟨bx,h1,h2⟩:=bk.some_ m;rw[bk.LB m h1] at h;injection h with h
   rw[lQ m] at hj;cases bx<;>first|cases h|skip
   exact bk.rel.tick _ _ _ b h1 hj
  ·rw[bk.L7 m] at h;rw[oY m] at hj;obtain⟨vs,t,g⟩:=bk.hr.tick id sz n b h hj;exact⟨vs,t,(bk.ur (aO h) m hj).1.trans g⟩
 ·by_cases m:id∈ids
  ·obtain⟨bx,h1,h2⟩:=bk.some_ m;rw[bk.LB m h1] at h;injection h with h
   cases bx<;>first|cases h|skip
   obtain⟨g0,g1⟩|⟨b,vs,t,g1,g2,g3,g4,g5⟩:=bk.rel.arr _ _ _ _ h1
   ·grind [lQ]
   exact .inr ⟨b,vs,t,by rw[lQ m]; omega,g2,g3,g4,fun q x k c hx hk=>(g5 q x k c hx hk).imp fun u hu=>⟨hu.1,hu.2.mono fun b off hs=>⟨bk.iE hs,rfl⟩⟩⟩
  ·rw[bk.L7 m] at h;exact qG bk.hr bk.Y2 h (oY m) fun b hb=>(bk.ur (aO h) m hb).1
 ·rw[bk.sq] at hi
  by_cases m:id∈ids
  ·rw[lQ m] at h;have:=bk.rel.vk _ b (ltin m) h off;rw[bk.ext.X] at this;exact this (.inl hx)
  ·rw[oY m] at h;exact bk.hr.vk id b hi h off hx
end
theorem Gz{ρ:Nat->Nat}{x:ag}(h:x.iK=[]):x.uw ρ=x:=by
 cases x with
 |slice tk xs=>cases tk<;>first|rfl|grind [ag.iK]
 |ptr=>grind [ag.iK]
 |iC=>grind [ag.iK]
 |j7=>grind [ag.iK]
 |cD=>grind [ag.iK]
 |jv=>grind [ag.iK]
 |ko=>grind [ag.iK]
 |_=>rfl
def Jy{ρ:Nat->Nat}:∀ {l:List ag},l.flatMap ag.iK=[]->l.map (ag.uw ρ)=l
 | [],_=>rfl
 |c::r,h=>by
  rw[List.flatMap_cons,List.append_eq_nil_iff] at h;rw[aH,Gz h.1,Jy h.2]
theorem GA{ρ:Nat->Nat}{x:ag}(h:x.nH=[]):x.sk ρ=x:=by
 by_cases hf:∃f caps,x = .func f caps
 ·obtain⟨f,caps,rfl⟩:=hf;exact congrArg _ (Jy h)
 ·have e1:x.sk ρ=x.uw ρ:=by cases x<;>first|rfl|grind
  have e2:x.nH=x.iK:=by cases x<;>first|rfl|grind
  grind [Gz]
def Jz{ρ:Nat->Nat}:∀ {l:List ag},l.flatMap ag.nH=[]->l.map (ag.sk ρ)=l
 | [],_=>rfl
 |c::r,h=>by
  rw[List.flatMap_cons,List.append_eq_nil_iff] at h;rw[aH,GA h.1,Jz h.2]
theorem W0{ρ:Nat->Nat}{x:ag}(_:x.flat=true)(h:x.ids=[]):x.pq ρ=x:=by
 by_cases hf:∃cs,x = .agg cs
 ·obtain⟨cs,rfl⟩:=hf;exact congrArg _ (Jz h)
 ·have e1:x.pq ρ=x.sk ρ:=by cases x<;>first|rfl|grind
  have e2:x.ids=x.nH:=by cases x<;>first|rfl|grind
  grind [GA]
theorem ru{P:Program}{C:eR}(hC:nM P C){j:J}{M:aC}{w:World}{f:Nat}{vs:List ag}{us:Array Value}{x:ag×aC}(hr:Rel j M w)(hG:sV j M w)(h:aU C f vs M=some x)
  (hl:vs.length=us.size) (hv:∀(i:Nat)(c:ag)(u:Value),vs[i]?=some c->us[i]?=some u->gn j M w c u) :
  lG P f=true/\Calls P f us w fun e w'=>vX j M w x e w':=by
 unfold aU at h;generalize hids:reach M (vs.flatMap ag.ids)=ids at h;split at h
 ·rename_i hf;obtain⟨B,hB,h⟩:=bo h;split at h
  ·rename_i hcl;obtain⟨y,hy,h⟩:=bo h;split at h
   ·rename_i hcond;obtain⟨c1,c2,c3⟩:=hcond;cases h;obtain⟨h1,h2⟩:=hC _ _ _ _ hy;obtain⟨p1,p2⟩:=Ew hB;have s:Sub j M w ids B:=⟨by rw[<-hids]; simp[JG],p1,p2,fun i b hi hb x hx=>OW hcl hi hb hx⟩
    refine⟨h1,(h2 (down j M ids) w us (s.rel hr) (hG.iE fun b off h=>s.iE h) jK fun i c u hc hu=>?_).mono ?_⟩
    ·rw[aX,aV] at hc;obtain⟨c0,hc0,rfl⟩:=hc;have hm:=aE hc0;exact s.rep (hv i c0 u hc0 hu) (bN.1 hf c0 hm) fun q hq=>by rw[<-hids]; exact PN (jt.2 ⟨c0,hm,hq⟩)
    ·rintro e w' (⟨v,rfl,j2,g1,g2,g3⟩|⟨u,rfl,hu,j2,g1,g2⟩)
     ·have bk:wV j M B w ids j2 y.2 w':=⟨s,hr,g2,g1,c1,fun b hb=>bN.1 c3 b hb⟩
      exact .inl ⟨v,rfl,Qp j j2 ids,bk.anW,bk.Y2,bk.auh g3 c2⟩
     ·have bk:wV j M B w ids j2 y.2 w':=⟨s,hr,g2,g1,c1,fun b hb=>bN.1 c3 b hb⟩
      exact .inr ⟨u,rfl,by rw[hu]; rfl,Qp j j2 ids,bk.anW,bk.Y2⟩
   grind
  grind
 grind
theorem Xc{j j2:J}{G:aC}{w w':World}{p sz n:Nat}{xs:List ag}{v:Value}(hr:Rel j G w)(hp:G[p]?=some .vW)(h2:Rel j2 [.tick sz n] w')(hx:Ext (down j G []) [] w j2 [.tick sz n] w')
  (hv:gn j2 [.tick sz n] w' (.slice (.own 0) xs) v):iW j G w (.slice (.own p) xs,G.set p (.tick sz n)) v w':=by
 have hpl:=aO hp
 have hold:∀b,b<w.heap.size->w'.heap[b]?=w.heap[b]?/\j2 0≠some b:=fun b hb=>by
  obtain⟨h1,h3⟩:=hx.ur b hb (fun i hi=>by simp at hi)
  exact⟨h1,h3 0 dx⟩
 have up:∀i,i≠p->gI j p (j2 0) i=j i:=fun i hi=>by simp[gI,hi]
 have atp:gI j p (j2 0) p=j2 0:=by simp[gI]
 have nX:∀ {b off},ow j2 [.tick sz n] w' b off->¬j.X b off/\∀id,id<G.length->j id=some b->∃sz n,G[id]?=some (.tick sz n)/\off<n*sz:=fun {b off} hs=>by
  have:=hs.nx;rw[hx.X] at this;refine⟨fun h=>this (.inl h),fun id hid hj=>?_⟩
  by_cases hc:∃sz n,G[id]?=some (.tick sz n)/\off<n*sz
  ·exact hc
  ·exact absurd (Or.inr ⟨id,hid,dx,hj,hc⟩) this
 have iE:∀b off,ow j2 [.tick sz n] w' b off->ow (gI j p (j2 0)) (G.set p (.tick sz n)) w' b off:=fun b off hs=>by
  obtain⟨n1,n2⟩:=nX hs;refine⟨hs.lt,fun id hid hj=>?_,n1⟩
  by_cases e:id=p
  ·subst e;rw[atp] at hj;obtain⟨s1,m1,h3,h4⟩:=hs.ids 0 dx hj
   grind
  grind
 have q:Quiet w w':=⟨hx.size,hx.os,hx.tape,hx.output⟩
 have ext:Ext j G w (gI j p (j2 0)) (G.set p (.tick sz n)) w':={
  len:=dx
  size:=q.size
  os:=q.os
  tape:=q.tape
  output:=q.output
  X:=rfl
  fix:=fun i bx h hf=>by
   have e:i≠p:=by rintro rfl; rw[hp] at h; cases h; cases hf
   grind
  tick:=fun i sz n h=>by
   grind
  arr:=fun i sz v xs h=>by
   grind
  tags:=fun b0 vs0 t0 fr0 h=>⟨vs0,fr0,(hold b0 (lt_of_block h)).1.trans h,rfl⟩
  iE:=fun b0 off h=>by
   refine⟨⟨bu h.1 q.size,fun id hid hj=>?_,h.3⟩,World.cell?_of_block (w:=w) (hold b0 h.1).1⟩
   by_cases e:id=p
   ·subst e; rw[atp] at hj; exact absurd hj (hold b0 h.1).2
   ·rw[cQ (eY e)];rw[up id e] at hj;exact h.2 id (by simpa using hid) hj
  ur:=fun b0 cJ h=>by
   grind }
 refine⟨gI j p (j2 0),⟨fun i i' b0 hi hi' h h'=>?_,fun i b0 hi h=>?_,fun i bx' h hf=>?_,fun i sz0 n0 b0 h hj=>?_,fun i sz0 ver ys h=>?_,fun i b0 hi h off hxx=>?_,fun b off h=>bu (hr.AF b off h) q.size⟩,ext,?_⟩
 ·simp only[dh] at hi hi'
  by_cases e:i=p<;>by_cases e':i'=p
  ·omega
  ·subst e;rw[atp] at h; rw[up i' e'] at h';exact absurd h (hold b0 (hr.lt i' b0 hi' h')).2
  ·subst e';rw[atp] at h'; rw[up i e] at h;exact absurd h' (hold b0 (hr.lt i b0 hi h)).2
  ·rw[up i e] at h; rw[up i' e'] at h';exact hr.inj i i' b0 hi hi' h h'
 ·simp only[dh] at hi
  by_cases e:i=p
  ·subst e; rw[atp] at h; exact h2.lt 0 b0 dx h
  ·rw[up i e] at h;exact bu (hr.lt i b0 hi h) q.size
 ·by_cases e:i=p
  ·subst e;rw[ef hpl] at h;cases h; cases hf
  ·rw[cQ (eY e)] at h;obtain⟨b0,h1,h3⟩:=hr.fix i bx' h hf;exact⟨b0,by rw[up i e]; exact h1,h3.mono ext (hold b0 (hr.lt i b0 (aO h) h1)).1⟩
 ·by_cases e:i=p
  ·subst e; rw[atp] at hj;exact h2.tick 0 sz n b0 rfl hj
  ·rw[cQ (eY e)] at h;rw[up i e] at hj;obtain⟨vs,t,h1⟩:=hr.tick i sz0 n0 b0 h hj;exact⟨vs,t,(hold b0 (lt_of_block h1)).1.trans h1⟩
 ·by_cases e:i=p
  ·subst e; rw[ef hpl] at h; cases h
  ·rw[cQ (eY e)] at h;exact qG hr ext h (up i e) fun b0 h1=>(hold b0 (hr.lt i b0 (aO h) h1)).1
 ·simp only[dh] at hi
  by_cases e:i=p
  ·subst e; rw[atp] at h;exact absurd h (hold b0 (hr.AF b0 off hxx)).2
  ·rw[up i e] at h;exact hr.vk i b0 hi h off hxx
 ·cases hv with
  |plain h=>cases h
  |own hk hn h ht =>
   simp at hk;obtain⟨rfl,rfl⟩:=hk;refine .own (ef hpl) hn (h.mono fun b off hs=>⟨iE b off hs,rfl⟩) fun he=>?_
   rcases ht he with ⟨h1,h3,h4⟩|⟨b,cap,vs,t,h1,h3,h4,h5,h6⟩
   ·exact .inl ⟨by rw[atp]; exact h1,h3,h4⟩
   ·exact .inr ⟨b,cap,vs,t,by rw[atp]; exact h1,h3,h4,h5,h6⟩
theorem Qe{P:Program}{C:eR}(hC:nM P C){j:J}{G:aC}{w:World}{f p:Nat}{vs:List ag}{us:Array Value}{xs:List ag}{sz n:Nat}(hr:Rel j G w)(hG:sV j G w)(hp:G[p]?=some .vW)(hf:vs.all ag.flat=true)(hi:vs.flatMap ag.ids=[])
  (h:C f vs []=some (.slice (.own 0) xs,[.tick sz n])) (hl:vs.length=us.size) (hv:∀(i:Nat)(c:ag)(u:Value),vs[i]?=some c->us[i]?=some u->gn j G w c u) :
  lG P f=true/\Calls P f us w fun e w'=>∃v,e = .returned v/\iW j G w (.slice (.own p) xs,G.set p (.tick sz n)) v w':=by
 obtain⟨h1,h2⟩:=hC _ _ _ _ h;have s:Sub j G w _ []:=⟨ly,rfl,fun i id h=>by simp_all,fun i b hi=>jK⟩
 refine⟨h1,(h2 _ w _ (s.rel hr) (hG.iE fun b off h=>s.iE h) hl fun i c u hc hu=>?_).mono ?_⟩
 ·have hm:=aE hc
  have:=s.rep (hv i c u hc hu) (bN.1 hf c hm) fun q hq=>by
   have hci  := mG.1 hi c hm;rw[hci] at hq; omega
  rwa[W0 (bN.1 hf c hm) (mG.1 hi c hm)] at this
 ·rintro e w' (⟨v,rfl,j2,g1,g2,g3⟩|⟨u,rfl,hu,_⟩)
  ·exact⟨v,rfl,Xc hr hp g1 g2 g3⟩
  grind
section
variable {P:Program} {C:eR} {o:Oper} {bp:Env} {M:aC} {j:J} {w:World} {a:Act} {x:ag×aC}
theorem BU:∀ {xs:List ag} {l:List UInt8},bytesOf xs=some l->l.length=xs.length/\∀(i:Nat)(x:ag),xs[i]?=some x->∃n,x = .int .u8 n/\l[i]?=some (UInt8.ofNat n.toNat)
 | [],l,h=>by grind [bytesOf]
 |y::r,l,h=>by
  unfold bytesOf at h;split at h
  ·grind
  ·rename_i n r' e;injection e with e1 e2; subst e2
   obtain⟨l',h1,h⟩:=bo h;injection h with h; obtain⟨g1,g2⟩:=BU h1
   grind
  grind
def Gr(g:Value->ByteArray->Sem (ForInStep ByteArray))(hg:∀n s,g (.int .u8 n) s=pure (ForInStep.yield (s.push (UInt8.ofNat n.toNat)))):∀(vs:List Value)(l:List UInt8)(s:ByteArray),vs.length=l.length->(∀(i:Nat)(v:Value)(b:UInt8),vs[i]?=some v->l[i]?=some b->∃n,v = .int .u8 n/\b=UInt8.ofNat n.toNat) ->
  (forIn vs s g).run P w = .ok ⟨s.data++l.toArray⟩ w
 | [],[],s,_,_=>by rfl
 |v::vs,b::l,s,hl,h=>by
  obtain⟨n,rfl,rfl⟩:=h 0 v b rfl rfl;have:=Gr g hg vs l (s.push (UInt8.ofNat n.toNat)) jK fun i v b hv hb=>h (i+1) v b jK jK
  simp_all
 | [],_::_,_,hl,_=>jK
 |_::_,[],_,hl,_=>jK
theorem ahA(hr:Rel j M w)(he:cn j M w bp a){s d e:TypeId}{y:Operand}{z:fX}(hop:o.op = .convert s d y)(hs:P.underlying s=some (.slice e))(hd:P.underlying d=some .string)(hu:P.underlying e=some (.int .u8))
  (hz:eW y=some z) (h:ei C bp M (.b2s z)=some x):∃v w',rj P o a w v w'/\iW j M w x v w':=by
 simp only[ei] at h;have h1:=cT he hz;split at h
 ·rename_i tk xs ev;obtain⟨l,hl,h⟩:=bo h;cases h;rw[ev] at h1;obtain⟨g1,g2⟩:=BU hl;refine⟨.string (bs l),w,.inl ?_,.still hr (.plain (.str _))⟩;obtain⟨A,cap,b,off,sz,vs,hv,hc,ha,hwid,hcell,hrep⟩:=h1.ep.ep
  have hrun:(Conv.bytesToString (a.eval y)).run P w = .ok (.string (bs l)) w:=by
   rw[hv];cases A with
   |none =>
    have:xs=[]:=by
     grind
    subst this;have:l=[]:=dH g1;subst this;rfl
   |some A =>
    have hload:∃us:Array Value,(loadCells A xs.length).run P w = .ok us w/\us.size=l.length/\∀(i:Nat)(v:Value)(b:UInt8),us[i]?=some v->l[i]?=some b->∃n,v = .int .u8 n/\b=UInt8.ofNat n.toNat:=by
     by_cases hx:xs=[]
     ·subst hx;have:l=[]:=dH g1;subst this;exact⟨#[],by rfl,rfl,fun i v b h=>by simp at h⟩
     ·have hA:=ha hx;cases hA
      have hsz:sz=1:=by
       cases xs with
       |nil=>grind
       |cons c r =>
        obtain⟨n,rfl,_⟩:=g2 0 c rfl;exact(hwid (.int .u8 n) dx).symm
      subst hsz
      have cellOf:∀i,i<xs.length->∃n,w.cell? ⟨b,off+i,none⟩=some (vs i)/\vs i = .int .u8 n/\l[i]?=some (UInt8.ofNat n.toNat):=by
       intro i hi;have hxi:xs[i]?=some xs[i]:=ai hi;obtain⟨n,hn,hb⟩:=g2 i _ hxi;have q1:=hcell i _ 0 (.int .u8 n) hxi (by rw[hn]; rfl)
       have q2:=hrep i _ 0 (.int .u8 n) hxi (by rw[hn]; rfl)
       simp only[pO,dp] at q1 q2;exact⟨n,q1.1,(gn.plain (j:=j) (M:=M) q2).fV,hb⟩
      refine⟨_,o8 (P:=P) (w:=w) b off xs.length vs (fun k hk=>(cellOf k hk).choose_spec.1),by simp[g1],fun i v c hi hb=>?_⟩
      grind
    obtain⟨us,u1,u2,u3⟩:=hload;simp only[Conv.bytesToString,Sem.run_bind,u1,Result.andThen_ok];rw[<-Array.forIn_toList];refine(congrArg (fun r=>Result.andThen r _) (Gr (P:=P) (w:=w) _ ?_ us.toList l ByteArray.empty aJ fun i v b hv hb=>u3 i v b (by simpa using hv) hb)).trans ?_
    ·simp
    simp[bs]
  simp only[execOp,hop,convert,Sem.run_bind,ec hs,ec hd,Result.andThen_ok];rw[hv] at hrun ⊢;cases A<;>simp[ec hu,hrun]
 ·cases h
theorem DE{fk:FK}{k k':ag}{b:Bool}(h:kv fk k k'=some b) :
  (∃t x y,k = .int t x/\k' = .int t y/\fk = .i/\b=(x==y))\/(∃x y,k = .str x/\k' = .str y/\fk = .s/\b=(x==y))\/∃x y,k = .bool x/\k' = .bool y/\fk = .b/\b=(x==y):=by
 unfold kv at h
 grind
def FK.is:FK->TypeDesc->Prop
 | .i,.int _=>True
 | .s,.string=>True
 | .b,.bool=>True
 |_,_=>False
theorem F8{t:TypeId}{fk:FK}(h:D6 P t=some fk):∃d,P.underlying t=some d/\fk.is d:=by
 unfold D6 at h
 split at h<;>first
  |(rename_i hd; cases h; exact⟨_,hd,trivial⟩)
  |grind
theorem J2{fk:FK}{d:TypeDesc}(hd:fk.is d){k k':ag}{b:Bool}(h:kv fk k k'=some b){iE:Nat->Nat->Prop}{v v':Value}(hv:gn j M w k v)(hv':fR w iE k' v') :
  Instr.sameNow d v v'=some b/\(b=true->Instr.sameBits 10000 v' v=true)/\fR w (ow j M w) k v:=by
 rcases DE h with ⟨t,x,y,rfl,rfl,rfl,rfl⟩|⟨x,y,rfl,rfl,rfl,rfl⟩|⟨x,y,rfl,rfl,rfl,rfl⟩
 ·have e1:=hv.fV; subst e1; cases hv';cases d<;>first|exact False.elim hd|skip
  exact⟨by simp[Instr.sameNow],fun h=>by grind [Instr.sameBits],.int _ _⟩
 ·have e1:=hv.kB; subst e1; cases hv';cases d<;>first|exact False.elim hd|skip
  have this:∀x y,(bs x==bs y)=(x==y):=fun x y=>by
   show(x.toArray==y.toArray)=(x==y)
   simp
  exact⟨by simp_all [Instr.sameNow],fun h=>by grind [Instr.sameBits],.str _⟩
 ·have e1:=hv.jB; subst e1; cases hv';cases d<;>first|exact False.elim hd|skip
  exact⟨by simp[Instr.sameNow],fun h=>by grind [Instr.sameBits],.bool _⟩
def Py{fk:FK}{k:ag}{b:Bool}(h:kv fk k k=some b){v:Value}(hv:gn j M w k v):fR w (ow j M w) k v:=by
 rcases DE h with ⟨t,x,y,rfl,_⟩|⟨x,y,rfl,_⟩|⟨x,y,rfl,_⟩
 ·have:=hv.fV; subst this; exact .int _ _
 ·have:=hv.kB; subst this; exact .str _
 ·have:=hv.jB; subst this; exact .bool _
def FC{fk:FK}{d:TypeDesc}(hd:fk.is d){t:TypeId}(ht:P.underlying t=some d)(e:Bool)(v:Value):(Instr.checkKey e 10000 t v).run P w = .ok () w:=by
 rw[Instr.checkKey.eq_def];simp only[Sem.run_bind,ec ht];cases fk<;>cases d<;>first|exact False.elim hd|(cases v<;>rfl)
theorem IQ{fk:FK}{d:TypeDesc}(hd:fk.is d){k:ag}{v:Value}(hv:gn j M w k v){iE:Nat->Nat->Prop}:∀ {ks vs:List ag} {es:List MapEntry} {r:Option ag} (n:Nat),xw fk k ks vs=some r ->
  ks.length=es.length->vs.length=es.length->(∀(i:Nat)(k:ag)(e:MapEntry),ks[i]?=some k->es[i]?=some e->fR w iE k e.key) ->
  (r=none/\Instr.findNow d v es n=some none)\/∃i u e,r=some u/\vs[i]?=some u/\es[i]?=some e/\Instr.findNow d v es n=some (some (n+i,e.val))
 | [],[],[],r,n,h,_,_,_=>by simp[xw] at h; exact .inl ⟨h.symm,rfl⟩
 |k'::ks,u::vs,e::es,r,n,h,h1,h2,h3=>by
  obtain⟨b,hb,h⟩:=bo h;obtain⟨s1,_⟩:=J2 hd hb hv (h3 0 k' e rfl rfl);rcases lI h with ⟨rfl,h⟩|⟨rfl,h⟩
  ·injection h with h
   exact .inr ⟨0,u,e,h.symm,rfl,rfl,by grind [Instr.findNow]⟩
  ·have hf:Instr.findNow d v (e::es) n=Instr.findNow d v es (n+1):=by rw[Instr.findNow,s1]
   rcases IQ hd hv (n+1) h (by simpa using h1) (by simpa using h2) (fun i k e hk he=>h3 (i+1) k e jK jK) with ⟨g1,g2⟩|⟨i,u',e',g1,g2,g3,g4⟩
   ·grind
   ·exact .inr ⟨i+1,u',e',g1,jK,jK,jK⟩
 | [],_::_,[],_,_,_,_,h2,_=>by simp at h2
 |_::_,[],_::_,_,_,_,_,h2,_=>by simp at h2
 | [],_,_::_,_,_,_,h1,_,_=>by simp at h1
 |_::_,_,[],_,_,_,h1,_,_=>by simp at h1
theorem IT{fk:FK}{d:TypeDesc}(hd:fk.is d){k y:ag}{v:Value}(hv:gn j M w k v){iE:Nat->Nat->Prop}:∀ {ks vs:List ag} {es:List MapEntry} {r:List ag×List ag} (n:Nat),xy fk k y ks vs=some r ->
  ks.length=es.length->vs.length=es.length->(∀(i:Nat)(k:ag)(e:MapEntry),ks[i]?=some k->es[i]?=some e->fR w iE k e.key) ->
  fR w (ow j M w) k v/\((r=(ks++[k],vs++[y])/\Instr.findNow d v es n=some none)\/∃i e,r=(ks.set i k,vs.set i y)/\es[i]?=some e/\Instr.sameBits 10000 e.key v=true/\Instr.findNow d v es n=some (some (n+i,e.val)))
 | [],[],[],r,n,h,_,_,_=>by
  obtain⟨b,hb,h⟩:=bo h;injection h with h
  exact⟨Py hb hv,.inl ⟨h.symm,rfl⟩⟩
 |k'::ks,u::vs,e::es,r,n,h,h1,h2,h3=>by
  obtain⟨b,hb,h⟩:=bo h;obtain⟨s1,s2,s3⟩:=J2 hd hb hv (h3 0 k' e rfl rfl);refine⟨s3,?_⟩;rcases lI h with ⟨rfl,h⟩|⟨rfl,h⟩
  ·injection h with h
   exact .inr ⟨0,e,h.symm,rfl,s2 rfl,by grind [Instr.findNow]⟩
  ·obtain⟨r',h',h⟩:=bo h;cases h;have hf:Instr.findNow d v (e::es) n=Instr.findNow d v es (n+1):=by rw[Instr.findNow,s1]
   rcases(IT hd hv (n+1) h' (by simpa using h1) (by simpa using h2) (fun i k e hk he=>h3 (i+1) k e jK jK)).2 with ⟨g1,g2⟩|⟨i,e',g1,g2,g3,g4⟩
   ·grind
   ·exact .inr ⟨i+1,e',by rw[g1]; rfl,jK,g3,by rw[hf,g4]; grind⟩
 | [],_::_,[],_,_,_,_,h2,_=>jK
 |_::_,[],_::_,_,_,_,_,h2,_=>jK
 | [],_,_::_,_,_,_,h1,_,_=>by simp at h1
 |_::_,_,[],_,_,_,h1,_,_=>jK
def CD.rep{x:ag}{v:Value}(h:CD w (ow j M w) x v):gn j M w x v:=by
 by_cases hag:∃cs,x = .agg cs
 ·obtain⟨cs,rfl⟩:=hag;obtain⟨us,rfl,h2,h3⟩:=h;exact .agg h2 fun i c u hc hu => .plain (h3 i c u hc hu)
 ·cases x<;>first|exact absurd ⟨_,rfl⟩ hag|exact .plain h
theorem Gf(hr:Rel j M w){m:ag}{v:Value}{e:List ag×List ag}(h:mapOf M m=some e)(hm:gn j M w m v):∃(b:Nat) (es:Array MapEntry) (clock:Nat),v = .map (some b)/\w.heap[b]?=some (.map es clock) /\
  e.1.length=es.size/\e.2.length=es.size/\(∀(i:Nat)(k:ag)(e':MapEntry),e.1[i]?=some k->es[i]?=some e'->fR w (ow j M w) k e'.key)/\∀(i:Nat)(k:ag)(e':MapEntry),e.2[i]?=some k->es[i]?=some e'->gn j M w k e'.val:=by
 unfold mapOf at h;split at h
 ·split at h
  ·rename_i ks vs hM;injection h with h; rw[fc] at hM
   obtain⟨b,_,hj,rfl⟩:=hm.vH;obtain⟨b',hj',es,clock,g1,g2,g3,g4,g5⟩:=hr.fix _ _ hM rfl
   grind
  grind
 ·cases h;cases hm with
  |plain h=>cases h
  |ki hb hf hx hw hk hv hks hvs=>exact⟨_,_,_,rfl,hw,hk,hv,hks,fun i k e h1 h2=>(hvs i k e h1 h2).rep⟩
 ·cases h
theorem Jw{zero:ag}{ok:Bool}{r:Option ag}{v:Value}(h:gn j M w (r.getD zero) v):gn j M w (po zero ok r) (if ok then .tuple #[v,.bool r.isSome] else v):=by
 cases ok with
 |false=>exact h
 |true =>
  refine .tuple rfl fun i c u hc hu=>?_
  match i with
  |0=>grind
  |1=>simp at hc hu; subst hc; subst hu; exact .plain (.bool _)
  |n+2=>simp_all
def aa2(hr:Rel j M w)(he:cn j M w bp a){t kt et:TypeId}{m k:Operand}{m' k':fX}{ok:Bool}{fk:FK}{ie:TypeInfo}{zv:Value}{z:ag}(hop:o.op = .lookup t m k ok)(ht:P.underlying t=some (.map kt et))
  (hk:D6 P kt=some fk) (hi:P.info? et=some ie) (hz:ie.zero=some zv) (hzv:Q5 zv=some z) (hm':eW m=some m') (hk':eW k=some k') (h:ei C bp M (.look fk z ok m' k')=some x) :
  ∃v w',rj P o a w v w'/\iW j M w x v w':=by
 simp only[ei] at h;obtain⟨e,h1,h⟩:=bo h;obtain⟨r,h2,h⟩:=bo h;cases h;obtain⟨d,hd,hfk⟩:=F8 hk;obtain⟨b,es,clock,hv,hb,g1,g2,g3,g4⟩:=Gf hr h1 (cT he hm');have hc:∀q,(Instr.checkKey q 10000 kt (a.eval k)).run P w = .ok () w:=fun q=>FC hfk hd q _
 rcases IQ hfk (cT he hk') (es:=es.toList) 0 h2 (by simpa using g1) (by simpa using g2) (fun i k e hk he=>g3 i k e hk (by simpa using he)) with ⟨rfl,f1⟩|⟨i,u,e',rfl,f2,f3,f1⟩
 ·refine⟨if ok then .tuple #[zv,.bool false] else zv,w,.inl ?_,.still hr (Jw (r:=none) (H4 hzv))⟩
  simp[execOp,hop,Instr.lookup,ec ht,hv,MapKept.run_getObj_map hb,hc,Instr.findKey,ec hd,f1,zeroValue,pW hi,hz]
 ·refine⟨if ok then .tuple #[e'.val,.bool true] else e'.val,w,.inl ?_,.still hr (Jw (r:=some u) (g4 i u e' f2 (by simpa using f3)))⟩
  simp[execOp,hop,Instr.lookup,ec ht,hv,MapKept.run_getObj_map hb,hc,Instr.findKey,ec hd,f1]
def aaZ(hr:Rel j M w)(he:cn j M w bp a){c:Call}{y:Operand}{z:fX}{t k e:TypeId}(hop:o.op = .call c)(hb:c.callee = .builtin .len)(ha:c.args.toList=[y])
  (ht:c.argTypes[0]?=some t) (hs:P.underlying t=some (.map k e)) (hz:eW y=some z) (h:ei C bp M (.PC z)=some x):∃v w',rj P o a w v w'/\iW j M w x v w':=by
 simp only[ei] at h;obtain⟨e,h1,h⟩:=bo h;cases h;obtain⟨b,es,clock,hv,hbl,g1,g2,g3,g4⟩:=Gf hr h1 (cT he hz);have ha':c.args = #[y]:=by rw[<-ha]
 refine⟨.int .i64 e.1.length,w,.inl ?_,.still hr (.plain (.int _ _))⟩;simp[execOp,hop,resolve,hb,invoke,builtin,Builtin.len_,ha',ht,ec hs,hv,MapKept.run_getObj_map hbl,goInt,g1]
def NG(hr:Rel j M w){bx:cL}{ob:Obj}(hfx:bx.fixed=true)(hh:∀j' M' (w':World),w'.heap[w.heap.size]?=some ob->Holds j' M' w' w.heap.size bx) :
  ∃j':J,Rel j' (M++[bx]) { w with heap:=w.heap.push ob }/\Ext j M w j' (M++[bx]) { w with heap:=w.heap.push ob }/\j' M.length=some w.heap.size:=by
 have q:Quiet w { w with heap:=w.heap.push ob }:=⟨dx,rfl,rfl,rfl⟩
 have hb:∀b,b<w.heap.size->({ w with heap:=w.heap.push ob }:World).heap[b]?=w.heap[b]?:=fun b hb=>by
  show(w.heap.push _)[b]?=_
  rw[fU,aR aJ]
 have hn:({ w with heap:=w.heap.push ob }:World).heap[w.heap.size]?=some ob:=dx
 refine⟨gI j M.length (some w.heap.size),hr.push (fun b h=>?_) q hb (fun _=>?_) (fun sz n b h=>by rw[h] at hfx; cases hfx) (fun sz v xs h=>by rw[h] at hfx; cases hfx),Ext.push (fun b h=>?_) q hb,by simp[gI]⟩
 ·cases h; simp
 ·exact⟨_,rfl,fun j' M' hx=>hh j' M' _ hn⟩
 ·injection h with h; omega
def Wy(hr:Rel j M w){t:TypeId}(hop:o.op = .makeMap t none)(h:ei C bp M .mkMap=some x):∃v w',rj P o a w v w'/\iW j M w x v w':=by
 simp only[ei] at h;cases h;obtain⟨j',h1,h2,h3⟩:=NG (ob := .map #[] 0) (bx := .map [] []) hr rfl fun j' M' w' hw=>⟨#[],0,hw,rfl,rfl,fun i k e h=>by simp at h,fun i k e h=>by simp at h⟩
 exact⟨.map (some w.heap.size),_,.inl (by simp[execOp,hop,Instr.makeMap]),j',h1,h2,.iC ⟨[],[],dx⟩ h3⟩
def aa6(hr:Rel j M w)(he:cn j M w bp a){t:TypeId}{y:Operand}{z:fX}(hop:o.op = .range t y)(ht:P.underlying t=some .string)(hz:eW y=some z)(h:ei C bp M (.Qg z)=some x):∃v w',rj P o a w v w'/\iW j M w x v w':=by
 simp only[ei] at h;have h0:=cT he hz;split at h
 ·rename_i s e;rw[e] at h0;cases h;obtain⟨j',h1,h2,h3⟩:=NG (ob := .stringIter (bs s) 0) (bx := .nW s 0) hr rfl fun j' M' w' hw=>hw
  exact⟨.pointer (some ⟨w.heap.size,0,none⟩),_,.inl (by simp[execOp,hop,Instr.range,ec ht,h0.kB]),j',h1,h2,.j7 ⟨s,0,dx⟩ h3⟩
 ·cases h
def HB(hr:Rel j M w){id b:Nat}{bx bx':cL}{ob:Obj}(hM:M[id]?=some bx)(hfx:bx.fixed=true)(htag:bx'.tag=bx.tag)(hj:j id=some b)(hnc:∀vs t fr,w.heap[b]?≠some (.cells vs t fr))
  (hh:∀j' M' (w':World),Ext j M w j' M' w'->w'.heap[b]?=some ob->Holds j' M' w' b bx') :
  Rel j (M.set id bx') { w with heap:=w.heap.setIfInBounds b ob }/\Ext j M w j (M.set id bx') { w with heap:=w.heap.setIfInBounds b ob }:=by
 have q:Quiet w { w with heap:=w.heap.setIfInBounds b ob }:=⟨dx,rfl,rfl,rfl⟩
 have hb:∀b',b'≠b->b'<w.heap.size->({ w with heap:=w.heap.setIfInBounds b ob }:World).heap[b']?=w.heap[b']?:=fun b' hne _=>by
  show(w.heap.setIfInBounds b ob)[b']?=_
  rw[fD (eY hne)]
 have cJ:b<w.heap.size:=hr.lt id b (aO hM) hj
 have hn:({ w with heap:=w.heap.setIfInBounds b ob }:World).heap[b]?=some ob:=by
  show(w.heap.setIfInBounds b ob)[b]?=_
  simp[cJ]
 exact⟨Rel.store hM hfx htag hj hr q hb (fun vs t fr h=>absurd h (hnc vs t fr)) fun j' M' hx=>hh j' M' _ hx hn,Ext.store hM hfx htag hj hr q hb (fun vs t fr h=>absurd h (hnc vs t fr))⟩
def WA(hr:Rel j M w)(he:cn j M w bp a){y:Operand}{z:fX}(hop:o.op = .next y true)(hz:eW y=some z)(h:ei C bp M (.Gi z)=some x):∃v w',rj P o a w v w'/\iW j M w x v w':=by
 simp only[ei] at h;have h0:=cT he hz;split at h
 ·rename_i id e;rw[e] at h0;obtain⟨b,_,hj,hv⟩:=h0.DZ;split at h
  ·rename_i s pos hM;rw[fc] at hM;obtain⟨b',hj',hw⟩:=hr.fix _ _ hM rfl;rw[hj] at hj'; cases hj';have hw:w.heap[b]?=some (.stringIter (bs s) pos):=hw;have hsz:(bs s).size=s.length:=by simp[bs,ByteArray.size]
   have hget:(getObj b).run P w = .ok (.stringIter (bs s) pos) w:=by simp[getObj,Sem.run,hw]
   rcases lI h with ⟨cJ,h⟩|⟨cJ,h⟩<;>(cases h)
   ·have hlt':pos<s.length:=by simpa using cJ
    have hset:∀ob,(setObj b ob).run P w = .ok () { w with heap:=w.heap.setIfInBounds b ob }:=fun ob=>by simp[setObj,Sem.run,hw]
    obtain⟨r1,r2⟩:=HB (ob := .stringIter (bs s) (pos+(Utf8.decode (bs s) pos).2)) (bx' := .nW s (pos+(Utf8.decode ⟨s.toArray⟩ pos).2)) hr hM rfl rfl hj (fun vs t fr h=>by rw[hw] at h; cases h) fun j' M' w' _ hw=>hw
    refine⟨.tuple #[.bool true,goInt pos,.int .i32 (Utf8.decode (bs s) pos).1],{ w with heap:=w.heap.setIfInBounds b (.stringIter (bs s) (pos+(Utf8.decode (bs s) pos).2)) },.inl ?_,j,?_,?_,?_⟩
    ·simp[execOp,hop,Instr.next,hv,hget,hsz,hlt',hset]
    ·rw[fe]; exact r1
    ·rw[fe]; exact r2
    ·refine .tuple rfl fun i c u hc hu=>?_
     match i with
     |0=>simp at hc hu; subst hc; subst hu; exact .plain (.bool _)
     |1=>simp at hc hu; subst hc; subst hu; exact .plain (.int _ _)
     |2=>simp at hc hu; subst hc; subst hu; exact .plain (.int _ _)
     |n+3=>simp at hc
   ·have hlt':¬pos<s.length:=by simpa using cJ
    refine⟨.tuple #[.bool false],w,.inl ?_,.still hr (.tuple rfl fun i c u hc hu=>?_)⟩
    ·simp[execOp,hop,Instr.next,hv,hget,hsz,hlt']
    ·match i with
     |0=>simp at hc hu; subst hc; subst hu; exact .plain (.bool _)
     |n+1=>simp at hc
  ·cases h
 ·cases h
def WE(hr:Rel j M w)(he:cn j M w bp a){t kt et:TypeId}{m k y:Operand}{m' k' y':fX}{fk:FK}(hop:o.op = .mapUpdate t m k y\/o.op = .insert t m k y)(ht:P.underlying t=some (.map kt et))
  (hk:D6 P kt=some fk) (hm':eW m=some m') (hk':eW k=some k') (hyr:gn j M w (y'.ev bp) (a.eval y)) (h:ei C bp M (.gI fk m' k' y')=some x):∃v w',rj P o a w v w'/\iW j M w x v w':=by
 simp only[ei] at h;have h0:=cT he hm';split at h
 ·rename_i id e;rw[e] at h0;split at h
  ·rename_i ks vs hM;obtain⟨r,hr',h⟩:=bo h;cases h;rw[fc] at hM;obtain⟨b,_,hj,hv⟩:=h0.vH;obtain⟨b',hj',es,clock,hb,g2,g3,g4,g5⟩:=hr.fix _ _ hM rfl;rw[hj] at hj'; cases hj';obtain⟨d,hd,hfk⟩:=F8 hk;have hc:∀q,(Instr.checkKey q 10000 kt (a.eval k)).run P w = .ok () w:=fun q=>FC hfk hd q _
   obtain⟨kp,hf⟩:=IT hfk (cT he hk') (es:=es.toList) 0 hr' (by simpa using g2) (by simpa using g3) (fun i k e hk he=>g4 i k e hk (by simpa using he))
   have hset:∀ob,(setObj b ob).run P w = .ok () { w with heap:=w.heap.setIfInBounds b ob }:=fun ob=>MapKept.run_setObj_map ob hb
   rcases hf with ⟨rfl,f1⟩|⟨i,e',rfl,f3,f4,f1⟩
   ·obtain⟨r1,r2⟩:=HB (ob := .map (es.push { key:=a.eval k,val:=a.eval y,born:=clock }) (clock+1)) (bx' := .map (ks++[k'.ev bp]) (vs++[y'.ev bp])) hr hM rfl rfl hj (fun vs t fr h=>by rw[hb] at h; cases h) fun j' M' w' hx hw=>by
     refine⟨_,_,hw,by simp[g2],by simp[g3],fun i k e hk he=>?_,fun i k e hk he=>?_⟩
     ·rw[fU] at he;rw[nP] at hk
      by_cases hi:i=es.size
      ·subst hi;simp[g2] at hk he;subst hk; subst he;exact kp.mono hx.iE
      ·rw[aR hi] at he;have hi':i<es.size:=(fK.1 he).1;rw[aZ aJ] at hk;exact(g4 i k e hk he).mono hx.iE
     ·rw[fU] at he;rw[nP] at hk
      by_cases hi:i=es.size
      ·subst hi;simp[g3] at hk he;subst hk; subst he;exact hyr.mono hx
      ·rw[aR hi] at he;have hi':i<es.size:=(fK.1 he).1;rw[aZ aJ] at hk;exact(g5 i k e hk he).mono hx
    refine⟨undef,{ w with heap:=w.heap.setIfInBounds b (.map (es.push { key:=a.eval k,val:=a.eval y,born:=clock }) (clock+1)) },.inr ⟨?_,rfl⟩,j,?_,?_,.any _⟩
    ·rcases hop with hop|hop<;>simp[execOp,hop,Instr.mapUpdate,ec ht,hv,MapKept.run_getObj_map hb,hc,Instr.findKey,ec hd,f1,hset]
    ·rw[fe]; exact r1
    ·rw[fe]; exact r2
   ·have hi:i<es.size:=by simpa using(aj.1 f3).1
    have he':es[i]?=some e':=by simpa using f3
    obtain⟨r1,r2⟩:=HB (ob := .map (es.modify i fun e=>{ e with key:=a.eval k,val:=a.eval y }) clock) (bx' := .map (ks.set i (k'.ev bp)) (vs.set i (y'.ev bp))) hr hM rfl rfl hj (fun vs t fr h=>by rw[hb] at h; cases h) fun j' M' w' hx hw=>by
     refine⟨_,_,hw,by simp[g2],by simp[g3],fun q k e hk he=>?_,fun q k e hk he=>?_⟩
     ·rw[gW] at he
      by_cases hq:i=q
      ·subst hq;simp[he'] at he;rw[eE aJ] at hk;cases hk; subst he;exact kp.mono hx.iE
      ·rw[aR hq] at he;rw[fa hq] at hk;exact(g4 q k e hk he).mono hx.iE
     ·rw[gW] at he
      by_cases hq:i=q
      ·subst hq;simp[he'] at he;rw[eE aJ] at hk;cases hk; subst he;exact hyr.mono hx
      ·rw[aR hq] at he;rw[fa hq] at hk;exact(g5 q k e hk he).mono hx
    refine⟨undef,{ w with heap:=w.heap.setIfInBounds b (.map (es.modify i fun e=>{ e with key:=a.eval k,val:=a.eval y }) clock) },.inr ⟨?_,rfl⟩,j,?_,?_,.any _⟩
    ·rcases hop with hop|hop<;>simp[execOp,hop,Instr.mapUpdate,ec ht,hv,MapKept.run_getObj_map hb,hc,Instr.findKey,ec hd,f1,hset,he',Instr.keyThatStays,f4]
    ·rw[fe]; exact r1
    ·rw[fe]; exact r2
  ·cases h
 ·cases h
end
def j9(xs:List ag):List ag:=xs.flatMap ag.cells
def oW(x:ag)(xs:List ag):j9 (x::xs)=x.cells++j9 xs:=rfl
def oV(xs ys:List ag):j9 (xs++ys)=j9 xs++j9 ys:=by simp[j9]
def iU{sz:Nat}:∀ {xs:List ag},wid xs sz->(j9 xs).length=xs.length*sz
 | [],_=>by simp[j9]
 |x::xs,h=>by
  rw[oW,aA,h x (bD ..),iU fun y hy=>h y (bt _ hy),aw,bQ]
  omega
def nF{sz:Nat}{xs ys:List ag}(h1:wid xs sz)(h2:wid ys sz):wid (xs++ys) sz:=fun x hx=>(bq.1 hx).elim (h1 x) (h2 x)
def vV{sz n:Nat}{xs:List ag}(h:wid xs sz):wid (xs.take n) sz:=fun x hx=>h x (dS hx)
def vU{sz n:Nat}{xs:List ag}(h:wid xs sz):wid (xs.drop n) sz:=fun x hx=>h x (dA hx)
def se{sz:Nat}:∀(n:Nat){xs:List ag},wid xs sz->j9 (xs.take n)=(j9 xs).take (n*sz)
 |0,_,_=>by simp[j9]
 |n+1,[],_=>by simp[j9]
 |n+1,x::xs,h=>by
  have hx:=h x (bD ..);have e:(n+1)*sz=sz+n*sz:=by rw[bQ]; omega
  rw[List.take_succ_cons,oW,oW,se n fun y hy=>h y (bt _ hy),List.take_append,hx,e,iY,bB (l:=x.cells) aJ]
def ue{sz:Nat}:∀(n:Nat){xs:List ag},wid xs sz->j9 (xs.drop n)=(j9 xs).drop (n*sz)
 |0,_,_=>dx
 |n+1,[],_=>by simp[j9]
 |n+1,x::xs,h=>by
  have hx:=h x (bD ..);have e:(n+1)*sz=sz+n*sz:=by rw[bQ]; omega
  rw[oJ,oW,ue n fun y hy=>h y (bt _ hy),List.drop_append,hx,e,iY,iw (l:=x.cells) aJ,aP]
theorem A6{sz:Nat}:∀ {xs:List ag},wid xs sz->∀ {q:Nat} {x:ag} {k:Nat} {c:ag},xs[q]?=some x->x.cells[k]?=some c->(j9 xs)[q*sz+k]?=some c
 | [],_,q,x,k,c,hx,_=>jK
 |y::xs,h,0,x,k,c,hx,hk=>by
  simp at hx; subst hx;rw[oW,jF,aK,aN (aj.1 hk).1];omega
 |y::xs,h,q+1,x,k,c,hx,hk=>by
  have hy:=h y (bD ..);rw[oW,bj (by rw[bQ]; omega),hy]
  rw[show(q+1)*sz+k-sz=q*sz+k by rw[bQ]; omega]
  exact A6 (fun z hz=>h z (bt _ hz)) jK hk
theorem DJ{sz:Nat}{xs:List ag}(h:wid xs sz){p:Nat}{c:ag}(hp:(j9 xs)[p]?=some c):∃q x k,xs[q]?=some x/\x.cells[k]?=some c/\p=q*sz+k:=by
 have cJ:p<xs.length*sz:=by rw[<-iU h]; grind
 have hsz:0<sz:=by
  grind
 have hq:p / sz<xs.length:=by rw[kW hsz]; omega
 have hk:p % sz<(xs[p / sz]).cells.length:=by rw[h _ (js _)]; simp_all [mj]
 grind [Nat.mul_comm,Nat.div_add_mod,A6]
def RL(w:World)(iE:Nat->Nat->Prop)(cs:List ag)(vs:List Value):Prop:=cs.length=vs.length/\∀(p:Nat)(c:ag)(v:Value),cs[p]?=some c->vs[p]?=some v->fR w iE c v
section
variable {w w':World} {iE saf':Nat->Nat->Prop} {cs ds:List ag} {us vs:List Value}
def RL.append(h:RL w iE cs us)(k:RL w iE ds vs):RL w iE (cs++ds) (us++vs):=by
 refine⟨by simp[h.1,k.1],fun p c v hc hv=>?_⟩
 rcases bC p _ with hp|hp
 ·rw[aN hp] at hc;rw[aN (by rw[<-h.1]; omega)] at hv
  exact h.2 p c v hc hv
 ·rw[bj hp] at hc;rw[bj (by rw[<-h.1]; omega),<-h.1] at hv
  exact k.2 _ c v hc hv
theorem RL.take(n:Nat)(h:RL w iE cs us):RL w iE (cs.take n) (us.take n):=by
 refine⟨by simp[h.1],fun p c v hc hv=>?_⟩
 rw[fy] at hc hv;split at hc
 ·rename_i hp;rw[aZ hp] at hv;exact h.2 p c v hc hv
 grind
def RL.drop(n:Nat)(h:RL w iE cs us):RL w iE (cs.drop n) (us.drop n):=by
 refine⟨by simp[h.1],fun p c v hc hv=>?_⟩
 rw[cF] at hc hv;exact h.2 _ c v hc hv
def RL.mono(hm:∀b off,iE b off->saf' b off/\w'.cell? ⟨b,off,none⟩=w.cell? ⟨b,off,none⟩)(h:RL w iE cs us):RL w' saf' cs us:=⟨h.1,fun p c v hc hv=>(h.2 p c v hc hv).mono hm⟩
end
section
variable {j:J} {M:aC} {w:World}
theorem xX{b sz:Nat}{xs:List ag}{vs:Array Value}(hl:xs.length*sz<=vs.size)(hwd:wid xs sz)
  (hc:∀(q:Nat)(x:ag)(k:Nat)(c:ag),xs[q]?=some x->x.cells[k]?=some c->∃v,vs[q*sz+k]?=some v/\fR w (ow j M w) c v):RL w (ow j M w) (j9 xs) (vs.toList.take (xs.length*sz)):=by
 refine⟨by rw[iU hwd]; grind,fun p c v hp hv=>?_⟩
 obtain⟨q,x,k,h1,h2,rfl⟩:=DJ hwd hp
 grind
theorem mJ{j':J}{M':aC}{w':World}{b sz:Nat}{t:TypeId}{xs:List ag}{us:List Value}{vs:Array Value}(hw:w'.heap[b]?=some (.cells vs t (0,0)))(hwd:wid xs sz)(hr:RL w' (ow j' M' w') (j9 xs) us)
  (hv:∀p,p<us.length->vs[p]?=us[p]?):Fm j' M' w' b sz xs:=by
 have dQ:us.length=xs.length*sz:=by rw[<-hr.1,iU hwd]
 refine⟨vs,t,hw,?_,hwd,fun q x k c hx hk=>?_⟩
 ·grind
 ·have h1:=A6 hwd hx hk;have hp:q*sz+k<us.length:=by rw[<-hr.1]; grind
  exact⟨us[q*sz+k],by rw[hv _ hp,ai _],hr.2 _ _ _ h1 (ai _)⟩
theorem A9:∀(ids:List Nat){M:aC}{i:Nat}{bx:cL},M[i]?=some bx->(∀sz v xs,bx ≠ .arr sz v xs)->(qm M ids)[i]?=some bx
 | [],_,_,_,h,_=>h
 |a::r,M,i,bx,h,hn=>by
  simp[qm,fc];split
  ·refine A9 r ?_ hn
   grind [fe]
  ·exact A9 r h hn
theorem zQ:∀(ids:List Nat){M:aC},Rel j M w->Ext j M w j (qm M ids) w/\Rel j (qm M ids) w/\(qm M ids).length=M.length/\∀id,id∈ids->∀sz v xs,M[id]?=some (.arr sz v xs)->(qm M ids)[id]?=some (.tick sz xs.length)
 | [],M,hr=>⟨.refl _ _ _,hr,rfl,fun id h=>by cases h⟩
 |a::r,M,hr=>by
  simp only[qm,fc];split
  ·rename_i sz v xs hM;rw[fe];obtain⟨h1,h2,h3,h4⟩:=zQ r (Rel.freeze hM hr);refine⟨(Ext.freeze hM).trans h1,h2,by rw[h3]; simp,fun id hid sz' v' xs' hid'=>?_⟩
   grind [id,A9,ef,aO]
  ·obtain⟨h1,h2,h3,h4⟩:=zQ r hr
   grind
def gn.n9{M':aC}(hr:Rel j M w)(hx:Ext j M w j M' w)(hr':Rel j M' w)(hl:M'.length=M.length){x:ag}{v:Value}(h:gn j M w x v)(hf:∀id,id∈x.iK->∀sz v xs,M[id]?=some (.arr sz v xs)->M'[id]?=some (.tick sz xs.length)):gn j M' w (x.n9 M) v:=by
 cases x<;>try exact h.mono hx
 rename_i id ver sz lo hi;simp[ag.n9,fc];split
 ·rename_i sz' v' xs hM;split
  ·rename_i hv;subst hv;obtain⟨_,hid,_,g⟩:=h.nk;obtain⟨e1,l1,l2,⟨rfl,_,A,rfl⟩|⟨b,cap,vs,t,l3,l4,l5,l6,l7⟩⟩:=(g sz' v' xs hM).2 rfl
   ·simp;exact .plain (fR.nil _ _ _)
   subst e1;obtain⟨b',vs',t',k1,k2,k3,k4,k5⟩:=hr.yT hM l3;rw[l3] at k1; cases k1;rw[l4];refine .plain (xY k2 k4 k5 (fun b off hs=>(hx.iE b off hs).1) (fun off ho=>⟨hr'.lt id b (by rw[hl]; exact aO hM) l3,fun i hi hji=>?_,hr'.vk id b aJ l3 off⟩) l1 l2 l5)
   have  := hr'.inj i id b hi (by rw[hl]; exact aO hM) hji l3
   subst this;exact⟨sz',xs.length,hf i (by simp[ag.iK]) _ _ _ hM,ho⟩
  ·exact .any _
 ·exact .any _
theorem gn.rq{M':aC}(hr:Rel j M w)(hx:Ext j M w j M' w)(hr':Rel j M' w)(hl:M'.length=M.length){x:ag}{v:Value}(h:gn j M w x v)(hf:∀id,id∈x.ids->∀sz v xs,M[id]?=some (.arr sz v xs)->M'[id]?=some (.tick sz xs.length)):gn j M' w (x.rq M) v:=by
 by_cases hag:∃cs,x = .agg cs
 ·obtain⟨cs,rfl⟩:=hag;obtain⟨vs,rfl,hl',hc⟩:=h.nb;refine .agg jK fun i c u hi hu=>?_
  rw[aX,aV] at hi;obtain⟨c0,hc0,rfl⟩:=hi;refine(hc i c0 u hc0 hu).n9 hr hx hr' hl fun id hid=>hf _ ?_
  refine jt.2 ⟨c0,aE hc0,?_⟩;cases c0<;>first|exact hid|(simp[ag.iK] at hid)
 ·have:x.rq M=x.n9 M:=by cases x<;>first|rfl|grind
  rw[this];refine h.n9 hr hx hr' hl fun id hid=>hf id ?_
  cases x<;>first|exact hid|exact absurd _ _|grind [ag.iK]
end
section
variable {P:Program} {C:eR} {o:Oper} {bp:Env} {M:aC} {j:J} {w:World} {a:Act} {x:ag×aC}
theorem rR(z:Array Value)(n:Nat):(Builtin.zeroCells z n).toList=(List.replicate n z.toList).flatten:=by
 induction n with
 |zero=>simp[Builtin.zeroCells]
 |succ n ih =>
  rw[nQ,List.flatten_append,<-ih];apply cp;intro i;simp only[Builtin.zeroCells,Array.toList_map,Array.toList_range,List.flatten_cons,List.flatten_nil,dg];rcases bC i (n*z.size) with h|h
  ·grind
  ·rw[bj jK];simp only[cU,List.length_range];rcases bC i ((n+1)*z.size) with h2|h2
   ·have h3:i-n*z.size<z.size:=by rw[bQ] at h2; omega
    have h4:i % z.size=i-n*z.size:=by
     have:i=(i-n*z.size)+n*z.size:=aJ;rw[this,Nat.add_mul_mod_self_right,nK h3]; omega
    rw[aX,iy h2];simp[h4,h3]
   grind
def Pd(n:Nat)(zero:List ag):j9 (List.replicate n (.agg zero))=(List.replicate n zero).flatten:=by
 induction n with
 |zero=>rfl
 |succ n ih=>rw[jk,oW,ih]; rfl
theorem Q2{iE:Nat->Nat->Prop}(n:Nat){cs:List ag}{us:List Value}(h:RL w iE cs us):RL w iE (List.replicate n cs).flatten (List.replicate n us).flatten:=by
 induction n with
 |zero=>exact⟨rfl,fun p c v hc=>dx⟩
 |succ n ih=>exact h.append ih
theorem xW{id b sz ver ver':Nat}{xs xs':List ag}{vs vs':Array Value}{t:TypeId}{us:List Value}{w':World}(hr:Rel j M w)(hM:M[id]?=some (.arr sz ver xs))(hj:j id=some b)(q:Quiet w w')
  (hb:∀b',b'≠b->b'<w.heap.size->w'.heap[b']?=w.heap[b']?) (hw:w.heap[b]?=some (.cells vs t (0,0))) (hw':w'.heap[b]?=some (.cells vs' t (0,0))) (hs:vs'.size=vs.size)
  (hv:ver<=ver') (hl:ver'=ver->xs'.length=xs.length) (hwd:wid xs' sz) (hrl:RL w (ow j M w) (j9 xs') us) (hus:∀p,p<us.length->vs'[p]?=us[p]?) :
  Rel j (M.set id (.arr sz ver' xs')) w'/\Ext j M w j (M.set id (.arr sz ver' xs')) w':=by
 have hwr:∀vs0 t1,w.heap[b]?=some (.cells vs0 t1 (0,0))->∃vs1,w'.heap[b]?=some (.cells vs1 t1 (0,0))/\vs1.size=vs0.size:=fun vs0 t1 h=>by
  grind
 exact⟨Rel.Ft hM hj hr q hb hwr hv hl fun j' M' hx=>mJ hw' hwd (hrl.mono hx.iE) hus,Ext.Ft hM hj hr q hb hwr hv hl⟩
theorem Dd{l:List ag}{vs:List Value}(hl:tp vs=some l)(hp:(l.map ag.shut).all ag.plainCell=true):RL w (ow j M w) (l.map ag.shut) vs/\∀v,v∈vs->v.oneCell'=true:=by
 obtain⟨h1,h2⟩:=qF (j:=j) (M:=M) (w:=w) hl;rw[List.all_map,bN] at hp;refine⟨⟨jK,fun p c v hc hv=>?_⟩,fun v hv=>?_⟩
 ·grind [Aw,List.mem_of_getElem?]
 ·obtain⟨p,hp',rfl⟩:=kd hv;have hpl:p<l.length:=aJ;exact Ds (h2 p _ _ (ai hpl) (ai hp')) (Cp (hp _ (js hpl)))
theorem PU(hr:Rel j M w)(he:cn j M w bp a){c:Call}{y:Operand}{z:fX}{t e:TypeId}{i:TypeInfo}{zv:Value}{l:List ag}(hop:o.op = .call c)(hb:c.callee = .builtin .clear)(ha:c.args.toList=[y])
  (ht:c.argTypes.toList=[t]) (hs:P.underlying t=some (.slice e)) (hi:P.info? e=some i) (hzv:i.zero=some zv) (hl:tp zv.cells.toList=some l) (hsz:l.length=i.size) (hz:eW y=some z)
  (h:ei C bp M (.xd i.size (l.map ag.shut) z)=some x):∃v w',rj P o a w v w'/\iW j M w x v w':=by
 simp only[ei] at h;have h1:=cT he hz;have ha':c.args = #[y]:=by rw[<-ha]
 have ht':c.argTypes = #[t]:=by rw[<-ht]
 split at h
 ·rename_i tk xs ez;rw[ez] at h1;split at h
  ·cases h;obtain⟨A,cap,b,off,sz,vs,hv,_⟩:=h1.ep.ep;refine⟨.tuple #[],w,.inl ?_,.still hr (.any _)⟩;cases A<;>simp[execOp,hop,resolve,hb,invoke,builtin,Builtin.clear_,ha',ht',ec hs,hv]
  ·cases h
 ·rename_i id ver sz' lo hi' ez;rw[ez] at h1;rw[fc] at h;split at h
  ·rename_i sz0 v0 xs hM;split at h
   ·rename_i hc;obtain⟨c1,c2,c3,c4⟩:=hc;cases h;subst c1; subst c2;obtain⟨_,hid,_,g⟩:=h1.nk;obtain⟨e1,l1,l2,⟨rfl,_,A,hA⟩|⟨b,cap,vs,t0,l3,l4,l5,l6,l7⟩⟩:=(g sz0 v0 xs hM).2 rfl
    ·have hlo:lo=0:=Nat.le_zero.1 (aY l1 l2);have hhi:hi'=0:=Nat.le_zero.1 l2;subst hlo; subst hhi;refine⟨.tuple #[],w,.inl ?_,?_⟩
     ·cases A<;>simp[execOp,hop,resolve,hb,invoke,builtin,Builtin.clear_,ha',ht',ec hs,hA]
     ·rw[fe]
      have he:M.set id (.arr sz0 v0 (List.take 0 ([]:List ag)++(List.replicate (0-0) (ag.agg (l.map ag.shut))++List.drop 0 [])))=M:=by
       apply cp
       grind
      rw[he];exact .still hr (.any _)
    subst e1;obtain⟨b',vs',t',k1,k2,k3,k4,k5⟩:=hr.yT hM l3;rw[l3] at k1; cases k1;rw[l6] at k2; injection k2 with k2; injection k2 with k2 k2'
    subst k2; subst k2';obtain⟨p1,p2⟩:=Dd (j:=j) (M:=M) (w:=w) hl c4;have hzl:zv.cells.toList.length=i.size:=by rw[<-p1.1]; simpa using hsz
    have dQ:(List.replicate (hi'-lo) zv.cells.toList).flatten.length=(hi'-lo)*i.size:=by simp[List.length_flatten,gY,List.sum_replicate_nat,hzl]
    have hbd:lo*i.size+(hi'-lo)*i.size<=xs.length*i.size:=by rw[<-bQ]; exact bd _ aJ
    have hfit:lo*i.size+(List.replicate (hi'-lo) zv.cells.toList).flatten.length<=vs.size:=by rw[dQ]; omega
    have hone:∀v,v∈(List.replicate (hi'-lo) zv.cells.toList).flatten->v.oneCell'=true:=fun v hv=>by
     obtain⟨r,hr1,hr2⟩:=List.mem_flatten.1 hv;rw[mf hr1] at hr2;exact p2 v hr2
    have hrun:=nD (P:=P) (List.replicate (hi'-lo) zv.cells.toList).flatten w (lo*i.size) 0 vs l6 aJ hone;obtain⟨s1,s2,s3,s4,s5,vs',s6,s7,s8,s9⟩:=mC (List.replicate (hi'-lo) zv.cells.toList).flatten w (lo*i.size) vs l6 hfit;have hrow:=xX (b:=b) k3 k4 k5;have hwz:wid (List.replicate (hi'-lo) (ag.agg (l.map ag.shut))) i.size:=fun x hx=>by rw[mf hx]; simpa[ag.cells] using hsz
    have jw:RL w (ow j M w) (j9 (xs.take lo++(List.replicate (hi'-lo) (ag.agg (l.map ag.shut))++xs.drop hi'))) ((vs.toList.take (xs.length*i.size)).take (lo*i.size)++((List.replicate (hi'-lo) zv.cells.toList).flatten++(vs.toList.take (xs.length*i.size)).drop (hi'*i.size))):=by
     rw[oV,oV,se lo k4,ue hi' k4,Pd];exact(hrow.take _).append ((Q2 _ p1).append (hrow.drop _))
    have hhi:lo*i.size+(hi'-lo)*i.size=hi'*i.size:=by rw[<-bQ,dw l1]
    have hput:=xW (ver':=v0) (xs':=xs.take lo++(List.replicate (hi'-lo) (ag.agg (l.map ag.shut))++xs.drop hi')) hr hM l3 (w':=pw w b (lo*i.size) (List.replicate (hi'-lo) zv.cells.toList).flatten) ⟨aJ,s2,s3,s4⟩ (fun b' hb' _=>s5 b' hb') l6 s6 s7 (au _)
     (fun _=>gm) (nF (vV k4) (nF hwz (vU k4))) jw (fun p hp=>by
      have hp':p<xs.length*i.size:=by
       rw[<-jw.1,iU (nF (vV k4) (nF hwz (vU k4)))] at hp;have:(xs.take lo++(List.replicate (hi'-lo) (ag.agg (l.map ag.shut))++xs.drop hi')).length=xs.length:=gm;rwa[this] at hp
      have htk:(List.take (lo*i.size) (vs.toList.take (xs.length*i.size))).length=lo*i.size:=gm;rcases bC p (lo*i.size) with q1|q1
      ·rw[s8 p (.inl q1),aN (by rw[htk]; omega),bH q1,bH hp']; simp
      ·rw[bj (by rw[htk]; exact q1),htk]
       rcases bC p (hi'*i.size) with q2|q2
       ·rw[aN (by rw[dQ]; omega)]
        have:=s9 (p-lo*i.size) (by rw[dQ]; omega)
        rw[dw q1] at this;exact this
       ·rw[bj (by rw[dQ]; omega),s8 p (.inr (by rw[dQ]; omega)),cF,dQ,show hi'*i.size+(p-lo*i.size-(hi'-lo)*i.size)=p by omega,bH hp']; simp)
    rw[fe];rcases gZ (hi'-lo) with h0|h0
    ·refine⟨.tuple #[],pw w b (lo*i.size) (List.replicate (hi'-lo) zv.cells.toList).flatten,.inl ?_,j,hput.1,hput.2,.any _⟩;rw[h0] at l4;simp[execOp,hop,resolve,hb,invoke,builtin,Builtin.clear_,ha',ht',ec hs,l4,h0,pw]
    ·refine⟨.tuple #[],pw w b (lo*i.size) (List.replicate (hi'-lo) zv.cells.toList).flatten,.inl ?_,j,hput.1,hput.2,.any _⟩;obtain⟨m,hm⟩:∃m,hi'-lo=m+1:=⟨hi'-lo-1,aJ⟩;simp only[dp] at hrun;rw[<-rR,hm] at hrun;rw[hm] at l4;rw[<-rR,hm];simp[execOp,hop,resolve,hb,invoke,builtin,Builtin.clear_,ha',ht',ec hs,l4,zeroValue,pW hi,hzv,hrun]
   ·cases h
  ·cases h
 ·cases h
end
def fR.xD{j:J}{M:aC}{w:World}{x:ag}{v:Value}(h:gn j M w x v)(hp:x.plainCell=true):fR w (ow j M w) x v:=by
 cases x with
 |slice tk xs=>cases tk with
  |sh=>exact h.ep
  |c0=>cases hp
  |own k=>cases hp
 |bool b=>cases h with|plain h=>exact h
 |int k n=>cases h with|plain h=>exact h
 |str s=>cases h with|plain h=>exact h
 |raw v=>cases h with|plain h=>exact h
 |agg _=>cases hp
 |tuple _=>cases hp
 |ptr _ _=>cases hp
 |jC _=>cases hp
 |func _ _=>cases hp
 |iC _=>cases hp
 |j7 _=>cases hp
 |ki _ _=>cases hp
 |cD _ _ _ _ _=>cases hp
 |jv _ _ _ _=>cases hp
 |qZ _ _=>cases hp
 |nI _=>cases hp
 |ko _ _ _=>cases hp
 |any=>cases hp
def CD.xD{j:J}{M:aC}{w:World}{x:ag}{v:Value}(h:gn j M w x v)(hp:x.plain=true):CD w (ow j M w) x v:=by
 by_cases hag:∃cs,x = .agg cs
 ·obtain⟨cs,rfl⟩:=hag;obtain⟨us,h1,h2,h3⟩:=h.nb;refine⟨us,h1,h2,fun i c u hc hu => .xD (h3 i c u hc hu) ?_⟩
  simp only[ag.plain,bN] at hp;exact hp c (aE hc)
 ·have e1:x.plain=x.plainCell:=by cases x<;>first|rfl|exact absurd ⟨_,rfl⟩ hag
  have:=fR.xD h (e1▸hp);cases x<;>first|exact absurd ⟨_,rfl⟩ hag|exact this
def Qi{j:J}{M:aC}{w:World}{x:ag}{v:Value}(h:gn j M w x v):gn j M w x.fT v:=by
 have hs:∀ {x:ag} {v:Value},gn j M w x v->gn j M w x.shut v:=fun {x v} h=>by
  cases x<;>first|exact h|exact .plain h.ep
 by_cases hag:∃cs,x = .agg cs
 ·obtain⟨cs,rfl⟩:=hag;obtain⟨us,rfl,h2,h3⟩:=h.nb;refine .agg (by simpa using h2) fun i c u hc hu=>?_
  rw[aX,aV] at hc;obtain⟨c0,hc0,rfl⟩:=hc;exact hs (h3 i c0 u hc0 hu)
 ·cases x<;>first|exact absurd ⟨_,rfl⟩ hag|exact h|exact .plain h.ep
section
variable {P:Program} {C:eR} {o:Oper} {bp:Env} {M:aC} {j:J} {w:World} {a:Act} {x:ag×aC}
def Wm(hr:Rel j M w)(he:cn j M w bp a){f:Nat}{first caps:Array Operand}{zs:List fX}(hop:o.op = .makeFunc (.func f) first caps)(hf:caps.isEmpty=true)(hz:vv first.toList=some zs)
  (h:ei C bp M (.Fx f zs)=some x):∃v w',rj P o a w v w'/\iW j M w x v w':=by
 simp only[ei] at h;split at h
 ·rename_i hp;cases h;obtain⟨h1,h2⟩:=uu he hz;have hf':caps = #[]:=by simpa using hf
  refine⟨.func (.func f) (first.map a.eval) #[],w,.inl ?_,.still hr (.qZ (by simpa using h1) fun i c v hc hv=>?_)⟩
  ·simp[execOp,hop,Instr.makeFunc,hf']
  ·have hpc:=bN.1 hp c (aE hc);rw[aX,aV] at hc;obtain⟨y,hy,rfl⟩:=hc;rw[iM,aV] at hv;obtain⟨z,hz',rfl⟩:=hv;exact .xD (Qi (h2 i y z hy (by simpa using hz'))) hpc
 ·cases h
def PX(hr:Rel j M w)(he:cn j M w bp a){y i:Operand}{z z':fX}{t e:TypeId}{len n:Nat}(hop:o.op = .indexAddr t y i)(ht:P.underlying t=some (.array len e))(hn:qE P e=some n)
  (hz:eW y=some z) (hz':eW i=some z') (h:ei C bp M (.Be len n z z')=some x):∃v w',rj P o a w v w'/\iW j M w x v w':=by
 simp only[ei] at h;have h1:=cT he hz;have h2:=cT he hz';split at h
 ·rename_i cs k m ez ez';obtain⟨⟨h0,hm,hle⟩,h⟩:=dq h;cases h;rw[ez] at h1;rw[ez'] at h2;obtain⟨b,off,vs,hv,hc⟩:=h1.uz;refine⟨.pointer (some ⟨b,off+m.toNat*n,none⟩),w,.inl ?_,.still hr (.jC (vs:=fun q=>vs (m.toNat*n+q)) fun q c hq=>?_)⟩
  ·simp[execOp,hop,Instr.indexAt,ec ht,hv,h2.fV,asIntOf,h0,hm,jr hn,lR,Instr.sureAddr]
  ·rw[cF] at hq;have h3:=hc _ c hq;rw[Nat.add_assoc];exact h3
 ·rename_i id off k m ez ez';obtain⟨⟨h0,hm⟩,h⟩:=dq h;cases h;rw[ez] at h1;rw[ez'] at h2;obtain⟨b,h3,h4,h5,hv⟩:=h1.qt;refine⟨.pointer (some ⟨b,off+m.toNat*n,none⟩),w,.inl ?_,.still hr (.ptr h3 h4 h5)⟩;simp[execOp,hop,Instr.indexAt,ec ht,hv,h2.fV,asIntOf,h0,hm,jr hn,lR,Instr.sureAddr]
 ·cases h
def P8(hr:Rel j M w){id q sz:Nat}{cs:List ag}(hM:M[id]?=some (.cells cs))(hc:cs[q]?=some (.slice .c0 [])) :
  ∃j',Rel j' (M.set id (.cells (cs.set q (.slice (.own M.length) [])))++[.tick sz 0]) w/\Ext j M w j' (M.set id (.cells (cs.set q (.slice (.own M.length) [])))++[.tick sz 0]) w:=by
 have q0:Quiet w w:=⟨au _,rfl,rfl,rfl⟩;have hr1:Rel (gI j M.length none) (M++[.tick sz 0]) w:=hr.push (ob:=none) (fun b h=>by cases h) q0 (fun _ _=>rfl) (fun h=>by cases h) (fun sz n b h h'=>by cases h')
 have hx1:Ext j M w (gI j M.length none) (M++[.tick sz 0]) w:=Ext.push (fun b h=>by cases h) q0 (fun _ _=>rfl)
 have hid:=aO hM;have hM1:(M++[cL.tick sz 0])[id]?=some (.cells cs):=by rw[xU hid]; exact hM
 obtain⟨b,vs,t,hj,hw,hl,hcs⟩:=hr.box id cs hM;have hj1:gI j M.length none id=some b:=by simp[gI,gM hid,hj]
 have hset:M.set id (cL.cells (cs.set q (.slice (.own M.length) [])))++[cL.tick sz 0]=(M++[cL.tick sz 0]).set id (cL.cells (cs.set q (.slice (.own M.length) []))):=by rw[List.set_append_left _ _ hid]
 rw[hset];have hh:∀j' M',Ext (gI j M.length none) (M++[.tick sz 0]) w j' M' w->Holds j' M' w b (.cells (cs.set q (.slice (.own M.length) []))):=fun j' M' hx=>⟨vs,t,hw,by simpa using hl,fun p c v hc' hv=>gn.mono hx ?_⟩
 ·exact⟨_,Rel.store hM1 rfl rfl hj1 hr1 q0 (fun _ _ _=>rfl) (fun vs t fr h=>⟨vs,fr,h,rfl⟩) hh,hx1.trans (Ext.store hM1 rfl rfl hj1 hr1 q0 (fun _ _ _=>rfl) (fun vs t fr h=>⟨vs,fr,h,rfl⟩))⟩
 ·by_cases hp:q=p
  ·subst hp;rw[eE (aO hc)] at hc';cases hc';have h1:=hcs q _ v hc hv
   obtain⟨A,hA⟩:∃A,v = .slice A 0 0:=by
    cases h1 with
    |plain h=>cases h
    |c0 A=>exact⟨A,rfl⟩
   rw[hA];exact .own (sz:=sz) (n:=0) dx dx (fR.nil _ _ _) fun _ => .inl ⟨by simp[gI],rfl,A,rfl⟩
  ·rw[fa hp] at hc';exact gn.mono hx1 (hcs p c v hc' hv)
def L9(hr:Rel j M w){id q sz:Nat}{cs:List ag}(hM:M[id]?=some (.cells cs))(hc:cs[q]?=some (.slice .c0 [])) :
  ∃j',Rel j' (M.set id (.cells (cs.set q (.cD M.length 0 sz 0 0)))++[.arr sz 0 []]) w/\Ext j M w j' (M.set id (.cells (cs.set q (.cD M.length 0 sz 0 0)))++[.arr sz 0 []]) w:=by
 have q0:Quiet w w:=⟨au _,rfl,rfl,rfl⟩;have hr1:Rel (gI j M.length none) (M++[.arr sz 0 []]) w:=hr.push (ob:=none) (bx := .arr sz 0 []) (fun b h=>by cases h) q0 (fun _ _=>rfl) (fun h=>by cases h) (fun sz n b h h'=>by cases h') (fun sz ver xs h=>by injection h with e1 e2 e3; exact .inl ⟨e3.symm,rfl⟩)
 have hx1:Ext j M w (gI j M.length none) (M++[.arr sz 0 []]) w:=Ext.push (fun b h=>by cases h) q0 (fun _ _=>rfl)
 have hid:=aO hM;have hM1:(M++[cL.arr sz 0 []])[id]?=some (.cells cs):=by rw[xU hid]; exact hM
 obtain⟨b,vs,t,hj,hw,hl,hcs⟩:=hr.box id cs hM;have hj1:gI j M.length none id=some b:=by simp[gI,gM hid,hj]
 have hset:M.set id (cL.cells (cs.set q (.cD M.length 0 sz 0 0)))++[cL.arr sz 0 []]=(M++[cL.arr sz 0 []]).set id (cL.cells (cs.set q (.cD M.length 0 sz 0 0))):=by rw[List.set_append_left _ _ hid]
 rw[hset];have hh:∀j' M',Ext (gI j M.length none) (M++[.arr sz 0 []]) w j' M' w->Holds j' M' w b (.cells (cs.set q (.cD M.length 0 sz 0 0))):=fun j' M' hx=>⟨vs,t,hw,by simpa using hl,fun p c v hc' hv=>gn.mono hx ?_⟩
 ·exact⟨_,Rel.store hM1 rfl rfl hj1 hr1 q0 (fun _ _ _=>rfl) (fun vs t fr h=>⟨vs,fr,h,rfl⟩) hh,hx1.trans (Ext.store hM1 rfl rfl hj1 hr1 q0 (fun _ _ _=>rfl) (fun vs t fr h=>⟨vs,fr,h,rfl⟩))⟩
 ·by_cases hp:q=p
  ·subst hp;rw[eE (aO hc)] at hc';cases hc';have h1:=hcs q _ v hc hv
   obtain⟨A,hA⟩:∃A,v = .slice A 0 0:=by
    cases h1 with
    |plain h=>cases h
    |c0 A=>exact⟨A,rfl⟩
   rw[hA];refine .cD (.inr ⟨rfl,A,rfl⟩) dx (fun bx hbx=>by rw[kf] at hbx; cases hbx; rfl) fun sz' v' zs hx=>?_
   rw[kf] at hx; injection hx with hx; injection hx with e1 e2 e3
   subst e1; subst e2; subst e3;exact⟨au _,fun _=>⟨rfl,au _,au _,.inl ⟨rfl,by simp[gI],A,rfl⟩⟩⟩
  ·rw[fa hp] at hc';exact gn.mono hx1 (hcs p c v hc' hv)
def Kh{cs new:List ag}{off p:Nat}{x:ag}(h:off+new.length<=cs.length)(hp:p<new.length):mT cs off (new.set p x)=(mT cs off new).set (off+p) x:=by
 apply cp;intro i;rw[re (by simpa using h)]
 by_cases hi:off+p=i
 ·subst hi;rw[eE (by rw[u7 h]; omega),aZ gm,show off+p-off=p by omega,eE hp]
 ·rw[fa hi,re h];simp only[dh];split
  ·rename_i hc;rw[fa aJ]
  ·rfl
def P0(hr:Rel j M w)(he:cn j M w bp a){y y':Operand}{z z':fX}{t:TypeId}{n sz p:Nat}(hop:o.op = .store t y y')(hn:qE P t=some n)(hz:eW y=some z)(hz':eW y'=some z')
  (h:ei C bp M (.BG sz p n z z')=some x):∃v w',rj P o a w v w'/\iW j M w x v w':=by
 simp only[ei] at h;split at h
 ·rename_i id off e;split at h
  ·rename_i cs hM;obtain⟨new,jw,h⟩:=bo h;split at h
   ·rename_i hp;split at h
    ·rename_i hcond;cases h
     have hs:ei C bp M (.store n z z')=some (.any,iR M id (.cells (mT cs off new))):=by
      simp only[ei,e,hM,jw,bO];rw[aZ hcond]
     obtain⟨v,w',h1,j',h2,h3,h4⟩:=Eo hr he hop hn hz hz' hs;rw[fc] at hM hp;have cJ:=aO hM;have hpl:=aO hp;have hle:off+new.length<=cs.length:=aJ;rw[fe] at h2 h3 h4;have hM2:(M.set id (.cells (mT cs off new)))[id]?=some (.cells (mT cs off new)):=ef cJ
     have hc2:(mT cs off new)[off+p]?=some (.slice .c0 []):=by
      rw[re hle,aZ aJ,show off+p-off=p by omega]
      exact hp
     rw[fe,fe,Kh hle hpl];unfold P7 P6;split
     ·obtain⟨j'',k1,k2⟩:=L9 (sz:=sz-500) h2 hM2 hc2;rw[List.set_set,dh] at k1 k2;exact⟨v,w',h1,j'',k1,h3.trans k2,.any _⟩
     ·obtain⟨j'',k1,k2⟩:=P8 (sz:=sz) h2 hM2 hc2;rw[List.set_set,dh] at k1 k2;exact⟨v,w',h1,j'',k1,h3.trans k2,.any _⟩
    ·cases h
   ·cases h
  ·cases h
 ·cases h
end
section
variable {P:Program} {C:eR} {o:Oper} {bp:Env} {M:aC} {x:ag×aC} {j:J} {w:World} {a:Act}
def aa4(hr:Rel j M w)(he:cn j M w bp a){t e:TypeId}{len:Nat}{parts:Array (Nat×Operand)}{i:TypeInfo}(hop:o.op = .buildSlice t len parts)(ht:P.underlying t=some (.slice e))
  (hi:P.info? e=some i) (hzs:GZ 0 parts.toList=some []) (dQ:0=len) (hroom:len*i.size<=2 ^ 24) (hzero:(i.zero.map fun z=>z.cells.size)=some i.size)
  (h:ei C bp M (.own (500+i.size) (.tg (.slice .c0 [])))=some x):∃v w',rj P o a w v w'/\iW j M w x v w':=by
 subst dQ;simp only[ei,fX.ev] at h;cases h;obtain⟨hll,hwd,cells',hcs,hrun,hel⟩:=Bm (w:=w) he hop ht hi hzs rfl hroom hzero (l:=[]) rfl;obtain⟨q,hb,jw⟩:=pf (w:=w) (.cells cells' e (0,0));refine⟨_,_,.inl hrun,gI j M.length none,?_⟩;unfold P7 P6;rw[aZ (kl _ _),aZ (kl _ _)];refine⟨hr.push (ob:=none) (fun b h=>by cases h) q hb (fun h=>by cases h) (fun sz n b h h'=>by cases h') (fun sz ver xs h=>by injection h with e1 e2 e3; exact .inl ⟨e3.symm,rfl⟩),Ext.push (fun b h=>by cases h) q hb,?_⟩
 refine .cD (.inr ⟨rfl,_,rfl⟩) dx (fun bx hbx=>by rw[kf] at hbx; cases hbx; rfl) fun sz' v' zs hx=>?_
 rw[kf] at hx; injection hx with hx; injection hx with e1 e2 e3
 subst e1; subst e2; subst e3;exact⟨au _,fun _=>⟨rfl,au _,au _,.inl ⟨rfl,by simp[gI],_,rfl⟩⟩⟩
end
section
variable {P:Program} {C:eR} {o:Oper} {bp:Env} {M:aC} {j:J} {w:World} {a:Act} {x:ag×aC}
def Qt{x:ag}{u v:Value}(h:valOf x=some u)(hr:gn j M w x v):v=u:=by
 unfold valOf at h;split at h
 ·cases h; exact hr.fV
 ·rename_i k n;cases h;obtain⟨vs,rfl,hl,hc⟩:=hr.nb;have hs:vs.size=1:=by simpa using hl.symm
  have h0:vs[0]?=some (vs[0]'(by omega)):=bg aJ
  have h1:=(hc 0 _ _ rfl h0).fV;congr 1;apply Array.ext
  ·simpa using hs
  ·intro i h2 h3;have:i=0:=aJ;subst this;simpa using h1
 ·cases h
def gn.NS{u v:Value}(h:gn j M w (.raw u) v):v=u:=by cases h with|plain h=>cases h; rfl
def Wu(hr:Rel j M w)(he:cn j M w bp a){t:TypeId}{y:Operand}{z:fX}{d:TypeDesc}(hop:o.op = .makeInterface t y)(hu:P.underlying t=some d)(hd:∀m,d ≠ .interface m)(hz:eW y=some z)
  (h:ei C bp M (.iface t z)=some x):∃v w',rj P o a w v w'/\iW j M w x v w':=by
 simp only[ei] at h;have h1:=cT he hz;split at h
 ·rename_i id off e;cases h;rw[e] at h1;obtain⟨b,_,hc,hj,hy⟩:=h1.qt;refine⟨_,w,.inl ?_,.still hr (.ko hc hj)⟩;simp only[execOp,hop,Instr.makeInterface,hy];cases d<;>first|exact absurd rfl (hd _)|simp[ec hu]
 obtain⟨v,hv,h⟩:=bo h;cases h;have hy:=Qt hv h1;refine⟨.iface t v,w,.inl ?_,.still hr (.plain (.raw _ rfl))⟩;simp only[execOp,hop,Instr.makeInterface,hy];cases d<;>first|exact absurd rfl (hd _)|simp[ec hu]
def WC(hr:Rel j M w)(he:cn j M w bp a){y:Operand}{z:fX}(hop:o.op = .panic y)(hz:eW y=some z)(h:ei C bp M (.raise z)=some x) :
  ∃u,(execOp a.eval o).run P w = .halt (.panic u) w/\HZ j M w x u w:=by
 simp only[ei] at h;have h1:=cT he hz;split at h
 ·rename_i v e;split at h
  ·rename_i t u;cases h;rw[e] at h1;refine⟨.iface t u,?_,rfl,j,hr,Ext.refl j M w⟩;have:a.eval y = .iface t u:=h1.NS;simp[execOp,hop,Instr.panic,this]
  ·cases h
 ·cases h
end
section
variable {P:Program} {C:eR} {o:Oper} {bp:Env} {M:aC} {j:J} {w:World} {a:Act} {x:ag×aC}
def WG(he:cn j M w bp a){y:Operand}{z:fX}(hz:Ri y=some z):gn j M w (z.ev bp) (a.eval y):=by
 unfold Ri at hz;split at hz
 ·cases hz;exact .plain (.raw _ rfl)
 ·exact cT he hz
def RY{n:Nat}(he:cn j M w bp a):∀ {parts:List (Nat×Operand)} {ps:List (Nat×Nat×fX)} {cs cs':List ag} {cells:Array Value},
  x4 n parts=some ps->mu bp cs ps=some cs'->RC j M w cs cells ->
  ∃cells',Instr.fill (fun i=>some (i*n,n)) cells (parts.map fun p=>(p.1,a.eval p.2))=some cells'/\RC j M w cs' cells':=by
 intro parts;induction parts with
 |nil =>
  intro ps cs cs' cells h1 h2 h3;simp[x4] at h1; subst h1;simp[mu] at h2; subst h2;exact⟨cells,rfl,h3⟩
 |cons p r ih =>
  intro ps cs cs' cells h1 h2 h3;obtain⟨i,y⟩:=p;simp only[x4] at h1;obtain⟨z,hz,h1⟩:=bf h1;obtain⟨l,hl,h1⟩:=bf h1;cases h1;simp only[mu] at h2;obtain⟨new,jw,h2⟩:=bo h2;split at h2
  ·rename_i hc;obtain⟨c1,c2⟩:=hc;have hrc:=tH (cT he hz) jw;obtain⟨cells',e1,e2⟩:=ih hl h2 (h3.write (off:=i*n) hrc aJ);refine⟨cells',?_,e2⟩;have hs1:=hrc.1;have hs2:=h3.1;simp only[aH,Instr.fill];rw[aR gm];exact e1
  ·cases h2
def PT(hr:Rel j M w)(he:cn j M w bp a){t e:TypeId}{len n:Nat}{parts:Array (Nat×Operand)}{i:TypeInfo}{zv:Value}{l:List ag}{ps:List (Nat×Nat×fX)}(hop:o.op = .build t parts)
  (ht:P.underlying t=some (.array len e)) (hi:P.info? t=some i) (hzv:i.zero=some zv) (hl:tp zv.cells.toList=some l) (hn:qE P e=some n) (hps:x4 n parts.toList=some ps)
  (h:ei C bp M (.build l ps)=some x):∃v w',rj P o a w v w'/\iW j M w x v w':=by
 simp only[ei] at h;obtain⟨cs,hcs,h⟩:=bo h;cases h;obtain⟨h1,h2⟩:=qF (j:=j) (M:=M) (w:=w) hl;obtain⟨cells',e1,e2⟩:=RY (n:=n) he hps hcs (cells:=zv.cells) ⟨by simpa using h1,fun i c v hc hv=>h2 i c v hc (by simpa using hv)⟩
 refine⟨.agg cells',w,.inl ?_,.still hr (.agg e2.1 e2.2)⟩;have e1':Instr.fill (fun i=>some (i*n,n)) zv.cells (parts.map fun p=>(p.1,a.eval p.2)).toList=some cells':=by simpa using e1
 simp only[execOp,hop,Instr.build,zeroValue,Sem.run_bind,pW hi,Result.andThen_ok,hzv,Sem.run_pure,ec ht,jr hn];simp only[e1',Sem.run_pure,Result.andThen_ok]
def Lm{a b:ag}{r:Bool}(h:kv .i a b=some r):∃k x y,a = .int k x/\b = .int k y/\r=(x==y):=by
 cases a<;>cases b<;>first
  |(simp only[kv] at h
    split at h
    ·rename_i hk; subst hk; injection h with h; exact⟨_,_,_,rfl,rfl,h.symm⟩
    ·cases h)
  |cases h
def B6{d:Nat}{e:TypeId}{k0:IntKind}(hk:P.underlying e=some (.int k0))(hc1:P.cellsOf e=1){cs ds:List ag}{us vs:Array Value}(hc:RC j M w cs us)(hd:RC j M w ds vs):∀(n k:Nat){r:Bool},kY (List.replicate n .i) (cs.drop k) (ds.drop k)=some r ->
  (Op.eqItems (d+1) e (P.cellsOf e) us vs (List.range' k n)).run P w = .ok r w
 |0,k,r,h2=>by
  unfold kY at h2;split at h2<;>simp_all [Op.eqItems]
 |n+1,k,r,h2=>by
  have hk1:k<cs.length:=by
   rcases bC k cs.length with h|h
   ·exact h
   ·rw[jn h,jk] at h2; simp[kY] at h2
  have hk2:k<ds.length:=by
   rcases bC k ds.length with h|h
   ·exact h
   ·rw[jn h,cW hk1,jk] at h2;simp[kY] at h2
  rw[cW hk1,cW hk2,jk] at h2;simp only[kY] at h2;obtain⟨e1,he1,h2⟩:=bo h2;obtain⟨e2,he2,h2⟩:=bo h2;cases h2;have hlu:k<us.size:=by have:=hc.1; omega
  have hlv:k<vs.size:=by have:=hd.1; omega
  have hu:=bg hlu;have hv:=bg hlv;have ih:=B6 (d:=d) hk hc1 hc hd n (k+1) he2;have hr1:=hc.2 k _ _ (ai hk1) hu;have hr2:=hd.2 k _ _ (ai hk2) hv;have hag:CE P e=some false:=by simp[CE,hk]
  have p1:(part e us (k*P.cellsOf e)).run P w = .ok us[k] w:=by simp[part,lK hag,hc1,hu]
  have p2:(part e vs (k*P.cellsOf e)).run P w = .ok vs[k] w:=by simp[part,lK hag,hc1,hv]
  have p3:(Op.equalIn (d+1) e us[k] vs[k]).run P w = .ok e1 w:=by
   obtain⟨kk,x,y,e3,e4,rfl⟩:=Lm he1;rw[e3] at hr1; rw[e4] at hr2;rw[hr1.fV,hr2.fV];exact run_equalIn_int w d e _ _ x y hk
  rw[List.range'_succ];simp only[Op.eqItems,Sem.run_bind,p1,p2,p3,Result.andThen_ok];cases e1
  ·simp
  ·simpa using ih
def Wq(hr:Rel j M w)(he:cn j M w bp a){y y':Operand}{z z':fX}{t t' e:TypeId}{len:Nat}{k0:IntKind}(hop:o.op = .binOp .eql t y y' t')(ht:P.underlying t=some (.array len e))(hk:P.underlying e=some (.int k0))(hs:qE P e=some 1)
  (hz:eW y=some z) (hz':eW y'=some z') (h:ei C bp M (.QG (List.replicate len .i) false z z')=some x):∃v w',rj P o a w v w'/\iW j M w x v w':=by
 simp only[ei] at h;have h1:=cT he hz;have h2:=cT he hz';split at h
 ·rename_i cs ds ez ez';obtain⟨r,hee,h⟩:=bo h;cases h;rw[ez] at h1;rw[ez'] at h2;obtain⟨us,hus,hul,huc⟩:=h1.nb;obtain⟨vs,hvs,hvl,hvc⟩:=h2.nb;obtain⟨inf,hinf,hsz⟩:=EM hs;have hc1:P.cellsOf e=1:=by simp[Program.cellsOf,hinf,hsz]
  have heq:(Op.equal t (.agg us) (.agg vs)).run P w = .ok r w:=by
   unfold Op.equal;rw[show Op.maxDepth=9998+1+1 from rfl,run_equalIn_array w (9998+1) us vs ht hinf,lA]
   exact B6 (d:=9998) hk hc1 ⟨hul,huc⟩ ⟨hvl,hvc⟩ len 0 (by simpa using hee)
  have hgt:P.eqGuardType P.depth t=false:=by
   unfold Program.depth;rw[show 2*(P.types.size+Made.depth)+2=(2*(P.types.size+Made.depth))+1+1 from rfl,Program.eqGuardType,ht]
   simp only[Program.eqGuardType,hk]
  have hguard:∀op,(eqGuard op t y y' (.agg us) (.agg vs)).run P w = .ok () w:=by
   intro op;unfold eqGuard;cases op<;>simp[hgt]
  exact⟨.bool r,w,.inl (by simp[execOp,hop,hus,hvs,hguard,binOp,heq]),.still hr (.plain (.bool _))⟩
 ·cases h
def uq{l:List ag}(hp:0<l.length)(h1:l.all ag.plainCell=true):(ag.agg l).norm.cells=l:=by
 match l with
 | []=>simp at hp
 | [c] =>
  simp only[kK,List.all_nil,gb] at h1
  show c.cells=[c]
  cases c<;>first|rfl|cases h1
 |_::_::_=>rfl
def V2(z:Array Value)(n k:Nat)(h:k<n)(hz:0<z.size):(madeCells z n)[k]?=z[k % z.size]?:=by
 have hm:k % z.size<z.size:=mj _ hz;rw[bg hm];simp[madeCells,h,hm]
def Ow(w:World)(iE:Nat->Nat->Prop){v:Value}{c:ag}(h:KA v=some c):fR w iE c.shut v:=by
 unfold KA at h
 split at h<;>first
  |(cases h; first|exact .bool _|exact .int _ _|exact .str _|exact .raw _ rfl|exact fR.nil _ _ _)
  |cases h
def H2:∀ {vs:List Value} {l:List ag},tp vs=some l->∀(i:Nat)(c:ag)(v:Value),l[i]?=some c->vs[i]?=some v->KA v=some c
 | [],l,h,i,c,v,h1,h2=>by simp at h2
 |u::r,l,h,i,c,v,h1,h2=>by
  simp only[tp] at h;obtain⟨x,hx,h⟩:=bf h;obtain⟨l',hl,h⟩:=bf h;cases h;cases i with
  |zero=>simp at h1 h2; subst h1; subst h2; exact hx
  |succ i=>exact H2 hl i c v (by simpa using h1) (by simpa using h2)
def NC{t e:TypeId}{i:TypeInfo}{zv:Value}{l:List ag}{y:Operand}{k:Int}{kk:IntKind}(hop:o.op = .makeSlice t y y)(ht:P.underlying t=some (.slice e))(hi:P.info? e=some i)(hzv:i.zero=some zv)
  (hl:tp zv.cells.toList=some l) (c1:l.length=i.size) (c2:0<i.size) (c3:i.bytes<=32*i.size) (hev:a.eval y = .int kk k) (h0:0<=k) (hroom:ct k.toNat (8*(l.map ag.shut).length)) (hpl:(l.map ag.shut).all ag.plainCell=true) :
  ∃row:Array Value,(execOp a.eval o).run P w = .ok (.value (.slice (some ⟨w.heap.size,0,none⟩) k.toNat k.toNat)) (w.alloc (.cells row e))/\row.size=k.toNat*i.size /\
   ∀iE (w':World) (q:Nat) (x:ag) (p:Nat) (c:ag),(List.replicate k.toNat (ag.agg (l.map ag.shut)).norm)[q]?=some x->x.cells[p]?=some c->∃v,row[q*i.size+p]?=some v/\fR w' iE c v:=by
 have hls:(l.map ag.shut).length=i.size:=by simpa using c1
 have hzs:zv.cells.size=i.size:=by
  have:=(qF (j:=⟨fun _=>none,fun _ _=>False⟩) (M:=[]) (w:=w) hl).1
  simp at this; omega
 unfold ct at hroom;rw[hls] at hroom
 have hb:i.bytes*k.toNat<=2 ^ 46:=by
  have h1:=bd k.toNat c3;have h2:32*i.size*k.toNat=4*(k.toNat*(8*i.size)):=by rw[show(32:Nat)=4*8 from rfl,Nat.mul_assoc 4 8,Nat.mul_assoc 4,Nat.mul_comm (8*i.size)]
  omega
 have hk44:k.toNat<=2 ^ 44:=aY (fL _ aJ) hroom
 have hrun:=run_make (P:=P) w t e i zv ht hi hzv kk kk k k h0 (dU _) (by
  have:((i.bytes*k.toNat:Nat):Int)<=2 ^ 46:=by exact_mod_cast hb
  rw[Int.natCast_mul,oH h0] at this;omega) aJ
 refine⟨madeCells zv.cells (k.toNat*i.size),by simp[execOp,hop,hev,hrun],size_madeCells _ _,fun iE w' q x p c hx hc=>?_⟩
 rw[ic] at hx;split at hx
 ·rename_i hq;cases hx;rw[uq aJ hpl] at hc;have hp:p<i.size:=by rw[<-hls]; exact aO hc
  have cJ:q*i.size+p<k.toNat*i.size:=by
   have:(q+1)*i.size<=k.toNat*i.size:=bd _ hq;rw[bQ,fM] at this;omega
  rw[V2 _ _ _ cJ aJ,hzs,Nat.add_comm,Nat.add_mul_mod_self_right,nK hp];rw[aX,aV] at hc;obtain⟨c0,hc0,rfl⟩:=hc;have hpz:p<zv.cells.size:=aJ;have hv:=bg hpz;refine⟨_,hv,?_⟩;exact Ow w' iE (H2 hl p c0 _ hc0 dx)
 ·cases hx
def Wz(hr:Rel j M w)(he:cn j M w bp a){t e:TypeId}{i:TypeInfo}{zv:Value}{l:List ag}{y:Operand}{z:fX}(hop:o.op = .makeSlice t y y)(ht:P.underlying t=some (.slice e))(hi:P.info? e=some i)(hzv:i.zero=some zv)
  (hl:tp zv.cells.toList=some l) (hz:eW y=some z) (c1:l.length=i.size) (c2:0<i.size) (c3:i.bytes<=32*i.size) (h:ei C bp M (.mkS (l.map ag.shut) z)=some x):∃v w',rj P o a w v w'/\iW j M w x v w':=by
 simp only[ei] at h;have h1:=cT he hz;split at h
 ·rename_i kk k ek;obtain⟨⟨h0,hroom,hpl⟩,h⟩:=dq h;cases h;rw[ek] at h1;obtain⟨row,hrun,hsz,hel⟩:=NC (w:=w) hop ht hi hzv hl c1 c2 c3 h1.fV h0 hroom hpl;have hls:(l.map ag.shut).length=i.size:=by simpa using c1
  obtain⟨q,hb,jw⟩:=pf (w:=w) (.cells row e (0,0));refine⟨_,{ w with heap:=w.heap.push (.cells row e (0,0)) },.inl hrun,?_⟩
  have ext:Ext j M w j M { w with heap:=w.heap.push (.cells row e (0,0)) }:=Ext.grow q.size rfl rfl rfl hb
  have rel:Rel j M { w with heap:=w.heap.push (.cells row e (0,0)) }:=hr.grow q.size rfl rfl rfl hb
  refine⟨j,rel,ext,.plain (.slice _ _ _ _ w.heap.size 0 i.size (fun p=>(row[p]?).getD undef) dx (au _) (fun _=>rfl) (fun x hx=>?_) (fun n y k c hn hk=>?_) (fun n y k c hn hk=>?_))⟩
  ·obtain⟨_,rfl⟩:=List.mem_replicate.1 hx;rw[uq aJ hpl,hls]
  ·obtain⟨u,hu,_⟩:=hel (ow j M { w with heap:=w.heap.push (.cells row e (0,0)) }) { w with heap:=w.heap.push (.cells row e (0,0)) } n y k c hn hk
   refine⟨?_,dx,fun id hid hj=>?_,fun hx=>absurd (hr.AF _ _ hx) (ig _)⟩
   ·simp only[World.cell?,jw,aK,hu];rfl
   ·have:=hr.lt id _ hid hj;omega
  ·obtain⟨u,hu,hru⟩:=hel (ow j M { w with heap:=w.heap.push (.cells row e (0,0)) }) { w with heap:=w.heap.push (.cells row e (0,0)) } n y k c hn hk
   rw[hu];exact hru
 ·cases h
def aa3(hr:Rel j M w)(he:cn j M w bp a){t e:TypeId}{i:TypeInfo}{zv:Value}{l:List ag}{y:Operand}{z:fX}(hop:o.op = .makeSlice t y y)(ht:P.underlying t=some (.slice e))(hi:P.info? e=some i)(hzv:i.zero=some zv)
  (hl:tp zv.cells.toList=some l) (hz:eW y=some z) (c1:l.length=i.size) (c2:0<i.size) (c3:i.bytes<=32*i.size) (h:ei C bp M (.PO (l.map ag.shut) z)=some x):∃v w',rj P o a w v w'/\iW j M w x v w':=by
 simp only[ei] at h;have h1:=cT he hz;split at h
 ·rename_i kk k ek;obtain⟨⟨h0,hroom,hpl⟩,h⟩:=dq h;cases h;rw[ek] at h1;obtain⟨row,hrun,hsz,hel⟩:=NC (w:=w) hop ht hi hzv hl c1 c2 c3 h1.fV h0 hroom hpl;have hls:(l.map ag.shut).length=i.size:=by simpa using c1
  rw[hls];obtain⟨q,hb,jw⟩:=pf (w:=w) (.cells row e (0,0));have hob:∀b,some w.heap.size=some b->w.heap.size<=b/\b<({ w with heap:=w.heap.push (.cells row e (0,0)) }:World).heap.size:=fun b h=>by cases h; simp
  have ext:Ext j M w (gI j M.length (some w.heap.size)) (M++[.arr i.size 0 (List.replicate k.toNat (ag.agg (l.map ag.shut)).norm)]) { w with heap:=w.heap.push (.cells row e (0,0)) }:=Ext.push (fun b hb=>(hob b hb).1) q hb
  refine⟨_,{ w with heap:=w.heap.push (.cells row e (0,0)) },.inl hrun,gI j M.length (some w.heap.size),hr.push hob q hb (fun h=>by cases h) (fun sz n b h _=>by cases h) (fun sz0 v0 xs0 he=>?_),ext,?_⟩
  ·injection he with e1 e2 e3
   subst e1; subst e2; subst e3;refine .inr ⟨w.heap.size,row,e,rfl,jw,by simp[hsz],fun x hx=>?_,fun j' M' hx q0 x p c hq hp=>hel (ow j' M' { w with heap:=w.heap.push (.cells row e (0,0)) }) { w with heap:=w.heap.push (.cells row e (0,0)) } q0 x p c hq hp⟩
   obtain⟨_,rfl⟩:=List.mem_replicate.1 hx;rw[uq aJ hpl,hls]
  ·refine .cD (.inl ⟨_,_,_,by rw[bP],aJ⟩) dx (fun bx hbx=>by rw[kf] at hbx; cases hbx; rfl) fun sz' v' ys hx=>?_
   rw[kf] at hx; injection hx with hx; injection hx with e1 e2 e3
   subst e1; subst e2; subst e3;exact⟨au _,fun _=>⟨rfl,cS _,dx,.inr ⟨w.heap.size,k.toNat,row,e,by simp[gI],dx,aJ,jw,by rw[aK]; omega⟩⟩⟩
 ·cases h
end
section
variable {j:J} {M:aC} {w w':World}
def Ext.u9{k b' sz ver ver':Nat}{xs xs':List ag}(hM:M[k]?=some (.arr sz ver xs))(q:Quiet w w')(hb:∀b,b<w.heap.size->w'.heap[b]?=w.heap[b]?)(hf:w.heap.size<=b')(hn:ver<ver') :
  Ext j M w (gI j k (some b')) (M.set k (.arr sz ver' xs')) w' where
 len:=dx
 size:=q.size
 os:=q.os
 tape:=q.tape
 output:=q.output
 X:=rfl
 fix:=fun i b0 h hf=>by
  have e:k≠i:=by rintro rfl; rw[hM] at h; cases h; cases hf
  exact⟨by simp[gI,eY e],b0,by rw[cQ e]; exact h,rfl⟩
 tick:=fun i sz0 n0 h=>by
  have e:k≠i:=by rintro rfl; rw[hM] at h; cases h
  exact⟨n0,au _,by rw[cQ e]; exact h,fun _=>⟨by simp[gI,eY e],fun b vs0 t0 _ hv=>⟨vs0,(hb b (lt_of_block hv)).trans hv,rfl⟩⟩⟩
 arr:=fun i sz0 v0 xs0 h=>by
  by_cases e:k=i
  ·subst e;rw[hM] at h;injection h with h; injection h with h1 h2 h3
   subst h1; subst h2; subst h3;exact .inr ⟨ver',xs',ef (aO hM),aJ,fun he=>aJ⟩
  ·exact .inr ⟨v0,xs0,by rw[cQ e]; exact h,au _,fun _=>⟨by simp[gI,eY e],rfl,fun b vs0 t0 _ hv=>⟨vs0,(hb b (lt_of_block hv)).trans hv,rfl⟩⟩⟩
 tags:=fun b0 vs0 t0 fr0 h=>⟨vs0,fr0,(hb b0 (lt_of_block h)).trans h,rfl⟩
 iE:=fun b0 off h=>by
  refine⟨⟨bu h.1 q.size,fun i hi hji=>?_,h.3⟩,World.cell?_of_block (w:=w) (hb b0 h.1)⟩
  have e:k≠i:=by
   rintro rfl;have:b'=b0:=by simpa[gI] using hji
   have:=h.1;omega
  rw[cQ e];exact h.2 i (by simpa using hi) (by simpa[gI,eY e] using hji)
 ur:=fun b0 cJ h=>by
  refine⟨hb b0 cJ,fun i hi hji=>?_⟩
  by_cases e:i=k
  ·have:b'=b0:=by simpa[gI,e] using hji
   omega
  ·exact h i (by simpa using hi) (by simpa[gI,e] using hji)
def Rel.u9{k b' sz ver ver':Nat}{xs xs':List ag}(hM:M[k]?=some (.arr sz ver xs))(hr:Rel j M w)(q:Quiet w w')(hb:∀b,b<w.heap.size->w'.heap[b]?=w.heap[b]?)
  (hf:w.heap.size<=b') (cJ:b'<w'.heap.size) (hn:ver<ver') (hh:∀j' M',Ext j M w j' M' w'->Fm j' M' w' b' sz xs'):Rel (gI j k (some b')) (M.set k (.arr sz ver' xs')) w':=by
 have ext:Ext j M w (gI j k (some b')) (M.set k (.arr sz ver' xs')) w':=Ext.u9 hM q hb hf hn;refine⟨fun i i' b0 hi hi' h h'=>?_,fun i b0 hi h=>?_,fun i bx0 h hf=>?_,fun i sz0 n0 b0 h hji=>?_,fun i sz0 v0 xs0 h=>?_,fun i b0 hi h off hx=>?_,fun b0 off h=>bu (hr.AF b0 off h) q.size⟩
 ·simp only[dh] at hi hi'
  by_cases e:i=k<;>by_cases e':i'=k
  ·omega
  ·have h1:b'=b0:=by simpa[gI,e] using h
   have:=hr.lt i' b0 hi' (by simpa[gI,e'] using h')
   omega
  ·have h1:b'=b0:=by simpa[gI,e'] using h'
   have:=hr.lt i b0 hi (by simpa[gI,e] using h)
   omega
  ·exact hr.inj i i' b0 hi hi' (by simpa[gI,e] using h) (by simpa[gI,e'] using h')
 ·simp only[dh] at hi
  by_cases e:i=k
  ·have h1:b'=b0:=by simpa[gI,e] using h
   subst h1;exact cJ
  ·exact bu (hr.lt i b0 hi (by simpa[gI,e] using h)) q.size
 ·have e:k≠i:=by rintro rfl; rw[ef (aO hM)] at h; cases h; cases hf
  rw[cQ e] at h;obtain⟨b0,h1,h2⟩:=hr.fix i bx0 h hf;exact⟨b0,by simpa[gI,eY e] using h1,h2.mono ext (hb b0 (hr.lt i b0 (aO h) h1))⟩
 ·have e:k≠i:=by rintro rfl; rw[ef (aO hM)] at h; cases h
  rw[cQ e] at h;obtain⟨vs0,t0,h1⟩:=hr.tick i sz0 n0 b0 h (by simpa[gI,eY e] using hji)
  exact⟨vs0,t0,(hb b0 (lt_of_block h1)).trans h1⟩
 ·by_cases e:k=i
  ·subst e;rw[ef (aO hM)] at h;injection h with h; injection h with e1 e2 e3
   subst e1; subst e2; subst e3;obtain⟨vs,t,g⟩:=hh _ _ ext;exact .inr ⟨b',vs,t,by simp[gI],g⟩
  ·rw[cQ e] at h;exact qG hr ext h (by simp[gI,eY e]) fun b0 h1=>hb b0 (hr.lt i b0 (aO h) h1)
 ·by_cases e:i=k
  ·have h1:b'=b0:=by simpa[gI,e] using h
   have h2:=hr.AF b0 off hx;omega
  ·exact hr.vk i b0 (by simpa using hi) (by simpa[gI,e] using h) off hx
def nY{iE:Nat->Nat->Prop}{xs:List ag}{v:Value}{size:Nat}(hx:fR w iE (.slice .sh xs) v)(hw:wid xs size):∃A cap,v = .slice A xs.length cap/\xs.length<=cap /\
  (xs=[]\/∃b off,A=some ⟨b,off,none⟩/\∃us:List Value,RL w iE (j9 xs) us/\us.length=xs.length*size/\(∀u,u∈us->u.oneCell'=true)/\∀p u,us[p]?=some u->w.cell? ⟨b,off+p,none⟩=some u/\iE b (off+p)):=by
 cases hx with
 |slice _ A len cap b off sz vs hl hc ha hz hs hr =>
  subst hl;refine⟨A,cap,rfl,hc,?_⟩;rcases nB xs with h0|⟨_,_,h0⟩
  ·exact .inl h0
  ·have hne:xs≠[]:=by rw[h0]; simp
   have hsz:sz=size:=by
    obtain⟨x,r,hxr⟩:=fj hne;have hm:x∈xs:=by rw[hxr]; exact bD ..
    rw[<-hz x hm,hw x hm]
   subst hsz;have dQ:((List.range (xs.length*sz)).map vs).length=xs.length*sz:=dx
   have hrl:RL w iE (j9 xs) ((List.range (xs.length*sz)).map vs):=by
    refine⟨by rw[iU hw,dQ],fun p c v hc hv=>?_⟩
    obtain⟨q,x,k,h1,h2,rfl⟩:=DJ hw hc;have cJ:q*sz+k<xs.length*sz:=by rw[<-iU hw]; exact aO hc
    rw[aX,iy cJ] at hv;simp only[dZ] at hv;cases hv;exact hr q x k c h1 h2
   refine .inr ⟨b,off,ha hne,_,hrl,dQ,fun u hu=>?_,fun p u hu=>?_⟩
   ·obtain⟨p,hp⟩:=bX hu;have hp':p<(j9 xs).length:=by rw[hrl.1]; exact aO hp
    exact fR.one (hrl.2 p _ u (ai hp') hp)
   ·have hp':p<(j9 xs).length:=by rw[hrl.1]; exact aO hu
    obtain⟨q,x,k,h1,h2,rfl⟩:=DJ hw (ai hp');have cJ:q*sz+k<xs.length*sz:=by rw[<-iU hw]; exact hp'
    rw[aX,iy cJ] at hu;simp only[dZ] at hu;cases hu;exact hs q x k _ h1 h2
end
end
end Go.Abs
