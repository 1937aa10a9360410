import Derived.KernelRfl
import Derived.Laws.Strings
import Derived.Laws.StructEq
import Derived.MapKept
import Derived.Laws.IdiomStrings
import Derived.Laws.MakeOwn
import Derived.ChangeKeysEq
import Derived.Test.YteoamaffclmdbaaGreatDoorHcaA
set_option linter.unusedSimpArgs false
set_option linter.unusedVariables false
set_option linter.unusedSectionVars false
set_option linter.defProp false
open Go.Proofs.Tryz
set_option linter.defProp false
set_option maxRecDepth 100000
namespace Go.Proofs.YteoamaffclmdbaaGreatDoor
open Go Go.Abs
def fp{o:Option eH}{n:Nat}{r:List sN}{c:cz}(h:o=some (eH.mk n r c):=by kernel_rfl):o=some (eH.mk n r (sub c 0)):=okc h
def fN(r k:cz)(h:At r 0 k:=by exact aiQ _):eqs r 0 k:=wb r k 0 h
def U8:Ko [] f238:=eN
def akf:=U8.1
def adh:=eH.mk 1 [.tmp 2] (sub akf 0)
def Va:Ko [] f240:=eN
def akh:=Va.1
def adj:=eH.mk 2 [.tmp 4,.tmp 5] (sub akh 0)
def UA:Ko [] f194:=eN
def ajP:=UA.1
def acR:=eH.mk 2 [.dE 4 6,.tmp 5] (sub ajP 0)
def UD:Ko [] f197:=eN
def ajS:=UD.1
def acT:=eH.mk 2 [.dE 4 6,.tmp 5] (sub ajS 0)
def UE:Ko [] f198:=eN
def aeJ:=UE.1
def I4:=eH.mk 1 [.tmp 2] (sub aeJ 0)
abbrev Ns:=sub aeJ 15
def amT:Ko [] f249:=eN
def apq:=amT.1
def alq:=eH.mk 3 [.tmp 6,.tmp 7] (sub apq 0)
def Vf:Ko [] f250:=eN
def akl:=Vf.1
def adn:=eH.mk 2 [.tmp 4] (sub akl 0)
def Vg:Ko [] f251:=eN
def akm:=Vg.1
def ado:=eH.mk 2 [.tmp 4] (sub akm 0)
def UF:Ko [] f199:=eN
def ajT:=UF.1
def acU:=eH.mk 2 [.tmp 4,.tmp 5] (sub ajT 0)
def px:=by
 have h:=bQ (fN akf U8.1) (bQ (fN akh Va.1) (bQ (fN ajP UA.1) (bQ (fN ajS UD.1) (bQ (fN aeJ UE.1) (bQ (fN akl Vf.1) (bQ (fN akm Vg.1) (fN ajT UF.1)))))));simp only[eN,U8,Va,UA,UD,UE,Vf,Vg,UF,yI,seval] at h;exact h
def aiB:=px.1
def ao0:=px.2.1
def aei:=px.2.2.1
def X8:=px.2.2.2.1
def wF:=px.2.2.2.2.1
def ao3:=px.2.2.2.2.2.1
def ao4:=px.2.2.2.2.2.2.1
def aoM:=px.2.2.2.2.2.2.2
def TV:Ko [] f151:=eN
def ajn:=TV.1
def acw:=eH.mk 3 [.tmp 6,.tmp 7] (sub ajn 0)
def Ux:Ko [] f191:=eN
def ajN:=Ux.1
def acO:=eH.mk 2 [.dE 4 6,.tmp 5] (sub ajN 0)
def UG:Ko [9] f200:=eN
def aeK:=UG.1
def Sn:=eH.mk 2 [.tmp 4] (sub aeK 0)
def ant:sL [9] f200 Sn:=fp
abbrev ZZ:=sub aeK 7
def U9:Ko [] f239:=eN
def akg:=U9.1
def adi:=eH.mk 2 [.tmp 4] (sub akg 0)
def Uo:Ko [1000241,1000242] f182:=eN
def ajG:=Uo.1
def Sh:=eH.mk 2 [] (sub ajG 0)
def ann:sL [1000241,1000242] f182 Sh:=fp
def Vb:Ko [1000241,1000283] f244:=eN
def aki:=Vb.1
def St:=eH.mk 2 [] (sub aki 0)
def anx:sL [1000241,1000283] f244 St:=fp
def Uq:Ko [1000205,1000243,2000182] f183:=eN
def ajH:=Uq.1
def Si:=eH.mk 4 [] (sub ajH 0)
def ano:sL [1000205,1000243,2000182] f183 Si:=fp
def UB:Ko [1000205,1000248,2000182] f195:=eN
def ajQ:=UB.1
def Sm:=eH.mk 3 [] (sub ajQ 0)
def anr:sL [1000205,1000248,2000182] f195 Sm:=fp
def py:=by
 have h:=bQ (fN ajn TV.1) (bQ (fN ajN Ux.1) (bQ (fN aeK UG.1) (bQ (fN akg U9.1) (bQ (fN ajG Uo.1) (bQ (fN aki Vb.1) (bQ (fN ajH Uq.1) (fN ajQ UB.1)))))));simp only[eN,TV,Ux,UG,U9,Uo,Vb,Uq,UB,yI,seval] at h;exact h
def Kt:=py.1
def aoL:=py.2.1
def CB:=py.2.2.1
def aoZ:=py.2.2.2.1
def aeh:=py.2.2.2.2.1
def aeo:=py.2.2.2.2.2.1
def QU:=py.2.2.2.2.2.2.1
def X7:=py.2.2.2.2.2.2.2
def UC:Ko [] f196:=eN
def ajR:=UC.1
def acS:=eH.mk 2 [] (sub ajR 0)
def Un:Ko [] f181:=eN
def ajF:=Un.1
def acK:=eH.mk 3 [.tmp 6] (sub ajF 0)
def UI:Ko [] f202:=eN
def ajV:=UI.1
def acW:=eH.mk 2 [.tmp 4] (sub ajV 0)
def Uu:Ko [] f187:=eN
def ajK:=Uu.1
def acM:=eH.mk 2 [.dE 4 3,.tmp 5] (sub ajK 0)
def UZ:Ko [] f225:=eN
def aj9:=UZ.1
def adb:=eH.mk 3 [.dE 6 3,.tmp 7] (sub aj9 0)
def TQ:Ko [] f147:=eN
def ajk:=TQ.1
def acs:=eH.mk 4 [.dE 8 3,.tmp 9,.tmp 10] (sub ajk 0)
def TT:Ko [] f149:=eN
def ajl:=TT.1
def acu:=eH.mk 4 [.dE 8 3,.tmp 9] (sub ajl 0)
def TU:Ko [] f150:=eN
def ajm:=TU.1
def acv:=eH.mk 3 [.dE 6 3,.tmp 7,.tmp 8] (sub ajm 0)
def nW:=by
 have h:=bQ (fN ajR UC.1) (bQ (fN ajF Un.1) (bQ (fN ajV UI.1) (bQ (fN ajK Uu.1) (bQ (fN aj9 UZ.1) (bQ (fN ajk TQ.1) (bQ (fN ajl TT.1) (fN ajm TU.1)))))));simp only[eN,UC,Un,UI,Uu,UZ,TQ,TT,TU,yI,seval] at h;exact h
def aej:=nW.1
def HV:=nW.2.1
def aix:=nW.2.2.1
def aiw:=nW.2.2.2.1
def X9:=nW.2.2.2.2.1
def aea:=nW.2.2.2.2.2.1
def aeb:=nW.2.2.2.2.2.2.1
def QS:=nW.2.2.2.2.2.2.2
def Vh:Ko [] f252:=eN
def aeP:=Vh.1
def adp:=eH.mk 2 [.tmp 4] (sub aeP 0)
abbrev Z6:=sub aeP 7
def UH:Ko [] f201:=eN
def ajU:=UH.1
def acV:=eH.mk 2 [.tmp 4] (sub ajU 0)
def Vj:Ko [] f254:=eN
def ako:=Vj.1
def adr:=eH.mk 5 [.tmp 6] (sub ako 0)
def amX:Ko [] f287:=eN
def apu:=amX.1
def aly:=eH.mk 2 [.tmp 4] (sub apu 0)
def Vi:Ko [] f253:=eN
def akn:=Vi.1
def adq:=eH.mk 2 [.tmp 4] (sub akn 0)
def UJ:Ko [] f203:=eN
def ajW:=UJ.1
def acX:=eH.mk 3 [.tmp 6] (sub ajW 0)
def TW:Ko [] f152:=eN
def aeG:=TW.1
def acx:=eH.mk 5 [.dE 10 3,.tmp 11,.tmp 12] (sub aeG 0)
abbrev NP:=sub aeG 86
def amU:Ko [] f263:=eN
def apr:=amU.1
def alu:=eH.mk 3 [.tmp 6,.tmp 7] (sub apr 0)
def Vu:Ko [] f278:=eN
def aky:=Vu.1
def adz:=eH.mk 2 [.tmp 4] (sub aky 0)
def UM:Ko [] f209:=eN
def ajZ:=UM.1
def ac0:=eH.mk 2 [.tmp 4] (sub ajZ 0)
def nY:=by
 have h:=bQ (fN aeP Vh.1) (bQ (fN ajU UH.1) (bQ (fN ako Vj.1) (bQ (fN akn Vi.1) (bQ (fN ajW UJ.1) (bQ (fN aeG TW.1) (bQ (fN aky Vu.1) (fN ajZ UM.1)))))));simp only[eN,Vh,UH,Vj,Vi,UJ,TW,Vu,UM,yI,seval] at h;exact h
def Kv:=nY.1
def aoN:=nY.2.1
def aiD:=nY.2.2.1
def ao5:=nY.2.2.2.1
def aoO:=nY.2.2.2.2.1
def yJ:=nY.2.2.2.2.2.1
def ape:=nY.2.2.2.2.2.2.1
def aiy:=nY.2.2.2.2.2.2.2
def Vk:Ko [] f257:=eN
def akp:=Vk.1
def ads:=eH.mk 1 [.tmp 2] (sub akp 0)
def agn:Ko [] f56:=eN
def b56:=agn.1
def alN:=eH.mk 2 [.tmp 4] (sub b56 0)
def Tj:Ko [] f111:=eN
def ai1:=Tj.1
def ab7:=eH.mk 2 [.tmp 4] (sub ai1 0)
def Tl:Ko [] f112:=eN
def ai2:=Tl.1
def ab8:=eH.mk 2 [.tmp 4] (sub ai2 0)
def amP:Ko [] f113:=eN
def apl:=amP.1
def ale:=eH.mk 2 [.tmp 4] (sub apl 0)
def amQ:Ko [] f114:=eN
def apm:=amQ.1
def alf:=eH.mk 3 [.tmp 6] (sub apm 0)
def TX:Ko [1000205] f153:=eN
def ajo:=TX.1
def yA:=eH.mk 4 [.tmp 8,.tmp 9,.tmp 10] (sub ajo 0)
def anc:sL [1000205] f153 yA:=fp
def T8:Ko [] f166:=eN
def ajw:=T8.1
def acA:=eH.mk 2 [.tmp 4] (sub ajw 0)
def UK:Ko [] f204:=eN
def ajX:=UK.1
def acY:=eH.mk 2 [.tmp 4] (sub ajX 0)
def UL:Ko [] f206:=eN
def ajY:=UL.1
def acZ:=eH.mk 2 [.tmp 3] (sub ajY 0)
def nZ:=by
 have h:=bQ (fN akp Vk.1) (bQ (fN b56 agn.1) (bQ (fN ai1 Tj.1) (bQ (fN ai2 Tl.1) (bQ (fN ajo TX.1) (bQ (fN ajw T8.1) (bQ (fN ajX UK.1) (fN ajY UL.1)))))));simp only[eN,Vk,agn,Tj,Tl,TX,T8,UK,UL,yI,seval] at h;exact h
def ao6:=nZ.1
def E56:=nZ.2.1
def ain:=nZ.2.2.1
def aoA:=nZ.2.2.2.1
def HU:=nZ.2.2.2.2.1
def ais:=nZ.2.2.2.2.2.1
def aoP:=nZ.2.2.2.2.2.2.1
def aoQ:=nZ.2.2.2.2.2.2.2
def amR:Ko [] f208:=eN
def apn:=amR.1
def alk:=eH.mk 2 [.tmp 4] (sub apn 0)
def af8:Ko [] f39:=eN
def b39:=af8.1
def alF:=eH.mk 0 [.dE 0 3] (sub b39 0)
def Uk:Ko [] f178:=eN
def Yu:=Uk.1
def acH:=eH.mk 2 [.tmp 4,.tmp 5] (sub Yu 0)
abbrev ZW:=sub Yu 19
abbrev ahG:=sub Yu 39
def Um:Ko [] f180:=eN
def ajE:=Um.1
def acJ:=eH.mk 1 [.tmp 2,.tmp 3,.tmp 4] (sub ajE 0)
def wV:=by
 have h:=And.intro (fN b39 af8.1) (And.intro (fN Yu Uk.1) (fN ajE Um.1));simp only[eN,af8,Uk,Um,yI,seval] at h;exact h
def E39:=wV.1
def Ku:=wV.2.1
def X6:=wV.2.2
end Go.Proofs.YteoamaffclmdbaaGreatDoor
set_option linter.defProp false
set_option maxRecDepth 100000
namespace Go.Proofs.YteoamaffclmdbaaGreatDoor
open Go Go.Abs
def UN:Ko [] f210:=eN
def aj0:=UN.1
def ac1:=eH.mk 1 [.tmp 2] (sub aj0 0)
def UO:Ko [] f211:=eN
def aeL:=UO.1
def ac2:=eH.mk 3 [.tmp 6,.tmp 7] (sub aeL 0)
abbrev Z0:=sub aeL 9
def UQ:Ko [] f212:=eN
def aj1:=UQ.1
def ac3:=eH.mk 3 [.tmp 6] (sub aj1 0)
def UR:Ko [] f213:=eN
def aj2:=UR.1
def ac4:=eH.mk 1 [.tmp 2] (sub aj2 0)
def Vl:Ko [] f258:=eN
def akq:=Vl.1
def adt:=eH.mk 1 [.dE 2 2] (sub akq 0)
def US:Ko [] f217:=eN
def aj3:=US.1
def ac5:=eH.mk 2 [.tmp 4] (sub aj3 0)
def amS:Ko [] f216:=eN
def apo:=amS.1
def alm:=eH.mk 2 [.tmp 4] (sub apo 0)
def UT:Ko [] f219:=eN
def aj4:=UT.1
def ac6:=eH.mk 2 [.tmp 4] (sub aj4 0)
def Vn:Ko [] f262:=eN
def aks:=Vn.1
def adu:=eH.mk 2 [.tmp 3] (sub aks 0)
def pz:=by
 have h:=bQ (fN aj0 UN.1) (bQ (fN aeL UO.1) (bQ (fN aj1 UQ.1) (bQ (fN aj2 UR.1) (bQ (fN akq Vl.1) (bQ (fN aj3 US.1) (bQ (fN aj4 UT.1) (fN aks Vn.1)))))));simp only[eN,UN,UO,UQ,UR,Vl,US,UT,Vn,yI,seval] at h;exact h
def aiz:=pz.1
def HW:=pz.2.1
def aoR:=pz.2.2.1
def aiA:=pz.2.2.2.1
def ao7:=pz.2.2.2.2.1
def aoS:=pz.2.2.2.2.2.1
def aoT:=pz.2.2.2.2.2.2.1
def ao8:=pz.2.2.2.2.2.2.2
def Us:Ko [] f185:=eN
def ajI:=Us.1
def Sk:=eH.mk 2 [.tmp 4] (sub ajI 0)
def T0:Ko [1000215,1000214] f156:=eN
def ajq:=T0.1
def Sd:=eH.mk 5 [.tmp 10,.tmp 11] (sub ajq 0)
def anf:sL [1000215,1000214] f156 Sd:=fp
def T1:Ko [1000215,1000218,2000219] f157:=eN
def ajr:=T1.1
def M1:=eH.mk 4 [.dE 8 3,.tmp 9,.tmp 10] (sub ajr 0)
def ang:sL [1000215,1000218,2000219] f157 M1:=fp
def Ub:Ko [] f169:=eN
def Yr:=Ub.1
def acD:=eH.mk 3 [.dE 6 3,.tmp 7] (sub Yr 0)
abbrev ZN:=sub Yr 7
abbrev ahF:=sub Yr 23
def UY:Ko [] f224:=eN
def aj8:=UY.1
def ada:=eH.mk 3 [.tmp 6,.tmp 7] (sub aj8 0)
def Ur:Ko [3] f184:=eN
def Yv:=Ur.1
def Sj:=eH.mk 1 [.tmp 2] (sub Yv 0)
def anp:sL [3] f184 Sj:=fp
abbrev ZX:=sub Yv 9
abbrev ahH:=sub Yv 25
def Uz:Ko [] f193:=eN
def ajO:=Uz.1
def acQ:=eH.mk 2 [.tmp 4,.tmp 5] (sub ajO 0)
def Ve:Ko [] f247:=eN
def aeO:=Ve.1
def adm:=eH.mk 5 [] (sub aeO 0)
abbrev Z5:=sub aeO 8
def pA:=by
 have h:=bQ (fN ajI Us.1) (bQ (fN ajq T0.1) (bQ (fN ajr T1.1) (bQ (fN Yr Ub.1) (bQ (fN aj8 UY.1) (bQ (fN Yv Ur.1) (bQ (fN ajO Uz.1) (fN aeO Ve.1)))))));simp only[eN,Us,T0,T1,Ub,UY,Ur,Uz,Ve,yI,seval] at h;exact h
def aiv:=pA.1
def Og:=pA.2.1
def aec:=pA.2.2.1
def Oi:=pA.2.2.2.1
def ael:=pA.2.2.2.2.1
def Oj:=pA.2.2.2.2.2.1
def QV:=pA.2.2.2.2.2.2.1
def Ol:=pA.2.2.2.2.2.2.2
def U0:Ko [] f226:=eN
def aka:=U0.1
def ade:=eH.mk 2 [.tmp 4,.tmp 5] (sub aka 0)
def amV:Ko [] f267:=eN
def aps:=amV.1
def alv:=eH.mk 3 [.tmp 6,.tmp 7] (sub aps 0)
def Vr:Ko [] f268:=eN
def akw:=Vr.1
def ady:=eH.mk 2 [.tmp 4] (sub akw 0)
def Vv:Ko [] f284:=eN
def aeQ:=Vv.1
def adA:=eH.mk 3 [] (sub aeQ 0)
abbrev Z8:=sub aeQ 4
def Vd:Ko [] f246:=eN
def akk:=Vd.1
def adl:=eH.mk 3 [.tmp 6] (sub akk 0)
def Vw:Ko [] f285:=eN
def akz:=Vw.1
def adB:=eH.mk 3 [.tmp 4] (sub akz 0)
def Vc:Ko [] f245:=eN
def akj:=Vc.1
def adk:=eH.mk 2 [.tmp 4] (sub akj 0)
def T5:Ko [1000189,1000227,1000228] f162:=eN
def aju:=T5.1
def I1:=eH.mk 5 [.tmp 10,.tmp 11] (sub aju 0)
def ani:sL [1000189,1000227,1000228] f162 I1:=fp
def Vm:Ko [] f259:=eN
def akr:=Vm.1
def Su:=eH.mk 1 [.tmp 2] (sub akr 0)
def n9:=by
 have h:=bQ (fN aka U0.1) (bQ (fN akw Vr.1) (bQ (fN aeQ Vv.1) (bQ (fN akk Vd.1) (bQ (fN akz Vw.1) (bQ (fN akj Vc.1) (bQ (fN aju T5.1) (fN akr Vm.1)))))));simp only[eN,U0,Vr,Vv,Vd,Vw,Vc,T5,Vm,yI,seval] at h;exact h
def aoW:=n9.1
def apc:=n9.2.1
def On:=n9.2.2.1
def ao1:=n9.2.2.2.1
def aep:=n9.2.2.2.2.1
def aiC:=n9.2.2.2.2.2.1
def Oh:=n9.2.2.2.2.2.2.1
def HX:=n9.2.2.2.2.2.2.2
def af7:Ko [] f38:=eN
def b38:=af7.1
def alE:=eH.mk 1 [.dE 2 8] (sub b38 0)
def UX:Ko [] f223:=eN
def aj7:=UX.1
def ac9:=eH.mk 3 [.tmp 6] (sub aj7 0)
def Vq:Ko [] f266:=eN
def akv:=Vq.1
def adx:=eH.mk 3 [.tmp 4] (sub akv 0)
def Vp:Ko [] f265:=eN
def aku:=Vp.1
def adw:=eH.mk 2 [.tmp 4] (sub aku 0)
def amY:Ko [] f299:=eN
def apv:=amY.1
def alz:=eH.mk 2 [.tmp 4] (sub apv 0)
def UU:Ko [] f221:=eN
def aj5:=UU.1
def ac7:=eH.mk 2 [.tmp 4] (sub aj5 0)
def Vo:Ko [] f264:=eN
def akt:=Vo.1
def adv:=eH.mk 2 [.tmp 4] (sub akt 0)
def UW:Ko [] f222:=eN
def aj6:=UW.1
def ac8:=eH.mk 2 [.tmp 4] (sub aj6 0)
def T2:Ko [8000220,1001004005] f158:=eN
def OB:=T2.1
def Se:=eH.mk 2 [.dE 4 8] (sub OB 0)
def anh:sL [8000220,1001004005] f158 Se:=fp
abbrev ZK:=sub OB 17
abbrev ZL:=sub OB 40
abbrev abc:=sub OB 62
abbrev abd:=sub OB 35
def oa:=by
 have h:=bQ (fN b38 af7.1) (bQ (fN aj7 UX.1) (bQ (fN akv Vq.1) (bQ (fN aku Vp.1) (bQ (fN aj5 UU.1) (bQ (fN akt Vo.1) (bQ (fN aj6 UW.1) (fN OB T2.1)))))));simp only[eN,af7,UX,Vq,Vp,UU,Vo,UW,T2,yI,seval] at h;exact h
def E38:=oa.1
def aoV:=oa.2.1
def apb:=oa.2.2.1
def apa:=oa.2.2.2.1
def aek:=oa.2.2.2.2.1
def ao9:=oa.2.2.2.2.2.1
def aoU:=oa.2.2.2.2.2.2.1
def GS:=oa.2.2.2.2.2.2.2
def T6:Ko [8000229] f163:=eN
def ajv:=T6.1
def Sf:=eH.mk 2 [.dE 4 8,.tmp 5,.tmp 6] (sub ajv 0)
def anj:sL [8000229] f163 Sf:=fp
def U1:Ko [6000012] f230:=eN
def OE:=U1.1
def Sq:=eH.mk 2 [.tmp 4,.tmp 5] (sub OE 0)
def anu:sL [6000012] f230 Sq:=fp
abbrev Z1:=sub OE 9
abbrev Z2:=sub OE 30
abbrev abf:=sub OE 46
abbrev abg:=sub OE 25
def Vs:Ko [] f271:=eN
def Yw:=Vs.1
def Na:=eH.mk 5 [.tmp 6] (sub Yw 0)
abbrev Z7:=sub Yw 33
abbrev ahI:=sub Yw 45
def amW:Ko [] f273:=eN
def apt:=amW.1
def alx:=eH.mk 2 [.tmp 4] (sub apt 0)
def T7:Ko [] f164:=eN
def Yq:=T7.1
def acz:=eH.mk 2 [.tmp 4,.tmp 5,.tmp 6] (sub Yq 0)
abbrev ZM:=sub Yq 7
abbrev ahE:=sub Yq 27
def U2:Ko [5] f232:=eN
def aeM:=U2.1
def Sr:=eH.mk 2 [.tmp 4] (sub aeM 0)
def anv:sL [5] f232 Sr:=fp
abbrev Z3:=sub aeM 9
def U3:Ko [] f233:=eN
def akb:=U3.1
def adf:=eH.mk 2 [.tmp 3] (sub akb 0)
def U4:Ko [5] f234:=eN
def aeN:=U4.1
def Ss:=eH.mk 2 [.tmp 4] (sub aeN 0)
def anw:sL [5] f234 Ss:=fp
abbrev Z4:=sub aeN 9
def U5:Ko [] f235:=eN
def akc:=U5.1
def adg:=eH.mk 2 [.tmp 3] (sub akc 0)
def oc:=by
 have h:=bQ (fN ajv T6.1) (bQ (fN OE U1.1) (bQ (fN Yw Vs.1) (bQ (fN Yq T7.1) (bQ (fN aeM U2.1) (bQ (fN akb U3.1) (bQ (fN aeN U4.1) (fN akc U5.1)))))));simp only[eN,T6,U1,Vs,T7,U2,U3,U4,U5,yI,seval] at h;exact h
def air:=oc.1
def GU:=oc.2.1
def Om:=oc.2.2.1
def X3:=oc.2.2.2.1
def Ya:=oc.2.2.2.2.1
def aoX:=oc.2.2.2.2.2.1
def Yb:=oc.2.2.2.2.2.2.1
def aoY:=oc.2.2.2.2.2.2.2
def Ua:Ko [] f168:=eN
def ajy:=Ua.1
def acC:=eH.mk 2 [.dE 4 8,.tmp 5] (sub ajy 0)
def atw:Ko [] f57:=eN
def b57:=atw.1
def ar5:=eH.mk 2 [.tmp 4] (sub b57 0)
def atx:Ko [] f58:=eN
def b58:=atx.1
def ar6:=eH.mk 3 [.tmp 6] (sub b58 0)
def aty:Ko [] f59:=eN
def b59:=aty.1
def ar7:=eH.mk 2 [.tmp 4] (sub b59 0)
def atz:Ko [] f60:=eN
def b60:=atz.1
def ar8:=eH.mk 2 [.tmp 4] (sub b60 0)
def atA:Ko [] f61:=eN
def b61:=atA.1
def ar9:=eH.mk 2 [.tmp 4] (sub b61 0)
def ait:=by
 have h:=fN ajy Ua.1;simp only[eN,Ua,yI,seval] at h;exact h
end Go.Proofs.YteoamaffclmdbaaGreatDoor
set_option linter.defProp false
set_option maxRecDepth 100000
namespace Go.Proofs.YteoamaffclmdbaaGreatDoor
open Go Go.Abs
def afW:Ko [] f24:=eN
def b24:=afW.1
def alp:=eH.mk 0 [.dE 0 10] (sub b24 0)
def agl:Ko [] f53:=eN
def b53:=agl.1
def alK:=eH.mk 2 [] (sub b53 0)
def Ti:Ko [] f110:=eN
def ai0:=Ti.1
def ab6:=eH.mk 1 [] (sub ai0 0)
def TN:Ko [] f145:=eN
def aji:=TN.1
def acq:=eH.mk 2 [.dE 4 6] (sub aji 0)
def Ul:Ko [] f179:=eN
def ajD:=Ul.1
def acI:=eH.mk 2 [.dE 4 6] (sub ajD 0)
def TP:Ko [] f146:=eN
def ajj:=TP.1
def acr:=eH.mk 2 [.tmp 4,.tmp 5] (sub ajj 0)
def TR:Ko [1000189] f148:=eN
def OA:=TR.1
def Sb:=eH.mk 3 [] (sub OA 0)
def anb:sL [1000189] f148 Sb:=fp
abbrev ZI:=sub OA 7
abbrev Nq:=sub OA 32
abbrev NN:=sub OA 46
abbrev abb:=sub OA 23
def Ut:Ko [] f186:=eN
def ajJ:=Ut.1
def acL:=eH.mk 2 [.tmp 3] (sub ajJ 0)
def pB:=by
 have h:=bQ (fN b24 afW.1) (bQ (fN b53 agl.1) (bQ (fN ai0 Ti.1) (bQ (fN aji TN.1) (bQ (fN ajD Ul.1) (bQ (fN ajj TP.1) (bQ (fN OA TR.1) (fN ajJ Ut.1)))))));simp only[eN,afW,agl,Ti,TN,Ul,TP,TR,Ut,yI,seval] at h;exact h
def E24:=pB.1
def E53:=pB.2.1
def ad3:=pB.2.2.1
def ad9:=pB.2.2.2.1
def aoH:=pB.2.2.2.2.1
def X1:=pB.2.2.2.2.2.1
def te:=pB.2.2.2.2.2.2.1
def aoI:=pB.2.2.2.2.2.2.2
def Uv:Ko [] f188:=eN
def ajL:=Uv.1
def Sl:=eH.mk 2 [.tmp 4] (sub ajL 0)
def anq:sL [] f188 Sl:=fp
def Uw:Ko [] f190:=eN
def ajM:=Uw.1
def acN:=eH.mk 2 [.tmp 3] (sub ajM 0)
def Uy:Ko [] f192:=eN
def OC:=Uy.1
def acP:=eH.mk 2 [.tmp 4] (sub OC 0)
abbrev ZY:=sub OC 31
abbrev abe:=sub OC 55
abbrev Nr:=sub OC 9
abbrev NQ:=sub OC 56
def TZ:Ko [] f155:=eN
def ajp:=TZ.1
def acy:=eH.mk 1 [.tmp 2] (sub ajp 0)
def agL:Ko [] f93:=eN
def b93:=agL.1
def afo:=eH.mk 1 [] (sub b93 0)
def agM:Ko [] f94:=eN
def b94:=agM.1
def Sx:=eH.mk 1 [] (sub b94 0)
def agN:Ko [] f95:=eN
def b95:=agN.1
def Pm:=eH.mk 1 [] (sub b95 0)
def agO:Ko [] f96:=eN
def b96:=agO.1
def Sy:=eH.mk 1 [] (sub b96 0)
def pC:=by
 have h:=bQ (fN ajL Uv.1) (bQ (fN ajM Uw.1) (bQ (fN OC Uy.1) (bQ (fN ajp TZ.1) (bQ (fN b93 agL.1) (bQ (fN b94 agM.1) (bQ (fN b95 agN.1) (fN b96 agO.1)))))));simp only[eN,Uv,Uw,Uy,TZ,agL,agM,agN,agO,yI,seval] at h;exact h
def aoJ:=pC.1
def aoK:=pC.2.1
def C5:=pC.2.2.1
def aoE:=pC.2.2.2.1
def E93:=pC.2.2.2.2.1
def E94:=pC.2.2.2.2.2.1
def E95:=pC.2.2.2.2.2.2.1
def E96:=pC.2.2.2.2.2.2.2
def agP:Ko [] f97:=eN
def b97:=agP.1
def Ly:=eH.mk 1 [] (sub b97 0)
def agQ:Ko [] f98:=eN
def b98:=agQ.1
def Y0:=eH.mk 1 [] (sub b98 0)
def TY:Ko [3] f154:=eN
def Yp:=TY.1
def Sc:=eH.mk 1 [.tmp 2] (sub Yp 0)
def ane:sL [3] f154 Sc:=fp
abbrev ZJ:=sub Yp 9
abbrev ahD:=sub Yp 21
def agR:Ko [] f99:=eN
def b99:=agR.1
def afp:=eH.mk 1 [] (sub b99 0)
def S7:Ko [] f100:=eN
def aiR:=S7.1
def MS:=eH.mk 1 [] (sub aiR 0)
def S8:Ko [] f101:=eN
def aiS:=S8.1
def R4:=eH.mk 1 [] (sub aiS 0)
def T3:Ko [] f159:=eN
def ajs:=T3.1
def M4:=eH.mk 1 [.dE 2 6] (sub ajs 0)
def S9:Ko [] f102:=eN
def aiT:=S9.1
def IX:=eH.mk 1 [] (sub aiT 0)
def oe:=by
 have h:=bQ (fN b97 agP.1) (bQ (fN b98 agQ.1) (bQ (fN Yp TY.1) (bQ (fN b99 agR.1) (bQ (fN aiR S7.1) (bQ (fN aiS S8.1) (bQ (fN ajs T3.1) (fN aiT S9.1)))))));simp only[eN,agP,agQ,TY,agR,S7,S8,T3,S9,yI,seval] at h;exact h
def E97:=oe.1
def E98:=oe.2.1
def X2:=oe.2.2.1
def E99:=oe.2.2.2.1
def ad0:=oe.2.2.2.2.1
def ail:=oe.2.2.2.2.2.1
def aed:=oe.2.2.2.2.2.2.1
def XX:=oe.2.2.2.2.2.2.2
def T4:Ko [] f161:=eN
def ajt:=T4.1
def M5:=eH.mk 3 [] (sub ajt 0)
def Ta:Ko [1000160,2000161] f103:=eN
def aiU:=Ta.1
def yz:=eH.mk 1 [] (sub aiU 0)
def am5:sL [1000160,2000161] f103 yz:=fp
def Tc:Ko [] f104:=eN
def aiV:=Tc.1
def MT:=eH.mk 1 [] (sub aiV 0)
def Td:Ko [] f105:=eN
def aiW:=Td.1
def IY:=eH.mk 1 [] (sub aiW 0)
def Te:Ko [] f106:=eN
def aiX:=Te.1
def MU:=eH.mk 1 [] (sub aiX 0)
def Tf:Ko [] f107:=eN
def Oz:=Tf.1
def MV:=eH.mk 1 [] (sub Oz 0)
abbrev Zp:=sub Oz 15
abbrev Zq:=sub Oz 34
abbrev aa9:=sub Oz 52
abbrev aba:=sub Oz 27
def T9:Ko [] f167:=eN
def ajx:=T9.1
def acB:=eH.mk 2 [.tmp 3] (sub ajx 0)
def Tg:Ko [] f108:=eN
def aiY:=Tg.1
def R5:=eH.mk 1 [] (sub aiY 0)
def oh:=by
 have h:=bQ (fN ajt T4.1) (bQ (fN aiU Ta.1) (bQ (fN aiV Tc.1) (bQ (fN aiW Td.1) (bQ (fN aiX Te.1) (bQ (fN Oz Tf.1) (bQ (fN ajx T9.1) (fN aiY Tg.1)))))));simp only[eN,T4,Ta,Tc,Td,Te,Tf,T9,Tg,yI,seval] at h;exact h
def aee:=oh.1
def HS:=oh.2.1
def ad1:=oh.2.2.1
def XY:=oh.2.2.2.1
def ad2:=oh.2.2.2.2.1
def AE:=oh.2.2.2.2.2.1
def aoF:=oh.2.2.2.2.2.2.1
def aim:=oh.2.2.2.2.2.2.2
def Th:Ko [] f109:=eN
def aiZ:=Th.1
def ab5:=eH.mk 1 [] (sub aiZ 0)
def agk:Ko [] f52:=eN
def b52:=agk.1
def alJ:=eH.mk 0 [.tmp 0] (sub b52 0)
def af5:Ko [] f34:=eN
def b34:=af5.1
def alC:=eH.mk 2 [.tmp 4] (sub b34 0)
def agm:Ko [] f55:=eN
def b55:=agm.1
def alM:=eH.mk 2 [.tmp 4] (sub b55 0)
def uF:=by
 have h:=bQ (fN aiZ Th.1) (bQ (fN b52 agk.1) (bQ (fN b34 af5.1) (fN b55 agm.1)));simp only[eN,Th,agk,af5,agm,yI,seval] at h;exact h
def aoz:=uF.1
def E52:=uF.2.1
def E34:=uF.2.2.1
def E55:=uF.2.2.2
end Go.Proofs.YteoamaffclmdbaaGreatDoor
set_option linter.defProp false
set_option maxRecDepth 100000
namespace Go.Proofs.YteoamaffclmdbaaGreatDoor
open Go Go.Abs
def Vt:Ko [] f275:=eN
def akx:=Vt.1
def Nb:=eH.mk 2 [.tmp 4,.tmp 5] (sub akx 0)
def Vx:Ko [] f302:=eN
def akB:=Vx.1
def Nc:=eH.mk 2 [.tmp 4,.tmp 5] (sub akB 0)
def Vy:Ko [] f325:=eN
def akC:=Vy.1
def I5:=eH.mk 2 [.tmp 4] (sub akC 0)
def yK:=by
 have h:=And.intro (fN akx Vt.1) (And.intro (fN akB Vx.1) (fN akC Vy.1));simp only[eN,Vt,Vx,Vy,yI,seval] at h;exact h
def apd:=yK.1
def Yc:=yK.2.1
def Yd:=yK.2.2
end Go.Proofs.YteoamaffclmdbaaGreatDoor
set_option linter.defProp false
set_option maxRecDepth 100000
namespace Go.Proofs.YteoamaffclmdbaaGreatDoor
open Go Go.Abs
def afN:Ko [] f11:=eN
def b11:=afN.1
def aff:=eH.mk 1 [.tmp 2] (sub b11 0)
def af1:Ko [13000003] f30:=eN
def b30:=af1.1
def afh:=eH.mk 1 [.tmp 2] (sub b30 0)
def atK:sL [13000003] f30 afh:=fp
def af6:Ko [] f35:=eN
def b35:=af6.1
def alD:=eH.mk 2 [.tmp 4] (sub b35 0)
def afQ:Ko [5000037,6000016,12000074] f15:=eN
def b15:=afQ.1
def afg:=eH.mk 2 [.tmp 4,.tmp 5] (sub b15 0)
def atG:sL [5000037,6000016,12000074] f15 afg:=fp
def af2:Ko [11000006,12000077,15000088] f31:=eN
def Kl:=af2.1
def afi:=eH.mk 9 [.tmp 11] (sub Kl 0)
def atL:sL [11000006,12000077,15000088] f31 afi:=fp
def af4:Ko [] f33:=eN
def b33:=af4.1
def alB:=eH.mk 2 [.tmp 3] (sub b33 0)
def afS:Ko [] f18:=eN
def b18:=afS.1
def alh:=eH.mk 2 [.tmp 4] (sub b18 0)
def af3:Ko [] f32:=eN
def b32:=af3.1
def alA:=eH.mk 2 [.tmp 4] (sub b32 0)
def pD:=by
 have h:=bQ (fN b11 afN.1) (bQ (fN b30 af1.1) (bQ (fN b35 af6.1) (bQ (fN b15 afQ.1) (bQ (fN Kl af2.1) (bQ (fN b33 af4.1) (bQ (fN b18 afS.1) (fN b32 af3.1)))))));simp only[eN,afN,af1,af6,afQ,af2,af4,afS,af3,yI,seval] at h;exact h
def E11:=pD.1
def E30:=pD.2.1
def E35:=pD.2.2.1
def QR:=pD.2.2.2.1
def Oo:=pD.2.2.2.2.1
def E33:=pD.2.2.2.2.2.1
def E18:=pD.2.2.2.2.2.2.1
def E32:=pD.2.2.2.2.2.2.2
def atv:Ko [] f54:=eN
def b54:=atv.1
def ar4:=eH.mk 2 [.tmp 4] (sub b54 0)
def atB:Ko [] f62:=eN
def b62:=atB.1
def asa:=eH.mk 2 [.tmp 4] (sub b62 0)
def atC:Ko [] f63:=eN
def b63:=atC.1
def asb:=eH.mk 2 [.tmp 4] (sub b63 0)
end Go.Proofs.YteoamaffclmdbaaGreatDoor
set_option linter.defProp false
set_option maxRecDepth 100000
namespace Go.Proofs.YteoamaffclmdbaaGreatDoor
open Go Go.Abs
def afM:Ko [] f10:=eN
def b10:=afM.1
def ald:=eH.mk 2 [.tmp 4] (sub b10 0)
def afP:Ko [13000008,5000019,5000020,5000021] f14:=eN
def b14:=afP.1
def Lv:=eH.mk 3 [.tmp 6,.dE 7 10] (sub b14 0)
def atF:sL [13000008,5000019,5000020,5000021] f14 Lv:=fp
def att:Ko [13000005] f20:=eN
def b20:=att.1
def alj:=eH.mk 2 [.tmp 4] (sub b20 0)
def atJ:sL [13000005] f20 alj:=fp
def afU:Ko [] f22:=eN
def b22:=afU.1
def aln:=eH.mk 2 [.dE 4 17] (sub b22 0)
def afV:Ko [] f23:=eN
def b23:=afV.1
def alo:=eH.mk 2 [.dE 4 17] (sub b23 0)
def ats:Ko [5000018] f19:=eN
def b19:=ats.1
def ali:=eH.mk 3 [.tmp 6] (sub b19 0)
def atH:sL [5000018] f19 ali:=fp
def atu:Ko [] f37:=eN
def b37:=atu.1
def ar3:=eH.mk 2 [.tmp 4] (sub b37 0)
def afR:Ko [] f17:=eN
def b17:=afR.1
def alg:=eH.mk 2 [.tmp 4] (sub b17 0)
def ko9:Ko [] f9:=eN
def b9:=ko9.1
def fn9:=eH.mk 0 [.tmp 0] (sub b9 0)
def ko4:Ko [1000014,14000006007] f4:=eN
def b4:=ko4.1
def fn4:=eH.mk 2 [.tmp 4] (sub b4 0)
def ok4:sL [1000014,14000006007] f4 fn4:=fp
def ko5:Ko [1000014,2000018,14000010011] f5:=eN
def b5:=ko5.1
def fn5:=eH.mk 4 [.tmp 8] (sub b5 0)
def ok5:sL [1000014,2000018,14000010011] f5 fn5:=fp
def ko7:Ko [69,1000014,14000010011] f7:=eN
def b7:=ko7.1
def fn7:=eH.mk 4 [.tmp 8] (sub b7 0)
def ok7:sL [69,1000014,14000010011] f7 fn7:=fp
def ko8:Ko [1000014,13000091,14000010011,14000016015] f8:=eN
def b8:=ko8.1
def fn8:=eH.mk 4 [.tmp 8] (sub b8 0)
def ok8:sL [1000014,13000091,14000010011,14000016015] f8 fn8:=fp
def ko6:Ko [1000020,2000015,14000019011] f6:=eN
def b6:=ko6.1
def fn6:=eH.mk 4 [.tmp 8] (sub b6 0)
def ok6:sL [1000020,2000015,14000019011] f6 fn6:=fp
def qK:=by
 have h:=bQ (fN b10 afM.1) (bQ (fN b14 afP.1) (bQ (fN b22 afU.1) (bQ (fN b23 afV.1) (bQ (fN b17 afR.1) (bQ (fN b9 ko9.1) (fN b7 ko7.1))))));simp only[eN,afM,afP,afU,afV,afR,ko9,ko7,yI,seval] at h;exact h
def E10:=qK.1
def E14:=qK.2.1
def E22:=qK.2.2.1
def E23:=qK.2.2.2.1
def E17:=qK.2.2.2.2.1
def E9:=qK.2.2.2.2.2.1
def E7:=qK.2.2.2.2.2.2
end Go.Proofs.YteoamaffclmdbaaGreatDoor
set_option linter.defProp false
set_option maxRecDepth 100000
namespace Go.Proofs.YteoamaffclmdbaaGreatDoor
open Go Go.Abs
def afX:Ko [] f25:=eN
def b25:=afX.1
def alr:=eH.mk 1 [.tmp 2] (sub b25 0)
def afY:Ko [] f26:=eN
def b26:=afY.1
def als:=eH.mk 1 [.tmp 2] (sub b26 0)
def afO:Ko [] f13:=eN
def b13:=afO.1
def YX:=eH.mk 1 [.dE 2 10] (sub b13 0)
def yL:=by
 have h:=And.intro (fN b25 afX.1) (And.intro (fN b26 afY.1) (fN b13 afO.1));simp only[eN,afX,afY,afO,yI,seval] at h;exact h
def E25:=yL.1
def E26:=yL.2.1
def E13:=yL.2.2
end Go.Proofs.YteoamaffclmdbaaGreatDoor
set_option linter.defProp false
set_option maxRecDepth 100000
namespace Go.Proofs.YteoamaffclmdbaaGreatDoor
open Go Go.Abs
def TB:Ko [] f130:=eN
def aeF:=TB.1
def acj:=eH.mk 2 [.tmp 4] (sub aeF 0)
abbrev ZE:=sub aeF 7
def agw:Ko [] f74:=eN
def b74:=agw.1
def alU:=eH.mk 2 [.dE 4 6,.tmp 5] (sub b74 0)
def Tu:Ko [] f123:=eN
def ai6:=Tu.1
def acb:=eH.mk 2 [.dE 4 6,.tmp 5] (sub ai6 0)
def Tw:Ko [] f125:=eN
def aeB:=Tw.1
def ace:=eH.mk 2 [.tmp 4] (sub aeB 0)
abbrev ZA:=sub aeB 7
def agu:Ko [] f72:=eN
def b72:=agu.1
def alS:=eH.mk 3 [.tmp 6,.tmp 7] (sub b72 0)
def Tq:Ko [5] f119:=eN
def aey:=Tq.1
def R7:=eH.mk 2 [.dE 4 3] (sub aey 0)
def am7:sL [5] f119 R7:=fp
abbrev Zu:=sub aey 11
def Uh:Ko [5] f175:=eN
def aeI:=Uh.1
def Sg:=eH.mk 2 [.dE 4 3] (sub aeI 0)
def ank:sL [5] f175 Sg:=fp
abbrev ZR:=sub aeI 9
def Tt:Ko [9] f122:=eN
def aez:=Tt.1
def R8:=eH.mk 3 [.dE 6 3] (sub aez 0)
def am9:sL [9] f122 R8:=fp
abbrev Zy:=sub aez 11
def pE:=by
 have h:=bQ (fN aeF TB.1) (bQ (fN b74 agw.1) (bQ (fN ai6 Tu.1) (bQ (fN aeB Tw.1) (bQ (fN b72 agu.1) (bQ (fN aey Tq.1) (bQ (fN aeI Uh.1) (fN aez Tt.1)))))));simp only[eN,TB,agw,Tu,Tw,agu,Tq,Uh,Tt,yI,seval] at h;exact h
def Ks:=pE.1
def E74:=pE.2.1
def XZ:=pE.2.2.1
def Kq:=pE.2.2.2.1
def E72:=pE.2.2.2.2.1
def Km:=pE.2.2.2.2.2.1
def QT:=pE.2.2.2.2.2.2.1
def Kn:=pE.2.2.2.2.2.2.2
def Tp:Ko [12] f118:=eN
def aex:=Tp.1
def R6:=eH.mk 4 [.dE 8 3] (sub aex 0)
def am6:sL [12] f118 R6:=fp
abbrev Zt:=sub aex 15
def Tz:Ko [] f128:=eN
def aeD:=Tz.1
def ach:=eH.mk 2 [.tmp 4] (sub aeD 0)
abbrev ZC:=sub aeD 7
def Tx:Ko [] f126:=eN
def aeC:=Tx.1
def acf:=eH.mk 3 [.tmp 6] (sub aeC 0)
abbrev ZB:=sub aeC 7
def Ud:Ko [] f171:=eN
def ajz:=Ud.1
def acF:=eH.mk 2 [.tmp 4] (sub ajz 0)
def Tn:Ko [] f117:=eN
def ai4:=Tn.1
def ab9:=eH.mk 3 [.tmp 6] (sub ai4 0)
def ags:Ko [] f70:=eN
def b70:=ags.1
def alQ:=eH.mk 4 [.dE 8 3,.tmp 9,.tmp 10] (sub b70 0)
def agq:Ko [] f68:=eN
def b68:=agq.1
def alP:=eH.mk 4 [.dE 8 3,.tmp 9] (sub b68 0)
def Ts:Ko [] f121:=eN
def ai5:=Ts.1
def aca:=eH.mk 2 [.dE 4 3] (sub ai5 0)
def pF:=by
 have h:=bQ (fN aex Tp.1) (bQ (fN aeD Tz.1) (bQ (fN aeC Tx.1) (bQ (fN ajz Ud.1) (bQ (fN ai4 Tn.1) (bQ (fN b70 ags.1) (bQ (fN b68 agq.1) (fN ai5 Ts.1)))))));simp only[eN,Tp,Tz,Tx,Ud,Tn,ags,agq,Ts,yI,seval] at h;exact h
def GQ:=pF.1
def Kr:=pF.2.1
def GR:=pF.2.2.1
def aiu:=pF.2.2.2.1
def GP:=pF.2.2.2.2.1
def E70:=pF.2.2.2.2.2.1
def E68:=pF.2.2.2.2.2.2.1
def aio:=pF.2.2.2.2.2.2.2
def agt:Ko [] f71:=eN
def b71:=agt.1
def alR:=eH.mk 3 [.dE 6 3,.tmp 7,.tmp 8] (sub b71 0)
def Ty:Ko [] f127:=eN
def ai7:=Ty.1
def acg:=eH.mk 3 [.tmp 6] (sub ai7 0)
def TA:Ko [] f129:=eN
def aeE:=TA.1
def aci:=eH.mk 3 [.tmp 6] (sub aeE 0)
abbrev ZD:=sub aeE 11
def agv:Ko [] f73:=eN
def b73:=agv.1
def alT:=eH.mk 5 [.dE 10 3,.tmp 11,.tmp 12] (sub b73 0)
def agF:Ko [27] f83:=eN
def b83:=agF.1
def afn:=eH.mk 3 [.dE 6 3,.tmp 7] (sub b83 0)
def atY:sL [27] f83 afn:=fp
def TI:Ko [] f137:=eN
def aje:=TI.1
def acp:=eH.mk 2 [.dE 4 3,.tmp 5] (sub aje 0)
def aga:Ko [] f41:=eN
def b41:=aga.1
def alH:=eH.mk 0 [.dE 0 3] (sub b41 0)
def Tv:Ko [] f124:=eN
def aeA:=Tv.1
def acd:=eH.mk 1 [.tmp 2] (sub aeA 0)
abbrev Zz:=sub aeA 15
def oj:=by
 have h:=bQ (fN b71 agt.1) (bQ (fN ai7 Ty.1) (bQ (fN aeE TA.1) (bQ (fN b73 agv.1) (bQ (fN b83 agF.1) (bQ (fN aje TI.1) (bQ (fN b41 aga.1) (fN aeA Tv.1)))))));simp only[eN,agt,Ty,TA,agv,agF,TI,aga,Tv,yI,seval] at h;exact h
def E71:=oj.1
def aip:=oj.2.1
def QO:=oj.2.2.1
def QX:=oj.2.2.2.1
def E83:=oj.2.2.2.2.1
def aiq:=oj.2.2.2.2.2.1
def E41:=oj.2.2.2.2.2.2.1
def HT:=oj.2.2.2.2.2.2.2
end Go.Proofs.YteoamaffclmdbaaGreatDoor
set_option linter.defProp false
set_option maxRecDepth 100000
namespace Go.Proofs.YteoamaffclmdbaaGreatDoor
open Go Go.Abs
def agH:Ko [7] f85:=eN
def b85:=agH.1
def Pk:=eH.mk 1 [.tmp 2,.tmp 3] (sub b85 0)
def at0:sL [7] f85 Pk:=fp
abbrev ag8:=sub b85 27
def Uc:Ko [] f170:=eN
def aeH:=Uc.1
def acE:=eH.mk 1 [.tmp 2] (sub aeH 0)
abbrev ZO:=sub aeH 17
def agi:Ko [] f48:=eN
def b48:=agi.1
def YY:=eH.mk 3 [.dE 6 3,.tmp 7] (sub b48 0)
def agJ:Ko [] f87:=eN
def b87:=agJ.1
def alW:=eH.mk 2 [.tmp 4] (sub b87 0)
def agK:Ko [] f88:=eN
def b88:=agK.1
def alX:=eH.mk 2 [.tmp 4] (sub b88 0)
def ago:Ko [] f66:=eN
def b66:=ago.1
def alO:=eH.mk 2 [.tmp 4,.tmp 5] (sub b66 0)
def agy:Ko [13] f76:=eN
def b76:=agy.1
def Hg:=eH.mk 4 [.tmp 8,.tmp 9,.tmp 10] (sub b76 0)
def atS:sL [13] f76 Hg:=fp
abbrev ag3:=sub b76 32
abbrev ag4:=sub b76 24
def agz:Ko [92] f77:=eN
def b77:=agz.1
def afl:=eH.mk 5 [.tmp 10,.tmp 11] (sub b77 0)
def atT:sL [92] f77 afl:=fp
abbrev ag5:=sub b77 49
def pH:=by
 have h:=bQ (fN b85 agH.1) (bQ (fN aeH Uc.1) (bQ (fN b48 agi.1) (bQ (fN b87 agJ.1) (bQ (fN b88 agK.1) (bQ (fN b66 ago.1) (bQ (fN b76 agy.1) (fN b77 agz.1)))))));simp only[eN,agH,Uc,agi,agJ,agK,ago,agy,agz,yI,seval] at h;exact h
def QE:=pH.1
def X4:=pH.2.1
def E48:=pH.2.2.1
def E87:=pH.2.2.2.1
def E88:=pH.2.2.2.2.1
def E66:=pH.2.2.2.2.2.1
def Kx:=pH.2.2.2.2.2.2.1
def Ye:=pH.2.2.2.2.2.2.2
def agA:Ko [17] f78:=eN
def b78:=agA.1
def Fa:=eH.mk 5 [.tmp 10,.tmp 11] (sub b78 0)
def atU:sL [17] f78 Fa:=fp
abbrev ag6:=sub b78 49
def agC:Ko [29] f80:=eN
def b80:=agC.1
def Ph:=eH.mk 4 [.dE 8 3,.tmp 9,.tmp 10] (sub b80 0)
def atW:sL [29] f80 Ph:=fp
def agD:Ko [] f81:=eN
def b81:=agD.1
def afm:=eH.mk 3 [.tmp 6,.tmp 7] (sub b81 0)
def TL:Ko [] f140:=eN
def ajg:=TL.1
def R9:=eH.mk 2 [.tmp 4] (sub ajg 0)
def TM:Ko [] f141:=eN
def ajh:=TM.1
def Sa:=eH.mk 2 [.tmp 4] (sub ajh 0)
def Tm:Ko [] f116:=eN
def ai3:=Tm.1
def MW:=eH.mk 1 [.tmp 2,.tmp 3,.tmp 4] (sub ai3 0)
def TC:Ko [] f131:=eN
def ai8:=TC.1
def ack:=eH.mk 2 [.tmp 4] (sub ai8 0)
def TD:Ko [] f132:=eN
def ai9:=TD.1
def acm:=eH.mk 3 [.tmp 6] (sub ai9 0)
def pI:=by
 have h:=bQ (fN b78 agA.1) (bQ (fN b80 agC.1) (bQ (fN b81 agD.1) (bQ (fN ajg TL.1) (bQ (fN ajh TM.1) (bQ (fN ai3 Tm.1) (bQ (fN ai8 TC.1) (fN ai9 TD.1)))))));simp only[eN,agA,agC,agD,TL,TM,Tm,TC,TD,yI,seval] at h;exact h
def QY:=pI.1
def E80:=pI.2.1
def E81:=pI.2.2.1
def QP:=pI.2.2.2.1
def QQ:=pI.2.2.2.2.1
def ad4:=pI.2.2.2.2.2.1
def aoC:=pI.2.2.2.2.2.2.1
def ad5:=pI.2.2.2.2.2.2.2
def TE:Ko [] f133:=eN
def aja:=TE.1
def acn:=eH.mk 2 [.tmp 4] (sub aja 0)
def TF:Ko [] f134:=eN
def ajb:=TF.1
def MX:=eH.mk 2 [.tmp 4,.tmp 5] (sub ajb 0)
def TG:Ko [] f135:=eN
def ajc:=TG.1
def MY:=eH.mk 2 [.tmp 4] (sub ajc 0)
def TH:Ko [] f136:=eN
def ajd:=TH.1
def aco:=eH.mk 2 [.tmp 4] (sub ajd 0)
def Ui:Ko [5000014] f176:=eN
def Rf:=Ui.1
def I2:=eH.mk 2 [.tmp 4] (sub Rf 0)
def anl:sL [5000014] f176 I2:=fp
abbrev ZT:=sub Rf 42
abbrev ZU:=sub Rf 24
abbrev ZV:=sub Rf 9
def U6:Ko [] f236:=eN
def akd:=U6.1
def M8:=eH.mk 3 [.tmp 6] (sub akd 0)
def U7:Ko [] f237:=eN
def ake:=U7.1
def M9:=eH.mk 2 [.tmp 4] (sub ake 0)
def pG:=by
 have h:=bQ (fN aja TE.1) (bQ (fN ajb TF.1) (bQ (fN ajc TG.1) (bQ (fN ajd TH.1) (bQ (fN Rf Ui.1) (bQ (fN akd U6.1) (fN ake U7.1))))));simp only[eN,TE,TF,TG,TH,Ui,U6,U7,yI,seval] at h;exact h
def aoD:=pG.1
def ad6:=pG.2.1
def ad7:=pG.2.2.1
def X0:=pG.2.2.2.1
def CA:=pG.2.2.2.2.1
def aem:=pG.2.2.2.2.2.1
def aen:=pG.2.2.2.2.2.2
end Go.Proofs.YteoamaffclmdbaaGreatDoor
set_option linter.defProp false
set_option maxRecDepth 100000
namespace Go.Proofs.YteoamaffclmdbaaGreatDoor
open Go Go.Abs
def afT:Ko [] f21:=eN
def b21:=afT.1
def ar2:=eH.mk 2 [.tmp 4] (sub b21 0)
def afZ:Ko [] f27:=eN
def b27:=afZ.1
def alw:=eH.mk 0 [.dE 0 10] (sub b27 0)
def af0:Ko [] f28:=eN
def b28:=af0.1
def uC:=eH.mk 2 [.dE 4 10,.dE 5 7] (sub b28 0)
def af9:Ko [] f40:=eN
def b40:=af9.1
def alG:=eH.mk 1 [.dE 2 8] (sub b40 0)
def agb:Ko [] f42:=eN
def b42:=agb.1
def alI:=eH.mk 1 [.dE 2 7] (sub b42 0)
def agc:Ko [] f43:=eN
def b43:=agc.1
def Hf:=eH.mk 2 [.dE 4 10,.dE 5 7] (sub b43 0)
def agd:Ko [14] f44:=eN
def b44:=agd.1
def zN:=eH.mk 2 [.dE 4 10,.dE 5 7] (sub b44 0)
def atM:sL [14] f44 zN:=fp
abbrev agU:=sub b44 52
def age:Ko [] f45:=eN
def b45:=age.1
def CI:=eH.mk 2 [.dE 4 10,.dE 5 7] (sub b45 0)
def pJ:=by
 have h:=bQ (fN b21 afT.1) (bQ (fN b27 afZ.1) (bQ (fN b28 af0.1) (bQ (fN b40 af9.1) (bQ (fN b42 agb.1) (bQ (fN b43 agc.1) (bQ (fN b44 agd.1) (fN b45 age.1)))))));simp only[eN,afT,afZ,af0,af9,agb,agc,agd,age,yI,seval] at h;exact h
def E21:=pJ.1
def E27:=pJ.2.1
def EZ:=pJ.2.2.1
def E40:=pJ.2.2.2.1
def E42:=pJ.2.2.2.2.1
def E43:=pJ.2.2.2.2.2.1
def Oq:=pJ.2.2.2.2.2.2.1
def QW:=pJ.2.2.2.2.2.2.2
def agf:Ko [17] f46:=eN
def b46:=agf.1
def Lw:=eH.mk 2 [.dE 4 7] (sub b46 0)
def atO:sL [17] f46 Lw:=fp
abbrev agV:=sub b46 54
abbrev agW:=sub b46 31
abbrev agX:=sub b46 87
def agh:Ko [10,41] f47:=eN
def b47:=agh.1
def Sv:=eH.mk 2 [.dE 4 8,.tmp 5] (sub b47 0)
def atP:sL [10,41] f47 Sv:=fp
abbrev agY:=sub b47 9
abbrev agZ:=sub b47 38
def agj:Ko [23,74] f49:=eN
def b49:=agj.1
def Pg:=eH.mk 2 [.dE 4 8] (sub b49 0)
def atQ:sL [23,74] f49 Pg:=fp
abbrev ag0:=sub b49 19
abbrev ag1:=sub b49 65
abbrev ag2:=sub b49 50
def agp:Ko [] f67:=eN
def b67:=agp.1
def afj:=eH.mk 2 [.tmp 4,.tmp 5,.tmp 6] (sub b67 0)
def agr:Ko [] f69:=eN
def b69:=agr.1
def YZ:=eH.mk 5 [.dE 10 10,.dE 11 7] (sub b69 0)
def agx:Ko [] f75:=eN
def b75:=agx.1
def afk:=eH.mk 1 [.tmp 2] (sub b75 0)
def agB:Ko [35] f79:=eN
def b79:=agB.1
def Lx:=eH.mk 2 [.dE 4 8,.tmp 5,.tmp 6] (sub b79 0)
def atV:sL [35] f79 Lx:=fp
def agE:Ko [7000011] f82:=eN
def b82:=agE.1
def Pj:=eH.mk 3 [.tmp 6] (sub b82 0)
def atX:sL [7000011] f82 Pj:=fp
abbrev LM:=sub b82 15
abbrev ag7:=sub b82 28
def pK:=by
 have h:=bQ (fN b46 agf.1) (bQ (fN b47 agh.1) (bQ (fN b49 agj.1) (bQ (fN b67 agp.1) (bQ (fN b69 agr.1) (bQ (fN b75 agx.1) (bQ (fN b79 agB.1) (fN b82 agE.1)))))));simp only[eN,agf,agh,agj,agp,agr,agx,agB,agE,yI,seval] at h;exact h
def Kw:=pK.1
def E47:=pK.2.1
def QD:=pK.2.2.1
def E67:=pK.2.2.2.1
def E69:=pK.2.2.2.2.1
def E75:=pK.2.2.2.2.2.1
def E79:=pK.2.2.2.2.2.2.1
def E82:=pK.2.2.2.2.2.2.2
def agG:Ko [47] f84:=eN
def b84:=agG.1
def Sw:=eH.mk 2 [.tmp 4,.tmp 5,.tmp 6] (sub b84 0)
def atZ:sL [47] f84 Sw:=fp
def agI:Ko [] f86:=eN
def b86:=agI.1
def alV:=eH.mk 3 [.tmp 6] (sub b86 0)
def Tr:Ko [8,14] f120:=eN
def Rc:=Tr.1
def IZ:=eH.mk 3 [.dE 6 10,.tmp 7] (sub Rc 0)
def am8:sL [8,14] f120 IZ:=fp
abbrev Zv:=sub Rc 9
abbrev Zw:=sub Rc 30
abbrev Zx:=sub Rc 49
def TJ:Ko [] f138:=eN
def ajf:=TJ.1
def MZ:=eH.mk 2 [.tmp 4] (sub ajf 0)
def TK:Ko [20,5000016] f139:=eN
def Re:=TK.1
def I0:=eH.mk 2 [.tmp 4,.tmp 5] (sub Re 0)
def ana:sL [20,5000016] f139 I0:=fp
abbrev ZF:=sub Re 36
abbrev ZG:=sub Re 56
abbrev ZH:=sub Re 13
def Ue:Ko [] f172:=eN
def ajA:=Ue.1
def acG:=eH.mk 2 [.tmp 4] (sub ajA 0)
def Uf:Ko [] f173:=eN
def Yt:=Uf.1
def M6:=eH.mk 2 [.tmp 4] (sub Yt 0)
abbrev ZP:=sub Yt 41
abbrev ZQ:=sub Yt 27
def Ug:Ko [] f174:=eN
def ajB:=Ug.1
def M7:=eH.mk 2 [.tmp 4] (sub ajB 0)
def om:=by
 have h:=bQ (fN b84 agG.1) (bQ (fN b86 agI.1) (bQ (fN Rc Tr.1) (bQ (fN ajf TJ.1) (bQ (fN Re TK.1) (bQ (fN ajA Ue.1) (bQ (fN Yt Uf.1) (fN ajB Ug.1)))))));simp only[eN,agG,agI,Tr,TJ,TK,Ue,Uf,Ug,yI,seval] at h;exact h
def E84:=om.1
def E86:=om.2.1
def EX:=om.2.2.1
def Oe:=om.2.2.2.1
def AF:=om.2.2.2.2.1
def aef:=om.2.2.2.2.2.1
def EY:=om.2.2.2.2.2.2.1
def aeg:=om.2.2.2.2.2.2.2
def Uj:Ko [23] f177:=eN
def ajC:=Uj.1
def I3:=eH.mk 2 [.tmp 4] (sub ajC 0)
def anm:sL [23] f177 I3:=fp
def X5:=by
 have h:=fN ajC Uj.1;simp only[eN,Uj,yI,seval] at h;exact h
end Go.Proofs.YteoamaffclmdbaaGreatDoor
namespace Go.Abs
section
open Go Go.RowKit
theorem fc{α:Type}:∀(l:List α)(i:Nat),nth l i=l[i]?
 | [],_=>by rfl
 |_::_,0=>by rfl
 |_::l,n+1=>by simp[nth,fc l n]
theorem fi{α:Type}:∀(l:List α)(i:Nat)(x:α),iP l i x=l.set i x
 | [],_,_=>by rfl
 |_::_,0,_=>by rfl
 |_::l,n+1,x=>by simp[iP,fi l n]
def gz(j:J)(id:Nat)(ob:Option Nat):J:=⟨fun i=>if i=id then ob else j i,j.X⟩
structure Quiet(w w':World):Prop where
 size:w.heap.size<=w'.heap.size
 os:w'.os=w.os
 tape:w'.tape=w.tape
 output:w'.output=w.output
theorem lt_of_block{w:World}{b:Nat}{o:Obj}(h:w.heap[b]?=some o):b<w.heap.size:=by
 grind
theorem aN{α:Type}{l:List α}{i:Nat}{x:α}(h:l[i]?=some x):i<l.length:=jK
section
variable {j:J} {M:aC} {w w':World}
theorem qD{j':J}{M':aC}(hr:Rel j M w)(ext:Ext j M w j' M' w'){i sz ver:Nat}{xs:List ag}(h:M[i]?=some (.arr sz ver xs))(hj:j' i=j i)(hb:∀b,j i=some b->w'.heap[b]?=w.heap[b]?) :
  (xs=[]/\j' i=none)\/∃b vs t,j' i=some b/\w'.heap[b]?=some (.cells vs t (0,0))/\xs.length*sz<=vs.size/\(∀x,x∈xs->x.cells.length=sz) /\
  ∀(q:Nat)(x:ag)(k:Nat)(c:ag),xs[q]?=some x->x.cells[k]?=some c->∃v,vs[q*sz+k]?=some v/\fQ w' (oo j' M' w') c v:=by
 rcases hr.arr i _ _ _ h with he|⟨b,vs,t,h1,h2,h3,h4,h5⟩
 ·grind
 refine .inr ⟨b,vs,t,hj.trans h1,(hb b h1).trans h2,h3,h4,fun q x k c hx hk=>?_⟩
 obtain⟨u,h6,h7⟩:=h5 q x k c hx hk;exact⟨u,h6,h7.mono ext.iy⟩
theorem Rel.yN(hr:Rel j M w){i sz ver b:Nat}{xs:List ag}(h:M[i]?=some (.arr sz ver xs))(hj:j i=some b):∃b vs t,j i=some b/\w.heap[b]?=some (.cells vs t (0,0))/\xs.length*sz<=vs.size/\(∀x,x∈xs->x.cells.length=sz) /\
  ∀(q:Nat)(x:ag)(k:Nat)(c:ag),xs[q]?=some x->x.cells[k]?=some c->∃v,vs[q*sz+k]?=some v/\fQ w (oo j M w) c v:=by
 rcases hr.arr i _ _ _ h with ⟨_,he⟩|hh
 ·grind
 omega
def xP{bx:cI}{i:Nat}(h:i<M.length):(M++[bx])[i]?=M[i]?:=jK
def kg{bx:cI}:(M++[bx])[M.length]?=some bx:=dy
theorem Ext.push{ob:Option Nat}{bx:cI}(hob:∀b,ob=some b->w.heap.size<=b)(q:Quiet w w')(hb:∀b,b<w.heap.size->w'.heap[b]?=w.heap[b]?) :
  Ext j M w (gz j M.length ob) (M++[bx]) w' where
 len:=dy
 size:=q.size
 os:=q.os
 tape:=q.tape
 output:=q.output
 X:=rfl
 fix:=fun i bx h _=>by
  have hi:=aN h;exact⟨by simp[gz,gG hi],bx,by rw[xP hi]; omega,rfl⟩
 tick:=fun i sz n h=>by
  have hi:=aN h;exact⟨n,au _,by rw[xP hi]; omega,fun _=>⟨by simp[gz,gG hi],fun b vs t _ hv=>⟨vs,(hb b (lt_of_block hv)).trans hv,rfl⟩⟩⟩
 arr:=fun i sz v xs h=>by
  have hi:=aN h;exact .inr ⟨v,xs,by rw[xP hi]; omega,au _,fun _=>⟨by simp[gz,gG hi],rfl,fun b vs t _ hv=>⟨vs,(hb b (lt_of_block hv)).trans hv,rfl⟩⟩⟩
 tags:=fun b0 vs0 t0 fr0 h=>⟨vs0,fr0,(hb b0 (lt_of_block h)).trans h,rfl⟩
 iy:=fun b off h=>by
  refine⟨⟨bu h.1 q.size,fun id hid hj=>?_,h.3⟩,World.cell?_of_block (hb b h.1)⟩
  by_cases he:id=M.length
  ·have:ob=some b:=by grind [gz]
   have:=hob b this;have:=h.1;omega
  ·have cG:id<M.length:=jK;rw[xP cG];exact h.2 id cG (by grind [gz])
 ui:=fun b cG h=>by
  grind [ob,gz]
theorem Rel.anP(hr:Rel j M w){ob:Option Nat}{bx:cI}(hob:∀b,ob=some b->w.heap.size<=b/\b<w'.heap.size)(q:Quiet w w')(hb:∀b,b<w.heap.size->w'.heap[b]?=w.heap[b]?)
  (hbox:bx.fixed=true->∃b,ob=some b/\(Ext j M w (gz j M.length ob) (M++[bx]) w'->Holds (gz j M.length ob) (M++[bx]) w' b bx))
  (htick:∀sz n b,bx = .tick sz n->ob=some b->∃vs t,w'.heap[b]?=some (.cells vs t (0,0)))
  (harr:∀sz ver xs,bx = .arr sz ver xs->(xs=[]/\ob=none)\/∃b vs t,ob=some b/\w'.heap[b]?=some (.cells vs t (0,0))/\xs.length*sz<=vs.size/\(∀x,x∈xs->x.cells.length=sz) /\
   ∀j' M',Ext j M w j' M' w'->∀(q:Nat)(x:ag)(k:Nat)(c:ag),xs[q]?=some x->x.cells[k]?=some c->∃v,vs[q*sz+k]?=some v/\fQ w' (oo j' M' w') c v:=by intro _ _ _ h; cases h):Rel (gz j M.length ob) (M++[bx]) w':=by
 have ext:Ext j M w (gz j M.length ob) (M++[bx]) w':=Ext.push (fun b h=>(hob b h).1) q hb
 have up:∀i,i<M.length->gz j M.length ob i=j i:=fun i hi=>by simp[gz,gG hi]
 have cas:∀i x,(M++[bx])[i]?=some x->(i<M.length/\M[i]?=some x)\/(i=M.length/\x=bx):=by
  grind
 refine⟨fun i i' b hi hi' h h'=>?_,fun i b hi h=>?_,fun i bx' h hf=>?_,fun i sz n b h hj=>?_,fun i sz ver xs h=>?_,fun i b hi h off hx=>?_,fun b off h=>bu (hr.AB b off h) q.size⟩
 ·simp only[aA,aw,az] at hi hi'
  by_cases e:i=M.length<;>by_cases e':i'=M.length
  ·omega
  ·have h1:ob=some b:=by simpa[gz,e] using h
   rw[up i' aH] at h';have:=hr.lt i' b aH h';have:=(hob b h1).1;omega
  ·have h1:ob=some b:=by simpa[gz,e'] using h'
   rw[up i aH] at h;have:=hr.lt i b aH h;have:=(hob b h1).1;omega
  ·rw[up i aH] at h;rw[up i' aH] at h';exact hr.inj i i' b aH aH h h'
 ·simp only[aA,aw,az] at hi
  by_cases e:i=M.length
  ·exact(hob b (by simpa[gz,e] using h)).2
  ·rw[up i aH] at h;exact bu (hr.lt i b aH h) q.size
 ·rcases cas i _ h with ⟨hi,h⟩|⟨rfl,hx⟩
  ·obtain⟨b,h1,h2⟩:=hr.fix i bx' h hf;exact⟨b,by rw[up i hi]; exact h1,h2.mono ext (hb b (hr.lt i b hi h1))⟩
  ·subst hx;obtain⟨b,h1,h2⟩:=hbox hf;exact⟨b,by simp[gz,h1],h2 ext⟩
 ·rcases cas i _ h with ⟨hi,h⟩|⟨rfl,hx⟩
  ·rw[up i hi] at hj;obtain⟨vs,t,h1⟩:=hr.tick i sz n b h hj;exact⟨vs,t,(hb b (lt_of_block h1)).trans h1⟩
  ·exact htick sz n b hx.symm (by simpa[gz] using hj)
 ·rcases cas i _ h with ⟨hi,h⟩|⟨rfl,hx⟩
  ·exact qD hr ext h (up i hi) fun b h1=>hb b (hr.lt i b hi h1)
  grind [gz]
 ·by_cases e:i=M.length
  ·have h1:=(hob b (by simpa[gz,e] using h)).1
   have h2:=hr.AB b off hx;omega
  ·exact hr.vf i b (by simp at hi; omega) (by rw[up i (by simp at hi; omega)] at h; exact h) off hx
def Rel.push(hr:Rel j M w){ob:Option Nat}{bx:cI}(hob:∀b,ob=some b->w.heap.size<=b/\b<w'.heap.size)(q:Quiet w w')(hb:∀b,b<w.heap.size->w'.heap[b]?=w.heap[b]?)
  (hbox:bx.fixed=true->∃b,ob=some b/\∀j' M',Ext j M w j' M' w'->Holds j' M' w' b bx)
  (htick:∀sz n b,bx = .tick sz n->ob=some b->∃vs t,w'.heap[b]?=some (.cells vs t (0,0)))
  (harr:∀sz ver xs,bx = .arr sz ver xs->(xs=[]/\ob=none)\/∃b vs t,ob=some b/\w'.heap[b]?=some (.cells vs t (0,0))/\xs.length*sz<=vs.size/\(∀x,x∈xs->x.cells.length=sz) /\
   ∀j' M',Ext j M w j' M' w'->∀(q:Nat)(x:ag)(k:Nat)(c:ag),xs[q]?=some x->x.cells[k]?=some c->∃v,vs[q*sz+k]?=some v/\fQ w' (oo j' M' w') c v:=by intro _ _ _ h; cases h):Rel (gz j M.length ob) (M++[bx]) w' :=
 hr.anP hob q hb (fun hf=>(hbox hf).imp fun b h=>⟨h.1,fun hx=>h.2 _ _ hx⟩) htick harr
theorem ec{id:Nat}{bx:cI}(h:id<M.length):(M.set id bx)[id]?=some bx:=jK
def cJ{id i:Nat}{bx:cI}(h:id≠i):(M.set id bx)[i]?=M[i]?:=jK
theorem Ext.store{id b:Nat}{bx bx':cI}(hM:M[id]?=some bx)(hfx:bx.fixed=true)(htag:bx'.tag=bx.tag)(hj:j id=some b)(hr:Rel j M w)(q:Quiet w w')
  (hb:∀b',b'≠b->b'<w.heap.size->w'.heap[b']?=w.heap[b']?) (htg:∀(vs:Array Value)(t:TypeId)(fr:Nat×Nat),w.heap[b]?=some (.cells vs t fr)->∃vs' fr',w'.heap[b]?=some (.cells vs' t fr')/\vs'.size=vs.size):Ext j M w j (M.set id bx') w' where
 len:=dy
 size:=q.size
 os:=q.os
 tape:=q.tape
 output:=q.output
 X:=rfl
 fix:=fun i b0 h _=>⟨rfl,by
  grind⟩
 tick:=fun i sz n h=>by
  have e:id≠i:=by rintro rfl; rw[hM] at h; cases h; cases hfx
  refine⟨n,au _,by rw[cJ e]; omega,fun _=>⟨rfl,fun b' vs t hb' hv=>⟨vs,?_,rfl⟩⟩⟩
  refine(hb b' ?_ (lt_of_block hv)).trans hv;rintro rfl;exact e (hr.inj _ _ _ (aN hM) (aN h) hj hb')
 arr:=fun i sz v xs h=>by
  have e:id≠i:=by rintro rfl; rw[hM] at h; cases h; cases hfx
  refine .inr ⟨v,xs,by rw[cJ e]; omega,au _,fun _=>⟨rfl,rfl,fun b' vs t hb' hv=>⟨vs,?_,rfl⟩⟩⟩
  refine(hb b' ?_ (lt_of_block hv)).trans hv;rintro rfl;exact e (hr.inj _ _ _ (aN hM) (aN h) hj hb')
 tags:=fun b0 vs0 t0 fr0 h=>by
  grind
 iy:=fun b0 off h=>by
  have hne:b0≠b:=by
   rintro rfl;obtain⟨sz,n,h1,_⟩:=h.2 id (aN hM) hj;rw[hM] at h1; cases h1; cases hfx
  refine⟨⟨bu h.1 q.size,fun i hi hji=>?_,h.3⟩,World.cell?_of_block (w:=w) (hb b0 hne h.1)⟩
  have e:id≠i:=jK;rw[cJ e];exact h.2 i (by simpa using hi) hji
 ui:=fun b0 cG h=>by
  grind
theorem Rel.store{id b:Nat}{bx bx':cI}(hM:M[id]?=some bx)(hfx:bx.fixed=true)(htag:bx'.tag=bx.tag)(hj:j id=some b)(hr:Rel j M w)(q:Quiet w w')
  (hb:∀b',b'≠b->b'<w.heap.size->w'.heap[b']?=w.heap[b']?) (htg:∀(vs:Array Value)(t:TypeId)(fr:Nat×Nat),w.heap[b]?=some (.cells vs t fr)->∃vs' fr',w'.heap[b]?=some (.cells vs' t fr')/\vs'.size=vs.size) (hh:∀j' M',Ext j M w j' M' w'->Holds j' M' w' b bx'):Rel j (M.set id bx') w':=by
 have ext  := Ext.store hM hfx htag hj hr q hb htg;refine⟨fun i i' b0 hi hi'=>hr.inj i i' b0 (by simpa using hi) (by simpa using hi'),fun i b0 hi h=>bu (hr.lt i b0 (by simpa using hi) h) q.size,fun i bx0 h hf=>?_,fun i sz n b0 h hji=>?_,fun i sz ver xs h=>?_,fun i b0 hi h=>hr.vf i b0 (by simpa using hi) h,fun b0 off h=>bu (hr.AB b0 off h) q.size⟩
 ·by_cases e:id=i
  ·grind
  ·rw[cJ e] at h;obtain⟨b0,h1,h2⟩:=hr.fix i _ h hf;refine⟨b0,h1,h2.mono ext (hb b0 ?_ (hr.lt i b0 (aN h) h1))⟩;rintro rfl;exact e (hr.inj _ _ _ (aN hM) (aN h) hj h1)
 ·have e:id≠i:=by
   rintro rfl;rw[ec (aN hM)] at h;injection h with h
   have:=BH htag hfx;rw[h] at this; cases this
  rw[cJ e] at h;obtain⟨vs,t0,h1⟩:=hr.tick i sz n b0 h hji;refine⟨vs,t0,(hb b0 ?_ (lt_of_block h1)).trans h1⟩;rintro rfl;exact e (hr.inj _ _ _ (aN hM) (aN h) hj hji)
 ·have e:id≠i:=by
   rintro rfl;rw[ec (aN hM)] at h;injection h with h
   have:=BH htag hfx;rw[h] at this; cases this
  rw[cJ e] at h;refine qD hr ext h rfl fun b0 h1=>hb b0 ?_ (hr.lt i b0 (aN h) h1)
  rintro rfl;exact e (hr.inj _ _ _ (aN hM) (aN h) hj h1)
theorem Ext.HL{k b sz n n':Nat}{vs vs':Array Value}{t:TypeId}(hM:M[k]?=some (.tick sz n))(hj:j k=some b)(hr:Rel j M w)(q:Quiet w w')
  (hb:∀b',b'≠b->b'<w.heap.size->w'.heap[b']?=w.heap[b']?) (hw:w.heap[b]?=some (.cells vs t (0,0))) (hw':w'.heap[b]?=some (.cells vs' t (0,0))) (hvs:vs'.size=vs.size)
  (hq:∀p,p<n*sz->vs'[p]?=vs[p]?) (hn:n<=n'):Ext j M w j (M.set k (.tick sz n')) w' where
 len:=dy
 size:=q.size
 os:=q.os
 tape:=q.tape
 output:=q.output
 X:=rfl
 fix:=fun i b0 h hf=>⟨rfl,by
  have e:k≠i:=by rintro rfl; rw[hM] at h; cases h; cases hf
  grind⟩
 tick:=fun i sz0 n0 h=>by
  grind
 arr:=fun i sz v xs h=>by
  grind
 tags:=fun b0 vs0 t0 fr0 h=>by
  grind
 iy:=fun b0 off h=>by
  refine⟨⟨bu h.1 q.size,fun i hi hji=>?_,h.3⟩,?_⟩
  ·by_cases e:k=i
   ·subst e;obtain⟨sz0,n0,h1,h2⟩:=h.2 k (aN hM) hji;rw[hM] at h1;injection h1 with h1; injection h1 with e1 e2
    subst e1; subst e2;exact⟨sz,n',ec (aN hM),bu h2 (bd _ hn)⟩
   ·rw[cJ e];exact h.2 i (by simpa using hi) hji
  ·by_cases e:b0=b
   ·subst e;obtain⟨sz0,n0,h1,h2⟩:=h.2 k (aN hM) hj;rw[hM] at h1
    grind [World.cell?]
   ·exact World.cell?_of_block (w:=w) (hb b0 e h.1)
 ui:=fun b0 cG h=>by
  grind
theorem Rel.HL{k b sz n n':Nat}{vs vs':Array Value}{t:TypeId}(hM:M[k]?=some (.tick sz n))(hj:j k=some b)(hr:Rel j M w)(q:Quiet w w')
  (hb:∀b',b'≠b->b'<w.heap.size->w'.heap[b']?=w.heap[b']?) (hw:w.heap[b]?=some (.cells vs t (0,0))) (hw':w'.heap[b]?=some (.cells vs' t (0,0))) (hvs:vs'.size=vs.size)
  (hq:∀p,p<n*sz->vs'[p]?=vs[p]?) (hn:n<=n'):Rel j (M.set k (.tick sz n')) w':=by
 have ext:Ext j M w j (M.set k (.tick sz n')) w':=Ext.HL hM hj hr q hb hw hw' hvs hq hn;refine⟨fun i i' b0 hi hi'=>hr.inj i i' b0 jK jK,fun i b0 hi h=>bu (hr.lt i b0 jK h) q.size,fun i bx0 h hf=>?_,fun i sz0 n0 b0 h hji=>?_,fun i sz ver xs h=>?_,fun i b0 hi h=>hr.vf i b0 jK h,fun b0 off h=>bu (hr.AB b0 off h) q.size⟩
 ·have e:k≠i:=by rintro rfl; rw[ec (aN hM)] at h; cases h; cases hf
  rw[cJ e] at h;obtain⟨b0,h1,h2⟩:=hr.fix i bx0 h hf;refine⟨b0,h1,h2.mono ext (hb b0 ?_ (hr.lt i b0 (aN h) h1))⟩;rintro rfl;exact e (hr.inj _ _ _ (aN hM) (aN h) hj h1)
 ·by_cases e:k=i
  ·grind
  ·rw[cJ e] at h;obtain⟨vs0,t0,h1⟩:=hr.tick i sz0 n0 b0 h hji
   grind
 ·have e:k≠i:=jK;rw[cJ e] at h;refine qD hr ext h rfl fun b0 h1=>hb b0 ?_ (hr.lt i b0 (aN h) h1)
  rintro rfl;exact e (hr.inj _ _ _ (aN hM) (aN h) hj h1)
theorem Ext.C3{k b' sz n n':Nat}(hM:M[k]?=some (.tick sz n))(q:Quiet w w')(hb:∀b,b<w.heap.size->w'.heap[b]?=w.heap[b]?)(hf:w.heap.size<=b')(hn:n<n') :
  Ext j M w (gz j k (some b')) (M.set k (.tick sz n')) w' where
 len:=dy
 size:=q.size
 os:=q.os
 tape:=q.tape
 output:=q.output
 X:=rfl
 fix:=fun i b0 h hf=>by
  have e:k≠i:=by rintro rfl; rw[hM] at h; cases h; cases hf
  exact⟨by simp[gz,eW e],b0,by rw[cJ e]; omega,rfl⟩
 tick:=fun i sz0 n0 h=>by
  by_cases e:k=i
  ·grind
  ·exact⟨n0,au _,by rw[cJ e]; omega,fun _=>⟨by simp[gz,eW e],fun b vs0 t0 _ hv=>⟨vs0,(hb b (lt_of_block hv)).trans hv,rfl⟩⟩⟩
 arr:=fun i sz v xs h=>by
  have e:k≠i:=jK;exact .inr ⟨v,xs,by rw[cJ e]; omega,au _,fun _=>⟨by simp[gz,eW e],rfl,fun b vs0 t0 _ hv=>⟨vs0,(hb b (lt_of_block hv)).trans hv,rfl⟩⟩⟩
 tags:=fun b0 vs0 t0 fr0 h=>⟨vs0,fr0,(hb b0 (lt_of_block h)).trans h,rfl⟩
 iy:=fun b0 off h=>by
  refine⟨⟨bu h.1 q.size,fun i hi hji=>?_,h.3⟩,World.cell?_of_block (w:=w) (hb b0 h.1)⟩
  have e:k≠i:=by
   rintro rfl;have:b'=b0:=by grind [gz]
   have:=h.1;omega
  rw[cJ e];exact h.2 i jK (by simp_all [gz,eW])
 ui:=fun b0 cG h=>by
  grind [gz]
def Rel.C3{k b' sz n n':Nat}{vs:Array Value}{t:TypeId}(hM:M[k]?=some (.tick sz n))(hr:Rel j M w)(q:Quiet w w')(hb:∀b,b<w.heap.size->w'.heap[b]?=w.heap[b]?)
  (hf:w.heap.size<=b') (hw':w'.heap[b']?=some (.cells vs t (0,0))) (hn:n<n'):Rel (gz j k (some b')) (M.set k (.tick sz n')) w':=by
 have ext:Ext j M w (gz j k (some b')) (M.set k (.tick sz n')) w':=Ext.C3 hM q hb hf hn;refine⟨fun i i' b0 hi hi' h h'=>?_,fun i b0 hi h=>?_,fun i bx0 h hf=>?_,fun i sz0 n0 b0 h hji=>?_,fun i sz ver xs h=>?_,fun i b0 hi h off hx=>?_,fun b0 off h=>bu (hr.AB b0 off h) q.size⟩
 ·simp only[cY] at hi hi'
  by_cases e:i=k<;>by_cases e':i'=k
  ·omega
  ·have h1:b'=b0:=by simpa[gz,e] using h
   have:=hr.lt i' b0 hi' (by simpa[gz,e'] using h')
   omega
  ·have h1:b'=b0:=by simpa[gz,e'] using h'
   have:=hr.lt i b0 hi (by simpa[gz,e] using h)
   omega
  ·exact hr.inj i i' b0 hi hi' (by simpa[gz,e] using h) (by simpa[gz,e'] using h')
 ·simp only[cY] at hi
  by_cases e:i=k
  ·have h1:b'=b0:=by simpa[gz,e] using h
   subst h1;exact lt_of_block hw'
  ·exact bu (hr.lt i b0 hi (by simpa[gz,e] using h)) q.size
 ·have e:k≠i:=by rintro rfl; rw[ec (aN hM)] at h; cases h; cases hf
  rw[cJ e] at h;obtain⟨b0,h1,h2⟩:=hr.fix i bx0 h hf;exact⟨b0,by simpa[gz,eW e] using h1,h2.mono ext (hb b0 (hr.lt i b0 (aN h) h1))⟩
 ·by_cases e:i=k
  ·have h1:b'=b0:=by simpa[gz,e] using hji
   subst h1;exact⟨vs,t,hw'⟩
  ·rw[cJ (eW e)] at h;obtain⟨vs0,t0,h1⟩:=hr.tick i sz0 n0 b0 h (by simpa[gz,e] using hji)
   exact⟨vs0,t0,(hb b0 (lt_of_block h1)).trans h1⟩
 ·have e:k≠i:=by rintro rfl; rw[ec (aN hM)] at h; cases h
  rw[cJ e] at h;exact qD hr ext h (by simp[gz,eW e]) fun b0 h1=>hb b0 (hr.lt i b0 (aN h) h1)
 ·by_cases e:i=k
  ·have h1:b'=b0:=by simpa[gz,e] using h
   have h2:=hr.AB b0 off hx;omega
  ·exact hr.vf i b0 (by simpa using hi) (by simpa[gz,e] using h) off hx
end
section
variable {j:J} {M:aC} {w w':World}
def Fk(j:J)(M:aC)(w:World)(b sz:Nat)(xs:List ag):Prop:=∃vs t,w.heap[b]?=some (.cells vs t (0,0))/\xs.length*sz<=vs.size/\(∀x,x∈xs->x.cells.length=sz) /\
  ∀(q:Nat)(x:ag)(k:Nat)(c:ag),xs[q]?=some x->x.cells[k]?=some c->∃v,vs[q*sz+k]?=some v/\fQ w (oo j M w) c v
def Ext.Fq{id b sz ver ver':Nat}{xs xs':List ag}(hM:M[id]?=some (.arr sz ver xs))(hj:j id=some b)(hr:Rel j M w)(q:Quiet w w')
  (hb:∀b',b'≠b->b'<w.heap.size->w'.heap[b']?=w.heap[b']?) (hw:∀vs t,w.heap[b]?=some (.cells vs t (0,0))->∃vs',w'.heap[b]?=some (.cells vs' t (0,0))/\vs'.size=vs.size)
  (hv:ver<=ver') (hl:ver'=ver->xs'.length=xs.length):Ext j M w j (M.set id (.arr sz ver' xs')) w' where
 len:=dy
 size:=q.size
 os:=q.os
 tape:=q.tape
 output:=q.output
 X:=rfl
 fix:=fun i b0 h hf=>⟨rfl,by
  have e:id≠i:=by rintro rfl; rw[hM] at h; cases h; cases hf
  exact⟨b0,by rw[cJ e]; exact h,rfl⟩⟩
 tick:=fun i sz0 n0 h=>by
  have e:id≠i:=by rintro rfl; rw[hM] at h; cases h
  refine⟨n0,au _,by rw[cJ e]; exact h,fun _=>⟨rfl,fun b' vs0 t0 hb' hv=>⟨vs0,?_,rfl⟩⟩⟩
  refine(hb b' ?_ (lt_of_block hv)).trans hv;rintro rfl;exact e (hr.inj _ _ _ (aN hM) (aN h) hj hb')
 arr:=fun i sz0 v0 xs0 h=>by
  by_cases e:id=i
  ·subst e;rw[hM] at h;injection h with h; injection h with e1 e2 e3
   subst e1; subst e2; subst e3;refine .inr ⟨ver',xs',ec (aN hM),hv,fun he=>⟨rfl,hl he,fun b' vs t hb' hv=>?_⟩⟩
   rw[hj] at hb'; cases hb';exact hw vs t hv
  ·refine .inr ⟨v0,xs0,by rw[cJ e]; exact h,au _,fun _=>⟨rfl,rfl,fun b' vs t hb' hv=>⟨vs,?_,rfl⟩⟩⟩
   refine(hb b' ?_ (lt_of_block hv)).trans hv;rintro rfl;exact e (hr.inj _ _ _ (aN hM) (aN h) hj hb')
 tags:=fun b0 vs0 t0 fr0 h=>by
  by_cases e:b0=b
  ·subst e;obtain⟨b',vs,t,g1,g2,_⟩:=hr.yN hM hj;rw[hj] at g1; cases g1;rw[g2] at h; injection h with h; injection h with h1 h2 h3
   subst h1; subst h2;obtain⟨vs',k1,k2⟩:=hw vs t g2;exact⟨_,_,k1,k2⟩
  ·exact⟨vs0,fr0,(hb b0 e (lt_of_block h)).trans h,rfl⟩
 iy:=fun b0 off h=>by
  have hne:b0≠b:=by
   rintro rfl;obtain⟨sz,n,h1,_⟩:=h.2 id (aN hM) hj;rw[hM] at h1; cases h1
  refine⟨⟨bu h.1 q.size,fun i hi hji=>?_,h.3⟩,World.cell?_of_block (w:=w) (hb b0 hne h.1)⟩
  have e:id≠i:=by rintro rfl; rw[hj] at hji; injection hji with hji; exact hne hji.symm
  rw[cJ e];exact h.2 i (by simpa using hi) hji
 ui:=fun b0 cG h=>by
  have hne:b0≠b:=by rintro rfl; exact h id (aN hM) hj
  exact⟨hb b0 hne cG,fun i hi=>h i (by simpa using hi)⟩
def Rel.Fq{id b sz ver ver':Nat}{xs xs':List ag}(hM:M[id]?=some (.arr sz ver xs))(hj:j id=some b)(hr:Rel j M w)(q:Quiet w w')
  (hb:∀b',b'≠b->b'<w.heap.size->w'.heap[b']?=w.heap[b']?) (hw:∀vs t,w.heap[b]?=some (.cells vs t (0,0))->∃vs',w'.heap[b]?=some (.cells vs' t (0,0))/\vs'.size=vs.size)
  (hv:ver<=ver') (hl:ver'=ver->xs'.length=xs.length) (hh:∀j' M',Ext j M w j' M' w'->Fk j' M' w' b sz xs'):Rel j (M.set id (.arr sz ver' xs')) w':=by
 have ext:Ext j M w j (M.set id (.arr sz ver' xs')) w':=Ext.Fq hM hj hr q hb hw hv hl;refine⟨fun i i' b0 hi hi'=>hr.inj i i' b0 (by simpa using hi) (by simpa using hi'),fun i b0 hi h=>bu (hr.lt i b0 (by simpa using hi) h) q.size,fun i bx0 h hf=>?_,fun i sz0 n0 b0 h hji=>?_,fun i sz0 v0 xs0 h=>?_,fun i b0 hi h=>hr.vf i b0 (by simpa using hi) h,fun b0 off h=>bu (hr.AB b0 off h) q.size⟩
 ·have e:id≠i:=by rintro rfl; rw[ec (aN hM)] at h; cases h; cases hf
  rw[cJ e] at h;obtain⟨b0,h1,h2⟩:=hr.fix i bx0 h hf;refine⟨b0,h1,h2.mono ext (hb b0 ?_ (hr.lt i b0 (aN h) h1))⟩;rintro rfl;exact e (hr.inj _ _ _ (aN hM) (aN h) hj h1)
 ·have e:id≠i:=by rintro rfl; rw[ec (aN hM)] at h; cases h
  rw[cJ e] at h;obtain⟨vs,t0,h1⟩:=hr.tick i sz0 n0 b0 h hji;refine⟨vs,t0,(hb b0 ?_ (lt_of_block h1)).trans h1⟩;rintro rfl;exact e (hr.inj _ _ _ (aN hM) (aN h) hj hji)
 ·by_cases e:id=i
  ·subst e;rw[ec (aN hM)] at h;injection h with h; injection h with e1 e2 e3
   subst e1; subst e2; subst e3;obtain⟨vs,t,g⟩:=hh _ _ ext;exact .inr ⟨b,vs,t,hj,g⟩
  ·rw[cJ e] at h;refine qD hr ext h rfl fun b0 h1=>hb b0 ?_ (hr.lt i b0 (aN h) h1)
   rintro rfl;exact e (hr.inj _ _ _ (aN hM) (aN h) hj h1)
def Ext.freeze{id sz ver:Nat}{xs:List ag}(hM:M[id]?=some (.arr sz ver xs)):Ext j M w j (M.set id (.tick sz xs.length)) w where
 len:=dy
 size:=au _
 os:=rfl
 tape:=rfl
 output:=rfl
 X:=rfl
 fix:=fun i b0 h hf=>⟨rfl,by
  have e:id≠i:=by rintro rfl; rw[hM] at h; cases h; cases hf
  exact⟨b0,by rw[cJ e]; exact h,rfl⟩⟩
 tick:=fun i sz0 n0 h=>by
  have e:id≠i:=by rintro rfl; rw[hM] at h; cases h
  exact⟨n0,au _,by rw[cJ e]; exact h,fun _=>⟨rfl,fun b' vs0 t0 hb' hv=>⟨vs0,hv,rfl⟩⟩⟩
 arr:=fun i sz0 v0 xs0 h=>by
  by_cases e:id=i
  ·subst e;rw[hM] at h;injection h with h; injection h with e1 e2 e3
   subst e1; subst e2; subst e3;exact .inl ⟨_,ec (aN hM)⟩
  ·exact .inr ⟨v0,xs0,by rw[cJ e]; exact h,au _,fun _=>⟨rfl,rfl,fun b' vs t hb' hv=>⟨vs,hv,rfl⟩⟩⟩
 tags:=fun b vs t fr h=>⟨vs,fr,h,rfl⟩
 iy:=fun b0 off h=>by
  refine⟨⟨h.1,fun i hi hji=>?_,h.3⟩,rfl⟩
  have e:id≠i:=by
   rintro rfl;obtain⟨sz,n,h1,_⟩:=h.2 id (aN hM) hji;rw[hM] at h1; cases h1
  rw[cJ e];exact h.2 i (by simpa using hi) hji
 ui:=fun b0 cG h=>⟨rfl,fun i hi=>h i (by simpa using hi)⟩
def Rel.freeze{id sz ver:Nat}{xs:List ag}(hM:M[id]?=some (.arr sz ver xs))(hr:Rel j M w):Rel j (M.set id (.tick sz xs.length)) w:=by
 have ext:Ext j M w j (M.set id (.tick sz xs.length)) w:=Ext.freeze hM;refine⟨fun i i' b0 hi hi'=>hr.inj i i' b0 (by simpa using hi) (by simpa using hi'),fun i b0 hi h=>hr.lt i b0 (by simpa using hi) h,fun i bx0 h hf=>?_,fun i sz0 n0 b0 h hji=>?_,fun i sz0 v0 xs0 h=>?_,fun i b0 hi h=>hr.vf i b0 (by simpa using hi) h,hr.AB⟩
 ·have e:id≠i:=by rintro rfl; rw[ec (aN hM)] at h; cases h; cases hf
  rw[cJ e] at h;obtain⟨b0,h1,h2⟩:=hr.fix i bx0 h hf;exact⟨b0,h1,h2.mono ext rfl⟩
 ·by_cases e:id=i
  ·subst e;obtain⟨b,vs,t,g1,g2,_⟩:=hr.yN hM hji;rw[hji] at g1; cases g1;exact⟨vs,t,g2⟩
  ·rw[cJ e] at h;exact hr.tick i sz0 n0 b0 h hji
 ·have e:id≠i:=by rintro rfl; rw[ec (aN hM)] at h; cases h
  rw[cJ e] at h;exact qD hr ext h rfl fun b0 h1=>rfl
end
def xU{w:World}{iy saf':Nat->Nat->Prop}{b lo hi sz cap:Nat}{vs:Array Value}{t:TypeId}{xs:List ag}(hw:w.heap[b]?=some (.cells vs t (0,0)))(hwid:∀x,x∈xs->x.cells.length=sz)
  (hc:∀(q:Nat)(x:ag)(k:Nat)(c:ag),xs[q]?=some x->x.cells[k]?=some c->∃v,vs[q*sz+k]?=some v/\fQ w iy c v) (hm:∀b off,iy b off->saf' b off) (hs:∀off,off<xs.length*sz->saf' b off)
  (h1:lo<=hi) (h2:hi<=xs.length) (h3:hi-lo<=cap):fQ w saf' (.slice .sh ((xs.take hi).drop lo)) (.slice (some ⟨b,lo*sz,none⟩) (hi-lo) cap):=by
 have hget:∀(i:Nat)(x:ag),((xs.take hi).drop lo)[i]?=some x->xs[lo+i]?=some x/\lo+i<hi:=by
  intro i x h;rw[cH] at h;have cG:lo+i<hi:=by have:=aN h; simp at this; omega
  rw[bH cG] at h;exact⟨h,cG⟩
 have idx:∀i k,lo*sz+(i*sz+k)=(lo+i)*sz+k:=fun i k=>by rw[bP]; omega
 refine .slice _ _ _ _ b (lo*sz) sz (fun p=>(vs[lo*sz+p]?).getD undef) gh aH (fun _=>rfl) (fun x hx=>hwid x (dK (dr hx))) (fun i x k c hx hk=>?_) fun i x k c hx hk=>?_
 ·obtain⟨g1,g2⟩:=hget i x hx;obtain⟨v,g3,g4⟩:=hc _ x k c g1 hk;have hk':k<sz:=by rw[<-hwid x (aK g1)]; exact aN hk
  rw[idx];refine⟨by simp[World.cell?,hw,g3],hs _ ?_⟩
  calc (lo+i)*sz+k<(lo+i)*sz+sz:=aH
   _=(lo+i+1)*sz:=by rw[bP (lo+i) 1]; omega
   _<=xs.length*sz:=bd _ aH
 ·obtain⟨g1,g2⟩:=hget i x hx;obtain⟨v,g3,g4⟩:=hc _ x k c g1 hk;simp only[idx,g3,bA];exact g4.mono fun b off h=>⟨hm b off h,rfl⟩
section
variable [kG]
def iR(j:J)(M:aC)(w:World)(x:ag×aC)(v:Value)(w':World):Prop:=∃j',Rel j' x.2 w'/\Ext j M w j' x.2 w'/\gj j' x.2 w' x.1 v
def HZ(j:J)(M:aC)(w:World)(x:ag×aC)(u:Value)(w':World):Prop:=x.1 = .nF u/\∃j',Rel j' x.2 w'/\Ext j M w j' x.2 w'
def vS(j:J)(M:aC)(w:World)(x:ag×aC)(e:Ending)(w':World):Prop :=
 (∃v,e = .returned v/\iR j M w x v w')\/∃u,e = .panicked [{ v:=u,recovered:=false }]/\HZ j M w x u w'
def vS.ret{j:J}{M:aC}{w:World}{x:ag×aC}{e:Ending}{w':World}(h:vS j M w x e w')(hx:x.1.jn=false):∃v,e = .returned v/\iR j M w x v w':=by
 rcases h with h|⟨u,_,h,_⟩
 ·omega
 ·rw[h] at hx; cases hx
def db(P:Program)(f:Nat)(args:List ag)(M:aC)(x:ag×aC):Prop :=
 ∀(j:J)(w:World)(vs:Array Value),Rel j M w->sO j M w->args.length=vs.size->(∀(i:Nat)(c:ag)(v:Value),args[i]?=some c->vs[i]?=some v->gj j M w c v) ->
  Calls P f vs w fun e w'=>vS j M w x e w'
def nK(P:Program)(f:Nat)(args:List ag)(M:aC)(x:ag×aC):Prop :=
 ∀(j:J)(w:World)(vs:Array Value),Rel j M w->sO j M w->args.length=vs.size->(∀(i:Nat)(c:ag)(v:Value),args[i]?=some c->vs[i]?=some v->gj j M w c v) ->
  Calls P f vs w fun e w'=>∃v j',e = .returned v/\Rel j' x.2 w'/\Ext j M w j' x.2 w'/\gj j' x.2 w' x.1 v
def nK.call{P:Program}{f:Nat}{args:List ag}{M:aC}{x:ag×aC}(h:nK P f args M x):db P f args M x:=fun j w vs h1 h2 h3 h4 =>
 (h j w _ h1 h2 h3 h4).mono fun e w' ⟨v,j',he,g1,g2,g3⟩ => .inl ⟨v,he,j',g1,g2,g3⟩
def nJ(P:Program)(C:eP):Prop:=∀f a M x,C f a M=some x->lF P f=true/\db P f a M x
section
variable {j:J} {M:aC} {w:World} {P:Program}
def iR.still{v:Value}{y:ag}(hr:Rel j M w)(h:gj j M w y v):iR j M w (y,M) v w:=⟨j,hr,Ext.refl j M w,h⟩
theorem H5{v:Value}{x:ag}(h:KA v=some x):gj j M w x v:=by
 unfold KA at h
 split at h<;>first
  |(cases h; first|exact .plain (.bool _)|exact .plain (.int _ _)|exact .plain (.str _)|exact .plain (.raw _ rfl)|exact .c0 _)
  |grind
theorem H3{iy:Nat->Nat->Prop}:∀ {vs:List Value} {l:List ag},Q4 vs=some l->l.length=vs.length/\∀(i:Nat)(c:ag)(v:Value),l[i]?=some c->vs[i]?=some v->fQ w iy c v
 | [],l,h=>by
  grind [Q4]
 |v::r,l,h=>by
  simp[Q4] at h;rw[du] at h;obtain⟨x,hx,h⟩:=h;rw[du] at h;obtain⟨l',hl,h⟩:=h;cases h;obtain⟨h1,h2⟩:=H3 hl;refine⟨jK,fun i c u hc hu=>?_⟩
  cases i with
  |zero =>
   simp at hc hu; subst hc; subst hu;unfold abM at hx
   split at hx<;>first
    |(cases hx; first|exact .bool _|exact .int _ _|exact .str _|exact .raw _ rfl)
    |grind
  |succ i=>exact h2 i c u jK jK
theorem qC:∀ {vs:List Value} {l:List ag},tf vs=some l->l.length=vs.length/\∀(i:Nat)(c:ag)(v:Value),l[i]?=some c->vs[i]?=some v->gj j M w c v
 | [],l,h=>by
  grind [tf]
 |v::r,l,h=>by
  simp[tf] at h;rw[du] at h;obtain⟨x,hx,h⟩:=h;rw[du] at h;obtain⟨l',hl,h⟩:=h;injection h with h; obtain⟨h1,h2⟩:=qC hl
  grind [H5]
theorem H4{v:Value}{x:ag}(h:Q5 v=some x):gj j M w x v:=by
 unfold Q5 at h;split at h
 ·rw[du] at h;obtain⟨l,hl,h⟩:=h;cases h;obtain⟨h1,h2⟩:=qC hl;exact .agg aH fun i c v hc hv=>h2 i c v hc jK
 grind [H5]
theorem cN{bp:Env}{a:Act}(he:cn j M w bp a){x:Operand}{y:fV}(h:eV x=some y):gj j M w (y.ev bp) (a.eval x):=by
 unfold eV at h;split at h
 ·cases h; exact he.at' _
 ·rw[du] at h;obtain⟨z,hz,h⟩:=h;cases h;exact H4 hz
 ·cases h;exact .func (by rfl) fun i c v hc=>dy
 ·rename_i g;rw[du] at h;obtain⟨vs,hg,h⟩:=h;rw[du] at h;obtain⟨l,hl,h⟩:=h;cases h;obtain⟨h1,h2⟩:=H3 (w:=w) (iy:=oo j M w) hl;refine .jE (vs:=fun k=>(vs[k]?).getD undef) fun k c hk=>?_
  have hk':=aN hk;have hv:vs[k]?=some _:=ai aH;obtain⟨h3,h4⟩:=he.gl.g g _ k _ hg hv
  grind
theorem uj{bp:Env}{a:Act}(he:cn j M w bp a):∀ {xs:List Operand} {ys:List fV},vo xs=some ys ->
  ys.length=xs.length/\∀(i:Nat)(y:fV)(x:Operand),ys[i]?=some y->xs[i]?=some x->gj j M w (y.ev bp) (a.eval x)
 | [],ys,h=>by
  grind [vo]
 |x::r,ys,h=>by
  simp[vo] at h;rw[du] at h;obtain⟨y,hy,h⟩:=h;rw[du] at h;obtain⟨l,hl,h⟩:=h;injection h with h; obtain⟨h1,h2⟩:=uj he hl
  grind [cN]
def gj.jD{b:Bool}{v:Value}(h:gj j M w (.bool b) v):v = .bool b:=by cases h with|plain h=>cases h; rfl
def gj.fT{k:IntKind}{n:Int}{v:Value}(h:gj j M w (.int k n) v):v = .int k n:=by cases h with|plain h=>cases h; rfl
def gj.kE{s:List UInt8}{v:Value}(h:gj j M w (.str s) v):v = .string (bs s):=by cases h with|plain h=>cases h; rfl
theorem gj.mZ{cs:List ag}{v:Value}(h:gj j M w (.agg cs) v):∃vs,v = .agg vs/\cs.length=vs.size/\∀(i:Nat)(c:ag)(u:Value),cs[i]?=some c->vs[i]?=some u->gj j M w c u:=by
 cases h with
 |plain h=>cases h
 |agg hl h=>grind
theorem gj.tK{cs:List ag}{v:Value}(h:gj j M w (.tuple cs) v):∃vs,v = .tuple vs/\cs.length=vs.size/\∀(i:Nat)(c:ag)(u:Value),cs[i]?=some c->vs[i]?=some u->gj j M w c u:=by
 cases h with
 |plain h=>cases h
 |tuple hl h=>grind
theorem gj.rz{f:Nat}{cs:List ag}{v:Value}(h:gj j M w (.func f cs) v):∃vs,v = .func (.func f) #[] vs/\cs.length=vs.size/\∀(i:Nat)(c:ag)(u:Value),cs[i]?=some c->vs[i]?=some u->gj j M w c u:=by
 cases h with
 |plain h=>cases h
 |func hl h=>grind
theorem gj.p9{id off:Nat}{v:Value}(h:gj j M w (.ptr id off) v):∃b,id<M.length/\(∃cs,M[id]?=some (.cells cs))/\j id=some b/\v = .pointer (some ⟨b,off,none⟩):=by
 cases h with
 |plain h=>cases h
 |ptr h1 h2 h3=>grind
theorem gj.vC{id:Nat}{v:Value}(h:gj j M w (.iw id) v):∃b,(∃ks vs,M[id]?=some (.map ks vs))/\j id=some b/\v = .map (some b):=by
 cases h with
 |plain h=>cases h
 |iw h1 h2=>grind
theorem gj.DV{id:Nat}{v:Value}(h:gj j M w (.j7 id) v):∃b,(∃s p,M[id]?=some (.nS s p))/\j id=some b/\v = .pointer (some ⟨b,0,none⟩):=by
 cases h with
 |plain h=>cases h
 |j7 h1 h2=>grind
theorem gj.Ht{f:Nat}{fs:List ag}{v:Value}(h:gj j M w (.qX f fs) v):∃vs:Array Value,v = .func (.func f) vs #[]/\fs.length=vs.size/\∀(i:Nat)(c:ag)(v:Value),fs[i]?=some c->vs[i]?=some v->CC w (oo j M w) c v:=by
 cases h with
 |plain h=>cases h
 |qX hl h=>grind
theorem gj.Ji{t id off:Nat}{v:Value}(h:gj j M w (.kx t id off) v):∃b:Nat,(∃cs,M[id]?=some (.cells cs))/\j id=some b/\v = .iface t (.pointer (some ⟨b,off,none⟩)):=by
 cases h with
 |plain h=>cases h
 |kx h1 h2=>grind
def gj.IW{ks vs:List ag}{v:Value}(h:gj j M w (.kj ks vs) v):∃(b:Nat) (es:Array MapEntry) (clock:Nat),v = .map (some b)/\w.heap[b]?=some (.map es clock)/\ks.length=es.size/\vs.length=es.size /\
  (∀(i:Nat)(k:ag)(e:MapEntry),ks[i]?=some k->es[i]?=some e->fQ w (oo j M w) k e.key)/\∀(i:Nat)(v:ag)(e:MapEntry),vs[i]?=some v->es[i]?=some e->CC w (oo j M w) v e.val:=by
 cases h with
 |plain h=>cases h
 |kj hb hf hx hw hk hv hks hvs=>exact⟨_,_,_,rfl,hw,hk,hv,hks,hvs⟩
def gj.ni{id ver sz lo hi:Nat}{v:Value}(h:gj j M w (.cv id ver sz lo hi) v):((∃b off c,v = .slice (some ⟨b,off,none⟩) (hi-lo) c/\hi-lo<=c)\/hi-lo=0/\∃A,v = .slice A 0 0)/\id<M.length/\(∀bx,M[id]?=some bx->bx.loose=true) /\
  ∀sz' v' xs,M[id]?=some (.arr sz' v' xs)->ver<=v'/\(v'=ver->sz'=sz/\lo<=hi/\hi<=xs.length/\((xs=[]/\j id=none/\∃A,v = .slice A 0 0)\/∃b cap vs t,j id=some b/\v = .slice (some ⟨b,lo*sz,none⟩) (hi-lo) cap/\hi-lo<=cap/\w.heap[b]?=some (.cells vs t (0,0))/\(lo+cap)*sz<=vs.size)):=by
 cases h with
 |plain h=>cases h
 |cv h0 h1 h2 h3=>exact⟨h0,h1,h2,h3⟩
theorem gj.zy{id ver sz lo hi:Nat}{v:Value}(h:gj j M w (.cv id ver sz lo hi) v):∃A cap,v = .slice A (hi-lo) cap:=by
 rcases h.ni.1 with ⟨b,off,c,e,_⟩|⟨e,A,e'⟩
 ·grind
 grind
def gj.Yl{id ver sz lo hi:Nat}{v:Value}(h:gj j M w (.cv id ver sz lo hi) v)(hne:lo<hi):∃b off c,v = .slice (some ⟨b,off,none⟩) (hi-lo) c/\hi-lo<=c :=
 h.ni.1.resolve_right fun e=>aH
def gj.sB{id ver i off:Nat}{v:Value}(h:gj j M w (.ju id ver i off) v):(∃b o,v = .pointer (some ⟨b,o,none⟩))/\id<M.length/\(∀bx,M[id]?=some bx->bx.loose=true) /\
  ∀sz v' xs,M[id]?=some (.arr sz v' xs)->ver<=v'/\(v'=ver->i<xs.length/\∃b,j id=some b/\v = .pointer (some ⟨b,i*sz+off,none⟩)):=by
 cases h with
 |plain h=>cases h
 |ju h0 h1 h2 h3=>exact⟨h0,h1,h2,h3⟩
def gj.uo{cs:List ag}{v:Value}(h:gj j M w (.jE cs) v):∃(b off:Nat) (vs:Nat->Value),v = .pointer (some ⟨b,off,none⟩) /\
  ∀(k:Nat)(c:ag),cs[k]?=some c->w.cell? ⟨b,off+k,none⟩=some (vs k)/\oo j M w b (off+k)/\fQ w (oo j M w) c (vs k):=by
 cases h with
 |plain h=>cases h
 | @jE _ b off vs h=>exact⟨b,off,vs,rfl,h⟩
def fQ.nil(iy:Nat->Nat->Prop)(A:Option Addr)(cap:Nat):fQ w iy (.slice .sh []) (.slice A 0 cap) :=
 .slice _ A 0 _ 0 0 0 (fun _=>undef) rfl (cL _) (fun h=>absurd rfl h) (fun x h=>jK) (fun i x k c h=>jK) (fun i x k c h=>jK)
def gj.ep{tk:Tk}{xs:List ag}{v:Value}(h:gj j M w (.slice tk xs) v):fQ w (oo j M w) (.slice .sh xs) v:=by
 cases h with
 |plain h=>cases h with|slice=>exact .slice _ _ _ _ _ _ _ _ aH aH aH aH aH aH
 |c0 A=>simp[fQ.nil]
 |own _ _ h _=>omega
def fQ.ep{iy:Nat->Nat->Prop}{xs:List ag}{v:Value}(h:fQ w iy (.slice .sh xs) v):∃(A:Option Addr) (cap b off sz:Nat) (vs:Nat->Value),v = .slice A xs.length cap/\xs.length<=cap/\(xs≠[]->A=some ⟨b,off,none⟩) /\
  (∀x,x∈xs->x.cells.length=sz)/\(∀(i:Nat)(x:ag)(k:Nat)(c:ag),xs[i]?=some x->x.cells[k]?=some c->w.cell? ⟨b,off+(i*sz+k),none⟩=some (vs (i*sz+k))/\iy b (off+(i*sz+k))) /\
  (∀(i:Nat)(x:ag)(k:Nat)(c:ag),xs[i]?=some x->x.cells[k]?=some c->fQ w iy c (vs (i*sz+k))):=by
 cases h with
 |slice _ A len cap b off sz vs hl hc ha hz hs hr=>subst hl; exact⟨A,cap,b,off,sz,vs,rfl,hc,ha,hz,hs,hr⟩
end
def rh(P:Program)(o:Oper)(a:Act)(w:World)(v:Value)(w':World):Prop :=
 (execOp a.eval o).run P w = .ok (.value v) w'\/((execOp a.eval o).run P w = .ok .skip w'/\v=undef)
theorem bf{α β:Type}{x:Option α}{f:α->Option β}{y:β}(h:x.bind f=some y):∃a,x=some a/\f a=some y:=by
 cases x<;>grind
section
variable {P:Program} {C:eP} {o:Oper} {bp:Env} {M:aC} {j:J} {w:World} {a:Act} {x:ag×aC}
def dY{t:TypeId}{d:TypeDesc}(h:P.underlying t=some d):(underlying t).run P w = .ok d w:=by simp[underlying,h]
def pU{t:TypeId}{i:TypeInfo}(h:P.info? t=some i):(typeInfo t).run P w = .ok i w:=by simp[typeInfo,h]
theorem EJ{t:TypeId}{n:Nat}(h:qB P t=some n):∃i,P.info? t=some i/\i.size=n:=by
 obtain⟨i,h1,h2⟩:=bf h
 grind
def jq{t:TypeId}{n:Nat}(h:qB P t=some n):(sizeOf t).run P w = .ok n w:=by
 obtain⟨i,h1,h2⟩:=EJ h;simp_all [sizeOf,pU]
def lJ{t:TypeId}{g:Bool}(h:CD P t=some g):(isAgg t).run P w = .ok g w:=by
 obtain⟨d,h1,h2⟩:=bf h;injection h2 with h2
 subst h2;simp[isAgg,dY h1];cases d<;>rfl
def lQ(b off n:Nat):(⟨b,off,none⟩:Addr).add n=⟨b,off+n,none⟩:=by
 simp[Addr.add]
def Ad(hr:Rel j M w)(he:cn j M w bp a){y:Operand}{z:fV}(hop:o.op = .move y\/o.op = .assign y)(hz:eV y=some z)(h:ef C bp M (.mv z)=some x) :
  ∃v w',rh P o a w v w'/\iR j M w x v w':=by
 cases h;exact⟨a.eval y,w,.inl (by rcases hop with hop|hop<;>simp[execOp,hop]),.still hr (cN he hz)⟩
theorem aa0(hr:Rel j M w)(he:cn j M w bp a){c p q:Operand}{c' p' q':fV}(hop:o.op = .pick c p q)(hc:eV c=some c')(hp:eV p=some p')(hq:eV q=some q')
  (h:ef C bp M (.pick c' p' q')=some x):∃v w',rh P o a w v w'/\iR j M w x v w':=by
 simp[ef] at h;have h1:=cN he hc;split at h
 ·rename_i t ht;rw[ht] at h1;have h1:=h1.jD;rcases lG h with ⟨rfl,h⟩|⟨rfl,h⟩<;>(cases h)
  ·exact⟨a.eval p,w,.inl (by simp_all [execOp,asBool]),.still hr (cN he hp)⟩
  ·exact⟨a.eval q,w,.inl (by simp_all [execOp,asBool]),.still hr (cN he hq)⟩
 grind
theorem aht(hr:Rel j M w)(he:cn j M w bp a){y:Operand}{z:fV}(hop:o.op = .nilCheck y)(hz:eV y=some z)(h:ef C bp M (.chk z)=some x) :
  ∃v w',rh P o a w v w'/\iR j M w x v w':=by
 simp[ef] at h;have h1:=cN he hz;split at h
 ·rename_i id off e;cases h;rw[e] at h1;obtain⟨b,_,_,_,hv⟩:=h1.p9;exact⟨_,w,.inl (by simp_all [execOp]),.still hr (hv▸h1)⟩
 ·rename_i cs e;cases h;rw[e] at h1;obtain⟨b,off,vs,hv,_⟩:=h1.uo;exact⟨_,w,.inl (by simp_all [execOp]),.still hr (hv▸h1)⟩
 ·rename_i f caps e;cases h;rw[e] at h1;obtain⟨vs,hv,_⟩:=h1.rz;exact⟨_,w,.inl (by simp_all [execOp]),.still hr (hv▸h1)⟩
 ·rename_i id v0 i off e;cases h;rw[e] at h1;obtain⟨⟨b,q,hv⟩,_⟩:=h1.sB;exact⟨_,w,.inl (by simp_all [execOp]),.still hr (hv▸h1)⟩
 grind
theorem ahv(hr:Rel j M w)(he:cn j M w bp a){y:Operand}{z:fV}{t:TypeId}(hop:o.op = .unOp .not t y)(hz:eV y=some z)(h:ef C bp M (.not z)=some x) :
  ∃v w',rh P o a w v w'/\iR j M w x v w':=by
 simp[ef] at h;have h1:=cN he hz;split at h
 ·rename_i b e;cases h;rw[e] at h1;exact⟨_,w,.inl (by simp[execOp,hop,h1.jD]; rfl),.still hr (.plain (.bool _))⟩
 grind
theorem ahu(hr:Rel j M w)(he:cn j M w bp a){y:Operand}{z:fV}{t:TypeId}(hop:o.op = .unOp .neg t y)(hz:eV y=some z)(h:ef C bp M (.neg z)=some x) :
  ∃v w',rh P o a w v w'/\iR j M w x v w':=by
 simp only[ef] at h;have h1:=cN he hz;split at h
 ·rename_i k n e;cases h;rw[e] at h1;exact⟨_,w,.inl (by simp only[execOp,hop,h1.fT]; rfl),.still hr (.plain (.int _ _))⟩
 grind
theorem aaS(hr:Rel j M w)(he:cn j M w bp a){y:Operand}{z:fV}{s d:TypeId}{k0 k:IntKind}(hop:o.op = .convert s d y)(hs:P.underlying s=some (.int k0))(hd:P.underlying d=some (.int k))
  (hz:eV y=some z) (h:ef C bp M (.conv k z)=some x):∃v w',rh P o a w v w'/\iR j M w x v w':=by
 simp[ef] at h;have h1:=cN he hz;split at h
 ·rename_i k1 n e;cases h;rw[e] at h1;refine⟨.int k _,w,.inl ?_,.still hr (.plain (.int _ _))⟩;simp[execOp,hop,convert,dY hs,dY hd,h1.fT,Conv.intToInt]
 grind
theorem aa2(hr:Rel j M w)(he:cn j M w bp a){y:Operand}{z:fV}{s d:TypeId}(hop:o.op = .convert s d y)(hs:P.underlying s=some .string)(hd:P.underlying d=some .string)
  (hz:eV y=some z) (h:ef C bp M (.same z)=some x):∃v w',rh P o a w v w'/\iR j M w x v w':=by
 simp[ef] at h;have h1:=cN he hz;split at h
 ·rename_i l e;cases h;rw[e] at h1;refine⟨.string _,w,.inl ?_,.still hr (.plain (.str _))⟩;simp[execOp,hop,convert,dY hs,dY hd,h1.kE]
 grind
theorem anC(hr:Rel j M w)(he:cn j M w bp a){f:Nat}{first caps:Array Operand}{zs:List fV}(hop:o.op = .makeFunc (.func f) first caps)(hf:first.isEmpty=true)(hz:vo caps.toList=some zs)
  (h:ef C bp M (.fn f zs)=some x):∃v w',rh P o a w v w'/\iR j M w x v w':=by
 cases h;obtain⟨h1,h2⟩:=uj he hz;have hf':first = #[]:=jK
 refine⟨.func _ _ (caps.map a.eval),w,.inl ?_,.still hr (.func jK fun i c v hc hv=>?_)⟩
 ·simp[execOp,hop,Instr.makeFunc,hf']
 grind
theorem L7(hr:Rel j M w)(he:cn j M w bp a){y:Operand}{z:fV}{i:Nat}(hop:o.op = .extract y i)(hz:eV y=some z)(h:ef C bp M (.extract z i)=some x) :
  ∃v w',rh P o a w v w'/\iR j M w x v w':=by
 simp[ef] at h;have h1:=cN he hz;split at h
 ·rename_i vs e;obtain⟨c,hc,h⟩:=bo h;cases h;rw[e] at h1;obtain⟨us,hv,hl,hu⟩:=h1.tK;rw[fc] at hc;have hi:=aN hc;have hui:us[i]?=some _:=bg aH;exact⟨_,w,.inl (by simp[execOp,hop,Instr.extract,hv,hui]),.still hr (hu i c _ hc hui)⟩
 grind
theorem aaV(hr:Rel j M w)(he:cn j M w bp a){c:Call}{y:Operand}{z:fV}{t:TypeId}(hop:o.op = .call c)(hb:c.callee = .builtin .len)(ha:c.args.toList=[y])
  (ht:c.argTypes[0]?=some t) (hs:P.underlying t=some .string) (hz:eV y=some z) (h:ef C bp M (.VD z)=some x):∃v w',rh P o a w v w'/\iR j M w x v w':=by
 simp only[ef] at h;have h1:=cN he hz;split at h
 ·rename_i l e;cases h;rw[e] at h1;have ha':c.args = #[y]:=by rw[<-ha]
  refine⟨.int .i64 _,w,.inl ?_,.still hr (.plain (.int _ _))⟩;have hsz:(bs l).size=l.length:=by rfl
  simp[execOp,hop,resolve,hb,invoke,builtin,Builtin.len_,ha',ht,dY hs,h1.kE,goInt,hsz]
 grind
theorem aaW(hr:Rel j M w)(he:cn j M w bp a){c:Call}{y:Operand}{z:fV}{t e:TypeId}(hop:o.op = .call c)(hb:c.callee = .builtin .len)(ha:c.args.toList=[y])
  (ht:c.argTypes[0]?=some t) (hs:P.underlying t=some (.slice e)) (hz:eV y=some z) (h:ef C bp M (.zZ z)=some x):∃v w',rh P o a w v w'/\iR j M w x v w':=by
 simp only[ef] at h;have h1:=cN he hz;split at h
 ·rename_i tk l e;cases h;rw[e] at h1;have ha':c.args = #[y]:=by rw[<-ha]
  obtain⟨A,cap,b,off,sz,vs,hv,_⟩:=h1.ep.ep;refine⟨.int .i64 l.length,w,.inl ?_,.still hr (.plain (.int _ _))⟩;simp[execOp,hop,resolve,hb,invoke,builtin,Builtin.len_,ha',ht,dY hs,hv,goInt]
 ·rename_i id v0 sz lo hi e;cases h;rw[e] at h1;have ha':c.args = #[y]:=by rw[<-ha]
  obtain⟨A,cap,hv⟩:=h1.zy;refine⟨.int .i64 (hi-lo:Nat),w,.inl ?_,.still hr (.plain (.int _ _))⟩;simp[execOp,hop,resolve,hb,invoke,builtin,Builtin.len_,ha',ht,dY hs,hv,goInt]
 grind
theorem Gj(hr:Rel j M w)(he:cn j M w bp a){c:Call}{y y':Operand}{z z':fV}{mx:Bool}(hop:o.op = .call c)(hb:c.callee = .builtin (if mx then .max else .min))(ha:c.args.toList=[y,y'])
  (hz:eV y=some z) (hz':eV y'=some z') (h:ef C bp M (.Bo mx z z')=some x):∃v w',rh P o a w v w'/\iR j M w x v w':=by
 simp only[ef] at h;have h1:=cN he hz;have h2:=cN he hz';split at h
 ·rename_i k n k' n' e e';cases h;rw[e] at h1;rw[e'] at h2;have ha':c.args = #[y,y']:=by rw[<-ha]
  refine⟨_,w,.inl ?_,.still hr (.plain (.int _ _))⟩;cases mx
  ·simp[execOp,hop,resolve,hb,invoke,builtin,Builtin.min_,Builtin.min2,ha',h1.fT,h2.fT,List.foldlM]
  ·simp[execOp,hop,resolve,hb,invoke,builtin,Builtin.max_,Builtin.max2,ha',h1.fT,h2.fT]
 grind
theorem P0(hr:Rel j M w)(he:cn j M w bp a){y i:Operand}{z z':fV}{t:TypeId}(hop:o.op = .index t y i)(ht:P.underlying t=some .string)(hz:eV y=some z)(hz':eV i=some z')
  (h:ef C bp M (.Bc z z')=some x):∃v w',rh P o a w v w'/\iR j M w x v w':=by
 simp only[ef] at h;have h1:=cN he hz;have h2:=cN he hz';split at h
 ·rename_i l k n e e';obtain⟨hn,h⟩:=da h;obtain⟨b,hb,h⟩:=bo h;cases h;rw[e] at h1;rw[e'] at h2;refine⟨.int .u8 b.toNat,w,.inl ?_,.still hr (.plain (.int _ _))⟩
  have hg:(bs l)[n.toNat]?=some b:=by
   have cG:=aN hb;have:n.toNat<(bs l).size:=by simp_all [bs,ByteArray.size]
   rw[getElem?_pos (bs l) n.toNat this];congr 1
   have h3:l[n.toNat]=b:=by
    have:=ai cG
    grind
   exact h3
  simp[execOp,hop,Instr.index,asIntOf,dY ht,h1.kE,h2.fT,hn,hg]
 ·cases h
theorem PX(hr:Rel j M w)(he:cn j M w bp a){y:Operand}{z:fV}{s:TypeId}{fs:Array Field}{f:Field}{i:Nat}(hop:o.op = .field s y i)(hs:P.underlying s=some (.struct fs))(hf:fs[i]?=some f)
  (hg:CD P f.type=some false) (hz:eV y=some z) (h:ef C bp M (.DB f.offset z)=some x):∃v w',rh P o a w v w'/\iR j M w x v w':=by
 simp[ef] at h;have h1:=cN he hz;split at h
 ·rename_i cs e;obtain⟨c,hc,h⟩:=bo h;cases h;rw[e] at h1;obtain⟨us,hv,hl,hu⟩:=h1.mZ;rw[fc] at hc;have hi:=aN hc;have hui:us[f.offset]?=some _:=bg aH;refine⟨_,w,.inl ?_,.still hr (hu _ c _ hc hui)⟩;simp[execOp,hop,Instr.field,dY hs,hf,asAgg,hv,part,lJ hg,hui]
 grind
theorem PY(hr:Rel j M w)(he:cn j M w bp a){y:Operand}{z:fV}{s:TypeId}{fs:Array Field}{f:Field}{i n:Nat}(hop:o.op = .field s y i)(hs:P.underlying s=some (.struct fs))(hf:fs[i]?=some f)
  (hg:CD P f.type=some true) (hn:qB P f.type=some n) (hz:eV y=some z) (h:ef C bp M (.DC f.offset n z)=some x):∃v w',rh P o a w v w'/\iR j M w x v w':=by
 simp only[ef] at h;have h1:=cN he hz;split at h
 ·rename_i cs e;split at h
  ·cases h;rw[e] at h1;obtain⟨us,hv,hl,hu⟩:=h1.mZ;refine⟨.agg (us.extract f.offset (f.offset+n)),w,.inl ?_,.still hr (.agg jK fun p c u hc hu'=>?_)⟩
   ·simp[execOp,hop,Instr.field,dY hs,hf,asAgg,hv,part,lJ hg,jq hn]
   grind
  ·cases h
 ·cases h
theorem Ws(hr:Rel j M w)(he:cn j M w bp a){y:Operand}{z:fV}{s:TypeId}{fs:Array Field}{f:Field}{i:Nat}(hop:o.op = .fieldAddr s y i)(hs:P.underlying s=some (.struct fs))(hf:fs[i]?=some f)
  {n:Nat} (hn:qB P f.type=some n) (hpos:0<n) (hz:eV y=some z) (h:ef C bp M (.yx f.offset z)=some x):∃v w',rh P o a w v w'/\iR j M w x v w':=by
 simp only[ef] at h;have h1:=cN he hz
 have hrun:∀b off,a.eval y = .pointer (some ⟨b,off,none⟩)->(execOp a.eval o).run P w = .ok (.value (.pointer (some ⟨b,off+f.offset,none⟩))) w:=by
  intro b off hv;have hne:n≠0:=aH;simp[execOp,hop,Instr.fieldAt,dY hs,hf,Instr.sureAddr,hv,fieldPlace,jq hn,hne,lQ]
 split at h
 ·rename_i id off e;cases h;rw[e] at h1;obtain⟨b,h2,h3,h4,hv⟩:=h1.p9;exact⟨_,w,.inl (hrun _ _ hv),.still hr (.ptr h2 h3 h4)⟩
 ·rename_i cs e;cases h;rw[e] at h1;obtain⟨b,off,vs,hv,hc⟩:=h1.uo;refine⟨_,w,.inl (hrun _ _ hv),.still hr (.jE (vs:=fun k=>vs (f.offset+k)) fun k c hk=>?_)⟩
  rw[cH] at hk;have:=hc _ c hk;rw[Nat.add_assoc];omega
 ·rename_i id v0 i0 o0 e;cases h;rw[e] at h1;obtain⟨⟨b,q,hv⟩,h2,h3,h4⟩:=h1.sB;refine⟨_,w,.inl (hrun _ _ hv),.still hr (.ju ⟨_,_,rfl⟩ h2 h3 fun sz v' xs hM=>?_)⟩
  grind
 grind
end
theorem YB(l:List UInt8):∀(n i:Nat)(acc:List UInt8),i+n=l.length->ByteArray.toList.loop (bs l) i acc=acc.reverse++l.drop i:=by
 intro n;induction n with
 |zero =>
  simp_all [bs,ByteArray.size,ByteArray.toList.loop]
 |succ n ih =>
  intro i acc h;have hs:(bs l).size=l.length:=by rfl
  rw[ByteArray.toList.loop,aZ aH]
  grind [bs,ByteArray.get!,List.reverse_cons,List.append_assoc,List.singleton_append,List.drop_eq_getElem_cons]
def vn(l:List UInt8):(bs l).toList=l:=by
 rw[ByteArray.toList,YB l l.length 0 _ dy]; rfl
def MD(l:List UInt8):(bs l).size=l.length:=by rfl
def Ka:∀a b:List UInt8,Op.bytesLess a b=strLt a b
 | [],[]=>rfl
 | [],_::_=>rfl
 |_::_,[]=>rfl
 |a::x,b::y=>by simp[Op.bytesLess,strLt,Ka x y]
def yP(a:List UInt8)(l h:Nat):(bs a).extract l h=bs ((a.take h).drop l):=by
 apply ByteArray.ext;simp[bs,List.drop_take]
section
variable {P:Program} {C:eP} {o:Oper} {bp:Env} {M:aC} {j:J} {w:World} {a:Act} {x:ag×aC}
def Pp(op:BinOp)(t:TypeId)(y z:Operand)(k k':IntKind)(m n:Int):(eqGuard op t y z (.int k m) (.int k' n)).run P w = .ok () w:=by
 simp[eqGuard]
def Pq(op:BinOp)(t:TypeId)(y z:Operand)(m n:ByteArray):(eqGuard op t y z (.string m) (.string n)).run P w = .ok () w:=by
 simp[eqGuard]
def DP(op:BinOp)(t:TypeId)(y z:Operand)(m n:Bool):(eqGuard op t y z (.bool m) (.bool n)).run P w = .ok () w:=by
 simp[eqGuard]
theorem Yx{op:BinOp}{b:Od}(hb:ON op=some b){t:TypeId}{k k':IntKind}{m n:Int}{r:ag}(h:pY b (.int k m) (.int k' n)=some r) :
  ∃v,(binOp op t (.int k m) (.int k' n)).run P w = .ok v w/\fQ w (oo j M w) r v:=by
 cases op<;>simp only[ON,reduceCtorEq,fY] at hb<;>subst hb<;>simp only[pY] at h
 case shl =>
  split at h
  ·rename_i hn;cases h;exact⟨_,by simp[binOp,Op.shift,Int.not_lt.2 hn],.int _ _⟩
  ·cases h
 case shr =>
  split at h
  ·rename_i hn;cases h;exact⟨_,by simp[binOp,Op.shift,Int.not_lt.2 hn],.int _ _⟩
  grind
 case quo =>
  split at h
  ·cases h
  ·rename_i hk;split at h
   ·cases h
   ·rename_i hn;cases h;have hk:k=k':=jK;subst hk;exact⟨_,by simp[binOp,Op.intDiv,hn],.int _ _⟩
 case rem =>
  split at h
  ·cases h
  ·rename_i hk;split at h
   ·cases h
   ·rename_i hn;cases h;have hk:k=k':=jK;subst hk;exact⟨_,by simp[binOp,Op.intDiv,hn],.int _ _⟩
 case and =>
  split at h
  ·cases h
  ·rename_i hk;cases h;have hk:k=k':=jK;subst hk;exact⟨_,by simp[binOp,Op.intBits]; rfl,.int _ _⟩
 case or =>
  split at h
  ·grind
  ·rename_i hk;cases h;have hk:k=k':=jK;subst hk;exact⟨_,by simp[binOp,Op.intBits]; rfl,.int _ _⟩
 case andNot =>
  split at h
  ·grind
  ·rename_i hk;cases h;have hk:k=k':=jK;subst hk;exact⟨.int k (Hi k m n),by simp[binOp,Op.intBits,Hi],.int _ _⟩
 all_goals
  split at h
  ·cases h
  ·rename_i hk;cases h;have hk:k=k':=by simpa using hk
   subst hk
   first
    |exact⟨_,by simp[binOp,Op.intArith],.int _ _⟩
    |exact⟨_,by simp[binOp,Op.intCmp],.bool _⟩
theorem Yy{op:BinOp}{b:Od}(hb:ON op=some b){t:TypeId}{m n:List UInt8}{r:ag}(h:pY b (.str m) (.str n)=some r) :
  ∃v,(binOp op t (.string (bs m)) (.string (bs n))).run P w = .ok v w/\fQ w (oo j M w) r v:=by
 cases op<;>simp only[ON,reduceCtorEq,fY] at hb<;>subst hb<;>simp only[pY,reduceCtorEq] at h
 case add =>
  split at h
  ·grind
  ·cases h;refine⟨.string (bs m++bs n),?_,by exact .str _⟩
   simp_all [binOp,Op.stringOp,MD,aR]
 all_goals
  cases h;exact⟨_,by simp only[binOp,Op.stringOp,vn,Ka]; rfl,.bool _⟩
def Wl(hr:Rel j M w)(he:cn j M w bp a){op:BinOp}{b:Od}{y y':Operand}{z z':fV}{t t':TypeId}(hop:o.op = .binOp op t y y' t')(hb:ON op=some b)(hz:eV y=some z)(hz':eV y'=some z')
  (h:ef C bp M (.bin b z z')=some x):∃v w',rh P o a w v w'/\iR j M w x v w':=by
 simp only[ef] at h;have h1:=cN he hz;have h2:=cN he hz';obtain⟨r,hr',h⟩:=bo h;cases h;generalize hu:z.ev bp=u at *;generalize hu':z'.ev bp=u' at *;cases u<;>cases u'<;>try (simp[pY] at hr'; done)
 ·rename_i k m k' n;obtain⟨v,hv,hp⟩:=Yx (P:=P) (w:=w) (j:=j) (M:=M) (t:=t) hb hr';exact⟨v,w,.inl (by simp[execOp,hop,h1.fT,h2.fT,Pp,hv]),.still hr (.plain hp)⟩
 ·rename_i m n;obtain⟨v,hv,hp⟩:=Yy (P:=P) (w:=w) (j:=j) (M:=M) (t:=t) hb hr';exact⟨v,w,.inl (by simp[execOp,hop,h1.kE,h2.kE,Pq,hv]),.still hr (.plain hp)⟩
theorem Wr(hr:Rel j M w)(he:cn j M w bp a){neg:Bool}{y y':Operand}{z z':fV}{t t':TypeId}(hop:o.op = .binOp (if neg then .neq else .eql) t y y' t')(ht:P.underlying t=some .bool)
  (hz:eV y=some z) (hz':eV y'=some z') (h:ef C bp M (.eqB neg z z')=some x):∃v w',rh P o a w v w'/\iR j M w x v w':=by
 simp only[ef] at h;have h1:=cN he hz;have h2:=cN he hz';split at h
 ·rename_i m n e e';cases h;rw[e] at h1;rw[e'] at h2
  have heq:(Op.equal t (.bool m) (.bool n)).run P w = .ok (m==n) w:=by
   unfold Op.equal;rw[show Op.maxDepth=9999+1 from rfl,Op.equalIn]
   simp[dY ht]
  cases neg
  ·exact⟨.bool (m==n),w,.inl (by simp[execOp,hop,h1.jD,h2.jD,DP,binOp,heq]),.still hr (.plain (.bool _))⟩
  ·exact⟨.bool (!(m==n)),w,.inl (by simp[execOp,hop,h1.jD,h2.jD,DP,binOp,heq]),.still hr (.plain (.bool _))⟩
 grind
theorem qT{bp:Env}{a:Act}(he:cn j M w bp a){y:Operand}{z:fV}(hz:eV y=some z){n:Nat}{i:Int}(h:gw bp n (some z)=some i){m:Nat}(h0:0<=i)(h1:i<=m)(code:BoundsCode) :
  (Instr.sliceBound (a.eval y) m code).run P w = .ok i.toNat w:=by
 unfold gw at h;have h2:=cN he hz;simp at h;split at h
 ·rename_i k i' e;cases h;rw[e] at h2;simp[Instr.sliceBound,h2.fT,asIntOf,h0,h1]
 grind
theorem qE{y:Option Operand}{z:Option fV}(h:yQ y=some z):(y=none/\z=none)\/∃y' z',y=some y'/\z=some z'/\eV y'=some z':=by
 cases y with
 |none=>grind [yQ]
 |some y =>
  obtain⟨z',h1,h2⟩:=bf h
  grind
def vV{bp:Env}{a:Act}(he:cn j M w bp a){lo hi:Option Operand}{lo' hi':Option fV}(hlo:yQ lo=some lo')(hhi:yQ hi=some hi'){len cap:Nat}{l h:Int}
  (h1:gw bp len hi'=some h) (h2:gw bp 0 lo'=some l) (hh0:0<=h) (hh:h<=len) (hl0:0<=l) (hl:l<=h) (hc:len<=cap) (isS:Bool) :
  (Instr.sliceBounds isS len cap (lo.map a.eval) (hi.map a.eval) none).run P w = .ok (l.toNat,h.toNat,cap) w:=by
 unfold Instr.sliceBounds;rcases qE hhi with ⟨rfl,rfl⟩|⟨y,z,rfl,rfl,hz⟩<;>rcases qE hlo with ⟨rfl,rfl⟩|⟨y',z',rfl,rfl,hz'⟩
 ·simp[gw] at h1 h2; subst h1; subst h2; rfl
 ·simp[gw] at h1; subst h1;have:=qT (P:=P) he hz' h2 hl0 aH .sliceB;simp_all
 ·simp[gw] at h2; subst h2;have:=qT (P:=P) he hz h1 hh0 (m:=cap) aH (if isS then .sliceAcap else .sliceAlen)
  simp_all
 ·have t1:=qT (P:=P) he hz h1 hh0 (m:=cap) aH (if isS then .sliceAcap else .sliceAlen)
  have t2:=qT (P:=P) he hz' h2 hl0 (m:=h.toNat) aH .sliceB;simp_all
theorem P1(hr:Rel j M w)(he:cn j M w bp a){y:Operand}{lo hi:Option Operand}{z:fV}{lo' hi':Option fV}{t:TypeId}(hop:o.op = .slice t y lo hi none)(ht:P.underlying t=some .string)
  (hz:eV y=some z) (hlo:yQ lo=some lo') (hhi:yQ hi=some hi') (h:ef C bp M (.BC z lo' hi')=some x):∃v w',rh P o a w v w'/\iR j M w x v w':=by
 simp[ef] at h;have h1:=cN he hz;split at h
 ·rename_i s e;obtain⟨hh,h2,h⟩:=bo h;obtain⟨l,h3,h⟩:=bo h;obtain⟨⟨c1,c2,c3,c4⟩,h⟩:=da h;cases h;rw[e] at h1;have hb:=vV (P:=P) he hlo hhi h2 h3 c1 c2 c3 c4 (au _) false;refine⟨.string _,w,.inl ?_,.still hr (.plain (.str _))⟩;simp[execOp,hop,Instr.sliceAt,dY ht,Instr.slice,h1.kE,MD,hb,yP]
 grind
theorem fQ.part{iy:Nat->Nat->Prop}{xs:List ag}{A:Option Addr}{cap m l h n:Nat}(hx:fQ w iy (.slice .sh xs) (.slice A xs.length cap))(hw:wid xs n)(hl:l<=h)(hh:h<=xs.length)(hm:h<=m) :
  fQ w iy (.slice .sh ((xs.take h).drop l)) (.slice (if m=l then A else A.map (·.add (l*n))) (h-l) (m-l)):=by
 obtain⟨A',cap',b,off,sz,vs,hv,hc,ha,hz,hs,hrp⟩:=hx.ep;injection hv with e1 e2 e3
 subst e1; subst e3;have dJ:((xs.take h).drop l).length=h-l:=by simp_all
 refine .slice _ _ _ _ b (off+l*sz) sz (fun p=>vs (l*sz+p)) dJ.symm aH (fun hne=>?_) (fun x hx=>hz x (dK (dr hx))) (fun i x k c hi hk=>?_) (fun i x k c hi hk=>?_)
 ·have:0<h-l:=by
   rw[<-dJ]; exact gM.2 hne
  rw[aR aH];have hne':xs≠[]:=jK;rw[ha hne']
  have:n=sz:=by
   obtain⟨x,r,rfl⟩:=fj hne';rw[<-hw x dy,hz x dy]
  simp[lQ,this]
 ·grind
 grind
theorem aaT(hr:Rel j M w)(he:cn j M w bp a){y:Operand}{lo hi mx:Option Operand}{z hi':fV}{t e:TypeId}{n:Nat}(hop:o.op = .slice t y lo hi mx)(ht:P.underlying t=some (.slice e))
  (hn:qB P e=some n) (hz:eV y=some z) (hlo:yQ lo=some none) (hhi:yQ hi=some (some hi')) (hmx:yQ mx=some none)
  (h:ef C bp M (.O1 n z hi')=some x):∃v w',rh P o a w v w'/\iR j M w x v w':=by
 simp only[ef] at h;have h1:=cN he hz;split at h
 ·rename_i id v0 sz' al ah k hh ez eh;obtain⟨⟨hsz,ha,c1,c2⟩,h⟩:=da h;cases h;subst hsz; subst ha;rw[ez] at h1;obtain⟨hs0,g1,g2,g3⟩:=h1.ni
  obtain⟨A,cap,hv,hc,hA⟩:∃A cap,a.eval y = .slice A (ah-0) cap/\ah-0<=cap/\(0<ah-0->∃b off,A=some ⟨b,off,none⟩):=by
   grind
  obtain⟨b,off,rfl⟩:=hA aH;rcases qE hmx with ⟨rfl,_⟩|⟨_,_,_,hx,_⟩
  case inr=>cases hx
  have h2:gw bp (ah-0) (some hi')=some hh:=by simp[gw,eh]
  have hb:=vV (P:=P) he hlo hhi (cap:=cap) h2 (l:=0) (by simp[gw]) c1 aH (dL _) c1 hc true
  rw[bO] at hb
  have hrun:(execOp a.eval o).run P w = .ok (.value (.slice (some ⟨b,off,none⟩) hh.toNat cap)) w:=by
   simp[execOp,hop,Instr.sliceAt,dY ht,Instr.slice,hv,hb,jq hn,lQ,show cap≠0 by omega]
  refine⟨_,w,.inl hrun,.still hr ?_⟩;refine .cv (.inl ⟨b,off,cap,dy,aH⟩) g1 g2 fun sz v' xs hM=>?_
  obtain⟨k1,k2⟩:=g3 sz v' xs hM;refine⟨k1,fun hev=>?_⟩
  obtain⟨l0,l1,l2,⟨rfl,_⟩|⟨b',cap',vs,t',l3,l4,l5,l6,l7⟩⟩:=k2 hev
  ·simp at l2; omega
  rw[hv] at l4;injection l4 with l4 l4' l4''
  injection l4 with l4; injection l4 with e1 e2 e3
  subst e1; subst e2; subst l4'';exact⟨l0,aH,aH,.inr ⟨b,cap,vs,t',l3,dy,aH,l6,l7⟩⟩
 ·cases h
theorem Gk(hr:Rel j M w)(he:cn j M w bp a){y:Operand}{lo hi mx:Option Operand}{z:fV}{lo' hi' mx':Option fV}{t e:TypeId}{n:Nat}(hop:o.op = .slice t y lo hi mx)(ht:P.underlying t=some (.slice e))
  (hn:qB P e=some n) (hz:eV y=some z) (hlo:yQ lo=some lo') (hhi:yQ hi=some hi') (hmx:yQ mx=some mx') (hmh:mx'.isNone=true\/hi'.isSome=true)
  (h:ef C bp M (.uq n z lo' hi' mx')=some x):∃v w',rh P o a w v w'/\iR j M w x v w':=by
 simp only[ef] at h;have h1:=cN he hz;split at h
 ·rename_i tk xs ez;obtain⟨hw,h⟩:=da h;obtain⟨hh,h2,h⟩:=bo h;obtain⟨l,h3,h⟩:=bo h;rw[ez] at h1;have hp:=h1.ep;obtain⟨A,cap,b,off,sz,vs,hv,hc,_⟩:=hp.ep;rw[hv] at hp;rcases qE hmx with ⟨rfl,rfl⟩|⟨my,mz,rfl,rfl,hmz⟩
  ·simp only at h;obtain⟨⟨c1,c2,c3,c4⟩,h⟩:=da h;cases h;have hb:=vV (P:=P) he hlo hhi (cap:=cap) h2 h3 c1 c2 c3 c4 hc true;refine⟨_,w,.inl ?_,.still hr (.plain (hp.part (m:=cap) (l:=l.toNat) (h:=hh.toNat) hw aH aH aH))⟩;simp[execOp,hop,Instr.sliceAt,dY ht,Instr.slice,hv,hb,jq hn]
  ·simp only at h;split at h
   ·rename_i mk m em;obtain⟨⟨c0,c0',c1,c2,c3,c4⟩,h⟩:=da h;have hm:=cN he hmz;rw[em] at hm
    have hmr:(Instr.sliceBound (a.eval my) cap .slice3Acap).run P w = .ok m.toNat w:=by
     simp[Instr.sliceBound,hm.fT,asIntOf,c0,show m<=cap by omega]
    have hbs:(Instr.sliceBounds true xs.length cap (lo.map a.eval) (hi.map a.eval) (some (a.eval my))).run P w = .ok (l.toNat,hh.toNat,m.toNat) w:=by
     unfold Instr.sliceBounds;rcases qE hhi with ⟨rfl,rfl⟩|⟨hy,hz',rfl,rfl,hhz⟩
     ·simp at hmh
     ·have t1:=qT (P:=P) he hhz h2 c1 (m:=m.toNat) aH .slice3B;rcases qE hlo with ⟨rfl,rfl⟩|⟨y',z',rfl,rfl,hz'⟩
      ·simp[gw] at h3; subst h3;simp[hmr,t1]
      ·have t2:=qT (P:=P) he hz' h3 c3 (m:=hh.toNat) aH .slice3C;simp[hmr,t1,t2]
    have hrun:(execOp a.eval o).run P w = .ok (.value (.slice (if m.toNat=l.toNat then A else A.map (·.add (l.toNat*n))) (hh.toNat-l.toNat) (m.toNat-l.toNat))) w:=by
     simp[execOp,hop,Instr.sliceAt,dY ht,Instr.slice,hv,hbs,jq hn]
    rcases lG h with ⟨hm0,h⟩|⟨hm0,h⟩<;>(cases h)
    ·have hm0:m=0:=by simpa using hm0
     subst hm0;have e1:hh=0:=aH;have e2:l=0:=aH;subst e1; subst e2;exact⟨_,w,.inl hrun,.still hr (.c0 _)⟩
    ·exact⟨_,w,.inl hrun,.still hr (.plain (hp.part (m:=m.toNat) hw aH aH aH))⟩
   ·cases h
 ·rename_i id v0 sz' al ah ez;obtain⟨hsz,h⟩:=da h;subst hsz;obtain⟨hh,h2,h⟩:=bo h;obtain⟨l,h3,h⟩:=bo h;rw[ez] at h1;obtain⟨hs0,g1,g2,g3⟩:=h1.ni
  obtain⟨A,cap,hv,hc,hA⟩:∃A cap,a.eval y = .slice A (ah-al) cap/\ah-al<=cap/\(0<ah-al->∃b off,A=some ⟨b,off,none⟩):=by
   grind
  have key:∀m:Nat,m<=cap->0<=l->l<hh->hh<=m->hh<=(ah-al:Nat)->gj j M w (.cv id v0 sz' (al+l.toNat) (al+hh.toNat)) (.slice (A.map (·.add (l.toNat*sz'))) (hh.toNat-l.toNat) (m-l.toNat)):=by
   intro m hmc hl0 hlh hhm hha;obtain⟨b,off,rfl⟩:=hA aH;simp only[eo,lQ];have e0:al+hh.toNat-(al+l.toNat)=hh.toNat-l.toNat:=aH;have e6:hh.toNat-l.toNat<=m-l.toNat:=by clear g3 g2 h1 hv; omega
   have e7:al+l.toNat+(m-l.toNat)<=al+cap:=aH;have e8:al+l.toNat<=al+hh.toNat:=aH;have e9:al+hh.toNat<=ah:=by clear g3 g2 h1 hv; omega
   refine .cv (.inl ⟨b,off+l.toNat*sz',m-l.toNat,by rw[e0],by rw[e0]; exact e6⟩) g1 g2 fun sz v' xs hM=>?_
   obtain⟨k1,k2⟩:=g3 sz v' xs hM;refine⟨k1,fun hev=>?_⟩
   obtain⟨l0,l1,l2,⟨rfl,_⟩|⟨b',cap',vs,t',l3,l4,l5,l6,l7⟩⟩:=k2 hev
   ·simp at l2; omega
   rw[hv] at l4;injection l4 with l4 l4' l4''
   injection l4 with l4; injection l4 with e1 e2 e3
   subst e1; subst e2; subst l4'';exact⟨l0,e8,aY e9 l2,.inr ⟨b,m-l.toNat,vs,t',l3,by rw[e0,bP],by rw[e0]; exact e6,l6,aY (bd _ e7) l7⟩⟩
  rcases qE hmx with ⟨rfl,rfl⟩|⟨my,mz,rfl,rfl,hmz⟩
  ·simp only at h;obtain⟨⟨c1,c2,c3,c4⟩,h⟩:=da h;have hb:=vV (P:=P) he hlo hhi (cap:=cap) h2 h3 c1 c2 c3 c4 hc true
   have hrun:(execOp a.eval o).run P w = .ok (.value (.slice (if cap=l.toNat then A else A.map (·.add (l.toNat*sz'))) (hh.toNat-l.toNat) (cap-l.toNat))) w:=by
    simp[execOp,hop,Instr.sliceAt,dY ht,Instr.slice,hv,hb,jq hn]
   rcases lG h with ⟨hm0,h⟩|⟨hm0,h⟩<;>(cases h)
   ·have:l=hh:=by simpa using hm0
    subst this;refine⟨_,w,.inl hrun,.still hr (.plain ?_)⟩;rw[Nat.sub_self];exact fQ.nil _ _ _
   ·have:l≠hh:=by simpa using hm0
    rw[aR aH] at hrun;exact⟨_,w,.inl hrun,.still hr (key cap (au _) c3 aH aH c2)⟩
  ·simp only at h;split at h
   ·rename_i mk m em;obtain⟨⟨c0,c0',c1,c2,c3,c4⟩,h⟩:=da h;have hm:=cN he hmz;rw[em] at hm
    have hmr:(Instr.sliceBound (a.eval my) cap .slice3Acap).run P w = .ok m.toNat w:=by
     simp[Instr.sliceBound,hm.fT,asIntOf,c0,show m<=cap by omega]
    have hbs:(Instr.sliceBounds true (ah-al) cap (lo.map a.eval) (hi.map a.eval) (some (a.eval my))).run P w = .ok (l.toNat,hh.toNat,m.toNat) w:=by
     unfold Instr.sliceBounds;rcases qE hhi with ⟨rfl,rfl⟩|⟨hy,hz',rfl,rfl,hhz⟩
     ·simp at hmh
     ·have t1:=qT (P:=P) he hhz h2 c1 (m:=m.toNat) aH .slice3B;rcases qE hlo with ⟨rfl,rfl⟩|⟨y',z',rfl,rfl,hz'⟩
      ·simp[gw] at h3; subst h3;simp[hmr,t1]
      ·have t2:=qT (P:=P) he hz' h3 c3 (m:=hh.toNat) aH .slice3C;simp[hmr,t1,t2]
    have hrun:(execOp a.eval o).run P w = .ok (.value (.slice (if m.toNat=l.toNat then A else A.map (·.add (l.toNat*sz'))) (hh.toNat-l.toNat) (m.toNat-l.toNat))) w:=by
     simp[execOp,hop,Instr.sliceAt,dY ht,Instr.slice,hv,hbs,jq hn]
    rcases lG h with ⟨hm0,h⟩|⟨hm0,h⟩
    ·cases h;have hm0:m=0:=by simpa using hm0
     subst hm0;have e1:hh=0:=aH;have e2:l=0:=aH;subst e1; subst e2;exact⟨_,w,.inl hrun,.still hr (.c0 _)⟩
    ·rcases lG h with ⟨hm1,h⟩|⟨hm1,h⟩<;>(cases h)
     ·have:l=hh:=by simpa using hm1
      subst this;refine⟨_,w,.inl hrun,.still hr (.plain ?_)⟩;rw[Nat.sub_self];exact fQ.nil _ _ _
     ·have:l≠hh:=by simpa using hm1
      rw[aR aH] at hrun;exact⟨_,w,.inl hrun,.still hr (key m.toNat aH c3 aH aH aH)⟩
   ·cases h
 ·cases h
theorem Wt(hr:Rel j M w)(he:cn j M w bp a){y i:Operand}{z z':fV}{t e:TypeId}{n:Nat}(hop:o.op = .indexAddr t y i)(ht:P.underlying t=some (.slice e))(hn:qB P e=some n)
  (hz:eV y=some z) (hz':eV i=some z') (h:ef C bp M (.ub n z z')=some x):∃v w',rh P o a w v w'/\iR j M w x v w':=by
 simp only[ef] at h;have h1:=cN he hz;have h2:=cN he hz';split at h
 ·rename_i tk xs k m ez ez';obtain⟨h0,h⟩:=da h;obtain⟨el,hel,h⟩:=bo h;split at h
  ·rename_i hwd;cases h;rw[ez] at h1;rw[ez'] at h2;obtain⟨A,cap,b,off,sz,vs,hv,hc,ha,hsz,hs,hrp⟩:=h1.ep.ep;have cG:=aN hel;have hne:xs≠[]:=by rintro rfl; simp at cG
   have hA:=ha hne;have hsz':sz=n:=by rw[<-hwd]; exact(hsz el (aK hel)).symm
   subst hsz';subst hA;refine⟨.pointer (some ⟨b,off+m.toNat*sz,none⟩),w,.inl ?_,.still hr (.jE (vs:=fun q=>vs (m.toNat*sz+q)) fun q c hq=>?_)⟩
   ·have hm:m<xs.length:=aH;simp[execOp,hop,Instr.indexAt,dY ht,hv,h2.fT,asIntOf,h0,hm,jq hn,lQ]
   grind
  ·cases h
 ·rename_i id v0 sz' lo hi k m ez ez';obtain⟨⟨h0,hm,hsz⟩,h⟩:=da h;cases h;subst hsz;rw[ez] at h1;rw[ez'] at h2;have hlt0:lo+m.toNat<hi:=aH;obtain⟨b,off,cap,hv,hcap⟩:=h1.Yl aH;obtain⟨_,g1,g2,g3⟩:=h1.ni;refine⟨.pointer (some ⟨b,off+m.toNat*sz',none⟩),w,.inl ?_,.still hr (.ju ⟨_,_,rfl⟩ g1 g2 fun sz v' xs hM=>?_)⟩
  ·simp[execOp,hop,Instr.indexAt,dY ht,hv,h2.fT,asIntOf,h0,hm,jq hn,lQ]
  ·obtain⟨k1,k2⟩:=g3 sz v' xs hM;refine⟨k1,fun he=>?_⟩
   obtain⟨rfl,l1,l2,⟨rfl,_⟩|⟨b',cap',vs,t',l3,l4,l5,l6,l7⟩⟩:=k2 he
   ·exact absurd (bu hlt0 l2) dy
   rw[hv] at l4
   grind [Nat.lt_of_lt_of_le,Nat.add_mul]
 ·cases h
def Hq(b off:Nat)(u:Nat->Value):∀(n i:Nat)(acc:Array Value),(∀k,k<n->w.cell? ⟨b,off+(i+k),none⟩=some (u (i+k))) ->
  (loadCellsFrom ⟨b,off,none⟩ i n acc).run P w = .ok (acc++((List.range n).map fun k=>u (i+k)).toArray) w:=by
 intro n;induction n with
 |zero=>simp[loadCellsFrom]
 |succ n ih =>
  intro i acc h;have h0:=h 0 dy;simp_all [loadCellsFrom,lQ,List.range_succ_eq_map,Function.comp_def,Nat.add_comm,Nat.add_left_comm]
theorem o4(b off n:Nat)(u:Nat->Value)(h:∀k,k<n->w.cell? ⟨b,off+k,none⟩=some (u k)) :
  (loadCells ⟨b,off,none⟩ n).run P w = .ok (((List.range n).map u).toArray) w:=by
 have:=Hq (P:=P) (w:=w) b off u n 0 #[] jK
 grind [loadCells]
theorem w5{id b:Nat}{cs:List ag}(hr:Rel j M w)(hM:M[id]?=some (.cells cs))(hj:j id=some b):∃vs t,w.heap[b]?=some (.cells vs t (0,0))/\cs.length=vs.size /\
  (∀(q:Nat)(c:ag)(v:Value),cs[q]?=some c->vs[q]?=some v->gj j M w c v)/\∀q,w.cell? ⟨b,q,none⟩=vs[q]?:=by
 obtain⟨b',vs,t,h1,h2,h3,h4⟩:=hr.box _ _ hM
 grind [World.cell?]
theorem Ic(hr:Rel j M w){id ver i off sz:Nat}{xs:List ag}{v:Value}{el:ag}(hM:M[id]?=some (.arr sz ver xs))(h:gj j M w (.ju id ver i off) v)(hel:xs[i]?=some el) :
  ∃b,v = .pointer (some ⟨b,i*sz+off,none⟩)/\∀(k:Nat)(c:ag),el.cells[off+k]?=some c->∃u,w.cell? ⟨b,i*sz+off+k,none⟩=some u/\fQ w (oo j M w) c u:=by
 obtain⟨_,_,_,g⟩:=h.sB;obtain⟨g1,b,g2,g3⟩:=(g _ _ _ hM).2 rfl;obtain⟨b',vs,t,k1,k2,k3,k4,k5⟩:=hr.yN hM g2
 grind [World.cell?]
theorem Ww(hr:Rel j M w)(he:cn j M w bp a){y:Operand}{z:fV}{t:TypeId}(hop:o.op = .load t y)(hg:CD P t=some false)(hz:eV y=some z)(h:ef C bp M (.rD z)=some x) :
  ∃v w',rh P o a w v w'/\iR j M w x v w':=by
 simp only[ef] at h;have h1:=cN he hz;split at h
 ·rename_i id off e;rw[e] at h1;obtain⟨b,_,_,hj,hv⟩:=h1.p9;rw[fc] at h;split at h
  ·rename_i cs hM;obtain⟨c,hc,h⟩:=bo h;cases h;rw[fc] at hc;obtain⟨vs,t0,hw,hl,hcs,hcell⟩:=w5 hr hM hj;have cG:=aN hc;have hu:vs[off]?=some (vs[off]'(by omega)):=bg aH
   refine⟨_,w,.inl ?_,.still hr (hcs _ c _ hc hu)⟩;simp[execOp,hop,Instr.loadAt,Instr.sureAddr,hv,loadVar,lJ hg,hcell,hu]
  grind
 ·rename_i cs e;rw[e] at h1;obtain⟨b,off,vs,hv,hc⟩:=h1.uo;obtain⟨c,hc0,h⟩:=bo h;cases h;rw[fc] at hc0;obtain⟨h2,_,h3⟩:=hc 0 c hc0;refine⟨_,w,.inl ?_,.still hr (.plain h3)⟩;simp_all [execOp,Instr.loadAt,Instr.sureAddr,loadVar,lJ]
 ·rename_i id ver i off e;rw[e] at h1;rw[fc] at h;split at h
  ·rename_i sz v0 xs hM;split at h
   ·rename_i hv0;subst hv0;obtain⟨el,hel,h⟩:=bo h;obtain⟨c,hc,h⟩:=bo h;cases h;rw[fc] at hc;obtain⟨b,hv,hcell⟩:=Ic hr hM h1 hel;obtain⟨u,l1,l2⟩:=hcell 0 c aH;refine⟨u,w,.inl ?_,.still hr (.plain l2)⟩;simp_all [execOp,Instr.loadAt,Instr.sureAddr,loadVar,lJ]
   grind
  ·cases h
 grind
theorem Wx(hr:Rel j M w)(he:cn j M w bp a){y:Operand}{z:fV}{t:TypeId}{n:Nat}(hop:o.op = .load t y)(hg:CD P t=some true)(hn:qB P t=some n)(hz:eV y=some z)
  (h:ef C bp M (.mN n z)=some x):∃v w',rh P o a w v w'/\iR j M w x v w':=by
 simp only[ef] at h;have h1:=cN he hz;split at h
 ·rename_i id off e;rw[e] at h1;obtain⟨b,_,_,hj,hv⟩:=h1.p9;rw[fc] at h;split at h
  ·rename_i cs hM;split at h
   ·rename_i hle;cases h;obtain⟨vs,t0,hw,hl,hcs,hcell⟩:=w5 hr hM hj
    have hrun:=o4 (P:=P) (w:=w) b off n (fun k=>(vs[off+k]?).getD undef) fun k hk=>by
     rw[hcell,bg aH]; simp
    refine⟨_,w,.inl (by simp[execOp,hop,Instr.loadAt,Instr.sureAddr,hv,loadVar,lJ hg,jq hn,hrun]; rfl),.still hr (.agg jK fun p c u hc hu=>?_)⟩
    grind
   ·cases h
  ·cases h
 ·rename_i cs e;split at h
  ·rename_i hle;cases h;rw[e] at h1;obtain⟨b,off,vs,hv,hc⟩:=h1.uo;have hrun:=o4 (P:=P) (w:=w) b off n vs fun k hk=>(hc k _ (ai aH)).1
   refine⟨_,w,.inl (by simp[execOp,hop,Instr.loadAt,Instr.sureAddr,hv,loadVar,lJ hg,jq hn,hrun]; rfl),.still hr (.agg gh fun p c u hc' hu=>?_)⟩
   have hp:p<n:=by have:=aN hc'; simp_all
   rw[bH hp] at hc';have hu':u=vs p:=by simp_all
   subst hu';exact .plain (hc p c hc').2.2
  ·cases h
 ·rename_i id ver i off e;rw[e] at h1;rw[fc] at h;split at h
  ·rename_i sz v0 xs hM;split at h
   ·rename_i hv0;subst hv0;obtain⟨el,hel,h⟩:=bo h;split at h
    ·rename_i hle;cases h;obtain⟨b,hv,hcell⟩:=Ic hr hM h1 hel
     have hrun:=o4 (P:=P) (w:=w) b (i*sz+off) n (fun k=>(w.cell? ⟨b,i*sz+off+k,none⟩).getD undef) fun k hk=>by
      obtain⟨u,l1,_⟩:=hcell k _ (ai aH);rw[l1]; rfl
     refine⟨_,w,.inl (by simp[execOp,hop,Instr.loadAt,Instr.sureAddr,hv,loadVar,lJ hg,jq hn,hrun]; rfl),.still hr (.agg gh fun p c u hc' hu=>?_)⟩
     have hp:p<n:=by have:=aN hc'; simp at this; omega
     rw[bH hp,cH] at hc';obtain⟨u',l1,l2⟩:=hcell p c hc';have hu':u=(w.cell? ⟨b,i*sz+off+p,none⟩).getD undef:=by simp_all
     rw[l1] at hu';subst hu';exact .plain l2
    ·cases h
   ·cases h
  ·cases h
 ·cases h
end
section
variable {P:Program} {C:eP} {o:Oper} {bp:Env} {M:aC} {j:J} {w:World} {a:Act} {x:ag×aC}
def tz{y:ag}{v:Value}{cs:List ag}(h:gj j M w y v)(hc:y.cells?=some cs):RC j M w cs v.cells:=by
 cases y<;>simp only[ag.cells?,fY,reduceCtorEq] at hc
 case agg cs' =>
  subst hc;obtain⟨vs,rfl,h1,h2⟩:=h.mZ;exact⟨h1,h2⟩
 case raw u =>
  cases h with
  |plain h =>
   cases h with
   |raw _ h1 =>
    cases v<;>simp at hc<;>subst hc <;>
     exact⟨rfl,fun i c v hc hv=>by
      cases i with
      |zero=>simp[Value.cells] at hc hv; subst hc; subst hv; exact .plain (.raw _ h1)
      |succ i=>simp at hc⟩
 all_goals
  subst hc
  have hv:v.cells = #[v]:=by
   first
    |(have:=h.jD; subst this; rfl)
    |(have:=h.fT; subst this; rfl)
    |(have:=h.kE; subst this; rfl)
    |(obtain⟨A,cap,b,off,sz,vs,e,_⟩:=h.ep.ep; subst e; rfl)
    |(obtain⟨b,_,_,_,e⟩:=h.p9; subst e; rfl)
    |(obtain⟨b,off,vs,e,_⟩:=h.uo; subst e; rfl)
    |(obtain⟨vs,e,_⟩:=h.rz; subst e; rfl)
    |(obtain⟨b,_,_,e⟩:=h.vC; subst e; rfl)
    |(obtain⟨b,_,_,e⟩:=h.DV; subst e; rfl)
    |(obtain⟨b,es,cl,e,_⟩:=h.IW; subst e; rfl)
    |(obtain⟨_,_,e⟩:=h.zy; subst e; rfl)
    |(obtain⟨⟨_,_,e⟩,_⟩:=h.sB; subst e; rfl)
    |(obtain⟨_,e,_⟩:=h.Ht; subst e; rfl)
    |(obtain⟨_,_,_,e⟩:=h.Ji; subst e; rfl)
  rw[hv]
  exact⟨rfl,fun i c u hc hu=>by
   cases i with
   |zero=>simp at hc hu; subst hc; subst hu; exact h
   |succ i=>simp at hc⟩
theorem Dm{c:ag}{v:Value}(h:gj j M w c v)(hc:c.je=true):v.oneCell'=true:=by
 cases c<;>simp only[ag.je,af] at hc
 case bool=>have:=h.jD; subst this; rfl
 case int=>have:=h.fT; subst this; rfl
 case str=>have:=h.kE; subst this; rfl
 case slice=>obtain⟨A,cap,b,off,sz,vs,e,_⟩:=h.ep.ep; subst e; rfl
 case ptr=>obtain⟨b,_,_,_,e⟩:=h.p9; subst e; rfl
 case jE=>obtain⟨b,off,vs,e,_⟩:=h.uo; subst e; rfl
 case func=>obtain⟨vs,e,_⟩:=h.rz; subst e; rfl
 case iw=>obtain⟨b,_,_,e⟩:=h.vC; subst e; rfl
 case j7=>obtain⟨b,_,_,e⟩:=h.DV; subst e; rfl
 case kj=>obtain⟨b,es,cl,e,_⟩:=h.IW; subst e; rfl
 case cv=>obtain⟨_,_,e⟩:=h.zy; subst e; rfl
 case ju=>obtain⟨⟨_,_,e⟩,_⟩:=h.sB; subst e; rfl
 case qX=>obtain⟨_,e,_⟩:=h.Ht; subst e; rfl
 case kx=>obtain⟨_,_,_,e⟩:=h.Ji; subst e; rfl
 case raw u =>
  cases h with
  |plain h=>cases h<;>grind
theorem Hu(hr:Rel j M w){cs:List ag}{vs:Array Value}(hc:RC j M w cs vs)(t:TypeId) :
  iR j M w (.ptr M.length 0,M++[.cells cs]) (.pointer (some ⟨w.heap.size,0,none⟩)) { w with heap:=w.heap.push (.cells vs t (0,0)) }:=by
 have q:Quiet w { w with heap:=w.heap.push (.cells vs t (0,0)) }:=⟨dy,rfl,rfl,rfl⟩
 have hb:∀b,b<w.heap.size->({ w with heap:=w.heap.push (.cells vs t (0,0)) }:World).heap[b]?=w.heap[b]?:=fun b hb=>by
  grind
 have hn:({ w with heap:=w.heap.push (.cells vs t (0,0)) }:World).heap[w.heap.size]?=some (.cells vs t (0,0)):=dy
 refine⟨gz j _ (some w.heap.size),hr.push (fun b h=>?_) q hb (fun _=>?_) (fun sz n b h=>jK),Ext.push (fun b h=>?_) q hb,.ptr dy ⟨cs,dy⟩ (by simp[gz])⟩
 ·grind
 ·exact⟨_,rfl,fun j' M' hx=>⟨vs,t,hn,hc.1,fun i c v h1 h2=>(hc.2 i c v h1 h2).mono hx⟩⟩
 grind
def ahs(hr:Rel j M w)(he:cn j M w bp a){y:Operand}{z:fV}{t:TypeId}(hop:o.op = .box t y)(hz:eV y=some z)(h:ef C bp M (.box z)=some x) :
  ∃v w',rh P o a w v w'/\iR j M w x v w':=by
 obtain⟨cs,hc,h⟩:=bo h;cases h;exact⟨_,_,.inl (by simp_all [execOp,Instr.box,newVar,newRow]),Hu hr (tz (cN he hz) hc) t⟩
def NH(hr:Rel j M w){t:TypeId}{i:TypeInfo}{zv:Value}{l:List ag}(hop:o.op = .alloc t)(hi:P.info? t=some i)(hzv:i.zero=some zv)(hl:tf zv.cells.toList=some l)
  (h:ef C bp M (.yO l)=some x):∃v w',rh P o a w v w'/\iR j M w x v w':=by
 cases h;obtain⟨h1,h2⟩:=qC hl;refine⟨_,_,.inl (by simp[execOp,hop,Instr.alloc,zeroValue,pU hi,hzv]; rfl),Hu hr ⟨aH,fun i c v hc hv=>h2 i c v hc jK⟩ t⟩
def WB(hr:Rel j M w)(he:cn j M w bp a){y:Operand}{z:fV}{n:Nat}(hop:o.op = .assign y)(hz:eV y=some z)(h:ef C bp M (.own n z)=some x) :
  ∃v w',rh P o a w v w'/\iR j M w x v w':=by
 simp only[ef] at h;split at h
 ·rename_i ez;cases h;have h1:=cN he hz;rw[ez] at h1;have q:Quiet w w:=⟨au _,rfl,rfl,rfl⟩
  obtain⟨A,hA⟩:∃A,a.eval y = .slice A 0 0:=by
   generalize a.eval y=v at h1;cases h1 with
   |plain h=>cases h
   |c0 A=>simp
  refine⟨a.eval y,w,.inl (by simp_all [execOp]),gz j M.length none,?_⟩
  rw[hA];unfold P9 P8;split
  ·refine⟨hr.push (ob:=none) (fun b h=>by cases h) q (fun _ _=>rfl) (fun h=>by cases h) (fun sz n b h h'=>by cases h') (fun sz ver xs h=>by injection h with e1 e2 e3; exact .inl ⟨e3.symm,rfl⟩),Ext.push (fun b h=>by cases h) q (fun _ _=>rfl),?_⟩
   refine .cv (.inr ⟨rfl,A,rfl⟩) dy (fun bx hbx=>by rw[kg] at hbx; cases hbx; rfl) fun sz' v' zs hx=>?_
   rw[kg] at hx; injection hx with hx; injection hx with e1 e2 e3
   subst e1; subst e2; subst e3;exact⟨au _,fun _=>⟨rfl,au _,au _,.inl ⟨rfl,by simp[gz],A,rfl⟩⟩⟩
  ·refine⟨hr.push (fun b h=>jK) q (fun _ _=>rfl) (fun h=>by cases h) (fun sz n b h h'=>jK),Ext.push (fun b h=>jK) q (fun _ _=>rfl),?_⟩
   exact .own (sz:=n) dy dy (fQ.nil _ _ _) fun _ => .inl ⟨by simp[gz],rfl,A,rfl⟩
 ·exact Ad (C:=C) hr he (.inr hop) hz h
def pr(w:World)(b:Nat):Nat->List Value->World
 |_,[]=>w
 |off,v::r=>pr (w.setCell ⟨b,off,none⟩ v) b (off+1) r
def mw{b:Nat}{t:TypeId}:∀(l:List Value)(w:World)(off:Nat)(vs:Array Value),w.heap[b]?=some (.cells vs t (0,0))->off+l.length<=vs.size ->
  (pr w b off l).heap.size=w.heap.size/\(pr w b off l).os=w.os/\(pr w b off l).tape=w.tape/\(pr w b off l).output=w.output /\
  (∀b',b'≠b->(pr w b off l).heap[b']?=w.heap[b']?) /\
  ∃vs',(pr w b off l).heap[b]?=some (.cells vs' t (0,0))/\vs'.size=vs.size/\(∀p,p<off\/off+l.length<=p->vs'[p]?=vs[p]?)/\∀p,p<l.length->vs'[off+p]?=l[p]?:=by
 intro l;induction l with
 |nil=>intro w off vs h _; exact⟨rfl,rfl,rfl,rfl,fun _ _=>rfl,vs,h,rfl,fun _ _=>rfl,fun p hp=>by simp at hp⟩
 |cons v r ih =>
  intro w off vs h hle;simp only[aw] at hle
  have hs:(w.setCell ⟨b,off,none⟩ v).heap[b]?=some (.cells (vs.setIfInBounds off v) t (0,0)):=by
   simp[World.setCell,gU,h]
  obtain⟨h1,h2,h3,h4,h5,vs',h6,h7,h8,h9⟩:=ih (w.setCell ⟨b,off,none⟩ v) (off+1) (vs.setIfInBounds off v) hs gh;refine⟨by simp only[pr]; rw[h1]; simp[World.setCell],by simp only[pr]; rw[h2]; rfl,by simp only[pr]; rw[h3]; rfl,by simp only[pr]; rw[h4]; rfl,fun b' hb'=>?_,vs',h6,by rw[h7]; simp,fun p hp=>?_,fun p hp=>?_⟩
  ·simp only[pr];rw[h5 b' hb'];simp[World.setCell,gU,eW hb']
  ·simp only[aw] at hp;rw[h8 p aH,fE aH]
  ·cases p with
   |zero =>
    have:vs'[off]?=(vs.setIfInBounds off v)[off]?:=h8 off aH;rw[c8,this];simp[gY];omega
   |succ p =>
    have:=h9 p (by simpa using hp)
    rw[show off+(p+1)=off+1+p by omega,this]
    simp
def nA{b:Nat}{t:TypeId}:∀(l:List Value)(w:World)(off i:Nat)(vs:Array Value),w.heap[b]?=some (.cells vs t (0,0))->off+i+l.length<=vs.size->(∀v,v∈l->v.oneCell'=true) ->
  (storeCells ⟨b,off,none⟩ l i).run P w = .ok () (pr w b (off+i) l):=by
 intro l;induction l with
 |nil=>simp[storeCells,pr]
 |cons v r ih =>
  intro w off i vs h hle hv;simp only[aw] at hle
  have hs:(w.setCell ⟨b,off+i,none⟩ v).heap[b]?=some (.cells (vs.setIfInBounds (off+i) v) t (0,0)):=by
   simp[World.setCell,gU,h]
  have hc:w.cell? ⟨b,off+i,none⟩=some (vs[off+i]'(by omega)):=by
   simp[World.cell?,h]
  have hf:w.frozen? ⟨b,off+i,none⟩=false:=by simp[World.frozen?,h]
  have hi:=ih _ off (i+1) _ hs gh (fun u hu=>hv u (bt _ hu))
  simp[storeCells,lQ,run_store P w _ v .plain (hv v _),hc,hf,aD,Result.andThen_ok,hi];rfl
theorem ra{cs new:List ag}{off:Nat}(h:off+new.length<=cs.length)(p:Nat) :
  (mS cs off new)[p]?=if off<=p/\p<off+new.length then new[p-off]? else cs[p]?:=by
 grind [mS]
theorem uV{cs new:List ag}{off:Nat}(h:off+new.length<=cs.length):(mS cs off new).length=cs.length:=by
 grind [mS]
theorem Au{c:ag}{v:Value}(h:gj j M w c v)(hp:c.shut.plainCell=true):fQ w (oo j M w) c.shut v:=by
 cases c<;>simp[ag.shut,ag.plainCell] at hp ⊢
 case bool=>have:=h.jD; subst this; exact .bool _
 case int=>have:=h.fT; subst this; exact .int _ _
 case str=>have:=h.kE; subst this; exact .str _
 case slice=>exact h.ep
 case raw=>cases h<;>grind
theorem Co{c:ag}(h:c.shut.plainCell=true):c.je=true:=by
 cases c<;>simp[ag.shut,ag.plainCell] at h<;>try rfl
 rename_i v;cases v<;>first|rfl|grind
def Hz{c:ag}(h:c.plainCell=true):c.cells=[c]:=by
 cases c<;>first|rfl|cases h
theorem Eu{e:ag}{off:Nat}{new:List ag}(h:off+new.length<=e.cells.length)(hp:new.all ag.plainCell=true):(putCells e off new).cells=mS e.cells off new:=by
 by_cases hag:∃cs,e = .agg cs
 ·obtain⟨cs,rfl⟩:=hag;cases new<;>rfl
 ·have h1:e.cells=[e]:=by cases e<;>first|rfl|grind
  rw[h1] at h ⊢
  match new,h,hp with
  | [],h,_ =>
   have:putCells e off []=e:=by cases e<;>first|rfl|grind
   rw[this,h1]
   match off,h with
   |0,_=>rfl
   |1,_=>rfl
  | [c],h,hp =>
   have:putCells e off [c]=c:=by cases e<;>first|rfl|grind
   have h0:off=0:=jK;subst h0;rw[this,Hz jK];rfl
  |_::_::_,h,_=>grind
theorem Ej(hr:Rel j M w)(he:cn j M w bp a){y y':Operand}{z z':fV}{t:TypeId}{n:Nat}(hop:o.op = .store t y y')(hn:qB P t=some n)(hz:eV y=some z)(hz':eV y'=some z')
  (h:ef C bp M (.store n z z')=some x):∃v w',rh P o a w v w'/\iR j M w x v w':=by
 simp only[ef] at h;have h1:=cN he hz;have h2:=cN he hz';split at h
 ·rename_i id off e;rw[e] at h1;obtain⟨b,_,_,hj,hv⟩:=h1.p9;rw[fc] at h;split at h
  ·rename_i cs hM;obtain⟨new,jv,h⟩:=bo h;split at h
   ·rename_i hcond;obtain⟨c1,c2,c3⟩:=hcond;cases h;obtain⟨vs,t0,hw,hl,hcs,hcell⟩:=w5 hr hM hj;obtain⟨n1,n2⟩:=tz h2 jv
    have hone:∀v,v∈(a.eval y').cells.toList->v.oneCell'=true:=by
     intro v hv;obtain⟨p,hp,rfl⟩:=kd hv;have hp':p<(a.eval y').cells.size:=by simpa using hp
     have hpl:p<new.length:=aH;have hr':=n2 p _ _ (ai hpl) (bg hp');have:=Dm hr' (bM.1 c3 _ (jr hpl));simpa using this
    have hrun:=nA (P:=P) (a.eval y').cells.toList w off 0 vs hw gh hone;obtain⟨s1,s2,s3,s4,s5,vs',s6,s7,s8,s9⟩:=mw (a.eval y').cells.toList w off vs hw gh;have q:Quiet w (pr w b off (a.eval y').cells.toList):=⟨aH,s2,s3,s4⟩;have hle:off+new.length<=cs.length:=aH;rw[fi];refine⟨undef,pr w b off (a.eval y').cells.toList,.inr ⟨?_,rfl⟩,j,Rel.store hM rfl rfl hj hr q (fun b' hb' _=>s5 b' hb') (fun vs0 t1 fr h=>by rw[hw] at h; grind) (fun j' M' hx=>⟨vs',t0,s6,by rw[uV hle]; omega,fun p c v hc hv'=>gj.mono hx ?_⟩),Ext.store hM rfl rfl hj hr q (fun b' hb' _=>s5 b' hb') (fun vs0 t1 fr h=>by rw[hw] at h; grind),.any _⟩
    ·simp_all [c8,execOp,Instr.storeAt,Instr.sureAddr,storeVar,jq]
    ·rw[ra hle] at hc;split at hc
     ·rename_i hp;have h9:=s9 (p-off) gh;rw[show off+(p-off)=p by omega,hv'] at h9
      exact n2 (p-off) c v hc (by simpa using h9.symm)
     grind
   ·cases h
  ·cases h
 ·rename_i id ver i off e;rw[e] at h1;rw[fc] at h;split at h
  ·rename_i sz v0 xs hM;obtain⟨new,jv,h⟩:=bo h;obtain⟨el,hel,h⟩:=bo h;split at h
   ·rename_i hcond;obtain⟨hv0,c1,c2,c3⟩:=hcond;subst hv0;cases h;obtain⟨_,hid,_,hv⟩:=h1.sB;obtain⟨hi,b,hj,hv⟩:=(hv sz v0 xs hM).2 rfl;obtain⟨b',vs,t0,k1,hw,k3,k4,k5⟩:=hr.yN hM hj;rw[hj] at k1; cases k1;have hsz:el.cells.length=sz:=k4 el (aK hel)
    have hbd:i*sz+sz<=vs.size:=by
     refine aY ?_ k3
     calc i*sz+sz=(i+1)*sz:=by rw[bP]; omega
      _<=xs.length*sz:=bd _ hi
    obtain⟨n1,n2⟩:=tz h2 jv
    have hpl:∀(p:Nat)(c:ag),new[p]?=some c->c.shut.plainCell=true:=fun p c hc=>by
     rw[List.all_map,bM] at c3;exact c3 c (aK hc)
    have hone:∀v,v∈(a.eval y').cells.toList->v.oneCell'=true:=by
     intro v hv;obtain⟨p,hp,rfl⟩:=kd hv;have hp':p<(a.eval y').cells.size:=by simpa using hp
     have hpl':p<new.length:=aH;have hr':=n2 p _ _ (ai hpl') (bg hp');have:=Dm hr' (Co (hpl p _ (ai hpl')));simpa using this
    have hrun:=nA (P:=P) (a.eval y').cells.toList w (i*sz+off) 0 vs hw gh hone;obtain⟨s1,s2,s3,s4,s5,vs',s6,s7,s8,s9⟩:=mw (a.eval y').cells.toList w (i*sz+off) vs hw gh;have q:Quiet w (pr w b (i*sz+off) (a.eval y').cells.toList):=⟨aH,s2,s3,s4⟩;have hle:off+(new.map ag.shut).length<=el.cells.length:=gh;have hput:=Eu hle c3
    have hw':∀vs0 t1,w.heap[b]?=some (.cells vs0 t1 (0,0))->∃vs1,(pr w b (i*sz+off) (a.eval y').cells.toList).heap[b]?=some (.cells vs1 t1 (0,0))/\vs1.size=vs0.size:=fun vs0 t1 h=>by
     rw[hw] at h; grind
    rw[fi,fi];refine⟨undef,pr w b (i*sz+off) (a.eval y').cells.toList,.inr ⟨?_,rfl⟩,j,Rel.Fq hM hj hr q (fun b' hb' _=>s5 b' hb') hw' (au _) (fun _=>dy) (fun j' M' hx=>⟨vs',t0,s6,gh,fun x hx'=>?_,fun p x k c hp hk=>?_⟩),Ext.Fq hM hj hr q (fun b' hb' _=>s5 b' hb') hw' (au _) (fun _=>dy),.any _⟩
    ·simp only[c8] at hrun;simp[execOp,hop,Instr.storeAt,Instr.sureAddr,hv,storeVar,jq hn,show(a.eval y').cells.size=n by omega,hrun]
    ·rcases jF hx' with hx'|rfl
     ·exact k4 x hx'
     ·rw[hput,uV hle,hsz]
    ·have dJ:(a.eval y').cells.toList.length=n:=gh
     by_cases hpi:i=p
     ·subst hpi;rw[eZ hi] at hp;cases hp;rw[hput,ra hle] at hk;split at hk
      ·rename_i hin;simp only[dU] at hin;rw[aX,aV] at hk;obtain⟨c0,hc0,rfl⟩:=hk;have h9:=s9 (k-off) aH;rw[show i*sz+off+(k-off)=i*sz+k by omega] at h9
       have cG:k-off<(a.eval y').cells.size:=aH;have hu:(a.eval y').cells[k-off]?=some (a.eval y').cells[k-off]:=bg cG;exact⟨_,by rw[h9]; simp,(Au (n2 _ c0 _ hc0 hu) (hpl _ c0 hc0)).mono hx.iy⟩
      ·rename_i hin;simp only[dU] at hin;obtain⟨u,u1,u2⟩:=k5 i el k c hel hk;exact⟨u,by rw[s8 _ aH]; exact u1,u2.mono hx.iy⟩
     ·rw[fa hpi] at hp;obtain⟨u,u1,u2⟩:=k5 p x k c hp hk;have hk':k<sz:=by rw[<-k4 x (aK hp)]; exact aN hk
      refine⟨u,(s8 _ ?_).trans u1,u2.mono hx.iy⟩;rcases bz p i with cG|hge
      ·left;have:=bd sz (show p+1<=i from cG)
       rw[bP] at this;omega
      ·right;have:=bd sz (show i+1<=p by omega)
       rw[bP] at this;omega
   ·cases h
  ·cases h
 ·cases h
end
def Xd(off:Nat):∀(l:List Value)(k:Nat)(cells:Array Value),
  ((l.zipIdx k).foldl (fun(cs:Array Value) (x:Value×Nat)=>cs.setIfInBounds (off+x.2) x.1) cells).size=cells.size /\
  ∀p,((l.zipIdx k).foldl (fun(cs:Array Value) (x:Value×Nat)=>cs.setIfInBounds (off+x.2) x.1) cells)[p]? =
   if off+k<=p/\p<off+k+l.length/\p<cells.size then l[p-(off+k)]? else cells[p]?:=by
 intro l;induction l with
 |nil=>intro k cells; exact⟨rfl,fun p=>gh⟩
 |cons v r ih =>
  intro k cells;rw[List.zipIdx_cons,eK];obtain⟨h1,h2⟩:=ih (k+1) (cells.setIfInBounds (off+k) v);refine⟨by rw[h1]; simp,fun p=>?_⟩
  rw[h2];simp only[Array.size_setIfInBounds,aw]
  by_cases c1:off+(k+1)<=p/\p<off+(k+1)+r.length/\p<cells.size
  ·rw[aZ c1,aZ aH,show p-(off+k)=(p-(off+(k+1)))+1 by omega]
   simp
  ·rw[aR c1]
   by_cases c2:p=off+k/\p<cells.size
   ·obtain⟨rfl,cG⟩:=c2;rw[aZ aH];simp[gY,cG]
   ·rw[aR aH]
    by_cases c3:p=off+k
    ·have:¬p<cells.size:=fun h=>c2 ⟨c3,h⟩
     rw[im gh,im aH]
    ·rw[fE aH]
def putRow(cells:Array Value)(off:Nat)(vs:Array Value):Array Value:=vs.zipIdx.foldl (fun cs (c,k)=>cs.setIfInBounds (off+k) c) cells
def Cm(cells:Array Value)(off:Nat)(vs:Array Value):(putRow cells off vs).size=cells.size /\
  ∀p,(putRow cells off vs)[p]?=if off<=p/\p<off+vs.size/\p<cells.size then vs[p-off]? else cells[p]?:=by
 have h:=Xd off vs.toList 0 cells
 have e:putRow cells off vs=(vs.toList.zipIdx 0).foldl (fun(cs:Array Value) (x:Value×Nat)=>cs.setIfInBounds (off+x.2) x.1) cells:=by
  unfold putRow;rw[<-Array.foldl_toList];simp
 rw[e];exact⟨h.1,fun p=>by rw[h.2 p]; simp⟩
section
variable {P:Program} {C:eP} {o:Oper} {bp:Env} {M:aC} {j:J} {w:World} {a:Act} {x:ag×aC}
def RC.write{cs new:List ag}{cells vs:Array Value}{off:Nat}(h:RC j M w cs cells)(hn:RC j M w new vs)(hle:off+new.length<=cs.length):RC j M w (mS cs off new) (putRow cells off vs):=by
 obtain⟨p1,p2⟩:=Cm cells off vs;have h1:=h.1;have h2:=hn.1;refine⟨by rw[uV hle,p1]; exact h1,fun i c v hc hv=>?_⟩
 rw[ra hle] at hc;rw[p2] at hv
 have hi:i<cells.size:=by
  rcases bz i cells.size with hi|hi
  ·exact hi
  ·rw[aR aH,im hi] at hv; cases hv
 split at hc
 ·rename_i hp;rw[aZ aH] at hv;exact hn.2 _ c v hc hv
 ·rename_i hp;rw[aR aH] at hv;exact h.2 _ c v hc hv
def V4{α β:Type}{g:α->Sem β}{f:α->β}:∀(l:List α),(∀x,x∈l->(g x).run P w = .ok (f x) w)->(l.mapM g).run P w = .ok (l.map f) w:=by
 intro l;induction l with
 |nil=>intro _; simp
 |cons y r ih =>
  intro h;simp[List.mapM_cons,h y dy,ih fun x hx=>h x (by simp[hx])]
def IQ{fs:Array Field}(he:cn j M w bp a)(hfs:∀f,f∈fs.toList->(P.info? f.type).isSome=true):∀ {parts:List (Nat×Operand)} {ps:List (Nat×Nat×fV)} {cs cs':List ag} {cells:Array Value},
  AO P fs parts=some ps->mq bp cs ps=some cs'->RC j M w cs cells ->
  ∃cells',Instr.fill (fun i=>(fs.map fun f=>(f.offset,P.cellsOf f.type))[i]?) cells (parts.map fun p=>(p.1,a.eval p.2))=some cells'/\RC j M w cs' cells':=by
 intro parts;induction parts with
 |nil =>
  intro ps cs cs' cells h1 h2 h3;simp[AO] at h1; subst h1;simp[mq] at h2; subst h2;exact⟨cells,rfl,h3⟩
 |cons p r ih =>
  intro ps cs cs' cells h1 h2 h3;obtain⟨i,y⟩:=p;simp only[AO] at h1;obtain⟨f,hf,h1⟩:=bf h1;obtain⟨n,hn,h1⟩:=bf h1;obtain⟨z,hz,h1⟩:=bf h1;obtain⟨l,hl,h1⟩:=bf h1;cases h1;simp only[mq] at h2;obtain⟨new,jv,h2⟩:=bo h2;split at h2
  ·rename_i hc;obtain⟨c1,c2⟩:=hc;have hrc:=tz (cN he hz) jv;obtain⟨inf,hinf,hsz⟩:=EJ hn;have hco:P.cellsOf f.type=n:=by simp[Program.cellsOf,hinf,hsz]
   obtain⟨cells',e1,e2⟩:=ih hl h2 (h3.write (off:=f.offset) hrc aH);refine⟨cells',?_,e2⟩;have hs1:=hrc.1;have hs2:=h3.1;have hpl:(fs.map fun f=>(f.offset,P.cellsOf f.type))[i]?=some (f.offset,n):=by simp[hf,hco]
   simp only[aE,Instr.fill,hpl];rw[aR gh];exact e1
  ·cases h2
def Wn(hr:Rel j M w)(he:cn j M w bp a){t:TypeId}{parts:Array (Nat×Operand)}{fs:Array Field}{i:TypeInfo}{zv:Value}{l:List ag}{ps:List (Nat×Nat×fV)}(hop:o.op = .build t parts)
  (ht:P.underlying t=some (.struct fs)) (hi:P.info? t=some i) (hzv:i.zero=some zv) (hl:tf zv.cells.toList=some l) (hps:AO P fs parts.toList=some ps) (hfs:fs.all (fun f=>(P.info? f.type).isSome)=true)
  (h:ef C bp M (.build l ps)=some x):∃v w',rh P o a w v w'/\iR j M w x v w':=by
 simp only[ef] at h;obtain⟨cs,hcs,h⟩:=bo h;cases h;obtain⟨h1,h2⟩:=qC (j:=j) (M:=M) (w:=w) hl
 have hfs':∀f,f∈fs.toList->(P.info? f.type).isSome=true:=fun f hf=>by
  have:=Array.all_eq_true'.1 hfs f (by simpa using hf)
  simpa using this
 obtain⟨cells',e1,e2⟩:=IQ (P:=P) he hfs' hps hcs (cells:=zv.cells) ⟨by simpa using h1,fun i c v hc hv=>h2 i c v hc (by simpa using hv)⟩
 have hmap:(fs.mapM fun f=>do pure (f.offset,<-sizeOf f.type):Sem _).run P w = .ok (fs.map fun f=>(f.offset,P.cellsOf f.type)) w:=by
  rw[lN]
  have hm:=V4 (P:=P) (w:=w) (g:=fun f:Field=>(do pure (f.offset,<-sizeOf f.type):Sem _)) (f:=fun f:Field=>(f.offset,P.cellsOf f.type)) fs.toList fun f hf=>by
   obtain⟨inf,hinf⟩:=fA.1 (hfs' f hf);simp[sizeOf,pU hinf,Program.cellsOf,hinf]
  rw[Sem.run_map,hm,<-Array.toList_map];simp only[Result.andThen_ok,Array.toArray_toList]
 refine⟨.agg cells',w,.inl ?_,.still hr (.agg e2.1 e2.2)⟩;have e1':Instr.fill (fun i=>(fs.map fun f=>(f.offset,P.cellsOf f.type))[i]?) zv.cells (parts.map fun p=>(p.1,a.eval p.2)).toList=some cells':=by simpa using e1
 simp only[execOp,hop,Instr.build,zeroValue,Sem.run_bind,pU hi,Result.andThen_ok,hzv,Sem.run_pure,dY ht,hmap];simp only[e1',Sem.run_pure,Result.andThen_ok]
def Cn{y:ag}{v:Value}(h:gj j M w y v)(hp:y.fR.plain=true):y.fR.cells.length=v.cells.size /\
  ∀(k:Nat)(c:ag)(u:Value),y.fR.cells[k]?=some c->v.cells[k]?=some u->fQ w (oo j M w) c u:=by
 by_cases hag:∃cs,y = .agg cs
 ·obtain⟨cs,rfl⟩:=hag;obtain⟨vs,rfl,h1,h2⟩:=h.mZ;simp only[ag.fR,ag.plain,ag.cells,Value.cells] at hp ⊢;refine⟨by simpa using h1,fun k c u hc hu=>?_⟩
  rw[aX,aV] at hc;obtain⟨c0,hc0,rfl⟩:=hc;refine Au (h2 k c0 u hc0 hu) ?_;have:=bM.1 hp c0.shut (eJ.2 ⟨c0,aK hc0,rfl⟩);exact this
 ·have hs:y.fR=y.shut:=by cases y<;>first|rfl|exact absurd ⟨_,rfl⟩ hag
  have hpl:y.shut.plainCell=true:=by
   rw[hs] at hp;cases y<;>first|exact hp|exact absurd ⟨_,rfl⟩ hag
  have hr:=Au h hpl;have hc1:y.shut.cells=[y.shut]:=by cases y<;>first|rfl|exact absurd ⟨_,rfl⟩ hag
  have hv1:v.cells = #[v]:=by
   cases y<;>simp only[ag.shut,ag.plainCell,af] at hpl
   case bool=>have:=h.jD; subst this; rfl
   case int=>have:=h.fT; subst this; rfl
   case str=>have:=h.kE; subst this; rfl
   case slice=>obtain⟨A,cap,b,off,sz,vs,e,_⟩:=h.ep.ep; subst e; rfl
   case raw=>cases h with|plain h=>cases h; cases v<;>simp_all [Value.cells]
  rw[hs,hc1,hv1];refine⟨rfl,fun k c u hc hu=>?_⟩
  cases k with
  |zero=>simp at hc hu; subst hc; subst hu; exact hr
  |succ k=>simp at hc
def R1{sz:Nat}:∀(l:List Value)(k:Nat)(cells:Array Value),(∀v,v∈l->v.cells.size=sz)->(k+l.length)*sz<=cells.size ->
  ∃cells',Instr.fill (fun i=>some (i*sz,sz)) cells ((l.zipIdx k).map fun x=>(x.2,x.1))=some cells'/\cells'.size=cells.size/\(∀p,p<k*sz->cells'[p]?=cells[p]?) /\
   ∀i v q,l[i]?=some v->q<sz->cells'[(k+i)*sz+q]?=v.cells[q]?:=by
 intro l;induction l with
 |nil=>intro k cells _ _; exact⟨cells,rfl,rfl,fun _ _=>rfl,fun i v q h=>by simp at h⟩
 |cons v r ih =>
  intro k cells hv hle;have hv0:=hv v dy;have hk1:(k+1)*sz=k*sz+sz:=mW k sz
  have hle':k*sz+sz<=cells.size:=by
   have:(k+1)*sz<=(k+(r.length+1))*sz:=bd _ aH;simp only[aw] at hle;omega
  obtain⟨p1,p2⟩:=Cm cells (k*sz) v.cells;obtain⟨cells',e1,e2,e3,e4⟩:=ih (k+1) (putRow cells (k*sz) v.cells) (fun u hu=>hv u (by simp[hu])) (by rw[p1]; simp only[aw] at hle; rw[show k+1+r.length=k+(r.length+1) by omega]; exact hle)
  refine⟨cells',?_,by rw[e2,p1],fun p hp=>?_,fun i u q hi hq=>?_⟩
  ·rw[List.zipIdx_cons,aE];simp only[Instr.fill];rw[aR gh];exact e1
  ·rw[e3 p aH,p2,aR aH]
  ·cases i with
   |zero =>
    simp at hi; subst hi;rw[c8,e3 _ aH,p2,aZ aH];congr 1;omega
   |succ i =>
    have:=e4 i u q (by simpa using hi) hq
    rw[show k+1+i=k+(i+1) by omega] at this
    exact this
def Fw:∀ {l:List (Nat×Operand)} {k:Nat} {zs:List fV},GZ k l=some zs->∃ys:List Operand,l=(ys.zipIdx k).map (fun x=>(x.2,x.1))/\vo ys=some zs
 | [],k,zs,h=>by simp[GZ] at h; subst h; exact⟨[],rfl,rfl⟩
 |(i,y)::r,k,zs,h=>by
  simp only[GZ] at h;split at h
  ·rename_i hi;obtain⟨z,hz,h⟩:=bf h;obtain⟨l,hl,h⟩:=bf h;cases h;obtain⟨ys,e1,e2⟩:=Fw hl;exact⟨y::ys,by rw[List.zipIdx_cons,aE,hi,e1],by simp[vo,hz,e2]⟩
  ·cases h
def Gc:∀ {zs:List fV} {sz:Nat} {l:List ag},sR bp sz zs=some l->l.length=zs.length /\
  ∀(i:Nat)(y:ag)(z:fV),l[i]?=some y->zs[i]?=some z->y=(z.ev bp).fR/\y.plain=true/\y.cells.length=sz
 | [],sz,l,h=>by simp[sR] at h; subst h; exact⟨rfl,fun i y z h=>by simp at h⟩
 |z::r,sz,l,h=>by
  simp only[sR] at h;split at h
  ·rename_i hc;obtain⟨l',hl,h⟩:=bo h;cases h;obtain⟨h1,h2⟩:=Gc hl;refine⟨by simp[h1],fun i y z' hy hz=>?_⟩
   cases i with
   |zero=>simp at hy hz; subst hy; subst hz; exact⟨rfl,hc.1,hc.2⟩
   |succ i=>exact h2 i y z' (by simpa using hy) (by simpa using hz)
  ·cases h
def o9(o:Obj):Quiet w { w with heap:=w.heap.push o }/\(∀b,b<w.heap.size->({ w with heap:=w.heap.push o }:World).heap[b]?=w.heap[b]?)/\({ w with heap:=w.heap.push o }:World).heap[w.heap.size]?=some o :=
 ⟨⟨dy,rfl,rfl,rfl⟩,fun b hb=>by
  show(w.heap.push _)[b]?=_
  rw[fS,aR aH],dy⟩
def Bj(he:cn j M w bp a){t e:TypeId}{len:Nat}{parts:Array (Nat×Operand)}{i:TypeInfo}{zs:List fV}{l:List ag}(hop:o.op = .buildSlice t len parts)(ht:P.underlying t=some (.slice e))
  (hi:P.info? e=some i) (hzs:GZ 0 parts.toList=some zs) (dJ:zs.length=len) (hroom:len*i.size<=2 ^ 24) (hzero:(i.zero.map fun z=>z.cells.size)=some i.size)
  (hl:sR bp i.size zs=some l):l.length=len/\wid l i.size/\∃cells':Array Value,cells'.size=len*i.size /\
   (execOp a.eval o).run P w = .ok (.value (.slice (some ⟨w.heap.size,0,none⟩) len len)) { w with heap:=w.heap.push (.cells cells' e (0,0)) } /\
   ∀(n:Nat)(y:ag)(k:Nat)(c:ag),l[n]?=some y->y.cells[k]?=some c->∃u,cells'[n*i.size+k]?=some u/\fQ w (oo j M w) c u:=by
 obtain⟨ys,hys,hyz⟩:=Fw hzs;obtain⟨l1,l2⟩:=Gc hl;obtain⟨y1,y2⟩:=uj he hyz
 obtain⟨zv,hzv,hzs'⟩:∃zv,i.zero=some zv/\zv.cells.size=i.size:=by
  cases hz:i.zero with
  |none=>rw[hz] at hzero; cases hzero
  |some zv=>rw[hz] at hzero; exact⟨zv,rfl,by simpa using hzero⟩
 have hvs:∀v,v∈ys.map a.eval->v.cells.size=i.size:=by
  intro v hv;obtain⟨y,hy,rfl⟩:=eJ.1 hv;obtain⟨p,hp,rfl⟩:=kd hy;have hpz:p<zs.length:=aH;have hpl:p<l.length:=aH;have hrep:=y2 p _ _ (ai hpz) (ai hp);obtain⟨e1,e2,e3⟩:=l2 p _ _ (ai hpl) (ai hpz);have:=(Cn hrep (by rw[<-e1]; exact e2)).1
  rw[<-e1] at this;omega
 let zero:Array Value:=if len*i.size=0 then #[] else zv.cells
 let cells0:Array Value:=(Array.range (len*i.size)).map (zero[· % zero.size]!)
 obtain⟨cells',f1,f2,f3,f4⟩:=R1 (sz:=i.size) (ys.map a.eval) 0 cells0 hvs (by simp[cells0,<-dJ,y1])
 have hfill:Instr.fill (fun k=>some (k*i.size,i.size)) cells0 (parts.map fun p=>(p.1,a.eval p.2)).toList=some cells':=by
  have:(parts.map fun p=>(p.1,a.eval p.2)).toList=((ys.map a.eval).zipIdx 0).map fun x=>(x.2,x.1):=by
   rw[Array.toList_map,hys,gD,List.zipIdx_map,gD];rfl
  rw[this]; exact f1
 have hrun:(execOp a.eval o).run P w = .ok (.value (.slice (some ⟨w.heap.size,0,none⟩) len len)) { w with heap:=w.heap.push (.cells cells' e (0,0)) }:=by
  simp only[execOp,hop,Instr.buildSlice,Sem.run_bind,dY ht,Result.andThen_ok,jq (show qB P e=some i.size by simp[qB,hi]),aR (show ¬len*i.size>2 ^ 24 by omega),Sem.run_pure]
  simp only[cells0] at hfill
  by_cases hc:len*i.size=0
  ·have hz:zero = #[]:=aZ hc;rw[hz] at hfill;rw[aZ hc];simp only[Sem.run_bind,Sem.run_pure,Result.andThen_ok,hfill];simp[newRow]
  ·have hz:zero=zv.cells:=aR hc;rw[hz] at hfill;rw[aR hc];simp only[zeroValue,Sem.run_bind,pU hi,Result.andThen_ok,hzv,Sem.run_pure,hfill];simp[newRow]
 have hel:∀(n:Nat)(y:ag)(k:Nat)(c:ag),l[n]?=some y->y.cells[k]?=some c->∃u,cells'[n*i.size+k]?=some u/\fQ w (oo j M w) c u:=by
  intro n y k c hn hk;have hnl:=aN hn;have hz:=ai (show n<zs.length by omega)
  have hy:=ai (show n<ys.length by omega)
  obtain⟨e1,e2,e3⟩:=l2 n y _ hn hz;have hrep:=y2 n _ _ hz hy;obtain⟨s1,s2⟩:=Cn hrep (by rw[<-e1]; exact e2)
  rw[<-e1] at s1 s2;have hkl:=aN hk;have hu:=bg (show k<(a.eval ys[n]).cells.size by omega)
  have f:=f4 n (a.eval ys[n]) k (by simp[hy]) aH
  rw[aG] at f;exact⟨_,f.trans hu,s2 k c _ hk hu⟩
 refine⟨aH,fun y hy=>?_,cells',by first|(simp[f2,cells0])|(simp[f3,cells0]),hrun,hel⟩
 obtain⟨p,hp,rfl⟩:=kd hy;exact(l2 p _ _ (ai hp) (ai aH)).2.2
def NI(hr:Rel j M w)(he:cn j M w bp a){t e:TypeId}{len:Nat}{parts:Array (Nat×Operand)}{i:TypeInfo}{zs:List fV}(hop:o.op = .buildSlice t len parts)(ht:P.underlying t=some (.slice e))
  (hi:P.info? e=some i) (hzs:GZ 0 parts.toList=some zs) (dJ:zs.length=len) (hroom:len*i.size<=2 ^ 24) (hzero:(i.zero.map fun z=>z.cells.size)=some i.size)
  (h:ef C bp M (.lits i.size zs)=some x):∃v w',rh P o a w v w'/\iR j M w x v w':=by
 simp only[ef] at h;obtain⟨l,hl,h⟩:=bo h;obtain⟨hll,hwd,cells',_,hrun,hel⟩:=Bj (w:=w) he hop ht hi hzs dJ hroom hzero hl;obtain⟨q,hb,jv⟩:=o9 (w:=w) (.cells cells' e (0,0));refine⟨_,_,.inl hrun,?_⟩;have ext:Ext j M w j M { w with heap:=w.heap.push (.cells cells' e (0,0)) }:=Ext.grow q.size rfl rfl rfl hb
 have rel:Rel j M { w with heap:=w.heap.push (.cells cells' e (0,0)) }:=hr.grow q.size rfl rfl rfl hb
 have key:fQ { w with heap:=w.heap.push (.cells cells' e (0,0)) } (oo j M { w with heap:=w.heap.push (.cells cells' e (0,0)) }) (.slice .sh l) (.slice (some ⟨w.heap.size,0,none⟩) len len):=by
  refine .slice l _ _ _ w.heap.size 0 i.size (fun p=>(cells'[p]?).getD undef) hll.symm (au _) (fun _=>rfl) hwd (fun n y k c hn hk=>?_) (fun n y k c hn hk=>?_)
  ·obtain⟨u,hu,_⟩:=hel n y k c hn hk;refine⟨?_,dy,fun id hid hj=>?_,fun hx=>absurd (hr.AB _ _ hx) (ia _)⟩
   ·simp only[World.cell?,jv,aG,hu];rfl
   ·have:=hr.lt id _ hid hj;omega
  ·obtain⟨u,hu,hru⟩:=hel n y k c hn hk;rw[hu];exact hru.mono ext.iy
 injection h with h
 subst h;cases l with
 |nil =>
  have:len=0:=by simpa using hll.symm
  subst this;exact⟨j,rel,ext,.c0 _⟩
 |cons y r=>exact⟨j,rel,ext,.plain key⟩
def Wv(hr:Rel j M w)(he:cn j M w bp a){t e:TypeId}{len:Nat}{parts:Array (Nat×Operand)}{i:TypeInfo}{zs:List fV}(hop:o.op = .buildSlice t len parts)(ht:P.underlying t=some (.slice e))
  (hi:P.info? e=some i) (hzs:GZ 0 parts.toList=some zs) (dJ:zs.length=len) (hroom:len*i.size<=2 ^ 24) (hzero:(i.zero.map fun z=>z.cells.size)=some i.size)
  (h:ef C bp M (.Gb i.size zs)=some x):∃v w',rh P o a w v w'/\iR j M w x v w':=by
 simp only[ef] at h;obtain⟨l,hl,h⟩:=bo h;cases h;obtain⟨hll,hwd,cells',hcs,hrun,hel⟩:=Bj (w:=w) he hop ht hi hzs dJ hroom hzero hl;obtain⟨q,hb,jv⟩:=o9 (w:=w) (.cells cells' e (0,0));have hob:∀b,some w.heap.size=some b->w.heap.size<=b/\b<({ w with heap:=w.heap.push (.cells cells' e (0,0)) }:World).heap.size:=fun b h=>by cases h; simp
 have ext:Ext j M w (gz j M.length (some w.heap.size)) (M++[.tick i.size l.length]) { w with heap:=w.heap.push (.cells cells' e (0,0)) }:=Ext.push (fun b hb=>(hob b hb).1) q hb
 refine⟨_,_,.inl hrun,gz j M.length (some w.heap.size),hr.push hob q hb (fun h=>by cases h) (fun sz n b _ hb=>by cases hb; exact⟨cells',e,jv⟩),ext,?_⟩
 refine .own (sz:=i.size) (n:=l.length) dy (au _) ?_ fun _ => .inr ⟨w.heap.size,len,cells',e,by simp[gz],by rw[hll],jv,aH,aH⟩
 refine .slice l _ _ _ w.heap.size 0 i.size (fun p=>(cells'[p]?).getD undef) hll.symm (au _) (fun _=>rfl) hwd (fun n y k c hn hk=>?_) (fun n y k c hn hk=>?_)
 ·obtain⟨u,hu,_⟩:=hel n y k c hn hk;have hk':k<i.size:=by rw[<-hwd y (aK hn)]; exact aN hk
  refine⟨?_,dy,fun id hid hj=>?_,fun hx=>absurd (hr.AB _ _ (by rw[<-ext.X]; exact hx)) (ia _)⟩
  ·simp only[World.cell?,jv,aG,hu];rfl
  ·have hid':id=M.length:=by
    rcases bz id M.length with h|h
    ·rw[show gz j M.length (some w.heap.size) id=j id by simp[gz,gG h]] at hj
     exact absurd (hr.lt id _ h hj) (ia _)
    ·simp at hid; omega
   subst hid';refine⟨i.size,l.length,dy,?_⟩;have:=bd i.size (show n+1<=l.length from aN hn)
   rw[bP] at this;omega
 ·obtain⟨u,hu,hru⟩:=hel n y k c hn hk;rw[hu];exact hru.mono ext.iy
end
def gj.Dk{j:J}{M:aC}{w:World}{xs:List ag}{v:Value}(h:gj j M w (.slice .c0 xs) v):∃A,v = .slice A 0 0:=by
 cases h with
 |plain h=>cases h
 |c0 A=>simp
theorem gj.aa5{j:J}{M:aC}{w:World}{k:Nat}{xs:List ag}{v:Value}(h:gj j M w (.slice (.own k) xs) v) :
  ∃sz n,M[k]?=some (.tick sz n)/\xs.length<=n/\fQ w (oo j M w) (.slice .sh xs) v/\(xs.length=n->H0 j w k sz n v):=by
 cases h with
 |plain h=>cases h
 |own hk hn h ht=>grind
theorem FO(n:Nat):∀(r c:Nat),c<=2*n+1000->Builtin.growBy n r c<=2*n+1000
 |0,c,h=>h
 |r+1,c,h=>by
  unfold Builtin.growBy;split
  ·omega
  ·exact FO n r _ aH
theorem Ee{n c:Nat}(h:c<n):Builtin.nextslicecap n c<=2*n+1000:=by
 grind [Builtin.nextslicecap,FO]
def fQ.one{w:World}{iy:Nat->Nat->Prop}{c:ag}{v:Value}(h:fQ w iy c v):v.oneCell'=true:=by
 cases h<;>first|rfl|omega
section
variable {P:Program} {C:eP} {o:Oper} {bp:Env} {M:aC} {j:J} {w:World} {a:Act} {x:ag×aC}
theorem FH{iy:Nat->Nat->Prop}{xs:List ag}{v:Value}{size:Nat}(hx:fQ w iy (.slice .sh xs) v)(hw:wid xs size)(hpos:0<size) :
  ∃u:Nat->Value,(∀w':World,w'.heap=w.heap->(Builtin.firstCells size xs.length v).run P w' = .ok (((List.range (xs.length*size)).map u).toArray) w') /\
   (∀(i:Nat)(y:ag)(k:Nat)(c:ag),xs[i]?=some y->y.cells[k]?=some c->fQ w iy c (u (i*size+k))) /\
   ∀b,(∃n cap,v = .slice (some ⟨b,0,none⟩) n cap)->∀p,p<xs.length*size->w.cell? ⟨b,p,none⟩=some (u p):=by
 obtain⟨A,cap,b,off,sz,vs,hv,hc,ha,hz,hs,hr⟩:=hx.ep
 by_cases hne:xs=[]
 ·subst hne;rw[hv];cases A<;>simp_all [Builtin.firstCells,loadCells,loadCellsFrom]
 ·have hsz:sz=size:=by
   obtain⟨y,r,rfl⟩:=fj hne;rw[<-hz y dy,hw y dy]
  subst hsz;have hA:=ha hne;subst hA
  have hcell:∀p,p<xs.length*sz->w.cell? ⟨b,off+p,none⟩=some (vs p):=by
   intro p hp;have hd:p / sz<xs.length:=(kW hpos).2 hp;have hm:p % sz<sz:=kX _ hpos;have hy:=ai hd;have hcl:=hw _ (jr hd);have:=(hs (p / sz) _ (p % sz) _ hy (ai aH)).1;rw[Nat.div_add_mod'] at this;omega
  refine⟨vs,fun w' hw'=>?_,hr,fun b' hb' p hp=>?_⟩
  ·rw[hv]
   have hc':∀p,p<xs.length*sz->w'.cell? ⟨b,off+p,none⟩=some (vs p):=fun p hp=>by
    grind [World.cell?]
   exact o4 (P:=P) b off (xs.length*sz) vs hc'
  grind
theorem fQ.join{w':World}{saf':Nat->Nat->Prop}{xs ys:List ag}{size:Nat}(hwx:wid xs size)(hwy:wid ys size)(hpos:0<size){ux uy:Nat->Value}
  (hx:∀(i:Nat)(y:ag)(k:Nat)(c:ag),xs[i]?=some y->y.cells[k]?=some c->fQ w' saf' c (ux (i*size+k)))
  (hy:∀(i:Nat)(y:ag)(k:Nat)(c:ag),ys[i]?=some y->y.cells[k]?=some c->fQ w' saf' c (uy (i*size+k)))
  {b:Nat} {arr:Array Value} {t:TypeId} (harr:w'.heap[b]?=some (.cells arr t (0,0))) (h1:∀p,p<xs.length*size->arr[p]?=some (ux p)) (h2:∀p,p<ys.length*size->arr[xs.length*size+p]?=some (uy p))
  (hs:∀p,p<(xs.length+ys.length)*size->saf' b p) {cap:Nat} (hc:xs.length+ys.length<=cap):fQ w' saf' (.slice .sh (xs++ys)) (.slice (some ⟨b,0,none⟩) (xs.length+ys.length) cap):=by
 have cG:∀(i k n:Nat),i<n->k<size->i*size+k<n*size:=by
  intro i k n hi hk;have:(i+1)*size<=n*size:=bd _ hi;rw[mW] at this;omega
 have cas:∀(i:Nat)(y:ag),(xs++ys)[i]?=some y->(i<xs.length/\xs[i]?=some y)\/(∃i',i=xs.length+i'/\ys[i']?=some y):=by
  grind
 refine .slice _ _ _ _ b 0 size (fun p=>if p<xs.length*size then ux p else uy (p-xs.length*size)) dy hc (fun _=>rfl) (fun y hy'=>?_) (fun i y k c hi hk=>?_) (fun i y k c hi hk=>?_)
 ·rcases bm.1 hy' with h|h
  ·exact hwx y h
  ·exact hwy y h
 ·have hkl:=aN hk;rw[aG];rcases cas i y hi with ⟨hil,hxi⟩|⟨i',rfl,hyi⟩
  ·have hk':k<size:=by rw[<-hwx y (aK hxi)]; omega
   have hp:=cG i k _ hil hk';refine⟨?_,hs _ (cG i k _ aH hk')⟩;rw[aZ hp,<-h1 _ hp];simp[World.cell?,harr]
  ·have hk':k<size:=by rw[<-hwy y (aK hyi)]; exact hkl
   have hil:=aN hyi;have hp:=cG i' k _ hil hk';refine⟨?_,hs _ (cG _ k _ aH hk')⟩;have he:(xs.length+i')*size+k=xs.length*size+(i'*size+k):=by rw[bP]; omega
   rw[he,aR dy,iV,<-h2 _ hp];simp[World.cell?,harr]
 ·have hkl:=aN hk;rcases cas i y hi with ⟨hil,hxi⟩|⟨i',rfl,hyi⟩
  ·have hk':k<size:=by rw[<-hwx y (aK hxi)]; exact hkl
   rw[aZ (cG i k _ hil hk')];exact hx i y k c hxi hk
  ·have he:(xs.length+i')*size+k=xs.length*size+(i'*size+k):=by rw[bP]; omega
   rw[he,aR dy,iV]
   grind
theorem qL{t t' e:TypeId}{d':TypeDesc}{v':Value}{i:TypeInfo}{zv:Value}(hs:P.underlying t=some (.slice e))(hs':P.underlying t'=some d')(hd':∀k,d' ≠ .int k)(hi:P.info? e=some i)(hz:i.zero=some zv)(hb0:0<i.bytes)(hb1:i.bytes<=2 ^ 20)
  (ty:TypeId) {bR:Option Addr} {n cap m:Nat} {ui new:Array Value} (dJ:∀w':World,(Builtin.lenOf v').run P w' = .ok m w')
  (hold:∀w':World,w'.heap=w.heap->(Builtin.firstCells i.size n (.slice bR n cap)).run P w' = .ok ui w') (jv:∀w':World,w'.heap=w.heap->(Builtin.firstCells i.size m v').run P w' = .ok new w')
  (hroom:(n+m)*i.bytes<=2 ^ 44) :
  (n+m<=cap->∀w',(match bR with|some ad=>(storeCells (ad.add (n*i.size)) new.toList).run P w = .ok () w'|none=>w'=w)->(Builtin.append_ #[t,t'] ty #[.slice bR n cap,v']).run P w = .ok (.slice bR (n+m) cap) w') /\
  (cap<n+m->∃newCap rest,n+m<=newCap/\rest.size=(newCap-(n+m))*zv.cells.size /\
   (Builtin.append_ #[t,t'] ty #[.slice bR n cap,v']).run P w = .ok (.slice (some ⟨w.heap.size,0,none⟩) (n+m) newCap) { w with heap:=w.heap.push (.cells (ui++new++rest) e (0,0)),drawn:=w.drawn+1 }):=by
 have hsz:(sizeOf e).run P w = .ok i.size w:=jq (by grind [qB])
 refine⟨fun hle w' hst=>?_,fun cG=>?_⟩
 ·have h1:=jv w rfl;unfold Builtin.append_;simp only[List.getElem?_toArray,gk,cS,Sem.run_bind,dY hs,dY hs',Result.andThen_ok,hsz,Sem.run_pure];simp only[af,aD,dJ,Result.andThen_ok,fO,aJ,aZ hle,h1,Sem.run_bind];cases bR with
  |none=>simp_all
  |some ad=>simp_all
 ·have hcapb:¬Builtin.nextslicecap (n+m) cap*i.bytes>2 ^ 48:=by
   have h1:=Ee cG;have h2:Builtin.nextslicecap (n+m) cap*i.bytes<=(2*(n+m)+1000)*i.bytes:=bd _ h1
   grind
  let q:Question := .appendCap (n+m) cap e
  refine⟨q.cut (w.tape w.drawn q),Builtin.zeroCells zv.cells (q.cut (w.tape w.drawn q)-(n+m)),by grind [Question.cut],by simp[Builtin.zeroCells],?_⟩
  have h1:=hold w.drew rfl;have h2:=jv w.drew rfl;have hne:i.bytes≠0:=aH;have hqf:q.forced=false:=rfl;unfold Builtin.append_;simp only[List.getElem?_toArray,gk,cS,Sem.run_bind,dY hs,dY hs',Result.andThen_ok,hsz,Sem.run_pure];simp only[af,aD,dJ,Result.andThen_ok,fO,aJ,aR (Nat.not_le.2 cG),Sem.run_bind];simp[pU hi,hne,hcapb,h1,h2,zeroValue,hz,newRow,q,Question.forced];rfl
theorem Ia(hr:Rel j M w){c:Call}{y y':Operand}{t t' e:TypeId}{d':TypeDesc}{i:TypeInfo}{zv:Value}(hop:o.op = .call c)(hb:c.callee = .builtin .append)(ha:c.args.toList=[y,y'])
  (hat:c.argTypes = #[t,t']) (hs:P.underlying t=some (.slice e)) (hs':P.underlying t'=some d') (hd':∀k,d' ≠ .int k) (hi:P.info? e=some i) (hz:i.zero=some zv) (hzs:zv.cells.size=i.size) (hpos:0<i.size) (hb0:0<i.bytes) (hb1:i.bytes<=2 ^ 20)
  {tk:Tk} {xs ys:List ag} (r1:gj j M w (.slice tk xs) (a.eval y)) (dJ:∀w':World,(Builtin.lenOf (a.eval y')).run P w' = .ok ys.length w') {uy:Nat->Value}
  (fy1:∀w':World,w'.heap=w.heap->(Builtin.firstCells i.size ys.length (a.eval y')).run P w' = .ok (((List.range (ys.length*i.size)).map uy).toArray) w')
  (fy2:∀(q:Nat)(y:ag)(k:Nat)(c:ag),ys[q]?=some y->y.cells[k]?=some c->fQ w (oo j M w) c (uy (q*i.size+k)))
  (h:cr (cp (xs.length+ys.length) i.bytes/\wid xs i.size/\wid ys i.size) (
    match tk with
    | .c0=>match xs with|[]=>some (.slice (.own M.length) ys,M++[.tick i.size ys.length])|_=>none
    | .own k=>match nth M k with
     |some (.tick sz' n)=>cr (sz'=i.size/\n=xs.length) (some (.slice (.own k) (xs++ys),iP M k (.tick i.size (xs.length+ys.length))))
     |_=>none
    | .sh=>none)=some x):∃v w' j',rh P o a w v w'/\Rel j' x.2 w'/\Ext j M w j' x.2 w'/\gj j' x.2 w' x.1 v/\(ys=[]->v=a.eval y/\∀k,tk = .own k->j'=j)/\∀k b',tk = .own k->j' k=some b'->j k=some b'\/∃vs,w'.heap[b']?=some (.cells vs e (0,0)):=by
 obtain⟨⟨hroom,hwx,hwy⟩,h9⟩:=da h;clear h;have h:=h9;clear h9;have p1:=r1.ep;obtain⟨ux,fx1,fx2,fx3⟩:=FH (P:=P) p1 hwx hpos;obtain⟨bR,cap,_,_,_,_,hv,hcap,_⟩:=p1.ep;have ha':c.args = #[y,y']:=by rw[<-ha]
 have hexec:∀r,(Builtin.append_ #[t,t'] o.type #[a.eval y,a.eval y']).run P w=r->(execOp a.eval o).run P w=r.andThen fun v w' => .ok (.value v) w':=by
  intro r hr';simp[execOp,hop,resolve,hb,invoke,builtin,ha',hat,hr']
 rw[hv] at fx1;obtain⟨A1,A2⟩:=qL (P:=P) (w:=w) hs hs' hd' hi hz hb0 hb1 o.type (bR:=bR) (n:=xs.length) (cap:=cap) (m:=ys.length) dJ fx1 fy1 hroom;rw[<-hv] at A1 A2
 -- nothing is appended
 have nil:ys=[]->∃v,(execOp a.eval o).run P w = .ok (.value v) w/\v=a.eval y:=by
  intro hy;subst hy;refine⟨_,?_,rfl⟩
  have:=A1 (by simp; exact hcap) w (by
   cases bR with
   |none=>rfl
   |some ad=>simp[storeCells])
  rw[hexec _ this];simp[hv]
 -- a new block
 have fresh:cap<xs.length+ys.length->∃newCap arr w',xs.length+ys.length<=newCap/\(execOp a.eval o).run P w = .ok (.value (.slice (some ⟨w.heap.size,0,none⟩) (xs.length+ys.length) newCap)) w' /\
   Quiet w w'/\(∀b,b<w.heap.size->w'.heap[b]?=w.heap[b]?)/\w'.heap[w.heap.size]?=some (.cells arr e (0,0))/\newCap*i.size<=arr.size /\
   (∀p,p<xs.length*i.size->arr[p]?=some (ux p))/\∀p,p<ys.length*i.size->arr[xs.length*i.size+p]?=some (uy p):=by
  intro cG;obtain⟨newCap,rest,h1,h2,h3⟩:=A2 cG;obtain⟨q,hbk,jv⟩:=o9 (w:=w) (.cells (((List.range (xs.length*i.size)).map ux).toArray++((List.range (ys.length*i.size)).map uy).toArray++rest) e (0,0));refine⟨newCap,_,{ w with heap:=w.heap.push (.cells (((List.range (xs.length*i.size)).map ux).toArray++((List.range (ys.length*i.size)).map uy).toArray++rest) e (0,0)),drawn:=w.drawn+1 },h1,(hexec _ h3).trans rfl,⟨q.size,rfl,rfl,rfl⟩,hbk,jv,?_,fun p hp=>?_,fun p hp=>?_⟩
  ·simp only[fW,cU,dU,List.length_range,h2,hzs];rw[<-bP,<-bP];exact bd _ aH
  ·rw[Array.append_assoc,cj (by simpa using hp)]
   simp[hp]
  ·rw[Array.append_assoc,Array.getElem?_append_right dy,cj gh];simp[hp]
 split at h
 ·-- c0
  split at h
  ·cases h;simp only[az,aG] at *
   have hc0:cap=0:=by
    obtain⟨A',hA'⟩:=r1.Dk;rw[hv] at hA';injection hA'
   by_cases hy:ys=[]
   ·subst hy;obtain⟨v,h1,h2⟩:=nil rfl;have q:Quiet w w:=⟨au _,rfl,rfl,rfl⟩;refine⟨v,w,gz j M.length none,.inl h1,hr.push (ob:=none) (fun b h=>by cases h) q (fun _ _=>rfl) (fun h=>by cases h) (fun sz n b h h'=>by cases h'),Ext.push (fun b h=>by cases h) q (fun _ _=>rfl),?_,fun _=>⟨h2,fun _ h=>by cases h⟩,fun _ _ h=>by cases h⟩
    rw[h2,hv,hc0];exact .own (sz:=i.size) (n:=0) dy dy (fQ.nil _ _ _) fun _ => .inl ⟨by simp[gz],rfl,bR,rfl⟩
   ·have hyl:0<ys.length:=gM.2 hy;obtain⟨newCap,arr,w',g1,g2,g3,g4,g5,g6,g7,g8⟩:=fresh aH
    have hob:∀b,some w.heap.size=some b->w.heap.size<=b/\b<w'.heap.size:=fun b hb=>by
     cases hb; exact⟨au _,lt_of_block g5⟩
    have ext:Ext j M w (gz j M.length (some w.heap.size)) (M++[.tick i.size ys.length]) w':=Ext.push (fun b hb=>(hob b hb).1) g3 g4
    refine⟨_,w',gz j M.length (some w.heap.size),.inl g2,hr.push hob g3 g4 (fun h=>by cases h) (fun sz n b _ hb=>jK),ext,?_,fun h=>absurd h hy,fun _ _ h=>by cases h⟩
    have hsaf:∀p,p<(0+ys.length)*i.size->oo (gz j M.length (some w.heap.size)) (M++[.tick i.size ys.length]) w' w.heap.size p:=by
     intro p hp;refine⟨lt_of_block g5,fun id hid hj=>?_,fun hx=>absurd (hr.AB _ _ hx) (ia _)⟩
     by_cases hid':id=M.length
     ·subst hid'; exact⟨i.size,ys.length,dy,by simpa using hp⟩
     ·have:=hr.lt id w.heap.size (by simp at hid; omega) (by simpa[gz,hid'] using hj)
      omega
    have hj:=fQ.join (xs:=[]) (ys:=ys) (w':=w') hwx hwy hpos (ux:=ux) (uy:=uy) (fun i y k c h=>by simp at h) (fun i y k c h1 h2=>(fy2 i y k c h1 h2).mono ext.iy) g5 (fun p hp=>by simp at hp) (fun p hp=>by simpa using g8 p hp) hsaf (cap:=newCap) (by simpa using g1)
    simp only[aP,az,aG] at hj;exact .own (sz:=i.size) (n:=ys.length) dy (au _) hj fun _ => .inr ⟨w.heap.size,newCap,arr,e,by simp[gz],rfl,g5,g6,g1⟩
  ·cases h
 ·-- own
  rename_i k;rw[fc] at h;split at h
  ·rename_i sz' n' hMk;obtain⟨⟨e1,e2⟩,hx⟩:=da h;subst e1;subst e2;injection hx with hx
   subst hx;rw[fi];obtain⟨sz0,n0,hk,hn,hrp,ht⟩:=r1.aa5
   ·rw[hMk] at hk;injection hk with hk; injection hk with e1 e2
    subst e1; subst e2
    by_cases hy:ys=[]
    ·subst hy;obtain⟨v,h1,h2⟩:=nil rfl
     have hset:M.set k (.tick i.size (xs.length+([]:List ag).length))=M:=by
      apply cA
      grind
     rw[h2] at h1;rw[hset,cX];exact⟨a.eval y,w,j,.inl h1,hr,Ext.refl j M w,r1,fun _=>⟨rfl,fun _ _=>rfl⟩,fun _ _ _ h => .inl h⟩
    ·have hyl:0<ys.length:=gM.2 hy
     have moved:cap<xs.length+ys.length->∃v w' j',rh P o a w v w'/\Rel j' (M.set k (.tick i.size (xs.length+ys.length))) w'/\Ext j M w j' (M.set k (.tick i.size (xs.length+ys.length))) w'/\gj j' (M.set k (.tick i.size (xs.length+ys.length))) w' (.slice (.own k) (xs++ys)) v/\(ys=[]->v=a.eval y/\∀k',Tk.own k = .own k'->j'=j)/\∀k' b',Tk.own k = .own k'->j' k'=some b'->j k'=some b'\/∃vs,w'.heap[b']?=some (.cells vs e (0,0)):=by
      intro cG;obtain⟨newCap,arr,w',g1,g2,g3,g4,g5,g6,g7,g8⟩:=fresh cG;have ext:Ext j M w (gz j k (some w.heap.size)) (M.set k (.tick i.size (xs.length+ys.length))) w':=Ext.C3 hMk g3 g4 (au _) aH;refine⟨_,w',gz j k (some w.heap.size),.inl g2,Rel.C3 hMk hr g3 g4 (au _) g5 aH,ext,?_,fun h=>absurd h hy,fun k' b' hk' hb' => .inr ⟨arr,(by grind [gz])⟩⟩
      have hsaf:∀p,p<(xs.length+ys.length)*i.size->oo (gz j k (some w.heap.size)) (M.set k (.tick i.size (xs.length+ys.length))) w' w.heap.size p:=by
       intro p hp;refine⟨lt_of_block g5,fun id hid hj=>?_,fun hx=>absurd (hr.AB _ _ hx) (ia _)⟩
       by_cases hid':id=k
       ·subst hid'; exact⟨i.size,_,ec (aN hMk),hp⟩
       ·have:=hr.lt id w.heap.size (by simpa using hid) (by simpa[gz,hid'] using hj)
        omega
      have hj:=fQ.join (w':=w') hwx hwy hpos (ux:=ux) (uy:=uy) (fun i y k c h1 h2=>(fx2 i y k c h1 h2).mono ext.iy) (fun i y k c h1 h2=>(fy2 i y k c h1 h2).mono ext.iy) g5 g7 g8 hsaf (cap:=newCap) g1
      exact .own (sz:=i.size) (n:=xs.length+ys.length) (ec (aN hMk)) dy hj fun _ => .inr ⟨w.heap.size,newCap,arr,e,by simp[gz],rfl,g5,g6,g1⟩
     rcases ht rfl with ⟨_,hn0,A',hA'⟩|⟨b,cap0,vs,t0,hj,hv0,hw0,hsz0,hcap0⟩
     ·rw[hv] at hA';injection hA' with _ _ e3
      exact moved aH
     ·have hvv:=hv.symm.trans hv0;injection hvv with e1 e2 e3
      subst e1; subst e3
      by_cases hfit:xs.length+ys.length<=cap
      ·have jv:(((List.range (ys.length*i.size)).map uy).toArray).toList.length=ys.length*i.size:=dy
       have hle:xs.length*i.size+ys.length*i.size<=vs.size:=by
        rw[<-bP];exact aY (bd _ hfit) hsz0
       have hone:∀v,v∈(((List.range (ys.length*i.size)).map uy).toArray).toList->v.oneCell'=true:=by
        intro v hv;simp only[eJ,gb] at hv;obtain⟨p,hp,rfl⟩:=hv;have hd:p / i.size<ys.length:=(kW hpos).2 hp;have hm:p % i.size<i.size:=kX _ hpos;have hcl:=hwy _ (jr hd);have:=fy2 (p / i.size) _ (p % i.size) _ (ai hd) (ai aH);rw[Nat.div_add_mod'] at this;exact this.one
       have hst:=nA (P:=P) (((List.range (ys.length*i.size)).map uy).toArray).toList w (xs.length*i.size) 0 vs hw0 (by rw[jv]; omega) hone
       rw[c8] at hst;obtain⟨s1,s2,s3,s4,s5,vs',s6,s7,s8,s9⟩:=mw (((List.range (ys.length*i.size)).map uy).toArray).toList w (xs.length*i.size) vs hw0 (by rw[jv]; omega)
       have hrun:=A1 hfit _ (by
        show(storeCells ((⟨b,0,none⟩:Addr).add (xs.length*i.size)) _).run P w=_
        rw[lQ,aG];exact hst)
       have q:Quiet w (pr w b (xs.length*i.size) (((List.range (ys.length*i.size)).map uy).toArray).toList):=⟨aH,s2,s3,s4⟩;have hkeep:∀p,p<xs.length*i.size->vs'[p]?=vs[p]?:=fun p hp=>s8 p (.inl hp)
       have ext:Ext j M w j (M.set k (.tick i.size (xs.length+ys.length))) (pr w b (xs.length*i.size) (((List.range (ys.length*i.size)).map uy).toArray).toList) :=
        Ext.HL hMk hj hr q (fun b' hb' _=>s5 b' hb') hw0 s6 s7 hkeep aH
       refine⟨_,_,j,.inl ((hexec _ hrun).trans rfl),Rel.HL hMk hj hr q (fun b' hb' _=>s5 b' hb') hw0 s6 s7 hkeep aH,ext,?_,fun h=>absurd h hy,fun _ _ _ h => .inl h⟩
       have hsaf:∀p,p<(xs.length+ys.length)*i.size->oo j (M.set k (.tick i.size (xs.length+ys.length))) (pr w b (xs.length*i.size) (((List.range (ys.length*i.size)).map uy).toArray).toList) b p:=by
        intro p hp;refine⟨lt_of_block s6,fun id hid hj'=>?_,hr.vf k b (aN hMk) hj p⟩
        have:id=k:=hr.inj id k b (by simpa using hid) (aN hMk) hj' hj
        subst this;exact⟨i.size,_,ec (aN hMk),hp⟩
       have hjn:=fQ.join hwx hwy hpos (ux:=ux) (uy:=uy) (fun i y k c h1 h2=>(fx2 i y k c h1 h2).mono ext.iy) (fun i y k c h1 h2=>(fy2 i y k c h1 h2).mono ext.iy) s6 (fun p hp=>by
        rw[hkeep p hp];have:=fx3 b ⟨_,_,hv⟩ p hp;simpa[World.cell?,hw0] using this) (fun p hp=>by
        rw[s9 p (by rw[jv]; exact hp)]
        simp[hp]) hsaf (cap:=cap) hfit
       exact .own (sz:=i.size) (n:=xs.length+ys.length) (ec (aN hMk)) dy hjn fun _ => .inr ⟨b,cap,vs',t0,hj,rfl,s6,aH,hfit⟩
      ·exact moved aH
  ·cases h
 ·cases h
theorem L5(hr:Rel j M w)(he:cn j M w bp a){c:Call}{y y':Operand}{z z':fV}{t t' e e':TypeId}{i:TypeInfo}{zv:Value}(hop:o.op = .call c)(hb:c.callee = .builtin .append)(ha:c.args.toList=[y,y'])
  (hat:c.argTypes = #[t,t']) (hs:P.underlying t=some (.slice e)) (hs':P.underlying t'=some (.slice e')) (hi:P.info? e=some i) (hz:i.zero=some zv) (hzs:zv.cells.size=i.size) (hpos:0<i.size) (hb0:0<i.bytes) (hb1:i.bytes<=2 ^ 20)
  (hzy:eV y=some z) (hzy':eV y'=some z') (h:ef C bp M (.append i.size i.bytes z z')=some x) (hna:∀id ver sz lo hi,z.ev bp ≠ .cv id ver sz lo hi):∃v w',rh P o a w v w'/\iR j M w x v w':=by
 simp[ef] at h;have r1:=cN he hzy;have r2:=cN he hzy';split at h
 ·rename_i tk xs tk' ys ez ez';obtain⟨⟨_,hwx,hwy⟩,_⟩:=da h;rw[ez] at r1;rw[ez'] at r2;have p2:=r2.ep;obtain⟨uy,fy1,fy2,_⟩:=FH p2 hwy hpos;obtain⟨A,cap',_,_,_,_,hv',_⟩:=p2.ep;obtain⟨v,w',j',q1,q2,q3,q4,_⟩:=Ia hr hop hb ha hat hs hs' (fun k h=>by cases h) hi hz hzs hpos hb0 hb1 r1 (fun w'=>by rw[hv']; rfl) fy1 fy2 h
  exact⟨v,w',q1,j',q2,q3,q4⟩
 ·grind
 grind
end
section
variable {P:Program} {C:eP} {o:Oper} {bp:Env} {M:aC} {j:J} {w:World} {a:Act} {x:ag×aC}
def Ls {f:Field} {k:FK} (h:R3 P f=some k):f.name ≠ "_" /\ CD P f.type=some false/\(match k with | .b=>P.underlying f.type=some .bool | .i=>∃q,P.underlying f.type=some (.int q) | .s=>P.underlying f.type=some .string):=by
 unfold R3 at h;split at h
 ·cases h
 ·rename_i hn;refine⟨hn,?_⟩
  split at h<;>first
   |(cases h; rename_i hu; exact⟨by simp[CD,hu],by first|exact hu|exact⟨_,hu⟩⟩)
   |cases h
def Ln{d:Nat}{f:Field}{k:FK}(hf:R3 P f=some k){y z:ag}{u v:Value}(hu:gj j M w y u)(hv:gj j M w z v){e:Bool}(h:kB k y z=some e) :
  (Op.equalIn (d+1) f.type u v).run P w = .ok e w:=by
 have hk:=(Ls hf).2.2;unfold kB at h;split at h
 ·rename_i k1 a k2 b;obtain⟨q,hq⟩:=hk;split at h
  ·rename_i he;subst he;cases h;rw[hu.fT,hv.fT];exact run_equalIn_int w d f.type _ _ a b hq
  ·cases h
 ·rename_i a b;cases h;rw[hu.kE,hv.kE,run_equalIn_string w d f.type _ _ hk,vn,vn]
 ·rename_i a b;cases h;rw[hu.jD,hv.jD];exact run_equalIn_bool' w d f.type a b hk
 ·cases h
def zM{d:Nat}{cs ds:List ag}{us vs:Array Value}(hc:RC j M w cs us)(hd:RC j M w ds vs):∀ {l:List Field} {k:Nat} {ks:List FK} {e:Bool},B7 P k l=some ks->kZ ks (cs.drop k) (ds.drop k)=some e ->
  (Op.eqFields (d+1) us vs l).run P w = .ok e w
 | [],k,ks,e,h1,h2=>by
  simp[B7] at h1; subst h1;unfold kZ at h2;split at h2<;>simp_all [Op.eqFields]
 |f::r,k,ks,e,h1,h2=>by
  simp only[B7] at h1;split at h1
  ·rename_i hoff;obtain⟨q,hq,h1⟩:=bf h1;obtain⟨qs,hqs,h1⟩:=bf h1;cases h1
   have hk1:k<cs.length:=by
    rcases bz k cs.length with h|h
    ·exact h
    ·rw[jm h] at h2; simp[kZ] at h2
   have hk2:k<ds.length:=by
    rcases bz k ds.length with h|h
    ·exact h
    ·rw[jm h] at h2;rw[dp hk1] at h2;simp[kZ] at h2
   rw[dp hk1,dp hk2] at h2;simp only[kZ] at h2;obtain⟨e1,he1,h2⟩:=bo h2;obtain⟨e2,he2,h2⟩:=bo h2;cases h2;have hlu:k<us.size:=by have:=hc.1; omega
   have hlv:k<vs.size:=by have:=hd.1; omega
   have hu:=bg hlu;have hv:=bg hlv;have ih:=zM (d:=d) hc hd hqs he2;obtain⟨hn,hag,_⟩:=Ls hq;have p1:(part f.type us f.offset).run P w = .ok us[k] w:=by simp[part,lJ hag,hoff,hu]
   have p2:(part f.type vs f.offset).run P w = .ok vs[k] w:=by simp[part,lJ hag,hoff,hv]
   have p3:=Ln (d:=d) hq (hc.2 k _ _ (ai hk1) hu) (hd.2 k _ _ (ai hk2) hv) he1;simp only[Op.eqFields,aZ hn,Sem.run_bind,p1,p2,p3,Result.andThen_ok];cases e1
   ·simp
   ·simpa using ih
  ·cases h1
def MR:∀ {l:List Field} {k:Nat} {ks:List FK},B7 P k l=some ks->∀f,f∈l->∃q,R3 P f=some q
 | [],_,_,_,f,hf=>by simp at hf
 |g::r,k,ks,h,f,hf=>by
  simp only[B7] at h;split at h
  ·obtain⟨q,hq,h⟩:=bf h;obtain⟨qs,hqs,h⟩:=bf h;rcases bI.1 hf with rfl|hf
   ·exact⟨q,hq⟩
   ·exact MR hqs f hf
  ·cases h
def Wp(hr:Rel j M w)(he:cn j M w bp a){neg:Bool}{y y':Operand}{z z':fV}{t t':TypeId}{fs:Array Field}{ks:List FK}(hop:o.op = .binOp (if neg then .neq else .eql) t y y' t')(ht:P.underlying t=some (.struct fs))
  (hst:P.stoodInHeld t=false) (hks:B7 P 0 fs.toList=some ks) (hz:eV y=some z) (hz':eV y'=some z') (h:ef C bp M (.QG ks neg z z')=some x):∃v w',rh P o a w v w'/\iR j M w x v w':=by
 simp only[ef] at h;have h1:=cN he hz;have h2:=cN he hz';split at h
 ·rename_i cs ds ez ez';obtain⟨e,hee,h⟩:=bo h;cases h;rw[ez] at h1;rw[ez'] at h2;obtain⟨us,hus,hul,huc⟩:=h1.mZ;obtain⟨vs,hvs,hvl,hvc⟩:=h2.mZ;have hfs:P.fieldsOf t=fs:=by simp[Program.fieldsOf,ht]
  have heq:(Op.equal t (.agg us) (.agg vs)).run P w = .ok e w:=by
   unfold Op.equal;rw[show Op.maxDepth=9999+1 from rfl,run_equalIn_struct w 9999 t us vs (by rw[hfs]; exact ht) hst,hfs]
   exact zM (d:=9998) ⟨hul,huc⟩ ⟨hvl,hvc⟩ hks (by simpa using hee)
  have hgt:P.eqGuardType P.depth t=false:=by
   unfold Program.depth;rw[show 2*(P.types.size+Made.depth)+2=(2*(P.types.size+Made.depth)+1)+1 from rfl,Program.eqGuardType,ht]
   simp only;rw[Array.any_eq_false];intro i hi;obtain⟨q,hq⟩:=MR hks fs[i] dy;have:=(Ls hq).2.2;simp only[Program.eqGuardType];cases q<;>simp only at this
   ·obtain⟨_,hu⟩:=this; simp[hu]
   ·simp[this]
   ·simp[this]
  have hguard:∀op,(eqGuard op t y y' (.agg us) (.agg vs)).run P w = .ok () w:=by
   intro op;unfold eqGuard;cases op<;>simp[hgt]
  cases neg
  ·exact⟨.bool e,w,.inl (by simp[execOp,hop,hus,hvs,hguard,binOp,heq]),.still hr (.plain (.bool _))⟩
  ·exact⟨.bool (!e),w,.inl (by simp[execOp,hop,hus,hvs,hguard,binOp,heq]),.still hr (.plain (.bool _))⟩
 ·cases h
end
end
end
section
open Go Go.RowKit
variable [kG]
section
variable {j:J} {M:aC} {w w':World}
def Bz(hr:Rel j M w):∀n,∃j',Rel j' (M++List.replicate n cI.vQ) w/\Ext j M w j' (M++List.replicate n cI.vQ) w
 |0=>⟨j,by simpa using hr,by simpa using Ext.refl j M w⟩
 |n+1=>by
  obtain⟨j',h1,h2⟩:=Bz hr n;have q:Quiet w w:=⟨au _,rfl,rfl,rfl⟩;refine⟨gz j' (M++List.replicate n cI.vQ).length none,?_⟩;rw[nM,<-bZ];exact⟨h1.push (ob:=none) (bx := .vQ) (fun b h=>by cases h) q (fun _ _=>rfl) (fun h=>by cases h) (fun sz n b h h'=>by cases h'),h2.trans (Ext.push (fun b h=>by cases h) q (fun _ _=>rfl))⟩
def Ext.fill{p b:Nat}{cs:List ag}(hM:M[p]?=some .vQ)(hob:w.heap.size<=b)(q:Quiet w w')(hb:∀b,b<w.heap.size->w'.heap[b]?=w.heap[b]?) :
  Ext j M w (gz j p (some b)) (M.set p (.cells cs)) w' where
 len:=dy
 size:=q.size
 os:=q.os
 tape:=q.tape
 output:=q.output
 X:=rfl
 fix:=fun i bx h hf=>by
  have e:p≠i:=by rintro rfl; rw[hM] at h; cases h; cases hf
  exact⟨by simp[gz,eW e],bx,by rw[cJ e]; exact h,rfl⟩
 tick:=fun i sz n h=>by
  have e:p≠i:=by rintro rfl; rw[hM] at h; cases h
  exact⟨n,au _,by rw[cJ e]; exact h,fun _=>⟨by simp[gz,eW e],fun b vs t _ hv=>⟨vs,(hb b (lt_of_block hv)).trans hv,rfl⟩⟩⟩
 arr:=fun i sz v xs h=>by
  have e:p≠i:=by rintro rfl; rw[hM] at h; cases h
  exact .inr ⟨v,xs,by rw[cJ e]; exact h,au _,fun _=>⟨by simp[gz,eW e],rfl,fun b vs t _ hv=>⟨vs,(hb b (lt_of_block hv)).trans hv,rfl⟩⟩⟩
 tags:=fun b0 vs0 t0 fr0 h=>⟨vs0,fr0,(hb b0 (lt_of_block h)).trans h,rfl⟩
 iy:=fun b0 off h=>by
  refine⟨⟨bu h.1 q.size,fun id hid hj=>?_,h.3⟩,World.cell?_of_block (w:=w) (hb b0 h.1)⟩
  by_cases he:id=p
  ·have:b=b0:=by simpa[gz,he] using hj
   have:=h.1;omega
  ·rw[cJ (eW he)];exact h.2 id (by simpa using hid) (by simpa[gz,he] using hj)
 ui:=fun b0 cG h=>by
  refine⟨hb b0 cG,fun i hi hj=>?_⟩
  by_cases he:i=p
  ·have:b=b0:=by simpa[gz,he] using hj
   omega
  ·exact h i (by simpa using hi) (by simpa[gz,he] using hj)
def Rel.fill(hr:Rel j M w){p b:Nat}{cs:List ag}(hM:M[p]?=some .vQ)(hob:w.heap.size<=b)(hbl:b<w'.heap.size)(q:Quiet w w')(hb:∀b,b<w.heap.size->w'.heap[b]?=w.heap[b]?)
  (hbox:∀j' M',Ext j M w j' M' w'->Holds j' M' w' b (.cells cs)):Rel (gz j p (some b)) (M.set p (.cells cs)) w':=by
 have ext:Ext j M w (gz j p (some b)) (M.set p (.cells cs)) w':=Ext.fill hM hob q hb;have up:∀i,i≠p->gz j p (some b) i=j i:=fun i hi=>by simp[gz,hi]
 have hp:=aN hM;refine⟨fun i i' b0 hi hi' h h'=>?_,fun i b0 hi h=>?_,fun i bx' h hf=>?_,fun i sz n b0 h hj=>?_,fun i sz ver xs h=>?_,fun i b0 hi h off hx=>?_,fun b off h=>bu (hr.AB b off h) q.size⟩
 ·simp only[cY] at hi hi'
  by_cases e:i=p<;>by_cases e':i'=p
  ·omega
  ·have h1:b=b0:=by simpa[gz,e] using h
   rw[up i' e'] at h';have:=hr.lt i' b0 hi' h';omega
  ·have h1:b=b0:=by simpa[gz,e'] using h'
   rw[up i e] at h;have:=hr.lt i b0 hi h;omega
  ·rw[up i e] at h;rw[up i' e'] at h';exact hr.inj i i' b0 hi hi' h h'
 ·simp only[cY] at hi
  by_cases e:i=p
  ·have h1:b=b0:=by simpa[gz,e] using h
   omega
  ·rw[up i e] at h;exact bu (hr.lt i b0 hi h) q.size
 ·by_cases e:i=p
  ·subst e;rw[ec hp] at h;cases h;exact⟨b,by simp[gz],hbox _ _ ext⟩
  ·rw[cJ (eW e)] at h;obtain⟨b0,h1,h2⟩:=hr.fix i bx' h hf;exact⟨b0,by rw[up i e]; exact h1,h2.mono ext (hb b0 (hr.lt i b0 (aN h) h1))⟩
 ·by_cases e:i=p
  ·subst e; rw[ec hp] at h; cases h
  ·rw[cJ (eW e)] at h;rw[up i e] at hj;obtain⟨vs,t,h1⟩:=hr.tick i sz n b0 h hj;exact⟨vs,t,(hb b0 (lt_of_block h1)).trans h1⟩
 ·by_cases e:i=p
  ·subst e; rw[ec hp] at h; cases h
  ·rw[cJ (eW e)] at h;exact qD hr ext h (up i e) fun b0 h1=>hb b0 (hr.lt i b0 (aN h) h1)
 ·simp only[cY] at hi
  by_cases e:i=p
  ·have h1:b=b0:=by simpa[gz,e] using h
   have h2:=hr.AB b0 off hx;omega
  ·rw[up i e] at h;exact hr.vf i b0 hi h off hx
def IP(hr:Rel j M w){p:Nat}(hM:M[p]?=some .vQ){cs:List ag}{vs:Array Value}(hc:RC j M w cs vs)(t:TypeId) :
  iR j M w (.ptr p 0,M.set p (.cells cs)) (.pointer (some ⟨w.heap.size,0,none⟩)) { w with heap:=w.heap.push (.cells vs t (0,0)) }:=by
 have q:Quiet w { w with heap:=w.heap.push (.cells vs t (0,0)) }:=⟨dy,rfl,rfl,rfl⟩
 have hb:∀b,b<w.heap.size->({ w with heap:=w.heap.push (.cells vs t (0,0)) }:World).heap[b]?=w.heap[b]?:=fun b hb=>by
  show(w.heap.push _)[b]?=_
  rw[fS,aR aH]
 have hn:({ w with heap:=w.heap.push (.cells vs t (0,0)) }:World).heap[w.heap.size]?=some (.cells vs t (0,0)):=dy
 have hp:=aN hM;exact⟨gz j p (some w.heap.size),hr.fill hM (au _) dy q hb (fun j' M' hx=>⟨vs,t,hn,hc.1,fun i c v h1 h2=>(hc.2 i c v h1 h2).mono hx⟩),Ext.fill hM (au _) q hb,.ptr (by simpa using hp) ⟨cs,ec hp⟩ (by simp[gz])⟩
end
variable {P:Program} {own:List Nat} {o:Oper}
def Ox{l:List ag}{t:TypeId}(hop:o.op = .alloc t)(h:OO P own o=some (.yO l)):∃i zv,P.info? t=some i/\i.zero=some zv/\tf zv.cells.toList=some l:=by
 simp only[OO,hop] at h;obtain⟨i,hi,h⟩:=bf h;obtain⟨z,hz,h⟩:=bf h;obtain⟨l',hl,h⟩:=bf h;split at h
 ·split at h
  ·split at h
   ·obtain⟨n,hn,h⟩:=bf h;cases h
   ·cases h
  ·injection h with h; cases h; exact⟨i,z,hi,hz,hl⟩
 ·injection h with h; cases h; exact⟨i,z,hi,hz,hl⟩
def Oy{l:List ag}{t0:TypeId}(hop:o.op = .alloc t0)(h:OO P own o=some (.yO l))(a:Act)(w:World):∃vs t,(∀j M w',RC j M w' l vs)/\rh P o a w (.pointer (some ⟨w.heap.size,0,none⟩)) { w with heap:=w.heap.push (.cells vs t (0,0)) }:=by
 obtain⟨i,zv,hi,hz,hl⟩:=Ox hop h;refine⟨zv.cells,t0,fun j M w'=>?_,.inl (by simp[execOp,hop,Instr.alloc,zeroValue,pU hi,hz,newVar,newRow])⟩
 obtain⟨h1,h2⟩:=qC (j:=j) (M:=M) (w:=w') hl;exact⟨by simpa using h1,fun i c v hc hv=>h2 i c v hc (by simpa using hv)⟩
end
section
open Go Go.RowKit
variable [kG]
theorem ze{x:Nat}:∀(l a:List Nat),x∈kb a l↔x∈a\/x∈l
 | [],a=>by simp[kb]
 |y::r,a=>by
  rw[kb,ze r]
  grind
theorem rE:∀(l a:List Nat),a.Nodup->(kb a l).Nodup
 | [],a,h=>h
 |y::r,a,h=>by
  refine rE r _ ?_
  grind
def JI(M:aC)(l:List Nat):(reach M l).Nodup:=rE _ _ (rE _ _ (rE _ _ (rE _ _ lx)))
def PQ{M:aC}{l:List Nat}{x:Nat}(h:x∈l):x∈reach M l:=by
 simp_all [reach,kC,ze]
theorem Gg{M:aC}{x i:Nat}{b:cI}:∀ {l:List Nat},i∈l->M[i]?=some b->x∈b.ids->x∈qq M l
 | [],h,_,_=>jK
 |k::r,h,hb,hx=>by
  rw[qq,bm];rcases bI.1 h with rfl|h
  ·grind [fc]
  ·exact .inr (Gg h hb hx)
theorem OX{M:aC}{ids:List Nat}(h:kC M ids=ids){i x:Nat}{b:cI}(hi:i∈ids)(hb:M[i]?=some b)(hx:x∈b.ids):x∈ids:=by
 rw[<-h,kC,ze]
 grind [Gg]
theorem uc:∀ {ids:List Nat} {x:Nat},x∈ids->ids[iv ids x]?=some x
 | [],_,h=>jK
 |a::l,x,h=>by
  rw[iv];split
  ·grind
  ·rcases bI.1 h with rfl|h
   ·omega
   ·simpa using uc h
def uM{ids:List Nat}{x:Nat}(h:x∈ids):iv ids x<ids.length:=aN (uc h)
theorem CV:∀ {ids:List Nat} {i x:Nat},ids.Nodup->ids[i]?=some x->iv ids x=i
 | [],i,x,_,h=>jK
 |a::l,i,x,hn,h=>by
  rw[iv];have hn':=oH.1 hn;cases i with
  |zero=>grind
  |succ i =>
   have h':l[i]?=some x:=jK;rw[aR jK,CV hn'.2 h']
def MA{ids:List Nat}{x:Nat}(h:x∈ids):wv ids (iv ids x)=x:=by rw[wv,fc,uc h]; rfl
def aeu{ids:List Nat}{i x:Nat}(h:ids[i]?=some x):wv ids i=x:=by rw[wv,fc,h]; rfl
theorem Er{M:aC}{ρ:Nat->Nat}:∀ {l:List Nat} {B:aC},j4 M ρ l=some B->B.length=l.length/\∀(i id:Nat),l[i]?=some id->∃b,M[id]?=some b/\b.flat=true/\B[i]?=some (b.pj ρ)
 | [],B,h=>by grind [j4]
 |k::r,B,h=>by
  simp[j4,fc] at h;split at h
  ·split at h
   ·obtain⟨l,hl,h⟩:=bo h;injection h with h; obtain⟨h1,h2⟩:=Er hl
    grind
   grind
  grind
theorem wo{ids:List Nat}:∀ {l:List Nat} {B M:aC},l.Nodup->l.length=B.length->(mb ids M l B).length=M.length/\(∀i,i∉l->(mb ids M l B)[i]?=M[i]?) /\
  ∀(i id:Nat)(b:cI),l[i]?=some id->id<M.length->B[i]?=some b->(mb ids M l B)[id]?=some (b.pj (wv ids))
 | [],B,M,_,_=>by simp[mb]
 |k::r,[],M,_,hl=>by simp at hl
 |k::r,b::B,M,hn,hl=>by
  rw[mb,fi];have hn':=oH.1 hn;obtain⟨h1,h2,h3⟩:=wo (ids:=ids) (B:=B) (M:=M.set k (b.pj (wv ids))) hn'.2 jK
  grind
def NS(ρ:Nat->Nat)(b:cI):(b.pj ρ).tag=b.tag:=by cases b<;>rfl
def yd{ρ:Nat->Nat}{b:cI}(h:b.loose=true):b.pj ρ=b:=by cases b<;>first|rfl|cases h
structure Sub(j:J)(M:aC)(w:World)(ids:List Nat)(B:aC):Prop where
 nodup:ids.Nodup
 len:B.length=ids.length
 box:∀(i id:Nat),ids[i]?=some id->∃b,M[id]?=some b/\b.flat=true/\B[i]?=some (b.pj (iv ids))
 closed:∀(i:Nat)(b:cI),i∈ids->M[i]?=some b->∀x,x∈b.ids->x∈ids
def down(j:J)(M:aC)(ids:List Nat):J:=⟨fun i=>match ids[i]? with|some id=>j id|none=>none,fun b off=>j.X b off\/∃id,id<M.length/\id∉ids/\j id=some b/\¬ ∃sz n,M[id]?=some (.tick sz n)/\off<n*sz⟩
section
variable {j:J} {M B:aC} {w:World} {ids:List Nat}
theorem Sub.at_(s:Sub j M w ids B){id:Nat}(h:id∈ids){b:cI}(hb:M[id]?=some b):B[iv ids id]?=some (b.pj (iv ids)):=by
 obtain⟨b',h1,_,h2⟩:=s.box _ _ (uc h)
 grind
theorem Sub.inv(s:Sub j M w ids B){i:Nat}{c:cI}(h:B[i]?=some c):∃id b,ids[i]?=some id/\M[id]?=some b/\b.flat=true/\c=b.pj (iv ids):=by
 have hi:i<ids.length:=by rw[<-s.len]; grind
 obtain⟨b,h1,h2,h3⟩:=s.box i _ (ai hi)
 grind
theorem nn{id:Nat}(h:id∈ids):(down j M ids) (iv ids id)=j id:=by grind [down,uc]
theorem rp{i b:Nat}(h:(down j M ids) i=some b):∃id,ids[i]?=some id/\j id=some b:=by
 grind [down]
def Sub.iy(s:Sub j M w ids B){b off:Nat}(h:oo j M w b off):oo (down j M ids) B w b off:=by
 refine⟨h.lt,fun i hi hj=>?_,fun hx=>?_⟩
 ·obtain⟨id,h1,h2⟩:=rp hj;obtain⟨bx,h3,_,h4⟩:=s.box i _ h1;obtain⟨sz,n,h5,h6⟩:=h.ids _ (aN h3) h2;rw[h3] at h5; cases h5;exact⟨sz,n,h4,h6⟩
 ·rcases hx with hx|⟨id,h1,_,h2,h3⟩
  ·exact h.nx hx
  ·exact h3 (h.ids _ h1 h2)
theorem Sub.W6(s:Sub j M w ids B){x:ag}{v:Value}(h:gj j M w x v)(hf:x.IV=true)(hi:∀i,i∈x.iG->i∈ids):gj (down j M ids) B w (x.um (iv ids)) v:=by
 cases h with
 |plain h =>
  have:x.um (iv ids)=x:=by cases h<;>rfl
  rw[this];exact .plain (h.mono fun b off hs=>⟨s.iy hs,rfl⟩)
 |c0 A=>exact .c0 A
 | @own k xs v sz n hk hn hp ht =>
  have hki:k∈ids:=hi k (by simp[ag.iG])
  refine .own (sz:=sz) (n:=n) (s.at_ hki hk) hn (hp.mono fun b off hs=>⟨s.iy hs,rfl⟩) fun he=>?_
  rcases ht he with ⟨g1,g2,g3⟩|⟨b,cap,vs,t,g1,g2,g3,g4,g5⟩
  ·exact .inl ⟨by rw[nn hki]; omega,g2,g3⟩
  ·exact .inr ⟨b,cap,vs,t,by rw[nn hki]; exact g1,g2,g3,g4,g5⟩
 |agg=>cases hf
 |tuple=>cases hf
 | @ptr id off b hid hc hj =>
  have hki:id∈ids:=hi id (by simp[ag.iG])
  obtain⟨cs,hc⟩:=hc;exact .ptr (by rw[s.len]; exact uM hki) ⟨_,s.at_ hki hc⟩ (by rw[nn hki]; omega)
 |jE h=>exact .jE fun k c hk=>⟨(h k c hk).1,s.iy (h k c hk).2.1,(h k c hk).2.2.mono fun b off hs=>⟨s.iy hs,rfl⟩⟩
 |func=>cases hf
 | @iw id b hc hj =>
  have hki:id∈ids:=hi id (by simp[ag.iG])
  obtain⟨ks,vs,hc⟩:=hc;exact .iw ⟨_,_,s.at_ hki hc⟩ (by rw[nn hki]; exact hj)
 | @j7 id b hc hj =>
  have hki:id∈ids:=hi id (by simp[ag.iG])
  obtain⟨ks,vs,hc⟩:=hc;exact .j7 ⟨_,_,s.at_ hki hc⟩ (by rw[nn hki]; omega)
 | @kx t id off b hc hj =>
  have hki:id∈ids:=hi id (by simp[ag.iG])
  obtain⟨cs,hc⟩:=hc;exact .kx ⟨_,s.at_ hki hc⟩ (by rw[nn hki]; exact hj)
 |qX hl hd=>exact .qX hl fun i c v h1 h2=>(hd i c v h1 h2).mono fun b off hs=>⟨s.iy hs,rfl⟩
 | @kj ks vs b es cl hb hfr hx hw hk hv hks hvs =>
  refine .kj hb (fun i _ he=>?_) (fun off hx'=>?_) hw hk hv (fun i k e h1 h2=>(hks i k e h1 h2).mono fun b off hs=>⟨s.iy hs,rfl⟩) (fun i k e h1 h2=>(hvs i k e h1 h2).mono fun b off hs=>⟨s.iy hs,rfl⟩)
  ·obtain⟨id,h1,h2⟩:=rp he;obtain⟨bx,h3,_⟩:=s.box _ _ h1
   grind
  ·rcases hx' with hx'|⟨id,h1,_,h2,_⟩
   ·exact hx off hx'
   grind
 | @cv id ver sz0 lo hi v h0 hid hM hv =>
  have hki:id∈ids:=hi id (by simp[ag.iG])
  have hb:=ai hid;have hat:=s.at_ hki hb;rw[yd (hM _ hb)] at hat;refine .cv h0 (by rw[s.len]; exact uM hki) (fun bx hbx=>?_) fun sz v' xs h=>?_
  ·rw[hat] at hbx; exact hM bx (hb.trans hbx)
  ·rw[hat] at h;obtain⟨k1,k2⟩:=hv sz v' xs (hb.trans h)
   exact⟨k1,fun he=>by
    obtain⟨l0,l1,l2,⟨l3,l4,l5⟩|⟨b,cap,vs,t,l3,r⟩⟩:=k2 he
    ·exact⟨l0,l1,l2,.inl ⟨l3,by rw[nn hki]; omega,l5⟩⟩
    exact⟨l0,l1,l2,.inr ⟨b,cap,vs,t,by rw[nn hki]; omega,r⟩⟩⟩
 | @ju id ver i off v h0 hid hM hv =>
  have hki:id∈ids:=hi id (by simp[ag.iG])
  have hb:=ai hid;have hat:=s.at_ hki hb;rw[yd (hM _ hb)] at hat;refine .ju h0 (by rw[s.len]; exact uM hki) (fun bx hbx=>?_) fun sz v' xs h=>?_
  ·rw[hat] at hbx; exact hM bx (hb.trans hbx)
  grind [nn]
 |any v=>exact .any v
theorem Sub.Mg(s:Sub j M w ids B){x:ag}{v:Value}(h:gj j M w x v)(hf:x.vw=true)(hi:∀i,i∈x.nD->i∈ids):gj (down j M ids) B w (x.sf (iv ids)) v:=by
 by_cases hfn:∃f caps,x = .func f caps
 ·obtain⟨f,caps,rfl⟩:=hfn;obtain⟨vs,rfl,hl,hc⟩:=h.rz;refine .func jK fun i c u hci hu=>?_
  rw[aX,aV] at hci;obtain⟨c0,hc0,rfl⟩:=hci;have hm:=aK hc0;exact s.W6 (hc i _ u hc0 hu) (bM.1 hf _ hm) fun q hq=>hi q (js.2 ⟨c0,hm,hq⟩)
 ·have e1:x.sf (iv ids)=x.um (iv ids):=by cases x<;>first|rfl|grind
  have e2:x.nD=x.iG:=by cases x<;>first|rfl|grind
  have e3:x.IV=true:=by cases x<;>first|rfl|exact absurd ⟨_,_,rfl⟩ hfn|cases hf
  rw[e1];exact s.W6 h e3 (by rw[<-e2]; omega)
theorem Sub.rep(s:Sub j M w ids B){x:ag}{v:Value}(h:gj j M w x v)(hf:x.flat=true)(hi:∀i,i∈x.ids->i∈ids):gj (down j M ids) B w (x.pj (iv ids)) v:=by
 by_cases hag:∃cs,x = .agg cs
 ·obtain⟨cs,rfl⟩:=hag;obtain⟨vs,rfl,hl,hc⟩:=h.mZ;refine .agg jK fun i c u hci hu=>?_
  rw[aX,aV] at hci;obtain⟨c0,hc0,rfl⟩:=hci;have hm:=aK hc0;exact s.Mg (hc i _ u hc0 hu) (bM.1 hf _ hm) fun q hq=>hi q (js.2 ⟨c0,hm,hq⟩)
 ·have e1:x.pj (iv ids)=x.sf (iv ids):=by cases x<;>first|rfl|grind
  have e2:x.ids=x.nD:=by cases x<;>first|rfl|grind
  have e3:x.vw=true:=by cases x<;>first|exact hf|grind
  rw[e1];exact s.Mg h e3 (by rw[<-e2]; omega)
theorem Sub.rel(s:Sub j M w ids B)(hr:Rel j M w):Rel (down j M ids) B w:=by
 have QL:∀ {i id:Nat},ids[i]?=some id->id<M.length:=fun h=>by
  obtain⟨b,h1,_⟩:=s.box _ _ h
  grind
 refine⟨fun i i' b hi hi' h h'=>?_,fun i b hi h=>?_,fun i cb h hf=>?_,fun i sz n b h hj=>?_,fun i sz ver xs h=>?_,fun i b hi h off hx=>?_,fun b off h=>?_⟩
 ·obtain⟨id,h1,h2⟩:=rp h;obtain⟨id',h1',h2'⟩:=rp h';have:=hr.inj id id' b (QL h1) (QL h1') h2 h2';subst this;rw[<-CV s.nodup h1,CV s.nodup h1']
 ·obtain⟨id,h1,h2⟩:=rp h;exact hr.lt id b (QL h1) h2
 ·obtain⟨id,bx,h1,h2,h3,h4⟩:=s.inv h;subst h4;have hfx:bx.fixed=true:=by cases bx<;>first|rfl|cases hf
  obtain⟨b,g1,g2⟩:=hr.fix id bx h2 hfx;refine⟨b,by grind [down],?_⟩
  have hcl:∀p,p∈bx.ids->p∈ids:=s.closed id _ (aK h1) h2;cases bx with
  |tick sz n=>cases hf
  |cells cs0 =>
   obtain⟨vs,t,k1,k2,k3⟩:=g2;refine⟨vs,t,k1,by simpa using k2,fun q c v hc hv=>?_⟩
   rw[aX,aV] at hc;obtain⟨c0,hc0,rfl⟩:=hc;have hm:=aK hc0;exact s.Mg (k3 q c0 v hc0 hv) (bM.1 h3 c0 hm) fun p hp=>hcl p (js.2 ⟨c0,hm,hp⟩)
  |map ks vs =>
   obtain⟨es,cl,k1,k2,k3,k4,k5⟩:=g2;refine⟨es,cl,k1,k2,by simpa using k3,fun q c e hc he=>(k4 q c e hc he).mono fun b off hs=>⟨s.iy hs,rfl⟩,fun q c e hc he=>?_⟩
   rw[aX,aV] at hc;obtain⟨c0,hc0,rfl⟩:=hc;have hm:=aK hc0;exact s.rep (k5 q c0 e hc0 he) (bM.1 h3 c0 hm) fun p hp=>hcl p (js.2 ⟨c0,hm,hp⟩)
  |nS st pos=>exact g2
  |vQ=>cases hf
  |arr=>cases hf
 ·obtain⟨id,bx,h1,h2,h3,h4⟩:=s.inv h;obtain⟨id',h1',h2'⟩:=rp hj;rw[h1] at h1'; cases h1';cases bx<;>first|cases h4|skip
  exact hr.tick id _ _ b h2 h2'
 ·obtain⟨id,bx,h1,h2,h3,h4⟩:=s.inv h;cases bx<;>first|cases h4|skip
  obtain⟨g0,g1⟩|⟨b,vs,t,g1,g2,g3,g4,g5⟩:=hr.arr id _ _ _ h2
  ·grind [down]
  exact .inr ⟨b,vs,t,by grind [down],g2,g3,g4,fun q x k c hx hk=>(g5 q x k c hx hk).imp fun u hu=>⟨hu.1,hu.2.mono fun b off hs=>⟨s.iy hs,rfl⟩⟩⟩
 ·obtain⟨id,h1,h2⟩:=rp h;rcases hx with hx|⟨id',g1,g2,g3,_⟩
  ·exact hr.vf id b (QL h1) h2 off hx
  ·have:=hr.inj id id' b (QL h1) g1 h2 g3
   grind
 ·rcases h with h|⟨id,g1,_,g3,_⟩
  ·exact hr.AB b off h
  ·exact hr.lt id b g1 g3
variable {j2:J} {B':aC} {w':World}
open Classical in
noncomputable def Qr(j j2:J)(ids:List Nat):J:=⟨fun id=>if id∈ids then j2 (iv ids id) else j id,j.X⟩
theorem lP{id:Nat}(h:id∈ids):(Qr j j2 ids) id=j2 (iv ids id):=by grind [Qr]
theorem oT{id:Nat}(h:id∉ids):(Qr j j2 ids) id=j id:=by grind [Qr]
structure wQ(j:J)(M B:aC)(w:World)(ids:List Nat)(j2:J)(B':aC)(w':World):Prop where
 sub:Sub j M w ids B
 hr:Rel j M w
 ext:Ext (down j M ids) B w j2 B' w'
 rel:Rel j2 B' w'
 len:B'.length=B.length
 flat:∀b,b∈B'->b.flat=true
variable (bk:wQ j M B w ids j2 B' w')
include bk
theorem wQ.QL{i id:Nat}(h:ids[i]?=some id):id<M.length:=by
 obtain⟨b,h1,_⟩:=bk.sub.box _ _ h
 grind
def wQ.LC{id:Nat}(h:id∈ids){b:cI}(hb:B'[iv ids id]?=some b):(mb ids M ids B')[id]?=some (b.pj (wv ids)) :=
 (wo bk.sub.nodup (by rw[bk.len,bk.sub.len])).2.2 _ _ b (uc h) (bk.QL (uc h)) hb
def wQ.L9{id:Nat}(h:id∉ids):(mb ids M ids B')[id]?=M[id]?:=(wo bk.sub.nodup (by rw[bk.len,bk.sub.len])).2.1 _ h
def wQ.si:(mb ids M ids B').length=M.length:=(wo bk.sub.nodup (by rw[bk.len,bk.sub.len])).1
def wQ.some_{id:Nat}(h:id∈ids):∃b,B'[iv ids id]?=some b/\b.flat=true:=by
 have hi:iv ids id<B'.length:=by rw[bk.len,bk.sub.len]; exact uM h
 exact⟨_,ai hi,bk.flat _ (jr _)⟩
theorem wQ.ui{id b:Nat}(hid:id<M.length)(h:id∉ids)(hj:j id=some b):w'.heap[b]?=w.heap[b]?/\∀i,i<B'.length->j2 i≠some b:=by
 refine bk.ext.ui b (bk.hr.lt _ b hid hj) fun i hi he=>?_
 obtain⟨id',h1,h2⟩:=rp he;have:=bk.hr.inj _ _ b hid (bk.QL h1) hj h2
 grind
def wQ.iy{b off:Nat}(h:oo j2 B' w' b off):oo (Qr j j2 ids) (mb ids M ids B') w' b off:=by
 have hX:=bk.ext.X;have hnx:=h.nx;rw[hX] at hnx;refine⟨h.lt,fun id hid hj=>?_,fun hx=>hnx (.inl hx)⟩
 rw[bk.si] at hid
 by_cases hi:id∈ids
 ·rw[lP hi] at hj;obtain⟨sz,n,h1,h2⟩:=h.ids _ (by rw[bk.len,bk.sub.len]; exact uM hi) hj
  exact⟨sz,n,bk.LC hi h1,h2⟩
 ·rw[oT hi] at hj;rw[bk.L9 hi];exact Classical.byContradiction fun hc=>hnx (.inr ⟨id,hid,hi,hj,hc⟩)
def wQ.YW:Ext j M w (Qr j j2 ids) (mb ids M ids B') w' where
 len:=by rw[bk.si]; exact au _
 size:=bk.ext.size
 os:=bk.ext.os
 tape:=bk.ext.tape
 output:=bk.ext.output
 X:=rfl
 fix:=fun id bx h hf=>by
  by_cases hi:id∈ids
  ·obtain⟨g1,bx',g2,g3⟩:=bk.ext.fix _ _ (bk.sub.at_ hi h) (by cases bx<;>first|rfl|cases hf)
   rw[lP hi,g1,nn hi];refine⟨rfl,_,bk.LC hi g2,?_⟩;rw[NS,g3,NS]
  ·rw[oT hi,bk.L9 hi]; exact⟨rfl,bx,h,rfl⟩
 tick:=fun id sz n h=>by
  by_cases hi:id∈ids
  ·obtain⟨n',g1,g2,g3⟩:=bk.ext.tick _ _ _ (bk.sub.at_ hi h);refine⟨n',g1,bk.LC hi g2,fun he=>?_⟩
   obtain⟨k1,k2⟩:=g3 he;rw[lP hi,k1,nn hi];exact⟨rfl,fun b vs t hb hv=>k2 b vs t (by rw[nn hi]; exact hb) hv⟩
  ·rw[oT hi,bk.L9 hi];exact⟨n,au _,h,fun _=>⟨rfl,fun b vs t hb hv=>⟨vs,(bk.ui (aN h) hi hb).1.trans hv,rfl⟩⟩⟩
 arr:=fun id sz v xs h=>by
  by_cases hi:id∈ids
  ·rcases bk.ext.arr _ _ _ _ (bk.sub.at_ hi h) with ⟨n',g⟩|⟨v',xs',g2,g3,g4⟩
   ·exact .inl ⟨n',bk.LC hi g⟩
   ·refine .inr ⟨v',xs',bk.LC hi g2,g3,fun he=>?_⟩
    obtain⟨k1,k2,k3⟩:=g4 he;rw[lP hi,k1,nn hi];exact⟨rfl,k2,fun b vs t hb hv=>k3 b _ t (by rw[nn hi]; exact hb) hv⟩
  ·rw[oT hi,bk.L9 hi];exact .inr ⟨v,xs,h,au _,fun _=>⟨rfl,rfl,fun b vs t hb hv=>⟨vs,(bk.ui (aN h) hi hb).1.trans hv,rfl⟩⟩⟩
 tags:=bk.ext.tags
 iy:=fun b off h=>by
  obtain⟨h1,h2⟩:=bk.ext.iy b _ (bk.sub.iy h);exact⟨bk.iy h1,h2⟩
 ui:=fun b hb h=>by
  have h1:∀i,i<B.length->(down j M _) i≠some b:=fun i _ he=>by
   obtain⟨id,g1,g2⟩:=rp he;exact h id (bk.QL g1) g2
  obtain⟨h2,h3⟩:=bk.ext.ui b hb h1;refine⟨h2,fun id hid he=>?_⟩
  rw[bk.si] at hid
  by_cases hi:id∈ids
  ·rw[lP hi] at he;exact h3 _ (by rw[bk.len,bk.sub.len]; exact uM hi) he
  ·rw[oT hi] at he;exact h id hid he
def wQ.De{i:Nat}(h:i<B'.length):∃id,ids[i]?=some id/\id∈ids/\wv ids i=id/\iv ids id=i:=by
 have hi:i<ids.length:=by rw[<-bk.sub.len,<-bk.len]; omega
 have hg:=ai hi;exact⟨_,hg,aK hg,aeu hg,CV bk.sub.nodup hg⟩
theorem wQ.W6{x:ag}{v:Value}(h:gj j2 B' w' x v)(hf:x.IV=true):gj (Qr j j2 ids) (mb ids M ids B') w' (x.um (wv ids)) v:=by
 cases h with
 |plain h =>
  have:x.um (wv ids)=x:=by cases h<;>rfl
  rw[this];exact .plain (h.mono fun b off hs=>⟨bk.iy hs,rfl⟩)
 |c0 A=>exact .c0 A
 | @own k xs v sz n hk hn hp ht =>
  obtain⟨id,g1,g2,g3,g4⟩:=bk.De (aN hk);simp only[ag.um,g3];refine .own (sz:=sz) (n:=n) (bk.LC g2 (b := .tick sz n) (by rw[g4]; exact hk)) hn (hp.mono fun b off hs=>⟨bk.iy hs,rfl⟩) fun he=>?_
  rcases ht he with ⟨e1,e2,e3⟩|⟨b,cap,vs,t,e1,e2,e3,e4,e5⟩
  ·exact .inl ⟨by rw[lP g2,g4]; omega,e2,e3⟩
  ·exact .inr ⟨b,cap,vs,t,by rw[lP g2,g4]; grind,e2,e3,e4,e5⟩
 | @kx t k off b hc hj =>
  obtain⟨cs,hc⟩:=hc;obtain⟨id,g1,g2,g3,g4⟩:=bk.De (aN hc);simp only[ag.um,g3];exact .kx ⟨_,bk.LC g2 (b := .cells cs) (by rw[g4]; omega)⟩ (by rw[lP g2,g4]; omega)
 |agg=>cases hf
 |tuple=>cases hf
 | @ptr k off b hid hc hj =>
  obtain⟨id,g1,g2,g3,g4⟩:=bk.De hid;obtain⟨cs,hc⟩:=hc;simp only[ag.um,g3];exact .ptr (by rw[bk.si]; exact bk.QL g1) ⟨_,bk.LC g2 (b := .cells cs) (by rw[g4]; exact hc)⟩ (by rw[lP g2,g4]; omega)
 |jE h=>exact .jE fun k c hk=>⟨(h k c hk).1,bk.iy (h k c hk).2.1,(h k c hk).2.2.mono fun b off hs=>⟨bk.iy hs,rfl⟩⟩
 |func=>cases hf
 | @iw k b hc hj =>
  obtain⟨ks,vs,hc⟩:=hc;obtain⟨id,g1,g2,g3,g4⟩:=bk.De (aN hc);simp only[ag.um,g3];exact .iw ⟨_,_,bk.LC g2 (b := .map ks vs) (by rw[g4]; omega)⟩ (by rw[lP g2,g4]; omega)
 | @j7 k b hc hj =>
  obtain⟨st,p,hc⟩:=hc;obtain⟨id,g1,g2,g3,g4⟩:=bk.De (aN hc);simp only[ag.um,g3];exact .j7 ⟨_,_,bk.LC g2 (b := .nS st p) (by rw[g4]; exact hc)⟩ (by rw[lP g2,g4]; exact hj)
 |qX hl hd=>exact .qX hl fun i c v h1 h2=>(hd i c v h1 h2).mono fun b off hs=>⟨bk.iy hs,rfl⟩
 | @kj ks vs b es cl hb hfr hx hw hk hv hks hvs =>
  rw[bk.ext.X] at hx;refine .kj hb (fun id hid he=>?_) (fun off hx'=>hx off (.inl hx')) hw hk hv (fun i k e h1 h2=>(hks i k e h1 h2).mono fun b off hs=>⟨bk.iy hs,rfl⟩) (fun i k e h1 h2=>(hvs i k e h1 h2).mono fun b off hs=>⟨bk.iy hs,rfl⟩)
  rw[bk.si] at hid
  by_cases m:id∈ids
  ·rw[lP m] at he;exact hfr _ (by rw[bk.len,bk.sub.len]; exact uM m) he
  ·rw[oT m] at he
   by_cases ht:∃sz n,M[id]?=some (.tick sz n)
   ·obtain⟨sz,n,ht⟩:=ht;refine hx (n*sz) (.inr ⟨id,hid,m,he,?_⟩)
    grind
   ·exact hx 0 (.inr ⟨id,hid,m,he,fun⟨sz,n,h1,_⟩=>ht ⟨sz,n,h1⟩⟩)
 | @cv k ver sz0 lo hi v h0 hid hM hv =>
  obtain⟨id,g1,g2,g3,g4⟩:=bk.De hid;have hb:=ai hid;have hin:=bk.LC g2 (b:=B'[k]) (by rw[g4]; exact hb)
  rw[yd (hM _ hb)] at hin;simp only[ag.um,g3];refine .cv h0 (by rw[bk.si]; exact bk.QL g1) (fun bx hbx=>?_) fun sz v' xs h=>?_
  ·rw[hin] at hbx; exact hM bx (hb.trans hbx)
  ·rw[hin] at h;obtain⟨k1,k2⟩:=hv sz v' xs (hb.trans h)
   exact⟨k1,fun he=>by
    obtain⟨l0,l1,l2,⟨l3,l4,l5⟩|⟨b,cap,vs,t,l3,r⟩⟩:=k2 he
    ·exact⟨l0,l1,l2,.inl ⟨l3,by rw[lP g2,g4]; exact l4,l5⟩⟩
    exact⟨l0,l1,l2,.inr ⟨b,cap,vs,t,by rw[lP g2,g4]; exact l3,r⟩⟩⟩
 | @ju k ver i off v h0 hid hM hv =>
  obtain⟨id,g1,g2,g3,g4⟩:=bk.De hid;have hb:=ai hid;have hin:=bk.LC g2 (b:=B'[k]) (by rw[g4]; exact hb)
  rw[yd (hM _ hb)] at hin;simp only[ag.um,g3];refine .ju h0 (by rw[bk.si]; exact bk.QL g1) (fun bx hbx=>?_) fun sz v' xs h=>?_
  ·rw[hin] at hbx; exact hM bx (hb.trans hbx)
  grind [lP]
 |any v=>exact .any v
theorem wQ.Mg{x:ag}{v:Value}(h:gj j2 B' w' x v)(hf:x.vw=true):gj (Qr j j2 ids) (mb ids M ids B') w' (x.sf (wv ids)) v:=by
 by_cases hfn:∃f caps,x = .func f caps
 ·obtain⟨f,caps,rfl⟩:=hfn;obtain⟨vs,rfl,hl,hc⟩:=h.rz;refine .func jK fun i c u hci hu=>?_
  rw[aX,aV] at hci;obtain⟨c0,hc0,rfl⟩:=hci;exact bk.W6 (hc i _ u hc0 hu) (bM.1 hf _ (aK hc0))
 ·have e1:x.sf (wv ids)=x.um (wv ids):=by cases x<;>first|rfl|grind
  have e3:x.IV=true:=by cases x<;>first|rfl|exact absurd ⟨_,_,rfl⟩ hfn|cases hf
  rw[e1];exact bk.W6 h e3
theorem wQ.rep{x:ag}{v:Value}(h:gj j2 B' w' x v)(hf:x.flat=true):gj (Qr j j2 ids) (mb ids M ids B') w' (x.pj (wv ids)) v:=by
 by_cases hag:∃cs,x = .agg cs
 ·obtain⟨cs,rfl⟩:=hag;obtain⟨vs,rfl,hl,hc⟩:=h.mZ;refine .agg jK fun i c u hci hu=>?_
  rw[aX,aV] at hci;obtain⟨c0,hc0,rfl⟩:=hci;exact bk.Mg (hc i _ u hc0 hu) (bM.1 hf _ (aK hc0))
 ·have e1:x.pj (wv ids)=x.sf (wv ids):=by cases x<;>first|rfl|grind
  have e3:x.vw=true:=by cases x<;>first|exact hf|grind
  rw[e1];exact bk.Mg h e3
theorem wQ.aud{x:ag}{v:Value}(h:gj j2 B' w' x v)(hf:x.wA=true):gj (Qr j j2 ids) (mb ids M ids B') w' (x.Ap (wv ids)) v:=by
 by_cases ht:∃vs,x = .tuple vs
 ·obtain⟨cs,rfl⟩:=ht;obtain⟨vs,rfl,hl,hc⟩:=h.tK;refine .tuple jK fun i c u hci hu=>?_
  rw[aX,aV] at hci;obtain⟨c0,hc0,rfl⟩:=hci;exact bk.rep (hc i _ u hc0 hu) (bM.1 hf _ (aK hc0))
 ·have e1:x.Ap (wv ids)=x.pj (wv ids):=by cases x<;>first|rfl|grind
  have e3:x.flat=true:=by cases x<;>first|exact hf|grind
  rw[e1];exact bk.rep h e3
theorem wQ.anQ:Rel (Qr j j2 ids) (mb ids M ids B') w':=by
 have ltin:∀ {id:Nat},id∈ids->iv ids id<B'.length:=fun h=>by rw[bk.len,bk.sub.len]; exact uM h
 refine⟨fun id id' b hi hi' h h'=>?_,fun id b hi h=>?_,fun id cb h hf=>?_,fun id sz n b h hj=>?_,fun id sz ver xs h=>?_,fun id b hi h off hx=>?_,fun b off h=>bu (bk.hr.AB b off h) bk.ext.size⟩
 ·rw[bk.si] at hi hi'
  by_cases m:id∈ids<;>by_cases m':id'∈ids
  ·rw[lP m] at h;rw[lP m'] at h';have:=bk.rel.inj _ _ b (ltin m) (ltin m') h h';rw[<-MA m,this,MA m']
  ·rw[lP m] at h;rw[oT m'] at h';exact absurd h ((bk.ui hi' m' h').2 _ (ltin m))
  ·rw[oT m] at h;rw[lP m'] at h';exact absurd h' ((bk.ui hi m h).2 _ (ltin m'))
  ·rw[oT m] at h;rw[oT m'] at h';exact bk.hr.inj id id' b hi hi' h h'
 ·rw[bk.si] at hi
  by_cases m:id∈ids
  ·rw[lP m] at h; exact bk.rel.lt _ b (ltin m) h
  ·rw[oT m] at h; exact bu (bk.hr.lt id b hi h) bk.ext.size
 ·by_cases m:id∈ids
  ·obtain⟨bx,h1,h2⟩:=bk.some_ m;rw[bk.LC m h1] at h;injection h with h
   subst h;have hfx:bx.fixed=true:=by cases bx<;>first|rfl|cases hf
   obtain⟨b,g1,g2⟩:=bk.rel.fix _ bx h1 hfx;refine⟨b,by rw[lP m]; omega,?_⟩
   cases bx with
   |tick sz n=>cases hf
   |cells cs0 =>
    obtain⟨vs,t,k1,k2,k3⟩:=g2;refine⟨vs,t,k1,jK,fun q c v hc hv=>?_⟩
    rw[aX,aV] at hc;obtain⟨c0,hc0,rfl⟩:=hc;exact bk.Mg (k3 q c0 v hc0 hv) (bM.1 h2 c0 (aK hc0))
   |map ks vs =>
    obtain⟨es,cl,k1,k2,k3,k4,k5⟩:=g2;refine⟨es,cl,k1,k2,jK,fun q c e hc he=>(k4 q c e hc he).mono fun b off hs=>⟨bk.iy hs,rfl⟩,fun q c e hc he=>?_⟩
    rw[aX,aV] at hc;obtain⟨c0,hc0,rfl⟩:=hc;exact bk.rep (k5 q c0 e hc0 he) (bM.1 h2 c0 (aK hc0))
   |nS st pos=>exact g2
   |vQ=>cases hf
   |arr=>cases hf
  ·rw[bk.L9 m] at h;obtain⟨b,g1,g2⟩:=bk.hr.fix id cb h hf;exact⟨b,by rw[oT m]; omega,g2.mono bk.YW (bk.ui (aN h) m g1).1⟩
 ·by_cases m:id∈ids
  ·obtain⟨bx,h1,h2⟩:=bk.some_ m;rw[bk.LC m h1] at h;injection h with h
   rw[lP m] at hj;cases bx<;>first|cases h|skip
   exact bk.rel.tick _ _ _ b h1 hj
  ·rw[bk.L9 m] at h;rw[oT m] at hj;obtain⟨vs,t,g⟩:=bk.hr.tick id sz n b h hj;exact⟨vs,t,(bk.ui (aN h) m hj).1.trans g⟩
 ·by_cases m:id∈ids
  ·obtain⟨bx,h1,h2⟩:=bk.some_ m;rw[bk.LC m h1] at h;injection h with h
   cases bx<;>first|cases h|skip
   obtain⟨g0,g1⟩|⟨b,vs,t,g1,g2,g3,g4,g5⟩:=bk.rel.arr _ _ _ _ h1
   ·grind [lP]
   exact .inr ⟨b,vs,t,by rw[lP m]; omega,g2,g3,g4,fun q x k c hx hk=>(g5 q x k c hx hk).imp fun u hu=>⟨hu.1,hu.2.mono fun b off hs=>⟨bk.iy hs,rfl⟩⟩⟩
  ·rw[bk.L9 m] at h;exact qD bk.hr bk.YW h (oT m) fun b hb=>(bk.ui (aN h) m hb).1
 ·rw[bk.si] at hi
  by_cases m:id∈ids
  ·rw[lP m] at h;have:=bk.rel.vf _ b (ltin m) h off;rw[bk.ext.X] at this;exact this (.inl hx)
  ·rw[oT m] at h;exact bk.hr.vf id b hi h off hx
end
theorem Gy{ρ:Nat->Nat}{x:ag}(h:x.iG=[]):x.um ρ=x:=by
 cases x with
 |slice tk xs=>cases tk<;>first|rfl|grind [ag.iG]
 |ptr=>grind [ag.iG]
 |iw=>grind [ag.iG]
 |j7=>grind [ag.iG]
 |cv=>grind [ag.iG]
 |ju=>grind [ag.iG]
 |kx=>grind [ag.iG]
 |_=>rfl
def JA{ρ:Nat->Nat}:∀ {l:List ag},l.flatMap ag.iG=[]->l.map (ag.um ρ)=l
 | [],_=>rfl
 |c::r,h=>by
  rw[List.flatMap_cons,List.append_eq_nil_iff] at h;rw[aE,Gy h.1,JA h.2]
theorem Gz{ρ:Nat->Nat}{x:ag}(h:x.nD=[]):x.sf ρ=x:=by
 by_cases hf:∃f caps,x = .func f caps
 ·obtain⟨f,caps,rfl⟩:=hf;exact congrArg _ (JA h)
 ·have e1:x.sf ρ=x.um ρ:=by cases x<;>first|rfl|grind
  have e2:x.nD=x.iG:=by cases x<;>first|rfl|grind
  grind [Gy]
def JB{ρ:Nat->Nat}:∀ {l:List ag},l.flatMap ag.nD=[]->l.map (ag.sf ρ)=l
 | [],_=>rfl
 |c::r,h=>by
  rw[List.flatMap_cons,List.append_eq_nil_iff] at h;rw[aE,Gz h.1,JB h.2]
theorem W0{ρ:Nat->Nat}{x:ag}(_:x.flat=true)(h:x.ids=[]):x.pj ρ=x:=by
 by_cases hf:∃cs,x = .agg cs
 ·obtain⟨cs,rfl⟩:=hf;exact congrArg _ (JB h)
 ·have e1:x.pj ρ=x.sf ρ:=by cases x<;>first|rfl|grind
  have e2:x.ids=x.nD:=by cases x<;>first|rfl|grind
  grind [Gz]
theorem rl{P:Program}{C:eP}(hC:nJ P C){j:J}{M:aC}{w:World}{f:Nat}{vs:List ag}{us:Array Value}{x:ag×aC}(hr:Rel j M w)(hG:sO j M w)(h:aU C f vs M=some x)
  (hl:vs.length=us.size) (hv:∀(i:Nat)(c:ag)(u:Value),vs[i]?=some c->us[i]?=some u->gj j M w c u) :
  lF P f=true/\Calls P f us w fun e w'=>vS j M w x e w':=by
 unfold aU at h;generalize hids:reach M (vs.flatMap ag.ids)=ids at h;split at h
 ·rename_i hf;obtain⟨B,hB,h⟩:=bo h;split at h
  ·rename_i hcl;obtain⟨y,hy,h⟩:=bo h;split at h
   ·rename_i hcond;obtain⟨c1,c2,c3⟩:=hcond;cases h;obtain⟨h1,h2⟩:=hC _ _ _ _ hy;obtain⟨p1,p2⟩:=Er hB;have s:Sub j M w ids B:=⟨by rw[<-hids]; simp[JI],p1,p2,fun i b hi hb x hx=>OX hcl hi hb hx⟩
    refine⟨h1,(h2 (down j M ids) w us (s.rel hr) (hG.iy fun b off h=>s.iy h) jK fun i c u hc hu=>?_).mono ?_⟩
    ·rw[aX,aV] at hc;obtain⟨c0,hc0,rfl⟩:=hc;have hm:=aK hc0;exact s.rep (hv i c0 u hc0 hu) (bM.1 hf c0 hm) fun q hq=>by rw[<-hids]; exact PQ (js.2 ⟨c0,hm,hq⟩)
    ·rintro e w' (⟨v,rfl,j2,g1,g2,g3⟩|⟨u,rfl,hu,j2,g1,g2⟩)
     ·have bk:wQ j M B w ids j2 y.2 w':=⟨s,hr,g2,g1,c1,fun b hb=>bM.1 c3 b hb⟩
      exact .inl ⟨v,rfl,Qr j j2 ids,bk.anQ,bk.YW,bk.aud g3 c2⟩
     ·have bk:wQ j M B w ids j2 y.2 w':=⟨s,hr,g2,g1,c1,fun b hb=>bM.1 c3 b hb⟩
      exact .inr ⟨u,rfl,by rw[hu]; rfl,Qr j j2 ids,bk.anQ,bk.YW⟩
   grind
  grind
 grind
theorem Xc{j j2:J}{G:aC}{w w':World}{p sz n:Nat}{xs:List ag}{v:Value}(hr:Rel j G w)(hp:G[p]?=some .vQ)(h2:Rel j2 [.tick sz n] w')(hx:Ext (down j G []) [] w j2 [.tick sz n] w')
  (hv:gj j2 [.tick sz n] w' (.slice (.own 0) xs) v):iR j G w (.slice (.own p) xs,G.set p (.tick sz n)) v w':=by
 have hpl:=aN hp
 have hold:∀b,b<w.heap.size->w'.heap[b]?=w.heap[b]?/\j2 0≠some b:=fun b hb=>by
  obtain⟨h1,h3⟩:=hx.ui b hb (fun i hi=>by simp at hi)
  exact⟨h1,h3 0 dy⟩
 have up:∀i,i≠p->gz j p (j2 0) i=j i:=fun i hi=>by simp[gz,hi]
 have atp:gz j p (j2 0) p=j2 0:=by simp[gz]
 have nX:∀ {b off},oo j2 [.tick sz n] w' b off->¬j.X b off/\∀id,id<G.length->j id=some b->∃sz n,G[id]?=some (.tick sz n)/\off<n*sz:=fun {b off} hs=>by
  have:=hs.nx;rw[hx.X] at this;refine⟨fun h=>this (.inl h),fun id hid hj=>?_⟩
  by_cases hc:∃sz n,G[id]?=some (.tick sz n)/\off<n*sz
  ·exact hc
  ·exact absurd (Or.inr ⟨id,hid,dy,hj,hc⟩) this
 have iy:∀b off,oo j2 [.tick sz n] w' b off->oo (gz j p (j2 0)) (G.set p (.tick sz n)) w' b off:=fun b off hs=>by
  obtain⟨n1,n2⟩:=nX hs;refine⟨hs.lt,fun id hid hj=>?_,n1⟩
  by_cases e:id=p
  ·subst e;rw[atp] at hj;obtain⟨s1,m1,h3,h4⟩:=hs.ids 0 dy hj
   grind
  grind
 have q:Quiet w w':=⟨hx.size,hx.os,hx.tape,hx.output⟩
 have ext:Ext j G w (gz j p (j2 0)) (G.set p (.tick sz n)) w':={
  len:=dy
  size:=q.size
  os:=q.os
  tape:=q.tape
  output:=q.output
  X:=rfl
  fix:=fun i bx h hf=>by
   have e:i≠p:=by rintro rfl; rw[hp] at h; cases h; cases hf
   grind
  tick:=fun i sz n h=>by
   grind
  arr:=fun i sz v xs h=>by
   grind
  tags:=fun b0 vs0 t0 fr0 h=>⟨vs0,fr0,(hold b0 (lt_of_block h)).1.trans h,rfl⟩
  iy:=fun b0 off h=>by
   refine⟨⟨bu h.1 q.size,fun id hid hj=>?_,h.3⟩,World.cell?_of_block (w:=w) (hold b0 h.1).1⟩
   by_cases e:id=p
   ·subst e; rw[atp] at hj; exact absurd hj (hold b0 h.1).2
   ·rw[cJ (eW e)];rw[up id e] at hj;exact h.2 id (by simpa using hid) hj
  ui:=fun b0 cG h=>by
   grind }
 refine⟨gz j p (j2 0),⟨fun i i' b0 hi hi' h h'=>?_,fun i b0 hi h=>?_,fun i bx' h hf=>?_,fun i sz0 n0 b0 h hj=>?_,fun i sz0 ver ys h=>?_,fun i b0 hi h off hxx=>?_,fun b off h=>bu (hr.AB b off h) q.size⟩,ext,?_⟩
 ·simp only[cY] at hi hi'
  by_cases e:i=p<;>by_cases e':i'=p
  ·omega
  ·subst e;rw[atp] at h; rw[up i' e'] at h';exact absurd h (hold b0 (hr.lt i' b0 hi' h')).2
  ·subst e';rw[atp] at h'; rw[up i e] at h;exact absurd h' (hold b0 (hr.lt i b0 hi h)).2
  ·rw[up i e] at h; rw[up i' e'] at h';exact hr.inj i i' b0 hi hi' h h'
 ·simp only[cY] at hi
  by_cases e:i=p
  ·subst e; rw[atp] at h; exact h2.lt 0 b0 dy h
  ·rw[up i e] at h;exact bu (hr.lt i b0 hi h) q.size
 ·by_cases e:i=p
  ·subst e;rw[ec hpl] at h;cases h; cases hf
  ·rw[cJ (eW e)] at h;obtain⟨b0,h1,h3⟩:=hr.fix i bx' h hf;exact⟨b0,by rw[up i e]; exact h1,h3.mono ext (hold b0 (hr.lt i b0 (aN h) h1)).1⟩
 ·by_cases e:i=p
  ·subst e; rw[atp] at hj;exact h2.tick 0 sz n b0 rfl hj
  ·rw[cJ (eW e)] at h;rw[up i e] at hj;obtain⟨vs,t,h1⟩:=hr.tick i sz0 n0 b0 h hj;exact⟨vs,t,(hold b0 (lt_of_block h1)).1.trans h1⟩
 ·by_cases e:i=p
  ·subst e; rw[ec hpl] at h; cases h
  ·rw[cJ (eW e)] at h;exact qD hr ext h (up i e) fun b0 h1=>(hold b0 (hr.lt i b0 (aN h) h1)).1
 ·simp only[cY] at hi
  by_cases e:i=p
  ·subst e; rw[atp] at h;exact absurd h (hold b0 (hr.AB b0 off hxx)).2
  ·rw[up i e] at h;exact hr.vf i b0 hi h off hxx
 ·cases hv with
  |plain h=>cases h
  |own hk hn h ht =>
   simp at hk;obtain⟨rfl,rfl⟩:=hk;refine .own (ec hpl) hn (h.mono fun b off hs=>⟨iy b off hs,rfl⟩) fun he=>?_
   rcases ht he with ⟨h1,h3,h4⟩|⟨b,cap,vs,t,h1,h3,h4,h5,h6⟩
   ·exact .inl ⟨by rw[atp]; exact h1,h3,h4⟩
   ·exact .inr ⟨b,cap,vs,t,by rw[atp]; exact h1,h3,h4,h5,h6⟩
theorem Qg{P:Program}{C:eP}(hC:nJ P C){j:J}{G:aC}{w:World}{f p:Nat}{vs:List ag}{us:Array Value}{xs:List ag}{sz n:Nat}(hr:Rel j G w)(hG:sO j G w)(hp:G[p]?=some .vQ)(hf:vs.all ag.flat=true)(hi:vs.flatMap ag.ids=[])
  (h:C f vs []=some (.slice (.own 0) xs,[.tick sz n])) (hl:vs.length=us.size) (hv:∀(i:Nat)(c:ag)(u:Value),vs[i]?=some c->us[i]?=some u->gj j G w c u) :
  lF P f=true/\Calls P f us w fun e w'=>∃v,e = .returned v/\iR j G w (.slice (.own p) xs,G.set p (.tick sz n)) v w':=by
 obtain⟨h1,h2⟩:=hC _ _ _ _ h;have s:Sub j G w _ []:=⟨lx,rfl,fun i id h=>by simp_all,fun i b hi=>jK⟩
 refine⟨h1,(h2 _ w _ (s.rel hr) (hG.iy fun b off h=>s.iy h) hl fun i c u hc hu=>?_).mono ?_⟩
 ·have hm:=aK hc
  have:=s.rep (hv i c u hc hu) (bM.1 hf c hm) fun q hq=>by
   have hci  := mD.1 hi c hm;rw[hci] at hq; omega
  rwa[W0 (bM.1 hf c hm) (mD.1 hi c hm)] at this
 ·rintro e w' (⟨v,rfl,j2,g1,g2,g3⟩|⟨u,rfl,hu,_⟩)
  ·exact⟨v,rfl,Xc hr hp g1 g2 g3⟩
  grind
section
variable {P:Program} {C:eP} {o:Oper} {bp:Env} {M:aC} {j:J} {w:World} {a:Act} {x:ag×aC}
theorem BT:∀ {xs:List ag} {l:List UInt8},bytesOf xs=some l->l.length=xs.length/\∀(i:Nat)(x:ag),xs[i]?=some x->∃n,x = .int .u8 n/\l[i]?=some (UInt8.ofNat n.toNat)
 | [],l,h=>by grind [bytesOf]
 |y::r,l,h=>by
  unfold bytesOf at h;split at h
  ·grind
  ·rename_i n r' e;injection e with e1 e2; subst e2
   obtain⟨l',h1,h⟩:=bo h;injection h with h; obtain⟨g1,g2⟩:=BT h1
   grind
  grind
def Gq(g:Value->ByteArray->Sem (ForInStep ByteArray))(hg:∀n s,g (.int .u8 n) s=pure (ForInStep.yield (s.push (UInt8.ofNat n.toNat)))):∀(vs:List Value)(l:List UInt8)(s:ByteArray),vs.length=l.length->(∀(i:Nat)(v:Value)(b:UInt8),vs[i]?=some v->l[i]?=some b->∃n,v = .int .u8 n/\b=UInt8.ofNat n.toNat) ->
  (forIn vs s g).run P w = .ok ⟨s.data++l.toArray⟩ w
 | [],[],s,_,_=>by rfl
 |v::vs,b::l,s,hl,h=>by
  obtain⟨n,rfl,rfl⟩:=h 0 v b rfl rfl;have:=Gq g hg vs l (s.push (UInt8.ofNat n.toNat)) jK fun i v b hv hb=>h (i+1) v b jK jK
  simp_all
 | [],_::_,_,hl,_=>jK
 |_::_,[],_,hl,_=>jK
theorem ahr(hr:Rel j M w)(he:cn j M w bp a){s d e:TypeId}{y:Operand}{z:fV}(hop:o.op = .convert s d y)(hs:P.underlying s=some (.slice e))(hd:P.underlying d=some .string)(hu:P.underlying e=some (.int .u8))
  (hz:eV y=some z) (h:ef C bp M (.b2s z)=some x):∃v w',rh P o a w v w'/\iR j M w x v w':=by
 simp only[ef] at h;have h1:=cN he hz;split at h
 ·rename_i tk xs ev;obtain⟨l,hl,h⟩:=bo h;cases h;rw[ev] at h1;obtain⟨g1,g2⟩:=BT hl;refine⟨.string (bs l),w,.inl ?_,.still hr (.plain (.str _))⟩;obtain⟨A,cap,b,off,sz,vs,hv,hc,ha,hwid,hcell,hrep⟩:=h1.ep.ep
  have hrun:(Conv.bytesToString (a.eval y)).run P w = .ok (.string (bs l)) w:=by
   rw[hv];cases A with
   |none =>
    have:xs=[]:=by
     grind
    subst this;have:l=[]:=dB g1;subst this;rfl
   |some A =>
    have hload:∃us:Array Value,(loadCells A xs.length).run P w = .ok us w/\us.size=l.length/\∀(i:Nat)(v:Value)(b:UInt8),us[i]?=some v->l[i]?=some b->∃n,v = .int .u8 n/\b=UInt8.ofNat n.toNat:=by
     by_cases hx:xs=[]
     ·subst hx;have:l=[]:=dB g1;subst this;exact⟨#[],by rfl,rfl,fun i v b h=>by simp at h⟩
     ·have hA:=ha hx;cases hA
      have hsz:sz=1:=by
       cases xs with
       |nil=>grind
       |cons c r =>
        obtain⟨n,rfl,_⟩:=g2 0 c rfl;exact(hwid (.int .u8 n) dy).symm
      subst hsz
      have cellOf:∀i,i<xs.length->∃n,w.cell? ⟨b,off+i,none⟩=some (vs i)/\vs i = .int .u8 n/\l[i]?=some (UInt8.ofNat n.toNat):=by
       intro i hi;have hxi:xs[i]?=some xs[i]:=ai hi;obtain⟨n,hn,hb⟩:=g2 i _ hxi;have q1:=hcell i _ 0 (.int .u8 n) hxi (by rw[hn]; rfl)
       have q2:=hrep i _ 0 (.int .u8 n) hxi (by rw[hn]; rfl)
       simp only[pM,c8] at q1 q2;exact⟨n,q1.1,(gj.plain (j:=j) (M:=M) q2).fT,hb⟩
      refine⟨_,o4 (P:=P) (w:=w) b off xs.length vs (fun k hk=>(cellOf k hk).choose_spec.1),by simp[g1],fun i v c hi hb=>?_⟩
      grind
    obtain⟨us,u1,u2,u3⟩:=hload;simp only[Conv.bytesToString,Sem.run_bind,u1,Result.andThen_ok];rw[<-Array.forIn_toList];refine(congrArg (fun r=>Result.andThen r _) (Gq (P:=P) (w:=w) _ ?_ us.toList l ByteArray.empty aH fun i v b hv hb=>u3 i v b (by simpa using hv) hb)).trans ?_
    ·simp
    simp[bs]
  simp only[execOp,hop,convert,Sem.run_bind,dY hs,dY hd,Result.andThen_ok];rw[hv] at hrun ⊢;cases A<;>simp[dY hu,hrun]
 ·cases h
theorem DA{fk:FK}{k k':ag}{b:Bool}(h:kB fk k k'=some b) :
  (∃t x y,k = .int t x/\k' = .int t y/\fk = .i/\b=(x==y))\/(∃x y,k = .str x/\k' = .str y/\fk = .s/\b=(x==y))\/∃x y,k = .bool x/\k' = .bool y/\fk = .b/\b=(x==y):=by
 unfold kB at h
 grind
def FK.is:FK->TypeDesc->Prop
 | .i,.int _=>True
 | .s,.string=>True
 | .b,.bool=>True
 |_,_=>False
theorem F7{t:TypeId}{fk:FK}(h:D2 P t=some fk):∃d,P.underlying t=some d/\fk.is d:=by
 unfold D2 at h
 split at h<;>first
  |(rename_i hd; cases h; exact⟨_,hd,trivial⟩)
  |grind
theorem J3{fk:FK}{d:TypeDesc}(hd:fk.is d){k k':ag}{b:Bool}(h:kB fk k k'=some b){iy:Nat->Nat->Prop}{v v':Value}(hv:gj j M w k v)(hv':fQ w iy k' v') :
  Instr.sameNow d v v'=some b/\(b=true->Instr.sameBits 10000 v' v=true)/\fQ w (oo j M w) k v:=by
 rcases DA h with ⟨t,x,y,rfl,rfl,rfl,rfl⟩|⟨x,y,rfl,rfl,rfl,rfl⟩|⟨x,y,rfl,rfl,rfl,rfl⟩
 ·have e1:=hv.fT; subst e1; cases hv';cases d<;>first|exact False.elim hd|skip
  exact⟨by simp[Instr.sameNow],fun h=>by grind [Instr.sameBits],.int _ _⟩
 ·have e1:=hv.kE; subst e1; cases hv';cases d<;>first|exact False.elim hd|skip
  have this:∀x y,(bs x==bs y)=(x==y):=fun x y=>by
   show(x.toArray==y.toArray)=(x==y)
   simp
  exact⟨by simp_all [Instr.sameNow],fun h=>by grind [Instr.sameBits],.str _⟩
 ·have e1:=hv.jD; subst e1; cases hv';cases d<;>first|exact False.elim hd|skip
  exact⟨by simp[Instr.sameNow],fun h=>by grind [Instr.sameBits],.bool _⟩
def PB{fk:FK}{k:ag}{b:Bool}(h:kB fk k k=some b){v:Value}(hv:gj j M w k v):fQ w (oo j M w) k v:=by
 rcases DA h with ⟨t,x,y,rfl,_⟩|⟨x,y,rfl,_⟩|⟨x,y,rfl,_⟩
 ·have:=hv.fT; subst this; exact .int _ _
 ·have:=hv.kE; subst this; exact .str _
 ·have:=hv.jD; subst this; exact .bool _
def Fz{fk:FK}{d:TypeDesc}(hd:fk.is d){t:TypeId}(ht:P.underlying t=some d)(e:Bool)(v:Value):(Instr.checkKey e 10000 t v).run P w = .ok () w:=by
 rw[Instr.checkKey.eq_def];simp only[Sem.run_bind,dY ht];cases fk<;>cases d<;>first|exact False.elim hd|(cases v<;>rfl)
theorem IT{fk:FK}{d:TypeDesc}(hd:fk.is d){k:ag}{v:Value}(hv:gj j M w k v){iy:Nat->Nat->Prop}:∀ {ks vs:List ag} {es:List MapEntry} {r:Option ag} (n:Nat),xk fk k ks vs=some r ->
  ks.length=es.length->vs.length=es.length->(∀(i:Nat)(k:ag)(e:MapEntry),ks[i]?=some k->es[i]?=some e->fQ w iy k e.key) ->
  (r=none/\Instr.findNow d v es n=some none)\/∃i u e,r=some u/\vs[i]?=some u/\es[i]?=some e/\Instr.findNow d v es n=some (some (n+i,e.val))
 | [],[],[],r,n,h,_,_,_=>by simp[xk] at h; exact .inl ⟨h.symm,rfl⟩
 |k'::ks,u::vs,e::es,r,n,h,h1,h2,h3=>by
  obtain⟨b,hb,h⟩:=bo h;obtain⟨s1,_⟩:=J3 hd hb hv (h3 0 k' e rfl rfl);rcases lG h with ⟨rfl,h⟩|⟨rfl,h⟩
  ·injection h with h
   exact .inr ⟨0,u,e,h.symm,rfl,rfl,by grind [Instr.findNow]⟩
  ·have hf:Instr.findNow d v (e::es) n=Instr.findNow d v es (n+1):=by rw[Instr.findNow,s1]
   rcases IT hd hv (n+1) h (by simpa using h1) (by simpa using h2) (fun i k e hk he=>h3 (i+1) k e jK jK) with ⟨g1,g2⟩|⟨i,u',e',g1,g2,g3,g4⟩
   ·grind
   ·exact .inr ⟨i+1,u',e',g1,jK,jK,jK⟩
 | [],_::_,[],_,_,_,_,h2,_=>by simp at h2
 |_::_,[],_::_,_,_,_,_,h2,_=>by simp at h2
 | [],_,_::_,_,_,_,h1,_,_=>by simp at h1
 |_::_,_,[],_,_,_,h1,_,_=>by simp at h1
theorem IU{fk:FK}{d:TypeDesc}(hd:fk.is d){k y:ag}{v:Value}(hv:gj j M w k v){iy:Nat->Nat->Prop}:∀ {ks vs:List ag} {es:List MapEntry} {r:List ag×List ag} (n:Nat),xm fk k y ks vs=some r ->
  ks.length=es.length->vs.length=es.length->(∀(i:Nat)(k:ag)(e:MapEntry),ks[i]?=some k->es[i]?=some e->fQ w iy k e.key) ->
  fQ w (oo j M w) k v/\((r=(ks++[k],vs++[y])/\Instr.findNow d v es n=some none)\/∃i e,r=(ks.set i k,vs.set i y)/\es[i]?=some e/\Instr.sameBits 10000 e.key v=true/\Instr.findNow d v es n=some (some (n+i,e.val)))
 | [],[],[],r,n,h,_,_,_=>by
  obtain⟨b,hb,h⟩:=bo h;injection h with h
  exact⟨PB hb hv,.inl ⟨h.symm,rfl⟩⟩
 |k'::ks,u::vs,e::es,r,n,h,h1,h2,h3=>by
  obtain⟨b,hb,h⟩:=bo h;obtain⟨s1,s2,s3⟩:=J3 hd hb hv (h3 0 k' e rfl rfl);refine⟨s3,?_⟩;rcases lG h with ⟨rfl,h⟩|⟨rfl,h⟩
  ·injection h with h
   exact .inr ⟨0,e,h.symm,rfl,s2 rfl,by grind [Instr.findNow]⟩
  ·obtain⟨r',h',h⟩:=bo h;cases h;have hf:Instr.findNow d v (e::es) n=Instr.findNow d v es (n+1):=by rw[Instr.findNow,s1]
   rcases(IU hd hv (n+1) h' (by simpa using h1) (by simpa using h2) (fun i k e hk he=>h3 (i+1) k e jK jK)).2 with ⟨g1,g2⟩|⟨i,e',g1,g2,g3,g4⟩
   ·grind
   ·exact .inr ⟨i+1,e',by rw[g1]; rfl,jK,g3,by rw[hf,g4]; grind⟩
 | [],_::_,[],_,_,_,_,h2,_=>jK
 |_::_,[],_::_,_,_,_,_,h2,_=>jK
 | [],_,_::_,_,_,_,h1,_,_=>by simp at h1
 |_::_,_,[],_,_,_,h1,_,_=>jK
def CC.rep{x:ag}{v:Value}(h:CC w (oo j M w) x v):gj j M w x v:=by
 by_cases hag:∃cs,x = .agg cs
 ·obtain⟨cs,rfl⟩:=hag;obtain⟨us,rfl,h2,h3⟩:=h;exact .agg h2 fun i c u hc hu => .plain (h3 i c u hc hu)
 ·cases x<;>first|exact absurd ⟨_,rfl⟩ hag|exact .plain h
theorem Gd(hr:Rel j M w){m:ag}{v:Value}{e:List ag×List ag}(h:mapOf M m=some e)(hm:gj j M w m v):∃(b:Nat) (es:Array MapEntry) (clock:Nat),v = .map (some b)/\w.heap[b]?=some (.map es clock) /\
  e.1.length=es.size/\e.2.length=es.size/\(∀(i:Nat)(k:ag)(e':MapEntry),e.1[i]?=some k->es[i]?=some e'->fQ w (oo j M w) k e'.key)/\∀(i:Nat)(k:ag)(e':MapEntry),e.2[i]?=some k->es[i]?=some e'->gj j M w k e'.val:=by
 unfold mapOf at h;split at h
 ·split at h
  ·rename_i ks vs hM;injection h with h; rw[fc] at hM
   obtain⟨b,_,hj,rfl⟩:=hm.vC;obtain⟨b',hj',es,clock,g1,g2,g3,g4,g5⟩:=hr.fix _ _ hM rfl
   grind
  grind
 ·cases h;cases hm with
  |plain h=>cases h
  |kj hb hf hx hw hk hv hks hvs=>exact⟨_,_,_,rfl,hw,hk,hv,hks,fun i k e h1 h2=>(hvs i k e h1 h2).rep⟩
 ·cases h
theorem Jz{zero:ag}{ok:Bool}{r:Option ag}{v:Value}(h:gj j M w (r.getD zero) v):gj j M w (ph zero ok r) (if ok then .tuple #[v,.bool r.isSome] else v):=by
 cases ok with
 |false=>exact h
 |true =>
  refine .tuple rfl fun i c u hc hu=>?_
  match i with
  |0=>grind
  |1=>simp at hc hu; subst hc; subst hu; exact .plain (.bool _)
  |n+2=>simp_all
def aaX(hr:Rel j M w)(he:cn j M w bp a){t kt et:TypeId}{m k:Operand}{m' k':fV}{ok:Bool}{fk:FK}{ie:TypeInfo}{zv:Value}{z:ag}(hop:o.op = .lookup t m k ok)(ht:P.underlying t=some (.map kt et))
  (hk:D2 P kt=some fk) (hi:P.info? et=some ie) (hz:ie.zero=some zv) (hzv:Q5 zv=some z) (hm':eV m=some m') (hk':eV k=some k') (h:ef C bp M (.look fk z ok m' k')=some x) :
  ∃v w',rh P o a w v w'/\iR j M w x v w':=by
 simp only[ef] at h;obtain⟨e,h1,h⟩:=bo h;obtain⟨r,h2,h⟩:=bo h;cases h;obtain⟨d,hd,hfk⟩:=F7 hk;obtain⟨b,es,clock,hv,hb,g1,g2,g3,g4⟩:=Gd hr h1 (cN he hm');have hc:∀q,(Instr.checkKey q 10000 kt (a.eval k)).run P w = .ok () w:=fun q=>Fz hfk hd q _
 rcases IT hfk (cN he hk') (es:=es.toList) 0 h2 (by simpa using g1) (by simpa using g2) (fun i k e hk he=>g3 i k e hk (by simpa using he)) with ⟨rfl,f1⟩|⟨i,u,e',rfl,f2,f3,f1⟩
 ·refine⟨if ok then .tuple #[zv,.bool false] else zv,w,.inl ?_,.still hr (Jz (r:=none) (H4 hzv))⟩
  simp[execOp,hop,Instr.lookup,dY ht,hv,MapKept.run_getObj_map hb,hc,Instr.findKey,dY hd,f1,zeroValue,pU hi,hz]
 ·refine⟨if ok then .tuple #[e'.val,.bool true] else e'.val,w,.inl ?_,.still hr (Jz (r:=some u) (g4 i u e' f2 (by simpa using f3)))⟩
  simp[execOp,hop,Instr.lookup,dY ht,hv,MapKept.run_getObj_map hb,hc,Instr.findKey,dY hd,f1]
def aaU(hr:Rel j M w)(he:cn j M w bp a){c:Call}{y:Operand}{z:fV}{t k e:TypeId}(hop:o.op = .call c)(hb:c.callee = .builtin .len)(ha:c.args.toList=[y])
  (ht:c.argTypes[0]?=some t) (hs:P.underlying t=some (.map k e)) (hz:eV y=some z) (h:ef C bp M (.PE z)=some x):∃v w',rh P o a w v w'/\iR j M w x v w':=by
 simp only[ef] at h;obtain⟨e,h1,h⟩:=bo h;cases h;obtain⟨b,es,clock,hv,hbl,g1,g2,g3,g4⟩:=Gd hr h1 (cN he hz);have ha':c.args = #[y]:=by rw[<-ha]
 refine⟨.int .i64 e.1.length,w,.inl ?_,.still hr (.plain (.int _ _))⟩;simp[execOp,hop,resolve,hb,invoke,builtin,Builtin.len_,ha',ht,dY hs,hv,MapKept.run_getObj_map hbl,goInt,g1]
def NF(hr:Rel j M w){bx:cI}{ob:Obj}(hfx:bx.fixed=true)(hh:∀j' M' (w':World),w'.heap[w.heap.size]?=some ob->Holds j' M' w' w.heap.size bx) :
  ∃j':J,Rel j' (M++[bx]) { w with heap:=w.heap.push ob }/\Ext j M w j' (M++[bx]) { w with heap:=w.heap.push ob }/\j' M.length=some w.heap.size:=by
 have q:Quiet w { w with heap:=w.heap.push ob }:=⟨dy,rfl,rfl,rfl⟩
 have hb:∀b,b<w.heap.size->({ w with heap:=w.heap.push ob }:World).heap[b]?=w.heap[b]?:=fun b hb=>by
  show(w.heap.push _)[b]?=_
  rw[fS,aR aH]
 have hn:({ w with heap:=w.heap.push ob }:World).heap[w.heap.size]?=some ob:=dy
 refine⟨gz j M.length (some w.heap.size),hr.push (fun b h=>?_) q hb (fun _=>?_) (fun sz n b h=>by rw[h] at hfx; cases hfx) (fun sz v xs h=>by rw[h] at hfx; cases hfx),Ext.push (fun b h=>?_) q hb,by simp[gz]⟩
 ·cases h; simp
 ·exact⟨_,rfl,fun j' M' hx=>hh j' M' _ hn⟩
 ·injection h with h; omega
def Wy(hr:Rel j M w){t:TypeId}(hop:o.op = .makeMap t none)(h:ef C bp M .mkMap=some x):∃v w',rh P o a w v w'/\iR j M w x v w':=by
 simp only[ef] at h;cases h;obtain⟨j',h1,h2,h3⟩:=NF (ob := .map #[] 0) (bx := .map [] []) hr rfl fun j' M' w' hw=>⟨#[],0,hw,rfl,rfl,fun i k e h=>by simp at h,fun i k e h=>by simp at h⟩
 exact⟨.map (some w.heap.size),_,.inl (by simp[execOp,hop,Instr.makeMap]),j',h1,h2,.iw ⟨[],[],dy⟩ h3⟩
def aa1(hr:Rel j M w)(he:cn j M w bp a){t:TypeId}{y:Operand}{z:fV}(hop:o.op = .range t y)(ht:P.underlying t=some .string)(hz:eV y=some z)(h:ef C bp M (.Qi z)=some x):∃v w',rh P o a w v w'/\iR j M w x v w':=by
 simp only[ef] at h;have h0:=cN he hz;split at h
 ·rename_i s e;rw[e] at h0;cases h;obtain⟨j',h1,h2,h3⟩:=NF (ob := .stringIter (bs s) 0) (bx := .nS s 0) hr rfl fun j' M' w' hw=>hw
  exact⟨.pointer (some ⟨w.heap.size,0,none⟩),_,.inl (by simp[execOp,hop,Instr.range,dY ht,h0.kE]),j',h1,h2,.j7 ⟨s,0,dy⟩ h3⟩
 ·cases h
def HB(hr:Rel j M w){id b:Nat}{bx bx':cI}{ob:Obj}(hM:M[id]?=some bx)(hfx:bx.fixed=true)(htag:bx'.tag=bx.tag)(hj:j id=some b)(hnc:∀vs t fr,w.heap[b]?≠some (.cells vs t fr))
  (hh:∀j' M' (w':World),Ext j M w j' M' w'->w'.heap[b]?=some ob->Holds j' M' w' b bx') :
  Rel j (M.set id bx') { w with heap:=w.heap.setIfInBounds b ob }/\Ext j M w j (M.set id bx') { w with heap:=w.heap.setIfInBounds b ob }:=by
 have q:Quiet w { w with heap:=w.heap.setIfInBounds b ob }:=⟨dy,rfl,rfl,rfl⟩
 have hb:∀b',b'≠b->b'<w.heap.size->({ w with heap:=w.heap.setIfInBounds b ob }:World).heap[b']?=w.heap[b']?:=fun b' hne _=>by
  show(w.heap.setIfInBounds b ob)[b']?=_
  rw[fE (eW hne)]
 have cG:b<w.heap.size:=hr.lt id b (aN hM) hj
 have hn:({ w with heap:=w.heap.setIfInBounds b ob }:World).heap[b]?=some ob:=by
  show(w.heap.setIfInBounds b ob)[b]?=_
  simp[cG]
 exact⟨Rel.store hM hfx htag hj hr q hb (fun vs t fr h=>absurd h (hnc vs t fr)) fun j' M' hx=>hh j' M' _ hx hn,Ext.store hM hfx htag hj hr q hb (fun vs t fr h=>absurd h (hnc vs t fr))⟩
def WA(hr:Rel j M w)(he:cn j M w bp a){y:Operand}{z:fV}(hop:o.op = .next y true)(hz:eV y=some z)(h:ef C bp M (.Gh z)=some x):∃v w',rh P o a w v w'/\iR j M w x v w':=by
 simp only[ef] at h;have h0:=cN he hz;split at h
 ·rename_i id e;rw[e] at h0;obtain⟨b,_,hj,hv⟩:=h0.DV;split at h
  ·rename_i s pos hM;rw[fc] at hM;obtain⟨b',hj',hw⟩:=hr.fix _ _ hM rfl;rw[hj] at hj'; cases hj';have hw:w.heap[b]?=some (.stringIter (bs s) pos):=hw;have hsz:(bs s).size=s.length:=by simp[bs,ByteArray.size]
   have hget:(getObj b).run P w = .ok (.stringIter (bs s) pos) w:=by simp[getObj,Sem.run,hw]
   rcases lG h with ⟨cG,h⟩|⟨cG,h⟩<;>(cases h)
   ·have hlt':pos<s.length:=by simpa using cG
    have hset:∀ob,(setObj b ob).run P w = .ok () { w with heap:=w.heap.setIfInBounds b ob }:=fun ob=>by simp[setObj,Sem.run,hw]
    obtain⟨r1,r2⟩:=HB (ob := .stringIter (bs s) (pos+(Utf8.decode (bs s) pos).2)) (bx' := .nS s (pos+(Utf8.decode ⟨s.toArray⟩ pos).2)) hr hM rfl rfl hj (fun vs t fr h=>by rw[hw] at h; cases h) fun j' M' w' _ hw=>hw
    refine⟨.tuple #[.bool true,goInt pos,.int .i32 (Utf8.decode (bs s) pos).1],{ w with heap:=w.heap.setIfInBounds b (.stringIter (bs s) (pos+(Utf8.decode (bs s) pos).2)) },.inl ?_,j,?_,?_,?_⟩
    ·simp[execOp,hop,Instr.next,hv,hget,hsz,hlt',hset]
    ·rw[fi]; exact r1
    ·rw[fi]; exact r2
    ·refine .tuple rfl fun i c u hc hu=>?_
     match i with
     |0=>simp at hc hu; subst hc; subst hu; exact .plain (.bool _)
     |1=>simp at hc hu; subst hc; subst hu; exact .plain (.int _ _)
     |2=>simp at hc hu; subst hc; subst hu; exact .plain (.int _ _)
     |n+3=>simp at hc
   ·have hlt':¬pos<s.length:=by simpa using cG
    refine⟨.tuple #[.bool false],w,.inl ?_,.still hr (.tuple rfl fun i c u hc hu=>?_)⟩
    ·simp[execOp,hop,Instr.next,hv,hget,hsz,hlt']
    ·match i with
     |0=>simp at hc hu; subst hc; subst hu; exact .plain (.bool _)
     |n+1=>simp at hc
  ·cases h
 ·cases h
def WE(hr:Rel j M w)(he:cn j M w bp a){t kt et:TypeId}{m k y:Operand}{m' k' y':fV}{fk:FK}(hop:o.op = .mapUpdate t m k y\/o.op = .insert t m k y)(ht:P.underlying t=some (.map kt et))
  (hk:D2 P kt=some fk) (hm':eV m=some m') (hk':eV k=some k') (hyr:gj j M w (y'.ev bp) (a.eval y)) (h:ef C bp M (.gz fk m' k' y')=some x):∃v w',rh P o a w v w'/\iR j M w x v w':=by
 simp only[ef] at h;have h0:=cN he hm';split at h
 ·rename_i id e;rw[e] at h0;split at h
  ·rename_i ks vs hM;obtain⟨r,hr',h⟩:=bo h;cases h;rw[fc] at hM;obtain⟨b,_,hj,hv⟩:=h0.vC;obtain⟨b',hj',es,clock,hb,g2,g3,g4,g5⟩:=hr.fix _ _ hM rfl;rw[hj] at hj'; cases hj';obtain⟨d,hd,hfk⟩:=F7 hk;have hc:∀q,(Instr.checkKey q 10000 kt (a.eval k)).run P w = .ok () w:=fun q=>Fz hfk hd q _
   obtain⟨kp,hf⟩:=IU hfk (cN he hk') (es:=es.toList) 0 hr' (by simpa using g2) (by simpa using g3) (fun i k e hk he=>g4 i k e hk (by simpa using he))
   have hset:∀ob,(setObj b ob).run P w = .ok () { w with heap:=w.heap.setIfInBounds b ob }:=fun ob=>MapKept.run_setObj_map ob hb
   rcases hf with ⟨rfl,f1⟩|⟨i,e',rfl,f3,f4,f1⟩
   ·obtain⟨r1,r2⟩:=HB (ob := .map (es.push { key:=a.eval k,val:=a.eval y,born:=clock }) (clock+1)) (bx' := .map (ks++[k'.ev bp]) (vs++[y'.ev bp])) hr hM rfl rfl hj (fun vs t fr h=>by rw[hb] at h; cases h) fun j' M' w' hx hw=>by
     refine⟨_,_,hw,by simp[g2],by simp[g3],fun i k e hk he=>?_,fun i k e hk he=>?_⟩
     ·rw[fS] at he;rw[nL] at hk
      by_cases hi:i=es.size
      ·subst hi;simp[g2] at hk he;subst hk; subst he;exact kp.mono hx.iy
      ·rw[aR hi] at he;have hi':i<es.size:=(fJ.1 he).1;rw[aZ aH] at hk;exact(g4 i k e hk he).mono hx.iy
     ·rw[fS] at he;rw[nL] at hk
      by_cases hi:i=es.size
      ·subst hi;simp[g3] at hk he;subst hk; subst he;exact hyr.mono hx
      ·rw[aR hi] at he;have hi':i<es.size:=(fJ.1 he).1;rw[aZ aH] at hk;exact(g5 i k e hk he).mono hx
    refine⟨undef,{ w with heap:=w.heap.setIfInBounds b (.map (es.push { key:=a.eval k,val:=a.eval y,born:=clock }) (clock+1)) },.inr ⟨?_,rfl⟩,j,?_,?_,.any _⟩
    ·rcases hop with hop|hop<;>simp[execOp,hop,Instr.mapUpdate,dY ht,hv,MapKept.run_getObj_map hb,hc,Instr.findKey,dY hd,f1,hset]
    ·rw[fi]; exact r1
    ·rw[fi]; exact r2
   ·have hi:i<es.size:=by simpa using(aj.1 f3).1
    have he':es[i]?=some e':=by simpa using f3
    obtain⟨r1,r2⟩:=HB (ob := .map (es.modify i fun e=>{ e with key:=a.eval k,val:=a.eval y }) clock) (bx' := .map (ks.set i (k'.ev bp)) (vs.set i (y'.ev bp))) hr hM rfl rfl hj (fun vs t fr h=>by rw[hb] at h; cases h) fun j' M' w' hx hw=>by
     refine⟨_,_,hw,by simp[g2],by simp[g3],fun q k e hk he=>?_,fun q k e hk he=>?_⟩
     ·rw[gU] at he
      by_cases hq:i=q
      ·subst hq;simp[he'] at he;rw[eZ aH] at hk;cases hk; subst he;exact kp.mono hx.iy
      ·rw[aR hq] at he;rw[fa hq] at hk;exact(g4 q k e hk he).mono hx.iy
     ·rw[gU] at he
      by_cases hq:i=q
      ·subst hq;simp[he'] at he;rw[eZ aH] at hk;cases hk; subst he;exact hyr.mono hx
      ·rw[aR hq] at he;rw[fa hq] at hk;exact(g5 q k e hk he).mono hx
    refine⟨undef,{ w with heap:=w.heap.setIfInBounds b (.map (es.modify i fun e=>{ e with key:=a.eval k,val:=a.eval y }) clock) },.inr ⟨?_,rfl⟩,j,?_,?_,.any _⟩
    ·rcases hop with hop|hop<;>simp[execOp,hop,Instr.mapUpdate,dY ht,hv,MapKept.run_getObj_map hb,hc,Instr.findKey,dY hd,f1,hset,he',Instr.keyThatStays,f4]
    ·rw[fi]; exact r1
    ·rw[fi]; exact r2
  ·cases h
 ·cases h
end
def j9(xs:List ag):List ag:=xs.flatMap ag.cells
def oQ(x:ag)(xs:List ag):j9 (x::xs)=x.cells++j9 xs:=rfl
def oO(xs ys:List ag):j9 (xs++ys)=j9 xs++j9 ys:=by simp[j9]
def iM{sz:Nat}:∀ {xs:List ag},wid xs sz->(j9 xs).length=xs.length*sz
 | [],_=>by simp[j9]
 |x::xs,h=>by
  rw[oQ,aA,h x (bD ..),iM fun y hy=>h y (bt _ hy),aw,bP]
  omega
def nB{sz:Nat}{xs ys:List ag}(h1:wid xs sz)(h2:wid ys sz):wid (xs++ys) sz:=fun x hx=>(bm.1 hx).elim (h1 x) (h2 x)
def vP{sz n:Nat}{xs:List ag}(h:wid xs sz):wid (xs.take n) sz:=fun x hx=>h x (dK hx)
def vO{sz n:Nat}{xs:List ag}(h:wid xs sz):wid (xs.drop n) sz:=fun x hx=>h x (dr hx)
def r9{sz:Nat}:∀(n:Nat){xs:List ag},wid xs sz->j9 (xs.take n)=(j9 xs).take (n*sz)
 |0,_,_=>by simp[j9]
 |n+1,[],_=>by simp[j9]
 |n+1,x::xs,h=>by
  have hx:=h x (bD ..);have e:(n+1)*sz=sz+n*sz:=by rw[bP]; omega
  rw[List.take_succ_cons,oQ,oQ,r9 n fun y hy=>h y (bt _ hy),List.take_append,hx,e,iV,bC (l:=x.cells) aH]
def tY{sz:Nat}:∀(n:Nat){xs:List ag},wid xs sz->j9 (xs.drop n)=(j9 xs).drop (n*sz)
 |0,_,_=>dy
 |n+1,[],_=>by simp[j9]
 |n+1,x::xs,h=>by
  have hx:=h x (bD ..);have e:(n+1)*sz=sz+n*sz:=by rw[bP]; omega
  rw[oE,oQ,tY n fun y hy=>h y (bt _ hy),List.drop_append,hx,e,iV,iq (l:=x.cells) aH,aP]
theorem A4{sz:Nat}:∀ {xs:List ag},wid xs sz->∀ {q:Nat} {x:ag} {k:Nat} {c:ag},xs[q]?=some x->x.cells[k]?=some c->(j9 xs)[q*sz+k]?=some c
 | [],_,q,x,k,c,hx,_=>jK
 |y::xs,h,0,x,k,c,hx,hk=>by
  simp at hx; subst hx;rw[oQ,jG,aG,aO (aj.1 hk).1];omega
 |y::xs,h,q+1,x,k,c,hx,hk=>by
  have hy:=h y (bD ..);rw[oQ,bj (by rw[bP]; omega),hy]
  rw[show(q+1)*sz+k-sz=q*sz+k by rw[bP]; omega]
  exact A4 (fun z hz=>h z (bt _ hz)) jK hk
theorem DF{sz:Nat}{xs:List ag}(h:wid xs sz){p:Nat}{c:ag}(hp:(j9 xs)[p]?=some c):∃q x k,xs[q]?=some x/\x.cells[k]?=some c/\p=q*sz+k:=by
 have cG:p<xs.length*sz:=by rw[<-iM h]; grind
 have hsz:0<sz:=by
  grind
 have hq:p / sz<xs.length:=by rw[kW hsz]; omega
 have hk:p % sz<(xs[p / sz]).cells.length:=by rw[h _ (jr _)]; simp_all [kX]
 grind [Nat.mul_comm,Nat.div_add_mod,A4]
def RL(w:World)(iy:Nat->Nat->Prop)(cs:List ag)(vs:List Value):Prop:=cs.length=vs.length/\∀(p:Nat)(c:ag)(v:Value),cs[p]?=some c->vs[p]?=some v->fQ w iy c v
section
variable {w w':World} {iy saf':Nat->Nat->Prop} {cs ds:List ag} {us vs:List Value}
def RL.append(h:RL w iy cs us)(k:RL w iy ds vs):RL w iy (cs++ds) (us++vs):=by
 refine⟨by simp[h.1,k.1],fun p c v hc hv=>?_⟩
 rcases bz p _ with hp|hp
 ·rw[aO hp] at hc;rw[aO (by rw[<-h.1]; omega)] at hv
  exact h.2 p c v hc hv
 ·rw[bj hp] at hc;rw[bj (by rw[<-h.1]; omega),<-h.1] at hv
  exact k.2 _ c v hc hv
theorem RL.take(n:Nat)(h:RL w iy cs us):RL w iy (cs.take n) (us.take n):=by
 refine⟨by simp[h.1],fun p c v hc hv=>?_⟩
 rw[fy] at hc hv;split at hc
 ·rename_i hp;rw[aZ hp] at hv;exact h.2 p c v hc hv
 grind
def RL.drop(n:Nat)(h:RL w iy cs us):RL w iy (cs.drop n) (us.drop n):=by
 refine⟨by simp[h.1],fun p c v hc hv=>?_⟩
 rw[cH] at hc hv;exact h.2 _ c v hc hv
def RL.mono(hm:∀b off,iy b off->saf' b off/\w'.cell? ⟨b,off,none⟩=w.cell? ⟨b,off,none⟩)(h:RL w iy cs us):RL w' saf' cs us:=⟨h.1,fun p c v hc hv=>(h.2 p c v hc hv).mono hm⟩
end
section
variable {j:J} {M:aC} {w:World}
theorem xT{b sz:Nat}{xs:List ag}{vs:Array Value}(hl:xs.length*sz<=vs.size)(hwd:wid xs sz)
  (hc:∀(q:Nat)(x:ag)(k:Nat)(c:ag),xs[q]?=some x->x.cells[k]?=some c->∃v,vs[q*sz+k]?=some v/\fQ w (oo j M w) c v):RL w (oo j M w) (j9 xs) (vs.toList.take (xs.length*sz)):=by
 refine⟨by rw[iM hwd]; grind,fun p c v hp hv=>?_⟩
 obtain⟨q,x,k,h1,h2,rfl⟩:=DF hwd hp
 grind
theorem mG{j':J}{M':aC}{w':World}{b sz:Nat}{t:TypeId}{xs:List ag}{us:List Value}{vs:Array Value}(hw:w'.heap[b]?=some (.cells vs t (0,0)))(hwd:wid xs sz)(hr:RL w' (oo j' M' w') (j9 xs) us)
  (hv:∀p,p<us.length->vs[p]?=us[p]?):Fk j' M' w' b sz xs:=by
 have dJ:us.length=xs.length*sz:=by rw[<-hr.1,iM hwd]
 refine⟨vs,t,hw,?_,hwd,fun q x k c hx hk=>?_⟩
 ·grind
 ·have h1:=A4 hwd hx hk;have hp:q*sz+k<us.length:=by rw[<-hr.1]; grind
  exact⟨us[q*sz+k],by rw[hv _ hp,ai _],hr.2 _ _ _ h1 (ai _)⟩
theorem A7:∀(ids:List Nat){M:aC}{i:Nat}{bx:cI},M[i]?=some bx->(∀sz v xs,bx ≠ .arr sz v xs)->(qz M ids)[i]?=some bx
 | [],_,_,_,h,_=>h
 |a::r,M,i,bx,h,hn=>by
  simp[qz,fc];split
  ·refine A7 r ?_ hn
   grind [fi]
  ·exact A7 r h hn
theorem zP:∀(ids:List Nat){M:aC},Rel j M w->Ext j M w j (qz M ids) w/\Rel j (qz M ids) w/\(qz M ids).length=M.length/\∀id,id∈ids->∀sz v xs,M[id]?=some (.arr sz v xs)->(qz M ids)[id]?=some (.tick sz xs.length)
 | [],M,hr=>⟨.refl _ _ _,hr,rfl,fun id h=>by cases h⟩
 |a::r,M,hr=>by
  simp only[qz,fc];split
  ·rename_i sz v xs hM;rw[fi];obtain⟨h1,h2,h3,h4⟩:=zP r (Rel.freeze hM hr);refine⟨(Ext.freeze hM).trans h1,h2,by rw[h3]; simp,fun id hid sz' v' xs' hid'=>?_⟩
   grind [id,A7,ec,aN]
  ·obtain⟨h1,h2,h3,h4⟩:=zP r hr
   grind
def gj.oY{M':aC}(hr:Rel j M w)(hx:Ext j M w j M' w)(hr':Rel j M' w)(hl:M'.length=M.length){x:ag}{v:Value}(h:gj j M w x v)(hf:∀id,id∈x.iG->∀sz v xs,M[id]?=some (.arr sz v xs)->M'[id]?=some (.tick sz xs.length)):gj j M' w (x.oY M) v:=by
 cases x<;>try exact h.mono hx
 rename_i id ver sz lo hi;simp[ag.oY,fc];split
 ·rename_i sz' v' xs hM;split
  ·rename_i hv;subst hv;obtain⟨_,hid,_,g⟩:=h.ni;obtain⟨e1,l1,l2,⟨rfl,_,A,rfl⟩|⟨b,cap,vs,t,l3,l4,l5,l6,l7⟩⟩:=(g sz' v' xs hM).2 rfl
   ·simp;exact .plain (fQ.nil _ _ _)
   subst e1;obtain⟨b',vs',t',k1,k2,k3,k4,k5⟩:=hr.yN hM l3;rw[l3] at k1; cases k1;rw[l4];refine .plain (xU k2 k4 k5 (fun b off hs=>(hx.iy b off hs).1) (fun off ho=>⟨hr'.lt id b (by rw[hl]; exact aN hM) l3,fun i hi hji=>?_,hr'.vf id b aH l3 off⟩) l1 l2 l5)
   have  := hr'.inj i id b hi (by rw[hl]; exact aN hM) hji l3
   subst this;exact⟨sz',xs.length,hf i (by simp[ag.iG]) _ _ _ hM,ho⟩
  ·exact .any _
 ·exact .any _
theorem gj.ry{M':aC}(hr:Rel j M w)(hx:Ext j M w j M' w)(hr':Rel j M' w)(hl:M'.length=M.length){x:ag}{v:Value}(h:gj j M w x v)(hf:∀id,id∈x.ids->∀sz v xs,M[id]?=some (.arr sz v xs)->M'[id]?=some (.tick sz xs.length)):gj j M' w (x.ry M) v:=by
 by_cases hag:∃cs,x = .agg cs
 ·obtain⟨cs,rfl⟩:=hag;obtain⟨vs,rfl,hl',hc⟩:=h.mZ;refine .agg jK fun i c u hi hu=>?_
  rw[aX,aV] at hi;obtain⟨c0,hc0,rfl⟩:=hi;refine(hc i c0 u hc0 hu).oY hr hx hr' hl fun id hid=>hf _ ?_
  refine js.2 ⟨c0,aK hc0,?_⟩;cases c0<;>first|exact hid|(simp[ag.iG] at hid)
 ·have:x.ry M=x.oY M:=by cases x<;>first|rfl|grind
  rw[this];refine h.oY hr hx hr' hl fun id hid=>hf id ?_
  cases x<;>first|exact hid|exact absurd _ _|grind [ag.iG]
end
section
variable {P:Program} {C:eP} {o:Oper} {bp:Env} {M:aC} {j:J} {w:World} {a:Act} {x:ag×aC}
theorem rN(z:Array Value)(n:Nat):(Builtin.zeroCells z n).toList=(List.replicate n z.toList).flatten:=by
 induction n with
 |zero=>simp[Builtin.zeroCells]
 |succ n ih =>
  rw[nM,List.flatten_append,<-ih];apply cA;intro i;simp only[Builtin.zeroCells,Array.toList_map,Array.toList_range,List.flatten_cons,List.flatten_nil,cX];rcases bz i (n*z.size) with h|h
  ·grind
  ·rw[bj jK];simp only[dU,List.length_range];rcases bz i ((n+1)*z.size) with h2|h2
   ·have h3:i-n*z.size<z.size:=by rw[bP] at h2; omega
    have h4:i % z.size=i-n*z.size:=by
     have:i=(i-n*z.size)+n*z.size:=aH;rw[this,Nat.add_mul_mod_self_right,nG h3]; omega
    rw[aX,ji h2];simp[h4,h3]
   grind
def Pf(n:Nat)(zero:List ag):j9 (List.replicate n (.agg zero))=(List.replicate n zero).flatten:=by
 induction n with
 |zero=>rfl
 |succ n ih=>rw[jj,oQ,ih]; rfl
theorem Q2{iy:Nat->Nat->Prop}(n:Nat){cs:List ag}{us:List Value}(h:RL w iy cs us):RL w iy (List.replicate n cs).flatten (List.replicate n us).flatten:=by
 induction n with
 |zero=>exact⟨rfl,fun p c v hc=>dy⟩
 |succ n ih=>exact h.append ih
theorem xR{id b sz ver ver':Nat}{xs xs':List ag}{vs vs':Array Value}{t:TypeId}{us:List Value}{w':World}(hr:Rel j M w)(hM:M[id]?=some (.arr sz ver xs))(hj:j id=some b)(q:Quiet w w')
  (hb:∀b',b'≠b->b'<w.heap.size->w'.heap[b']?=w.heap[b']?) (hw:w.heap[b]?=some (.cells vs t (0,0))) (hw':w'.heap[b]?=some (.cells vs' t (0,0))) (hs:vs'.size=vs.size)
  (hv:ver<=ver') (hl:ver'=ver->xs'.length=xs.length) (hwd:wid xs' sz) (hrl:RL w (oo j M w) (j9 xs') us) (hus:∀p,p<us.length->vs'[p]?=us[p]?) :
  Rel j (M.set id (.arr sz ver' xs')) w'/\Ext j M w j (M.set id (.arr sz ver' xs')) w':=by
 have hwr:∀vs0 t1,w.heap[b]?=some (.cells vs0 t1 (0,0))->∃vs1,w'.heap[b]?=some (.cells vs1 t1 (0,0))/\vs1.size=vs0.size:=fun vs0 t1 h=>by
  grind
 exact⟨Rel.Fq hM hj hr q hb hwr hv hl fun j' M' hx=>mG hw' hwd (hrl.mono hx.iy) hus,Ext.Fq hM hj hr q hb hwr hv hl⟩
theorem C9{l:List ag}{vs:List Value}(hl:tf vs=some l)(hp:(l.map ag.shut).all ag.plainCell=true):RL w (oo j M w) (l.map ag.shut) vs/\∀v,v∈vs->v.oneCell'=true:=by
 obtain⟨h1,h2⟩:=qC (j:=j) (M:=M) (w:=w) hl;rw[List.all_map,bM] at hp;refine⟨⟨jK,fun p c v hc hv=>?_⟩,fun v hv=>?_⟩
 ·grind [Au,List.mem_of_getElem?]
 ·obtain⟨p,hp',rfl⟩:=kd hv;have hpl:p<l.length:=aH;exact Dm (h2 p _ _ (ai hpl) (ai hp')) (Co (hp _ (jr hpl)))
theorem PW(hr:Rel j M w)(he:cn j M w bp a){c:Call}{y:Operand}{z:fV}{t e:TypeId}{i:TypeInfo}{zv:Value}{l:List ag}(hop:o.op = .call c)(hb:c.callee = .builtin .clear)(ha:c.args.toList=[y])
  (ht:c.argTypes.toList=[t]) (hs:P.underlying t=some (.slice e)) (hi:P.info? e=some i) (hzv:i.zero=some zv) (hl:tf zv.cells.toList=some l) (hsz:l.length=i.size) (hz:eV y=some z)
  (h:ef C bp M (.w6 i.size (l.map ag.shut) z)=some x):∃v w',rh P o a w v w'/\iR j M w x v w':=by
 simp only[ef] at h;have h1:=cN he hz;have ha':c.args = #[y]:=by rw[<-ha]
 have ht':c.argTypes = #[t]:=by rw[<-ht]
 split at h
 ·rename_i tk xs ez;rw[ez] at h1;split at h
  ·cases h;obtain⟨A,cap,b,off,sz,vs,hv,_⟩:=h1.ep.ep;refine⟨.tuple #[],w,.inl ?_,.still hr (.any _)⟩;cases A<;>simp[execOp,hop,resolve,hb,invoke,builtin,Builtin.clear_,ha',ht',dY hs,hv]
  ·cases h
 ·rename_i id ver sz' lo hi' ez;rw[ez] at h1;rw[fc] at h;split at h
  ·rename_i sz0 v0 xs hM;split at h
   ·rename_i hc;obtain⟨c1,c2,c3,c4⟩:=hc;cases h;subst c1; subst c2;obtain⟨_,hid,_,g⟩:=h1.ni;obtain⟨e1,l1,l2,⟨rfl,_,A,hA⟩|⟨b,cap,vs,t0,l3,l4,l5,l6,l7⟩⟩:=(g sz0 v0 xs hM).2 rfl
    ·have hlo:lo=0:=Nat.le_zero.1 (aY l1 l2);have hhi:hi'=0:=Nat.le_zero.1 l2;subst hlo; subst hhi;refine⟨.tuple #[],w,.inl ?_,?_⟩
     ·cases A<;>simp[execOp,hop,resolve,hb,invoke,builtin,Builtin.clear_,ha',ht',dY hs,hA]
     ·rw[fi]
      have he:M.set id (.arr sz0 v0 (List.take 0 ([]:List ag)++(List.replicate (0-0) (ag.agg (l.map ag.shut))++List.drop 0 [])))=M:=by
       apply cA
       grind
      rw[he];exact .still hr (.any _)
    subst e1;obtain⟨b',vs',t',k1,k2,k3,k4,k5⟩:=hr.yN hM l3;rw[l3] at k1; cases k1;rw[l6] at k2; injection k2 with k2; injection k2 with k2 k2'
    subst k2; subst k2';obtain⟨p1,p2⟩:=C9 (j:=j) (M:=M) (w:=w) hl c4;have hzl:zv.cells.toList.length=i.size:=by rw[<-p1.1]; simpa using hsz
    have dJ:(List.replicate (hi'-lo) zv.cells.toList).flatten.length=(hi'-lo)*i.size:=by simp[List.length_flatten,gW,List.sum_replicate_nat,hzl]
    have hbd:lo*i.size+(hi'-lo)*i.size<=xs.length*i.size:=by rw[<-bP]; exact bd _ aH
    have hfit:lo*i.size+(List.replicate (hi'-lo) zv.cells.toList).flatten.length<=vs.size:=by rw[dJ]; omega
    have hone:∀v,v∈(List.replicate (hi'-lo) zv.cells.toList).flatten->v.oneCell'=true:=fun v hv=>by
     obtain⟨r,hr1,hr2⟩:=List.mem_flatten.1 hv;rw[mf hr1] at hr2;exact p2 v hr2
    have hrun:=nA (P:=P) (List.replicate (hi'-lo) zv.cells.toList).flatten w (lo*i.size) 0 vs l6 aH hone;obtain⟨s1,s2,s3,s4,s5,vs',s6,s7,s8,s9⟩:=mw (List.replicate (hi'-lo) zv.cells.toList).flatten w (lo*i.size) vs l6 hfit;have hrow:=xT (b:=b) k3 k4 k5;have hwz:wid (List.replicate (hi'-lo) (ag.agg (l.map ag.shut))) i.size:=fun x hx=>by rw[mf hx]; simpa[ag.cells] using hsz
    have jv:RL w (oo j M w) (j9 (xs.take lo++(List.replicate (hi'-lo) (ag.agg (l.map ag.shut))++xs.drop hi'))) ((vs.toList.take (xs.length*i.size)).take (lo*i.size)++((List.replicate (hi'-lo) zv.cells.toList).flatten++(vs.toList.take (xs.length*i.size)).drop (hi'*i.size))):=by
     rw[oO,oO,r9 lo k4,tY hi' k4,Pf];exact(hrow.take _).append ((Q2 _ p1).append (hrow.drop _))
    have hhi:lo*i.size+(hi'-lo)*i.size=hi'*i.size:=by rw[<-bP,dj l1]
    have hput:=xR (ver':=v0) (xs':=xs.take lo++(List.replicate (hi'-lo) (ag.agg (l.map ag.shut))++xs.drop hi')) hr hM l3 (w':=pr w b (lo*i.size) (List.replicate (hi'-lo) zv.cells.toList).flatten) ⟨aH,s2,s3,s4⟩ (fun b' hb' _=>s5 b' hb') l6 s6 s7 (au _)
     (fun _=>gh) (nB (vP k4) (nB hwz (vO k4))) jv (fun p hp=>by
      have hp':p<xs.length*i.size:=by
       rw[<-jv.1,iM (nB (vP k4) (nB hwz (vO k4)))] at hp;have:(xs.take lo++(List.replicate (hi'-lo) (ag.agg (l.map ag.shut))++xs.drop hi')).length=xs.length:=gh;rwa[this] at hp
      have htk:(List.take (lo*i.size) (vs.toList.take (xs.length*i.size))).length=lo*i.size:=gh;rcases bz p (lo*i.size) with q1|q1
      ·rw[s8 p (.inl q1),aO (by rw[htk]; omega),bH q1,bH hp']; simp
      ·rw[bj (by rw[htk]; exact q1),htk]
       rcases bz p (hi'*i.size) with q2|q2
       ·rw[aO (by rw[dJ]; omega)]
        have:=s9 (p-lo*i.size) (by rw[dJ]; omega)
        rw[dj q1] at this;exact this
       ·rw[bj (by rw[dJ]; omega),s8 p (.inr (by rw[dJ]; omega)),cH,dJ,show hi'*i.size+(p-lo*i.size-(hi'-lo)*i.size)=p by omega,bH hp']; simp)
    rw[fi];rcases gX (hi'-lo) with h0|h0
    ·refine⟨.tuple #[],pr w b (lo*i.size) (List.replicate (hi'-lo) zv.cells.toList).flatten,.inl ?_,j,hput.1,hput.2,.any _⟩;rw[h0] at l4;simp[execOp,hop,resolve,hb,invoke,builtin,Builtin.clear_,ha',ht',dY hs,l4,h0,pr]
    ·refine⟨.tuple #[],pr w b (lo*i.size) (List.replicate (hi'-lo) zv.cells.toList).flatten,.inl ?_,j,hput.1,hput.2,.any _⟩;obtain⟨m,hm⟩:∃m,hi'-lo=m+1:=⟨hi'-lo-1,aH⟩;simp only[c8] at hrun;rw[<-rN,hm] at hrun;rw[hm] at l4;rw[<-rN,hm];simp[execOp,hop,resolve,hb,invoke,builtin,Builtin.clear_,ha',ht',dY hs,l4,zeroValue,pU hi,hzv,hrun]
   ·cases h
  ·cases h
 ·cases h
end
def fQ.xw{j:J}{M:aC}{w:World}{x:ag}{v:Value}(h:gj j M w x v)(hp:x.plainCell=true):fQ w (oo j M w) x v:=by
 cases x with
 |slice tk xs=>cases tk with
  |sh=>exact h.ep
  |c0=>cases hp
  |own k=>cases hp
 |bool b=>cases h with|plain h=>exact h
 |int k n=>cases h with|plain h=>exact h
 |str s=>cases h with|plain h=>exact h
 |raw v=>cases h with|plain h=>exact h
 |agg _=>cases hp
 |tuple _=>cases hp
 |ptr _ _=>cases hp
 |jE _=>cases hp
 |func _ _=>cases hp
 |iw _=>cases hp
 |j7 _=>cases hp
 |kj _ _=>cases hp
 |cv _ _ _ _ _=>cases hp
 |ju _ _ _ _=>cases hp
 |qX _ _=>cases hp
 |nF _=>cases hp
 |kx _ _ _=>cases hp
 |any=>cases hp
def CC.xw{j:J}{M:aC}{w:World}{x:ag}{v:Value}(h:gj j M w x v)(hp:x.plain=true):CC w (oo j M w) x v:=by
 by_cases hag:∃cs,x = .agg cs
 ·obtain⟨cs,rfl⟩:=hag;obtain⟨us,h1,h2,h3⟩:=h.mZ;refine⟨us,h1,h2,fun i c u hc hu => .xw (h3 i c u hc hu) ?_⟩
  simp only[ag.plain,bM] at hp;exact hp c (aK hc)
 ·have e1:x.plain=x.plainCell:=by cases x<;>first|rfl|exact absurd ⟨_,rfl⟩ hag
  have:=fQ.xw h (e1▸hp);cases x<;>first|exact absurd ⟨_,rfl⟩ hag|exact this
def Qk{j:J}{M:aC}{w:World}{x:ag}{v:Value}(h:gj j M w x v):gj j M w x.fR v:=by
 have hs:∀ {x:ag} {v:Value},gj j M w x v->gj j M w x.shut v:=fun {x v} h=>by
  cases x<;>first|exact h|exact .plain h.ep
 by_cases hag:∃cs,x = .agg cs
 ·obtain⟨cs,rfl⟩:=hag;obtain⟨us,rfl,h2,h3⟩:=h.mZ;refine .agg (by simpa using h2) fun i c u hc hu=>?_
  rw[aX,aV] at hc;obtain⟨c0,hc0,rfl⟩:=hc;exact hs (h3 i c0 u hc0 hu)
 ·cases x<;>first|exact absurd ⟨_,rfl⟩ hag|exact h|exact .plain h.ep
section
variable {P:Program} {C:eP} {o:Oper} {bp:Env} {M:aC} {j:J} {w:World} {a:Act} {x:ag×aC}
def Wm(hr:Rel j M w)(he:cn j M w bp a){f:Nat}{first caps:Array Operand}{zs:List fV}(hop:o.op = .makeFunc (.func f) first caps)(hf:caps.isEmpty=true)(hz:vo first.toList=some zs)
  (h:ef C bp M (.Fv f zs)=some x):∃v w',rh P o a w v w'/\iR j M w x v w':=by
 simp only[ef] at h;split at h
 ·rename_i hp;cases h;obtain⟨h1,h2⟩:=uj he hz;have hf':caps = #[]:=by simpa using hf
  refine⟨.func (.func f) (first.map a.eval) #[],w,.inl ?_,.still hr (.qX (by simpa using h1) fun i c v hc hv=>?_)⟩
  ·simp[execOp,hop,Instr.makeFunc,hf']
  ·have hpc:=bM.1 hp c (aK hc);rw[aX,aV] at hc;obtain⟨y,hy,rfl⟩:=hc;rw[iI,aV] at hv;obtain⟨z,hz',rfl⟩:=hv;exact .xw (Qk (h2 i y z hy (by simpa using hz'))) hpc
 ·cases h
def PZ(hr:Rel j M w)(he:cn j M w bp a){y i:Operand}{z z':fV}{t e:TypeId}{len n:Nat}(hop:o.op = .indexAddr t y i)(ht:P.underlying t=some (.array len e))(hn:qB P e=some n)
  (hz:eV y=some z) (hz':eV i=some z') (h:ef C bp M (.Bb len n z z')=some x):∃v w',rh P o a w v w'/\iR j M w x v w':=by
 simp only[ef] at h;have h1:=cN he hz;have h2:=cN he hz';split at h
 ·rename_i cs k m ez ez';obtain⟨⟨h0,hm,hle⟩,h⟩:=da h;cases h;rw[ez] at h1;rw[ez'] at h2;obtain⟨b,off,vs,hv,hc⟩:=h1.uo;refine⟨.pointer (some ⟨b,off+m.toNat*n,none⟩),w,.inl ?_,.still hr (.jE (vs:=fun q=>vs (m.toNat*n+q)) fun q c hq=>?_)⟩
  ·simp[execOp,hop,Instr.indexAt,dY ht,hv,h2.fT,asIntOf,h0,hm,jq hn,lQ,Instr.sureAddr]
  ·rw[cH] at hq;have h3:=hc _ c hq;rw[Nat.add_assoc];exact h3
 ·rename_i id off k m ez ez';obtain⟨⟨h0,hm⟩,h⟩:=da h;cases h;rw[ez] at h1;rw[ez'] at h2;obtain⟨b,h3,h4,h5,hv⟩:=h1.p9;refine⟨.pointer (some ⟨b,off+m.toNat*n,none⟩),w,.inl ?_,.still hr (.ptr h3 h4 h5)⟩;simp[execOp,hop,Instr.indexAt,dY ht,hv,h2.fT,asIntOf,h0,hm,jq hn,lQ,Instr.sureAddr]
 ·cases h
def Qa(hr:Rel j M w){id q sz:Nat}{cs:List ag}(hM:M[id]?=some (.cells cs))(hc:cs[q]?=some (.slice .c0 [])) :
  ∃j',Rel j' (M.set id (.cells (cs.set q (.slice (.own M.length) [])))++[.tick sz 0]) w/\Ext j M w j' (M.set id (.cells (cs.set q (.slice (.own M.length) [])))++[.tick sz 0]) w:=by
 have q0:Quiet w w:=⟨au _,rfl,rfl,rfl⟩;have hr1:Rel (gz j M.length none) (M++[.tick sz 0]) w:=hr.push (ob:=none) (fun b h=>by cases h) q0 (fun _ _=>rfl) (fun h=>by cases h) (fun sz n b h h'=>by cases h')
 have hx1:Ext j M w (gz j M.length none) (M++[.tick sz 0]) w:=Ext.push (fun b h=>by cases h) q0 (fun _ _=>rfl)
 have hid:=aN hM;have hM1:(M++[cI.tick sz 0])[id]?=some (.cells cs):=by rw[xP hid]; exact hM
 obtain⟨b,vs,t,hj,hw,hl,hcs⟩:=hr.box id cs hM;have hj1:gz j M.length none id=some b:=by simp[gz,gG hid,hj]
 have hset:M.set id (cI.cells (cs.set q (.slice (.own M.length) [])))++[cI.tick sz 0]=(M++[cI.tick sz 0]).set id (cI.cells (cs.set q (.slice (.own M.length) []))):=by rw[List.set_append_left _ _ hid]
 rw[hset];have hh:∀j' M',Ext (gz j M.length none) (M++[.tick sz 0]) w j' M' w->Holds j' M' w b (.cells (cs.set q (.slice (.own M.length) []))):=fun j' M' hx=>⟨vs,t,hw,by simpa using hl,fun p c v hc' hv=>gj.mono hx ?_⟩
 ·exact⟨_,Rel.store hM1 rfl rfl hj1 hr1 q0 (fun _ _ _=>rfl) (fun vs t fr h=>⟨vs,fr,h,rfl⟩) hh,hx1.trans (Ext.store hM1 rfl rfl hj1 hr1 q0 (fun _ _ _=>rfl) (fun vs t fr h=>⟨vs,fr,h,rfl⟩))⟩
 ·by_cases hp:q=p
  ·subst hp;rw[eZ (aN hc)] at hc';cases hc';have h1:=hcs q _ v hc hv
   obtain⟨A,hA⟩:∃A,v = .slice A 0 0:=by
    cases h1 with
    |plain h=>cases h
    |c0 A=>exact⟨A,rfl⟩
   rw[hA];exact .own (sz:=sz) (n:=0) dy dy (fQ.nil _ _ _) fun _ => .inl ⟨by simp[gz],rfl,A,rfl⟩
  ·rw[fa hp] at hc';exact gj.mono hx1 (hcs p c v hc' hv)
def Mb(hr:Rel j M w){id q sz:Nat}{cs:List ag}(hM:M[id]?=some (.cells cs))(hc:cs[q]?=some (.slice .c0 [])) :
  ∃j',Rel j' (M.set id (.cells (cs.set q (.cv M.length 0 sz 0 0)))++[.arr sz 0 []]) w/\Ext j M w j' (M.set id (.cells (cs.set q (.cv M.length 0 sz 0 0)))++[.arr sz 0 []]) w:=by
 have q0:Quiet w w:=⟨au _,rfl,rfl,rfl⟩;have hr1:Rel (gz j M.length none) (M++[.arr sz 0 []]) w:=hr.push (ob:=none) (bx := .arr sz 0 []) (fun b h=>by cases h) q0 (fun _ _=>rfl) (fun h=>by cases h) (fun sz n b h h'=>by cases h') (fun sz ver xs h=>by injection h with e1 e2 e3; exact .inl ⟨e3.symm,rfl⟩)
 have hx1:Ext j M w (gz j M.length none) (M++[.arr sz 0 []]) w:=Ext.push (fun b h=>by cases h) q0 (fun _ _=>rfl)
 have hid:=aN hM;have hM1:(M++[cI.arr sz 0 []])[id]?=some (.cells cs):=by rw[xP hid]; exact hM
 obtain⟨b,vs,t,hj,hw,hl,hcs⟩:=hr.box id cs hM;have hj1:gz j M.length none id=some b:=by simp[gz,gG hid,hj]
 have hset:M.set id (cI.cells (cs.set q (.cv M.length 0 sz 0 0)))++[cI.arr sz 0 []]=(M++[cI.arr sz 0 []]).set id (cI.cells (cs.set q (.cv M.length 0 sz 0 0))):=by rw[List.set_append_left _ _ hid]
 rw[hset];have hh:∀j' M',Ext (gz j M.length none) (M++[.arr sz 0 []]) w j' M' w->Holds j' M' w b (.cells (cs.set q (.cv M.length 0 sz 0 0))):=fun j' M' hx=>⟨vs,t,hw,by simpa using hl,fun p c v hc' hv=>gj.mono hx ?_⟩
 ·exact⟨_,Rel.store hM1 rfl rfl hj1 hr1 q0 (fun _ _ _=>rfl) (fun vs t fr h=>⟨vs,fr,h,rfl⟩) hh,hx1.trans (Ext.store hM1 rfl rfl hj1 hr1 q0 (fun _ _ _=>rfl) (fun vs t fr h=>⟨vs,fr,h,rfl⟩))⟩
 ·by_cases hp:q=p
  ·subst hp;rw[eZ (aN hc)] at hc';cases hc';have h1:=hcs q _ v hc hv
   obtain⟨A,hA⟩:∃A,v = .slice A 0 0:=by
    cases h1 with
    |plain h=>cases h
    |c0 A=>exact⟨A,rfl⟩
   rw[hA];refine .cv (.inr ⟨rfl,A,rfl⟩) dy (fun bx hbx=>by rw[kg] at hbx; cases hbx; rfl) fun sz' v' zs hx=>?_
   rw[kg] at hx; injection hx with hx; injection hx with e1 e2 e3
   subst e1; subst e2; subst e3;exact⟨au _,fun _=>⟨rfl,au _,au _,.inl ⟨rfl,by simp[gz],A,rfl⟩⟩⟩
  ·rw[fa hp] at hc';exact gj.mono hx1 (hcs p c v hc' hv)
def Ki{cs new:List ag}{off p:Nat}{x:ag}(h:off+new.length<=cs.length)(hp:p<new.length):mS cs off (new.set p x)=(mS cs off new).set (off+p) x:=by
 apply cA;intro i;rw[ra (by simpa using h)]
 by_cases hi:off+p=i
 ·subst hi;rw[eZ (by rw[uV h]; omega),aZ gh,show off+p-off=p by omega,eZ hp]
 ·rw[fa hi,ra h];simp only[cY];split
  ·rename_i hc;rw[fa aH]
  ·rfl
def P2(hr:Rel j M w)(he:cn j M w bp a){y y':Operand}{z z':fV}{t:TypeId}{n sz p:Nat}(hop:o.op = .store t y y')(hn:qB P t=some n)(hz:eV y=some z)(hz':eV y'=some z')
  (h:ef C bp M (.BF sz p n z z')=some x):∃v w',rh P o a w v w'/\iR j M w x v w':=by
 simp only[ef] at h;split at h
 ·rename_i id off e;split at h
  ·rename_i cs hM;obtain⟨new,jv,h⟩:=bo h;split at h
   ·rename_i hp;split at h
    ·rename_i hcond;cases h
     have hs:ef C bp M (.store n z z')=some (.any,iP M id (.cells (mS cs off new))):=by
      simp only[ef,e,hM,jv,bN];rw[aZ hcond]
     obtain⟨v,w',h1,j',h2,h3,h4⟩:=Ej hr he hop hn hz hz' hs;rw[fc] at hM hp;have cG:=aN hM;have hpl:=aN hp;have hle:off+new.length<=cs.length:=aH;rw[fi] at h2 h3 h4;have hM2:(M.set id (.cells (mS cs off new)))[id]?=some (.cells (mS cs off new)):=ec cG
     have hc2:(mS cs off new)[off+p]?=some (.slice .c0 []):=by
      rw[ra hle,aZ aH,show off+p-off=p by omega]
      exact hp
     rw[fi,fi,Ki hle hpl];unfold P9 P8;split
     ·obtain⟨j'',k1,k2⟩:=Mb (sz:=sz-500) h2 hM2 hc2;rw[List.set_set,cY] at k1 k2;exact⟨v,w',h1,j'',k1,h3.trans k2,.any _⟩
     ·obtain⟨j'',k1,k2⟩:=Qa (sz:=sz) h2 hM2 hc2;rw[List.set_set,cY] at k1 k2;exact⟨v,w',h1,j'',k1,h3.trans k2,.any _⟩
    ·cases h
   ·cases h
  ·cases h
 ·cases h
end
section
variable {P:Program} {C:eP} {o:Oper} {bp:Env} {M:aC} {x:ag×aC} {j:J} {w:World} {a:Act}
def aaZ(hr:Rel j M w)(he:cn j M w bp a){t e:TypeId}{len:Nat}{parts:Array (Nat×Operand)}{i:TypeInfo}(hop:o.op = .buildSlice t len parts)(ht:P.underlying t=some (.slice e))
  (hi:P.info? e=some i) (hzs:GZ 0 parts.toList=some []) (dJ:0=len) (hroom:len*i.size<=2 ^ 24) (hzero:(i.zero.map fun z=>z.cells.size)=some i.size)
  (h:ef C bp M (.own (500+i.size) (.sY (.slice .c0 [])))=some x):∃v w',rh P o a w v w'/\iR j M w x v w':=by
 subst dJ;simp only[ef,fV.ev] at h;cases h;obtain⟨hll,hwd,cells',hcs,hrun,hel⟩:=Bj (w:=w) he hop ht hi hzs rfl hroom hzero (l:=[]) rfl;obtain⟨q,hb,jv⟩:=o9 (w:=w) (.cells cells' e (0,0));refine⟨_,_,.inl hrun,gz j M.length none,?_⟩;unfold P9 P8;rw[aZ (ko _ _),aZ (ko _ _)];refine⟨hr.push (ob:=none) (fun b h=>by cases h) q hb (fun h=>by cases h) (fun sz n b h h'=>by cases h') (fun sz ver xs h=>by injection h with e1 e2 e3; exact .inl ⟨e3.symm,rfl⟩),Ext.push (fun b h=>by cases h) q hb,?_⟩
 refine .cv (.inr ⟨rfl,_,rfl⟩) dy (fun bx hbx=>by rw[kg] at hbx; cases hbx; rfl) fun sz' v' zs hx=>?_
 rw[kg] at hx; injection hx with hx; injection hx with e1 e2 e3
 subst e1; subst e2; subst e3;exact⟨au _,fun _=>⟨rfl,au _,au _,.inl ⟨rfl,by simp[gz],_,rfl⟩⟩⟩
end
section
variable {P:Program} {C:eP} {o:Oper} {bp:Env} {M:aC} {j:J} {w:World} {a:Act} {x:ag×aC}
def Qv{x:ag}{u v:Value}(h:valOf x=some u)(hr:gj j M w x v):v=u:=by
 unfold valOf at h;split at h
 ·cases h; exact hr.fT
 ·rename_i k n;cases h;obtain⟨vs,rfl,hl,hc⟩:=hr.mZ;have hs:vs.size=1:=by simpa using hl.symm
  have h0:vs[0]?=some (vs[0]'(by omega)):=bg aH
  have h1:=(hc 0 _ _ rfl h0).fT;congr 1;apply Array.ext
  ·simpa using hs
  ·intro i h2 h3;have:i=0:=aH;subst this;simpa using h1
 ·cases h
def gj.NR{u v:Value}(h:gj j M w (.raw u) v):v=u:=by cases h with|plain h=>cases h; rfl
def Wu(hr:Rel j M w)(he:cn j M w bp a){t:TypeId}{y:Operand}{z:fV}{d:TypeDesc}(hop:o.op = .makeInterface t y)(hu:P.underlying t=some d)(hd:∀m,d ≠ .interface m)(hz:eV y=some z)
  (h:ef C bp M (.iface t z)=some x):∃v w',rh P o a w v w'/\iR j M w x v w':=by
 simp only[ef] at h;have h1:=cN he hz;split at h
 ·rename_i id off e;cases h;rw[e] at h1;obtain⟨b,_,hc,hj,hy⟩:=h1.p9;refine⟨_,w,.inl ?_,.still hr (.kx hc hj)⟩;simp only[execOp,hop,Instr.makeInterface,hy];cases d<;>first|exact absurd rfl (hd _)|simp[dY hu]
 obtain⟨v,hv,h⟩:=bo h;cases h;have hy:=Qv hv h1;refine⟨.iface t v,w,.inl ?_,.still hr (.plain (.raw _ rfl))⟩;simp only[execOp,hop,Instr.makeInterface,hy];cases d<;>first|exact absurd rfl (hd _)|simp[dY hu]
def WC(hr:Rel j M w)(he:cn j M w bp a){y:Operand}{z:fV}(hop:o.op = .panic y)(hz:eV y=some z)(h:ef C bp M (.raise z)=some x) :
  ∃u,(execOp a.eval o).run P w = .halt (.panic u) w/\HZ j M w x u w:=by
 simp only[ef] at h;have h1:=cN he hz;split at h
 ·rename_i v e;split at h
  ·rename_i t u;cases h;rw[e] at h1;refine⟨.iface t u,?_,rfl,j,hr,Ext.refl j M w⟩;have:a.eval y = .iface t u:=h1.NR;simp[execOp,hop,Instr.panic,this]
  ·cases h
 ·cases h
end
section
variable {P:Program} {C:eP} {o:Oper} {bp:Env} {M:aC} {j:J} {w:World} {a:Act} {x:ag×aC}
def WG(he:cn j M w bp a){y:Operand}{z:fV}(hz:Rj y=some z):gj j M w (z.ev bp) (a.eval y):=by
 unfold Rj at hz;split at hz
 ·cases hz;exact .plain (.raw _ rfl)
 ·exact cN he hz
def R0{n:Nat}(he:cn j M w bp a):∀ {parts:List (Nat×Operand)} {ps:List (Nat×Nat×fV)} {cs cs':List ag} {cells:Array Value},
  xW n parts=some ps->mq bp cs ps=some cs'->RC j M w cs cells ->
  ∃cells',Instr.fill (fun i=>some (i*n,n)) cells (parts.map fun p=>(p.1,a.eval p.2))=some cells'/\RC j M w cs' cells':=by
 intro parts;induction parts with
 |nil =>
  intro ps cs cs' cells h1 h2 h3;simp[xW] at h1; subst h1;simp[mq] at h2; subst h2;exact⟨cells,rfl,h3⟩
 |cons p r ih =>
  intro ps cs cs' cells h1 h2 h3;obtain⟨i,y⟩:=p;simp only[xW] at h1;obtain⟨z,hz,h1⟩:=bf h1;obtain⟨l,hl,h1⟩:=bf h1;cases h1;simp only[mq] at h2;obtain⟨new,jv,h2⟩:=bo h2;split at h2
  ·rename_i hc;obtain⟨c1,c2⟩:=hc;have hrc:=tz (cN he hz) jv;obtain⟨cells',e1,e2⟩:=ih hl h2 (h3.write (off:=i*n) hrc aH);refine⟨cells',?_,e2⟩;have hs1:=hrc.1;have hs2:=h3.1;simp only[aE,Instr.fill];rw[aR gh];exact e1
  ·cases h2
def PV(hr:Rel j M w)(he:cn j M w bp a){t e:TypeId}{len n:Nat}{parts:Array (Nat×Operand)}{i:TypeInfo}{zv:Value}{l:List ag}{ps:List (Nat×Nat×fV)}(hop:o.op = .build t parts)
  (ht:P.underlying t=some (.array len e)) (hi:P.info? t=some i) (hzv:i.zero=some zv) (hl:tf zv.cells.toList=some l) (hn:qB P e=some n) (hps:xW n parts.toList=some ps)
  (h:ef C bp M (.build l ps)=some x):∃v w',rh P o a w v w'/\iR j M w x v w':=by
 simp only[ef] at h;obtain⟨cs,hcs,h⟩:=bo h;cases h;obtain⟨h1,h2⟩:=qC (j:=j) (M:=M) (w:=w) hl;obtain⟨cells',e1,e2⟩:=R0 (n:=n) he hps hcs (cells:=zv.cells) ⟨by simpa using h1,fun i c v hc hv=>h2 i c v hc (by simpa using hv)⟩
 refine⟨.agg cells',w,.inl ?_,.still hr (.agg e2.1 e2.2)⟩;have e1':Instr.fill (fun i=>some (i*n,n)) zv.cells (parts.map fun p=>(p.1,a.eval p.2)).toList=some cells':=by simpa using e1
 simp only[execOp,hop,Instr.build,zeroValue,Sem.run_bind,pU hi,Result.andThen_ok,hzv,Sem.run_pure,dY ht,jq hn];simp only[e1',Sem.run_pure,Result.andThen_ok]
def Lm{a b:ag}{r:Bool}(h:kB .i a b=some r):∃k x y,a = .int k x/\b = .int k y/\r=(x==y):=by
 cases a<;>cases b<;>first
  |(simp only[kB] at h
    split at h
    ·rename_i hk; subst hk; injection h with h; exact⟨_,_,_,rfl,rfl,h.symm⟩
    ·cases h)
  |cases h
def B5{d:Nat}{e:TypeId}{k0:IntKind}(hk:P.underlying e=some (.int k0))(hc1:P.cellsOf e=1){cs ds:List ag}{us vs:Array Value}(hc:RC j M w cs us)(hd:RC j M w ds vs):∀(n k:Nat){r:Bool},kZ (List.replicate n .i) (cs.drop k) (ds.drop k)=some r ->
  (Op.eqItems (d+1) e (P.cellsOf e) us vs (List.range' k n)).run P w = .ok r w
 |0,k,r,h2=>by
  unfold kZ at h2;split at h2<;>simp_all [Op.eqItems]
 |n+1,k,r,h2=>by
  have hk1:k<cs.length:=by
   rcases bz k cs.length with h|h
   ·exact h
   ·rw[jm h,jj] at h2; simp[kZ] at h2
  have hk2:k<ds.length:=by
   rcases bz k ds.length with h|h
   ·exact h
   ·rw[jm h,dp hk1,jj] at h2;simp[kZ] at h2
  rw[dp hk1,dp hk2,jj] at h2;simp only[kZ] at h2;obtain⟨e1,he1,h2⟩:=bo h2;obtain⟨e2,he2,h2⟩:=bo h2;cases h2;have hlu:k<us.size:=by have:=hc.1; omega
  have hlv:k<vs.size:=by have:=hd.1; omega
  have hu:=bg hlu;have hv:=bg hlv;have ih:=B5 (d:=d) hk hc1 hc hd n (k+1) he2;have hr1:=hc.2 k _ _ (ai hk1) hu;have hr2:=hd.2 k _ _ (ai hk2) hv;have hag:CD P e=some false:=by simp[CD,hk]
  have p1:(part e us (k*P.cellsOf e)).run P w = .ok us[k] w:=by simp[part,lJ hag,hc1,hu]
  have p2:(part e vs (k*P.cellsOf e)).run P w = .ok vs[k] w:=by simp[part,lJ hag,hc1,hv]
  have p3:(Op.equalIn (d+1) e us[k] vs[k]).run P w = .ok e1 w:=by
   obtain⟨kk,x,y,e3,e4,rfl⟩:=Lm he1;rw[e3] at hr1; rw[e4] at hr2;rw[hr1.fT,hr2.fT];exact run_equalIn_int w d e _ _ x y hk
  rw[List.range'_succ];simp only[Op.eqItems,Sem.run_bind,p1,p2,p3,Result.andThen_ok];cases e1
  ·simp
  ·simpa using ih
def Wq(hr:Rel j M w)(he:cn j M w bp a){y y':Operand}{z z':fV}{t t' e:TypeId}{len:Nat}{k0:IntKind}(hop:o.op = .binOp .eql t y y' t')(ht:P.underlying t=some (.array len e))(hk:P.underlying e=some (.int k0))(hs:qB P e=some 1)
  (hz:eV y=some z) (hz':eV y'=some z') (h:ef C bp M (.QG (List.replicate len .i) false z z')=some x):∃v w',rh P o a w v w'/\iR j M w x v w':=by
 simp only[ef] at h;have h1:=cN he hz;have h2:=cN he hz';split at h
 ·rename_i cs ds ez ez';obtain⟨r,hee,h⟩:=bo h;cases h;rw[ez] at h1;rw[ez'] at h2;obtain⟨us,hus,hul,huc⟩:=h1.mZ;obtain⟨vs,hvs,hvl,hvc⟩:=h2.mZ;obtain⟨inf,hinf,hsz⟩:=EJ hs;have hc1:P.cellsOf e=1:=by simp[Program.cellsOf,hinf,hsz]
  have heq:(Op.equal t (.agg us) (.agg vs)).run P w = .ok r w:=by
   unfold Op.equal;rw[show Op.maxDepth=9998+1+1 from rfl,run_equalIn_array w (9998+1) us vs ht hinf,ly]
   exact B5 (d:=9998) hk hc1 ⟨hul,huc⟩ ⟨hvl,hvc⟩ len 0 (by simpa using hee)
  have hgt:P.eqGuardType P.depth t=false:=by
   unfold Program.depth;rw[show 2*(P.types.size+Made.depth)+2=(2*(P.types.size+Made.depth))+1+1 from rfl,Program.eqGuardType,ht]
   simp only[Program.eqGuardType,hk]
  have hguard:∀op,(eqGuard op t y y' (.agg us) (.agg vs)).run P w = .ok () w:=by
   intro op;unfold eqGuard;cases op<;>simp[hgt]
  exact⟨.bool r,w,.inl (by simp[execOp,hop,hus,hvs,hguard,binOp,heq]),.still hr (.plain (.bool _))⟩
 ·cases h
def uh{l:List ag}(hp:0<l.length)(h1:l.all ag.plainCell=true):(ag.agg l).norm.cells=l:=by
 match l with
 | []=>simp at hp
 | [c] =>
  simp only[kL,List.all_nil,gA] at h1
  show c.cells=[c]
  cases c<;>first|rfl|cases h1
 |_::_::_=>rfl
def V3(z:Array Value)(n k:Nat)(h:k<n)(hz:0<z.size):(madeCells z n)[k]?=z[k % z.size]?:=by
 have hm:k % z.size<z.size:=kX _ hz;rw[bg hm];simp[madeCells,h,hm]
def Ow(w:World)(iy:Nat->Nat->Prop){v:Value}{c:ag}(h:KA v=some c):fQ w iy c.shut v:=by
 unfold KA at h
 split at h<;>first
  |(cases h; first|exact .bool _|exact .int _ _|exact .str _|exact .raw _ rfl|exact fQ.nil _ _ _)
  |cases h
def H2:∀ {vs:List Value} {l:List ag},tf vs=some l->∀(i:Nat)(c:ag)(v:Value),l[i]?=some c->vs[i]?=some v->KA v=some c
 | [],l,h,i,c,v,h1,h2=>by simp at h2
 |u::r,l,h,i,c,v,h1,h2=>by
  simp only[tf] at h;obtain⟨x,hx,h⟩:=bf h;obtain⟨l',hl,h⟩:=bf h;cases h;cases i with
  |zero=>simp at h1 h2; subst h1; subst h2; exact hx
  |succ i=>exact H2 hl i c v (by simpa using h1) (by simpa using h2)
def NC{t e:TypeId}{i:TypeInfo}{zv:Value}{l:List ag}{y:Operand}{k:Int}{kk:IntKind}(hop:o.op = .makeSlice t y y)(ht:P.underlying t=some (.slice e))(hi:P.info? e=some i)(hzv:i.zero=some zv)
  (hl:tf zv.cells.toList=some l) (c1:l.length=i.size) (c2:0<i.size) (c3:i.bytes<=32*i.size) (hev:a.eval y = .int kk k) (h0:0<=k) (hroom:cp k.toNat (8*(l.map ag.shut).length)) (hpl:(l.map ag.shut).all ag.plainCell=true) :
  ∃row:Array Value,(execOp a.eval o).run P w = .ok (.value (.slice (some ⟨w.heap.size,0,none⟩) k.toNat k.toNat)) (w.alloc (.cells row e))/\row.size=k.toNat*i.size /\
   ∀iy (w':World) (q:Nat) (x:ag) (p:Nat) (c:ag),(List.replicate k.toNat (ag.agg (l.map ag.shut)).norm)[q]?=some x->x.cells[p]?=some c->∃v,row[q*i.size+p]?=some v/\fQ w' iy c v:=by
 have hls:(l.map ag.shut).length=i.size:=by simpa using c1
 have hzs:zv.cells.size=i.size:=by
  have:=(qC (j:=⟨fun _=>none,fun _ _=>False⟩) (M:=[]) (w:=w) hl).1
  simp at this; omega
 unfold cp at hroom;rw[hls] at hroom
 have hb:i.bytes*k.toNat<=2 ^ 46:=by
  have h1:=bd k.toNat c3;have h2:32*i.size*k.toNat=4*(k.toNat*(8*i.size)):=by rw[show(32:Nat)=4*8 from rfl,Nat.mul_assoc 4 8,Nat.mul_assoc 4,Nat.mul_comm (8*i.size)]
  omega
 have hk44:k.toNat<=2 ^ 44:=aY (fK _ aH) hroom
 have hrun:=run_make (P:=P) w t e i zv ht hi hzv kk kk k k h0 (dL _) (by
  have:((i.bytes*k.toNat:Nat):Int)<=2 ^ 46:=by exact_mod_cast hb
  rw[Int.natCast_mul,oy h0] at this;omega) aH
 refine⟨madeCells zv.cells (k.toNat*i.size),by simp[execOp,hop,hev,hrun],size_madeCells _ _,fun iy w' q x p c hx hc=>?_⟩
 rw[iU] at hx;split at hx
 ·rename_i hq;cases hx;rw[uh aH hpl] at hc;have hp:p<i.size:=by rw[<-hls]; exact aN hc
  have cG:q*i.size+p<k.toNat*i.size:=by
   have:(q+1)*i.size<=k.toNat*i.size:=bd _ hq;rw[bP,fL] at this;omega
  rw[V3 _ _ _ cG aH,hzs,Nat.add_comm,Nat.add_mul_mod_self_right,nG hp];rw[aX,aV] at hc;obtain⟨c0,hc0,rfl⟩:=hc;have hpz:p<zv.cells.size:=aH;have hv:=bg hpz;refine⟨_,hv,?_⟩;exact Ow w' iy (H2 hl p c0 _ hc0 dy)
 ·cases hx
def Wz(hr:Rel j M w)(he:cn j M w bp a){t e:TypeId}{i:TypeInfo}{zv:Value}{l:List ag}{y:Operand}{z:fV}(hop:o.op = .makeSlice t y y)(ht:P.underlying t=some (.slice e))(hi:P.info? e=some i)(hzv:i.zero=some zv)
  (hl:tf zv.cells.toList=some l) (hz:eV y=some z) (c1:l.length=i.size) (c2:0<i.size) (c3:i.bytes<=32*i.size) (h:ef C bp M (.mkS (l.map ag.shut) z)=some x):∃v w',rh P o a w v w'/\iR j M w x v w':=by
 simp only[ef] at h;have h1:=cN he hz;split at h
 ·rename_i kk k ek;obtain⟨⟨h0,hroom,hpl⟩,h⟩:=da h;cases h;rw[ek] at h1;obtain⟨row,hrun,hsz,hel⟩:=NC (w:=w) hop ht hi hzv hl c1 c2 c3 h1.fT h0 hroom hpl;have hls:(l.map ag.shut).length=i.size:=by simpa using c1
  obtain⟨q,hb,jv⟩:=o9 (w:=w) (.cells row e (0,0));refine⟨_,{ w with heap:=w.heap.push (.cells row e (0,0)) },.inl hrun,?_⟩
  have ext:Ext j M w j M { w with heap:=w.heap.push (.cells row e (0,0)) }:=Ext.grow q.size rfl rfl rfl hb
  have rel:Rel j M { w with heap:=w.heap.push (.cells row e (0,0)) }:=hr.grow q.size rfl rfl rfl hb
  refine⟨j,rel,ext,.plain (.slice _ _ _ _ w.heap.size 0 i.size (fun p=>(row[p]?).getD undef) dy (au _) (fun _=>rfl) (fun x hx=>?_) (fun n y k c hn hk=>?_) (fun n y k c hn hk=>?_))⟩
  ·obtain⟨_,rfl⟩:=List.mem_replicate.1 hx;rw[uh aH hpl,hls]
  ·obtain⟨u,hu,_⟩:=hel (oo j M { w with heap:=w.heap.push (.cells row e (0,0)) }) { w with heap:=w.heap.push (.cells row e (0,0)) } n y k c hn hk
   refine⟨?_,dy,fun id hid hj=>?_,fun hx=>absurd (hr.AB _ _ hx) (ia _)⟩
   ·simp only[World.cell?,jv,aG,hu];rfl
   ·have:=hr.lt id _ hid hj;omega
  ·obtain⟨u,hu,hru⟩:=hel (oo j M { w with heap:=w.heap.push (.cells row e (0,0)) }) { w with heap:=w.heap.push (.cells row e (0,0)) } n y k c hn hk
   rw[hu];exact hru
 ·cases h
def aaY(hr:Rel j M w)(he:cn j M w bp a){t e:TypeId}{i:TypeInfo}{zv:Value}{l:List ag}{y:Operand}{z:fV}(hop:o.op = .makeSlice t y y)(ht:P.underlying t=some (.slice e))(hi:P.info? e=some i)(hzv:i.zero=some zv)
  (hl:tf zv.cells.toList=some l) (hz:eV y=some z) (c1:l.length=i.size) (c2:0<i.size) (c3:i.bytes<=32*i.size) (h:ef C bp M (.PR (l.map ag.shut) z)=some x):∃v w',rh P o a w v w'/\iR j M w x v w':=by
 simp only[ef] at h;have h1:=cN he hz;split at h
 ·rename_i kk k ek;obtain⟨⟨h0,hroom,hpl⟩,h⟩:=da h;cases h;rw[ek] at h1;obtain⟨row,hrun,hsz,hel⟩:=NC (w:=w) hop ht hi hzv hl c1 c2 c3 h1.fT h0 hroom hpl;have hls:(l.map ag.shut).length=i.size:=by simpa using c1
  rw[hls];obtain⟨q,hb,jv⟩:=o9 (w:=w) (.cells row e (0,0));have hob:∀b,some w.heap.size=some b->w.heap.size<=b/\b<({ w with heap:=w.heap.push (.cells row e (0,0)) }:World).heap.size:=fun b h=>by cases h; simp
  have ext:Ext j M w (gz j M.length (some w.heap.size)) (M++[.arr i.size 0 (List.replicate k.toNat (ag.agg (l.map ag.shut)).norm)]) { w with heap:=w.heap.push (.cells row e (0,0)) }:=Ext.push (fun b hb=>(hob b hb).1) q hb
  refine⟨_,{ w with heap:=w.heap.push (.cells row e (0,0)) },.inl hrun,gz j M.length (some w.heap.size),hr.push hob q hb (fun h=>by cases h) (fun sz n b h _=>by cases h) (fun sz0 v0 xs0 he=>?_),ext,?_⟩
  ·injection he with e1 e2 e3
   subst e1; subst e2; subst e3;refine .inr ⟨w.heap.size,row,e,rfl,jv,by simp[hsz],fun x hx=>?_,fun j' M' hx q0 x p c hq hp=>hel (oo j' M' { w with heap:=w.heap.push (.cells row e (0,0)) }) { w with heap:=w.heap.push (.cells row e (0,0)) } q0 x p c hq hp⟩
   obtain⟨_,rfl⟩:=List.mem_replicate.1 hx;rw[uh aH hpl,hls]
  ·refine .cv (.inl ⟨_,_,_,by rw[bO],aH⟩) dy (fun bx hbx=>by rw[kg] at hbx; cases hbx; rfl) fun sz' v' ys hx=>?_
   rw[kg] at hx; injection hx with hx; injection hx with e1 e2 e3
   subst e1; subst e2; subst e3;exact⟨au _,fun _=>⟨rfl,cL _,dy,.inr ⟨w.heap.size,k.toNat,row,e,by simp[gz],dy,aH,jv,by rw[aG]; omega⟩⟩⟩
 ·cases h
end
section
variable {j:J} {M:aC} {w w':World}
def Ext.uW{k b' sz ver ver':Nat}{xs xs':List ag}(hM:M[k]?=some (.arr sz ver xs))(q:Quiet w w')(hb:∀b,b<w.heap.size->w'.heap[b]?=w.heap[b]?)(hf:w.heap.size<=b')(hn:ver<ver') :
  Ext j M w (gz j k (some b')) (M.set k (.arr sz ver' xs')) w' where
 len:=dy
 size:=q.size
 os:=q.os
 tape:=q.tape
 output:=q.output
 X:=rfl
 fix:=fun i b0 h hf=>by
  have e:k≠i:=by rintro rfl; rw[hM] at h; cases h; cases hf
  exact⟨by simp[gz,eW e],b0,by rw[cJ e]; exact h,rfl⟩
 tick:=fun i sz0 n0 h=>by
  have e:k≠i:=by rintro rfl; rw[hM] at h; cases h
  exact⟨n0,au _,by rw[cJ e]; exact h,fun _=>⟨by simp[gz,eW e],fun b vs0 t0 _ hv=>⟨vs0,(hb b (lt_of_block hv)).trans hv,rfl⟩⟩⟩
 arr:=fun i sz0 v0 xs0 h=>by
  by_cases e:k=i
  ·subst e;rw[hM] at h;injection h with h; injection h with h1 h2 h3
   subst h1; subst h2; subst h3;exact .inr ⟨ver',xs',ec (aN hM),aH,fun he=>aH⟩
  ·exact .inr ⟨v0,xs0,by rw[cJ e]; exact h,au _,fun _=>⟨by simp[gz,eW e],rfl,fun b vs0 t0 _ hv=>⟨vs0,(hb b (lt_of_block hv)).trans hv,rfl⟩⟩⟩
 tags:=fun b0 vs0 t0 fr0 h=>⟨vs0,fr0,(hb b0 (lt_of_block h)).trans h,rfl⟩
 iy:=fun b0 off h=>by
  refine⟨⟨bu h.1 q.size,fun i hi hji=>?_,h.3⟩,World.cell?_of_block (w:=w) (hb b0 h.1)⟩
  have e:k≠i:=by
   rintro rfl;have:b'=b0:=by simpa[gz] using hji
   have:=h.1;omega
  rw[cJ e];exact h.2 i (by simpa using hi) (by simpa[gz,eW e] using hji)
 ui:=fun b0 cG h=>by
  refine⟨hb b0 cG,fun i hi hji=>?_⟩
  by_cases e:i=k
  ·have:b'=b0:=by simpa[gz,e] using hji
   omega
  ·exact h i (by simpa using hi) (by simpa[gz,e] using hji)
def Rel.uW{k b' sz ver ver':Nat}{xs xs':List ag}(hM:M[k]?=some (.arr sz ver xs))(hr:Rel j M w)(q:Quiet w w')(hb:∀b,b<w.heap.size->w'.heap[b]?=w.heap[b]?)
  (hf:w.heap.size<=b') (cG:b'<w'.heap.size) (hn:ver<ver') (hh:∀j' M',Ext j M w j' M' w'->Fk j' M' w' b' sz xs'):Rel (gz j k (some b')) (M.set k (.arr sz ver' xs')) w':=by
 have ext:Ext j M w (gz j k (some b')) (M.set k (.arr sz ver' xs')) w':=Ext.uW hM q hb hf hn;refine⟨fun i i' b0 hi hi' h h'=>?_,fun i b0 hi h=>?_,fun i bx0 h hf=>?_,fun i sz0 n0 b0 h hji=>?_,fun i sz0 v0 xs0 h=>?_,fun i b0 hi h off hx=>?_,fun b0 off h=>bu (hr.AB b0 off h) q.size⟩
 ·simp only[cY] at hi hi'
  by_cases e:i=k<;>by_cases e':i'=k
  ·omega
  ·have h1:b'=b0:=by simpa[gz,e] using h
   have:=hr.lt i' b0 hi' (by simpa[gz,e'] using h')
   omega
  ·have h1:b'=b0:=by simpa[gz,e'] using h'
   have:=hr.lt i b0 hi (by simpa[gz,e] using h)
   omega
  ·exact hr.inj i i' b0 hi hi' (by simpa[gz,e] using h) (by simpa[gz,e'] using h')
 ·simp only[cY] at hi
  by_cases e:i=k
  ·have h1:b'=b0:=by simpa[gz,e] using h
   subst h1;exact cG
  ·exact bu (hr.lt i b0 hi (by simpa[gz,e] using h)) q.size
 ·have e:k≠i:=by rintro rfl; rw[ec (aN hM)] at h; cases h; cases hf
  rw[cJ e] at h;obtain⟨b0,h1,h2⟩:=hr.fix i bx0 h hf;exact⟨b0,by simpa[gz,eW e] using h1,h2.mono ext (hb b0 (hr.lt i b0 (aN h) h1))⟩
 ·have e:k≠i:=by rintro rfl; rw[ec (aN hM)] at h; cases h
  rw[cJ e] at h;obtain⟨vs0,t0,h1⟩:=hr.tick i sz0 n0 b0 h (by simpa[gz,eW e] using hji)
  exact⟨vs0,t0,(hb b0 (lt_of_block h1)).trans h1⟩
 ·by_cases e:k=i
  ·subst e;rw[ec (aN hM)] at h;injection h with h; injection h with e1 e2 e3
   subst e1; subst e2; subst e3;obtain⟨vs,t,g⟩:=hh _ _ ext;exact .inr ⟨b',vs,t,by simp[gz],g⟩
  ·rw[cJ e] at h;exact qD hr ext h (by simp[gz,eW e]) fun b0 h1=>hb b0 (hr.lt i b0 (aN h) h1)
 ·by_cases e:i=k
  ·have h1:b'=b0:=by simpa[gz,e] using h
   have h2:=hr.AB b0 off hx;omega
  ·exact hr.vf i b0 (by simpa using hi) (by simpa[gz,e] using h) off hx
def nU{iy:Nat->Nat->Prop}{xs:List ag}{v:Value}{size:Nat}(hx:fQ w iy (.slice .sh xs) v)(hw:wid xs size):∃A cap,v = .slice A xs.length cap/\xs.length<=cap /\
  (xs=[]\/∃b off,A=some ⟨b,off,none⟩/\∃us:List Value,RL w iy (j9 xs) us/\us.length=xs.length*size/\(∀u,u∈us->u.oneCell'=true)/\∀p u,us[p]?=some u->w.cell? ⟨b,off+p,none⟩=some u/\iy b (off+p)):=by
 cases hx with
 |slice _ A len cap b off sz vs hl hc ha hz hs hr =>
  subst hl;refine⟨A,cap,rfl,hc,?_⟩;rcases kU xs with h0|⟨_,_,h0⟩
  ·exact .inl h0
  ·have hne:xs≠[]:=by rw[h0]; simp
   have hsz:sz=size:=by
    obtain⟨x,r,hxr⟩:=fj hne;have hm:x∈xs:=by rw[hxr]; exact bD ..
    rw[<-hz x hm,hw x hm]
   subst hsz;have dJ:((List.range (xs.length*sz)).map vs).length=xs.length*sz:=dy
   have hrl:RL w iy (j9 xs) ((List.range (xs.length*sz)).map vs):=by
    refine⟨by rw[iM hw,dJ],fun p c v hc hv=>?_⟩
    obtain⟨q,x,k,h1,h2,rfl⟩:=DF hw hc;have cG:q*sz+k<xs.length*sz:=by rw[<-iM hw]; exact aN hc
    rw[aX,ji cG] at hv;simp only[eo] at hv;cases hv;exact hr q x k c h1 h2
   refine .inr ⟨b,off,ha hne,_,hrl,dJ,fun u hu=>?_,fun p u hu=>?_⟩
   ·obtain⟨p,hp⟩:=bV hu;have hp':p<(j9 xs).length:=by rw[hrl.1]; exact aN hp
    exact fQ.one (hrl.2 p _ u (ai hp') hp)
   ·have hp':p<(j9 xs).length:=by rw[hrl.1]; exact aN hu
    obtain⟨q,x,k,h1,h2,rfl⟩:=DF hw (ai hp');have cG:q*sz+k<xs.length*sz:=by rw[<-iM hw]; exact hp'
    rw[aX,ji cG] at hu;simp only[eo] at hu;cases hu;exact hs q x k _ h1 h2
end
end
end Go.Abs
