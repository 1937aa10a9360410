import Derived.KernelRfl
import Derived.Laws.Strings
import Derived.Laws.StructEq
import Derived.MapKept
import Derived.Laws.IdiomStrings
import Derived.Laws.MakeOwn
import Derived.ChangeKeysEq
import Derived.Test.YtcbopkblmebjiaaGreatDoorFduA
set_option linter.unusedSimpArgs false
set_option linter.unusedVariables false
set_option linter.unusedSectionVars false
set_option linter.defProp false
open Go.Proofs.Tryz
set_option linter.defProp false
set_option cbv.maxSteps 10000000
set_option maxRecDepth 100000
namespace Go.Proofs.YtcbopkblmebjiaaGreatDoor
open Go Go.Abs
def fU{o:Option eU}{n:Nat}{r:List sy}{c:cz}(h:o=some (eU.mk n r c):=by kernel_rfl):o=some (eU.mk n r (sub c 0)):=okc h
def fZ(r k:cz)(h:At r 0 k:=by exact aeg _):eqs r 0 k:=wG r k 0 h
def ab2:Ko [] f65:=by apply Subtype.mk; cbv
def b65:=ab2.1
def agw:=eU.mk 1 [.tmp 2] (sub b65 0)
def Sk:Ko [] f232:=by apply Subtype.mk; cbv
def afq:=Sk.1
def YU:=eU.mk 2 [.tmp 4,.tmp 5] (sub afq 0)
def RR:Ko [] f177:=by apply Subtype.mk; cbv
def ae2:=RR.1
def YB:=eU.mk 2 [.fG 4 6,.tmp 5] (sub ae2 0)
def R7:Ko [] f216:=by apply Subtype.mk; cbv
def afd:=R7.1
def YL:=eU.mk 2 [.fG 4 6,.tmp 5] (sub afd 0)
def Q4:Ko [] f126:=by apply Subtype.mk; cbv
def aaa:=Q4.1
def HA:=eU.mk 1 [.tmp 2] (sub aaa 0)
abbrev L1:=sub aaa 15
def Sr:Ko [] f253:=by apply Subtype.mk; cbv
def aan:=Sr.1
def YX:=eU.mk 3 [.tmp 6,.tmp 7] (sub aan 0)
abbrev We:=sub aan 9
def Ss:Ko [] f254:=by apply Subtype.mk; cbv
def afu:=Ss.1
def YY:=eU.mk 2 [.tmp 4] (sub afu 0)
def Rg:Ko [] f138:=by apply Subtype.mk; cbv
def aeC:=Rg.1
def Yg:=eU.mk 2 [.tmp 4] (sub aeC 0)
def oZ:=by
 have h:=bR (fZ b65 ab2.1)$ bR (fZ afq Sk.1)$ bR (fZ ae2 RR.1)$ bR (fZ afd R7.1)$ bR (fZ aaa Q4.1)$ bR (fZ aan Sr.1)$ bR (fZ afu Ss.1) (fZ aeC Rg.1);simp only[ab2,Sk,RR,R7,Q4,Sr,Ss,Rg,yT,seval] at h;exact h
def E65:=oZ.1
def aiZ:=oZ.2.1
def ZJ:=oZ.2.2.1
def UG:=oZ.2.2.2.1
def wa:=oZ.2.2.2.2.1
def GQ:=oZ.2.2.2.2.2.1
def ai3:=oZ.2.2.2.2.2.2.1
def aiE:=oZ.2.2.2.2.2.2.2
def Sg:Ko [] f228:=by apply Subtype.mk; cbv
def afl:=Sg.1
def YP:=eU.mk 2 [.tmp 4,.tmp 5] (sub afl 0)
def RP:Ko [] f175:=by apply Subtype.mk; cbv
def ae1:=RP.1
def Yz:=eU.mk 3 [.tmp 6,.tmp 7] (sub ae1 0)
def QO:Ko [] f106:=by apply Subtype.mk; cbv
def aen:=QO.1
def XX:=eU.mk 2 [.fG 4 6,.tmp 5] (sub aen 0)
def R0:Ko [9] f202:=by apply Subtype.mk; cbv
def aaj:=R0.1
def Qh:=eU.mk 2 [.tmp 4] (sub aaj 0)
def ahM:wu [9] f202 Qh:=fU
abbrev V9:=sub aaj 7
def Sn:Ko [] f248:=by apply Subtype.mk; cbv
def afs:=Sn.1
def YV:=eU.mk 2 [.tmp 4] (sub afs 0)
def Sb:Ko [1000234,1000249] f223:=by apply Subtype.mk; cbv
def afg:=Sb.1
def Qi:=eU.mk 2 [] (sub afg 0)
def ahO:wu [1000234,1000249] f223 Qi:=fU
def RS:Ko [1000234,1000233] f178:=by apply Subtype.mk; cbv
def ae3:=RS.1
def Qe:=eU.mk 2 [] (sub ae3 0)
def ahJ:wu [1000234,1000233] f178 Qe:=fU
def Sc:Ko [1000218,1000250,2000223] f224:=by apply Subtype.mk; cbv
def afh:=Sc.1
def Qj:=eU.mk 4 [] (sub afh 0)
def ahP:wu [1000218,1000250,2000223] f224 Qj:=fU
def o3:=by
 have h:=bR (fZ afl Sg.1)$ bR (fZ ae1 RP.1)$ bR (fZ aen QO.1)$ bR (fZ aaj R0.1)$ bR (fZ afs Sn.1)$ bR (fZ afg Sb.1)$ bR (fZ ae3 RS.1) (fZ afh Sc.1);simp only[Sg,RP,QO,R0,Sn,Sb,RS,Sc,yT,seval] at h;exact h
def aiW:=o3.1
def Jj:=o3.2.1
def aix:=o3.2.2.1
def BB:=o3.2.2.2.1
def ai1:=o3.2.2.2.2.1
def ZM:=o3.2.2.2.2.2.1
def ZK:=o3.2.2.2.2.2.2.1
def O9:=o3.2.2.2.2.2.2.2
def Se:Ko [1000218,1000252,2000223] f226:=by apply Subtype.mk; cbv
def afj:=Se.1
def Ql:=eU.mk 3 [] (sub afj 0)
def ahQ:wu [1000218,1000252,2000223] f226 Ql:=fU
def Sf:Ko [] f227:=by apply Subtype.mk; cbv
def afk:=Sf.1
def YO:=eU.mk 2 [] (sub afk 0)
def Sa:Ko [] f222:=by apply Subtype.mk; cbv
def aff:=Sa.1
def YN:=eU.mk 3 [.tmp 6] (sub aff 0)
def Si:Ko [] f230:=by apply Subtype.mk; cbv
def afo:=Si.1
def YR:=eU.mk 2 [.tmp 4] (sub afo 0)
def QM:Ko [] f104:=by apply Subtype.mk; cbv
def aem:=QM.1
def XW:=eU.mk 2 [.fG 4 3,.tmp 5] (sub aem 0)
def RJ:Ko [] f171:=by apply Subtype.mk; cbv
def aeX:=RJ.1
def Yv:=eU.mk 4 [.fG 8 3,.tmp 9,.tmp 10] (sub aeX 0)
def RM:Ko [] f172:=by apply Subtype.mk; cbv
def aeY:=RM.1
def Yw:=eU.mk 4 [.fG 8 3,.tmp 9] (sub aeY 0)
def RO:Ko [] f174:=by apply Subtype.mk; cbv
def ae0:=RO.1
def Yy:=eU.mk 3 [.fG 6 3,.tmp 7,.tmp 8] (sub ae0 0)
def nN:=by
 have h:=bR (fZ afj Se.1)$ bR (fZ afk Sf.1)$ bR (fZ aff Sa.1)$ bR (fZ afo Si.1)$ bR (fZ aem QM.1)$ bR (fZ aeX RJ.1)$ bR (fZ aeY RM.1) (fZ ae0 RO.1);simp only[Se,Sf,Sa,Si,QM,RJ,RM,RO,yT,seval] at h;exact h
def UH:=nN.1
def ZN:=nN.2.1
def GP:=nN.2.2.1
def ad5:=nN.2.2.2.1
def adV:=nN.2.2.2.2.1
def ZH:=nN.2.2.2.2.2.1
def ZI:=nN.2.2.2.2.2.2.1
def O7:=nN.2.2.2.2.2.2.2
def St:Ko [] f255:=by apply Subtype.mk; cbv
def aao:=St.1
def YZ:=eU.mk 2 [.tmp 4] (sub aao 0)
abbrev Wf:=sub aao 7
def Sh:Ko [] f229:=by apply Subtype.mk; cbv
def afm:=Sh.1
def YQ:=eU.mk 2 [.tmp 4] (sub afm 0)
def Sv:Ko [] f257:=by apply Subtype.mk; cbv
def afw:=Sv.1
def Y1:=eU.mk 5 [.tmp 6] (sub afw 0)
def SA:Ko [] f278:=by apply Subtype.mk; cbv
def aaq:=SA.1
def Y4:=eU.mk 2 [.tmp 4] (sub aaq 0)
abbrev Wh:=sub aaq 7
def Su:Ko [] f256:=by apply Subtype.mk; cbv
def afv:=Su.1
def Y0:=eU.mk 2 [.tmp 4] (sub afv 0)
def Sj:Ko [] f231:=by apply Subtype.mk; cbv
def afp:=Sj.1
def YT:=eU.mk 3 [.tmp 6] (sub afp 0)
def RQ:Ko [] f176:=by apply Subtype.mk; cbv
def aag:=RQ.1
def YA:=eU.mk 5 [.fG 10 3,.tmp 11,.tmp 12] (sub aag 0)
abbrev Mu:=sub aag 86
def Sw:Ko [] f258:=by apply Subtype.mk; cbv
def aap:=Sw.1
def Y2:=eU.mk 3 [.tmp 6,.tmp 7] (sub aap 0)
abbrev Wg:=sub aap 9
def nP:=by
 have h:=bR (fZ aao St.1)$ bR (fZ afm Sh.1)$ bR (fZ afw Sv.1)$ bR (fZ aaq SA.1)$ bR (fZ afv Su.1)$ bR (fZ afp Sj.1)$ bR (fZ aag RQ.1) (fZ aap Sw.1);simp only[St,Sh,Sv,SA,Su,Sj,RQ,Sw,yT,seval] at h;exact h
def Jl:=nP.1
def aiX:=nP.2.1
def ad6:=nP.2.2.1
def Jm:=nP.2.2.2.1
def ai4:=nP.2.2.2.2.1
def aiY:=nP.2.2.2.2.2.1
def yb:=nP.2.2.2.2.2.2.1
def GR:=nP.2.2.2.2.2.2.2
def Sx:Ko [] f259:=by apply Subtype.mk; cbv
def afx:=Sx.1
def Y3:=eU.mk 2 [.tmp 4] (sub afx 0)
def abY:Ko [] f60:=by apply Subtype.mk; cbv
def b60:=abY.1
def agt:=eU.mk 2 [.tmp 4] (sub b60 0)
def Q3:Ko [] f124:=by apply Subtype.mk; cbv
def aeu:=Q3.1
def X7:=eU.mk 1 [.tmp 2] (sub aeu 0)
def ab8:Ko [] f71:=by apply Subtype.mk; cbv
def b71:=ab8.1
def agA:=eU.mk 2 [.tmp 4] (sub b71 0)
def Ra:Ko [] f133:=by apply Subtype.mk; cbv
def aez:=Ra.1
def Yb:=eU.mk 2 [.tmp 4] (sub aez 0)
def Rb:Ko [] f134:=by apply Subtype.mk; cbv
def aeA:=Rb.1
def Yc:=eU.mk 2 [.tmp 4] (sub aeA 0)
def Rc:Ko [] f135:=by apply Subtype.mk; cbv
def aac:=Rc.1
def Yd:=eU.mk 2 [.tmp 4] (sub aac 0)
abbrev V0:=sub aac 15
def Re:Ko [] f136:=by apply Subtype.mk; cbv
def aad:=Re.1
def Ye:=eU.mk 3 [.tmp 6] (sub aad 0)
abbrev V1:=sub aad 15
def nQ:=by
 have h:=bR (fZ afx Sx.1)$ bR (fZ b60 abY.1)$ bR (fZ aeu Q3.1)$ bR (fZ b71 ab8.1)$ bR (fZ aez Ra.1)$ bR (fZ aeA Rb.1)$ bR (fZ aac Rc.1) (fZ aad Re.1);simp only[Sx,abY,Q3,ab8,Ra,Rb,Rc,Re,yT,seval] at h;exact h
def ai5:=nQ.1
def E60:=nQ.2.1
def aiz:=nQ.2.2.1
def E71:=nQ.2.2.2.1
def adY:=nQ.2.2.2.2.1
def aiC:=nQ.2.2.2.2.2.1
def FL:=nQ.2.2.2.2.2.2.1
def FM:=nQ.2.2.2.2.2.2.2
def RG:Ko [1000218] f168:=by apply Subtype.mk; cbv
def aeU:=RG.1
def xX:=eU.mk 4 [.tmp 8,.tmp 9,.tmp 10] (sub aeU 0)
def ahI:wu [1000218] f168 xX:=fU
def Sm:Ko [] f246:=by apply Subtype.mk; cbv
def aam:=Sm.1
def Qm:=eU.mk 2 [.tmp 4] (sub aam 0)
abbrev Wc:=sub aam 7
def R8:Ko [] f217:=by apply Subtype.mk; cbv
def aal:=R8.1
def LI:=eU.mk 2 [.tmp 4] (sub aal 0)
abbrev Wb:=sub aal 17
def R9:Ko [] f219:=by apply Subtype.mk; cbv
def afe:=R9.1
def YM:=eU.mk 2 [.tmp 3] (sub afe 0)
def ahn:Ko [] f221:=by apply Subtype.mk; cbv
def aje:=ahn.1
def af8:=eU.mk 2 [.tmp 4] (sub aje 0)
def acg:Ko [] f78:=by apply Subtype.mk; cbv
def b78:=acg.1
def agE:=eU.mk 0 [.fG 0 3] (sub b78 0)
def Ry:Ko [] f156:=by apply Subtype.mk; cbv
def U0:=Ry.1
def Yo:=eU.mk 2 [.tmp 4,.tmp 5] (sub U0 0)
abbrev V6:=sub U0 19
abbrev adl:=sub U0 39
def RE:Ko [] f161:=by apply Subtype.mk; cbv
def aeS:=RE.1
def Yr:=eU.mk 1 [.tmp 2,.tmp 3,.tmp 4] (sub aeS 0)
def oY:=by
 have h:=bR (fZ aeU RG.1)$ bR (fZ aam Sm.1)$ bR (fZ aal R8.1)$ bR (fZ afe R9.1)$ bR (fZ b78 acg.1)$ bR (fZ U0 Ry.1) (fZ aeS RE.1);simp only[RG,Sm,R8,R9,acg,Ry,RE,yT,seval] at h;exact h
def GM:=oY.1
def FP:=oY.2.1
def FO:=oY.2.2.1
def aiV:=oY.2.2.2.1
def E78:=oY.2.2.2.2.1
def Jh:=oY.2.2.2.2.2.1
def UC:=oY.2.2.2.2.2.2
end Go.Proofs.YtcbopkblmebjiaaGreatDoor
set_option linter.defProp false
set_option cbv.maxSteps 10000000
set_option maxRecDepth 100000
namespace Go.Proofs.YtcbopkblmebjiaaGreatDoor
open Go Go.Abs
def RX:Ko [] f193:=by apply Subtype.mk; cbv
def ae6:=RX.1
def LG:=eU.mk 2 [.tmp 4,.tmp 5] (sub ae6 0)
def Sl:Ko [] f240:=by apply Subtype.mk; cbv
def afr:=Sl.1
def LJ:=eU.mk 2 [.tmp 4,.tmp 5] (sub afr 0)
def Sy:Ko [] f261:=by apply Subtype.mk; cbv
def afy:=Sy.1
def HC:=eU.mk 2 [.tmp 4] (sub afy 0)
def yc:=by
 have h:=And.intro (fZ ae6 RX.1) (And.intro (fZ afr Sl.1) (fZ afy Sy.1));simp only[RX,Sl,Sy,yT,seval] at h;exact h
def aiR:=yc.1
def UI:=yc.2.1
def UJ:=yc.2.2
end Go.Proofs.YtcbopkblmebjiaaGreatDoor
set_option linter.defProp false
set_option cbv.maxSteps 10000000
set_option maxRecDepth 100000
namespace Go.Proofs.YtcbopkblmebjiaaGreatDoor
open Go Go.Abs
def abh:Ko [] f13:=by apply Subtype.mk; cbv
def b13:=abh.1
def af3:=eU.mk 1 [.tmp 2] (sub b13 0)
def E13:=by
 have h:=fZ b13 abh.1;simp only[abh,yT,seval] at h;exact h
end Go.Proofs.YtcbopkblmebjiaaGreatDoor
set_option linter.defProp false
set_option cbv.maxSteps 10000000
set_option maxRecDepth 100000
namespace Go.Proofs.YtcbopkblmebjiaaGreatDoor
open Go Go.Abs
def acd:Ko [] f75:=by apply Subtype.mk; cbv
def b75:=acd.1
def agC:=eU.mk 1 [.tmp 2] (sub b75 0)
def Rn:Ko [] f146:=by apply Subtype.mk; cbv
def aeH:=Rn.1
def Yn:=eU.mk 1 [.tmp 2,.tmp 3] (sub aeH 0)
def Ro:Ko [] f147:=by apply Subtype.mk; cbv
def aeI:=Ro.1
def HB:=eU.mk 4 [.tmp 8] (sub aeI 0)
def TM:cz :=
 (.seq (.region [
 ob 4 (.mv (.ll (.bool false)))] false [4]) (.ret))
def TN:cz :=
 (.seq (.region [
 ob 26 (.mv (.tmp 9)),
 ob 27 (.not (.tmp 26)),
 ob 28 (.mv (.tmp 27)),
 og 29 28 false (.kG 0 (.tmp 7)),
 og 30 28 false (.jv (.tmp 29)),
 og 31 28 false (.call 126 [(.tmp 30)]),
 og 32 28 false (.not (.tmp 31)),
 ob 33 (.pick (.tmp 28) (.ll (.bool true)) (.tmp 32)),
 ob 34 (.mv (.tmp 33)),
 og 35 34 false (.kG 2 (.tmp 7)),
 og 36 34 false (.jv (.tmp 35)),
 og 37 34 false (.bin .lss (.tmp 36) (.ll (.int .i64 1))),
 ob 38 (.pick (.tmp 34) (.ll (.bool true)) (.tmp 37)),
 ob 39 (.mv (.tmp 38)),
 og 40 39 false (.kG 2 (.tmp 7)),
 og 41 39 false (.jv (.tmp 40)),
 og 42 39 false (.mv (.tmp 0)),
 og 43 39 false (.chk (.tmp 42)),
 og 44 39 false (.kG 0 (.tmp 43)),
 og 45 39 false (.kG 2 (.tmp 44)),
 og 46 39 false (.jv (.tmp 45)),
 og 47 39 false (.bin .geq (.tmp 41) (.tmp 46)),
 ob 48 (.pick (.tmp 39) (.ll (.bool true)) (.tmp 47)),
 ob 49 (.mv (.tmp 48)),
 og 50 49 false (.mv (.tmp 5)),
 og 51 49 false (.kG 2 (.tmp 7)),
 og 52 49 false (.jv (.tmp 51)),
 og 53 49 false (.look .i (.bool false) false (.tmp 50) (.tmp 52)),
 ob 54 (.pick (.tmp 49) (.ll (.bool true)) (.tmp 53)),
 ob 55 (.mv (.tmp 54)),
 og 56 55 false (.mv (.tmp 6)),
 og 57 55 false (.bin .gtr (.tmp 56) (.ll (.int .i64 0))),
 og 58 55 false (.mv (.tmp 57)),
 og 59 58 true (.kG 4 (.tmp 3)),
 og 60 58 true (.jv (.tmp 59)),
 og 61 58 true (.mv (.tmp 6)),
 og 62 58 true (.bin .sub (.tmp 61) (.ll (.int .i64 1))),
 og 63 58 true (.vU 3 (.tmp 60) (.tmp 62)),
 og 64 58 true (.kG 0 (.tmp 63)),
 og 65 58 true (.jv (.tmp 64)),
 og 66 58 true (.kG 0 (.tmp 7)),
 og 67 58 true (.jv (.tmp 66)),
 og 68 58 true (.bin .geq (.tmp 65) (.tmp 67)),
 og 69 55 false (.pick (.tmp 58) (.tmp 68) (.ll (.bool false))),
 ob 70 (.pick (.tmp 55) (.ll (.bool true)) (.tmp 69))] true [0,3,5,7,12,13,14,70]) (.cond (.tmp 70) TM (.skip)))
def TP:cz :=
 (.region [
 ob 71 (.mv (.tmp 5)),
 ob 72 (.kG 2 (.tmp 7)),
 ob 73 (.jv (.tmp 72)),
 ox (.gy .i (.tmp 71) (.tmp 73) (.ll (.bool true)))] false [0,3,5,12,13,14])
def TQ:cz :=
 (.seq (.seq (.region [
 ob 20 (.mv (.tmp 0)),
 ob 21 (.kG 1 (.tmp 7)),
 ob 22 (.jv (.tmp 21)),
 ob 23 (.call 232 [(.tmp 20),(.tmp 22)]),
 ob 19 (.mv (.tmp 23)),
 ob 24 (.extract (.tmp 19) 0),
 ob 25 (.extract (.tmp 19) 1),
 ob 8 (.mv (.tmp 24)),
 ob 9 (.mv (.tmp 25))] false [0,3,5,6,7,9,12,13,14]) TN) TP)
def TR:cz :=
 (.region [
 ob 74 (.bin .add (.tmp 14) (.ll (.int .i64 1))),
 ob 14 (.mv (.tmp 74))] false [0,3,5,12,13,14])
def TS:cz :=
 (.seq (.block 1 (.seq (.region [
 ob 16 (.mv (.tmp 14)),
 ob 17 (.vU 3 (.tmp 12) (.tmp 14)),
 ob 18 (.nD 3 (.tmp 17)),
 ob 7 (.sU [(.str []),(.int .i64 0),(.int .i64 0)]),
 ob 6 (.mv (.tmp 16)),
 ox (.store 3 (.tmp 7) (.tmp 18))] false [0,3,5,6,7,12,13,14]) TQ)) TR)
def TT:cz :=
 (.seq (.cond (.tmp 15) (.skip) (.exit 0)) TS)
def L3:cz :=
 (.seq (.region [
 ob 15 (.bin .lss (.tmp 14) (.tmp 13))] false [0,3,5,12,13,14,15]) TT)
def TU:cz :=
 (.block 0 (.loop [0,3,5,12,13,14] L3))
def TV:cz :=
 (.seq (.region [
 ob 75 (.kG 4 (.tmp 3)),
 ob 76 (.jv (.tmp 75)),
 ob 77 (.Ap (.tmp 76)),
 ob 78 (.bin .leq (.tmp 77) (.ll (.int .i64 64))),
 ob 4 (.mv (.tmp 78))] false [4]) (.ret))
def TW:cz :=
 (.seq (.seq (.region [
 ob 11 (.kG 4 (.tmp 3)),
 ob 12 (.jv (.tmp 11)),
 ob 13 (.Ap (.tmp 12)),
 ob 14 (.mv (.ll (.int .i64 0)))] false [0,3,5,12,13,14]) TU) TV)
def Mv:cz :=
 (.seq (.region [
 ob 10 (.mkMap),
 ob 5 (.mv (.tmp 10))] false [0,3,5]) TW)
def UE:=bR (hV TM.eq_1)$ bR (hV TN.eq_1)$ bR (hV TP.eq_1)$ bR (hV TQ.eq_1)$ bR (hV TR.eq_1)$ bR (hV TS.eq_1)$ bR (hV TT.eq_1)$ bR (hV L3.eq_1)$ bR (hV TU.eq_1)$ bR (hV TV.eq_1)$ bR (hV TW.eq_1) (hV Mv.eq_1)
def ZY:B5:={ n:=79,own:=[],lv:=[(0,[0,3]),(1,[0,3,5]),(2,[0,3,5,12,13,14]),(3,[0,3,5,12,13,14,15]),(4,[0,3,5,6,7,12,13,14]),(5,[0,3,5,6,7,9,12,13,14]),(6,[0,3,5,7,12,13,14,70]),(7,[4]),(8,[0,3,5,12,13,14]),(9,[0,3,5,12,13,14]),(10,[4])],lp:=[(3,[0,3,5,12,13,14])] }
def Qg:eU:=eU.mk 2 [.tmp 4]
 (.seq (.region [
 ob 3 (.box (.tmp 1)),
 ob 4 (.mv (.ll (.bool false)))] false [0,3]) Mv)
def ahL:oN Tryz.prog ZY f201=some Qg:=by kernel_rfl
def yd:=by
 have h:=And.intro (fZ b75 acd.1) (And.intro (fZ aeH Rn.1) (fZ aeI Ro.1));simp only[acd,Rn,Ro,yT,seval] at h;exact h
def E75:=yd.1
def O5:=yd.2.1
def UB:=yd.2.2
end Go.Proofs.YtcbopkblmebjiaaGreatDoor
set_option linter.defProp false
set_option cbv.maxSteps 10000000
set_option maxRecDepth 100000
namespace Go.Proofs.YtcbopkblmebjiaaGreatDoor
open Go Go.Abs
def ab6:Ko [] f69:=by apply Subtype.mk; cbv
def b69:=ab6.1
def agy:=eU.mk 2 [.tmp 4] (sub b69 0)
abbrev acJ:=sub b69 7
def abv:Ko [] f26:=by apply Subtype.mk; cbv
def b26:=abv.1
def aga:=eU.mk 2 [.fG 4 6,.tmp 5] (sub b26 0)
def QX:Ko [] f116:=by apply Subtype.mk; cbv
def aes:=QX.1
def X1:=eU.mk 2 [.fG 4 6,.tmp 5] (sub aes 0)
def QZ:Ko [] f118:=by apply Subtype.mk; cbv
def Z7:=QZ.1
def X3:=eU.mk 2 [.tmp 4] (sub Z7 0)
abbrev VX:=sub Z7 7
def abW:Ko [] f56:=by apply Subtype.mk; cbv
def b56:=abW.1
def agr:=eU.mk 3 [.tmp 6,.tmp 7] (sub b56 0)
def QT:Ko [5] f112:=by apply Subtype.mk; cbv
def Z4:=QT.1
def P8:=eU.mk 2 [.fG 4 3] (sub Z4 0)
def ahz:wu [5] f112 P8:=fU
abbrev VU:=sub Z4 11
def RV:Ko [5] f181:=by apply Subtype.mk; cbv
def aah:=RV.1
def Qf:=eU.mk 2 [.fG 4 3] (sub aah 0)
def ahK:wu [5] f181 Qf:=fU
abbrev V7:=sub aah 9
def QW:Ko [9] f115:=by apply Subtype.mk; cbv
def Z5:=QW.1
def P9:=eU.mk 3 [.fG 6 3] (sub Z5 0)
def ahA:wu [9] f115 P9:=fU
abbrev VV:=sub Z5 11
def o5:=by
 have h:=bR (fZ b69 ab6.1)$ bR (fZ b26 abv.1)$ bR (fZ aes QX.1)$ bR (fZ Z7 QZ.1)$ bR (fZ b56 abW.1)$ bR (fZ Z4 QT.1)$ bR (fZ aah RV.1) (fZ Z5 QW.1);simp only[ab6,abv,QX,QZ,abW,QT,RV,QW,yT,seval] at h;exact h
def ZR:=o5.1
def E26:=o5.2.1
def Uz:=o5.2.2.1
def Je:=o5.2.2.2.1
def ZP:=o5.2.2.2.2.1
def Jc:=o5.2.2.2.2.2.1
def O8:=o5.2.2.2.2.2.2.1
def Jd:=o5.2.2.2.2.2.2.2
def QS:Ko [12] f111:=by apply Subtype.mk; cbv
def Z3:=QS.1
def P7:=eU.mk 4 [.fG 8 3] (sub Z3 0)
def ahy:wu [12] f111 P7:=fU
abbrev VT:=sub Z3 15
def Q1:Ko [] f120:=by apply Subtype.mk; cbv
def Z8:=Q1.1
def X5:=eU.mk 2 [.tmp 4] (sub Z8 0)
abbrev VY:=sub Z8 7
def abw:Ko [] f27:=by apply Subtype.mk; cbv
def b27:=abw.1
def agb:=eU.mk 3 [.tmp 6] (sub b27 0)
abbrev acF:=sub b27 7
def RT:Ko [] f179:=by apply Subtype.mk; cbv
def ae4:=RT.1
def YC:=eU.mk 2 [.tmp 4] (sub ae4 0)
def QR:Ko [] f110:=by apply Subtype.mk; cbv
def aep:=QR.1
def XY:=eU.mk 3 [.tmp 6] (sub aep 0)
def abU:Ko [] f54:=by apply Subtype.mk; cbv
def b54:=abU.1
def agp:=eU.mk 4 [.fG 8 3,.tmp 9,.tmp 10] (sub b54 0)
def abR:Ko [] f52:=by apply Subtype.mk; cbv
def b52:=abR.1
def ago:=eU.mk 4 [.fG 8 3,.tmp 9] (sub b52 0)
def QV:Ko [] f114:=by apply Subtype.mk; cbv
def aer:=QV.1
def X0:=eU.mk 2 [.fG 4 3] (sub aer 0)
def o6:=by
 have h:=bR (fZ Z3 QS.1)$ bR (fZ Z8 Q1.1)$ bR (fZ b27 abw.1)$ bR (fZ ae4 RT.1)$ bR (fZ aep QR.1)$ bR (fZ b54 abU.1)$ bR (fZ b52 abR.1) (fZ aer QV.1);simp only[QS,Q1,abw,RT,QR,abU,abR,QV,yT,seval] at h;exact h
def FF:=o6.1
def Jf:=o6.2.1
def UK:=o6.2.2.1
def ad1:=o6.2.2.2.1
def Fz:=o6.2.2.2.2.1
def E54:=o6.2.2.2.2.2.1
def E52:=o6.2.2.2.2.2.2.1
def adW:=o6.2.2.2.2.2.2.2
def abV:Ko [] f55:=by apply Subtype.mk; cbv
def b55:=abV.1
def agq:=eU.mk 3 [.fG 6 3,.tmp 7,.tmp 8] (sub b55 0)
def Q0:Ko [] f119:=by apply Subtype.mk; cbv
def aet:=Q0.1
def X4:=eU.mk 3 [.tmp 6] (sub aet 0)
def Q2:Ko [] f121:=by apply Subtype.mk; cbv
def Z9:=Q2.1
def X6:=eU.mk 3 [.tmp 6] (sub Z9 0)
abbrev VZ:=sub Z9 11
def abX:Ko [] f57:=by apply Subtype.mk; cbv
def b57:=abX.1
def ags:=eU.mk 5 [.fG 10 3,.tmp 11,.tmp 12] (sub b57 0)
def RU:Ko [] f180:=by apply Subtype.mk; cbv
def ae5:=RU.1
def YD:=eU.mk 2 [.fG 4 3,.tmp 5] (sub ae5 0)
def abH:Ko [] f41:=by apply Subtype.mk; cbv
def b41:=abH.1
def agi:=eU.mk 0 [.fG 0 3] (sub b41 0)
def QY:Ko [] f117:=by apply Subtype.mk; cbv
def Z6:=QY.1
def X2:=eU.mk 1 [.tmp 2] (sub Z6 0)
abbrev VW:=sub Z6 15
def o4:=by
 have h:=bR (fZ b55 abV.1)$ bR (fZ aet Q0.1)$ bR (fZ Z9 Q2.1)$ bR (fZ b57 abX.1)$ bR (fZ ae5 RU.1)$ bR (fZ b41 abH.1) (fZ Z6 QY.1);simp only[abV,Q0,Q2,abX,RU,abH,QY,yT,seval] at h;exact h
def E55:=o4.1
def adX:=o4.2.1
def O2:=o4.2.2.1
def Pa:=o4.2.2.2.1
def ad2:=o4.2.2.2.2.1
def E41:=o4.2.2.2.2.2.1
def GK:=o4.2.2.2.2.2.2
end Go.Proofs.YtcbopkblmebjiaaGreatDoor
set_option linter.defProp false
set_option cbv.maxSteps 10000000
set_option maxRecDepth 100000
namespace Go.Proofs.YtcbopkblmebjiaaGreatDoor
open Go Go.Abs
def abg:Ko [] f12:=by apply Subtype.mk; cbv
def b12:=abg.1
def af2:=eU.mk 1 [.tmp 2] (sub b12 0)
def abE:Ko [] f37:=by apply Subtype.mk; cbv
def b37:=abE.1
def Nw:=eU.mk 2 [.fG 4 4,.fG 5 7] (sub b37 0)
def abD:Ko [] f36:=by apply Subtype.mk; cbv
def b36:=abD.1
def DN:=eU.mk 2 [.fG 4 4,.fG 5 7] (sub b36 0)
def abi:Ko [] f14:=by apply Subtype.mk; cbv
def b14:=abi.1
def af4:=eU.mk 2 [.fG 4 4] (sub b14 0)
def alV:Ko [] f32:=by apply Subtype.mk; cbv
def b32:=alV.1
def akQ:=eU.mk 1 [.tmp 2] (sub b32 0)
def Zm:cz :=
 (.seq (.region [
 ob 0 (.mv (.ll (.bool false)))] false [0]) (.ret))
def Zn:cz :=
 (.seq (.region [
 ob 83 (.kG 1 (.tmp 2)),
 ob 84 (.jv (.tmp 83)),
 ob 85 (.bin .eql (.tmp 84) (.ll (.int .i64 2))),
 ob 86 (.mv (.tmp 85)),
 og 87 86 true (.kG 1 (.tmp 3)),
 og 88 86 true (.jv (.tmp 87)),
 og 89 86 true (.bin .eql (.tmp 88) (.ll (.int .i64 3))),
 ob 90 (.pick (.tmp 86) (.tmp 89) (.ll (.bool false))),
 ob 91 (.mv (.tmp 90)),
 og 92 91 true (.mv (.tmp 4)),
 og 93 91 true (.bin .eql (.tmp 92) (.ll (.int .i64 0))),
 ob 94 (.pick (.tmp 91) (.tmp 93) (.ll (.bool false))),
 ob 95 (.mv (.tmp 94)),
 og 96 95 true (.kG 1 (.tmp 5)),
 og 97 95 true (.jv (.tmp 96)),
 og 98 95 true (.bin .eql (.tmp 97) (.ll (.int .i64 4))),
 ob 99 (.pick (.tmp 95) (.tmp 98) (.ll (.bool false))),
 ob 100 (.mv (.tmp 99)),
 og 101 100 true (.kG 0 (.tmp 7)),
 og 102 100 true (.jv (.tmp 101)),
 og 103 100 true (.bin .eql (.tmp 102) (.ll (.int .i64 91))),
 ob 104 (.pick (.tmp 100) (.tmp 103) (.ll (.bool false))),
 ob 105 (.mv (.tmp 104)),
 og 106 105 true (.kG 0 (.tmp 9)),
 og 107 105 true (.jv (.tmp 106)),
 og 108 105 true (.bin .eql (.tmp 107) (.ll (.int .i64 180))),
 ob 109 (.pick (.tmp 105) (.tmp 108) (.ll (.bool false))),
 ob 110 (.mv (.tmp 109)),
 og 111 110 true (.kG 1 (.tmp 11)),
 og 112 110 true (.jv (.tmp 111)),
 og 113 110 true (.bin .eql (.tmp 112) (.ll (.int .i64 4))),
 ob 114 (.pick (.tmp 110) (.tmp 113) (.ll (.bool false))),
 ob 115 (.mv (.tmp 114)),
 og 116 115 true (.mv (.tmp 13)),
 og 117 115 true (.bin .eql (.tmp 116) (.ll (.int .i64 73))),
 ob 118 (.pick (.tmp 115) (.tmp 117) (.ll (.bool false))),
 ob 119 (.mv (.tmp 118)),
 og 120 119 true (.mv (.tmp 15)),
 og 121 119 true (.bin .eql (.tmp 120) (.ll (.int .i64 0))),
 ob 122 (.pick (.tmp 119) (.tmp 121) (.ll (.bool false))),
 ob 123 (.mv (.tmp 122)),
 og 124 123 true (.kG 1 (.tmp 1)),
 og 125 123 true (.jv (.tmp 124)),
 og 126 123 true (.vU 2 (.tmp 125) (.ll (.int .i64 0))),
 og 127 123 true (.kG 0 (.tmp 126)),
 og 128 123 true (.jv (.tmp 127)),
 og 129 123 true (.bin .eql (.tmp 128) (.ll (.int .i64 1))),
 ob 130 (.pick (.tmp 123) (.tmp 129) (.ll (.bool false))),
 ob 131 (.mv (.tmp 130)),
 og 132 131 true (.kG 1 (.tmp 1)),
 og 133 131 true (.jv (.tmp 132)),
 og 134 131 true (.vU 2 (.tmp 133) (.ll (.int .i64 0))),
 og 135 131 true (.kG 1 (.tmp 134)),
 og 136 131 true (.jv (.tmp 135)),
 og 137 131 true (.Ap (.tmp 136)),
 og 138 131 true (.bin .eql (.tmp 137) (.ll (.int .i64 2))),
 ob 139 (.pick (.tmp 131) (.tmp 138) (.ll (.bool false))),
 ob 140 (.mv (.tmp 139)),
 og 141 140 true (.kG 1 (.tmp 1)),
 og 142 140 true (.jv (.tmp 141)),
 og 143 140 true (.vU 2 (.tmp 142) (.ll (.int .i64 1))),
 og 144 140 true (.kG 1 (.tmp 143)),
 og 145 140 true (.jv (.tmp 144)),
 og 146 140 true (.Ap (.tmp 145)),
 og 147 140 true (.bin .eql (.tmp 146) (.ll (.int .i64 2))),
 ob 148 (.pick (.tmp 140) (.tmp 147) (.ll (.bool false))),
 ob 149 (.mv (.tmp 148)),
 og 150 149 true (.kG 1 (.tmp 10)),
 og 151 149 true (.jv (.tmp 150)),
 og 152 149 true (.vU 2 (.tmp 151) (.ll (.int .i64 0))),
 og 153 149 true (.kG 1 (.tmp 152)),
 og 154 149 true (.jv (.tmp 153)),
 og 155 149 true (.Ap (.tmp 154)),
 og 156 149 true (.bin .eql (.tmp 155) (.ll (.int .i64 3))),
 ob 157 (.pick (.tmp 149) (.tmp 156) (.ll (.bool false))),
 ob 158 (.mv (.tmp 157)),
 og 159 158 true (.nD 4 (.tmp 1)),
 og 160 158 true (.build [(.int .i64 0),(.int .i64 0),(.str []),(.str []),(.int .i64 0),(.int .i64 0),(.int .i64 0),(.slice .c0 [])] [(0,1,(.ll (.int .i64 1))),(2,1,(.ll (.str [47,97,47,102])))]),
 ⟨(some 161),.call 21 [(.tmp 159),(.tmp 160)],(some (158,true)),false,false,[],false⟩,
 og 162 158 true (.lits 1 [(.ll (.int .i64 1)),(.ll (.int .i64 5))]),
 og 163 158 true (.call 38 [(.tmp 161),(.tmp 162)]),
 ob 164 (.pick (.tmp 158) (.tmp 163) (.ll (.bool false))),
 ob 165 (.mv (.tmp 164)),
 og 166 165 true (.nD 4 (.tmp 1)),
 og 167 165 true (.call 31 [(.tmp 166)]),
 ob 168 (.pick (.tmp 165) (.tmp 167) (.ll (.bool false))),
 ob 169 (.mv (.tmp 168)),
 og 170 169 true (.build [(.slice .c0 []),(.slice .c0 []),(.int .i64 0),(.int .i64 0)] []),
 og 171 169 true (.call 31 [(.tmp 170)]),
 og 172 169 true (.not (.tmp 171)),
 ob 173 (.pick (.tmp 169) (.tmp 172) (.ll (.bool false))),
 ob 174 (.mv (.tmp 173)),
 og 175 174 true (.nD 4 (.tmp 1)),
 ⟨(some 176),.call 17 [(.tmp 175)],(some (174,true)),true,false,[],false⟩,
 og 177 174 true (.nD 4 (.tmp 14)),
 og 178 174 true (.call 17 [(.tmp 177)]),
 og 179 174 true (.call 20 [(.tmp 176),(.tmp 178)]),
 ob 180 (.pick (.tmp 174) (.tmp 179) (.ll (.bool false))),
 ob 181 (.mv (.tmp 180)),
 og 182 181 true (.nD 4 (.tmp 1)),
 og 183 181 true (.nD 4 (.tmp 14)),
 og 184 181 true (.call 30 [(.tmp 182),(.tmp 183)]),
 og 185 181 true (.not (.tmp 184)),
 ob 186 (.pick (.tmp 181) (.tmp 185) (.ll (.bool false))),
 ob 0 (.mv (.tmp 186))] true [0]) (.ret))
def Zo:cz :=
 (.seq (.seq (.region [
 ob 67 (.kG 1 (.tmp 1)),
 ob 68 (.jv (.tmp 67)),
 ob 69 (.Ap (.tmp 68)),
 ob 70 (.bin .neq (.tmp 69) (.ll (.int .i64 2))),
 ob 71 (.mv (.tmp 70)),
 og 72 71 false (.kG 1 (.tmp 10)),
 og 73 71 false (.jv (.tmp 72)),
 og 74 71 false (.Ap (.tmp 73)),
 og 75 71 false (.bin .neq (.tmp 74) (.ll (.int .i64 2))),
 ob 76 (.pick (.tmp 71) (.ll (.bool true)) (.tmp 75)),
 ob 77 (.mv (.tmp 76)),
 og 78 77 false (.kG 1 (.tmp 14)),
 og 79 77 false (.jv (.tmp 78)),
 og 80 77 false (.Ap (.tmp 79)),
 og 81 77 false (.bin .neq (.tmp 80) (.ll (.int .i64 1))),
 ob 82 (.pick (.tmp 77) (.ll (.bool true)) (.tmp 81))] false [1,2,3,4,5,7,9,10,11,13,14,15,82]) (.cond (.tmp 82) Zm (.skip))) Zn)
def Zp:cz :=
 (.seq (.region [
 ob 63 (.nD 4 (.tmp 1)),
 ob 64 (.call 43 [(.tmp 63),(.ll (.str [47,97]))]),
 ob 62 (.mv (.tmp 64)),
 ob 65 (.extract (.tmp 62) 0),
 ob 66 (.extract (.tmp 62) 1),
 ob 14 (.sU [(.slice .c0 []),(.slice .c0 []),(.int .i64 0),(.int .i64 0)]),
 ox (.store 4 (.tmp 14) (.tmp 65)),
 ob 15 (.mv (.tmp 66))] false [1,2,3,4,5,7,9,10,11,13,14,15]) Zo)
def Zq:cz :=
 (.seq (.region [
 ob 58 (.nD 4 (.tmp 1)),
 ob 59 (.call 42 [(.tmp 58),(.ll (.str [47,97,47,102])),(.ll (.int .i64 2))]),
 ob 57 (.mv (.tmp 59)),
 ob 60 (.extract (.tmp 57) 0),
 ob 61 (.extract (.tmp 57) 1),
 ob 12 (.sU [(.slice .c0 []),(.slice .c0 []),(.int .i64 0),(.int .i64 0)]),
 ox (.store 4 (.tmp 12) (.tmp 60)),
 ob 13 (.mv (.tmp 61))] false [1,2,3,4,5,7,9,10,11,13]) Zp)
def Zt:cz :=
 (.seq (.region [
 ob 52 (.nD 4 (.tmp 1)),
 ob 53 (.build [(.int .i64 0),(.int .i64 0),(.str []),(.str []),(.int .i64 0),(.int .i64 0),(.int .i64 0),(.slice .c0 [])] [(0,1,(.ll (.int .i64 5))),(2,1,(.ll (.str [47,97,47,102]))),(3,1,(.ll (.str [47,98,47,102])))]),
 ob 54 (.call 15 [(.tmp 52),(.tmp 53)]),
 ob 51 (.mv (.tmp 54)),
 ob 55 (.extract (.tmp 51) 0),
 ob 56 (.extract (.tmp 51) 1),
 ob 10 (.sU [(.slice .c0 []),(.slice .c0 []),(.int .i64 0),(.int .i64 0)]),
 ob 11 (.sU [(.int .i64 0),(.int .i64 0),(.int .i64 0),(.int .i64 0),(.int .i64 0),(.slice .c0 []),(.slice .c0 [])]),
 ox (.store 4 (.tmp 10) (.tmp 55)),
 ox (.store 7 (.tmp 11) (.tmp 56))] false [1,2,3,4,5,7,9,10,11]) Zq)
def Zu:cz :=
 (.seq (.region [
 ob 46 (.nD 4 (.tmp 1)),
 ob 47 (.build [(.int .i64 0),(.int .i64 0),(.str []),(.str []),(.int .i64 0),(.int .i64 0),(.int .i64 0),(.slice .c0 [])] [(0,1,(.ll (.int .i64 5))),(2,1,(.ll (.str [47,97]))),(3,1,(.ll (.str [47,99])))]),
 ob 48 (.call 15 [(.tmp 46),(.tmp 47)]),
 ob 45 (.mv (.tmp 48)),
 ob 49 (.extract (.tmp 45) 0),
 ob 50 (.extract (.tmp 45) 1),
 ob 8 (.sU [(.slice .c0 []),(.slice .c0 []),(.int .i64 0),(.int .i64 0)]),
 ob 9 (.sU [(.int .i64 0),(.int .i64 0),(.int .i64 0),(.int .i64 0),(.int .i64 0),(.slice .c0 []),(.slice .c0 [])]),
 ox (.store 4 (.tmp 8) (.tmp 49)),
 ox (.store 7 (.tmp 9) (.tmp 50))] false [1,2,3,4,5,7,9]) Zt)
def Zv:cz :=
 (.seq (.region [
 ob 40 (.nD 4 (.tmp 1)),
 ob 41 (.build [(.int .i64 0),(.int .i64 0),(.str []),(.str []),(.int .i64 0),(.int .i64 0),(.int .i64 0),(.slice .c0 [])] [(0,1,(.ll (.int .i64 3))),(2,1,(.ll (.str [47,97,47,102]))),(3,1,(.ll (.str [47,103])))]),
 ob 42 (.call 15 [(.tmp 40),(.tmp 41)]),
 ob 39 (.mv (.tmp 42)),
 ob 43 (.extract (.tmp 39) 0),
 ob 44 (.extract (.tmp 39) 1),
 ob 6 (.sU [(.slice .c0 []),(.slice .c0 []),(.int .i64 0),(.int .i64 0)]),
 ob 7 (.sU [(.int .i64 0),(.int .i64 0),(.int .i64 0),(.int .i64 0),(.int .i64 0),(.slice .c0 []),(.slice .c0 [])]),
 ox (.store 4 (.tmp 6) (.tmp 43)),
 ox (.store 7 (.tmp 7) (.tmp 44))] false [1,2,3,4,5,7]) Zu)
def Zw:cz :=
 (.seq (.region [
 ob 34 (.nD 4 (.tmp 1)),
 ob 35 (.build [(.int .i64 0),(.int .i64 0),(.str []),(.str []),(.int .i64 0),(.int .i64 0),(.int .i64 0),(.slice .c0 [])] [(0,1,(.ll (.int .i64 2))),(2,1,(.ll (.str [47,97,47,102]))),(4,1,(.ll (.int .i64 1)))]),
 ob 36 (.call 15 [(.tmp 34),(.tmp 35)]),
 ob 33 (.mv (.tmp 36)),
 ob 37 (.extract (.tmp 33) 0),
 ob 38 (.extract (.tmp 33) 1),
 ob 5 (.sU [(.int .i64 0),(.int .i64 0),(.int .i64 0),(.int .i64 0),(.int .i64 0),(.slice .c0 []),(.slice .c0 [])]),
 ox (.store 4 (.tmp 1) (.tmp 37)),
 ox (.store 7 (.tmp 5) (.tmp 38))] false [1,2,3,4,5]) Zv)
def Zx:cz :=
 (.seq (.region [
 ob 29 (.nD 4 (.tmp 1)),
 ob 30 (.call 42 [(.tmp 29),(.ll (.str [47,97])),(.ll (.int .i64 5))]),
 ob 28 (.mv (.tmp 30)),
 ob 31 (.extract (.tmp 28) 0),
 ob 32 (.extract (.tmp 28) 1),
 ox (.store 4 (.tmp 1) (.tmp 31)),
 ob 4 (.mv (.tmp 32))] false [1,2,3,4]) Zw)
def TK:cz :=
 (.seq (.region [
 ob 23 (.nD 4 (.tmp 1)),
 ob 24 (.build [(.int .i64 0),(.int .i64 0),(.str []),(.str []),(.int .i64 0),(.int .i64 0),(.int .i64 0),(.slice .c0 [])] [(0,1,(.ll (.int .i64 2))),(2,1,(.ll (.str [47,98]))),(4,1,(.ll (.int .i64 2)))]),
 ob 25 (.call 15 [(.tmp 23),(.tmp 24)]),
 ob 22 (.mv (.tmp 25)),
 ob 26 (.extract (.tmp 22) 0),
 ob 27 (.extract (.tmp 22) 1),
 ob 3 (.sU [(.int .i64 0),(.int .i64 0),(.int .i64 0),(.int .i64 0),(.int .i64 0),(.slice .c0 []),(.slice .c0 [])]),
 ox (.store 4 (.tmp 1) (.tmp 26)),
 ox (.store 7 (.tmp 3) (.tmp 27))] false [1,2,3]) Zx)
def TL:cz :=
 (.seq (.region [
 ob 17 (.call 34 [(.ll (.int .i64 1))]),
 ob 18 (.build [(.int .i64 0),(.int .i64 0),(.str []),(.str []),(.int .i64 0),(.int .i64 0),(.int .i64 0),(.slice .c0 [])] [(0,1,(.ll (.int .i64 2))),(2,1,(.ll (.str [47,97]))),(4,1,(.ll (.int .i64 2)))]),
 ob 19 (.call 15 [(.tmp 17),(.tmp 18)]),
 ob 16 (.mv (.tmp 19)),
 ob 20 (.extract (.tmp 16) 0),
 ob 21 (.extract (.tmp 16) 1),
 ob 1 (.sU [(.slice .c0 []),(.slice .c0 []),(.int .i64 0),(.int .i64 0)]),
 ob 2 (.sU [(.int .i64 0),(.int .i64 0),(.int .i64 0),(.int .i64 0),(.int .i64 0),(.slice .c0 []),(.slice .c0 [])]),
 ox (.store 4 (.tmp 1) (.tmp 20)),
 ox (.store 7 (.tmp 2) (.tmp 21))] false [1,2]) TK)
def E11:=bR (hV Zm.eq_1)$ bR (hV Zn.eq_1)$ bR (hV Zo.eq_1)$ bR (hV Zp.eq_1)$ bR (hV Zq.eq_1)$ bR (hV Zt.eq_1)$ bR (hV Zu.eq_1)$ bR (hV Zv.eq_1)$ bR (hV Zw.eq_1)$ bR (hV Zx.eq_1)$ bR (hV TK.eq_1) (hV TL.eq_1)
def aef:B5:={ n:=187,own:=[],lv:=[(0,[]),(1,[1,2]),(2,[1,2,3]),(3,[1,2,3,4]),(4,[1,2,3,4,5]),(5,[1,2,3,4,5,7]),(6,[1,2,3,4,5,7,9]),(7,[1,2,3,4,5,7,9,10,11]),(8,[1,2,3,4,5,7,9,10,11,13]),(9,[1,2,3,4,5,7,9,10,11,13,14,15]),(10,[1,2,3,4,5,7,9,10,11,13,14,15,82]),(11,[0]),(12,[0])],lp:=[] }
def aaA:eU:=eU.mk 0 [.tmp 0]
 (.seq (.region [
 ob 0 (.mv (.ll (.bool false)))] false []) TL)
def al6:oN Tryz.prog aef f11=some aaA:=by kernel_rfl
def ko3:Ko [] f3:=by apply Subtype.mk; cbv
def b3:=ko3.1
def Y5:=eU.mk 3 [.tmp 6] (sub b3 0)
def ko4:Ko [] f4:=by apply Subtype.mk; cbv
def b4:=ko4.1
def fn4:=eU.mk 3 [.tmp 6] (sub b4 0)
abbrev aho:=sub b4 38
abbrev ahp:=sub b4 55
def ko5:Ko [] f5:=by apply Subtype.mk; cbv
def b5:=ko5.1
def fn5:=eU.mk 4 [.tmp 8] (sub b5 0)
abbrev ahq:=sub b5 77
abbrev ahr:=sub b5 65
def ko6:Ko [] f6:=by apply Subtype.mk; cbv
def b6:=ko6.1
def fn6:=eU.mk 3 [.tmp 6] (sub b6 0)
def o7:=by
 have h:=bR (fZ b12 abg.1)$ bR (fZ b37 abE.1)$ bR (fZ b36 abD.1)$ bR (fZ b14 abi.1)$ bR (fZ b3 ko3.1)$ bR (fZ b4 ko4.1)$ bR (fZ b5 ko5.1) (fZ b6 ko6.1);simp only[abg,abE,abD,abi,ko3,ko4,ko5,ko6,yT,seval] at h;exact h
def E12:=o7.1
def E37:=o7.2.1
def UL:=o7.2.2.1
def E14:=o7.2.2.2.1
def E3:=o7.2.2.2.2.1
def E4:=o7.2.2.2.2.2.1
def E5:=o7.2.2.2.2.2.2.1
def E6:=o7.2.2.2.2.2.2.2
def ko7:Ko [] f7:=by apply Subtype.mk; cbv
def b7:=ko7.1
def fn7:=eU.mk 3 [.tmp 6] (sub b7 0)
def ko8:Ko [] f8:=by apply Subtype.mk; cbv
def b8:=ko8.1
def fn8:=eU.mk 3 [.tmp 6] (sub b8 0)
def ko9:Ko [] f9:=by apply Subtype.mk; cbv
def b9:=ko9.1
def fn9:=eU.mk 3 [.tmp 6] (sub b9 0)
abbrev ahs:=sub b9 53
abbrev aht:=sub b9 39
def abf:Ko [] f10:=by apply Subtype.mk; cbv
def b10:=abf.1
def aaz:=eU.mk 2 [.tmp 4] (sub b10 0)
def ye:=by
 have h:=And.intro (fZ b8 ko8.1) (And.intro (fZ b9 ko9.1) (fZ b10 abf.1));simp only[ko8,ko9,abf,yT,seval] at h;exact h
def E8:=ye.1
def E9:=ye.2.1
def E10:=ye.2.2
end Go.Proofs.YtcbopkblmebjiaaGreatDoor
set_option linter.defProp false
set_option cbv.maxSteps 10000000
set_option maxRecDepth 100000
namespace Go.Proofs.YtcbopkblmebjiaaGreatDoor
open Go Go.Abs
def ab4:Ko [7] f67:=by apply Subtype.mk; cbv
def b67:=ab4.1
def Nx:=eU.mk 1 [.tmp 2,.tmp 3] (sub b67 0)
def ame:wu [7] f67 Nx:=fU
abbrev acI:=sub b67 27
def aco:Ko [] f88:=by apply Subtype.mk; cbv
def b88:=aco.1
def agJ:=eU.mk 1 [.tmp 2] (sub b88 0)
abbrev acK:=sub b88 17
def abo:Ko [] f20:=by apply Subtype.mk; cbv
def b20:=abo.1
def af7:=eU.mk 2 [.tmp 4] (sub b20 0)
def ab3:Ko [] f66:=by apply Subtype.mk; cbv
def b66:=ab3.1
def agx:=eU.mk 2 [.tmp 4] (sub b66 0)
def abt:Ko [] f24:=by apply Subtype.mk; cbv
def b24:=abt.1
def af9:=eU.mk 2 [.tmp 4,.tmp 5] (sub b24 0)
def QP:Ko [13] f108:=by apply Subtype.mk; cbv
def UY:=QP.1
def CH:=eU.mk 4 [.tmp 8,.tmp 9,.tmp 10] (sub UY 0)
def ahx:wu [13] f108 CH:=fU
abbrev VR:=sub UY 32
abbrev VS:=sub UY 24
def abq:Ko [] f22:=by apply Subtype.mk; cbv
def b22:=abq.1
def aaD:=eU.mk 2 [.tmp 4] (sub b22 0)
def Q9:Ko [] f132:=by apply Subtype.mk; cbv
def aey:=Q9.1
def Qa:=eU.mk 2 [.tmp 4] (sub aey 0)
def o8:=by
 have h:=bR (fZ b67 ab4.1)$ bR (fZ b88 aco.1)$ bR (fZ b20 abo.1)$ bR (fZ b66 ab3.1)$ bR (fZ b24 abt.1)$ bR (fZ UY QP.1)$ bR (fZ b22 abq.1) (fZ aey Q9.1);simp only[ab4,aco,abo,ab3,abt,QP,abq,Q9,yT,seval] at h;exact h
def OW:=o8.1
def E88:=o8.2.1
def E20:=o8.2.2.1
def E66:=o8.2.2.2.1
def E24:=o8.2.2.2.2.1
def vZ:=o8.2.2.2.2.2.1
def E22:=o8.2.2.2.2.2.2.1
def O4:=o8.2.2.2.2.2.2.2
def QQ:Ko [] f109:=by apply Subtype.mk; cbv
def aeo:=QQ.1
def LB:=eU.mk 1 [.tmp 2,.tmp 3,.tmp 4] (sub aeo 0)
def ZE:=by
 have h:=fZ aeo QQ.1;simp only[QQ,yT,seval] at h;exact h
end Go.Proofs.YtcbopkblmebjiaaGreatDoor
set_option linter.defProp false
set_option cbv.maxSteps 10000000
set_option maxRecDepth 100000
namespace Go.Proofs.YtcbopkblmebjiaaGreatDoor
open Go Go.Abs
def abn:Ko [] f19:=by apply Subtype.mk; cbv
def b19:=abn.1
def af6:=eU.mk 2 [.tmp 4] (sub b19 0)
def E19:=by
 have h:=fZ b19 abn.1;simp only[abn,yT,seval] at h;exact h
end Go.Proofs.YtcbopkblmebjiaaGreatDoor
set_option linter.defProp false
set_option cbv.maxSteps 10000000
set_option maxRecDepth 100000
namespace Go.Proofs.YtcbopkblmebjiaaGreatDoor
open Go Go.Abs
def acf:Ko [] f77:=by apply Subtype.mk; cbv
def b77:=acf.1
def agD:=eU.mk 1 [.tmp 2] (sub b77 0)
def Ri:Ko [] f140:=by apply Subtype.mk; cbv
def aeE:=Ri.1
def Yi:=eU.mk 1 [.tmp 2] (sub aeE 0)
def Q5:Ko [] f127:=by apply Subtype.mk; cbv
def aev:=Q5.1
def X8:=eU.mk 1 [.tmp 2] (sub aev 0)
def Q6:Ko [5] f128:=by apply Subtype.mk; cbv
def aab:=Q6.1
def LC:=eU.mk 2 [.tmp 4] (sub aab 0)
def ahB:wu [5] f128 LC:=fU
abbrev L2:=sub aab 9
def ab1:Ko [] f64:=by apply Subtype.mk; cbv
def b64:=ab1.1
def aaO:=eU.mk 2 [.tmp 4,.tmp 5] (sub b64 0)
def Q7:Ko [] f129:=by apply Subtype.mk; cbv
def aew:=Q7.1
def X9:=eU.mk 2 [.tmp 3] (sub aew 0)
def Sd:Ko [] f225:=by apply Subtype.mk; cbv
def afi:=Sd.1
def Qk:=eU.mk 2 [.tmp 4] (sub afi 0)
def Sq:Ko [] f251:=by apply Subtype.mk; cbv
def aft:=Sq.1
def YW:=eU.mk 2 [.tmp 3] (sub aft 0)
def o9:=by
 have h:=bR (fZ b77 acf.1)$ bR (fZ aeE Ri.1)$ bR (fZ aev Q5.1)$ bR (fZ aab Q6.1)$ bR (fZ b64 ab1.1)$ bR (fZ aew Q7.1)$ bR (fZ afi Sd.1) (fZ aft Sq.1);simp only[acf,Ri,Q5,Q6,ab1,Q7,Sd,Sq,yT,seval] at h;exact h
def E77:=o9.1
def aiH:=o9.2.1
def aiA:=o9.2.2.1
def GL:=o9.2.2.2.1
def E64:=o9.2.2.2.2.1
def aiB:=o9.2.2.2.2.2.1
def ad4:=o9.2.2.2.2.2.2.1
def ai2:=o9.2.2.2.2.2.2.2
def Rz:Ko [] f157:=by apply Subtype.mk; cbv
def aeP:=Rz.1
def Yp:=eU.mk 2 [.tmp 4,.tmp 5] (sub aeP 0)
def R6:Ko [] f210:=by apply Subtype.mk; cbv
def afc:=R6.1
def YK:=eU.mk 2 [.tmp 4] (sub afc 0)
def acb:Ko [1000145] f74:=by apply Subtype.mk; cbv
def b74:=acb.1
def Vt:=eU.mk 1 [.tmp 2] (sub b74 0)
def amf:wu [1000145] f74 Vt:=fU
def Rf:Ko [] f137:=by apply Subtype.mk; cbv
def aeB:=Rf.1
def Yf:=eU.mk 2 [.tmp 4] (sub aeB 0)
def Rh:Ko [] f139:=by apply Subtype.mk; cbv
def aeD:=Rh.1
def Yh:=eU.mk 1 [.tmp 2] (sub aeD 0)
def Rj:Ko [] f141:=by apply Subtype.mk; cbv
def aeF:=Rj.1
def Yj:=eU.mk 2 [.tmp 4] (sub aeF 0)
def RA:Ko [1000145] f158:=by apply Subtype.mk; cbv
def aeQ:=RA.1
def LF:=eU.mk 3 [.tmp 6] (sub aeQ 0)
def ahH:wu [1000145] f158 LF:=fU
def acr:Ko [1000158,1000160] f91:=by apply Subtype.mk; cbv
def b91:=acr.1
def HE:=eU.mk 3 [.tmp 6,.tmp 7] (sub b91 0)
def ami:wu [1000158,1000160] f91 HE:=fU
def pb:=by
 have h:=bR (fZ aeP Rz.1)$ bR (fZ afc R6.1)$ bR (fZ b74 acb.1)$ bR (fZ aeB Rf.1)$ bR (fZ aeD Rh.1)$ bR (fZ aeF Rj.1)$ bR (fZ aeQ RA.1) (fZ b91 acr.1);simp only[Rz,R6,acb,Rf,Rh,Rj,RA,acr,yT,seval] at h;exact h
def aiL:=pb.1
def aiU:=pb.2.1
def E74:=pb.2.2.1
def aiD:=pb.2.2.2.1
def aiF:=pb.2.2.2.2.1
def aiI:=pb.2.2.2.2.2.1
def aiM:=pb.2.2.2.2.2.2.1
def E91:=pb.2.2.2.2.2.2.2
def RD:Ko [] f159:=by apply Subtype.mk; cbv
def aeR:=RD.1
def Yq:=eU.mk 2 [] (sub aeR 0)
def acu:Ko [1000158,1000163] f93:=by apply Subtype.mk; cbv
def b93:=acu.1
def Ka:=eU.mk 2 [.tmp 4,.tmp 5] (sub b93 0)
def amj:wu [1000158,1000163] f93 Ka:=fU
def RF:Ko [] f162:=by apply Subtype.mk; cbv
def aeT:=RF.1
def Yt:=eU.mk 2 [] (sub aeT 0)
def Rq:Ko [1000158] f150:=by apply Subtype.mk; cbv
def aeJ:=Rq.1
def CI:=eU.mk 3 [.tmp 6,.tmp 7] (sub aeJ 0)
def ahD:wu [1000158] f150 CI:=fU
def R1:Ko [] f205:=by apply Subtype.mk; cbv
def ae8:=R1.1
def YG:=eU.mk 2 [] (sub ae8 0)
def Q8:Ko [] f130:=by apply Subtype.mk; cbv
def aex:=Q8.1
def Ya:=eU.mk 2 [.tmp 4] (sub aex 0)
def RY:Ko [] f195:=by apply Subtype.mk; cbv
def aai:=RY.1
def YE:=eU.mk 2 [.tmp 4] (sub aai 0)
abbrev V8:=sub aai 15
def ab9:Ko [] f72:=by apply Subtype.mk; cbv
def b72:=ab9.1
def aaP:=eU.mk 2 [.tmp 4] (sub b72 0)
def nR:=by
 have h:=bR (fZ aeR RD.1)$ bR (fZ b93 acu.1)$ bR (fZ aeT RF.1)$ bR (fZ aeJ Rq.1)$ bR (fZ ae8 R1.1)$ bR (fZ aex Q8.1)$ bR (fZ aai RY.1) (fZ b72 ab9.1);simp only[RD,acu,RF,Rq,R1,Q8,RY,ab9,yT,seval] at h;exact h
def aiN:=nR.1
def E93:=nR.2.1
def aiO:=nR.2.2.1
def O6:=nR.2.2.2.1
def aiS:=nR.2.2.2.2.1
def O3:=nR.2.2.2.2.2.1
def FN:=nR.2.2.2.2.2.2.1
def E72:=nR.2.2.2.2.2.2.2
def aca:Ko [] f73:=by apply Subtype.mk; cbv
def b73:=aca.1
def agB:=eU.mk 3 [.tmp 6] (sub b73 0)
def Rk:Ko [] f142:=by apply Subtype.mk; cbv
def aae:=Rk.1
def Yk:=eU.mk 2 [.tmp 4] (sub aae 0)
abbrev V2:=sub aae 7
def Rl:Ko [] f143:=by apply Subtype.mk; cbv
def aeG:=Rl.1
def Yl:=eU.mk 2 [.tmp 4] (sub aeG 0)
def RZ:Ko [] f200:=by apply Subtype.mk; cbv
def ae7:=RZ.1
def YF:=eU.mk 2 [.tmp 4] (sub ae7 0)
def Rm:Ko [] f144:=by apply Subtype.mk; cbv
def aaf:=Rm.1
def Ym:=eU.mk 2 [.tmp 4] (sub aaf 0)
abbrev V3:=sub aaf 15
def R5:Ko [] f209:=by apply Subtype.mk; cbv
def aak:=R5.1
def YJ:=eU.mk 3 [.tmp 6,.tmp 7] (sub aak 0)
abbrev Wa:=sub aak 9
def qx:=by
 have h:=bR (fZ b73 aca.1)$ bR (fZ aae Rk.1)$ bR (fZ aeG Rl.1)$ bR (fZ ae7 RZ.1)$ bR (fZ aaf Rm.1) (fZ aak R5.1);simp only[aca,Rk,Rl,RZ,Rm,R5,yT,seval] at h;exact h
def E73:=qx.1
def UA:=qx.2.1
def aiJ:=qx.2.2.1
def ZL:=qx.2.2.2.1
def MN:=qx.2.2.2.2.1
def GN:=qx.2.2.2.2.2
end Go.Proofs.YtcbopkblmebjiaaGreatDoor
set_option linter.defProp false
set_option cbv.maxSteps 10000000
set_option maxRecDepth 100000
namespace Go.Proofs.YtcbopkblmebjiaaGreatDoor
open Go Go.Abs
def acs:Ko [] f92:=by apply Subtype.mk; cbv
def b92:=acs.1
def agK:=eU.mk 1 [] (sub b92 0)
def abM:Ko [] f47:=by apply Subtype.mk; cbv
def b47:=abM.1
def agl:=eU.mk 2 [] (sub b47 0)
def abO:Ko [] f49:=by apply Subtype.mk; cbv
def b49:=abO.1
def agn:=eU.mk 2 [.tmp 4,.tmp 5] (sub b49 0)
def QN:Ko [8000107] f105:=by apply Subtype.mk; cbv
def Z2:=QN.1
def P6:=eU.mk 8 [] (sub Z2 0)
def ahw:wu [8000107] f105 P6:=fU
abbrev VQ:=sub Z2 6
def abx:Ko [1002001011,11000004] f28:=by apply Subtype.mk; cbv
def b28:=abx.1
def aaG:=eU.mk 2 [.fG 4 4] (sub b28 0)
def ama:wu [1002001011,11000004] f28 aaG:=fU
def abl:Ko [1506000003] f17:=by apply Subtype.mk; cbv
def b17:=abl.1
def aaB:=eU.mk 1 [.fG 2 3] (sub b17 0)
def al7:wu [1506000003] f17 aaB:=fU
def abC:Ko [] f34:=by apply Subtype.mk; cbv
def b34:=abC.1
def age:=eU.mk 1 [.fG 2 4] (sub b34 0)
def abA:Ko [] f31:=by apply Subtype.mk; cbv
def b31:=abA.1
def aaI:=eU.mk 1 [.tmp 2] (sub b31 0)
def pd:=by
 have h:=bR (fZ b92 acs.1)$ bR (fZ b47 abM.1)$ bR (fZ b49 abO.1)$ bR (fZ Z2 QN.1)$ bR (fZ b28 abx.1)$ bR (fZ b17 abl.1)$ bR (fZ b34 abC.1) (fZ b31 abA.1);simp only[acs,abM,abO,QN,abx,abl,abC,abA,yT,seval] at h;exact h
def E92:=pd.1
def E47:=pd.2.1
def E49:=pd.2.2.1
def MM:=pd.2.2.2.1
def XA:=pd.2.2.2.2.1
def E17:=pd.2.2.2.2.2.1
def E34:=pd.2.2.2.2.2.2.1
def E31:=pd.2.2.2.2.2.2.2
def abz:Ko [] f30:=by apply Subtype.mk; cbv
def b30:=abz.1
def aaH:=eU.mk 2 [.tmp 4] (sub b30 0)
def ab7:Ko [] f70:=by apply Subtype.mk; cbv
def b70:=ab7.1
def agz:=eU.mk 2 [.tmp 4] (sub b70 0)
def acq:Ko [] f90:=by apply Subtype.mk; cbv
def b90:=acq.1
def aaT:=eU.mk 2 [.fG 4 6] (sub b90 0)
def RH:Ko [] f169:=by apply Subtype.mk; cbv
def aeV:=RH.1
def Yu:=eU.mk 2 [.tmp 4,.tmp 5] (sub aeV 0)
def RN:Ko [] f173:=by apply Subtype.mk; cbv
def aeZ:=RN.1
def Yx:=eU.mk 2 [] (sub aeZ 0)
def RI:Ko [] f170:=by apply Subtype.mk; cbv
def aeW:=RI.1
def Qd:=eU.mk 4 [] (sub aeW 0)
def acw:Ko [] f97:=by apply Subtype.mk; cbv
def b97:=acw.1
def aaV:=eU.mk 1 [] (sub b97 0)
def acx:Ko [] f98:=by apply Subtype.mk; cbv
def b98:=acx.1
def aaW:=eU.mk 1 [] (sub b98 0)
def pf:=by
 have h:=bR (fZ b30 abz.1)$ bR (fZ b70 ab7.1)$ bR (fZ b90 acq.1)$ bR (fZ aeV RH.1)$ bR (fZ aeZ RN.1)$ bR (fZ aeW RI.1)$ bR (fZ b97 acw.1) (fZ b98 acx.1);simp only[abz,ab7,acq,RH,RN,RI,acw,acx,yT,seval] at h;exact h
def E30:=pf.1
def E70:=pf.2.1
def E90:=pf.2.2.1
def UD:=pf.2.2.2.1
def MP:=pf.2.2.2.2.1
def ad0:=pf.2.2.2.2.2.1
def E97:=pf.2.2.2.2.2.2.1
def E98:=pf.2.2.2.2.2.2.2
def acy:Ko [11000005] f99:=by apply Subtype.mk; cbv
def b99:=acy.1
def Qo:=eU.mk 1 [] (sub b99 0)
def amk:wu [11000005] f99 Qo:=fU
def QI:Ko [] f100:=by apply Subtype.mk; cbv
def aei:=QI.1
def LA:=eU.mk 1 [] (sub aei 0)
def QJ:Ko [] f101:=by apply Subtype.mk; cbv
def aej:=QJ.1
def Hy:=eU.mk 1 [] (sub aej 0)
def QK:Ko [] f102:=by apply Subtype.mk; cbv
def aek:=QK.1
def Hz:=eU.mk 1 [] (sub aek 0)
def QL:Ko [] f103:=by apply Subtype.mk; cbv
def ael:=QL.1
def Ee:=eU.mk 1 [] (sub ael 0)
def abL:Ko [] f46:=by apply Subtype.mk; cbv
def b46:=abL.1
def agk:=eU.mk 0 [.tmp 0] (sub b46 0)
def abN:Ko [] f48:=by apply Subtype.mk; cbv
def b48:=abN.1
def agm:=eU.mk 1 [.fG 2 3] (sub b48 0)
def abK:Ko [] f45:=by apply Subtype.mk; cbv
def b45:=abK.1
def J8:=eU.mk 3 [] (sub b45 0)
def nS:=by
 have h:=bR (fZ b99 acy.1)$ bR (fZ aei QI.1)$ bR (fZ aej QJ.1)$ bR (fZ aek QK.1)$ bR (fZ ael QL.1)$ bR (fZ b46 abL.1)$ bR (fZ b48 abN.1) (fZ b45 abK.1);simp only[acy,QI,QJ,QK,QL,abL,abN,abK,yT,seval] at h;exact h
def ZV:=nS.1
def ZD:=nS.2.1
def Ux:=nS.2.2.1
def Uy:=nS.2.2.2.1
def O1:=nS.2.2.2.2.1
def E46:=nS.2.2.2.2.2.1
def E48:=nS.2.2.2.2.2.2.1
def E45:=nS.2.2.2.2.2.2.2
def abj:Ko [] f15:=by apply Subtype.mk; cbv
def b15:=abj.1
def Vs:=eU.mk 2 [.fG 4 4,.fG 5 7] (sub b15 0)
def abp:Ko [7] f21:=by apply Subtype.mk; cbv
def b21:=abp.1
def aaC:=eU.mk 2 [.tmp 4] (sub b21 0)
def al8:wu [7] f21 aaC:=fU
def ab0:Ko [] f62:=by apply Subtype.mk; cbv
def b62:=ab0.1
def agv:=eU.mk 3 [] (sub b62 0)
def abI:Ko [] f42:=by apply Subtype.mk; cbv
def b42:=abI.1
def aaK:=eU.mk 3 [.fG 6 4,.tmp 7] (sub b42 0)
def acp:Ko [] f89:=by apply Subtype.mk; cbv
def b89:=acp.1
def Nz:=eU.mk 4 [] (sub b89 0)
def acv:Ko [] f94:=by apply Subtype.mk; cbv
def b94:=acv.1
def aaU:=eU.mk 3 [.fG 6 4,.tmp 7] (sub b94 0)
def abJ:Ko [] f43:=by apply Subtype.mk; cbv
def b43:=abJ.1
def agj:=eU.mk 2 [.fG 4 4,.tmp 5] (sub b43 0)
def aci:Ko [] f82:=by apply Subtype.mk; cbv
def b82:=aci.1
def agH:=eU.mk 3 [.fG 6 4,.tmp 7] (sub b82 0)
def nT:=by
 have h:=bR (fZ b15 abj.1)$ bR (fZ b21 abp.1)$ bR (fZ b62 ab0.1)$ bR (fZ b42 abI.1)$ bR (fZ b89 acp.1)$ bR (fZ b94 acv.1)$ bR (fZ b43 abJ.1) (fZ b82 aci.1);simp only[abj,abp,ab0,abI,acp,acv,abJ,aci,yT,seval] at h;exact h
def E15:=nT.1
def E21:=nT.2.1
def E62:=nT.2.2.1
def E42:=nT.2.2.2.1
def E89:=nT.2.2.2.2.1
def E94:=nT.2.2.2.2.2.1
def E43:=nT.2.2.2.2.2.2.1
def E82:=nT.2.2.2.2.2.2.2
end Go.Proofs.YtcbopkblmebjiaaGreatDoor
set_option linter.defProp false
set_option cbv.maxSteps 10000000
set_option maxRecDepth 100000
namespace Go.Proofs.YtcbopkblmebjiaaGreatDoor
open Go Go.Abs
def ab5:Ko [] f68:=by apply Subtype.mk; cbv
def b68:=ab5.1
def Qn:=eU.mk 2 [.tmp 4] (sub b68 0)
def aby:Ko [] f29:=by apply Subtype.mk; cbv
def b29:=aby.1
def agc:=eU.mk 1 [.tmp 2] (sub b29 0)
def al1:Ko [] f79:=by apply Subtype.mk; cbv
def b79:=al1.1
def akT:=eU.mk 1 [.tmp 2] (sub b79 0)
def abu:Ko [] f25:=by apply Subtype.mk; cbv
def b25:=abu.1
def aaF:=eU.mk 2 [.tmp 4,.tmp 5] (sub b25 0)
def R4:Ko [5] f208:=by apply Subtype.mk; cbv
def afb:=R4.1
def LH:=eU.mk 2 [.tmp 4] (sub afb 0)
def ahN:wu [5] f208 LH:=fU
def R2:Ko [] f206:=by apply Subtype.mk; cbv
def ae9:=R2.1
def YH:=eU.mk 2 [.tmp 4] (sub ae9 0)
def Rr:Ko [11] f151:=by apply Subtype.mk; cbv
def aeK:=Rr.1
def zh:=eU.mk 3 [.tmp 6,.tmp 7] (sub aeK 0)
def ahE:wu [11] f151 zh:=fU
def Rs:Ko [15] f152:=by apply Subtype.mk; cbv
def aeL:=Rs.1
def CJ:=eU.mk 2 [.tmp 4,.tmp 5] (sub aeL 0)
def ahF:wu [15] f152 CJ:=fU
def Ru:Ko [7000042] f153:=by apply Subtype.mk; cbv
def aeM:=Ru.1
def Bf:=eU.mk 3 [.tmp 6,.tmp 7] (sub aeM 0)
def ahG:wu [7000042] f153 Bf:=fU
def pg:=by
 have h:=bR (fZ b68 ab5.1)$ bR (fZ b29 aby.1)$ bR (fZ b25 abu.1)$ bR (fZ afb R4.1)$ bR (fZ ae9 R2.1)$ bR (fZ aeK Rr.1)$ bR (fZ aeL Rs.1) (fZ aeM Ru.1);simp only[ab5,aby,abu,R4,R2,Rr,Rs,Ru,yT,seval] at h;exact h
def ZQ:=pg.1
def E29:=pg.2.1
def E25:=pg.2.2.1
def Jk:=pg.2.2.2.1
def UF:=pg.2.2.2.2.1
def DG:=pg.2.2.2.2.2.1
def Jg:=pg.2.2.2.2.2.2.1
def MO:=pg.2.2.2.2.2.2.2
def abZ:Ko [] f61:=by apply Subtype.mk; cbv
def b61:=abZ.1
def agu:=eU.mk 2 [.tmp 4] (sub b61 0)
def abF:Ko [] f38:=by apply Subtype.mk; cbv
def b38:=abF.1
def agf:=eU.mk 2 [.tmp 4] (sub b38 0)
def abG:Ko [57] f40:=by apply Subtype.mk; cbv
def b40:=abG.1
def aaJ:=eU.mk 2 [.tmp 4] (sub b40 0)
def amc:wu [57] f40 aaJ:=fU
abbrev acG:=sub b40 26
abbrev acH:=sub b40 9
def Rp:Ko [5000016] f148:=by apply Subtype.mk; cbv
def UZ:=Rp.1
def Qb:=eU.mk 2 [.tmp 4] (sub UZ 0)
def ahC:wu [5000016] f148 Qb:=fU
abbrev V4:=sub UZ 60
abbrev V5:=sub UZ 48
def ach:Ko [] f81:=by apply Subtype.mk; cbv
def b81:=ach.1
def agG:=eU.mk 2 [.tmp 4] (sub b81 0)
def ace:Ko [8,1002001005] f76:=by apply Subtype.mk; cbv
def b76:=ace.1
def aaQ:=eU.mk 2 [.fG 4 4] (sub b76 0)
def amg:wu [8,1002001005] f76 aaQ:=fU
def abr:Ko [1006000003] f23:=by apply Subtype.mk; cbv
def b23:=abr.1
def aaE:=eU.mk 1 [.fG 2 3] (sub b23 0)
def al9:wu [1006000003] f23 aaE:=fU
abbrev acC:=sub b23 30
abbrev acD:=sub b23 18
abbrev acE:=sub b23 8
def abB:Ko [] f33:=by apply Subtype.mk; cbv
def b33:=abB.1
def agd:=eU.mk 1 [.fG 2 4] (sub b33 0)
def ph:=by
 have h:=bR (fZ b61 abZ.1)$ bR (fZ b38 abF.1)$ bR (fZ b40 abG.1)$ bR (fZ UZ Rp.1)$ bR (fZ b81 ach.1)$ bR (fZ b76 ace.1)$ bR (fZ b23 abr.1) (fZ b33 abB.1);simp only[abZ,abF,abG,Rp,ach,ace,abr,abB,yT,seval] at h;exact h
def E61:=ph.1
def E38:=ph.2.1
def Jn:=ph.2.2.1
def xM:=ph.2.2.2.1
def XB:=ph.2.2.2.2.1
def ZT:=ph.2.2.2.2.2.1
def Ut:=ph.2.2.2.2.2.2.1
def E33:=ph.2.2.2.2.2.2.2
def alW:Ko [] f35:=by apply Subtype.mk; cbv
def b35:=alW.1
def akR:=eU.mk 1 [.tmp 2] (sub b35 0)
def abm:Ko [] f18:=by apply Subtype.mk; cbv
def b18:=abm.1
def af5:=eU.mk 2 [.tmp 4] (sub b18 0)
def abQ:Ko [] f51:=by apply Subtype.mk; cbv
def b51:=abQ.1
def aaM:=eU.mk 2 [.tmp 4,.tmp 5,.tmp 6] (sub b51 0)
def abP:Ko [11] f50:=by apply Subtype.mk; cbv
def b50:=abP.1
def J9:=eU.mk 2 [.fG 4 7] (sub b50 0)
def amd:wu [11] f50 J9:=fU
def QU:Ko [] f113:=by apply Subtype.mk; cbv
def aeq:=QU.1
def XZ:=eU.mk 1 [.fG 2 3] (sub aeq 0)
def abT:Ko [] f53:=by apply Subtype.mk; cbv
def b53:=abT.1
def aaN:=eU.mk 4 [.fG 8 3,.fG 9 7] (sub b53 0)
def abk:Ko [] f16:=by apply Subtype.mk; cbv
def b16:=abk.1
def xP:=eU.mk 2 [.fG 4 3,.fG 5 7] (sub b16 0)
def Rv:Ko [] f154:=by apply Subtype.mk; cbv
def aeN:=Rv.1
def Qc:=eU.mk 1 [.tmp 2] (sub aeN 0)
def R3:Ko [] f207:=by apply Subtype.mk; cbv
def afa:=R3.1
def YI:=eU.mk 1 [.tmp 2] (sub afa 0)
def nU:=by
 have h:=bR (fZ b18 abm.1)$ bR (fZ b51 abQ.1)$ bR (fZ b50 abP.1)$ bR (fZ aeq QU.1)$ bR (fZ b53 abT.1)$ bR (fZ b16 abk.1)$ bR (fZ aeN Rv.1) (fZ afa R3.1);simp only[abm,abQ,abP,QU,abT,abk,Rv,R3,yT,seval] at h;exact h
def E18:=nU.1
def E51:=nU.2.1
def ZO:=nU.2.2.1
def ZF:=nU.2.2.2.1
def E53:=nU.2.2.2.2.1
def Ji:=nU.2.2.2.2.2.1
def adZ:=nU.2.2.2.2.2.2.1
def aiT:=nU.2.2.2.2.2.2.2
def Rx:Ko [] f155:=by apply Subtype.mk; cbv
def aeO:=Rx.1
def LD:=eU.mk 3 [.tmp 6] (sub aeO 0)
def acn:Ko [] f86:=by apply Subtype.mk; cbv
def b86:=acn.1
def HD:=eU.mk 2 [.fG 4 4,.fG 5 7] (sub b86 0)
def al3:Ko [5000011] f87:=by apply Subtype.mk; cbv
def b87:=al3.1
def agI:=eU.mk 2 [.tmp 4] (sub b87 0)
def amh:wu [5000011] f87 agI:=fU
def alX:Ko [7] f39:=by apply Subtype.mk; cbv
def b39:=alX.1
def agh:=eU.mk 2 [.tmp 4] (sub b39 0)
def amb:wu [7] f39 agh:=fU
def acj:Ko [] f83:=by apply Subtype.mk; cbv
def b83:=acj.1
def Ny:=eU.mk 3 [.fG 6 4,.tmp 7] (sub b83 0)
def ack:Ko [] f84:=by apply Subtype.mk; cbv
def b84:=ack.1
def aaR:=eU.mk 2 [.fG 4 4,.tmp 5] (sub b84 0)
def acm:Ko [] f85:=by apply Subtype.mk; cbv
def b85:=acm.1
def aaS:=eU.mk 3 [.fG 6 4,.tmp 7] (sub b85 0)
def sg:=by
 have h:=bR (fZ aeO Rx.1)$ bR (fZ b86 acn.1)$ bR (fZ b83 acj.1)$ bR (fZ b84 ack.1) (fZ b85 acm.1);simp only[Rx,acn,acj,ack,acm,yT,seval] at h;exact h
def ZG:=sg.1
def ZU:=sg.2.1
def E83:=sg.2.2.1
def E84:=sg.2.2.2.1
def E85:=sg.2.2.2.2
end Go.Proofs.YtcbopkblmebjiaaGreatDoor
namespace Go.Abs
section
open Go Go.RowKit
theorem eN{α:Type}:∀(l:List α)(i:Nat),nth l i=l[i]?
 | [],_=>by rfl
 |_::_,0=>by rfl
 |_::l,n+1=>by simp[nth,eN l n]
theorem fQ{α:Type}:∀(l:List α)(i:Nat)(x:α),j6 l i x=l.set i x
 | [],_,_=>by rfl
 |_::_,0,_=>by rfl
 |_::l,n+1,x=>by simp[j6,fQ l n]
def gy(j:J)(id:Nat)(ob:Option Nat):J:=⟨fun i=>if i=id then ob else j i,j.X⟩
structure Quiet(w w':World):Prop where
 size:w.heap.size<=w'.heap.size
 os:w'.os=w.os
 tape:w'.tape=w.tape
 output:w'.output=w.output
theorem lt_of_block{w:World}{b:Nat}{o:Obj}(h:w.heap[b]?=some o):b<w.heap.size:=by
 grind
theorem aF{α:Type}{l:List α}{i:Nat}{x:α}(h:l[i]?=some x):i<l.length:=by grind
section
variable {j:J} {M:aL} {w w':World}
theorem pV{j':J}{M':aL}(hr:Rel j M w)(ext:Ext j M w j' M' w'){i sz ver:Nat}{xs:List ag}(h:M[i]?=some (.arr sz ver xs))(hj:j' i=j i)(hb:∀b,j i=some b->w'.heap[b]?=w.heap[b]?) :
  (xs=[]/\j' i=none)\/∃b vs t,j' i=some b/\w'.heap[b]?=some (.cells vs t (0,0))/\xs.length*sz<=vs.size/\(∀x,x∈xs->x.cells.length=sz) /\
  ∀(q:Nat)(x:ag)(k:Nat)(c:ag),xs[q]?=some x->x.cells[k]?=some c->∃v,vs[q*sz+k]?=some v/\fI w' (nV j' M' w') c v:=by
 rcases hr.arr i _ _ _ h with he|⟨b,vs,t,h1,h2,h3,h4,h5⟩
 ·grind
 refine .inr ⟨b,vs,t,hj.trans h1,(hb b h1).trans h2,h3,h4,fun q x k c hx hk=>?_⟩
 obtain⟨u,h6,h7⟩:=h5 q x k c hx hk;exact⟨u,h6,h7.mono ext.hU⟩
theorem Rel.yf(hr:Rel j M w){i sz ver b:Nat}{xs:List ag}(h:M[i]?=some (.arr sz ver xs))(hj:j i=some b):∃b vs t,j i=some b/\w.heap[b]?=some (.cells vs t (0,0))/\xs.length*sz<=vs.size/\(∀x,x∈xs->x.cells.length=sz) /\
  ∀(q:Nat)(x:ag)(k:Nat)(c:ag),xs[q]?=some x->x.cells[k]?=some c->∃v,vs[q*sz+k]?=some v/\fI w (nV j M w) c v:=by
 rcases hr.arr i _ _ _ h with ⟨_,he⟩|hh
 ·grind
 omega
theorem xf{bx:cD}{i:Nat}(h:i<M.length):(M++[bx])[i]?=M[i]?:=by grind
def lO{bx:cD}:(M++[bx])[M.length]?=some bx:=by simp
theorem Ext.push{ob:Option Nat}{bx:cD}(hob:∀b,ob=some b->w.heap.size<=b)(q:Quiet w w')(hb:∀b,b<w.heap.size->w'.heap[b]?=w.heap[b]?) :
  Ext j M w (gy j M.length ob) (M++[bx]) w' where
 len:=by simp
 size:=q.size
 os:=q.os
 tape:=q.tape
 output:=q.output
 X:=rfl
 fix:=fun i bx h _=>by
  have hi:=aF h;exact⟨by simp[gy,gr hi],bx,by rw[xf hi]; omega,rfl⟩
 tick:=fun i sz n h=>by
  have hi:=aF h;exact⟨n,ar _,by rw[xf hi]; omega,fun _=>⟨by simp[gy,gr hi],fun b vs t _ hv=>⟨vs,(hb b (lt_of_block hv)).trans hv,rfl⟩⟩⟩
 arr:=fun i sz v xs h=>by
  have hi:=aF h;exact .inr ⟨v,xs,by rw[xf hi]; omega,ar _,fun _=>⟨by simp[gy,gr hi],rfl,fun b vs t _ hv=>⟨vs,(hb b (lt_of_block hv)).trans hv,rfl⟩⟩⟩
 tags:=fun b0 vs0 t0 fr0 h=>⟨vs0,fr0,(hb b0 (lt_of_block h)).trans h,rfl⟩
 hU:=fun b off h=>by
  refine⟨⟨bq h.1 q.size,fun id hid hj=>?_,h.3⟩,World.cell?_of_block (hb b h.1)⟩
  by_cases he:id=M.length
  ·have:ob=some b:=by grind [gy]
   have:=hob b this;have:=h.1;omega
  ·have cu:id<M.length:=by grind
   rw[xf cu];exact h.2 id cu (by grind [gy])
 ur:=fun b cu h=>by
  grind [ob,gy]
theorem Rel.ah3(hr:Rel j M w){ob:Option Nat}{bx:cD}(hob:∀b,ob=some b->w.heap.size<=b/\b<w'.heap.size)(q:Quiet w w')(hb:∀b,b<w.heap.size->w'.heap[b]?=w.heap[b]?)
  (hbox:bx.fixed=true->∃b,ob=some b/\(Ext j M w (gy j M.length ob) (M++[bx]) w'->Holds (gy j M.length ob) (M++[bx]) w' b bx))
  (htick:∀sz n b,bx = .tick sz n->ob=some b->∃vs t,w'.heap[b]?=some (.cells vs t (0,0)))
  (harr:∀sz ver xs,bx = .arr sz ver xs->(xs=[]/\ob=none)\/∃b vs t,ob=some b/\w'.heap[b]?=some (.cells vs t (0,0))/\xs.length*sz<=vs.size/\(∀x,x∈xs->x.cells.length=sz) /\
   ∀j' M',Ext j M w j' M' w'->∀(q:Nat)(x:ag)(k:Nat)(c:ag),xs[q]?=some x->x.cells[k]?=some c->∃v,vs[q*sz+k]?=some v/\fI w' (nV j' M' w') c v:=by intro _ _ _ h; cases h):Rel (gy j M.length ob) (M++[bx]) w':=by
 have ext:Ext j M w (gy j M.length ob) (M++[bx]) w':=Ext.push (fun b h=>(hob b h).1) q hb
 have up:∀i,i<M.length->gy j M.length ob i=j i:=fun i hi=>by simp[gy,gr hi]
 have cas:∀i x,(M++[bx])[i]?=some x->(i<M.length/\M[i]?=some x)\/(i=M.length/\x=bx):=by
  grind
 refine⟨fun i i' b hi hi' h h'=>?_,fun i b hi h=>?_,fun i bx' h hf=>?_,fun i sz n b h hj=>?_,fun i sz ver xs h=>?_,fun i b hi h off hx=>?_,fun b off h=>bq (hr.zK b off h) q.size⟩
 ·simp only[aK,av,aH] at hi hi'
  by_cases e:i=M.length<;>by_cases e':i'=M.length
  ·omega
  ·have h1:ob=some b:=by simpa[gy,e] using h
   rw[up i' (by omega)] at h'
   have:=hr.lt i' b (by omega) h'
   have:=(hob b h1).1;omega
  ·have h1:ob=some b:=by simpa[gy,e'] using h'
   rw[up i (by omega)] at h
   have:=hr.lt i b (by omega) h
   have:=(hob b h1).1;omega
  ·rw[up i (by omega)] at h
   rw[up i' (by omega)] at h'
   exact hr.inj i i' b (by omega) (by omega) h h'
 ·simp only[aK,av,aH] at hi
  by_cases e:i=M.length
  ·exact(hob b (by simpa[gy,e] using h)).2
  ·rw[up i (by omega)] at h
   exact bq (hr.lt i b (by omega) h) q.size
 ·rcases cas i _ h with ⟨hi,h⟩|⟨rfl,hx⟩
  ·obtain⟨b,h1,h2⟩:=hr.fix i bx' h hf;exact⟨b,by rw[up i hi]; exact h1,h2.mono ext (hb b (hr.lt i b hi h1))⟩
  ·subst hx;obtain⟨b,h1,h2⟩:=hbox hf;exact⟨b,by simp[gy,h1],h2 ext⟩
 ·rcases cas i _ h with ⟨hi,h⟩|⟨rfl,hx⟩
  ·rw[up i hi] at hj;obtain⟨vs,t,h1⟩:=hr.tick i sz n b h hj;exact⟨vs,t,(hb b (lt_of_block h1)).trans h1⟩
  ·exact htick sz n b hx.symm (by simpa[gy] using hj)
 ·rcases cas i _ h with ⟨hi,h⟩|⟨rfl,hx⟩
  ·exact pV hr ext h (up i hi) fun b h1=>hb b (hr.lt i b hi h1)
  grind [gy]
 ·by_cases e:i=M.length
  ·have h1:=(hob b (by simpa[gy,e] using h)).1
   have h2:=hr.zK b off hx;omega
  ·exact hr.uG i b (by simp at hi; omega) (by rw[up i (by simp at hi; omega)] at h; exact h) off hx
def Rel.push(hr:Rel j M w){ob:Option Nat}{bx:cD}(hob:∀b,ob=some b->w.heap.size<=b/\b<w'.heap.size)(q:Quiet w w')(hb:∀b,b<w.heap.size->w'.heap[b]?=w.heap[b]?)
  (hbox:bx.fixed=true->∃b,ob=some b/\∀j' M',Ext j M w j' M' w'->Holds j' M' w' b bx)
  (htick:∀sz n b,bx = .tick sz n->ob=some b->∃vs t,w'.heap[b]?=some (.cells vs t (0,0)))
  (harr:∀sz ver xs,bx = .arr sz ver xs->(xs=[]/\ob=none)\/∃b vs t,ob=some b/\w'.heap[b]?=some (.cells vs t (0,0))/\xs.length*sz<=vs.size/\(∀x,x∈xs->x.cells.length=sz) /\
   ∀j' M',Ext j M w j' M' w'->∀(q:Nat)(x:ag)(k:Nat)(c:ag),xs[q]?=some x->x.cells[k]?=some c->∃v,vs[q*sz+k]?=some v/\fI w' (nV j' M' w') c v:=by intro _ _ _ h; cases h):Rel (gy j M.length ob) (M++[bx]) w' :=
 hr.ah3 hob q hb (fun hf=>(hbox hf).imp fun b h=>⟨h.1,fun hx=>h.2 _ _ hx⟩) htick harr
theorem dG{id:Nat}{bx:cD}(h:id<M.length):(M.set id bx)[id]?=some bx:=by grind
theorem cE{id i:Nat}{bx:cD}(h:id≠i):(M.set id bx)[i]?=M[i]?:=by grind
theorem Ext.store{id b:Nat}{bx bx':cD}(hM:M[id]?=some bx)(hfx:bx.fixed=true)(htag:bx'.tag=bx.tag)(hj:j id=some b)(hr:Rel j M w)(q:Quiet w w')
  (hb:∀b',b'≠b->b'<w.heap.size->w'.heap[b']?=w.heap[b']?) (htg:∀(vs:Array Value)(t:TypeId)(fr:Nat×Nat),w.heap[b]?=some (.cells vs t fr)->∃vs' fr',w'.heap[b]?=some (.cells vs' t fr')/\vs'.size=vs.size):Ext j M w j (M.set id bx') w' where
 len:=by simp
 size:=q.size
 os:=q.os
 tape:=q.tape
 output:=q.output
 X:=rfl
 fix:=fun i b0 h _=>⟨rfl,by
  grind⟩
 tick:=fun i sz n h=>by
  have e:id≠i:=by rintro rfl; rw[hM] at h; cases h; cases hfx
  refine⟨n,ar _,by rw[cE e]; omega,fun _=>⟨rfl,fun b' vs t hb' hv=>⟨vs,?_,rfl⟩⟩⟩
  refine(hb b' ?_ (lt_of_block hv)).trans hv;rintro rfl;exact e (hr.inj _ _ _ (aF hM) (aF h) hj hb')
 arr:=fun i sz v xs h=>by
  have e:id≠i:=by rintro rfl; rw[hM] at h; cases h; cases hfx
  refine .inr ⟨v,xs,by rw[cE e]; omega,ar _,fun _=>⟨rfl,rfl,fun b' vs t hb' hv=>⟨vs,?_,rfl⟩⟩⟩
  refine(hb b' ?_ (lt_of_block hv)).trans hv;rintro rfl;exact e (hr.inj _ _ _ (aF hM) (aF h) hj hb')
 tags:=fun b0 vs0 t0 fr0 h=>by
  grind
 hU:=fun b0 off h=>by
  have hne:b0≠b:=by
   rintro rfl;obtain⟨sz,n,h1,_⟩:=h.2 id (aF hM) hj;rw[hM] at h1; cases h1; cases hfx
  refine⟨⟨bq h.1 q.size,fun i hi hji=>?_,h.3⟩,World.cell?_of_block (w:=w) (hb b0 hne h.1)⟩
  have e:id≠i:=by grind
  rw[cE e];exact h.2 i (by simpa using hi) hji
 ur:=fun b0 cu h=>by
  grind
theorem Rel.store{id b:Nat}{bx bx':cD}(hM:M[id]?=some bx)(hfx:bx.fixed=true)(htag:bx'.tag=bx.tag)(hj:j id=some b)(hr:Rel j M w)(q:Quiet w w')
  (hb:∀b',b'≠b->b'<w.heap.size->w'.heap[b']?=w.heap[b']?) (htg:∀(vs:Array Value)(t:TypeId)(fr:Nat×Nat),w.heap[b]?=some (.cells vs t fr)->∃vs' fr',w'.heap[b]?=some (.cells vs' t fr')/\vs'.size=vs.size) (hh:∀j' M',Ext j M w j' M' w'->Holds j' M' w' b bx'):Rel j (M.set id bx') w':=by
 have ext  := Ext.store hM hfx htag hj hr q hb htg;refine⟨fun i i' b0 hi hi'=>hr.inj i i' b0 (by simpa using hi) (by simpa using hi'),fun i b0 hi h=>bq (hr.lt i b0 (by simpa using hi) h) q.size,fun i bx0 h hf=>?_,fun i sz n b0 h hji=>?_,fun i sz ver xs h=>?_,fun i b0 hi h=>hr.uG i b0 (by simpa using hi) h,fun b0 off h=>bq (hr.zK b0 off h) q.size⟩
 ·by_cases e:id=i
  ·grind
  ·rw[cE e] at h;obtain⟨b0,h1,h2⟩:=hr.fix i _ h hf;refine⟨b0,h1,h2.mono ext (hb b0 ?_ (hr.lt i b0 (aF h) h1))⟩;rintro rfl;exact e (hr.inj _ _ _ (aF hM) (aF h) hj h1)
 ·have e:id≠i:=by
   rintro rfl;rw[dG (aF hM)] at h;injection h with h
   have:=AY htag hfx;rw[h] at this; cases this
  rw[cE e] at h;obtain⟨vs,t0,h1⟩:=hr.tick i sz n b0 h hji;refine⟨vs,t0,(hb b0 ?_ (lt_of_block h1)).trans h1⟩;rintro rfl;exact e (hr.inj _ _ _ (aF hM) (aF h) hj hji)
 ·have e:id≠i:=by
   rintro rfl;rw[dG (aF hM)] at h;injection h with h
   have:=AY htag hfx;rw[h] at this; cases this
  rw[cE e] at h;refine pV hr ext h rfl fun b0 h1=>hb b0 ?_ (hr.lt i b0 (aF h) h1)
  rintro rfl;exact e (hr.inj _ _ _ (aF hM) (aF h) hj h1)
theorem Ext.GC{k b sz n n':Nat}{vs vs':Array Value}{t:TypeId}(hM:M[k]?=some (.tick sz n))(hj:j k=some b)(hr:Rel j M w)(q:Quiet w w')
  (hb:∀b',b'≠b->b'<w.heap.size->w'.heap[b']?=w.heap[b']?) (hw:w.heap[b]?=some (.cells vs t (0,0))) (hw':w'.heap[b]?=some (.cells vs' t (0,0))) (hvs:vs'.size=vs.size)
  (hq:∀p,p<n*sz->vs'[p]?=vs[p]?) (hn:n<=n'):Ext j M w j (M.set k (.tick sz n')) w' where
 len:=by simp
 size:=q.size
 os:=q.os
 tape:=q.tape
 output:=q.output
 X:=rfl
 fix:=fun i b0 h hf=>⟨rfl,by
  have e:k≠i:=by rintro rfl; rw[hM] at h; cases h; cases hf
  grind⟩
 tick:=fun i sz0 n0 h=>by
  grind
 arr:=fun i sz v xs h=>by
  grind
 tags:=fun b0 vs0 t0 fr0 h=>by
  grind
 hU:=fun b0 off h=>by
  refine⟨⟨bq h.1 q.size,fun i hi hji=>?_,h.3⟩,?_⟩
  ·by_cases e:k=i
   ·subst e;obtain⟨sz0,n0,h1,h2⟩:=h.2 k (aF hM) hji;rw[hM] at h1;injection h1 with h1; injection h1 with e1 e2
    subst e1; subst e2;exact⟨sz,n',dG (aF hM),bq h2 (bf _ hn)⟩
   ·rw[cE e];exact h.2 i (by simpa using hi) hji
  ·by_cases e:b0=b
   ·subst e;obtain⟨sz0,n0,h1,h2⟩:=h.2 k (aF hM) hj;rw[hM] at h1
    grind [World.cell?]
   ·exact World.cell?_of_block (w:=w) (hb b0 e h.1)
 ur:=fun b0 cu h=>by
  grind
theorem Rel.GC{k b sz n n':Nat}{vs vs':Array Value}{t:TypeId}(hM:M[k]?=some (.tick sz n))(hj:j k=some b)(hr:Rel j M w)(q:Quiet w w')
  (hb:∀b',b'≠b->b'<w.heap.size->w'.heap[b']?=w.heap[b']?) (hw:w.heap[b]?=some (.cells vs t (0,0))) (hw':w'.heap[b]?=some (.cells vs' t (0,0))) (hvs:vs'.size=vs.size)
  (hq:∀p,p<n*sz->vs'[p]?=vs[p]?) (hn:n<=n'):Rel j (M.set k (.tick sz n')) w':=by
 have ext:Ext j M w j (M.set k (.tick sz n')) w':=Ext.GC hM hj hr q hb hw hw' hvs hq hn;refine⟨fun i i' b0 hi hi'=>hr.inj i i' b0 (by grind) (by grind),fun i b0 hi h=>bq (hr.lt i b0 (by grind) h) q.size,fun i bx0 h hf=>?_,fun i sz0 n0 b0 h hji=>?_,fun i sz ver xs h=>?_,fun i b0 hi h=>hr.uG i b0 (by grind) h,fun b0 off h=>bq (hr.zK b0 off h) q.size⟩
 ·have e:k≠i:=by rintro rfl; rw[dG (aF hM)] at h; cases h; cases hf
  rw[cE e] at h;obtain⟨b0,h1,h2⟩:=hr.fix i bx0 h hf;refine⟨b0,h1,h2.mono ext (hb b0 ?_ (hr.lt i b0 (aF h) h1))⟩;rintro rfl;exact e (hr.inj _ _ _ (aF hM) (aF h) hj h1)
 ·by_cases e:k=i
  ·grind
  ·rw[cE e] at h;obtain⟨vs0,t0,h1⟩:=hr.tick i sz0 n0 b0 h hji
   grind
 ·have e:k≠i:=by grind
  rw[cE e] at h;refine pV hr ext h rfl fun b0 h1=>hb b0 ?_ (hr.lt i b0 (aF h) h1)
  rintro rfl;exact e (hr.inj _ _ _ (aF hM) (aF h) hj h1)
theorem Ext.B1{k b' sz n n':Nat}(hM:M[k]?=some (.tick sz n))(q:Quiet w w')(hb:∀b,b<w.heap.size->w'.heap[b]?=w.heap[b]?)(hf:w.heap.size<=b')(hn:n<n') :
  Ext j M w (gy j k (some b')) (M.set k (.tick sz n')) w' where
 len:=by simp
 size:=q.size
 os:=q.os
 tape:=q.tape
 output:=q.output
 X:=rfl
 fix:=fun i b0 h hf=>by
  have e:k≠i:=by rintro rfl; rw[hM] at h; cases h; cases hf
  exact⟨by simp[gy,dD e],b0,by rw[cE e]; omega,rfl⟩
 tick:=fun i sz0 n0 h=>by
  by_cases e:k=i
  ·grind
  ·exact⟨n0,ar _,by rw[cE e]; omega,fun _=>⟨by simp[gy,dD e],fun b vs0 t0 _ hv=>⟨vs0,(hb b (lt_of_block hv)).trans hv,rfl⟩⟩⟩
 arr:=fun i sz v xs h=>by
  have e:k≠i:=by grind
  exact .inr ⟨v,xs,by rw[cE e]; omega,ar _,fun _=>⟨by simp[gy,dD e],rfl,fun b vs0 t0 _ hv=>⟨vs0,(hb b (lt_of_block hv)).trans hv,rfl⟩⟩⟩
 tags:=fun b0 vs0 t0 fr0 h=>⟨vs0,fr0,(hb b0 (lt_of_block h)).trans h,rfl⟩
 hU:=fun b0 off h=>by
  refine⟨⟨bq h.1 q.size,fun i hi hji=>?_,h.3⟩,World.cell?_of_block (w:=w) (hb b0 h.1)⟩
  have e:k≠i:=by
   rintro rfl;have:b'=b0:=by grind [gy]
   have:=h.1;omega
  rw[cE e];exact h.2 i (by grind) (by simp_all [gy,Ne.symm])
 ur:=fun b0 cu h=>by
  grind [gy]
def Rel.B1{k b' sz n n':Nat}{vs:Array Value}{t:TypeId}(hM:M[k]?=some (.tick sz n))(hr:Rel j M w)(q:Quiet w w')(hb:∀b,b<w.heap.size->w'.heap[b]?=w.heap[b]?)
  (hf:w.heap.size<=b') (hw':w'.heap[b']?=some (.cells vs t (0,0))) (hn:n<n'):Rel (gy j k (some b')) (M.set k (.tick sz n')) w':=by
 have ext:Ext j M w (gy j k (some b')) (M.set k (.tick sz n')) w':=Ext.B1 hM q hb hf hn;refine⟨fun i i' b0 hi hi' h h'=>?_,fun i b0 hi h=>?_,fun i bx0 h hf=>?_,fun i sz0 n0 b0 h hji=>?_,fun i sz ver xs h=>?_,fun i b0 hi h off hx=>?_,fun b0 off h=>bq (hr.zK b0 off h) q.size⟩
 ·simp only[ei] at hi hi'
  by_cases e:i=k<;>by_cases e':i'=k
  ·omega
  ·have h1:b'=b0:=by simpa[gy,e] using h
   have:=hr.lt i' b0 hi' (by simpa[gy,e'] using h')
   omega
  ·have h1:b'=b0:=by simpa[gy,e'] using h'
   have:=hr.lt i b0 hi (by simpa[gy,e] using h)
   omega
  ·exact hr.inj i i' b0 hi hi' (by simpa[gy,e] using h) (by simpa[gy,e'] using h')
 ·simp only[ei] at hi
  by_cases e:i=k
  ·have h1:b'=b0:=by simpa[gy,e] using h
   subst h1;exact lt_of_block hw'
  ·exact bq (hr.lt i b0 hi (by simpa[gy,e] using h)) q.size
 ·have e:k≠i:=by rintro rfl; rw[dG (aF hM)] at h; cases h; cases hf
  rw[cE e] at h;obtain⟨b0,h1,h2⟩:=hr.fix i bx0 h hf;exact⟨b0,by simpa[gy,dD e] using h1,h2.mono ext (hb b0 (hr.lt i b0 (aF h) h1))⟩
 ·by_cases e:i=k
  ·have h1:b'=b0:=by simpa[gy,e] using hji
   subst h1;exact⟨vs,t,hw'⟩
  ·rw[cE (dD e)] at h;obtain⟨vs0,t0,h1⟩:=hr.tick i sz0 n0 b0 h (by simpa[gy,e] using hji)
   exact⟨vs0,t0,(hb b0 (lt_of_block h1)).trans h1⟩
 ·have e:k≠i:=by rintro rfl; rw[dG (aF hM)] at h; cases h
  rw[cE e] at h;exact pV hr ext h (by simp[gy,dD e]) fun b0 h1=>hb b0 (hr.lt i b0 (aF h) h1)
 ·by_cases e:i=k
  ·have h1:b'=b0:=by simpa[gy,e] using h
   have h2:=hr.zK b0 off hx;omega
  ·exact hr.uG i b0 (by simpa using hi) (by simpa[gy,e] using h) off hx
end
section
variable {j:J} {M:aL} {w w':World}
def DR(j:J)(M:aL)(w:World)(b sz:Nat)(xs:List ag):Prop:=∃vs t,w.heap[b]?=some (.cells vs t (0,0))/\xs.length*sz<=vs.size/\(∀x,x∈xs->x.cells.length=sz) /\
  ∀(q:Nat)(x:ag)(k:Nat)(c:ag),xs[q]?=some x->x.cells[k]?=some c->∃v,vs[q*sz+k]?=some v/\fI w (nV j M w) c v
def Ext.DV{id b sz ver ver':Nat}{xs xs':List ag}(hM:M[id]?=some (.arr sz ver xs))(hj:j id=some b)(hr:Rel j M w)(q:Quiet w w')
  (hb:∀b',b'≠b->b'<w.heap.size->w'.heap[b']?=w.heap[b']?) (hw:∀vs t,w.heap[b]?=some (.cells vs t (0,0))->∃vs',w'.heap[b]?=some (.cells vs' t (0,0))/\vs'.size=vs.size)
  (hv:ver<=ver') (hl:ver'=ver->xs'.length=xs.length):Ext j M w j (M.set id (.arr sz ver' xs')) w' where
 len:=by simp
 size:=q.size
 os:=q.os
 tape:=q.tape
 output:=q.output
 X:=rfl
 fix:=fun i b0 h hf=>⟨rfl,by
  have e:id≠i:=by rintro rfl; rw[hM] at h; cases h; cases hf
  exact⟨b0,by rw[cE e]; exact h,rfl⟩⟩
 tick:=fun i sz0 n0 h=>by
  have e:id≠i:=by rintro rfl; rw[hM] at h; cases h
  refine⟨n0,ar _,by rw[cE e]; exact h,fun _=>⟨rfl,fun b' vs0 t0 hb' hv=>⟨vs0,?_,rfl⟩⟩⟩
  refine(hb b' ?_ (lt_of_block hv)).trans hv;rintro rfl;exact e (hr.inj _ _ _ (aF hM) (aF h) hj hb')
 arr:=fun i sz0 v0 xs0 h=>by
  by_cases e:id=i
  ·subst e;rw[hM] at h;injection h with h; injection h with e1 e2 e3
   subst e1; subst e2; subst e3;refine .inr ⟨ver',xs',dG (aF hM),hv,fun he=>⟨rfl,hl he,fun b' vs t hb' hv=>?_⟩⟩
   rw[hj] at hb'; cases hb';exact hw vs t hv
  ·refine .inr ⟨v0,xs0,by rw[cE e]; exact h,ar _,fun _=>⟨rfl,rfl,fun b' vs t hb' hv=>⟨vs,?_,rfl⟩⟩⟩
   refine(hb b' ?_ (lt_of_block hv)).trans hv;rintro rfl;exact e (hr.inj _ _ _ (aF hM) (aF h) hj hb')
 tags:=fun b0 vs0 t0 fr0 h=>by
  by_cases e:b0=b
  ·subst e;obtain⟨b',vs,t,g1,g2,_⟩:=hr.yf hM hj;rw[hj] at g1; cases g1;rw[g2] at h; injection h with h; injection h with h1 h2 h3
   subst h1; subst h2;obtain⟨vs',k1,k2⟩:=hw vs t g2;exact⟨_,_,k1,k2⟩
  ·exact⟨vs0,fr0,(hb b0 e (lt_of_block h)).trans h,rfl⟩
 hU:=fun b0 off h=>by
  have hne:b0≠b:=by
   rintro rfl;obtain⟨sz,n,h1,_⟩:=h.2 id (aF hM) hj;rw[hM] at h1; cases h1
  refine⟨⟨bq h.1 q.size,fun i hi hji=>?_,h.3⟩,World.cell?_of_block (w:=w) (hb b0 hne h.1)⟩
  have e:id≠i:=by rintro rfl; rw[hj] at hji; injection hji with hji; exact hne hji.symm
  rw[cE e];exact h.2 i (by simpa using hi) hji
 ur:=fun b0 cu h=>by
  have hne:b0≠b:=by rintro rfl; exact h id (aF hM) hj
  exact⟨hb b0 hne cu,fun i hi=>h i (by simpa using hi)⟩
def Rel.DV{id b sz ver ver':Nat}{xs xs':List ag}(hM:M[id]?=some (.arr sz ver xs))(hj:j id=some b)(hr:Rel j M w)(q:Quiet w w')
  (hb:∀b',b'≠b->b'<w.heap.size->w'.heap[b']?=w.heap[b']?) (hw:∀vs t,w.heap[b]?=some (.cells vs t (0,0))->∃vs',w'.heap[b]?=some (.cells vs' t (0,0))/\vs'.size=vs.size)
  (hv:ver<=ver') (hl:ver'=ver->xs'.length=xs.length) (hh:∀j' M',Ext j M w j' M' w'->DR j' M' w' b sz xs'):Rel j (M.set id (.arr sz ver' xs')) w':=by
 have ext:Ext j M w j (M.set id (.arr sz ver' xs')) w':=Ext.DV hM hj hr q hb hw hv hl;refine⟨fun i i' b0 hi hi'=>hr.inj i i' b0 (by simpa using hi) (by simpa using hi'),fun i b0 hi h=>bq (hr.lt i b0 (by simpa using hi) h) q.size,fun i bx0 h hf=>?_,fun i sz0 n0 b0 h hji=>?_,fun i sz0 v0 xs0 h=>?_,fun i b0 hi h=>hr.uG i b0 (by simpa using hi) h,fun b0 off h=>bq (hr.zK b0 off h) q.size⟩
 ·have e:id≠i:=by rintro rfl; rw[dG (aF hM)] at h; cases h; cases hf
  rw[cE e] at h;obtain⟨b0,h1,h2⟩:=hr.fix i bx0 h hf;refine⟨b0,h1,h2.mono ext (hb b0 ?_ (hr.lt i b0 (aF h) h1))⟩;rintro rfl;exact e (hr.inj _ _ _ (aF hM) (aF h) hj h1)
 ·have e:id≠i:=by rintro rfl; rw[dG (aF hM)] at h; cases h
  rw[cE e] at h;obtain⟨vs,t0,h1⟩:=hr.tick i sz0 n0 b0 h hji;refine⟨vs,t0,(hb b0 ?_ (lt_of_block h1)).trans h1⟩;rintro rfl;exact e (hr.inj _ _ _ (aF hM) (aF h) hj hji)
 ·by_cases e:id=i
  ·subst e;rw[dG (aF hM)] at h;injection h with h; injection h with e1 e2 e3
   subst e1; subst e2; subst e3;obtain⟨vs,t,g⟩:=hh _ _ ext;exact .inr ⟨b,vs,t,hj,g⟩
  ·rw[cE e] at h;refine pV hr ext h rfl fun b0 h1=>hb b0 ?_ (hr.lt i b0 (aF h) h1)
   rintro rfl;exact e (hr.inj _ _ _ (aF hM) (aF h) hj h1)
def Ext.freeze{id sz ver:Nat}{xs:List ag}(hM:M[id]?=some (.arr sz ver xs)):Ext j M w j (M.set id (.tick sz xs.length)) w where
 len:=by simp
 size:=ar _
 os:=rfl
 tape:=rfl
 output:=rfl
 X:=rfl
 fix:=fun i b0 h hf=>⟨rfl,by
  have e:id≠i:=by rintro rfl; rw[hM] at h; cases h; cases hf
  exact⟨b0,by rw[cE e]; exact h,rfl⟩⟩
 tick:=fun i sz0 n0 h=>by
  have e:id≠i:=by rintro rfl; rw[hM] at h; cases h
  exact⟨n0,ar _,by rw[cE e]; exact h,fun _=>⟨rfl,fun b' vs0 t0 hb' hv=>⟨vs0,hv,rfl⟩⟩⟩
 arr:=fun i sz0 v0 xs0 h=>by
  by_cases e:id=i
  ·subst e;rw[hM] at h;injection h with h; injection h with e1 e2 e3
   subst e1; subst e2; subst e3;exact .inl ⟨_,dG (aF hM)⟩
  ·exact .inr ⟨v0,xs0,by rw[cE e]; exact h,ar _,fun _=>⟨rfl,rfl,fun b' vs t hb' hv=>⟨vs,hv,rfl⟩⟩⟩
 tags:=fun b vs t fr h=>⟨vs,fr,h,rfl⟩
 hU:=fun b0 off h=>by
  refine⟨⟨h.1,fun i hi hji=>?_,h.3⟩,rfl⟩
  have e:id≠i:=by
   rintro rfl;obtain⟨sz,n,h1,_⟩:=h.2 id (aF hM) hji;rw[hM] at h1; cases h1
  rw[cE e];exact h.2 i (by simpa using hi) hji
 ur:=fun b0 cu h=>⟨rfl,fun i hi=>h i (by simpa using hi)⟩
def Rel.freeze{id sz ver:Nat}{xs:List ag}(hM:M[id]?=some (.arr sz ver xs))(hr:Rel j M w):Rel j (M.set id (.tick sz xs.length)) w:=by
 have ext:Ext j M w j (M.set id (.tick sz xs.length)) w:=Ext.freeze hM;refine⟨fun i i' b0 hi hi'=>hr.inj i i' b0 (by simpa using hi) (by simpa using hi'),fun i b0 hi h=>hr.lt i b0 (by simpa using hi) h,fun i bx0 h hf=>?_,fun i sz0 n0 b0 h hji=>?_,fun i sz0 v0 xs0 h=>?_,fun i b0 hi h=>hr.uG i b0 (by simpa using hi) h,hr.zK⟩
 ·have e:id≠i:=by rintro rfl; rw[dG (aF hM)] at h; cases h; cases hf
  rw[cE e] at h;obtain⟨b0,h1,h2⟩:=hr.fix i bx0 h hf;exact⟨b0,h1,h2.mono ext rfl⟩
 ·by_cases e:id=i
  ·subst e;obtain⟨b,vs,t,g1,g2,_⟩:=hr.yf hM hji;rw[hji] at g1; cases g1;exact⟨vs,t,g2⟩
  ·rw[cE e] at h;exact hr.tick i sz0 n0 b0 h hji
 ·have e:id≠i:=by rintro rfl; rw[dG (aF hM)] at h; cases h
  rw[cE e] at h;exact pV hr ext h rfl fun b0 h1=>rfl
end
def xj{w:World}{hU saf':Nat->Nat->Prop}{b lo hi sz cap:Nat}{vs:Array Value}{t:TypeId}{xs:List ag}(hw:w.heap[b]?=some (.cells vs t (0,0)))(hwid:∀x,x∈xs->x.cells.length=sz)
  (hc:∀(q:Nat)(x:ag)(k:Nat)(c:ag),xs[q]?=some x->x.cells[k]?=some c->∃v,vs[q*sz+k]?=some v/\fI w hU c v) (hm:∀b off,hU b off->saf' b off) (hs:∀off,off<xs.length*sz->saf' b off)
  (h1:lo<=hi) (h2:hi<=xs.length) (h3:hi-lo<=cap):fI w saf' (.slice .sh ((xs.take hi).drop lo)) (.slice (some ⟨b,lo*sz,none⟩) (hi-lo) cap):=by
 have hget:∀(i:Nat)(x:ag),((xs.take hi).drop lo)[i]?=some x->xs[lo+i]?=some x/\lo+i<hi:=by
  intro i x h;rw[cI] at h;have cu:lo+i<hi:=by have:=aF h; simp at this; omega
  rw[bF cu] at h;exact⟨h,cu⟩
 have idx:∀i k,lo*sz+(i*sz+k)=(lo+i)*sz+k:=fun i k=>by rw[bP]; omega
 refine .slice _ _ _ _ b (lo*sz) sz (fun p=>(vs[lo*sz+p]?).getD undef) (by simp; omega) (by omega) (fun _=>rfl) (fun x hx=>hwid x (dn (dy hx))) (fun i x k c hx hk=>?_) fun i x k c hx hk=>?_
 ·obtain⟨g1,g2⟩:=hget i x hx;obtain⟨v,g3,g4⟩:=hc _ x k c g1 hk;have hk':k<sz:=by rw[<-hwid x (aR g1)]; exact aF hk
  rw[idx];refine⟨by simp[World.cell?,hw,g3],hs _ ?_⟩
  calc (lo+i)*sz+k<(lo+i)*sz+sz:=by omega
   _=(lo+i+1)*sz:=by rw[bP (lo+i) 1]; omega
   _<=xs.length*sz:=bf _ (by omega)
 ·obtain⟨g1,g2⟩:=hget i x hx;obtain⟨v,g3,g4⟩:=hc _ x k c g1 hk;simp only[idx,g3,bA];exact g4.mono fun b off h=>⟨hm b off h,rfl⟩
section
variable [kg]
def iJ(j:J)(M:aL)(w:World)(x:ag×aL)(v:Value)(w':World):Prop:=∃j',Rel j' x.2 w'/\Ext j M w j' x.2 w'/\fY j' x.2 w' x.1 v
def GS(j:J)(M:aL)(w:World)(x:ag×aL)(u:Value)(w':World):Prop:=x.1 = .oC u/\∃j',Rel j' x.2 w'/\Ext j M w j' x.2 w'
def vr(j:J)(M:aL)(w:World)(x:ag×aL)(e:Ending)(w':World):Prop :=
 (∃v,e = .returned v/\iJ j M w x v w')\/∃u,e = .panicked [{ v:=u,recovered:=false }]/\GS j M w x u w'
def vr.ret{j:J}{M:aL}{w:World}{x:ag×aL}{e:Ending}{w':World}(h:vr j M w x e w')(hx:x.1.jU=false):∃v,e = .returned v/\iJ j M w x v w':=by
 rcases h with h|⟨u,_,h,_⟩
 ·omega
 ·rw[h] at hx; cases hx
def eP(P:Program)(f:Nat)(args:List ag)(M:aL)(x:ag×aL):Prop :=
 ∀(j:J)(w:World)(vs:Array Value),Rel j M w->sE j M w->args.length=vs.size->(∀(i:Nat)(c:ag)(v:Value),args[i]?=some c->vs[i]?=some v->fY j M w c v) ->
  Calls P f vs w fun e w'=>vr j M w x e w'
def nr(P:Program)(f:Nat)(args:List ag)(M:aL)(x:ag×aL):Prop :=
 ∀(j:J)(w:World)(vs:Array Value),Rel j M w->sE j M w->args.length=vs.size->(∀(i:Nat)(c:ag)(v:Value),args[i]?=some c->vs[i]?=some v->fY j M w c v) ->
  Calls P f vs w fun e w'=>∃v j',e = .returned v/\Rel j' x.2 w'/\Ext j M w j' x.2 w'/\fY j' x.2 w' x.1 v
def nr.call{P:Program}{f:Nat}{args:List ag}{M:aL}{x:ag×aL}(h:nr P f args M x):eP P f args M x:=fun j w vs h1 h2 h3 h4 =>
 (h j w _ h1 h2 h3 h4).mono fun e w' ⟨v,j',he,g1,g2,g3⟩ => .inl ⟨v,he,j',g1,g2,g3⟩
def pj(P:Program)(C:eO):Prop:=∀f a M x,C f a M=some x->kN P f=true/\eP P f a M x
section
variable {j:J} {M:aL} {w:World} {P:Program}
def iJ.still{v:Value}{y:ag}(hr:Rel j M w)(h:fY j M w y v):iJ j M w (y,M) v w:=⟨j,hr,Ext.refl j M w,h⟩
theorem GY{v:Value}{x:ag}(h:Jv v=some x):fY j M w x v:=by
 unfold Jv at h
 split at h<;>first
  |(cases h; first|exact .plain (.bool _)|exact .plain (.int _ _)|exact .plain (.str _)|exact .plain (.raw _ rfl)|exact .c0 _)
  |grind
theorem GW{hU:Nat->Nat->Prop}:∀ {vs:List Value} {l:List ag},Ph vs=some l->l.length=vs.length/\∀(i:Nat)(c:ag)(v:Value),l[i]?=some c->vs[i]?=some v->fI w hU c v
 | [],l,h=>by
  grind [Ph]
 |v::r,l,h=>by
  simp[Ph] at h;rw[cY] at h;obtain⟨x,hx,h⟩:=h;rw[cY] at h;obtain⟨l',hl,h⟩:=h;cases h;obtain⟨h1,h2⟩:=GW hl;refine⟨by grind,fun i c u hc hu=>?_⟩
  cases i with
  |zero =>
   simp at hc hu; subst hc; subst hu;unfold XD at hx
   split at hx<;>first
    |(cases hx; first|exact .bool _|exact .int _ _|exact .str _|exact .raw _ rfl)
    |grind
  |succ i=>exact h2 i c u (by grind) (by grind)
theorem pU:∀ {vs:List Value} {l:List ag},sR vs=some l->l.length=vs.length/\∀(i:Nat)(c:ag)(v:Value),l[i]?=some c->vs[i]?=some v->fY j M w c v
 | [],l,h=>by
  grind [sR]
 |v::r,l,h=>by
  simp[sR] at h;rw[cY] at h;obtain⟨x,hx,h⟩:=h;rw[cY] at h;obtain⟨l',hl,h⟩:=h;injection h with h; obtain⟨h1,h2⟩:=pU hl
  grind [GY]
theorem GX{v:Value}{x:ag}(h:Pj v=some x):fY j M w x v:=by
 unfold Pj at h;split at h
 ·rw[cY] at h;obtain⟨l,hl,h⟩:=h;cases h;obtain⟨h1,h2⟩:=pU hl;exact .agg (by omega) fun i c v hc hv=>h2 i c v hc (by grind)
 grind [GY]
theorem cH{bt:Env}{a:Act}(he:cy j M w bt a){x:Operand}{y:gQ}(h:ef x=some y):fY j M w (y.ev bt) (a.eval x):=by
 unfold ef at h;split at h
 ·cases h; exact he.at' _
 ·rw[cY] at h;obtain⟨z,hz,h⟩:=h;cases h;exact GX hz
 ·cases h;exact .func (by rfl) fun i c v hc=>by simp
 ·rename_i g;rw[cY] at h;obtain⟨vs,hg,h⟩:=h;rw[cY] at h;obtain⟨l,hl,h⟩:=h;cases h;obtain⟨h1,h2⟩:=GW (w:=w) (hU:=nV j M w) hl;refine .jg (vs:=fun k=>(vs[k]?).getD undef) fun k c hk=>?_
  have hk':=aF hk;have hv:vs[k]?=some _:=aj (by omega)
  obtain⟨h3,h4⟩:=he.gl.g g _ k _ hg hv
  grind
theorem tY{bt:Env}{a:Act}(he:cy j M w bt a):∀ {xs:List Operand} {ys:List gQ},uL xs=some ys ->
  ys.length=xs.length/\∀(i:Nat)(y:gQ)(x:Operand),ys[i]?=some y->xs[i]?=some x->fY j M w (y.ev bt) (a.eval x)
 | [],ys,h=>by
  grind [uL]
 |x::r,ys,h=>by
  simp[uL] at h;rw[cY] at h;obtain⟨y,hy,h⟩:=h;rw[cY] at h;obtain⟨l,hl,h⟩:=h;injection h with h; obtain⟨h1,h2⟩:=tY he hl
  grind [cH]
def fY.jb{b:Bool}{v:Value}(h:fY j M w (.bool b) v):v = .bool b:=by cases h with|plain h=>cases h; rfl
def fY.fP{k:IntKind}{n:Int}{v:Value}(h:fY j M w (.int k n) v):v = .int k n:=by cases h with|plain h=>cases h; rfl
def fY.jX{s:List UInt8}{v:Value}(h:fY j M w (.str s) v):v = .string (bs s):=by cases h with|plain h=>cases h; rfl
theorem fY.mc{cs:List ag}{v:Value}(h:fY j M w (.agg cs) v):∃vs,v = .agg vs/\cs.length=vs.size/\∀(i:Nat)(c:ag)(u:Value),cs[i]?=some c->vs[i]?=some u->fY j M w c u:=by
 cases h with
 |plain h=>cases h
 |agg hl h=>grind
theorem fY.tx{cs:List ag}{v:Value}(h:fY j M w (.tuple cs) v):∃vs,v = .tuple vs/\cs.length=vs.size/\∀(i:Nat)(c:ag)(u:Value),cs[i]?=some c->vs[i]?=some u->fY j M w c u:=by
 cases h with
 |plain h=>cases h
 |tuple hl h=>grind
theorem fY.sn{f:Nat}{cs:List ag}{v:Value}(h:fY j M w (.func f cs) v):∃vs,v = .func (.func f) #[] vs/\cs.length=vs.size/\∀(i:Nat)(c:ag)(u:Value),cs[i]?=some c->vs[i]?=some u->fY j M w c u:=by
 cases h with
 |plain h=>cases h
 |func hl h=>grind
theorem fY.pK{id off:Nat}{v:Value}(h:fY j M w (.ptr id off) v):∃b,id<M.length/\(∃cs,M[id]?=some (.cells cs))/\j id=some b/\v = .pointer (some ⟨b,off,none⟩):=by
 cases h with
 |plain h=>cases h
 |ptr h1 h2 h3=>grind
theorem fY.u9{id:Nat}{v:Value}(h:fY j M w (.gH id) v):∃b,(∃ks vs,M[id]?=some (.map ks vs))/\j id=some b/\v = .map (some b):=by
 cases h with
 |plain h=>cases h
 |gH h1 h2=>grind
theorem fY.CU{id:Nat}{v:Value}(h:fY j M w (.jA id) v):∃b,(∃s p,M[id]?=some (.nG s p))/\j id=some b/\v = .pointer (some ⟨b,0,none⟩):=by
 cases h with
 |plain h=>cases h
 |jA h1 h2=>grind
theorem fY.Gk{f:Nat}{fs:List ag}{v:Value}(h:fY j M w (.sb f fs) v):∃vs:Array Value,v = .func (.func f) vs #[]/\fs.length=vs.size/\∀(i:Nat)(c:ag)(v:Value),fs[i]?=some c->vs[i]?=some v->BC w (nV j M w) c v:=by
 cases h with
 |plain h=>cases h
 |sb hl h=>grind
theorem fY.HR{t id off:Nat}{v:Value}(h:fY j M w (.jO t id off) v):∃b:Nat,(∃cs,M[id]?=some (.cells cs))/\j id=some b/\v = .iface t (.pointer (some ⟨b,off,none⟩)):=by
 cases h with
 |plain h=>cases h
 |jO h1 h2=>grind
def fY.Hx{ks vs:List ag}{v:Value}(h:fY j M w (.iG ks vs) v):∃(b:Nat) (es:Array MapEntry) (clock:Nat),v = .map (some b)/\w.heap[b]?=some (.map es clock)/\ks.length=es.size/\vs.length=es.size /\
  (∀(i:Nat)(k:ag)(e:MapEntry),ks[i]?=some k->es[i]?=some e->fI w (nV j M w) k e.key)/\∀(i:Nat)(v:ag)(e:MapEntry),vs[i]?=some v->es[i]?=some e->BC w (nV j M w) v e.val:=by
 cases h with
 |plain h=>cases h
 |iG hb hf hx hw hk hv hks hvs=>exact⟨_,_,_,rfl,hw,hk,hv,hks,hvs⟩
def fY.nB{id ver sz lo hi:Nat}{v:Value}(h:fY j M w (.dk id ver sz lo hi) v):((∃b off c,v = .slice (some ⟨b,off,none⟩) (hi-lo) c/\hi-lo<=c)\/hi-lo=0/\∃A,v = .slice A 0 0)/\id<M.length/\(∀bx,M[id]?=some bx->bx.loose=true) /\
  ∀sz' v' xs,M[id]?=some (.arr sz' v' xs)->ver<=v'/\(v'=ver->sz'=sz/\lo<=hi/\hi<=xs.length/\((xs=[]/\j id=none/\∃A,v = .slice A 0 0)\/∃b cap vs t,j id=some b/\v = .slice (some ⟨b,lo*sz,none⟩) (hi-lo) cap/\hi-lo<=cap/\w.heap[b]?=some (.cells vs t (0,0))/\(lo+cap)*sz<=vs.size)):=by
 cases h with
 |plain h=>cases h
 |dk h0 h1 h2 h3=>exact⟨h0,h1,h2,h3⟩
theorem fY.yW{id ver sz lo hi:Nat}{v:Value}(h:fY j M w (.dk id ver sz lo hi) v):∃A cap,v = .slice A (hi-lo) cap:=by
 rcases h.nB.1 with ⟨b,off,c,e,_⟩|⟨e,A,e'⟩
 ·grind
 grind
def fY.UX{id ver sz lo hi:Nat}{v:Value}(h:fY j M w (.dk id ver sz lo hi) v)(hne:lo<hi):∃b off c,v = .slice (some ⟨b,off,none⟩) (hi-lo) c/\hi-lo<=c :=
 h.nB.1.resolve_right fun e=>by omega
def fY.sm{id ver i off:Nat}{v:Value}(h:fY j M w (.iu id ver i off) v):(∃b o,v = .pointer (some ⟨b,o,none⟩))/\id<M.length/\(∀bx,M[id]?=some bx->bx.loose=true) /\
  ∀sz v' xs,M[id]?=some (.arr sz v' xs)->ver<=v'/\(v'=ver->i<xs.length/\∃b,j id=some b/\v = .pointer (some ⟨b,i*sz+off,none⟩)):=by
 cases h with
 |plain h=>cases h
 |iu h0 h1 h2 h3=>exact⟨h0,h1,h2,h3⟩
def fY.ua{cs:List ag}{v:Value}(h:fY j M w (.jg cs) v):∃(b off:Nat) (vs:Nat->Value),v = .pointer (some ⟨b,off,none⟩) /\
  ∀(k:Nat)(c:ag),cs[k]?=some c->w.cell? ⟨b,off+k,none⟩=some (vs k)/\nV j M w b (off+k)/\fI w (nV j M w) c (vs k):=by
 cases h with
 |plain h=>cases h
 | @jg _ b off vs h=>exact⟨b,off,vs,rfl,h⟩
theorem fI.nil(hU:Nat->Nat->Prop)(A:Option Addr)(cap:Nat):fI w hU (.slice .sh []) (.slice A 0 cap) :=
 .slice _ A 0 _ 0 0 0 (fun _=>undef) rfl (cA _) (fun h=>absurd rfl h) (fun x h=>by grind) (fun i x k c h=>by grind) (fun i x k c h=>by grind)
def fY.dH{tk:Tk}{xs:List ag}{v:Value}(h:fY j M w (.slice tk xs) v):fI w (nV j M w) (.slice .sh xs) v:=by
 cases h with
 |plain h=>cases h with|slice=>exact .slice _ _ _ _ _ _ _ _ (by omega) (by omega) (by omega) (by omega) (by omega) (by omega)
 |c0 A=>simp[fI.nil]
 |own _ _ h _=>omega
def fI.dH{hU:Nat->Nat->Prop}{xs:List ag}{v:Value}(h:fI w hU (.slice .sh xs) v):∃(A:Option Addr) (cap b off sz:Nat) (vs:Nat->Value),v = .slice A xs.length cap/\xs.length<=cap/\(xs≠[]->A=some ⟨b,off,none⟩) /\
  (∀x,x∈xs->x.cells.length=sz)/\(∀(i:Nat)(x:ag)(k:Nat)(c:ag),xs[i]?=some x->x.cells[k]?=some c->w.cell? ⟨b,off+(i*sz+k),none⟩=some (vs (i*sz+k))/\hU b (off+(i*sz+k))) /\
  (∀(i:Nat)(x:ag)(k:Nat)(c:ag),xs[i]?=some x->x.cells[k]?=some c->fI w hU c (vs (i*sz+k))):=by
 cases h with
 |slice _ A len cap b off sz vs hl hc ha hz hs hr=>subst hl; exact⟨A,cap,b,off,sz,vs,rfl,hc,ha,hz,hs,hr⟩
end
def qU(P:Program)(o:Oper)(a:Act)(w:World)(v:Value)(w':World):Prop :=
 (execOp a.eval o).run P w = .ok (.value v) w'\/((execOp a.eval o).run P w = .ok .skip w'/\v=undef)
theorem ba{α β:Type}{x:Option α}{f:α->Option β}{y:β}(h:x.bind f=some y):∃a,x=some a/\f a=some y:=by
 cases x<;>grind
section
variable {P:Program} {C:eO} {o:Oper} {bt:Env} {M:aL} {j:J} {w:World} {a:Act} {x:ag×aL}
def dA{t:TypeId}{d:TypeDesc}(h:P.underlying t=some d):(underlying t).run P w = .ok d w:=by simp[underlying,h]
def pC{t:TypeId}{i:TypeInfo}(h:P.info? t=some i):(typeInfo t).run P w = .ok i w:=by simp[typeInfo,h]
theorem Dz{t:TypeId}{n:Nat}(h:qv P t=some n):∃i,P.info? t=some i/\i.size=n:=by
 obtain⟨i,h1,h2⟩:=ba h
 grind
def jd{t:TypeId}{n:Nat}(h:qv P t=some n):(sizeOf t).run P w = .ok n w:=by
 obtain⟨i,h1,h2⟩:=Dz h;simp_all [sizeOf,pC]
def kR{t:TypeId}{g:Bool}(h:BE P t=some g):(isAgg t).run P w = .ok g w:=by
 obtain⟨d,h1,h2⟩:=ba h;injection h2 with h2
 subst h2;simp[isAgg,dA h1];cases d<;>rfl
def lC(b off n:Nat):(⟨b,off,none⟩:Addr).add n=⟨b,off+n,none⟩:=by
 simp[Addr.add]
def BU(hr:Rel j M w)(he:cy j M w bt a){y:Operand}{z:gQ}(hop:o.op = .move y\/o.op = .assign y)(hz:ef y=some z)(h:dZ C bt M (.mv z)=some x) :
  ∃v w',qU P o a w v w'/\iJ j M w x v w':=by
 cases h;exact⟨a.eval y,w,.inl (by rcases hop with hop|hop<;>simp[execOp,hop]),.still hr (cH he hz)⟩
theorem WZ(hr:Rel j M w)(he:cy j M w bt a){c p q:Operand}{c' p' q':gQ}(hop:o.op = .pick c p q)(hc:ef c=some c')(hp:ef p=some p')(hq:ef q=some q')
  (h:dZ C bt M (.pick c' p' q')=some x):∃v w',qU P o a w v w'/\iJ j M w x v w':=by
 simp[dZ] at h;have h1:=cH he hc;split at h
 ·rename_i t ht;rw[ht] at h1;have h1:=h1.jb;rcases kQ h with ⟨rfl,h⟩|⟨rfl,h⟩<;>(cases h)
  ·exact⟨a.eval p,w,.inl (by simp_all [execOp,asBool]),.still hr (cH he hp)⟩
  ·exact⟨a.eval q,w,.inl (by simp_all [execOp,asBool]),.still hr (cH he hq)⟩
 grind
theorem ac7(hr:Rel j M w)(he:cy j M w bt a){y:Operand}{z:gQ}(hop:o.op = .nilCheck y)(hz:ef y=some z)(h:dZ C bt M (.chk z)=some x) :
  ∃v w',qU P o a w v w'/\iJ j M w x v w':=by
 simp[dZ] at h;have h1:=cH he hz;split at h
 ·rename_i id off e;cases h;rw[e] at h1;obtain⟨b,_,_,_,hv⟩:=h1.pK;exact⟨_,w,.inl (by simp_all [execOp]),.still hr (hv▸h1)⟩
 ·rename_i cs e;cases h;rw[e] at h1;obtain⟨b,off,vs,hv,_⟩:=h1.ua;exact⟨_,w,.inl (by simp_all [execOp]),.still hr (hv▸h1)⟩
 ·rename_i f caps e;cases h;rw[e] at h1;obtain⟨vs,hv,_⟩:=h1.sn;exact⟨_,w,.inl (by simp_all [execOp]),.still hr (hv▸h1)⟩
 ·rename_i id v0 i off e;cases h;rw[e] at h1;obtain⟨⟨b,q,hv⟩,_⟩:=h1.sm;exact⟨_,w,.inl (by simp_all [execOp]),.still hr (hv▸h1)⟩
 grind
theorem ac9(hr:Rel j M w)(he:cy j M w bt a){y:Operand}{z:gQ}{t:TypeId}(hop:o.op = .unOp .not t y)(hz:ef y=some z)(h:dZ C bt M (.not z)=some x) :
  ∃v w',qU P o a w v w'/\iJ j M w x v w':=by
 simp[dZ] at h;have h1:=cH he hz;split at h
 ·rename_i b e;cases h;rw[e] at h1;exact⟨_,w,.inl (by simp[execOp,hop,h1.jb]; rfl),.still hr (.plain (.bool _))⟩
 grind
theorem ac8(hr:Rel j M w)(he:cy j M w bt a){y:Operand}{z:gQ}{t:TypeId}(hop:o.op = .unOp .neg t y)(hz:ef y=some z)(h:dZ C bt M (.neg z)=some x) :
  ∃v w',qU P o a w v w'/\iJ j M w x v w':=by
 simp only[dZ] at h;have h1:=cH he hz;split at h
 ·rename_i k n e;cases h;rw[e] at h1;exact⟨_,w,.inl (by simp only[execOp,hop,h1.fP]; rfl),.still hr (.plain (.int _ _))⟩
 grind
theorem WT(hr:Rel j M w)(he:cy j M w bt a){y:Operand}{z:gQ}{s d:TypeId}{k0 k:IntKind}(hop:o.op = .convert s d y)(hs:P.underlying s=some (.int k0))(hd:P.underlying d=some (.int k))
  (hz:ef y=some z) (h:dZ C bt M (.conv k z)=some x):∃v w',qU P o a w v w'/\iJ j M w x v w':=by
 simp[dZ] at h;have h1:=cH he hz;split at h
 ·rename_i k1 n e;cases h;rw[e] at h1;refine⟨.int k _,w,.inl ?_,.still hr (.plain (.int _ _))⟩;simp[execOp,hop,convert,dA hs,dA hd,h1.fP,Conv.intToInt]
 grind
theorem W6(hr:Rel j M w)(he:cy j M w bt a){y:Operand}{z:gQ}{s d:TypeId}(hop:o.op = .convert s d y)(hs:P.underlying s=some .string)(hd:P.underlying d=some .string)
  (hz:ef y=some z) (h:dZ C bt M (.same z)=some x):∃v w',qU P o a w v w'/\iJ j M w x v w':=by
 simp[dZ] at h;have h1:=cH he hz;split at h
 ·rename_i l e;cases h;rw[e] at h1;refine⟨.string _,w,.inl ?_,.still hr (.plain (.str _))⟩;simp[execOp,hop,convert,dA hs,dA hd,h1.jX]
 grind
theorem ahT(hr:Rel j M w)(he:cy j M w bt a){f:Nat}{first caps:Array Operand}{zs:List gQ}(hop:o.op = .makeFunc (.func f) first caps)(hf:first.isEmpty=true)(hz:uL caps.toList=some zs)
  (h:dZ C bt M (.fn f zs)=some x):∃v w',qU P o a w v w'/\iJ j M w x v w':=by
 cases h;obtain⟨h1,h2⟩:=tY he hz;have hf':first = #[]:=by grind
 refine⟨.func _ _ (caps.map a.eval),w,.inl ?_,.still hr (.func (by grind) fun i c v hc hv=>?_)⟩
 ·simp[execOp,hop,Instr.makeFunc,hf']
 grind
theorem KL(hr:Rel j M w)(he:cy j M w bt a){y:Operand}{z:gQ}{i:Nat}(hop:o.op = .extract y i)(hz:ef y=some z)(h:dZ C bt M (.extract z i)=some x) :
  ∃v w',qU P o a w v w'/\iJ j M w x v w':=by
 simp[dZ] at h;have h1:=cH he hz;split at h
 ·rename_i vs e;obtain⟨c,hc,h⟩:=bo h;cases h;rw[e] at h1;obtain⟨us,hv,hl,hu⟩:=h1.tx;rw[eN] at hc;have hi:=aF hc;have hui:us[i]?=some _:=bb (by omega)
  exact⟨_,w,.inl (by simp[execOp,hop,Instr.extract,hv,hui]),.still hr (hu i c _ hc hui)⟩
 grind
theorem WV(hr:Rel j M w)(he:cy j M w bt a){c:Call}{y:Operand}{z:gQ}{t:TypeId}(hop:o.op = .call c)(hb:c.callee = .builtin .len)(ha:c.args.toList=[y])
  (ht:c.argTypes[0]?=some t) (hs:P.underlying t=some .string) (hz:ef y=some z) (h:dZ C bt M (.SH z)=some x):∃v w',qU P o a w v w'/\iJ j M w x v w':=by
 simp only[dZ] at h;have h1:=cH he hz;split at h
 ·rename_i l e;cases h;rw[e] at h1;have ha':c.args = #[y]:=by rw[<-ha]
  refine⟨.int .i64 _,w,.inl ?_,.still hr (.plain (.int _ _))⟩;have hsz:(bs l).size=l.length:=by rfl
  simp[execOp,hop,resolve,hb,invoke,builtin,Builtin.len_,ha',ht,dA hs,h1.jX,goInt,hsz]
 grind
theorem WW(hr:Rel j M w)(he:cy j M w bt a){c:Call}{y:Operand}{z:gQ}{t e:TypeId}(hop:o.op = .call c)(hb:c.callee = .builtin .len)(ha:c.args.toList=[y])
  (ht:c.argTypes[0]?=some t) (hs:P.underlying t=some (.slice e)) (hz:ef y=some z) (h:dZ C bt M (.Ap z)=some x):∃v w',qU P o a w v w'/\iJ j M w x v w':=by
 simp only[dZ] at h;have h1:=cH he hz;split at h
 ·rename_i tk l e;cases h;rw[e] at h1;have ha':c.args = #[y]:=by rw[<-ha]
  obtain⟨A,cap,b,off,sz,vs,hv,_⟩:=h1.dH.dH;refine⟨.int .i64 l.length,w,.inl ?_,.still hr (.plain (.int _ _))⟩;simp[execOp,hop,resolve,hb,invoke,builtin,Builtin.len_,ha',ht,dA hs,hv,goInt]
 ·rename_i id v0 sz lo hi e;cases h;rw[e] at h1;have ha':c.args = #[y]:=by rw[<-ha]
  obtain⟨A,cap,hv⟩:=h1.yW;refine⟨.int .i64 (hi-lo:Nat),w,.inl ?_,.still hr (.plain (.int _ _))⟩;simp[execOp,hop,resolve,hb,invoke,builtin,Builtin.len_,ha',ht,dA hs,hv,goInt]
 grind
theorem EU(hr:Rel j M w)(he:cy j M w bt a){c:Call}{y y':Operand}{z z':gQ}{mx:Bool}(hop:o.op = .call c)(hb:c.callee = .builtin (if mx then .max else .min))(ha:c.args.toList=[y,y'])
  (hz:ef y=some z) (hz':ef y'=some z') (h:dZ C bt M (.Ay mx z z')=some x):∃v w',qU P o a w v w'/\iJ j M w x v w':=by
 simp only[dZ] at h;have h1:=cH he hz;have h2:=cH he hz';split at h
 ·rename_i k n k' n' e e';cases h;rw[e] at h1;rw[e'] at h2;have ha':c.args = #[y,y']:=by rw[<-ha]
  refine⟨_,w,.inl ?_,.still hr (.plain (.int _ _))⟩;cases mx
  ·simp[execOp,hop,resolve,hb,invoke,builtin,Builtin.min_,Builtin.min2,ha',h1.fP,h2.fP,List.foldlM]
  ·simp[execOp,hop,resolve,hb,invoke,builtin,Builtin.max_,Builtin.max2,ha',h1.fP,h2.fP]
 grind
theorem Og(hr:Rel j M w)(he:cy j M w bt a){y i:Operand}{z z':gQ}{t:TypeId}(hop:o.op = .index t y i)(ht:P.underlying t=some .string)(hz:ef y=some z)(hz':ef i=some z')
  (h:dZ C bt M (.Al z z')=some x):∃v w',qU P o a w v w'/\iJ j M w x v w':=by
 simp only[dZ] at h;have h1:=cH he hz;have h2:=cH he hz';split at h
 ·rename_i l k n e e';obtain⟨hn,h⟩:=di h;obtain⟨b,hb,h⟩:=bo h;cases h;rw[e] at h1;rw[e'] at h2;refine⟨.int .u8 b.toNat,w,.inl ?_,.still hr (.plain (.int _ _))⟩
  have hg:(bs l)[n.toNat]?=some b:=by
   have cu:=aF hb;have:n.toNat<(bs l).size:=by simp_all [bs,ByteArray.size]
   rw[getElem?_pos (bs l) n.toNat this];congr 1
   have h3:l[n.toNat]=b:=by
    have:=aj cu
    grind
   exact h3
  simp[execOp,hop,Instr.index,asIntOf,dA ht,h1.jX,h2.fP,hn,hg]
 ·cases h
theorem Oc(hr:Rel j M w)(he:cy j M w bt a){y:Operand}{z:gQ}{s:TypeId}{fs:Array Field}{f:Field}{i:Nat}(hop:o.op = .field s y i)(hs:P.underlying s=some (.struct fs))(hf:fs[i]?=some f)
  (hg:BE P f.type=some false) (hz:ef y=some z) (h:dZ C bt M (.CD f.offset z)=some x):∃v w',qU P o a w v w'/\iJ j M w x v w':=by
 simp[dZ] at h;have h1:=cH he hz;split at h
 ·rename_i cs e;obtain⟨c,hc,h⟩:=bo h;cases h;rw[e] at h1;obtain⟨us,hv,hl,hu⟩:=h1.mc;rw[eN] at hc;have hi:=aF hc;have hui:us[f.offset]?=some _:=bb (by omega)
  refine⟨_,w,.inl ?_,.still hr (hu _ c _ hc hui)⟩;simp[execOp,hop,Instr.field,dA hs,hf,asAgg,hv,part,kR hg,hui]
 grind
theorem Od(hr:Rel j M w)(he:cy j M w bt a){y:Operand}{z:gQ}{s:TypeId}{fs:Array Field}{f:Field}{i n:Nat}(hop:o.op = .field s y i)(hs:P.underlying s=some (.struct fs))(hf:fs[i]?=some f)
  (hg:BE P f.type=some true) (hn:qv P f.type=some n) (hz:ef y=some z) (h:dZ C bt M (.CE f.offset n z)=some x):∃v w',qU P o a w v w'/\iJ j M w x v w':=by
 simp only[dZ] at h;have h1:=cH he hz;split at h
 ·rename_i cs e;split at h
  ·cases h;rw[e] at h1;obtain⟨us,hv,hl,hu⟩:=h1.mc;refine⟨.agg (us.extract f.offset (f.offset+n)),w,.inl ?_,.still hr (.agg (by grind) fun p c u hc hu'=>?_)⟩
   ·simp[execOp,hop,Instr.field,dA hs,hf,asAgg,hv,part,kR hg,jd hn]
   grind
  ·cases h
 ·cases h
theorem Tq(hr:Rel j M w)(he:cy j M w bt a){y:Operand}{z:gQ}{s:TypeId}{fs:Array Field}{f:Field}{i:Nat}(hop:o.op = .fieldAddr s y i)(hs:P.underlying s=some (.struct fs))(hf:fs[i]?=some f)
  {n:Nat} (hn:qv P f.type=some n) (hpos:0<n) (hz:ef y=some z) (h:dZ C bt M (.kG f.offset z)=some x):∃v w',qU P o a w v w'/\iJ j M w x v w':=by
 simp only[dZ] at h;have h1:=cH he hz
 have hrun:∀b off,a.eval y = .pointer (some ⟨b,off,none⟩)->(execOp a.eval o).run P w = .ok (.value (.pointer (some ⟨b,off+f.offset,none⟩))) w:=by
  intro b off hv;have hne:n≠0:=by omega
  simp[execOp,hop,Instr.fieldAt,dA hs,hf,Instr.sureAddr,hv,fieldPlace,jd hn,hne,lC]
 split at h
 ·rename_i id off e;cases h;rw[e] at h1;obtain⟨b,h2,h3,h4,hv⟩:=h1.pK;exact⟨_,w,.inl (hrun _ _ hv),.still hr (.ptr h2 h3 h4)⟩
 ·rename_i cs e;cases h;rw[e] at h1;obtain⟨b,off,vs,hv,hc⟩:=h1.ua;refine⟨_,w,.inl (hrun _ _ hv),.still hr (.jg (vs:=fun k=>vs (f.offset+k)) fun k c hk=>?_)⟩
  rw[cI] at hk;have:=hc _ c hk;rw[Nat.add_assoc];omega
 ·rename_i id v0 i0 o0 e;cases h;rw[e] at h1;obtain⟨⟨b,q,hv⟩,h2,h3,h4⟩:=h1.sm;refine⟨_,w,.inl (hrun _ _ hv),.still hr (.iu ⟨_,_,rfl⟩ h2 h3 fun sz v' xs hM=>?_)⟩
  grind
 grind
end
theorem U3(l:List UInt8):∀(n i:Nat)(acc:List UInt8),i+n=l.length->ByteArray.toList.loop (bs l) i acc=acc.reverse++l.drop i:=by
 intro n;induction n with
 |zero =>
  simp_all [bs,ByteArray.size,ByteArray.toList.loop]
 |succ n ih =>
  intro i acc h;have hs:(bs l).size=l.length:=by rfl
  rw[ByteArray.toList.loop,az (by omega)]
  grind [bs,ByteArray.get!,List.reverse_cons,List.append_assoc,List.singleton_append,List.drop_eq_getElem_cons]
def uK(l:List UInt8):(bs l).toList=l:=by
 rw[ByteArray.toList,U3 l l.length 0 _ (by simp)]; rfl
def Lp(l:List UInt8):(bs l).size=l.length:=by rfl
def I2:∀a b:List UInt8,Op.bytesLess a b=strLt a b
 | [],[]=>rfl
 | [],_::_=>rfl
 |_::_,[]=>rfl
 |a::x,b::y=>by simp[Op.bytesLess,strLt,I2 x y]
def yj(a:List UInt8)(l h:Nat):(bs a).extract l h=bs ((a.take h).drop l):=by
 apply ByteArray.ext;simp[bs,List.drop_take]
section
variable {P:Program} {C:eO} {o:Oper} {bt:Env} {M:aL} {j:J} {w:World} {a:Act} {x:ag×aL}
def NF(op:BinOp)(t:TypeId)(y z:Operand)(k k':IntKind)(m n:Int):(eqGuard op t y z (.int k m) (.int k' n)).run P w = .ok () w:=by
 simp[eqGuard]
def NG(op:BinOp)(t:TypeId)(y z:Operand)(m n:ByteArray):(eqGuard op t y z (.string m) (.string n)).run P w = .ok () w:=by
 simp[eqGuard]
def CQ(op:BinOp)(t:TypeId)(y z:Operand)(m n:Bool):(eqGuard op t y z (.bool m) (.bool n)).run P w = .ok () w:=by
 simp[eqGuard]
theorem U1{op:BinOp}{b:ML}(hb:M4 op=some b){t:TypeId}{k k':IntKind}{m n:Int}{r:ag}(h:qk b (.int k m) (.int k' n)=some r) :
  ∃v,(binOp op t (.int k m) (.int k' n)).run P w = .ok v w/\fI w (nV j M w) r v:=by
 cases op<;>simp only[M4,reduceCtorEq,iC] at hb<;>subst hb<;>simp only[qk] at h
 case shl =>
  split at h
  ·rename_i hn;cases h;exact⟨_,by simp[binOp,Op.shift,mO.2 hn],.int _ _⟩
  ·cases h
 case shr =>
  split at h
  ·rename_i hn;cases h;exact⟨_,by simp[binOp,Op.shift,mO.2 hn],.int _ _⟩
  grind
 case quo =>
  split at h
  ·cases h
  ·rename_i hk;split at h
   ·cases h
   ·rename_i hn;cases h;have hk:k=k':=by grind
    subst hk;exact⟨_,by simp[binOp,Op.intDiv,hn],.int _ _⟩
 case rem =>
  split at h
  ·cases h
  ·rename_i hk;split at h
   ·cases h
   ·rename_i hn;cases h;have hk:k=k':=by grind
    subst hk;exact⟨_,by simp[binOp,Op.intDiv,hn],.int _ _⟩
 case and =>
  split at h
  ·cases h
  ·rename_i hk;cases h;have hk:k=k':=by grind
   subst hk;exact⟨_,by simp[binOp,Op.intBits]; rfl,.int _ _⟩
 case or =>
  split at h
  ·grind
  ·rename_i hk;cases h;have hk:k=k':=by grind
   subst hk;exact⟨_,by simp[binOp,Op.intBits]; rfl,.int _ _⟩
 case xor =>
  split at h
  ·grind
  ·rename_i hk;cases h;have hk:k=k':=by grind
   subst hk;exact⟨_,by simp[binOp,Op.intBits]; rfl,.int _ _⟩
 all_goals
  split at h
  ·cases h
  ·rename_i hk;cases h;have hk:k=k':=by simpa using hk
   subst hk
   first
    |exact⟨_,by simp[binOp,Op.intArith],.int _ _⟩
    |exact⟨_,by simp[binOp,Op.intCmp],.bool _⟩
theorem U2{op:BinOp}{b:ML}(hb:M4 op=some b){t:TypeId}{m n:List UInt8}{r:ag}(h:qk b (.str m) (.str n)=some r) :
  ∃v,(binOp op t (.string (bs m)) (.string (bs n))).run P w = .ok v w/\fI w (nV j M w) r v:=by
 cases op<;>simp only[M4,reduceCtorEq,iC] at hb<;>subst hb<;>simp only[qk,reduceCtorEq] at h
 case add =>
  split at h
  ·grind
  ·cases h;refine⟨.string (bs m++bs n),?_,by exact .str _⟩
   simp_all [binOp,Op.stringOp,Lp,ak]
 all_goals
  cases h;exact⟨_,by simp only[binOp,Op.stringOp,uK,I2]; rfl,.bool _⟩
def Th(hr:Rel j M w)(he:cy j M w bt a){op:BinOp}{b:ML}{y y':Operand}{z z':gQ}{t t':TypeId}(hop:o.op = .binOp op t y y' t')(hb:M4 op=some b)(hz:ef y=some z)(hz':ef y'=some z')
  (h:dZ C bt M (.bin b z z')=some x):∃v w',qU P o a w v w'/\iJ j M w x v w':=by
 simp only[dZ] at h;have h1:=cH he hz;have h2:=cH he hz';obtain⟨r,hr',h⟩:=bo h;cases h;generalize hu:z.ev bt=u at *;generalize hu':z'.ev bt=u' at *;cases u<;>cases u'<;>try (simp[qk] at hr'; done)
 ·rename_i k m k' n;obtain⟨v,hv,hp⟩:=U1 (P:=P) (w:=w) (j:=j) (M:=M) (t:=t) hb hr';exact⟨v,w,.inl (by simp[execOp,hop,h1.fP,h2.fP,NF,hv]),.still hr (.plain hp)⟩
 ·rename_i m n;obtain⟨v,hv,hp⟩:=U2 (P:=P) (w:=w) (j:=j) (M:=M) (t:=t) hb hr';exact⟨v,w,.inl (by simp[execOp,hop,h1.jX,h2.jX,NG,hv]),.still hr (.plain hp)⟩
theorem Tp(hr:Rel j M w)(he:cy j M w bt a){neg:Bool}{y y':Operand}{z z':gQ}{t t':TypeId}(hop:o.op = .binOp (if neg then .neq else .eql) t y y' t')(ht:P.underlying t=some .bool)
  (hz:ef y=some z) (hz':ef y'=some z') (h:dZ C bt M (.eqB neg z z')=some x):∃v w',qU P o a w v w'/\iJ j M w x v w':=by
 simp only[dZ] at h;have h1:=cH he hz;have h2:=cH he hz';split at h
 ·rename_i m n e e';cases h;rw[e] at h1;rw[e'] at h2
  have heq:(Op.equal t (.bool m) (.bool n)).run P w = .ok (m==n) w:=by
   unfold Op.equal;rw[show Op.maxDepth=9999+1 from rfl,Op.equalIn]
   simp[dA ht]
  cases neg
  ·exact⟨.bool (m==n),w,.inl (by simp[execOp,hop,h1.jb,h2.jb,CQ,binOp,heq]),.still hr (.plain (.bool _))⟩
  ·exact⟨.bool (!(m==n)),w,.inl (by simp[execOp,hop,h1.jb,h2.jb,CQ,binOp,heq]),.still hr (.plain (.bool _))⟩
 grind
theorem qF{bt:Env}{a:Act}(he:cy j M w bt a){y:Operand}{z:gQ}(hz:ef y=some z){n:Nat}{i:Int}(h:jf bt n (some z)=some i){m:Nat}(h0:0<=i)(h1:i<=m)(code:BoundsCode) :
  (Instr.sliceBound (a.eval y) m code).run P w = .ok i.toNat w:=by
 unfold jf at h;have h2:=cH he hz;simp at h;split at h
 ·rename_i k i' e;cases h;rw[e] at h2;simp[Instr.sliceBound,h2.fP,asIntOf,h0,h1]
 grind
theorem qW{y:Option Operand}{z:Option gQ}(h:BF y=some z):(y=none/\z=none)\/∃y' z',y=some y'/\z=some z'/\ef y'=some z':=by
 cases y with
 |none=>grind [BF]
 |some y =>
  obtain⟨z',h1,h2⟩:=ba h
  grind
def yi{bt:Env}{a:Act}(he:cy j M w bt a){lo hi:Option Operand}{lo' hi':Option gQ}(hlo:BF lo=some lo')(hhi:BF hi=some hi'){len cap:Nat}{l h:Int}
  (h1:jf bt len hi'=some h) (h2:jf bt 0 lo'=some l) (hh0:0<=h) (hh:h<=len) (hl0:0<=l) (hl:l<=h) (hc:len<=cap) (isS:Bool) :
  (Instr.sliceBounds isS len cap (lo.map a.eval) (hi.map a.eval) none).run P w = .ok (l.toNat,h.toNat,cap) w:=by
 unfold Instr.sliceBounds;rcases qW hhi with ⟨rfl,rfl⟩|⟨y,z,rfl,rfl,hz⟩<;>rcases qW hlo with ⟨rfl,rfl⟩|⟨y',z',rfl,rfl,hz'⟩
 ·simp[jf] at h1 h2; subst h1; subst h2; rfl
 ·simp[jf] at h1; subst h1;have:=qF (P:=P) he hz' h2 hl0 (by omega) .sliceB
  simp_all
 ·simp[jf] at h2; subst h2;have:=qF (P:=P) he hz h1 hh0 (m:=cap) (by omega) (if isS then .sliceAcap else .sliceAlen)
  simp_all
 ·have t1:=qF (P:=P) he hz h1 hh0 (m:=cap) (by omega) (if isS then .sliceAcap else .sliceAlen)
  have t2:=qF (P:=P) he hz' h2 hl0 (m:=h.toNat) (by omega) .sliceB
  simp_all
theorem Oh(hr:Rel j M w)(he:cy j M w bt a){y:Operand}{lo hi:Option Operand}{z:gQ}{lo' hi':Option gQ}{t:TypeId}(hop:o.op = .slice t y lo hi none)(ht:P.underlying t=some .string)
  (hz:ef y=some z) (hlo:BF lo=some lo') (hhi:BF hi=some hi') (h:dZ C bt M (.AO z lo' hi')=some x):∃v w',qU P o a w v w'/\iJ j M w x v w':=by
 simp[dZ] at h;have h1:=cH he hz;split at h
 ·rename_i s e;obtain⟨hh,h2,h⟩:=bo h;obtain⟨l,h3,h⟩:=bo h;obtain⟨⟨c1,c2,c3,c4⟩,h⟩:=di h;cases h;rw[e] at h1;have hb:=yi (P:=P) he hlo hhi h2 h3 c1 c2 c3 c4 (ar _) false;refine⟨.string _,w,.inl ?_,.still hr (.plain (.str _))⟩;simp[execOp,hop,Instr.sliceAt,dA ht,Instr.slice,h1.jX,Lp,hb,yj]
 grind
theorem fI.part{hU:Nat->Nat->Prop}{xs:List ag}{A:Option Addr}{cap m l h n:Nat}(hx:fI w hU (.slice .sh xs) (.slice A xs.length cap))(hw:wid xs n)(hl:l<=h)(hh:h<=xs.length)(hm:h<=m) :
  fI w hU (.slice .sh ((xs.take h).drop l)) (.slice (if m=l then A else A.map (·.add (l*n))) (h-l) (m-l)):=by
 obtain⟨A',cap',b,off,sz,vs,hv,hc,ha,hz,hs,hrp⟩:=hx.dH;injection hv with e1 e2 e3
 subst e1; subst e3;have eY:((xs.take h).drop l).length=h-l:=by simp_all
 refine .slice _ _ _ _ b (off+l*sz) sz (fun p=>vs (l*sz+p)) eY.symm (by omega) (fun hne=>?_) (fun x hx=>hz x (dn (dy hx))) (fun i x k c hi hk=>?_) (fun i x k c hi hk=>?_)
 ·have:0<h-l:=by
   rw[<-eY]; exact iL.2 hne
  rw[ak (by omega)]
  have hne':xs≠[]:=by grind
  rw[ha hne']
  have:n=sz:=by
   obtain⟨x,r,rfl⟩:=ft hne';rw[<-hw x (by simp),hz x (by simp)]
  simp[lC,this]
 ·grind
 grind
theorem Oi(hr:Rel j M w)(he:cy j M w bt a){y:Operand}{lo hi mx:Option Operand}{z:gQ}{lo' hi' mx':Option gQ}{t e:TypeId}{n:Nat}(hop:o.op = .slice t y lo hi mx)(ht:P.underlying t=some (.slice e))
  (hn:qv P e=some n) (hz:ef y=some z) (hlo:BF lo=some lo') (hhi:BF hi=some hi') (hmx:BF mx=some mx') (hmh:mx'.isNone=true\/hi'.isSome=true)
  (h:dZ C bt M (.AP n z lo' hi' mx')=some x):∃v w',qU P o a w v w'/\iJ j M w x v w':=by
 simp only[dZ] at h;have h1:=cH he hz;split at h
 ·rename_i tk xs ez;obtain⟨hw,h⟩:=di h;obtain⟨hh,h2,h⟩:=bo h;obtain⟨l,h3,h⟩:=bo h;rw[ez] at h1;have hp:=h1.dH;obtain⟨A,cap,b,off,sz,vs,hv,hc,_⟩:=hp.dH;rw[hv] at hp;rcases qW hmx with ⟨rfl,rfl⟩|⟨my,mz,rfl,rfl,hmz⟩
  ·simp only at h;obtain⟨⟨c1,c2,c3,c4⟩,h⟩:=di h;cases h;have hb:=yi (P:=P) he hlo hhi (cap:=cap) h2 h3 c1 c2 c3 c4 hc true;refine⟨_,w,.inl ?_,.still hr (.plain (hp.part (m:=cap) (l:=l.toNat) (h:=hh.toNat) hw (by omega) (by omega) (by omega)))⟩
   simp[execOp,hop,Instr.sliceAt,dA ht,Instr.slice,hv,hb,jd hn]
  ·simp only at h;split at h
   ·rename_i mk m em;obtain⟨⟨c0,c0',c1,c2,c3,c4⟩,h⟩:=di h;have hm:=cH he hmz;rw[em] at hm
    have hmr:(Instr.sliceBound (a.eval my) cap .slice3Acap).run P w = .ok m.toNat w:=by
     simp[Instr.sliceBound,hm.fP,asIntOf,c0,show m<=cap by omega]
    have hbs:(Instr.sliceBounds true xs.length cap (lo.map a.eval) (hi.map a.eval) (some (a.eval my))).run P w = .ok (l.toNat,hh.toNat,m.toNat) w:=by
     unfold Instr.sliceBounds;rcases qW hhi with ⟨rfl,rfl⟩|⟨hy,hz',rfl,rfl,hhz⟩
     ·simp at hmh
     ·have t1:=qF (P:=P) he hhz h2 c1 (m:=m.toNat) (by omega) .slice3B
      rcases qW hlo with ⟨rfl,rfl⟩|⟨y',z',rfl,rfl,hz'⟩
      ·simp[jf] at h3; subst h3;simp[hmr,t1]
      ·have t2:=qF (P:=P) he hz' h3 c3 (m:=hh.toNat) (by omega) .slice3C
       simp[hmr,t1,t2]
    have hrun:(execOp a.eval o).run P w = .ok (.value (.slice (if m.toNat=l.toNat then A else A.map (·.add (l.toNat*n))) (hh.toNat-l.toNat) (m.toNat-l.toNat))) w:=by
     simp[execOp,hop,Instr.sliceAt,dA ht,Instr.slice,hv,hbs,jd hn]
    rcases kQ h with ⟨hm0,h⟩|⟨hm0,h⟩<;>(cases h)
    ·have hm0:m=0:=by simpa using hm0
     subst hm0;have e1:hh=0:=by omega
     have e2:l=0:=by omega
     subst e1; subst e2;exact⟨_,w,.inl hrun,.still hr (.c0 _)⟩
    ·exact⟨_,w,.inl hrun,.still hr (.plain (hp.part (m:=m.toNat) hw (by omega) (by omega) (by omega)))⟩
   ·cases h
 ·rename_i id v0 sz' al ah ez;obtain⟨hsz,h⟩:=di h;subst hsz;obtain⟨hh,h2,h⟩:=bo h;obtain⟨l,h3,h⟩:=bo h;rw[ez] at h1;obtain⟨hs0,g1,g2,g3⟩:=h1.nB
  obtain⟨A,cap,hv,hc,hA⟩:∃A cap,a.eval y = .slice A (ah-al) cap/\ah-al<=cap/\(0<ah-al->∃b off,A=some ⟨b,off,none⟩):=by
   grind
  have key:∀m:Nat,m<=cap->0<=l->l<hh->hh<=m->hh<=(ah-al:Nat)->fY j M w (.dk id v0 sz' (al+l.toNat) (al+hh.toNat)) (.slice (A.map (·.add (l.toNat*sz'))) (hh.toNat-l.toNat) (m-l.toNat)):=by
   intro m hmc hl0 hlh hhm hha;obtain⟨b,off,rfl⟩:=hA (by omega)
   simp only[cB,lC];have e0:al+hh.toNat-(al+l.toNat)=hh.toNat-l.toNat:=by omega
   have e6:hh.toNat-l.toNat<=m-l.toNat:=by clear g3 g2 h1 hv; omega
   have e7:al+l.toNat+(m-l.toNat)<=al+cap:=by omega
   have e8:al+l.toNat<=al+hh.toNat:=by omega
   have e9:al+hh.toNat<=ah:=by clear g3 g2 h1 hv; omega
   refine .dk (.inl ⟨b,off+l.toNat*sz',m-l.toNat,by rw[e0],by rw[e0]; exact e6⟩) g1 g2 fun sz v' xs hM=>?_
   obtain⟨k1,k2⟩:=g3 sz v' xs hM;refine⟨k1,fun hev=>?_⟩
   obtain⟨l0,l1,l2,⟨rfl,_⟩|⟨b',cap',vs,t',l3,l4,l5,l6,l7⟩⟩:=k2 hev
   ·simp at l2; omega
   rw[hv] at l4;injection l4 with l4 l4' l4''
   injection l4 with l4; injection l4 with e1 e2 e3
   subst e1; subst e2; subst l4'';exact⟨l0,e8,bj e9 l2,.inr ⟨b,m-l.toNat,vs,t',l3,by rw[e0,bP],by rw[e0]; exact e6,l6,bj (bf _ e7) l7⟩⟩
  rcases qW hmx with ⟨rfl,rfl⟩|⟨my,mz,rfl,rfl,hmz⟩
  ·simp only at h;obtain⟨⟨c1,c2,c3,c4⟩,h⟩:=di h;have hb:=yi (P:=P) he hlo hhi (cap:=cap) h2 h3 c1 c2 c3 c4 hc true
   have hrun:(execOp a.eval o).run P w = .ok (.value (.slice (if cap=l.toNat then A else A.map (·.add (l.toNat*sz'))) (hh.toNat-l.toNat) (cap-l.toNat))) w:=by
    simp[execOp,hop,Instr.sliceAt,dA ht,Instr.slice,hv,hb,jd hn]
   rcases kQ h with ⟨hm0,h⟩|⟨hm0,h⟩<;>(cases h)
   ·have:l=hh:=by simpa using hm0
    subst this;refine⟨_,w,.inl hrun,.still hr (.plain ?_)⟩;rw[Nat.sub_self];exact fI.nil _ _ _
   ·have:l≠hh:=by simpa using hm0
    rw[ak (by omega)] at hrun
    exact⟨_,w,.inl hrun,.still hr (key cap (ar _) c3 (by omega) (by omega) c2)⟩
  ·simp only at h;split at h
   ·rename_i mk m em;obtain⟨⟨c0,c0',c1,c2,c3,c4⟩,h⟩:=di h;have hm:=cH he hmz;rw[em] at hm
    have hmr:(Instr.sliceBound (a.eval my) cap .slice3Acap).run P w = .ok m.toNat w:=by
     simp[Instr.sliceBound,hm.fP,asIntOf,c0,show m<=cap by omega]
    have hbs:(Instr.sliceBounds true (ah-al) cap (lo.map a.eval) (hi.map a.eval) (some (a.eval my))).run P w = .ok (l.toNat,hh.toNat,m.toNat) w:=by
     unfold Instr.sliceBounds;rcases qW hhi with ⟨rfl,rfl⟩|⟨hy,hz',rfl,rfl,hhz⟩
     ·simp at hmh
     ·have t1:=qF (P:=P) he hhz h2 c1 (m:=m.toNat) (by omega) .slice3B
      rcases qW hlo with ⟨rfl,rfl⟩|⟨y',z',rfl,rfl,hz'⟩
      ·simp[jf] at h3; subst h3;simp[hmr,t1]
      ·have t2:=qF (P:=P) he hz' h3 c3 (m:=hh.toNat) (by omega) .slice3C
       simp[hmr,t1,t2]
    have hrun:(execOp a.eval o).run P w = .ok (.value (.slice (if m.toNat=l.toNat then A else A.map (·.add (l.toNat*sz'))) (hh.toNat-l.toNat) (m.toNat-l.toNat))) w:=by
     simp[execOp,hop,Instr.sliceAt,dA ht,Instr.slice,hv,hbs,jd hn]
    rcases kQ h with ⟨hm0,h⟩|⟨hm0,h⟩
    ·cases h;have hm0:m=0:=by simpa using hm0
     subst hm0;have e1:hh=0:=by omega
     have e2:l=0:=by omega
     subst e1; subst e2;exact⟨_,w,.inl hrun,.still hr (.c0 _)⟩
    ·rcases kQ h with ⟨hm1,h⟩|⟨hm1,h⟩<;>(cases h)
     ·have:l=hh:=by simpa using hm1
      subst this;refine⟨_,w,.inl hrun,.still hr (.plain ?_)⟩;rw[Nat.sub_self];exact fI.nil _ _ _
     ·have:l≠hh:=by simpa using hm1
      rw[ak (by omega)] at hrun
      exact⟨_,w,.inl hrun,.still hr (key m.toNat (by omega) c3 (by omega) (by omega) (by omega))⟩
   ·cases h
 ·cases h
theorem Tr(hr:Rel j M w)(he:cy j M w bt a){y i:Operand}{z z':gQ}{t e:TypeId}{n:Nat}(hop:o.op = .indexAddr t y i)(ht:P.underlying t=some (.slice e))(hn:qv P e=some n)
  (hz:ef y=some z) (hz':ef i=some z') (h:dZ C bt M (.vU n z z')=some x):∃v w',qU P o a w v w'/\iJ j M w x v w':=by
 simp only[dZ] at h;have h1:=cH he hz;have h2:=cH he hz';split at h
 ·rename_i tk xs k m ez ez';obtain⟨h0,h⟩:=di h;obtain⟨el,hel,h⟩:=bo h;split at h
  ·rename_i hwd;cases h;rw[ez] at h1;rw[ez'] at h2;obtain⟨A,cap,b,off,sz,vs,hv,hc,ha,hsz,hs,hrp⟩:=h1.dH.dH;have cu:=aF hel;have hne:xs≠[]:=by rintro rfl; simp at cu
   have hA:=ha hne;have hsz':sz=n:=by rw[<-hwd]; exact(hsz el (aR hel)).symm
   subst hsz';subst hA;refine⟨.pointer (some ⟨b,off+m.toNat*sz,none⟩),w,.inl ?_,.still hr (.jg (vs:=fun q=>vs (m.toNat*sz+q)) fun q c hq=>?_)⟩
   ·have hm:m<xs.length:=by omega
    simp[execOp,hop,Instr.indexAt,dA ht,hv,h2.fP,asIntOf,h0,hm,jd hn,lC]
   grind
  ·cases h
 ·rename_i id v0 sz' lo hi k m ez ez';obtain⟨⟨h0,hm,hsz⟩,h⟩:=di h;cases h;subst hsz;rw[ez] at h1;rw[ez'] at h2;have hlt0:lo+m.toNat<hi:=by omega
  obtain⟨b,off,cap,hv,hcap⟩:=h1.UX (by omega)
  obtain⟨_,g1,g2,g3⟩:=h1.nB;refine⟨.pointer (some ⟨b,off+m.toNat*sz',none⟩),w,.inl ?_,.still hr (.iu ⟨_,_,rfl⟩ g1 g2 fun sz v' xs hM=>?_)⟩
  ·simp[execOp,hop,Instr.indexAt,dA ht,hv,h2.fP,asIntOf,h0,hm,jd hn,lC]
  ·obtain⟨k1,k2⟩:=g3 sz v' xs hM;refine⟨k1,fun he=>?_⟩
   obtain⟨rfl,l1,l2,⟨rfl,_⟩|⟨b',cap',vs,t',l3,l4,l5,l6,l7⟩⟩:=k2 he
   ·exact absurd (bq hlt0 l2) (by simp)
   rw[hv] at l4
   grind [Nat.lt_of_lt_of_le,Nat.add_mul]
 ·cases h
def Gi(b off:Nat)(u:Nat->Value):∀(n i:Nat)(acc:Array Value),(∀k,k<n->w.cell? ⟨b,off+(i+k),none⟩=some (u (i+k))) ->
  (loadCellsFrom ⟨b,off,none⟩ i n acc).run P w = .ok (acc++((List.range n).map fun k=>u (i+k)).toArray) w:=by
 intro n;induction n with
 |zero=>simp[loadCellsFrom]
 |succ n ih =>
  intro i acc h;have h0:=h 0 (by simp)
  simp_all [loadCellsFrom,lC,List.range_succ_eq_map,Function.comp_def,Nat.add_comm,Nat.add_left_comm]
theorem oJ(b off n:Nat)(u:Nat->Value)(h:∀k,k<n->w.cell? ⟨b,off+k,none⟩=some (u k)) :
  (loadCells ⟨b,off,none⟩ n).run P w = .ok (((List.range n).map u).toArray) w:=by
 have:=Gi (P:=P) (w:=w) b off u n 0 #[] (by grind)
 grind [loadCells]
theorem wB{id b:Nat}{cs:List ag}(hr:Rel j M w)(hM:M[id]?=some (.cells cs))(hj:j id=some b):∃vs t,w.heap[b]?=some (.cells vs t (0,0))/\cs.length=vs.size /\
  (∀(q:Nat)(c:ag)(v:Value),cs[q]?=some c->vs[q]?=some v->fY j M w c v)/\∀q,w.cell? ⟨b,q,none⟩=vs[q]?:=by
 obtain⟨b',vs,t,h1,h2,h3,h4⟩:=hr.box _ _ hM
 grind [World.cell?]
theorem G8(hr:Rel j M w){id ver i off sz:Nat}{xs:List ag}{v:Value}{el:ag}(hM:M[id]?=some (.arr sz ver xs))(h:fY j M w (.iu id ver i off) v)(hel:xs[i]?=some el) :
  ∃b,v = .pointer (some ⟨b,i*sz+off,none⟩)/\∀(k:Nat)(c:ag),el.cells[off+k]?=some c->∃u,w.cell? ⟨b,i*sz+off+k,none⟩=some u/\fI w (nV j M w) c u:=by
 obtain⟨_,_,_,g⟩:=h.sm;obtain⟨g1,b,g2,g3⟩:=(g _ _ _ hM).2 rfl;obtain⟨b',vs,t,k1,k2,k3,k4,k5⟩:=hr.yf hM g2
 grind [World.cell?]
theorem Tu(hr:Rel j M w)(he:cy j M w bt a){y:Operand}{z:gQ}{t:TypeId}(hop:o.op = .load t y)(hg:BE P t=some false)(hz:ef y=some z)(h:dZ C bt M (.jv z)=some x) :
  ∃v w',qU P o a w v w'/\iJ j M w x v w':=by
 simp only[dZ] at h;have h1:=cH he hz;split at h
 ·rename_i id off e;rw[e] at h1;obtain⟨b,_,_,hj,hv⟩:=h1.pK;rw[eN] at h;split at h
  ·rename_i cs hM;obtain⟨c,hc,h⟩:=bo h;cases h;rw[eN] at hc;obtain⟨vs,t0,hw,hl,hcs,hcell⟩:=wB hr hM hj;have cu:=aF hc;have hu:vs[off]?=some (vs[off]'(by omega)):=bb (by omega)
   refine⟨_,w,.inl ?_,.still hr (hcs _ c _ hc hu)⟩;simp[execOp,hop,Instr.loadAt,Instr.sureAddr,hv,loadVar,kR hg,hcell,hu]
  grind
 ·rename_i cs e;rw[e] at h1;obtain⟨b,off,vs,hv,hc⟩:=h1.ua;obtain⟨c,hc0,h⟩:=bo h;cases h;rw[eN] at hc0;obtain⟨h2,_,h3⟩:=hc 0 c hc0;refine⟨_,w,.inl ?_,.still hr (.plain h3)⟩;simp_all [execOp,Instr.loadAt,Instr.sureAddr,loadVar,kR]
 ·rename_i id ver i off e;rw[e] at h1;rw[eN] at h;split at h
  ·rename_i sz v0 xs hM;split at h
   ·rename_i hv0;subst hv0;obtain⟨el,hel,h⟩:=bo h;obtain⟨c,hc,h⟩:=bo h;cases h;rw[eN] at hc;obtain⟨b,hv,hcell⟩:=G8 hr hM h1 hel;obtain⟨u,l1,l2⟩:=hcell 0 c (by omega)
    refine⟨u,w,.inl ?_,.still hr (.plain l2)⟩;simp_all [execOp,Instr.loadAt,Instr.sureAddr,loadVar,kR]
   grind
  ·cases h
 grind
theorem Tv(hr:Rel j M w)(he:cy j M w bt a){y:Operand}{z:gQ}{t:TypeId}{n:Nat}(hop:o.op = .load t y)(hg:BE P t=some true)(hn:qv P t=some n)(hz:ef y=some z)
  (h:dZ C bt M (.nD n z)=some x):∃v w',qU P o a w v w'/\iJ j M w x v w':=by
 simp only[dZ] at h;have h1:=cH he hz;split at h
 ·rename_i id off e;rw[e] at h1;obtain⟨b,_,_,hj,hv⟩:=h1.pK;rw[eN] at h;split at h
  ·rename_i cs hM;split at h
   ·rename_i hle;cases h;obtain⟨vs,t0,hw,hl,hcs,hcell⟩:=wB hr hM hj
    have hrun:=oJ (P:=P) (w:=w) b off n (fun k=>(vs[off+k]?).getD undef) fun k hk=>by
     rw[hcell,bb (by omega)]; simp
    refine⟨_,w,.inl (by simp[execOp,hop,Instr.loadAt,Instr.sureAddr,hv,loadVar,kR hg,jd hn,hrun]; rfl),.still hr (.agg (by grind) fun p c u hc hu=>?_)⟩
    grind
   ·cases h
  ·cases h
 ·rename_i cs e;split at h
  ·rename_i hle;cases h;rw[e] at h1;obtain⟨b,off,vs,hv,hc⟩:=h1.ua;have hrun:=oJ (P:=P) (w:=w) b off n vs fun k hk=>(hc k _ (aj (by omega))).1
   refine⟨_,w,.inl (by simp[execOp,hop,Instr.loadAt,Instr.sureAddr,hv,loadVar,kR hg,jd hn,hrun]; rfl),.still hr (.agg (by simp; omega) fun p c u hc' hu=>?_)⟩
   have hp:p<n:=by have:=aF hc'; simp_all
   rw[bF hp] at hc';have hu':u=vs p:=by simp_all
   subst hu';exact .plain (hc p c hc').2.2
  ·cases h
 ·rename_i id ver i off e;rw[e] at h1;rw[eN] at h;split at h
  ·rename_i sz v0 xs hM;split at h
   ·rename_i hv0;subst hv0;obtain⟨el,hel,h⟩:=bo h;split at h
    ·rename_i hle;cases h;obtain⟨b,hv,hcell⟩:=G8 hr hM h1 hel
     have hrun:=oJ (P:=P) (w:=w) b (i*sz+off) n (fun k=>(w.cell? ⟨b,i*sz+off+k,none⟩).getD undef) fun k hk=>by
      obtain⟨u,l1,_⟩:=hcell k _ (aj (by omega))
      rw[l1]; rfl
     refine⟨_,w,.inl (by simp[execOp,hop,Instr.loadAt,Instr.sureAddr,hv,loadVar,kR hg,jd hn,hrun]; rfl),.still hr (.agg (by simp; omega) fun p c u hc' hu=>?_)⟩
     have hp:p<n:=by have:=aF hc'; simp at this; omega
     rw[bF hp,cI] at hc';obtain⟨u',l1,l2⟩:=hcell p c hc';have hu':u=(w.cell? ⟨b,i*sz+off+p,none⟩).getD undef:=by simp_all
     rw[l1] at hu';subst hu';exact .plain l2
    ·cases h
   ·cases h
  ·cases h
 ·cases h
end
section
variable {P:Program} {C:eO} {o:Oper} {bt:Env} {M:aL} {j:J} {w:World} {a:Act} {x:ag×aL}
def tp{y:ag}{v:Value}{cs:List ag}(h:fY j M w y v)(hc:y.cells?=some cs):RC j M w cs v.cells:=by
 cases y<;>simp only[ag.cells?,iC,reduceCtorEq] at hc
 case agg cs' =>
  subst hc;obtain⟨vs,rfl,h1,h2⟩:=h.mc;exact⟨h1,h2⟩
 case raw u =>
  cases h with
  |plain h =>
   cases h with
   |raw _ h1 =>
    cases v<;>simp at hc<;>subst hc <;>
     exact⟨rfl,fun i c v hc hv=>by
      cases i with
      |zero=>simp[Value.cells] at hc hv; subst hc; subst hv; exact .plain (.raw _ h1)
      |succ i=>simp at hc⟩
 all_goals
  subst hc
  have hv:v.cells = #[v]:=by
   first
    |(have:=h.jb; subst this; rfl)
    |(have:=h.fP; subst this; rfl)
    |(have:=h.jX; subst this; rfl)
    |(obtain⟨A,cap,b,off,sz,vs,e,_⟩:=h.dH.dH; subst e; rfl)
    |(obtain⟨b,_,_,_,e⟩:=h.pK; subst e; rfl)
    |(obtain⟨b,off,vs,e,_⟩:=h.ua; subst e; rfl)
    |(obtain⟨vs,e,_⟩:=h.sn; subst e; rfl)
    |(obtain⟨b,_,_,e⟩:=h.u9; subst e; rfl)
    |(obtain⟨b,_,_,e⟩:=h.CU; subst e; rfl)
    |(obtain⟨b,es,cl,e,_⟩:=h.Hx; subst e; rfl)
    |(obtain⟨_,_,e⟩:=h.yW; subst e; rfl)
    |(obtain⟨⟨_,_,e⟩,_⟩:=h.sm; subst e; rfl)
    |(obtain⟨_,e,_⟩:=h.Gk; subst e; rfl)
    |(obtain⟨_,_,_,e⟩:=h.HR; subst e; rfl)
  rw[hv]
  exact⟨rfl,fun i c u hc hu=>by
   cases i with
   |zero=>simp at hc hu; subst hc; subst hu; exact h
   |succ i=>simp at hc⟩
theorem Cp{c:ag}{v:Value}(h:fY j M w c v)(hc:c.k6=true):v.oneCell'=true:=by
 cases c<;>simp only[ag.k6,af] at hc
 case bool=>have:=h.jb; subst this; rfl
 case int=>have:=h.fP; subst this; rfl
 case str=>have:=h.jX; subst this; rfl
 case slice=>obtain⟨A,cap,b,off,sz,vs,e,_⟩:=h.dH.dH; subst e; rfl
 case ptr=>obtain⟨b,_,_,_,e⟩:=h.pK; subst e; rfl
 case jg=>obtain⟨b,off,vs,e,_⟩:=h.ua; subst e; rfl
 case func=>obtain⟨vs,e,_⟩:=h.sn; subst e; rfl
 case gH=>obtain⟨b,_,_,e⟩:=h.u9; subst e; rfl
 case jA=>obtain⟨b,_,_,e⟩:=h.CU; subst e; rfl
 case iG=>obtain⟨b,es,cl,e,_⟩:=h.Hx; subst e; rfl
 case dk=>obtain⟨_,_,e⟩:=h.yW; subst e; rfl
 case iu=>obtain⟨⟨_,_,e⟩,_⟩:=h.sm; subst e; rfl
 case sb=>obtain⟨_,e,_⟩:=h.Gk; subst e; rfl
 case jO=>obtain⟨_,_,_,e⟩:=h.HR; subst e; rfl
 case raw u =>
  cases h with
  |plain h=>cases h<;>grind
theorem Gn(hr:Rel j M w){cs:List ag}{vs:Array Value}(hc:RC j M w cs vs)(t:TypeId) :
  iJ j M w (.ptr M.length 0,M++[.cells cs]) (.pointer (some ⟨w.heap.size,0,none⟩)) { w with heap:=w.heap.push (.cells vs t (0,0)) }:=by
 have q:Quiet w { w with heap:=w.heap.push (.cells vs t (0,0)) }:=⟨by simp,rfl,rfl,rfl⟩
 have hb:∀b,b<w.heap.size->({ w with heap:=w.heap.push (.cells vs t (0,0)) }:World).heap[b]?=w.heap[b]?:=fun b hb=>by
  grind
 have hn:({ w with heap:=w.heap.push (.cells vs t (0,0)) }:World).heap[w.heap.size]?=some (.cells vs t (0,0)):=by simp
 refine⟨gy j _ (some w.heap.size),hr.push (fun b h=>?_) q hb (fun _=>?_) (fun sz n b h=>by grind),Ext.push (fun b h=>?_) q hb,.ptr (by simp) ⟨cs,by simp⟩ (by simp[gy])⟩
 ·grind
 ·exact⟨_,rfl,fun j' M' hx=>⟨vs,t,hn,hc.1,fun i c v h1 h2=>(hc.2 i c v h1 h2).mono hx⟩⟩
 grind
def ac6(hr:Rel j M w)(he:cy j M w bt a){y:Operand}{z:gQ}{t:TypeId}(hop:o.op = .box t y)(hz:ef y=some z)(h:dZ C bt M (.box z)=some x) :
  ∃v w',qU P o a w v w'/\iJ j M w x v w':=by
 obtain⟨cs,hc,h⟩:=bo h;cases h;exact⟨_,_,.inl (by simp_all [execOp,Instr.box,newVar,newRow]),Gn hr (tp (cH he hz) hc) t⟩
theorem Mm(hr:Rel j M w){t:TypeId}{i:TypeInfo}{zv:Value}{l:List ag}(hop:o.op = .alloc t)(hi:P.info? t=some i)(hzv:i.zero=some zv)(hl:sR zv.cells.toList=some l)
  (h:dZ C bt M (.sU l)=some x):∃v w',qU P o a w v w'/\iJ j M w x v w':=by
 cases h;obtain⟨h1,h2⟩:=pU hl;refine⟨_,_,.inl (by simp[execOp,hop,Instr.alloc,zeroValue,pC hi,hzv]; rfl),Gn hr ⟨by omega,fun i c v hc hv=>h2 i c v hc (by grind)⟩ t⟩
theorem ada(hr:Rel j M w)(he:cy j M w bt a){y:Operand}{n:Nat}(hop:o.op = .assign y)(hz:ef y=some (.ll (.slice .c0 [])))(h:dZ C bt M (.own n (.ll (.slice .c0 [])))=some x) :
  ∃v w',qU P o a w v w'/\iJ j M w x v w':=by
 cases h;have h1:=cH he hz;have q:Quiet w w:=⟨ar _,rfl,rfl,rfl⟩
 obtain⟨A,hA⟩:∃A,a.eval y = .slice A 0 0:=by
  generalize a.eval y=v at h1;cases h1 with
  |plain h=>cases h
  |c0 A=>simp
 refine⟨a.eval y,w,.inl (by simp_all [execOp]),gy j _ none,hr.push (fun b h=>by grind) q (fun _ _=>rfl) (fun h=>by cases h) (fun sz n b h h'=>by grind),Ext.push (fun b h=>by grind) q (fun _ _=>rfl),?_⟩
 rw[hA];exact .own (sz:=n) (by simp) (by simp) (fI.nil _ _ _) fun _ => .inl ⟨by simp[gy],rfl,A,rfl⟩
def oV(w:World)(b:Nat):Nat->List Value->World
 |_,[]=>w
 |off,v::r=>oV (w.setCell ⟨b,off,none⟩ v) b (off+1) r
def lA{b:Nat}{t:TypeId}:∀(l:List Value)(w:World)(off:Nat)(vs:Array Value),w.heap[b]?=some (.cells vs t (0,0))->off+l.length<=vs.size ->
  (oV w b off l).heap.size=w.heap.size/\(oV w b off l).os=w.os/\(oV w b off l).tape=w.tape/\(oV w b off l).output=w.output /\
  (∀b',b'≠b->(oV w b off l).heap[b']?=w.heap[b']?) /\
  ∃vs',(oV w b off l).heap[b]?=some (.cells vs' t (0,0))/\vs'.size=vs.size/\(∀p,p<off\/off+l.length<=p->vs'[p]?=vs[p]?)/\∀p,p<l.length->vs'[off+p]?=l[p]?:=by
 intro l;induction l with
 |nil=>intro w off vs h _; exact⟨rfl,rfl,rfl,rfl,fun _ _=>rfl,vs,h,rfl,fun _ _=>rfl,fun p hp=>by simp at hp⟩
 |cons v r ih =>
  intro w off vs h hle;simp only[av] at hle
  have hs:(w.setCell ⟨b,off,none⟩ v).heap[b]?=some (.cells (vs.setIfInBounds off v) t (0,0)):=by
   simp[World.setCell,fb,h]
  obtain⟨h1,h2,h3,h4,h5,vs',h6,h7,h8,h9⟩:=ih (w.setCell ⟨b,off,none⟩ v) (off+1) (vs.setIfInBounds off v) hs (by simp; omega)
  refine⟨by simp only[oV]; rw[h1]; simp[World.setCell],by simp only[oV]; rw[h2]; rfl,by simp only[oV]; rw[h3]; rfl,by simp only[oV]; rw[h4]; rfl,fun b' hb'=>?_,vs',h6,by rw[h7]; simp,fun p hp=>?_,fun p hp=>?_⟩
  ·simp only[oV];rw[h5 b' hb'];simp[World.setCell,fb,dD hb']
  ·simp only[av] at hp;rw[h8 p (by omega),eW (by omega)]
  ·cases p with
   |zero =>
    have:vs'[off]?=(vs.setIfInBounds off v)[off]?:=h8 off (by omega)
    rw[cV,this];simp[gJ];omega
   |succ p =>
    have:=h9 p (by simpa using hp)
    rw[show off+(p+1)=off+1+p by omega,this]
    simp
def mT{b:Nat}{t:TypeId}:∀(l:List Value)(w:World)(off i:Nat)(vs:Array Value),w.heap[b]?=some (.cells vs t (0,0))->off+i+l.length<=vs.size->(∀v,v∈l->v.oneCell'=true) ->
  (storeCells ⟨b,off,none⟩ l i).run P w = .ok () (oV w b (off+i) l):=by
 intro l;induction l with
 |nil=>simp[storeCells,oV]
 |cons v r ih =>
  intro w off i vs h hle hv;simp only[av] at hle
  have hs:(w.setCell ⟨b,off+i,none⟩ v).heap[b]?=some (.cells (vs.setIfInBounds (off+i) v) t (0,0)):=by
   simp[World.setCell,fb,h]
  have hc:w.cell? ⟨b,off+i,none⟩=some (vs[off+i]'(by omega)):=by
   simp[World.cell?,h]
  have hf:w.frozen? ⟨b,off+i,none⟩=false:=by simp[World.frozen?,h]
  have hi:=ih _ off (i+1) _ hs (by simp; omega) (fun u hu=>hv u (aP _ hu))
  simp[storeCells,lC,run_store P w _ v .plain (hv v _),hc,hf,aw,Result.andThen_ok,hi];rfl
theorem qP{cs new:List ag}{off:Nat}(h:off+new.length<=cs.length)(p:Nat) :
  (mH cs off new)[p]?=if off<=p/\p<off+new.length then new[p-off]? else cs[p]?:=by
 grind [mH]
theorem uv{cs new:List ag}{off:Nat}(h:off+new.length<=cs.length):(mH cs off new).length=cs.length:=by
 grind [mH]
theorem zA{c:ag}{v:Value}(h:fY j M w c v)(hp:c.shut.plainCell=true):fI w (nV j M w) c.shut v:=by
 cases c<;>simp[ag.shut,ag.plainCell] at hp ⊢
 case bool=>have:=h.jb; subst this; exact .bool _
 case int=>have:=h.fP; subst this; exact .int _ _
 case str=>have:=h.jX; subst this; exact .str _
 case slice=>exact h.dH
 case raw=>cases h<;>grind
theorem Bv{c:ag}(h:c.shut.plainCell=true):c.k6=true:=by
 cases c<;>simp[ag.shut,ag.plainCell] at h<;>try rfl
 rename_i v;cases v<;>first|rfl|grind
def Gx{c:ag}(h:c.plainCell=true):c.cells=[c]:=by
 cases c<;>first|rfl|cases h
theorem Dp{e:ag}{off:Nat}{new:List ag}(h:off+new.length<=e.cells.length)(hp:new.all ag.plainCell=true):(putCells e off new).cells=mH e.cells off new:=by
 by_cases hag:∃cs,e = .agg cs
 ·obtain⟨cs,rfl⟩:=hag;cases new<;>rfl
 ·have h1:e.cells=[e]:=by cases e<;>first|rfl|grind
  rw[h1] at h ⊢
  match new,h,hp with
  | [],h,_ =>
   have:putCells e off []=e:=by cases e<;>first|rfl|grind
   rw[this,h1]
   match off,h with
   |0,_=>rfl
   |1,_=>rfl
  | [c],h,hp =>
   have:putCells e off [c]=c:=by cases e<;>first|rfl|grind
   have h0:off=0:=by grind
   subst h0;rw[this,Gx (by grind)]
   rfl
  |_::_::_,h,_=>grind
theorem Dg(hr:Rel j M w)(he:cy j M w bt a){y y':Operand}{z z':gQ}{t:TypeId}{n:Nat}(hop:o.op = .store t y y')(hn:qv P t=some n)(hz:ef y=some z)(hz':ef y'=some z')
  (h:dZ C bt M (.store n z z')=some x):∃v w',qU P o a w v w'/\iJ j M w x v w':=by
 simp only[dZ] at h;have h1:=cH he hz;have h2:=cH he hz';split at h
 ·rename_i id off e;rw[e] at h1;obtain⟨b,_,_,hj,hv⟩:=h1.pK;rw[eN] at h;split at h
  ·rename_i cs hM;obtain⟨new,iv,h⟩:=bo h;split at h
   ·rename_i hcond;obtain⟨c1,c2,c3⟩:=hcond;cases h;obtain⟨vs,t0,hw,hl,hcs,hcell⟩:=wB hr hM hj;obtain⟨n1,n2⟩:=tp h2 iv
    have hone:∀v,v∈(a.eval y').cells.toList->v.oneCell'=true:=by
     intro v hv;obtain⟨p,hp,rfl⟩:=jJ hv;have hp':p<(a.eval y').cells.size:=by simpa using hp
     have hpl:p<new.length:=by omega
     have hr':=n2 p _ _ (aj hpl) (bb hp');have:=Cp hr' (bw.1 c3 _ (jL hpl));simpa using this
    have hrun:=mT (P:=P) (a.eval y').cells.toList w off 0 vs hw (by simp; omega) hone
    obtain⟨s1,s2,s3,s4,s5,vs',s6,s7,s8,s9⟩:=lA (a.eval y').cells.toList w off vs hw (by simp; omega)
    have q:Quiet w (oV w b off (a.eval y').cells.toList):=⟨by omega,s2,s3,s4⟩
    have hle:off+new.length<=cs.length:=by omega
    rw[fQ];refine⟨undef,oV w b off (a.eval y').cells.toList,.inr ⟨?_,rfl⟩,j,Rel.store hM rfl rfl hj hr q (fun b' hb' _=>s5 b' hb') (fun vs0 t1 fr h=>by rw[hw] at h; grind) (fun j' M' hx=>⟨vs',t0,s6,by rw[uv hle]; omega,fun p c v hc hv'=>fY.mono hx ?_⟩),Ext.store hM rfl rfl hj hr q (fun b' hb' _=>s5 b' hb') (fun vs0 t1 fr h=>by rw[hw] at h; grind),.any _⟩
    ·simp_all [cV,execOp,Instr.storeAt,Instr.sureAddr,storeVar,jd]
    ·rw[qP hle] at hc;split at hc
     ·rename_i hp;have h9:=s9 (p-off) (by simp; omega)
      rw[show off+(p-off)=p by omega,hv'] at h9
      exact n2 (p-off) c v hc (by simpa using h9.symm)
     grind
   ·cases h
  ·cases h
 ·rename_i id ver i off e;rw[e] at h1;rw[eN] at h;split at h
  ·rename_i sz v0 xs hM;obtain⟨new,iv,h⟩:=bo h;obtain⟨el,hel,h⟩:=bo h;split at h
   ·rename_i hcond;obtain⟨hv0,c1,c2,c3⟩:=hcond;subst hv0;cases h;obtain⟨_,hid,_,hv⟩:=h1.sm;obtain⟨hi,b,hj,hv⟩:=(hv sz v0 xs hM).2 rfl;obtain⟨b',vs,t0,k1,hw,k3,k4,k5⟩:=hr.yf hM hj;rw[hj] at k1; cases k1;have hsz:el.cells.length=sz:=k4 el (aR hel)
    have hbd:i*sz+sz<=vs.size:=by
     refine bj ?_ k3
     calc i*sz+sz=(i+1)*sz:=by rw[bP]; omega
      _<=xs.length*sz:=bf _ hi
    obtain⟨n1,n2⟩:=tp h2 iv
    have hpl:∀(p:Nat)(c:ag),new[p]?=some c->c.shut.plainCell=true:=fun p c hc=>by
     rw[List.all_map,bw] at c3;exact c3 c (aR hc)
    have hone:∀v,v∈(a.eval y').cells.toList->v.oneCell'=true:=by
     intro v hv;obtain⟨p,hp,rfl⟩:=jJ hv;have hp':p<(a.eval y').cells.size:=by simpa using hp
     have hpl':p<new.length:=by omega
     have hr':=n2 p _ _ (aj hpl') (bb hp');have:=Cp hr' (Bv (hpl p _ (aj hpl')));simpa using this
    have hrun:=mT (P:=P) (a.eval y').cells.toList w (i*sz+off) 0 vs hw (by simp; omega) hone
    obtain⟨s1,s2,s3,s4,s5,vs',s6,s7,s8,s9⟩:=lA (a.eval y').cells.toList w (i*sz+off) vs hw (by simp; omega)
    have q:Quiet w (oV w b (i*sz+off) (a.eval y').cells.toList):=⟨by omega,s2,s3,s4⟩
    have hle:off+(new.map ag.shut).length<=el.cells.length:=by simp; omega
    have hput:=Dp hle c3
    have hw':∀vs0 t1,w.heap[b]?=some (.cells vs0 t1 (0,0))->∃vs1,(oV w b (i*sz+off) (a.eval y').cells.toList).heap[b]?=some (.cells vs1 t1 (0,0))/\vs1.size=vs0.size:=fun vs0 t1 h=>by
     rw[hw] at h; grind
    rw[fQ,fQ];refine⟨undef,oV w b (i*sz+off) (a.eval y').cells.toList,.inr ⟨?_,rfl⟩,j,Rel.DV hM hj hr q (fun b' hb' _=>s5 b' hb') hw' (ar _) (fun _=>by simp) (fun j' M' hx=>⟨vs',t0,s6,by simp; omega,fun x hx'=>?_,fun p x k c hp hk=>?_⟩),Ext.DV hM hj hr q (fun b' hb' _=>s5 b' hb') hw' (ar _) (fun _=>by simp),.any _⟩
    ·simp only[cV] at hrun;simp[execOp,hop,Instr.storeAt,Instr.sureAddr,hv,storeVar,jd hn,show(a.eval y').cells.size=n by omega,hrun]
    ·rcases kX hx' with hx'|rfl
     ·exact k4 x hx'
     ·rw[hput,uv hle,hsz]
    ·have eY:(a.eval y').cells.toList.length=n:=by simp; omega
     by_cases hpi:i=p
     ·subst hpi;rw[eA hi] at hp;cases hp;rw[hput,qP hle] at hk;split at hk
      ·rename_i hin;simp only[aI] at hin;rw[aZ,aO] at hk;obtain⟨c0,hc0,rfl⟩:=hk;have h9:=s9 (k-off) (by omega)
       rw[show i*sz+off+(k-off)=i*sz+k by omega] at h9
       have cu:k-off<(a.eval y').cells.size:=by omega
       have hu:(a.eval y').cells[k-off]?=some (a.eval y').cells[k-off]:=bb cu;exact⟨_,by rw[h9]; simp,(zA (n2 _ c0 _ hc0 hu) (hpl _ c0 hc0)).mono hx.hU⟩
      ·rename_i hin;simp only[aI] at hin;obtain⟨u,u1,u2⟩:=k5 i el k c hel hk;exact⟨u,by rw[s8 _ (by omega)]; exact u1,u2.mono hx.hU⟩
     ·rw[fz hpi] at hp;obtain⟨u,u1,u2⟩:=k5 p x k c hp hk;have hk':k<sz:=by rw[<-k4 x (aR hp)]; exact aF hk
      refine⟨u,(s8 _ ?_).trans u1,u2.mono hx.hU⟩;rcases bH p i with cu|hge
      ·left;have:=bf sz (show p+1<=i from cu)
       rw[bP] at this;omega
      ·right;have:=bf sz (show i+1<=p by omega)
       rw[bP] at this;omega
   ·cases h
  ·cases h
 ·cases h
end
def T4(off:Nat):∀(l:List Value)(k:Nat)(cells:Array Value),
  ((l.zipIdx k).foldl (fun(cs:Array Value) (x:Value×Nat)=>cs.setIfInBounds (off+x.2) x.1) cells).size=cells.size /\
  ∀p,((l.zipIdx k).foldl (fun(cs:Array Value) (x:Value×Nat)=>cs.setIfInBounds (off+x.2) x.1) cells)[p]? =
   if off+k<=p/\p<off+k+l.length/\p<cells.size then l[p-(off+k)]? else cells[p]?:=by
 intro l;induction l with
 |nil=>intro k cells; exact⟨rfl,fun p=>by simp; omega⟩
 |cons v r ih =>
  intro k cells;rw[List.zipIdx_cons,bB];obtain⟨h1,h2⟩:=ih (k+1) (cells.setIfInBounds (off+k) v);refine⟨by rw[h1]; simp,fun p=>?_⟩
  rw[h2];simp only[Array.size_setIfInBounds,av]
  by_cases c1:off+(k+1)<=p/\p<off+(k+1)+r.length/\p<cells.size
  ·rw[az c1,az (by omega),show p-(off+k)=(p-(off+(k+1)))+1 by omega]
   simp
  ·rw[ak c1]
   by_cases c2:p=off+k/\p<cells.size
   ·obtain⟨rfl,cu⟩:=c2;rw[az (by omega)]
    simp[gJ,cu]
   ·rw[ak (by omega)]
    by_cases c3:p=off+k
    ·have:¬p<cells.size:=fun h=>c2 ⟨c3,h⟩
     rw[gX (by simp; omega),gX (by omega)]
    ·rw[eW (by omega)]
def putRow(cells:Array Value)(off:Nat)(vs:Array Value):Array Value:=vs.zipIdx.foldl (fun cs (c,k)=>cs.setIfInBounds (off+k) c) cells
def Bt(cells:Array Value)(off:Nat)(vs:Array Value):(putRow cells off vs).size=cells.size /\
  ∀p,(putRow cells off vs)[p]?=if off<=p/\p<off+vs.size/\p<cells.size then vs[p-off]? else cells[p]?:=by
 have h:=T4 off vs.toList 0 cells
 have e:putRow cells off vs=(vs.toList.zipIdx 0).foldl (fun(cs:Array Value) (x:Value×Nat)=>cs.setIfInBounds (off+x.2) x.1) cells:=by
  unfold putRow;rw[<-Array.foldl_toList];simp
 rw[e];exact⟨h.1,fun p=>by rw[h.2 p]; simp⟩
section
variable {P:Program} {C:eO} {o:Oper} {bt:Env} {M:aL} {j:J} {w:World} {a:Act} {x:ag×aL}
def RC.write{cs new:List ag}{cells vs:Array Value}{off:Nat}(h:RC j M w cs cells)(hn:RC j M w new vs)(hle:off+new.length<=cs.length):RC j M w (mH cs off new) (putRow cells off vs):=by
 obtain⟨p1,p2⟩:=Bt cells off vs;have h1:=h.1;have h2:=hn.1;refine⟨by rw[uv hle,p1]; exact h1,fun i c v hc hv=>?_⟩
 rw[qP hle] at hc;rw[p2] at hv
 have hi:i<cells.size:=by
  rcases bH i cells.size with hi|hi
  ·exact hi
  ·rw[ak (by omega),gX hi] at hv; cases hv
 split at hc
 ·rename_i hp;rw[az (by omega)] at hv
  exact hn.2 _ c v hc hv
 ·rename_i hp;rw[ak (by omega)] at hv
  exact h.2 _ c v hc hv
def S1{α β:Type}{g:α->Sem β}{f:α->β}:∀(l:List α),(∀x,x∈l->(g x).run P w = .ok (f x) w)->(l.mapM g).run P w = .ok (l.map f) w:=by
 intro l;induction l with
 |nil=>intro _; simp
 |cons y r ih =>
  intro h;simp[List.mapM_cons,h y (by simp),ih fun x hx=>h x (by simp[hx])]
def Hu{fs:Array Field}(he:cy j M w bt a)(hfs:∀f,f∈fs.toList->(P.info? f.type).isSome=true):∀ {parts:List (Nat×Operand)} {ps:List (Nat×Nat×gQ)} {cs cs':List ag} {cells:Array Value},
  zY P fs parts=some ps->lu bt cs ps=some cs'->RC j M w cs cells ->
  ∃cells',Instr.fill (fun i=>(fs.map fun f=>(f.offset,P.cellsOf f.type))[i]?) cells (parts.map fun p=>(p.1,a.eval p.2))=some cells'/\RC j M w cs' cells':=by
 intro parts;induction parts with
 |nil =>
  intro ps cs cs' cells h1 h2 h3;simp[zY] at h1; subst h1;simp[lu] at h2; subst h2;exact⟨cells,rfl,h3⟩
 |cons p r ih =>
  intro ps cs cs' cells h1 h2 h3;obtain⟨i,y⟩:=p;simp only[zY] at h1;obtain⟨f,hf,h1⟩:=ba h1;obtain⟨n,hn,h1⟩:=ba h1;obtain⟨z,hz,h1⟩:=ba h1;obtain⟨l,hl,h1⟩:=ba h1;cases h1;simp only[lu] at h2;obtain⟨new,iv,h2⟩:=bo h2;split at h2
  ·rename_i hc;obtain⟨c1,c2⟩:=hc;have hrc:=tp (cH he hz) iv;obtain⟨inf,hinf,hsz⟩:=Dz hn;have hco:P.cellsOf f.type=n:=by simp[Program.cellsOf,hinf,hsz]
   obtain⟨cells',e1,e2⟩:=ih hl h2 (h3.write (off:=f.offset) hrc (by omega))
   refine⟨cells',?_,e2⟩;have hs1:=hrc.1;have hs2:=h3.1;have hpl:(fs.map fun f=>(f.offset,P.cellsOf f.type))[i]?=some (f.offset,n):=by simp[hf,hco]
   simp only[aW,Instr.fill,hpl];rw[ak (by simp; omega)]
   exact e1
  ·cases h2
def Tj(hr:Rel j M w)(he:cy j M w bt a){t:TypeId}{parts:Array (Nat×Operand)}{fs:Array Field}{i:TypeInfo}{zv:Value}{l:List ag}{ps:List (Nat×Nat×gQ)}(hop:o.op = .build t parts)
  (ht:P.underlying t=some (.struct fs)) (hi:P.info? t=some i) (hzv:i.zero=some zv) (hl:sR zv.cells.toList=some l) (hps:zY P fs parts.toList=some ps) (hfs:fs.all (fun f=>(P.info? f.type).isSome)=true)
  (h:dZ C bt M (.build l ps)=some x):∃v w',qU P o a w v w'/\iJ j M w x v w':=by
 simp only[dZ] at h;obtain⟨cs,hcs,h⟩:=bo h;cases h;obtain⟨h1,h2⟩:=pU (j:=j) (M:=M) (w:=w) hl
 have hfs':∀f,f∈fs.toList->(P.info? f.type).isSome=true:=fun f hf=>by
  have:=Array.all_eq_true'.1 hfs f (by simpa using hf)
  simpa using this
 obtain⟨cells',e1,e2⟩:=Hu (P:=P) he hfs' hps hcs (cells:=zv.cells) ⟨by simpa using h1,fun i c v hc hv=>h2 i c v hc (by simpa using hv)⟩
 have hmap:(fs.mapM fun f=>do pure (f.offset,<-sizeOf f.type):Sem _).run P w = .ok (fs.map fun f=>(f.offset,P.cellsOf f.type)) w:=by
  rw[kV]
  have hm:=S1 (P:=P) (w:=w) (g:=fun f:Field=>(do pure (f.offset,<-sizeOf f.type):Sem _)) (f:=fun f:Field=>(f.offset,P.cellsOf f.type)) fs.toList fun f hf=>by
   obtain⟨inf,hinf⟩:=lk.1 (hfs' f hf);simp[sizeOf,pC hinf,Program.cellsOf,hinf]
  rw[Sem.run_map,hm,<-Array.toList_map];simp only[Result.andThen_ok,Array.toArray_toList]
 refine⟨.agg cells',w,.inl ?_,.still hr (.agg e2.1 e2.2)⟩;have e1':Instr.fill (fun i=>(fs.map fun f=>(f.offset,P.cellsOf f.type))[i]?) zv.cells (parts.map fun p=>(p.1,a.eval p.2)).toList=some cells':=by simpa using e1
 simp only[execOp,hop,Instr.build,zeroValue,Sem.run_bind,pC hi,Result.andThen_ok,hzv,Sem.run_pure,dA ht,hmap];simp only[e1',Sem.run_pure,Result.andThen_ok]
def Bu{y:ag}{v:Value}(h:fY j M w y v)(hp:y.gd.plain=true):y.gd.cells.length=v.cells.size /\
  ∀(k:Nat)(c:ag)(u:Value),y.gd.cells[k]?=some c->v.cells[k]?=some u->fI w (nV j M w) c u:=by
 by_cases hag:∃cs,y = .agg cs
 ·obtain⟨cs,rfl⟩:=hag;obtain⟨vs,rfl,h1,h2⟩:=h.mc;simp only[ag.gd,ag.plain,ag.cells,Value.cells] at hp ⊢;refine⟨by simpa using h1,fun k c u hc hu=>?_⟩
  rw[aZ,aO] at hc;obtain⟨c0,hc0,rfl⟩:=hc;refine zA (h2 k c0 u hc0 hu) ?_;have:=bw.1 hp c0.shut (bS.2 ⟨c0,aR hc0,rfl⟩);exact this
 ·have hs:y.gd=y.shut:=by cases y<;>first|rfl|exact absurd ⟨_,rfl⟩ hag
  have hpl:y.shut.plainCell=true:=by
   rw[hs] at hp;cases y<;>first|exact hp|exact absurd ⟨_,rfl⟩ hag
  have hr:=zA h hpl;have hc1:y.shut.cells=[y.shut]:=by cases y<;>first|rfl|exact absurd ⟨_,rfl⟩ hag
  have hv1:v.cells = #[v]:=by
   cases y<;>simp only[ag.shut,ag.plainCell,af] at hpl
   case bool=>have:=h.jb; subst this; rfl
   case int=>have:=h.fP; subst this; rfl
   case str=>have:=h.jX; subst this; rfl
   case slice=>obtain⟨A,cap,b,off,sz,vs,e,_⟩:=h.dH.dH; subst e; rfl
   case raw=>cases h with|plain h=>cases h; cases v<;>simp_all [Value.cells]
  rw[hs,hc1,hv1];refine⟨rfl,fun k c u hc hu=>?_⟩
  cases k with
  |zero=>simp at hc hu; subst hc; subst hu; exact hr
  |succ k=>simp at hc
def P1{sz:Nat}:∀(l:List Value)(k:Nat)(cells:Array Value),(∀v,v∈l->v.cells.size=sz)->(k+l.length)*sz<=cells.size ->
  ∃cells',Instr.fill (fun i=>some (i*sz,sz)) cells ((l.zipIdx k).map fun x=>(x.2,x.1))=some cells'/\cells'.size=cells.size/\(∀p,p<k*sz->cells'[p]?=cells[p]?) /\
   ∀i v q,l[i]?=some v->q<sz->cells'[(k+i)*sz+q]?=v.cells[q]?:=by
 intro l;induction l with
 |nil=>intro k cells _ _; exact⟨cells,rfl,rfl,fun _ _=>rfl,fun i v q h=>by simp at h⟩
 |cons v r ih =>
  intro k cells hv hle;have hv0:=hv v (by simp)
  have hk1:(k+1)*sz=k*sz+sz:=lZ k sz
  have hle':k*sz+sz<=cells.size:=by
   have:(k+1)*sz<=(k+(r.length+1))*sz:=bf _ (by omega)
   simp only[av] at hle;omega
  obtain⟨p1,p2⟩:=Bt cells (k*sz) v.cells;obtain⟨cells',e1,e2,e3,e4⟩:=ih (k+1) (putRow cells (k*sz) v.cells) (fun u hu=>hv u (by simp[hu])) (by rw[p1]; simp only[av] at hle; rw[show k+1+r.length=k+(r.length+1) by omega]; exact hle)
  refine⟨cells',?_,by rw[e2,p1],fun p hp=>?_,fun i u q hi hq=>?_⟩
  ·rw[List.zipIdx_cons,aW];simp only[Instr.fill];rw[ak (by simp; omega)]
   exact e1
  ·rw[e3 p (by omega),p2,ak (by omega)]
  ·cases i with
   |zero =>
    simp at hi; subst hi;rw[cV,e3 _ (by omega),p2,az (by omega)]
    congr 1;omega
   |succ i =>
    have:=e4 i u q (by simpa using hi) hq
    rw[show k+1+i=k+(i+1) by omega] at this
    exact this
def D0:∀ {l:List (Nat×Operand)} {k:Nat} {zs:List gQ},Hf k l=some zs->∃ys:List Operand,l=(ys.zipIdx k).map (fun x=>(x.2,x.1))/\uL ys=some zs
 | [],k,zs,h=>by simp[Hf] at h; subst h; exact⟨[],rfl,rfl⟩
 |(i,y)::r,k,zs,h=>by
  simp only[Hf] at h;split at h
  ·rename_i hi;obtain⟨z,hz,h⟩:=ba h;obtain⟨l,hl,h⟩:=ba h;cases h;obtain⟨ys,e1,e2⟩:=D0 hl;exact⟨y::ys,by rw[List.zipIdx_cons,aW,hi,e1],by simp[uL,hz,e2]⟩
  ·cases h
def ED:∀ {zs:List gQ} {sz:Nat} {l:List ag},sL bt sz zs=some l->l.length=zs.length /\
  ∀(i:Nat)(y:ag)(z:gQ),l[i]?=some y->zs[i]?=some z->y=(z.ev bt).gd/\y.plain=true/\y.cells.length=sz
 | [],sz,l,h=>by simp[sL] at h; subst h; exact⟨rfl,fun i y z h=>by simp at h⟩
 |z::r,sz,l,h=>by
  simp only[sL] at h;split at h
  ·rename_i hc;obtain⟨l',hl,h⟩:=bo h;cases h;obtain⟨h1,h2⟩:=ED hl;refine⟨by simp[h1],fun i y z' hy hz=>?_⟩
   cases i with
   |zero=>simp at hy hz; subst hy; subst hz; exact⟨rfl,hc.1,hc.2⟩
   |succ i=>exact h2 i y z' (by simpa using hy) (by simpa using hz)
  ·cases h
def pL(o:Obj):Quiet w { w with heap:=w.heap.push o }/\(∀b,b<w.heap.size->({ w with heap:=w.heap.push o }:World).heap[b]?=w.heap[b]?)/\({ w with heap:=w.heap.push o }:World).heap[w.heap.size]?=some o :=
 ⟨⟨by simp,rfl,rfl,rfl⟩,fun b hb=>by
  show(w.heap.push _)[b]?=_
  rw[fL,ak (by omega)],by simp⟩
def EC(he:cy j M w bt a){t e:TypeId}{len:Nat}{parts:Array (Nat×Operand)}{i:TypeInfo}{zs:List gQ}{l:List ag}(hop:o.op = .buildSlice t len parts)(ht:P.underlying t=some (.slice e))
  (hi:P.info? e=some i) (hzs:Hf 0 parts.toList=some zs) (eY:zs.length=len) (hroom:len*i.size<=2 ^ 24) (hzero:(i.zero.map fun z=>z.cells.size)=some i.size)
  (hl:sL bt i.size zs=some l):l.length=len/\wid l i.size/\∃cells':Array Value,cells'.size=len*i.size /\
   (execOp a.eval o).run P w = .ok (.value (.slice (some ⟨w.heap.size,0,none⟩) len len)) { w with heap:=w.heap.push (.cells cells' e (0,0)) } /\
   ∀(n:Nat)(y:ag)(k:Nat)(c:ag),l[n]?=some y->y.cells[k]?=some c->∃u,cells'[n*i.size+k]?=some u/\fI w (nV j M w) c u:=by
 obtain⟨ys,hys,hyz⟩:=D0 hzs;obtain⟨l1,l2⟩:=ED hl;obtain⟨y1,y2⟩:=tY he hyz
 obtain⟨zv,hzv,hzs'⟩:∃zv,i.zero=some zv/\zv.cells.size=i.size:=by
  cases hz:i.zero with
  |none=>rw[hz] at hzero; cases hzero
  |some zv=>rw[hz] at hzero; exact⟨zv,rfl,by simpa using hzero⟩
 have hvs:∀v,v∈ys.map a.eval->v.cells.size=i.size:=by
  intro v hv;obtain⟨y,hy,rfl⟩:=bS.1 hv;obtain⟨p,hp,rfl⟩:=jJ hy;have hpz:p<zs.length:=by omega
  have hpl:p<l.length:=by omega
  have hrep:=y2 p _ _ (aj hpz) (aj hp);obtain⟨e1,e2,e3⟩:=l2 p _ _ (aj hpl) (aj hpz);have:=(Bu hrep (by rw[<-e1]; exact e2)).1
  rw[<-e1] at this;omega
 let zero:Array Value:=if len*i.size=0 then #[] else zv.cells
 let cells0:Array Value:=(Array.range (len*i.size)).map (zero[· % zero.size]!)
 obtain⟨cells',f1,f2,f3,f4⟩:=P1 (sz:=i.size) (ys.map a.eval) 0 cells0 hvs (by simp[cells0,<-eY,y1])
 have hfill:Instr.fill (fun k=>some (k*i.size,i.size)) cells0 (parts.map fun p=>(p.1,a.eval p.2)).toList=some cells':=by
  have:(parts.map fun p=>(p.1,a.eval p.2)).toList=((ys.map a.eval).zipIdx 0).map fun x=>(x.2,x.1):=by
   rw[Array.toList_map,hys,fW,List.zipIdx_map,fW];rfl
  rw[this]; exact f1
 have hrun:(execOp a.eval o).run P w = .ok (.value (.slice (some ⟨w.heap.size,0,none⟩) len len)) { w with heap:=w.heap.push (.cells cells' e (0,0)) }:=by
  simp only[execOp,hop,Instr.buildSlice,Sem.run_bind,dA ht,Result.andThen_ok,jd (show qv P e=some i.size by simp[qv,hi]),ak (show ¬len*i.size>2 ^ 24 by omega),Sem.run_pure]
  simp only[cells0] at hfill
  by_cases hc:len*i.size=0
  ·have hz:zero = #[]:=az hc;rw[hz] at hfill;rw[az hc];simp only[Sem.run_bind,Sem.run_pure,Result.andThen_ok,hfill];simp[newRow]
  ·have hz:zero=zv.cells:=ak hc;rw[hz] at hfill;rw[ak hc];simp only[zeroValue,Sem.run_bind,pC hi,Result.andThen_ok,hzv,Sem.run_pure,hfill];simp[newRow]
 have hel:∀(n:Nat)(y:ag)(k:Nat)(c:ag),l[n]?=some y->y.cells[k]?=some c->∃u,cells'[n*i.size+k]?=some u/\fI w (nV j M w) c u:=by
  intro n y k c hn hk;have hnl:=aF hn;have hz:=aj (show n<zs.length by omega)
  have hy:=aj (show n<ys.length by omega)
  obtain⟨e1,e2,e3⟩:=l2 n y _ hn hz;have hrep:=y2 n _ _ hz hy;obtain⟨s1,s2⟩:=Bu hrep (by rw[<-e1]; exact e2)
  rw[<-e1] at s1 s2;have hkl:=aF hk;have hu:=bb (show k<(a.eval ys[n]).cells.size by omega)
  have f:=f4 n (a.eval ys[n]) k (by simp[hy]) (by omega)
  rw[aQ] at f;exact⟨_,f.trans hu,s2 k c _ hk hu⟩
 refine⟨by omega,fun y hy=>?_,cells',by first|(simp[f2,cells0])|(simp[f3,cells0]),hrun,hel⟩
 obtain⟨p,hp,rfl⟩:=jJ hy;exact(l2 p _ _ (aj hp) (aj (by omega))).2.2
def Mn(hr:Rel j M w)(he:cy j M w bt a){t e:TypeId}{len:Nat}{parts:Array (Nat×Operand)}{i:TypeInfo}{zs:List gQ}(hop:o.op = .buildSlice t len parts)(ht:P.underlying t=some (.slice e))
  (hi:P.info? e=some i) (hzs:Hf 0 parts.toList=some zs) (eY:zs.length=len) (hroom:len*i.size<=2 ^ 24) (hzero:(i.zero.map fun z=>z.cells.size)=some i.size)
  (h:dZ C bt M (.lits i.size zs)=some x):∃v w',qU P o a w v w'/\iJ j M w x v w':=by
 simp only[dZ] at h;obtain⟨l,hl,h⟩:=bo h;obtain⟨hll,hwd,cells',_,hrun,hel⟩:=EC (w:=w) he hop ht hi hzs eY hroom hzero hl;obtain⟨q,hb,iv⟩:=pL (w:=w) (.cells cells' e (0,0));refine⟨_,_,.inl hrun,?_⟩;have ext:Ext j M w j M { w with heap:=w.heap.push (.cells cells' e (0,0)) }:=Ext.grow q.size rfl rfl rfl hb
 have rel:Rel j M { w with heap:=w.heap.push (.cells cells' e (0,0)) }:=hr.grow q.size rfl rfl rfl hb
 have key:fI { w with heap:=w.heap.push (.cells cells' e (0,0)) } (nV j M { w with heap:=w.heap.push (.cells cells' e (0,0)) }) (.slice .sh l) (.slice (some ⟨w.heap.size,0,none⟩) len len):=by
  refine .slice l _ _ _ w.heap.size 0 i.size (fun p=>(cells'[p]?).getD undef) hll.symm (ar _) (fun _=>rfl) hwd (fun n y k c hn hk=>?_) (fun n y k c hn hk=>?_)
  ·obtain⟨u,hu,_⟩:=hel n y k c hn hk;refine⟨?_,by simp,fun id hid hj=>?_,fun hx=>absurd (hr.zK _ _ hx) (iP _)⟩
   ·simp only[World.cell?,iv,aQ,hu];rfl
   ·have:=hr.lt id _ hid hj;omega
  ·obtain⟨u,hu,hru⟩:=hel n y k c hn hk;rw[hu];exact hru.mono ext.hU
 injection h with h
 subst h;cases l with
 |nil =>
  have:len=0:=by simpa using hll.symm
  subst this;exact⟨j,rel,ext,.c0 _⟩
 |cons y r=>exact⟨j,rel,ext,.plain key⟩
def Tt(hr:Rel j M w)(he:cy j M w bt a){t e:TypeId}{len:Nat}{parts:Array (Nat×Operand)}{i:TypeInfo}{zs:List gQ}(hop:o.op = .buildSlice t len parts)(ht:P.underlying t=some (.slice e))
  (hi:P.info? e=some i) (hzs:Hf 0 parts.toList=some zs) (eY:zs.length=len) (hroom:len*i.size<=2 ^ 24) (hzero:(i.zero.map fun z=>z.cells.size)=some i.size)
  (h:dZ C bt M (.EB i.size zs)=some x):∃v w',qU P o a w v w'/\iJ j M w x v w':=by
 simp only[dZ] at h;obtain⟨l,hl,h⟩:=bo h;cases h;obtain⟨hll,hwd,cells',hcs,hrun,hel⟩:=EC (w:=w) he hop ht hi hzs eY hroom hzero hl;obtain⟨q,hb,iv⟩:=pL (w:=w) (.cells cells' e (0,0));have hob:∀b,some w.heap.size=some b->w.heap.size<=b/\b<({ w with heap:=w.heap.push (.cells cells' e (0,0)) }:World).heap.size:=fun b h=>by cases h; simp
 have ext:Ext j M w (gy j M.length (some w.heap.size)) (M++[.tick i.size l.length]) { w with heap:=w.heap.push (.cells cells' e (0,0)) }:=Ext.push (fun b hb=>(hob b hb).1) q hb
 refine⟨_,_,.inl hrun,gy j M.length (some w.heap.size),hr.push hob q hb (fun h=>by cases h) (fun sz n b _ hb=>by cases hb; exact⟨cells',e,iv⟩),ext,?_⟩
 refine .own (sz:=i.size) (n:=l.length) (by simp) (ar _) ?_ fun _ => .inr ⟨w.heap.size,len,cells',e,by simp[gy],by rw[hll],iv,by omega,by omega⟩
 refine .slice l _ _ _ w.heap.size 0 i.size (fun p=>(cells'[p]?).getD undef) hll.symm (ar _) (fun _=>rfl) hwd (fun n y k c hn hk=>?_) (fun n y k c hn hk=>?_)
 ·obtain⟨u,hu,_⟩:=hel n y k c hn hk;have hk':k<i.size:=by rw[<-hwd y (aR hn)]; exact aF hk
  refine⟨?_,by simp,fun id hid hj=>?_,fun hx=>absurd (hr.zK _ _ (by rw[<-ext.X]; exact hx)) (iP _)⟩
  ·simp only[World.cell?,iv,aQ,hu];rfl
  ·have hid':id=M.length:=by
    rcases bH id M.length with h|h
    ·rw[show gy j M.length (some w.heap.size) id=j id by simp[gy,gr h]] at hj
     exact absurd (hr.lt id _ h hj) (iP _)
    ·simp at hid; omega
   subst hid';refine⟨i.size,l.length,by simp,?_⟩
   have:=bf i.size (show n+1<=l.length from aF hn)
   rw[bP] at this;omega
 ·obtain⟨u,hu,hru⟩:=hel n y k c hn hk;rw[hu];exact hru.mono ext.hU
end
def fY.Cn{j:J}{M:aL}{w:World}{xs:List ag}{v:Value}(h:fY j M w (.slice .c0 xs) v):∃A,v = .slice A 0 0:=by
 cases h with
 |plain h=>cases h
 |c0 A=>simp
theorem fY.W7{j:J}{M:aL}{w:World}{k:Nat}{xs:List ag}{v:Value}(h:fY j M w (.slice (.own k) xs) v) :
  ∃sz n,M[k]?=some (.tick sz n)/\xs.length<=n/\fI w (nV j M w) (.slice .sh xs) v/\(xs.length=n->GU j w k sz n v):=by
 cases h with
 |plain h=>cases h
 |own hk hn h ht=>grind
theorem Eh(n:Nat):∀(r c:Nat),c<=2*n+1000->Builtin.growBy n r c<=2*n+1000
 |0,c,h=>h
 |r+1,c,h=>by
  unfold Builtin.growBy;split
  ·omega
  ·exact Eh n r _ (by omega)
theorem Dc{n c:Nat}(h:c<n):Builtin.nextslicecap n c<=2*n+1000:=by
 grind [Builtin.nextslicecap,Eh]
def fI.one{w:World}{hU:Nat->Nat->Prop}{c:ag}{v:Value}(h:fI w hU c v):v.oneCell'=true:=by
 cases h<;>first|rfl|omega
section
variable {P:Program} {C:eO} {o:Oper} {bt:Env} {M:aL} {j:J} {w:World} {a:Act} {x:ag×aL}
theorem Ec{hU:Nat->Nat->Prop}{xs:List ag}{v:Value}{size:Nat}(hx:fI w hU (.slice .sh xs) v)(hw:wid xs size)(hpos:0<size) :
  ∃u:Nat->Value,(∀w':World,w'.heap=w.heap->(Builtin.firstCells size xs.length v).run P w' = .ok (((List.range (xs.length*size)).map u).toArray) w') /\
   (∀(i:Nat)(y:ag)(k:Nat)(c:ag),xs[i]?=some y->y.cells[k]?=some c->fI w hU c (u (i*size+k))) /\
   ∀b,(∃n cap,v = .slice (some ⟨b,0,none⟩) n cap)->∀p,p<xs.length*size->w.cell? ⟨b,p,none⟩=some (u p):=by
 obtain⟨A,cap,b,off,sz,vs,hv,hc,ha,hz,hs,hr⟩:=hx.dH
 by_cases hne:xs=[]
 ·subst hne;rw[hv];cases A<;>simp_all [Builtin.firstCells,loadCells,loadCellsFrom]
 ·have hsz:sz=size:=by
   obtain⟨y,r,rfl⟩:=ft hne;rw[<-hz y (by simp),hw y (by simp)]
  subst hsz;have hA:=ha hne;subst hA
  have hcell:∀p,p<xs.length*sz->w.cell? ⟨b,off+p,none⟩=some (vs p):=by
   intro p hp;have hd:p / sz<xs.length:=(kl hpos).2 hp;have hm:p % sz<sz:=iI _ hpos;have hy:=aj hd;have hcl:=hw _ (jL hd);have:=(hs (p / sz) _ (p % sz) _ hy (aj (by omega))).1
   rw[Nat.div_add_mod'] at this;omega
  refine⟨vs,fun w' hw'=>?_,hr,fun b' hb' p hp=>?_⟩
  ·rw[hv]
   have hc':∀p,p<xs.length*sz->w'.cell? ⟨b,off+p,none⟩=some (vs p):=fun p hp=>by
    grind [World.cell?]
   exact oJ (P:=P) b off (xs.length*sz) vs hc'
  grind
theorem fI.join{w':World}{saf':Nat->Nat->Prop}{xs ys:List ag}{size:Nat}(hwx:wid xs size)(hwy:wid ys size)(hpos:0<size){ux uy:Nat->Value}
  (hx:∀(i:Nat)(y:ag)(k:Nat)(c:ag),xs[i]?=some y->y.cells[k]?=some c->fI w' saf' c (ux (i*size+k)))
  (hy:∀(i:Nat)(y:ag)(k:Nat)(c:ag),ys[i]?=some y->y.cells[k]?=some c->fI w' saf' c (uy (i*size+k)))
  {b:Nat} {arr:Array Value} {t:TypeId} (harr:w'.heap[b]?=some (.cells arr t (0,0))) (h1:∀p,p<xs.length*size->arr[p]?=some (ux p)) (h2:∀p,p<ys.length*size->arr[xs.length*size+p]?=some (uy p))
  (hs:∀p,p<(xs.length+ys.length)*size->saf' b p) {cap:Nat} (hc:xs.length+ys.length<=cap):fI w' saf' (.slice .sh (xs++ys)) (.slice (some ⟨b,0,none⟩) (xs.length+ys.length) cap):=by
 have cu:∀(i k n:Nat),i<n->k<size->i*size+k<n*size:=by
  intro i k n hi hk;have:(i+1)*size<=n*size:=bf _ hi;rw[lZ] at this;omega
 have cas:∀(i:Nat)(y:ag),(xs++ys)[i]?=some y->(i<xs.length/\xs[i]?=some y)\/(∃i',i=xs.length+i'/\ys[i']?=some y):=by
  grind
 refine .slice _ _ _ _ b 0 size (fun p=>if p<xs.length*size then ux p else uy (p-xs.length*size)) (by simp) hc (fun _=>rfl) (fun y hy'=>?_) (fun i y k c hi hk=>?_) (fun i y k c hi hk=>?_)
 ·rcases bT.1 hy' with h|h
  ·exact hwx y h
  ·exact hwy y h
 ·have hkl:=aF hk;rw[aQ];rcases cas i y hi with ⟨hil,hxi⟩|⟨i',rfl,hyi⟩
  ·have hk':k<size:=by rw[<-hwx y (aR hxi)]; omega
   have hp:=cu i k _ hil hk';refine⟨?_,hs _ (cu i k _ (by omega) hk')⟩
   rw[az hp,<-h1 _ hp];simp[World.cell?,harr]
  ·have hk':k<size:=by rw[<-hwy y (aR hyi)]; exact hkl
   have hil:=aF hyi;have hp:=cu i' k _ hil hk';refine⟨?_,hs _ (cu _ k _ (by omega) hk')⟩
   have he:(xs.length+i')*size+k=xs.length*size+(i'*size+k):=by rw[bP]; omega
   rw[he,ak (by simp),iz,<-h2 _ hp]
   simp[World.cell?,harr]
 ·have hkl:=aF hk;rcases cas i y hi with ⟨hil,hxi⟩|⟨i',rfl,hyi⟩
  ·have hk':k<size:=by rw[<-hwx y (aR hxi)]; exact hkl
   rw[az (cu i k _ hil hk')];exact hx i y k c hxi hk
  ·have he:(xs.length+i')*size+k=xs.length*size+(i'*size+k):=by rw[bP]; omega
   rw[he,ak (by simp),iz]
   grind
theorem qm{t t' e:TypeId}{d':TypeDesc}{v':Value}{i:TypeInfo}{zv:Value}(hs:P.underlying t=some (.slice e))(hs':P.underlying t'=some d')(hd':∀k,d' ≠ .int k)(hi:P.info? e=some i)(hz:i.zero=some zv)(hb0:0<i.bytes)(hb1:i.bytes<=2 ^ 20)
  (ty:TypeId) {bN:Option Addr} {n cap m:Nat} {ur new:Array Value} (eY:∀w':World,(Builtin.lenOf v').run P w' = .ok m w')
  (hold:∀w':World,w'.heap=w.heap->(Builtin.firstCells i.size n (.slice bN n cap)).run P w' = .ok ur w') (iv:∀w':World,w'.heap=w.heap->(Builtin.firstCells i.size m v').run P w' = .ok new w')
  (hroom:(n+m)*i.bytes<=2 ^ 44) :
  (n+m<=cap->∀w',(match bN with|some ad=>(storeCells (ad.add (n*i.size)) new.toList).run P w = .ok () w'|none=>w'=w)->(Builtin.append_ #[t,t'] ty #[.slice bN n cap,v']).run P w = .ok (.slice bN (n+m) cap) w') /\
  (cap<n+m->∃newCap rest,n+m<=newCap/\rest.size=(newCap-(n+m))*zv.cells.size /\
   (Builtin.append_ #[t,t'] ty #[.slice bN n cap,v']).run P w = .ok (.slice (some ⟨w.heap.size,0,none⟩) (n+m) newCap) { w with heap:=w.heap.push (.cells (ur++new++rest) e (0,0)),drawn:=w.drawn+1 }):=by
 have hsz:(sizeOf e).run P w = .ok i.size w:=jd (by grind [qv])
 refine⟨fun hle w' hst=>?_,fun cu=>?_⟩
 ·have h1:=iv w rfl;unfold Builtin.append_;simp only[List.getElem?_toArray,dX,dB,Sem.run_bind,dA hs,dA hs',Result.andThen_ok,hsz,Sem.run_pure];simp only[af,aw,eY,Result.andThen_ok,fV,aE,az hle,h1,Sem.run_bind];cases bN with
  |none=>simp_all
  |some ad=>simp_all
 ·have hcapb:¬Builtin.nextslicecap (n+m) cap*i.bytes>2 ^ 48:=by
   have h1:=Dc cu;have h2:Builtin.nextslicecap (n+m) cap*i.bytes<=(2*(n+m)+1000)*i.bytes:=bf _ h1
   grind
  let q:Question := .appendCap (n+m) cap e
  refine⟨q.cut (w.tape w.drawn q),Builtin.zeroCells zv.cells (q.cut (w.tape w.drawn q)-(n+m)),by grind [Question.cut],by simp[Builtin.zeroCells],?_⟩
  have h1:=hold w.drew rfl;have h2:=iv w.drew rfl;have hne:i.bytes≠0:=by omega
  have hqf:q.forced=false:=rfl;unfold Builtin.append_;simp only[List.getElem?_toArray,dX,dB,Sem.run_bind,dA hs,dA hs',Result.andThen_ok,hsz,Sem.run_pure];simp only[af,aw,eY,Result.andThen_ok,fV,aE,ak (Nat.not_le.2 cu),Sem.run_bind];simp[pC hi,hne,hcapb,h1,h2,zeroValue,hz,newRow,q,Question.forced];rfl
theorem G6(hr:Rel j M w){c:Call}{y y':Operand}{t t' e:TypeId}{d':TypeDesc}{i:TypeInfo}{zv:Value}(hop:o.op = .call c)(hb:c.callee = .builtin .append)(ha:c.args.toList=[y,y'])
  (hat:c.argTypes = #[t,t']) (hs:P.underlying t=some (.slice e)) (hs':P.underlying t'=some d') (hd':∀k,d' ≠ .int k) (hi:P.info? e=some i) (hz:i.zero=some zv) (hzs:zv.cells.size=i.size) (hpos:0<i.size) (hb0:0<i.bytes) (hb1:i.bytes<=2 ^ 20)
  {tk:Tk} {xs ys:List ag} (r1:fY j M w (.slice tk xs) (a.eval y)) (eY:∀w':World,(Builtin.lenOf (a.eval y')).run P w' = .ok ys.length w') {uy:Nat->Value}
  (fy1:∀w':World,w'.heap=w.heap->(Builtin.firstCells i.size ys.length (a.eval y')).run P w' = .ok (((List.range (ys.length*i.size)).map uy).toArray) w')
  (fy2:∀(q:Nat)(y:ag)(k:Nat)(c:ag),ys[q]?=some y->y.cells[k]?=some c->fI w (nV j M w) c (uy (q*i.size+k)))
  (h:cv (dQ (xs.length+ys.length) i.bytes/\wid xs i.size/\wid ys i.size) (
    match tk with
    | .c0=>match xs with|[]=>some (.slice (.own M.length) ys,M++[.tick i.size ys.length])|_=>none
    | .own k=>match nth M k with
     |some (.tick sz' n)=>cv (sz'=i.size/\n=xs.length) (some (.slice (.own k) (xs++ys),j6 M k (.tick i.size (xs.length+ys.length))))
     |_=>none
    | .sh=>none)=some x):∃v w' j',qU P o a w v w'/\Rel j' x.2 w'/\Ext j M w j' x.2 w'/\fY j' x.2 w' x.1 v/\(ys=[]->v=a.eval y/\∀k,tk = .own k->j'=j)/\∀k b',tk = .own k->j' k=some b'->j k=some b'\/∃vs,w'.heap[b']?=some (.cells vs e (0,0)):=by
 obtain⟨⟨hroom,hwx,hwy⟩,h9⟩:=di h;clear h;have h:=h9;clear h9;have p1:=r1.dH;obtain⟨ux,fx1,fx2,fx3⟩:=Ec (P:=P) p1 hwx hpos;obtain⟨bN,cap,_,_,_,_,hv,hcap,_⟩:=p1.dH;have ha':c.args = #[y,y']:=by rw[<-ha]
 have hexec:∀r,(Builtin.append_ #[t,t'] o.type #[a.eval y,a.eval y']).run P w=r->(execOp a.eval o).run P w=r.andThen fun v w' => .ok (.value v) w':=by
  intro r hr';simp[execOp,hop,resolve,hb,invoke,builtin,ha',hat,hr']
 rw[hv] at fx1;obtain⟨A1,A2⟩:=qm (P:=P) (w:=w) hs hs' hd' hi hz hb0 hb1 o.type (bN:=bN) (n:=xs.length) (cap:=cap) (m:=ys.length) eY fx1 fy1 hroom;rw[<-hv] at A1 A2
 -- nothing is appended
 have nil:ys=[]->∃v,(execOp a.eval o).run P w = .ok (.value v) w/\v=a.eval y:=by
  intro hy;subst hy;refine⟨_,?_,rfl⟩
  have:=A1 (by simp; exact hcap) w (by
   cases bN with
   |none=>rfl
   |some ad=>simp[storeCells])
  rw[hexec _ this];simp[hv]
 -- a new block
 have fresh:cap<xs.length+ys.length->∃newCap arr w',xs.length+ys.length<=newCap/\(execOp a.eval o).run P w = .ok (.value (.slice (some ⟨w.heap.size,0,none⟩) (xs.length+ys.length) newCap)) w' /\
   Quiet w w'/\(∀b,b<w.heap.size->w'.heap[b]?=w.heap[b]?)/\w'.heap[w.heap.size]?=some (.cells arr e (0,0))/\newCap*i.size<=arr.size /\
   (∀p,p<xs.length*i.size->arr[p]?=some (ux p))/\∀p,p<ys.length*i.size->arr[xs.length*i.size+p]?=some (uy p):=by
  intro cu;obtain⟨newCap,rest,h1,h2,h3⟩:=A2 cu;obtain⟨q,hbk,iv⟩:=pL (w:=w) (.cells (((List.range (xs.length*i.size)).map ux).toArray++((List.range (ys.length*i.size)).map uy).toArray++rest) e (0,0));refine⟨newCap,_,{ w with heap:=w.heap.push (.cells (((List.range (xs.length*i.size)).map ux).toArray++((List.range (ys.length*i.size)).map uy).toArray++rest) e (0,0)),drawn:=w.drawn+1 },h1,(hexec _ h3).trans rfl,⟨q.size,rfl,rfl,rfl⟩,hbk,iv,?_,fun p hp=>?_,fun p hp=>?_⟩
  ·simp only[fT,cJ,aI,ky,h2,hzs];rw[<-bP,<-bP];exact bf _ (by omega)
  ·rw[Array.append_assoc,cr (by simpa using hp)]
   simp[hp]
  ·rw[Array.append_assoc,Array.getElem?_append_right (by simp),cr (by simp; omega)]
   simp[hp]
 split at h
 ·-- c0
  split at h
  ·cases h;simp only[aH,aQ] at *
   have hc0:cap=0:=by
    obtain⟨A',hA'⟩:=r1.Cn;rw[hv] at hA';injection hA'
   by_cases hy:ys=[]
   ·subst hy;obtain⟨v,h1,h2⟩:=nil rfl;have q:Quiet w w:=⟨ar _,rfl,rfl,rfl⟩;refine⟨v,w,gy j M.length none,.inl h1,hr.push (ob:=none) (fun b h=>by cases h) q (fun _ _=>rfl) (fun h=>by cases h) (fun sz n b h h'=>by cases h'),Ext.push (fun b h=>by cases h) q (fun _ _=>rfl),?_,fun _=>⟨h2,fun _ h=>by cases h⟩,fun _ _ h=>by cases h⟩
    rw[h2,hv,hc0];exact .own (sz:=i.size) (n:=0) (by simp) (by simp) (fI.nil _ _ _) fun _ => .inl ⟨by simp[gy],rfl,bN,rfl⟩
   ·have hyl:0<ys.length:=iL.2 hy;obtain⟨newCap,arr,w',g1,g2,g3,g4,g5,g6,g7,g8⟩:=fresh (by omega)
    have hob:∀b,some w.heap.size=some b->w.heap.size<=b/\b<w'.heap.size:=fun b hb=>by
     cases hb; exact⟨ar _,lt_of_block g5⟩
    have ext:Ext j M w (gy j M.length (some w.heap.size)) (M++[.tick i.size ys.length]) w':=Ext.push (fun b hb=>(hob b hb).1) g3 g4
    refine⟨_,w',gy j M.length (some w.heap.size),.inl g2,hr.push hob g3 g4 (fun h=>by cases h) (fun sz n b _ hb=>by grind),ext,?_,fun h=>absurd h hy,fun _ _ h=>by cases h⟩
    have hsaf:∀p,p<(0+ys.length)*i.size->nV (gy j M.length (some w.heap.size)) (M++[.tick i.size ys.length]) w' w.heap.size p:=by
     intro p hp;refine⟨lt_of_block g5,fun id hid hj=>?_,fun hx=>absurd (hr.zK _ _ hx) (iP _)⟩
     by_cases hid':id=M.length
     ·subst hid'; exact⟨i.size,ys.length,by simp,by simpa using hp⟩
     ·have:=hr.lt id w.heap.size (by simp at hid; omega) (by simpa[gy,hid'] using hj)
      omega
    have hj:=fI.join (xs:=[]) (ys:=ys) (w':=w') hwx hwy hpos (ux:=ux) (uy:=uy) (fun i y k c h=>by simp at h) (fun i y k c h1 h2=>(fy2 i y k c h1 h2).mono ext.hU) g5 (fun p hp=>by simp at hp) (fun p hp=>by simpa using g8 p hp) hsaf (cap:=newCap) (by simpa using g1)
    simp only[aY,aH,aQ] at hj;exact .own (sz:=i.size) (n:=ys.length) (by simp) (ar _) hj fun _ => .inr ⟨w.heap.size,newCap,arr,e,by simp[gy],rfl,g5,g6,g1⟩
  ·cases h
 ·-- own
  rename_i k;rw[eN] at h;split at h
  ·rename_i sz' n' hMk;obtain⟨⟨e1,e2⟩,hx⟩:=di h;subst e1;subst e2;injection hx with hx
   subst hx;rw[fQ];obtain⟨sz0,n0,hk,hn,hrp,ht⟩:=r1.W7
   ·rw[hMk] at hk;injection hk with hk; injection hk with e1 e2
    subst e1; subst e2
    by_cases hy:ys=[]
    ·subst hy;obtain⟨v,h1,h2⟩:=nil rfl
     have hset:M.set k (.tick i.size (xs.length+([]:List ag).length))=M:=by
      apply cS
      grind
     rw[h2] at h1;rw[hset,bW];exact⟨a.eval y,w,j,.inl h1,hr,Ext.refl j M w,r1,fun _=>⟨rfl,fun _ _=>rfl⟩,fun _ _ _ h => .inl h⟩
    ·have hyl:0<ys.length:=iL.2 hy
     have moved:cap<xs.length+ys.length->∃v w' j',qU P o a w v w'/\Rel j' (M.set k (.tick i.size (xs.length+ys.length))) w'/\Ext j M w j' (M.set k (.tick i.size (xs.length+ys.length))) w'/\fY j' (M.set k (.tick i.size (xs.length+ys.length))) w' (.slice (.own k) (xs++ys)) v/\(ys=[]->v=a.eval y/\∀k',Tk.own k = .own k'->j'=j)/\∀k' b',Tk.own k = .own k'->j' k'=some b'->j k'=some b'\/∃vs,w'.heap[b']?=some (.cells vs e (0,0)):=by
      intro cu;obtain⟨newCap,arr,w',g1,g2,g3,g4,g5,g6,g7,g8⟩:=fresh cu;have ext:Ext j M w (gy j k (some w.heap.size)) (M.set k (.tick i.size (xs.length+ys.length))) w':=Ext.B1 hMk g3 g4 (ar _) (by omega)
      refine⟨_,w',gy j k (some w.heap.size),.inl g2,Rel.B1 hMk hr g3 g4 (ar _) g5 (by omega),ext,?_,fun h=>absurd h hy,fun k' b' hk' hb' => .inr ⟨arr,(by grind [gy])⟩⟩
      have hsaf:∀p,p<(xs.length+ys.length)*i.size->nV (gy j k (some w.heap.size)) (M.set k (.tick i.size (xs.length+ys.length))) w' w.heap.size p:=by
       intro p hp;refine⟨lt_of_block g5,fun id hid hj=>?_,fun hx=>absurd (hr.zK _ _ hx) (iP _)⟩
       by_cases hid':id=k
       ·subst hid'; exact⟨i.size,_,dG (aF hMk),hp⟩
       ·have:=hr.lt id w.heap.size (by simpa using hid) (by simpa[gy,hid'] using hj)
        omega
      have hj:=fI.join (w':=w') hwx hwy hpos (ux:=ux) (uy:=uy) (fun i y k c h1 h2=>(fx2 i y k c h1 h2).mono ext.hU) (fun i y k c h1 h2=>(fy2 i y k c h1 h2).mono ext.hU) g5 g7 g8 hsaf (cap:=newCap) g1
      exact .own (sz:=i.size) (n:=xs.length+ys.length) (dG (aF hMk)) (by simp) hj fun _ => .inr ⟨w.heap.size,newCap,arr,e,by simp[gy],rfl,g5,g6,g1⟩
     rcases ht rfl with ⟨_,hn0,A',hA'⟩|⟨b,cap0,vs,t0,hj,hv0,hw0,hsz0,hcap0⟩
     ·rw[hv] at hA';injection hA' with _ _ e3
      exact moved (by omega)
     ·have hvv:=hv.symm.trans hv0;injection hvv with e1 e2 e3
      subst e1; subst e3
      by_cases hfit:xs.length+ys.length<=cap
      ·have iv:(((List.range (ys.length*i.size)).map uy).toArray).toList.length=ys.length*i.size:=by simp
       have hle:xs.length*i.size+ys.length*i.size<=vs.size:=by
        rw[<-bP];exact bj (bf _ hfit) hsz0
       have hone:∀v,v∈(((List.range (ys.length*i.size)).map uy).toArray).toList->v.oneCell'=true:=by
        intro v hv;simp only[bS,fA] at hv;obtain⟨p,hp,rfl⟩:=hv;have hd:p / i.size<ys.length:=(kl hpos).2 hp;have hm:p % i.size<i.size:=iI _ hpos;have hcl:=hwy _ (jL hd);have:=fy2 (p / i.size) _ (p % i.size) _ (aj hd) (aj (by omega))
        rw[Nat.div_add_mod'] at this;exact this.one
       have hst:=mT (P:=P) (((List.range (ys.length*i.size)).map uy).toArray).toList w (xs.length*i.size) 0 vs hw0 (by rw[iv]; omega) hone
       rw[cV] at hst;obtain⟨s1,s2,s3,s4,s5,vs',s6,s7,s8,s9⟩:=lA (((List.range (ys.length*i.size)).map uy).toArray).toList w (xs.length*i.size) vs hw0 (by rw[iv]; omega)
       have hrun:=A1 hfit _ (by
        show(storeCells ((⟨b,0,none⟩:Addr).add (xs.length*i.size)) _).run P w=_
        rw[lC,aQ];exact hst)
       have q:Quiet w (oV w b (xs.length*i.size) (((List.range (ys.length*i.size)).map uy).toArray).toList):=⟨by omega,s2,s3,s4⟩
       have hkeep:∀p,p<xs.length*i.size->vs'[p]?=vs[p]?:=fun p hp=>s8 p (.inl hp)
       have ext:Ext j M w j (M.set k (.tick i.size (xs.length+ys.length))) (oV w b (xs.length*i.size) (((List.range (ys.length*i.size)).map uy).toArray).toList) :=
        Ext.GC hMk hj hr q (fun b' hb' _=>s5 b' hb') hw0 s6 s7 hkeep (by omega)
       refine⟨_,_,j,.inl ((hexec _ hrun).trans rfl),Rel.GC hMk hj hr q (fun b' hb' _=>s5 b' hb') hw0 s6 s7 hkeep (by omega),ext,?_,fun h=>absurd h hy,fun _ _ _ h => .inl h⟩
       have hsaf:∀p,p<(xs.length+ys.length)*i.size->nV j (M.set k (.tick i.size (xs.length+ys.length))) (oV w b (xs.length*i.size) (((List.range (ys.length*i.size)).map uy).toArray).toList) b p:=by
        intro p hp;refine⟨lt_of_block s6,fun id hid hj'=>?_,hr.uG k b (aF hMk) hj p⟩
        have:id=k:=hr.inj id k b (by simpa using hid) (aF hMk) hj' hj
        subst this;exact⟨i.size,_,dG (aF hMk),hp⟩
       have hjn:=fI.join hwx hwy hpos (ux:=ux) (uy:=uy) (fun i y k c h1 h2=>(fx2 i y k c h1 h2).mono ext.hU) (fun i y k c h1 h2=>(fy2 i y k c h1 h2).mono ext.hU) s6 (fun p hp=>by
        rw[hkeep p hp];have:=fx3 b ⟨_,_,hv⟩ p hp;simpa[World.cell?,hw0] using this) (fun p hp=>by
        rw[s9 p (by rw[iv]; exact hp)]
        simp[hp]) hsaf (cap:=cap) hfit
       exact .own (sz:=i.size) (n:=xs.length+ys.length) (dG (aF hMk)) (by simp) hjn fun _ => .inr ⟨b,cap,vs',t0,hj,rfl,s6,by omega,hfit⟩
      ·exact moved (by omega)
  ·cases h
 ·cases h
theorem KJ(hr:Rel j M w)(he:cy j M w bt a){c:Call}{y y':Operand}{z z':gQ}{t t' e e':TypeId}{i:TypeInfo}{zv:Value}(hop:o.op = .call c)(hb:c.callee = .builtin .append)(ha:c.args.toList=[y,y'])
  (hat:c.argTypes = #[t,t']) (hs:P.underlying t=some (.slice e)) (hs':P.underlying t'=some (.slice e')) (hi:P.info? e=some i) (hz:i.zero=some zv) (hzs:zv.cells.size=i.size) (hpos:0<i.size) (hb0:0<i.bytes) (hb1:i.bytes<=2 ^ 20)
  (hzy:ef y=some z) (hzy':ef y'=some z') (h:dZ C bt M (.append i.size i.bytes z z')=some x) (hna:∀id ver sz lo hi,z.ev bt ≠ .dk id ver sz lo hi):∃v w',qU P o a w v w'/\iJ j M w x v w':=by
 simp[dZ] at h;have r1:=cH he hzy;have r2:=cH he hzy';split at h
 ·rename_i tk xs tk' ys ez ez';obtain⟨⟨_,hwx,hwy⟩,_⟩:=di h;rw[ez] at r1;rw[ez'] at r2;have p2:=r2.dH;obtain⟨uy,fy1,fy2,_⟩:=Ec p2 hwy hpos;obtain⟨A,cap',_,_,_,_,hv',_⟩:=p2.dH;obtain⟨v,w',j',q1,q2,q3,q4,_⟩:=G6 hr hop hb ha hat hs hs' (fun k h=>by cases h) hi hz hzs hpos hb0 hb1 r1 (fun w'=>by rw[hv']; rfl) fy1 fy2 h
  exact⟨v,w',q1,j',q2,q3,q4⟩
 ·grind
 grind
end
section
variable {P:Program} {C:eO} {o:Oper} {bt:Env} {M:aL} {j:J} {w:World} {a:Act} {x:ag×aL}
def J7 {f:Field} {k:FK} (h:P4 P f=some k):f.name ≠ "_" /\ BE P f.type=some false/\(match k with | .b=>P.underlying f.type=some .bool | .i=>∃q,P.underlying f.type=some (.int q) | .s=>P.underlying f.type=some .string):=by
 unfold P4 at h;split at h
 ·cases h
 ·rename_i hn;refine⟨hn,?_⟩
  split at h<;>first
   |(cases h; rename_i hu; exact⟨by simp[BE,hu],by first|exact hu|exact⟨_,hu⟩⟩)
   |cases h
def J2{d:Nat}{f:Field}{k:FK}(hf:P4 P f=some k){y z:ag}{u v:Value}(hu:fY j M w y u)(hv:fY j M w z v){e:Bool}(h:il k y z=some e) :
  (Op.equalIn (d+1) f.type u v).run P w = .ok e w:=by
 have hk:=(J7 hf).2.2;unfold il at h;split at h
 ·rename_i k1 a k2 b;obtain⟨q,hq⟩:=hk;split at h
  ·rename_i he;subst he;cases h;rw[hu.fP,hv.fP];exact run_equalIn_int w d f.type _ _ a b hq
  ·cases h
 ·rename_i a b;cases h;rw[hu.jX,hv.jX,run_equalIn_string w d f.type _ _ hk,uK,uK]
 ·rename_i a b;cases h;rw[hu.jb,hv.jb];exact run_equalIn_bool' w d f.type a b hk
 ·cases h
def zg{d:Nat}{cs ds:List ag}{us vs:Array Value}(hc:RC j M w cs us)(hd:RC j M w ds vs):∀ {l:List Field} {k:Nat} {ks:List FK} {e:Bool},Be P k l=some ks->kO ks (cs.drop k) (ds.drop k)=some e ->
  (Op.eqFields (d+1) us vs l).run P w = .ok e w
 | [],k,ks,e,h1,h2=>by
  simp[Be] at h1; subst h1;unfold kO at h2;split at h2<;>simp_all [Op.eqFields]
 |f::r,k,ks,e,h1,h2=>by
  simp only[Be] at h1;split at h1
  ·rename_i hoff;obtain⟨q,hq,h1⟩:=ba h1;obtain⟨qs,hqs,h1⟩:=ba h1;cases h1
   have hk1:k<cs.length:=by
    rcases bH k cs.length with h|h
    ·exact h
    ·rw[iQ h] at h2; simp[kO] at h2
   have hk2:k<ds.length:=by
    rcases bH k ds.length with h|h
    ·exact h
    ·rw[iQ h] at h2;rw[cC hk1] at h2;simp[kO] at h2
   rw[cC hk1,cC hk2] at h2;simp only[kO] at h2;obtain⟨e1,he1,h2⟩:=bo h2;obtain⟨e2,he2,h2⟩:=bo h2;cases h2;have hlu:k<us.size:=by have:=hc.1; omega
   have hlv:k<vs.size:=by have:=hd.1; omega
   have hu:=bb hlu;have hv:=bb hlv;have ih:=zg (d:=d) hc hd hqs he2;obtain⟨hn,hag,_⟩:=J7 hq;have p1:(part f.type us f.offset).run P w = .ok us[k] w:=by simp[part,kR hag,hoff,hu]
   have p2:(part f.type vs f.offset).run P w = .ok vs[k] w:=by simp[part,kR hag,hoff,hv]
   have p3:=J2 (d:=d) hq (hc.2 k _ _ (aj hk1) hu) (hd.2 k _ _ (aj hk2) hv) he1;simp only[Op.eqFields,az hn,Sem.run_bind,p1,p2,p3,Result.andThen_ok];cases e1
   ·simp
   ·simpa using ih
  ·cases h1
def Lz:∀ {l:List Field} {k:Nat} {ks:List FK},Be P k l=some ks->∀f,f∈l->∃q,P4 P f=some q
 | [],_,_,_,f,hf=>by simp at hf
 |g::r,k,ks,h,f,hf=>by
  simp only[Be] at h;split at h
  ·obtain⟨q,hq,h⟩:=ba h;obtain⟨qs,hqs,h⟩:=ba h;rcases bc.1 hf with rfl|hf
   ·exact⟨q,hq⟩
   ·exact Lz hqs f hf
  ·cases h
def Tm(hr:Rel j M w)(he:cy j M w bt a){neg:Bool}{y y':Operand}{z z':gQ}{t t':TypeId}{fs:Array Field}{ks:List FK}(hop:o.op = .binOp (if neg then .neq else .eql) t y y' t')(ht:P.underlying t=some (.struct fs))
  (hst:P.stoodInHeld t=false) (hks:Be P 0 fs.toList=some ks) (hz:ef y=some z) (hz':ef y'=some z') (h:dZ C bt M (.XO ks neg z z')=some x):∃v w',qU P o a w v w'/\iJ j M w x v w':=by
 simp only[dZ] at h;have h1:=cH he hz;have h2:=cH he hz';split at h
 ·rename_i cs ds ez ez';obtain⟨e,hee,h⟩:=bo h;cases h;rw[ez] at h1;rw[ez'] at h2;obtain⟨us,hus,hul,huc⟩:=h1.mc;obtain⟨vs,hvs,hvl,hvc⟩:=h2.mc;have hfs:P.fieldsOf t=fs:=by simp[Program.fieldsOf,ht]
  have heq:(Op.equal t (.agg us) (.agg vs)).run P w = .ok e w:=by
   unfold Op.equal;rw[show Op.maxDepth=9999+1 from rfl,run_equalIn_struct w 9999 t us vs (by rw[hfs]; exact ht) hst,hfs]
   exact zg (d:=9998) ⟨hul,huc⟩ ⟨hvl,hvc⟩ hks (by simpa using hee)
  have hgt:P.eqGuardType P.depth t=false:=by
   unfold Program.depth;rw[show 2*(P.types.size+Made.depth)+2=(2*(P.types.size+Made.depth)+1)+1 from rfl,Program.eqGuardType,ht]
   simp only;rw[Array.any_eq_false];intro i hi;obtain⟨q,hq⟩:=Lz hks fs[i] (by simp)
   have:=(J7 hq).2.2;simp only[Program.eqGuardType];cases q<;>simp only at this
   ·obtain⟨_,hu⟩:=this; simp[hu]
   ·simp[this]
   ·simp[this]
  have hguard:∀op,(eqGuard op t y y' (.agg us) (.agg vs)).run P w = .ok () w:=by
   intro op;unfold eqGuard;cases op<;>simp[hgt]
  cases neg
  ·exact⟨.bool e,w,.inl (by simp[execOp,hop,hus,hvs,hguard,binOp,heq]),.still hr (.plain (.bool _))⟩
  ·exact⟨.bool (!e),w,.inl (by simp[execOp,hop,hus,hvs,hguard,binOp,heq]),.still hr (.plain (.bool _))⟩
 ·cases h
end
end
end
section
open Go Go.RowKit
variable [kg]
section
variable {j:J} {M:aL} {w w':World}
def AI(hr:Rel j M w):∀n,∃j',Rel j' (M++List.replicate n cD.vq) w/\Ext j M w j' (M++List.replicate n cD.vq) w
 |0=>⟨j,by simpa using hr,by simpa using Ext.refl j M w⟩
 |n+1=>by
  obtain⟨j',h1,h2⟩:=AI hr n;have q:Quiet w w:=⟨ar _,rfl,rfl,rfl⟩;refine⟨gy j' (M++List.replicate n cD.vq).length none,?_⟩;rw[nz,<-da];exact⟨h1.push (ob:=none) (bx := .vq) (fun b h=>by cases h) q (fun _ _=>rfl) (fun h=>by cases h) (fun sz n b h h'=>by cases h'),h2.trans (Ext.push (fun b h=>by cases h) q (fun _ _=>rfl))⟩
def Ext.fill{p b:Nat}{cs:List ag}(hM:M[p]?=some .vq)(hob:w.heap.size<=b)(q:Quiet w w')(hb:∀b,b<w.heap.size->w'.heap[b]?=w.heap[b]?) :
  Ext j M w (gy j p (some b)) (M.set p (.cells cs)) w' where
 len:=by simp
 size:=q.size
 os:=q.os
 tape:=q.tape
 output:=q.output
 X:=rfl
 fix:=fun i bx h hf=>by
  have e:p≠i:=by rintro rfl; rw[hM] at h; cases h; cases hf
  exact⟨by simp[gy,dD e],bx,by rw[cE e]; exact h,rfl⟩
 tick:=fun i sz n h=>by
  have e:p≠i:=by rintro rfl; rw[hM] at h; cases h
  exact⟨n,ar _,by rw[cE e]; exact h,fun _=>⟨by simp[gy,dD e],fun b vs t _ hv=>⟨vs,(hb b (lt_of_block hv)).trans hv,rfl⟩⟩⟩
 arr:=fun i sz v xs h=>by
  have e:p≠i:=by rintro rfl; rw[hM] at h; cases h
  exact .inr ⟨v,xs,by rw[cE e]; exact h,ar _,fun _=>⟨by simp[gy,dD e],rfl,fun b vs t _ hv=>⟨vs,(hb b (lt_of_block hv)).trans hv,rfl⟩⟩⟩
 tags:=fun b0 vs0 t0 fr0 h=>⟨vs0,fr0,(hb b0 (lt_of_block h)).trans h,rfl⟩
 hU:=fun b0 off h=>by
  refine⟨⟨bq h.1 q.size,fun id hid hj=>?_,h.3⟩,World.cell?_of_block (w:=w) (hb b0 h.1)⟩
  by_cases he:id=p
  ·have:b=b0:=by simpa[gy,he] using hj
   have:=h.1;omega
  ·rw[cE (dD he)];exact h.2 id (by simpa using hid) (by simpa[gy,he] using hj)
 ur:=fun b0 cu h=>by
  refine⟨hb b0 cu,fun i hi hj=>?_⟩
  by_cases he:i=p
  ·have:b=b0:=by simpa[gy,he] using hj
   omega
  ·exact h i (by simpa using hi) (by simpa[gy,he] using hj)
def Rel.fill(hr:Rel j M w){p b:Nat}{cs:List ag}(hM:M[p]?=some .vq)(hob:w.heap.size<=b)(hbl:b<w'.heap.size)(q:Quiet w w')(hb:∀b,b<w.heap.size->w'.heap[b]?=w.heap[b]?)
  (hbox:∀j' M',Ext j M w j' M' w'->Holds j' M' w' b (.cells cs)):Rel (gy j p (some b)) (M.set p (.cells cs)) w':=by
 have ext:Ext j M w (gy j p (some b)) (M.set p (.cells cs)) w':=Ext.fill hM hob q hb;have up:∀i,i≠p->gy j p (some b) i=j i:=fun i hi=>by simp[gy,hi]
 have hp:=aF hM;refine⟨fun i i' b0 hi hi' h h'=>?_,fun i b0 hi h=>?_,fun i bx' h hf=>?_,fun i sz n b0 h hj=>?_,fun i sz ver xs h=>?_,fun i b0 hi h off hx=>?_,fun b off h=>bq (hr.zK b off h) q.size⟩
 ·simp only[ei] at hi hi'
  by_cases e:i=p<;>by_cases e':i'=p
  ·omega
  ·have h1:b=b0:=by simpa[gy,e] using h
   rw[up i' e'] at h';have:=hr.lt i' b0 hi' h';omega
  ·have h1:b=b0:=by simpa[gy,e'] using h'
   rw[up i e] at h;have:=hr.lt i b0 hi h;omega
  ·rw[up i e] at h;rw[up i' e'] at h';exact hr.inj i i' b0 hi hi' h h'
 ·simp only[ei] at hi
  by_cases e:i=p
  ·have h1:b=b0:=by simpa[gy,e] using h
   omega
  ·rw[up i e] at h;exact bq (hr.lt i b0 hi h) q.size
 ·by_cases e:i=p
  ·subst e;rw[dG hp] at h;cases h;exact⟨b,by simp[gy],hbox _ _ ext⟩
  ·rw[cE (dD e)] at h;obtain⟨b0,h1,h2⟩:=hr.fix i bx' h hf;exact⟨b0,by rw[up i e]; exact h1,h2.mono ext (hb b0 (hr.lt i b0 (aF h) h1))⟩
 ·by_cases e:i=p
  ·subst e; rw[dG hp] at h; cases h
  ·rw[cE (dD e)] at h;rw[up i e] at hj;obtain⟨vs,t,h1⟩:=hr.tick i sz n b0 h hj;exact⟨vs,t,(hb b0 (lt_of_block h1)).trans h1⟩
 ·by_cases e:i=p
  ·subst e; rw[dG hp] at h; cases h
  ·rw[cE (dD e)] at h;exact pV hr ext h (up i e) fun b0 h1=>hb b0 (hr.lt i b0 (aF h) h1)
 ·simp only[ei] at hi
  by_cases e:i=p
  ·have h1:b=b0:=by simpa[gy,e] using h
   have h2:=hr.zK b0 off hx;omega
  ·rw[up i e] at h;exact hr.uG i b0 hi h off hx
def Ht(hr:Rel j M w){p:Nat}(hM:M[p]?=some .vq){cs:List ag}{vs:Array Value}(hc:RC j M w cs vs)(t:TypeId) :
  iJ j M w (.ptr p 0,M.set p (.cells cs)) (.pointer (some ⟨w.heap.size,0,none⟩)) { w with heap:=w.heap.push (.cells vs t (0,0)) }:=by
 have q:Quiet w { w with heap:=w.heap.push (.cells vs t (0,0)) }:=⟨by simp,rfl,rfl,rfl⟩
 have hb:∀b,b<w.heap.size->({ w with heap:=w.heap.push (.cells vs t (0,0)) }:World).heap[b]?=w.heap[b]?:=fun b hb=>by
  show(w.heap.push _)[b]?=_
  rw[fL,ak (by omega)]
 have hn:({ w with heap:=w.heap.push (.cells vs t (0,0)) }:World).heap[w.heap.size]?=some (.cells vs t (0,0)):=by simp
 have hp:=aF hM;exact⟨gy j p (some w.heap.size),hr.fill hM (ar _) (by simp) q hb (fun j' M' hx=>⟨vs,t,hn,hc.1,fun i c v h1 h2=>(hc.2 i c v h1 h2).mono hx⟩),Ext.fill hM (ar _) q hb,.ptr (by simpa using hp) ⟨cs,dG hp⟩ (by simp[gy])⟩
end
variable {P:Program} {own:List Nat} {o:Oper}
def MR{l:List ag}{t:TypeId}(hop:o.op = .alloc t)(h:M5 P own o=some (.sU l)):∃i zv,P.info? t=some i/\i.zero=some zv/\sR zv.cells.toList=some l:=by
 simp only[M5,hop] at h;obtain⟨i,hi,h⟩:=ba h;obtain⟨z,hz,h⟩:=ba h;obtain⟨l',hl,h⟩:=ba h;split at h
 ·split at h
  ·split at h
   ·obtain⟨n,hn,h⟩:=ba h;cases h
   ·cases h
  ·injection h with h; cases h; exact⟨i,z,hi,hz,hl⟩
 ·injection h with h; cases h; exact⟨i,z,hi,hz,hl⟩
def MS{l:List ag}{t0:TypeId}(hop:o.op = .alloc t0)(h:M5 P own o=some (.sU l))(a:Act)(w:World):∃vs t,(∀j M w',RC j M w' l vs)/\qU P o a w (.pointer (some ⟨w.heap.size,0,none⟩)) { w with heap:=w.heap.push (.cells vs t (0,0)) }:=by
 obtain⟨i,zv,hi,hz,hl⟩:=MR hop h;refine⟨zv.cells,t0,fun j M w'=>?_,.inl (by simp[execOp,hop,Instr.alloc,zeroValue,pC hi,hz,newVar,newRow])⟩
 obtain⟨h1,h2⟩:=pU (j:=j) (M:=M) (w:=w') hl;exact⟨by simpa using h1,fun i c v hc hv=>h2 i c v hc (by simpa using hv)⟩
end
section
open Go Go.RowKit
variable [kg]
theorem yD{x:Nat}:∀(l a:List Nat),x∈lV a l↔x∈a\/x∈l
 | [],a=>by simp[lV]
 |y::r,a=>by
  rw[lV,yD r]
  grind
theorem rl:∀(l a:List Nat),a.Nodup->(lV a l).Nodup
 | [],a,h=>h
 |y::r,a,h=>by
  refine rl r _ ?_
  grind
def IA(M:aL)(l:List Nat):(reach M l).Nodup:=rl _ _ (rl _ _ (rl _ _ (rl _ _ kK)))
def N5{M:aL}{l:List Nat}{x:Nat}(h:x∈l):x∈reach M l:=by
 simp_all [reach,lX,yD]
theorem EM{M:aL}{x i:Nat}{b:cD}:∀ {l:List Nat},i∈l->M[i]?=some b->x∈b.ids->x∈sQ M l
 | [],h,_,_=>by grind
 |k::r,h,hb,hx=>by
  rw[sQ,bT];rcases bc.1 h with rfl|h
  ·grind [eN]
  ·exact .inr (EM h hb hx)
theorem Nd{M:aL}{ids:List Nat}(h:lX M ids=ids){i x:Nat}{b:cD}(hi:i∈ids)(hb:M[i]?=some b)(hx:x∈b.ids):x∈ids:=by
 rw[<-h,lX,yD]
 grind [EM]
theorem tL:∀ {ids:List Nat} {x:Nat},x∈ids->ids[iH ids x]?=some x
 | [],_,h=>by grind
 |a::l,x,h=>by
  rw[iH];split
  ·grind
  ·rcases bc.1 h with rfl|h
   ·omega
   ·simpa using tL h
def uj{ids:List Nat}{x:Nat}(h:x∈ids):iH ids x<ids.length:=aF (tL h)
theorem BR:∀ {ids:List Nat} {i x:Nat},ids.Nodup->ids[i]?=some x->iH ids x=i
 | [],i,x,_,h=>by grind
 |a::l,i,x,hn,h=>by
  rw[iH];have hn':=gZ.1 hn;cases i with
  |zero=>grind
  |succ i =>
   have h':l[i]?=some x:=by grind
   rw[ak (by grind),BR hn'.2 h']
def Lk{ids:List Nat}{x:Nat}(h:x∈ids):xk ids (iH ids x)=x:=by rw[xk,eN,tL h]; rfl
def Z1{ids:List Nat}{i x:Nat}(h:ids[i]?=some x):xk ids i=x:=by rw[xk,eN,h]; rfl
theorem Dl{M:aL}{ρ:Nat->Nat}:∀ {l:List Nat} {B:aL},kh M ρ l=some B->B.length=l.length/\∀(i id:Nat),l[i]?=some id->∃b,M[id]?=some b/\b.flat=true/\B[i]?=some (b.ry ρ)
 | [],B,h=>by grind [kh]
 |k::r,B,h=>by
  simp[kh,eN] at h;split at h
  ·split at h
   ·obtain⟨l,hl,h⟩:=bo h;injection h with h; obtain⟨h1,h2⟩:=Dl hl
    grind
   grind
  grind
theorem vN{ids:List Nat}:∀ {l:List Nat} {B M:aL},l.Nodup->l.length=B.length->(mF ids M l B).length=M.length/\(∀i,i∉l->(mF ids M l B)[i]?=M[i]?) /\
  ∀(i id:Nat)(b:cD),l[i]?=some id->id<M.length->B[i]?=some b->(mF ids M l B)[id]?=some (b.ry (xk ids))
 | [],B,M,_,_=>by simp[mF]
 |k::r,[],M,_,hl=>by simp at hl
 |k::r,b::B,M,hn,hl=>by
  rw[mF,fQ];have hn':=gZ.1 hn;obtain⟨h1,h2,h3⟩:=vN (ids:=ids) (B:=B) (M:=M.set k (b.ry (xk ids))) hn'.2 (by grind)
  grind
def Mx(ρ:Nat->Nat)(b:cD):(b.ry ρ).tag=b.tag:=by cases b<;>rfl
def xF{ρ:Nat->Nat}{b:cD}(h:b.loose=true):b.ry ρ=b:=by cases b<;>first|rfl|cases h
structure Sub(j:J)(M:aL)(w:World)(ids:List Nat)(B:aL):Prop where
 nodup:ids.Nodup
 len:B.length=ids.length
 box:∀(i id:Nat),ids[i]?=some id->∃b,M[id]?=some b/\b.flat=true/\B[i]?=some (b.ry (iH ids))
 closed:∀(i:Nat)(b:cD),i∈ids->M[i]?=some b->∀x,x∈b.ids->x∈ids
def down(j:J)(M:aL)(ids:List Nat):J:=⟨fun i=>match ids[i]? with|some id=>j id|none=>none,fun b off=>j.X b off\/∃id,id<M.length/\id∉ids/\j id=some b/\¬ ∃sz n,M[id]?=some (.tick sz n)/\off<n*sz⟩
section
variable {j:J} {M B:aL} {w:World} {ids:List Nat}
theorem Sub.at_(s:Sub j M w ids B){id:Nat}(h:id∈ids){b:cD}(hb:M[id]?=some b):B[iH ids id]?=some (b.ry (iH ids)):=by
 obtain⟨b',h1,_,h2⟩:=s.box _ _ (tL h)
 grind
theorem Sub.inv(s:Sub j M w ids B){i:Nat}{c:cD}(h:B[i]?=some c):∃id b,ids[i]?=some id/\M[id]?=some b/\b.flat=true/\c=b.ry (iH ids):=by
 have hi:i<ids.length:=by rw[<-s.len]; grind
 obtain⟨b,h1,h2,h3⟩:=s.box i _ (aj hi)
 grind
theorem mq{id:Nat}(h:id∈ids):(down j M ids) (iH ids id)=j id:=by grind [down,tL]
theorem rb{i b:Nat}(h:(down j M ids) i=some b):∃id,ids[i]?=some id/\j id=some b:=by
 grind [down]
def Sub.hU(s:Sub j M w ids B){b off:Nat}(h:nV j M w b off):nV (down j M ids) B w b off:=by
 refine⟨h.lt,fun i hi hj=>?_,fun hx=>?_⟩
 ·obtain⟨id,h1,h2⟩:=rb hj;obtain⟨bx,h3,_,h4⟩:=s.box i _ h1;obtain⟨sz,n,h5,h6⟩:=h.ids _ (aF h3) h2;rw[h3] at h5; cases h5;exact⟨sz,n,h4,h6⟩
 ·rcases hx with hx|⟨id,h1,_,h2,h3⟩
  ·exact h.nx hx
  ·exact h3 (h.ids _ h1 h2)
theorem Sub.T1(s:Sub j M w ids B){x:ag}{v:Value}(h:fY j M w x v)(hf:x.Ed=true)(hi:∀i,i∈x.ia->i∈ids):fY (down j M ids) B w (x.tZ (iH ids)) v:=by
 cases h with
 |plain h =>
  have:x.tZ (iH ids)=x:=by cases h<;>rfl
  rw[this];exact .plain (h.mono fun b off hs=>⟨s.hU hs,rfl⟩)
 |c0 A=>exact .c0 A
 | @own k xs v sz n hk hn hp ht =>
  have hki:k∈ids:=hi k (by simp[ag.ia])
  refine .own (sz:=sz) (n:=n) (s.at_ hki hk) hn (hp.mono fun b off hs=>⟨s.hU hs,rfl⟩) fun he=>?_
  rcases ht he with ⟨g1,g2,g3⟩|⟨b,cap,vs,t,g1,g2,g3,g4,g5⟩
  ·exact .inl ⟨by rw[mq hki]; omega,g2,g3⟩
  ·exact .inr ⟨b,cap,vs,t,by rw[mq hki]; exact g1,g2,g3,g4,g5⟩
 |agg=>cases hf
 |tuple=>cases hf
 | @ptr id off b hid hc hj =>
  have hki:id∈ids:=hi id (by simp[ag.ia])
  obtain⟨cs,hc⟩:=hc;exact .ptr (by rw[s.len]; exact uj hki) ⟨_,s.at_ hki hc⟩ (by rw[mq hki]; omega)
 |jg h=>exact .jg fun k c hk=>⟨(h k c hk).1,s.hU (h k c hk).2.1,(h k c hk).2.2.mono fun b off hs=>⟨s.hU hs,rfl⟩⟩
 |func=>cases hf
 | @gH id b hc hj =>
  have hki:id∈ids:=hi id (by simp[ag.ia])
  obtain⟨ks,vs,hc⟩:=hc;exact .gH ⟨_,_,s.at_ hki hc⟩ (by rw[mq hki]; exact hj)
 | @jA id b hc hj =>
  have hki:id∈ids:=hi id (by simp[ag.ia])
  obtain⟨ks,vs,hc⟩:=hc;exact .jA ⟨_,_,s.at_ hki hc⟩ (by rw[mq hki]; omega)
 | @jO t id off b hc hj =>
  have hki:id∈ids:=hi id (by simp[ag.ia])
  obtain⟨cs,hc⟩:=hc;exact .jO ⟨_,s.at_ hki hc⟩ (by rw[mq hki]; exact hj)
 |sb hl hd=>exact .sb hl fun i c v h1 h2=>(hd i c v h1 h2).mono fun b off hs=>⟨s.hU hs,rfl⟩
 | @iG ks vs b es cl hb hfr hx hw hk hv hks hvs =>
  refine .iG hb (fun i _ he=>?_) (fun off hx'=>?_) hw hk hv (fun i k e h1 h2=>(hks i k e h1 h2).mono fun b off hs=>⟨s.hU hs,rfl⟩) (fun i k e h1 h2=>(hvs i k e h1 h2).mono fun b off hs=>⟨s.hU hs,rfl⟩)
  ·obtain⟨id,h1,h2⟩:=rb he;obtain⟨bx,h3,_⟩:=s.box _ _ h1
   grind
  ·rcases hx' with hx'|⟨id,h1,_,h2,_⟩
   ·exact hx off hx'
   grind
 | @dk id ver sz0 lo hi v h0 hid hM hv =>
  have hki:id∈ids:=hi id (by simp[ag.ia])
  have hb:=aj hid;have hat:=s.at_ hki hb;rw[xF (hM _ hb)] at hat;refine .dk h0 (by rw[s.len]; exact uj hki) (fun bx hbx=>?_) fun sz v' xs h=>?_
  ·rw[hat] at hbx; exact hM bx (hb.trans hbx)
  ·rw[hat] at h;obtain⟨k1,k2⟩:=hv sz v' xs (hb.trans h)
   exact⟨k1,fun he=>by
    obtain⟨l0,l1,l2,⟨l3,l4,l5⟩|⟨b,cap,vs,t,l3,r⟩⟩:=k2 he
    ·exact⟨l0,l1,l2,.inl ⟨l3,by rw[mq hki]; omega,l5⟩⟩
    exact⟨l0,l1,l2,.inr ⟨b,cap,vs,t,by rw[mq hki]; omega,r⟩⟩⟩
 | @iu id ver i off v h0 hid hM hv =>
  have hki:id∈ids:=hi id (by simp[ag.ia])
  have hb:=aj hid;have hat:=s.at_ hki hb;rw[xF (hM _ hb)] at hat;refine .iu h0 (by rw[s.len]; exact uj hki) (fun bx hbx=>?_) fun sz v' xs h=>?_
  ·rw[hat] at hbx; exact hM bx (hb.trans hbx)
  grind [mq]
 |any v=>exact .any v
theorem Sub.KW(s:Sub j M w ids B){x:ag}{v:Value}(h:fY j M w x v)(hf:x.vT=true)(hi:∀i,i∈x.mQ->i∈ids):fY (down j M ids) B w (x.td (iH ids)) v:=by
 by_cases hfn:∃f caps,x = .func f caps
 ·obtain⟨f,caps,rfl⟩:=hfn;obtain⟨vs,rfl,hl,hc⟩:=h.sn;refine .func (by grind) fun i c u hci hu=>?_
  rw[aZ,aO] at hci;obtain⟨c0,hc0,rfl⟩:=hci;have hm:=aR hc0;exact s.T1 (hc i _ u hc0 hu) (bw.1 hf _ hm) fun q hq=>hi q (ic.2 ⟨c0,hm,hq⟩)
 ·have e1:x.td (iH ids)=x.tZ (iH ids):=by cases x<;>first|rfl|grind
  have e2:x.mQ=x.ia:=by cases x<;>first|rfl|grind
  have e3:x.Ed=true:=by cases x<;>first|rfl|exact absurd ⟨_,_,rfl⟩ hfn|cases hf
  rw[e1];exact s.T1 h e3 (by rw[<-e2]; omega)
theorem Sub.rep(s:Sub j M w ids B){x:ag}{v:Value}(h:fY j M w x v)(hf:x.flat=true)(hi:∀i,i∈x.ids->i∈ids):fY (down j M ids) B w (x.ry (iH ids)) v:=by
 by_cases hag:∃cs,x = .agg cs
 ·obtain⟨cs,rfl⟩:=hag;obtain⟨vs,rfl,hl,hc⟩:=h.mc;refine .agg (by grind) fun i c u hci hu=>?_
  rw[aZ,aO] at hci;obtain⟨c0,hc0,rfl⟩:=hci;have hm:=aR hc0;exact s.KW (hc i _ u hc0 hu) (bw.1 hf _ hm) fun q hq=>hi q (ic.2 ⟨c0,hm,hq⟩)
 ·have e1:x.ry (iH ids)=x.td (iH ids):=by cases x<;>first|rfl|grind
  have e2:x.ids=x.mQ:=by cases x<;>first|rfl|grind
  have e3:x.vT=true:=by cases x<;>first|exact hf|grind
  rw[e1];exact s.KW h e3 (by rw[<-e2]; omega)
theorem Sub.rel(s:Sub j M w ids B)(hr:Rel j M w):Rel (down j M ids) B w:=by
 have O0:∀ {i id:Nat},ids[i]?=some id->id<M.length:=fun h=>by
  obtain⟨b,h1,_⟩:=s.box _ _ h
  grind
 refine⟨fun i i' b hi hi' h h'=>?_,fun i b hi h=>?_,fun i cb h hf=>?_,fun i sz n b h hj=>?_,fun i sz ver xs h=>?_,fun i b hi h off hx=>?_,fun b off h=>?_⟩
 ·obtain⟨id,h1,h2⟩:=rb h;obtain⟨id',h1',h2'⟩:=rb h';have:=hr.inj id id' b (O0 h1) (O0 h1') h2 h2';subst this;rw[<-BR s.nodup h1,BR s.nodup h1']
 ·obtain⟨id,h1,h2⟩:=rb h;exact hr.lt id b (O0 h1) h2
 ·obtain⟨id,bx,h1,h2,h3,h4⟩:=s.inv h;subst h4;have hfx:bx.fixed=true:=by cases bx<;>first|rfl|cases hf
  obtain⟨b,g1,g2⟩:=hr.fix id bx h2 hfx;refine⟨b,by grind [down],?_⟩
  have hcl:∀p,p∈bx.ids->p∈ids:=s.closed id _ (aR h1) h2;cases bx with
  |tick sz n=>cases hf
  |cells cs0 =>
   obtain⟨vs,t,k1,k2,k3⟩:=g2;refine⟨vs,t,k1,by simpa using k2,fun q c v hc hv=>?_⟩
   rw[aZ,aO] at hc;obtain⟨c0,hc0,rfl⟩:=hc;have hm:=aR hc0;exact s.KW (k3 q c0 v hc0 hv) (bw.1 h3 c0 hm) fun p hp=>hcl p (ic.2 ⟨c0,hm,hp⟩)
  |map ks vs =>
   obtain⟨es,cl,k1,k2,k3,k4,k5⟩:=g2;refine⟨es,cl,k1,k2,by simpa using k3,fun q c e hc he=>(k4 q c e hc he).mono fun b off hs=>⟨s.hU hs,rfl⟩,fun q c e hc he=>?_⟩
   rw[aZ,aO] at hc;obtain⟨c0,hc0,rfl⟩:=hc;have hm:=aR hc0;exact s.rep (k5 q c0 e hc0 he) (bw.1 h3 c0 hm) fun p hp=>hcl p (ic.2 ⟨c0,hm,hp⟩)
  |nG st pos=>exact g2
  |vq=>cases hf
  |arr=>cases hf
 ·obtain⟨id,bx,h1,h2,h3,h4⟩:=s.inv h;obtain⟨id',h1',h2'⟩:=rb hj;rw[h1] at h1'; cases h1';cases bx<;>first|cases h4|skip
  exact hr.tick id _ _ b h2 h2'
 ·obtain⟨id,bx,h1,h2,h3,h4⟩:=s.inv h;cases bx<;>first|cases h4|skip
  obtain⟨g0,g1⟩|⟨b,vs,t,g1,g2,g3,g4,g5⟩:=hr.arr id _ _ _ h2
  ·grind [down]
  exact .inr ⟨b,vs,t,by grind [down],g2,g3,g4,fun q x k c hx hk=>(g5 q x k c hx hk).imp fun u hu=>⟨hu.1,hu.2.mono fun b off hs=>⟨s.hU hs,rfl⟩⟩⟩
 ·obtain⟨id,h1,h2⟩:=rb h;rcases hx with hx|⟨id',g1,g2,g3,_⟩
  ·exact hr.uG id b (O0 h1) h2 off hx
  ·have:=hr.inj id id' b (O0 h1) g1 h2 g3
   grind
 ·rcases h with h|⟨id,g1,_,g3,_⟩
  ·exact hr.zK b off h
  ·exact hr.lt id b g1 g3
variable {j2:J} {B':aL} {w':World}
open Classical in
noncomputable def OH(j j2:J)(ids:List Nat):J:=⟨fun id=>if id∈ids then j2 (iH ids id) else j id,j.X⟩
theorem k7{id:Nat}(h:id∈ids):(OH j j2 ids) id=j2 (iH ids id):=by grind [OH]
theorem oB{id:Nat}(h:id∉ids):(OH j j2 ids) id=j id:=by grind [OH]
structure wq(j:J)(M B:aL)(w:World)(ids:List Nat)(j2:J)(B':aL)(w':World):Prop where
 sub:Sub j M w ids B
 hr:Rel j M w
 ext:Ext (down j M ids) B w j2 B' w'
 rel:Rel j2 B' w'
 len:B'.length=B.length
 flat:∀b,b∈B'->b.flat=true
variable (bk:wq j M B w ids j2 B' w')
include bk
theorem wq.O0{i id:Nat}(h:ids[i]?=some id):id<M.length:=by
 obtain⟨b,h1,_⟩:=bk.sub.box _ _ h
 grind
def wq.Kf{id:Nat}(h:id∈ids){b:cD}(hb:B'[iH ids id]?=some b):(mF ids M ids B')[id]?=some (b.ry (xk ids)) :=
 (vN bk.sub.nodup (by rw[bk.len,bk.sub.len])).2.2 _ _ b (tL h) (bk.O0 (tL h)) hb
def wq.KM{id:Nat}(h:id∉ids):(mF ids M ids B')[id]?=M[id]?:=(vN bk.sub.nodup (by rw[bk.len,bk.sub.len])).2.1 _ h
def wq.r9:(mF ids M ids B').length=M.length:=(vN bk.sub.nodup (by rw[bk.len,bk.sub.len])).1
def wq.some_{id:Nat}(h:id∈ids):∃b,B'[iH ids id]?=some b/\b.flat=true:=by
 have hi:iH ids id<B'.length:=by rw[bk.len,bk.sub.len]; exact uj h
 exact⟨_,aj hi,bk.flat _ (jL _)⟩
theorem wq.ur{id b:Nat}(hid:id<M.length)(h:id∉ids)(hj:j id=some b):w'.heap[b]?=w.heap[b]?/\∀i,i<B'.length->j2 i≠some b:=by
 refine bk.ext.ur b (bk.hr.lt _ b hid hj) fun i hi he=>?_
 obtain⟨id',h1,h2⟩:=rb he;have:=bk.hr.inj _ _ b hid (bk.O0 h1) hj h2
 grind
def wq.hU{b off:Nat}(h:nV j2 B' w' b off):nV (OH j j2 ids) (mF ids M ids B') w' b off:=by
 have hX:=bk.ext.X;have hnx:=h.nx;rw[hX] at hnx;refine⟨h.lt,fun id hid hj=>?_,fun hx=>hnx (.inl hx)⟩
 rw[bk.r9] at hid
 by_cases hi:id∈ids
 ·rw[k7 hi] at hj;obtain⟨sz,n,h1,h2⟩:=h.ids _ (by rw[bk.len,bk.sub.len]; exact uj hi) hj
  exact⟨sz,n,bk.Kf hi h1,h2⟩
 ·rw[oB hi] at hj;rw[bk.KM hi];exact Classical.byContradiction fun hc=>hnx (.inr ⟨id,hid,hi,hj,hc⟩)
def wq.Vr:Ext j M w (OH j j2 ids) (mF ids M ids B') w' where
 len:=by rw[bk.r9]; exact ar _
 size:=bk.ext.size
 os:=bk.ext.os
 tape:=bk.ext.tape
 output:=bk.ext.output
 X:=rfl
 fix:=fun id bx h hf=>by
  by_cases hi:id∈ids
  ·obtain⟨g1,bx',g2,g3⟩:=bk.ext.fix _ _ (bk.sub.at_ hi h) (by cases bx<;>first|rfl|cases hf)
   rw[k7 hi,g1,mq hi];refine⟨rfl,_,bk.Kf hi g2,?_⟩;rw[Mx,g3,Mx]
  ·rw[oB hi,bk.KM hi]; exact⟨rfl,bx,h,rfl⟩
 tick:=fun id sz n h=>by
  by_cases hi:id∈ids
  ·obtain⟨n',g1,g2,g3⟩:=bk.ext.tick _ _ _ (bk.sub.at_ hi h);refine⟨n',g1,bk.Kf hi g2,fun he=>?_⟩
   obtain⟨k1,k2⟩:=g3 he;rw[k7 hi,k1,mq hi];exact⟨rfl,fun b vs t hb hv=>k2 b vs t (by rw[mq hi]; exact hb) hv⟩
  ·rw[oB hi,bk.KM hi];exact⟨n,ar _,h,fun _=>⟨rfl,fun b vs t hb hv=>⟨vs,(bk.ur (aF h) hi hb).1.trans hv,rfl⟩⟩⟩
 arr:=fun id sz v xs h=>by
  by_cases hi:id∈ids
  ·rcases bk.ext.arr _ _ _ _ (bk.sub.at_ hi h) with ⟨n',g⟩|⟨v',xs',g2,g3,g4⟩
   ·exact .inl ⟨n',bk.Kf hi g⟩
   ·refine .inr ⟨v',xs',bk.Kf hi g2,g3,fun he=>?_⟩
    obtain⟨k1,k2,k3⟩:=g4 he;rw[k7 hi,k1,mq hi];exact⟨rfl,k2,fun b vs t hb hv=>k3 b _ t (by rw[mq hi]; exact hb) hv⟩
  ·rw[oB hi,bk.KM hi];exact .inr ⟨v,xs,h,ar _,fun _=>⟨rfl,rfl,fun b vs t hb hv=>⟨vs,(bk.ur (aF h) hi hb).1.trans hv,rfl⟩⟩⟩
 tags:=bk.ext.tags
 hU:=fun b off h=>by
  obtain⟨h1,h2⟩:=bk.ext.hU b _ (bk.sub.hU h);exact⟨bk.hU h1,h2⟩
 ur:=fun b hb h=>by
  have h1:∀i,i<B.length->(down j M _) i≠some b:=fun i _ he=>by
   obtain⟨id,g1,g2⟩:=rb he;exact h id (bk.O0 g1) g2
  obtain⟨h2,h3⟩:=bk.ext.ur b hb h1;refine⟨h2,fun id hid he=>?_⟩
  rw[bk.r9] at hid
  by_cases hi:id∈ids
  ·rw[k7 hi] at he;exact h3 _ (by rw[bk.len,bk.sub.len]; exact uj hi) he
  ·rw[oB hi] at he;exact h id hid he
def wq.Ch{i:Nat}(h:i<B'.length):∃id,ids[i]?=some id/\id∈ids/\xk ids i=id/\iH ids id=i:=by
 have hi:i<ids.length:=by rw[<-bk.sub.len,<-bk.len]; omega
 have hg:=aj hi;exact⟨_,hg,aR hg,Z1 hg,BR bk.sub.nodup hg⟩
theorem wq.T1{x:ag}{v:Value}(h:fY j2 B' w' x v)(hf:x.Ed=true):fY (OH j j2 ids) (mF ids M ids B') w' (x.tZ (xk ids)) v:=by
 cases h with
 |plain h =>
  have:x.tZ (xk ids)=x:=by cases h<;>rfl
  rw[this];exact .plain (h.mono fun b off hs=>⟨bk.hU hs,rfl⟩)
 |c0 A=>exact .c0 A
 | @own k xs v sz n hk hn hp ht =>
  obtain⟨id,g1,g2,g3,g4⟩:=bk.Ch (aF hk);simp only[ag.tZ,g3];refine .own (sz:=sz) (n:=n) (bk.Kf g2 (b := .tick sz n) (by rw[g4]; exact hk)) hn (hp.mono fun b off hs=>⟨bk.hU hs,rfl⟩) fun he=>?_
  rcases ht he with ⟨e1,e2,e3⟩|⟨b,cap,vs,t,e1,e2,e3,e4,e5⟩
  ·exact .inl ⟨by rw[k7 g2,g4]; omega,e2,e3⟩
  ·exact .inr ⟨b,cap,vs,t,by rw[k7 g2,g4]; grind,e2,e3,e4,e5⟩
 | @jO t k off b hc hj =>
  obtain⟨cs,hc⟩:=hc;obtain⟨id,g1,g2,g3,g4⟩:=bk.Ch (aF hc);simp only[ag.tZ,g3];exact .jO ⟨_,bk.Kf g2 (b := .cells cs) (by rw[g4]; omega)⟩ (by rw[k7 g2,g4]; omega)
 |agg=>cases hf
 |tuple=>cases hf
 | @ptr k off b hid hc hj =>
  obtain⟨id,g1,g2,g3,g4⟩:=bk.Ch hid;obtain⟨cs,hc⟩:=hc;simp only[ag.tZ,g3];exact .ptr (by rw[bk.r9]; exact bk.O0 g1) ⟨_,bk.Kf g2 (b := .cells cs) (by rw[g4]; exact hc)⟩ (by rw[k7 g2,g4]; omega)
 |jg h=>exact .jg fun k c hk=>⟨(h k c hk).1,bk.hU (h k c hk).2.1,(h k c hk).2.2.mono fun b off hs=>⟨bk.hU hs,rfl⟩⟩
 |func=>cases hf
 | @gH k b hc hj =>
  obtain⟨ks,vs,hc⟩:=hc;obtain⟨id,g1,g2,g3,g4⟩:=bk.Ch (aF hc);simp only[ag.tZ,g3];exact .gH ⟨_,_,bk.Kf g2 (b := .map ks vs) (by rw[g4]; omega)⟩ (by rw[k7 g2,g4]; omega)
 | @jA k b hc hj =>
  obtain⟨st,p,hc⟩:=hc;obtain⟨id,g1,g2,g3,g4⟩:=bk.Ch (aF hc);simp only[ag.tZ,g3];exact .jA ⟨_,_,bk.Kf g2 (b := .nG st p) (by rw[g4]; exact hc)⟩ (by rw[k7 g2,g4]; exact hj)
 |sb hl hd=>exact .sb hl fun i c v h1 h2=>(hd i c v h1 h2).mono fun b off hs=>⟨bk.hU hs,rfl⟩
 | @iG ks vs b es cl hb hfr hx hw hk hv hks hvs =>
  rw[bk.ext.X] at hx;refine .iG hb (fun id hid he=>?_) (fun off hx'=>hx off (.inl hx')) hw hk hv (fun i k e h1 h2=>(hks i k e h1 h2).mono fun b off hs=>⟨bk.hU hs,rfl⟩) (fun i k e h1 h2=>(hvs i k e h1 h2).mono fun b off hs=>⟨bk.hU hs,rfl⟩)
  rw[bk.r9] at hid
  by_cases m:id∈ids
  ·rw[k7 m] at he;exact hfr _ (by rw[bk.len,bk.sub.len]; exact uj m) he
  ·rw[oB m] at he
   by_cases ht:∃sz n,M[id]?=some (.tick sz n)
   ·obtain⟨sz,n,ht⟩:=ht;refine hx (n*sz) (.inr ⟨id,hid,m,he,?_⟩)
    grind
   ·exact hx 0 (.inr ⟨id,hid,m,he,fun⟨sz,n,h1,_⟩=>ht ⟨sz,n,h1⟩⟩)
 | @dk k ver sz0 lo hi v h0 hid hM hv =>
  obtain⟨id,g1,g2,g3,g4⟩:=bk.Ch hid;have hb:=aj hid;have hin:=bk.Kf g2 (b:=B'[k]) (by rw[g4]; exact hb)
  rw[xF (hM _ hb)] at hin;simp only[ag.tZ,g3];refine .dk h0 (by rw[bk.r9]; exact bk.O0 g1) (fun bx hbx=>?_) fun sz v' xs h=>?_
  ·rw[hin] at hbx; exact hM bx (hb.trans hbx)
  ·rw[hin] at h;obtain⟨k1,k2⟩:=hv sz v' xs (hb.trans h)
   exact⟨k1,fun he=>by
    obtain⟨l0,l1,l2,⟨l3,l4,l5⟩|⟨b,cap,vs,t,l3,r⟩⟩:=k2 he
    ·exact⟨l0,l1,l2,.inl ⟨l3,by rw[k7 g2,g4]; exact l4,l5⟩⟩
    exact⟨l0,l1,l2,.inr ⟨b,cap,vs,t,by rw[k7 g2,g4]; exact l3,r⟩⟩⟩
 | @iu k ver i off v h0 hid hM hv =>
  obtain⟨id,g1,g2,g3,g4⟩:=bk.Ch hid;have hb:=aj hid;have hin:=bk.Kf g2 (b:=B'[k]) (by rw[g4]; exact hb)
  rw[xF (hM _ hb)] at hin;simp only[ag.tZ,g3];refine .iu h0 (by rw[bk.r9]; exact bk.O0 g1) (fun bx hbx=>?_) fun sz v' xs h=>?_
  ·rw[hin] at hbx; exact hM bx (hb.trans hbx)
  grind [k7]
 |any v=>exact .any v
theorem wq.KW{x:ag}{v:Value}(h:fY j2 B' w' x v)(hf:x.vT=true):fY (OH j j2 ids) (mF ids M ids B') w' (x.td (xk ids)) v:=by
 by_cases hfn:∃f caps,x = .func f caps
 ·obtain⟨f,caps,rfl⟩:=hfn;obtain⟨vs,rfl,hl,hc⟩:=h.sn;refine .func (by grind) fun i c u hci hu=>?_
  rw[aZ,aO] at hci;obtain⟨c0,hc0,rfl⟩:=hci;exact bk.T1 (hc i _ u hc0 hu) (bw.1 hf _ (aR hc0))
 ·have e1:x.td (xk ids)=x.tZ (xk ids):=by cases x<;>first|rfl|grind
  have e3:x.Ed=true:=by cases x<;>first|rfl|exact absurd ⟨_,_,rfl⟩ hfn|cases hf
  rw[e1];exact bk.T1 h e3
theorem wq.rep{x:ag}{v:Value}(h:fY j2 B' w' x v)(hf:x.flat=true):fY (OH j j2 ids) (mF ids M ids B') w' (x.ry (xk ids)) v:=by
 by_cases hag:∃cs,x = .agg cs
 ·obtain⟨cs,rfl⟩:=hag;obtain⟨vs,rfl,hl,hc⟩:=h.mc;refine .agg (by grind) fun i c u hci hu=>?_
  rw[aZ,aO] at hci;obtain⟨c0,hc0,rfl⟩:=hci;exact bk.KW (hc i _ u hc0 hu) (bw.1 hf _ (aR hc0))
 ·have e1:x.ry (xk ids)=x.td (xk ids):=by cases x<;>first|rfl|grind
  have e3:x.vT=true:=by cases x<;>first|exact hf|grind
  rw[e1];exact bk.KW h e3
theorem wq.amq{x:ag}{v:Value}(h:fY j2 B' w' x v)(hf:x.wJ=true):fY (OH j j2 ids) (mF ids M ids B') w' (x.BI (xk ids)) v:=by
 by_cases ht:∃vs,x = .tuple vs
 ·obtain⟨cs,rfl⟩:=ht;obtain⟨vs,rfl,hl,hc⟩:=h.tx;refine .tuple (by grind) fun i c u hci hu=>?_
  rw[aZ,aO] at hci;obtain⟨c0,hc0,rfl⟩:=hci;exact bk.rep (hc i _ u hc0 hu) (bw.1 hf _ (aR hc0))
 ·have e1:x.BI (xk ids)=x.ry (xk ids):=by cases x<;>first|rfl|grind
  have e3:x.flat=true:=by cases x<;>first|exact hf|grind
  rw[e1];exact bk.rep h e3
theorem wq.ah6:Rel (OH j j2 ids) (mF ids M ids B') w':=by
 have ltin:∀ {id:Nat},id∈ids->iH ids id<B'.length:=fun h=>by rw[bk.len,bk.sub.len]; exact uj h
 refine⟨fun id id' b hi hi' h h'=>?_,fun id b hi h=>?_,fun id cb h hf=>?_,fun id sz n b h hj=>?_,fun id sz ver xs h=>?_,fun id b hi h off hx=>?_,fun b off h=>bq (bk.hr.zK b off h) bk.ext.size⟩
 ·rw[bk.r9] at hi hi'
  by_cases m:id∈ids<;>by_cases m':id'∈ids
  ·rw[k7 m] at h;rw[k7 m'] at h';have:=bk.rel.inj _ _ b (ltin m) (ltin m') h h';rw[<-Lk m,this,Lk m']
  ·rw[k7 m] at h;rw[oB m'] at h';exact absurd h ((bk.ur hi' m' h').2 _ (ltin m))
  ·rw[oB m] at h;rw[k7 m'] at h';exact absurd h' ((bk.ur hi m h).2 _ (ltin m'))
  ·rw[oB m] at h;rw[oB m'] at h';exact bk.hr.inj id id' b hi hi' h h'
 ·rw[bk.r9] at hi
  by_cases m:id∈ids
  ·rw[k7 m] at h; exact bk.rel.lt _ b (ltin m) h
  ·rw[oB m] at h; exact bq (bk.hr.lt id b hi h) bk.ext.size
 ·by_cases m:id∈ids
  ·obtain⟨bx,h1,h2⟩:=bk.some_ m;rw[bk.Kf m h1] at h;injection h with h
   subst h;have hfx:bx.fixed=true:=by cases bx<;>first|rfl|cases hf
   obtain⟨b,g1,g2⟩:=bk.rel.fix _ bx h1 hfx;refine⟨b,by rw[k7 m]; omega,?_⟩
   cases bx with
   |tick sz n=>cases hf
   |cells cs0 =>
    obtain⟨vs,t,k1,k2,k3⟩:=g2;refine⟨vs,t,k1,by grind,fun q c v hc hv=>?_⟩
    rw[aZ,aO] at hc;obtain⟨c0,hc0,rfl⟩:=hc;exact bk.KW (k3 q c0 v hc0 hv) (bw.1 h2 c0 (aR hc0))
   |map ks vs =>
    obtain⟨es,cl,k1,k2,k3,k4,k5⟩:=g2;refine⟨es,cl,k1,k2,by grind,fun q c e hc he=>(k4 q c e hc he).mono fun b off hs=>⟨bk.hU hs,rfl⟩,fun q c e hc he=>?_⟩
    rw[aZ,aO] at hc;obtain⟨c0,hc0,rfl⟩:=hc;exact bk.rep (k5 q c0 e hc0 he) (bw.1 h2 c0 (aR hc0))
   |nG st pos=>exact g2
   |vq=>cases hf
   |arr=>cases hf
  ·rw[bk.KM m] at h;obtain⟨b,g1,g2⟩:=bk.hr.fix id cb h hf;exact⟨b,by rw[oB m]; omega,g2.mono bk.Vr (bk.ur (aF h) m g1).1⟩
 ·by_cases m:id∈ids
  ·obtain⟨bx,h1,h2⟩:=bk.some_ m;rw[bk.Kf m h1] at h;injection h with h
   rw[k7 m] at hj;cases bx<;>first|cases h|skip
   exact bk.rel.tick _ _ _ b h1 hj
  ·rw[bk.KM m] at h;rw[oB m] at hj;obtain⟨vs,t,g⟩:=bk.hr.tick id sz n b h hj;exact⟨vs,t,(bk.ur (aF h) m hj).1.trans g⟩
 ·by_cases m:id∈ids
  ·obtain⟨bx,h1,h2⟩:=bk.some_ m;rw[bk.Kf m h1] at h;injection h with h
   cases bx<;>first|cases h|skip
   obtain⟨g0,g1⟩|⟨b,vs,t,g1,g2,g3,g4,g5⟩:=bk.rel.arr _ _ _ _ h1
   ·grind [k7]
   exact .inr ⟨b,vs,t,by rw[k7 m]; omega,g2,g3,g4,fun q x k c hx hk=>(g5 q x k c hx hk).imp fun u hu=>⟨hu.1,hu.2.mono fun b off hs=>⟨bk.hU hs,rfl⟩⟩⟩
  ·rw[bk.KM m] at h;exact pV bk.hr bk.Vr h (oB m) fun b hb=>(bk.ur (aF h) m hb).1
 ·rw[bk.r9] at hi
  by_cases m:id∈ids
  ·rw[k7 m] at h;have:=bk.rel.uG _ b (ltin m) h off;rw[bk.ext.X] at this;exact this (.inl hx)
  ·rw[oB m] at h;exact bk.hr.uG id b hi h off hx
end
theorem E7{ρ:Nat->Nat}{x:ag}(h:x.ia=[]):x.tZ ρ=x:=by
 cases x with
 |slice tk xs=>cases tk<;>first|rfl|grind [ag.ia]
 |ptr=>grind [ag.ia]
 |gH=>grind [ag.ia]
 |jA=>grind [ag.ia]
 |dk=>grind [ag.ia]
 |iu=>grind [ag.ia]
 |jO=>grind [ag.ia]
 |_=>rfl
def Iq{ρ:Nat->Nat}:∀ {l:List ag},l.flatMap ag.ia=[]->l.map (ag.tZ ρ)=l
 | [],_=>rfl
 |c::r,h=>by
  rw[List.flatMap_cons,List.append_eq_nil_iff] at h;rw[aW,E7 h.1,Iq h.2]
theorem Fa{ρ:Nat->Nat}{x:ag}(h:x.mQ=[]):x.td ρ=x:=by
 by_cases hf:∃f caps,x = .func f caps
 ·obtain⟨f,caps,rfl⟩:=hf;exact congrArg _ (Iq h)
 ·have e1:x.td ρ=x.tZ ρ:=by cases x<;>first|rfl|grind
  have e2:x.mQ=x.ia:=by cases x<;>first|rfl|grind
  grind [E7]
def Ir{ρ:Nat->Nat}:∀ {l:List ag},l.flatMap ag.mQ=[]->l.map (ag.td ρ)=l
 | [],_=>rfl
 |c::r,h=>by
  rw[List.flatMap_cons,List.append_eq_nil_iff] at h;rw[aW,Fa h.1,Ir h.2]
theorem T0{ρ:Nat->Nat}{x:ag}(_:x.flat=true)(h:x.ids=[]):x.ry ρ=x:=by
 by_cases hf:∃cs,x = .agg cs
 ·obtain⟨cs,rfl⟩:=hf;exact congrArg _ (Ir h)
 ·have e1:x.ry ρ=x.td ρ:=by cases x<;>first|rfl|grind
  have e2:x.ids=x.mQ:=by cases x<;>first|rfl|grind
  grind [Fa]
theorem qX{P:Program}{C:eO}(hC:pj P C){j:J}{M:aL}{w:World}{f:Nat}{vs:List ag}{us:Array Value}{x:ag×aL}(hr:Rel j M w)(hG:sE j M w)(h:aM C f vs M=some x)
  (hl:vs.length=us.size) (hv:∀(i:Nat)(c:ag)(u:Value),vs[i]?=some c->us[i]?=some u->fY j M w c u) :
  kN P f=true/\Calls P f us w fun e w'=>vr j M w x e w':=by
 unfold aM at h;generalize hids:reach M (vs.flatMap ag.ids)=ids at h;split at h
 ·rename_i hf;obtain⟨B,hB,h⟩:=bo h;split at h
  ·rename_i hcl;obtain⟨y,hy,h⟩:=bo h;split at h
   ·rename_i hcond;obtain⟨c1,c2,c3⟩:=hcond;cases h;obtain⟨h1,h2⟩:=hC _ _ _ _ hy;obtain⟨p1,p2⟩:=Dl hB;have s:Sub j M w ids B:=⟨by rw[<-hids]; simp[IA],p1,p2,fun i b hi hb x hx=>Nd hcl hi hb hx⟩
    refine⟨h1,(h2 (down j M ids) w us (s.rel hr) (hG.hU fun b off h=>s.hU h) (by grind) fun i c u hc hu=>?_).mono ?_⟩
    ·rw[aZ,aO] at hc;obtain⟨c0,hc0,rfl⟩:=hc;have hm:=aR hc0;exact s.rep (hv i c0 u hc0 hu) (bw.1 hf c0 hm) fun q hq=>by rw[<-hids]; exact N5 (ic.2 ⟨c0,hm,hq⟩)
    ·rintro e w' (⟨v,rfl,j2,g1,g2,g3⟩|⟨u,rfl,hu,j2,g1,g2⟩)
     ·have bk:wq j M B w ids j2 y.2 w':=⟨s,hr,g2,g1,c1,fun b hb=>bw.1 c3 b hb⟩
      exact .inl ⟨v,rfl,OH j j2 ids,bk.ah6,bk.Vr,bk.amq g3 c2⟩
     ·have bk:wq j M B w ids j2 y.2 w':=⟨s,hr,g2,g1,c1,fun b hb=>bw.1 c3 b hb⟩
      exact .inr ⟨u,rfl,by rw[hu]; rfl,OH j j2 ids,bk.ah6,bk.Vr⟩
   grind
  grind
 grind
theorem T3{j j2:J}{G:aL}{w w':World}{p sz n:Nat}{xs:List ag}{v:Value}(hr:Rel j G w)(hp:G[p]?=some .vq)(h2:Rel j2 [.tick sz n] w')(hx:Ext (down j G []) [] w j2 [.tick sz n] w')
  (hv:fY j2 [.tick sz n] w' (.slice (.own 0) xs) v):iJ j G w (.slice (.own p) xs,G.set p (.tick sz n)) v w':=by
 have hpl:=aF hp
 have hold:∀b,b<w.heap.size->w'.heap[b]?=w.heap[b]?/\j2 0≠some b:=fun b hb=>by
  obtain⟨h1,h3⟩:=hx.ur b hb (fun i hi=>by simp at hi)
  exact⟨h1,h3 0 (by simp)⟩
 have up:∀i,i≠p->gy j p (j2 0) i=j i:=fun i hi=>by simp[gy,hi]
 have atp:gy j p (j2 0) p=j2 0:=by simp[gy]
 have nX:∀ {b off},nV j2 [.tick sz n] w' b off->¬j.X b off/\∀id,id<G.length->j id=some b->∃sz n,G[id]?=some (.tick sz n)/\off<n*sz:=fun {b off} hs=>by
  have:=hs.nx;rw[hx.X] at this;refine⟨fun h=>this (.inl h),fun id hid hj=>?_⟩
  by_cases hc:∃sz n,G[id]?=some (.tick sz n)/\off<n*sz
  ·exact hc
  ·exact absurd (Or.inr ⟨id,hid,by simp,hj,hc⟩) this
 have hU:∀b off,nV j2 [.tick sz n] w' b off->nV (gy j p (j2 0)) (G.set p (.tick sz n)) w' b off:=fun b off hs=>by
  obtain⟨n1,n2⟩:=nX hs;refine⟨hs.lt,fun id hid hj=>?_,n1⟩
  by_cases e:id=p
  ·subst e;rw[atp] at hj;obtain⟨s1,m1,h3,h4⟩:=hs.ids 0 (by simp) hj
   grind
  grind
 have q:Quiet w w':=⟨hx.size,hx.os,hx.tape,hx.output⟩
 have ext:Ext j G w (gy j p (j2 0)) (G.set p (.tick sz n)) w':={
  len:=by simp
  size:=q.size
  os:=q.os
  tape:=q.tape
  output:=q.output
  X:=rfl
  fix:=fun i bx h hf=>by
   have e:i≠p:=by rintro rfl; rw[hp] at h; cases h; cases hf
   grind
  tick:=fun i sz n h=>by
   grind
  arr:=fun i sz v xs h=>by
   grind
  tags:=fun b0 vs0 t0 fr0 h=>⟨vs0,fr0,(hold b0 (lt_of_block h)).1.trans h,rfl⟩
  hU:=fun b0 off h=>by
   refine⟨⟨bq h.1 q.size,fun id hid hj=>?_,h.3⟩,World.cell?_of_block (w:=w) (hold b0 h.1).1⟩
   by_cases e:id=p
   ·subst e; rw[atp] at hj; exact absurd hj (hold b0 h.1).2
   ·rw[cE (dD e)];rw[up id e] at hj;exact h.2 id (by simpa using hid) hj
  ur:=fun b0 cu h=>by
   grind }
 refine⟨gy j p (j2 0),⟨fun i i' b0 hi hi' h h'=>?_,fun i b0 hi h=>?_,fun i bx' h hf=>?_,fun i sz0 n0 b0 h hj=>?_,fun i sz0 ver ys h=>?_,fun i b0 hi h off hxx=>?_,fun b off h=>bq (hr.zK b off h) q.size⟩,ext,?_⟩
 ·simp only[ei] at hi hi'
  by_cases e:i=p<;>by_cases e':i'=p
  ·omega
  ·subst e;rw[atp] at h; rw[up i' e'] at h';exact absurd h (hold b0 (hr.lt i' b0 hi' h')).2
  ·subst e';rw[atp] at h'; rw[up i e] at h;exact absurd h' (hold b0 (hr.lt i b0 hi h)).2
  ·rw[up i e] at h; rw[up i' e'] at h';exact hr.inj i i' b0 hi hi' h h'
 ·simp only[ei] at hi
  by_cases e:i=p
  ·subst e; rw[atp] at h; exact h2.lt 0 b0 (by simp) h
  ·rw[up i e] at h;exact bq (hr.lt i b0 hi h) q.size
 ·by_cases e:i=p
  ·subst e;rw[dG hpl] at h;cases h; cases hf
  ·rw[cE (dD e)] at h;obtain⟨b0,h1,h3⟩:=hr.fix i bx' h hf;exact⟨b0,by rw[up i e]; exact h1,h3.mono ext (hold b0 (hr.lt i b0 (aF h) h1)).1⟩
 ·by_cases e:i=p
  ·subst e; rw[atp] at hj;exact h2.tick 0 sz n b0 rfl hj
  ·rw[cE (dD e)] at h;rw[up i e] at hj;obtain⟨vs,t,h1⟩:=hr.tick i sz0 n0 b0 h hj;exact⟨vs,t,(hold b0 (lt_of_block h1)).1.trans h1⟩
 ·by_cases e:i=p
  ·subst e; rw[dG hpl] at h; cases h
  ·rw[cE (dD e)] at h;exact pV hr ext h (up i e) fun b0 h1=>(hold b0 (hr.lt i b0 (aF h) h1)).1
 ·simp only[ei] at hi
  by_cases e:i=p
  ·subst e; rw[atp] at h;exact absurd h (hold b0 (hr.zK b0 off hxx)).2
  ·rw[up i e] at h;exact hr.uG i b0 hi h off hxx
 ·cases hv with
  |plain h=>cases h
  |own hk hn h ht =>
   simp at hk;obtain⟨rfl,rfl⟩:=hk;refine .own (dG hpl) hn (h.mono fun b off hs=>⟨hU b off hs,rfl⟩) fun he=>?_
   rcases ht he with ⟨h1,h3,h4⟩|⟨b,cap,vs,t,h1,h3,h4,h5,h6⟩
   ·exact .inl ⟨by rw[atp]; exact h1,h3,h4⟩
   ·exact .inr ⟨b,cap,vs,t,by rw[atp]; exact h1,h3,h4,h5,h6⟩
theorem Ow{P:Program}{C:eO}(hC:pj P C){j:J}{G:aL}{w:World}{f p:Nat}{vs:List ag}{us:Array Value}{xs:List ag}{sz n:Nat}(hr:Rel j G w)(hG:sE j G w)(hp:G[p]?=some .vq)(hf:vs.all ag.flat=true)(hi:vs.flatMap ag.ids=[])
  (h:C f vs []=some (.slice (.own 0) xs,[.tick sz n])) (hl:vs.length=us.size) (hv:∀(i:Nat)(c:ag)(u:Value),vs[i]?=some c->us[i]?=some u->fY j G w c u) :
  kN P f=true/\Calls P f us w fun e w'=>∃v,e = .returned v/\iJ j G w (.slice (.own p) xs,G.set p (.tick sz n)) v w':=by
 obtain⟨h1,h2⟩:=hC _ _ _ _ h;have s:Sub j G w _ []:=⟨kK,rfl,fun i id h=>by simp_all,fun i b hi=>by grind⟩
 refine⟨h1,(h2 _ w _ (s.rel hr) (hG.hU fun b off h=>s.hU h) hl fun i c u hc hu=>?_).mono ?_⟩
 ·have hm:=aR hc
  have:=s.rep (hv i c u hc hu) (bw.1 hf c hm) fun q hq=>by
   have hci  := jH.1 hi c hm;rw[hci] at hq; omega
  rwa[T0 (bw.1 hf c hm) (jH.1 hi c hm)] at this
 ·rintro e w' (⟨v,rfl,j2,g1,g2,g3⟩|⟨u,rfl,hu,_⟩)
  ·exact⟨v,rfl,T3 hr hp g1 g2 g3⟩
  grind
section
variable {P:Program} {C:eO} {o:Oper} {bt:Env} {M:aL} {j:J} {w:World} {a:Act} {x:ag×aL}
theorem A8:∀ {xs:List ag} {l:List UInt8},bytesOf xs=some l->l.length=xs.length/\∀(i:Nat)(x:ag),xs[i]?=some x->∃n,x = .int .u8 n/\l[i]?=some (UInt8.ofNat n.toNat)
 | [],l,h=>by grind [bytesOf]
 |y::r,l,h=>by
  unfold bytesOf at h;split at h
  ·grind
  ·rename_i n r' e;injection e with e1 e2; subst e2
   obtain⟨l',h1,h⟩:=bo h;injection h with h; obtain⟨g1,g2⟩:=A8 h1
   grind
  grind
theorem E2(g:Value->ByteArray->Sem (ForInStep ByteArray))(hg:∀n s,g (.int .u8 n) s=pure (ForInStep.yield (s.push (UInt8.ofNat n.toNat)))):∀(vs:List Value)(l:List UInt8)(s:ByteArray),vs.length=l.length->(∀(i:Nat)(v:Value)(b:UInt8),vs[i]?=some v->l[i]?=some b->∃n,v = .int .u8 n/\b=UInt8.ofNat n.toNat) ->
  (forIn vs s g).run P w = .ok ⟨s.data++l.toArray⟩ w
 | [],[],s,_,_=>by rfl
 |v::vs,b::l,s,hl,h=>by
  obtain⟨n,rfl,rfl⟩:=h 0 v b rfl rfl;have:=E2 g hg vs l (s.push (UInt8.ofNat n.toNat)) (by grind) fun i v b hv hb=>h (i+1) v b (by grind) (by grind)
  simp_all
 | [],_::_,_,hl,_=>by grind
 |_::_,[],_,hl,_=>by grind
theorem ac5(hr:Rel j M w)(he:cy j M w bt a){s d e:TypeId}{y:Operand}{z:gQ}(hop:o.op = .convert s d y)(hs:P.underlying s=some (.slice e))(hd:P.underlying d=some .string)(hu:P.underlying e=some (.int .u8))
  (hz:ef y=some z) (h:dZ C bt M (.b2s z)=some x):∃v w',qU P o a w v w'/\iJ j M w x v w':=by
 simp only[dZ] at h;have h1:=cH he hz;split at h
 ·rename_i tk xs ev;obtain⟨l,hl,h⟩:=bo h;cases h;rw[ev] at h1;obtain⟨g1,g2⟩:=A8 hl;refine⟨.string (bs l),w,.inl ?_,.still hr (.plain (.str _))⟩;obtain⟨A,cap,b,off,sz,vs,hv,hc,ha,hwid,hcell,hrep⟩:=h1.dH.dH
  have hrun:(Conv.bytesToString (a.eval y)).run P w = .ok (.string (bs l)) w:=by
   rw[hv];cases A with
   |none =>
    have:xs=[]:=by
     grind
    subst this;have:l=[]:=cp g1;subst this;rfl
   |some A =>
    have hload:∃us:Array Value,(loadCells A xs.length).run P w = .ok us w/\us.size=l.length/\∀(i:Nat)(v:Value)(b:UInt8),us[i]?=some v->l[i]?=some b->∃n,v = .int .u8 n/\b=UInt8.ofNat n.toNat:=by
     by_cases hx:xs=[]
     ·subst hx;have:l=[]:=cp g1;subst this;exact⟨#[],by rfl,rfl,fun i v b h=>by simp at h⟩
     ·have hA:=ha hx;cases hA
      have hsz:sz=1:=by
       cases xs with
       |nil=>grind
       |cons c r =>
        obtain⟨n,rfl,_⟩:=g2 0 c rfl;exact(hwid (.int .u8 n) (by simp)).symm
      subst hsz
      have cellOf:∀i,i<xs.length->∃n,w.cell? ⟨b,off+i,none⟩=some (vs i)/\vs i = .int .u8 n/\l[i]?=some (UInt8.ofNat n.toNat):=by
       intro i hi;have hxi:xs[i]?=some xs[i]:=aj hi;obtain⟨n,hn,hb⟩:=g2 i _ hxi;have q1:=hcell i _ 0 (.int .u8 n) hxi (by rw[hn]; rfl)
       have q2:=hrep i _ 0 (.int .u8 n) hxi (by rw[hn]; rfl)
       simp only[Nat.mul_one,cV] at q1 q2;exact⟨n,q1.1,(fY.plain (j:=j) (M:=M) q2).fP,hb⟩
      refine⟨_,oJ (P:=P) (w:=w) b off xs.length vs (fun k hk=>(cellOf k hk).choose_spec.1),by simp[g1],fun i v c hi hb=>?_⟩
      grind
    obtain⟨us,u1,u2,u3⟩:=hload;simp only[Conv.bytesToString,Sem.run_bind,u1,Result.andThen_ok];rw[<-Array.forIn_toList];refine(congrArg (fun r=>Result.andThen r _) (E2 (P:=P) (w:=w) _ ?_ us.toList l ByteArray.empty (by omega) fun i v b hv hb=>u3 i v b (by simpa using hv) hb)).trans ?_
    ·simp
    simp[bs]
  simp only[execOp,hop,convert,Sem.run_bind,dA hs,dA hd,Result.andThen_ok];rw[hv] at hrun ⊢;cases A<;>simp[dA hu,hrun]
 ·cases h
theorem CB{fk:FK}{k k':ag}{b:Bool}(h:il fk k k'=some b) :
  (∃t x y,k = .int t x/\k' = .int t y/\fk = .i/\b=(x==y))\/(∃x y,k = .str x/\k' = .str y/\fk = .s/\b=(x==y))\/∃x y,k = .bool x/\k' = .bool y/\fk = .b/\b=(x==y):=by
 unfold il at h
 grind
def FK.is:FK->TypeDesc->Prop
 | .i,.int _=>True
 | .s,.string=>True
 | .b,.bool=>True
 |_,_=>False
theorem Ew{t:TypeId}{fk:FK}(h:CY P t=some fk):∃d,P.underlying t=some d/\fk.is d:=by
 unfold CY at h
 split at h<;>first
  |(rename_i hd; cases h; exact⟨_,hd,trivial⟩)
  |grind
theorem IP{fk:FK}{d:TypeDesc}(hd:fk.is d){k k':ag}{b:Bool}(h:il fk k k'=some b){hU:Nat->Nat->Prop}{v v':Value}(hv:fY j M w k v)(hv':fI w hU k' v') :
  Instr.sameNow d v v'=some b/\(b=true->Instr.sameBits 10000 v' v=true)/\fI w (nV j M w) k v:=by
 rcases CB h with ⟨t,x,y,rfl,rfl,rfl,rfl⟩|⟨x,y,rfl,rfl,rfl,rfl⟩|⟨x,y,rfl,rfl,rfl,rfl⟩
 ·have e1:=hv.fP; subst e1; cases hv';cases d<;>first|exact False.elim hd|skip
  exact⟨by simp[Instr.sameNow],fun h=>by grind [Instr.sameBits],.int _ _⟩
 ·have e1:=hv.jX; subst e1; cases hv';cases d<;>first|exact False.elim hd|skip
  have this:∀x y,(bs x==bs y)=(x==y):=fun x y=>by
   show(x.toArray==y.toArray)=(x==y)
   simp
  exact⟨by simp_all [Instr.sameNow],fun h=>by grind [Instr.sameBits],.str _⟩
 ·have e1:=hv.jb; subst e1; cases hv';cases d<;>first|exact False.elim hd|skip
  exact⟨by simp[Instr.sameNow],fun h=>by grind [Instr.sameBits],.bool _⟩
def NV{fk:FK}{k:ag}{b:Bool}(h:il fk k k=some b){v:Value}(hv:fY j M w k v):fI w (nV j M w) k v:=by
 rcases CB h with ⟨t,x,y,rfl,_⟩|⟨x,y,rfl,_⟩|⟨x,y,rfl,_⟩
 ·have:=hv.fP; subst this; exact .int _ _
 ·have:=hv.jX; subst this; exact .str _
 ·have:=hv.jb; subst this; exact .bool _
def D3{fk:FK}{d:TypeDesc}(hd:fk.is d){t:TypeId}(ht:P.underlying t=some d)(e:Bool)(v:Value):(Instr.checkKey e 10000 t v).run P w = .ok () w:=by
 rw[Instr.checkKey.eq_def];simp only[Sem.run_bind,dA ht];cases fk<;>cases d<;>first|exact False.elim hd|(cases v<;>rfl)
theorem Hv{fk:FK}{d:TypeDesc}(hd:fk.is d){k:ag}{v:Value}(hv:fY j M w k v){hU:Nat->Nat->Prop}:∀ {ks vs:List ag} {es:List MapEntry} {r:Option ag} (n:Nat),uD fk k ks vs=some r ->
  ks.length=es.length->vs.length=es.length->(∀(i:Nat)(k:ag)(e:MapEntry),ks[i]?=some k->es[i]?=some e->fI w hU k e.key) ->
  (r=none/\Instr.findNow d v es n=some none)\/∃i u e,r=some u/\vs[i]?=some u/\es[i]?=some e/\Instr.findNow d v es n=some (some (n+i,e.val))
 | [],[],[],r,n,h,_,_,_=>by simp[uD] at h; exact .inl ⟨h.symm,rfl⟩
 |k'::ks,u::vs,e::es,r,n,h,h1,h2,h3=>by
  obtain⟨b,hb,h⟩:=bo h;obtain⟨s1,_⟩:=IP hd hb hv (h3 0 k' e rfl rfl);rcases kQ h with ⟨rfl,h⟩|⟨rfl,h⟩
  ·injection h with h
   exact .inr ⟨0,u,e,h.symm,rfl,rfl,by grind [Instr.findNow]⟩
  ·have hf:Instr.findNow d v (e::es) n=Instr.findNow d v es (n+1):=by rw[Instr.findNow,s1]
   rcases Hv hd hv (n+1) h (by simpa using h1) (by simpa using h2) (fun i k e hk he=>h3 (i+1) k e (by grind) (by grind)) with ⟨g1,g2⟩|⟨i,u',e',g1,g2,g3,g4⟩
   ·grind
   ·exact .inr ⟨i+1,u',e',g1,by grind,by grind,by grind⟩
 | [],_::_,[],_,_,_,_,h2,_=>by simp at h2
 |_::_,[],_::_,_,_,_,_,h2,_=>by simp at h2
 | [],_,_::_,_,_,_,h1,_,_=>by simp at h1
 |_::_,_,[],_,_,_,h1,_,_=>by simp at h1
theorem Hw{fk:FK}{d:TypeDesc}(hd:fk.is d){k y:ag}{v:Value}(hv:fY j M w k v){hU:Nat->Nat->Prop}:∀ {ks vs:List ag} {es:List MapEntry} {r:List ag×List ag} (n:Nat),sM fk k y ks vs=some r ->
  ks.length=es.length->vs.length=es.length->(∀(i:Nat)(k:ag)(e:MapEntry),ks[i]?=some k->es[i]?=some e->fI w hU k e.key) ->
  fI w (nV j M w) k v/\((r=(ks++[k],vs++[y])/\Instr.findNow d v es n=some none)\/∃i e,r=(ks.set i k,vs.set i y)/\es[i]?=some e/\Instr.sameBits 10000 e.key v=true/\Instr.findNow d v es n=some (some (n+i,e.val)))
 | [],[],[],r,n,h,_,_,_=>by
  obtain⟨b,hb,h⟩:=bo h;injection h with h
  exact⟨NV hb hv,.inl ⟨h.symm,rfl⟩⟩
 |k'::ks,u::vs,e::es,r,n,h,h1,h2,h3=>by
  obtain⟨b,hb,h⟩:=bo h;obtain⟨s1,s2,s3⟩:=IP hd hb hv (h3 0 k' e rfl rfl);refine⟨s3,?_⟩;rcases kQ h with ⟨rfl,h⟩|⟨rfl,h⟩
  ·injection h with h
   exact .inr ⟨0,e,h.symm,rfl,s2 rfl,by grind [Instr.findNow]⟩
  ·obtain⟨r',h',h⟩:=bo h;cases h;have hf:Instr.findNow d v (e::es) n=Instr.findNow d v es (n+1):=by rw[Instr.findNow,s1]
   rcases(Hw hd hv (n+1) h' (by simpa using h1) (by simpa using h2) (fun i k e hk he=>h3 (i+1) k e (by grind) (by grind))).2 with ⟨g1,g2⟩|⟨i,e',g1,g2,g3,g4⟩
   ·grind
   ·exact .inr ⟨i+1,e',by rw[g1]; rfl,by grind,g3,by rw[hf,g4]; grind⟩
 | [],_::_,[],_,_,_,_,h2,_=>by grind
 |_::_,[],_::_,_,_,_,_,h2,_=>by grind
 | [],_,_::_,_,_,_,h1,_,_=>by simp at h1
 |_::_,_,[],_,_,_,h1,_,_=>by grind
def BC.rep{x:ag}{v:Value}(h:BC w (nV j M w) x v):fY j M w x v:=by
 by_cases hag:∃cs,x = .agg cs
 ·obtain⟨cs,rfl⟩:=hag;obtain⟨us,rfl,h2,h3⟩:=h;exact .agg h2 fun i c u hc hu => .plain (h3 i c u hc hu)
 ·cases x<;>first|exact absurd ⟨_,rfl⟩ hag|exact .plain h
theorem EG(hr:Rel j M w){m:ag}{v:Value}{e:List ag×List ag}(h:mapOf M m=some e)(hm:fY j M w m v):∃(b:Nat) (es:Array MapEntry) (clock:Nat),v = .map (some b)/\w.heap[b]?=some (.map es clock) /\
  e.1.length=es.size/\e.2.length=es.size/\(∀(i:Nat)(k:ag)(e':MapEntry),e.1[i]?=some k->es[i]?=some e'->fI w (nV j M w) k e'.key)/\∀(i:Nat)(k:ag)(e':MapEntry),e.2[i]?=some k->es[i]?=some e'->fY j M w k e'.val:=by
 unfold mapOf at h;split at h
 ·split at h
  ·rename_i ks vs hM;injection h with h; rw[eN] at hM
   obtain⟨b,_,hj,rfl⟩:=hm.u9;obtain⟨b',hj',es,clock,g1,g2,g3,g4,g5⟩:=hr.fix _ _ hM rfl
   grind
  grind
 ·cases h;cases hm with
  |plain h=>cases h
  |iG hb hf hx hw hk hv hks hvs=>exact⟨_,_,_,rfl,hw,hk,hv,hks,fun i k e h1 h2=>(hvs i k e h1 h2).rep⟩
 ·cases h
theorem Ij{zero:ag}{ok:Bool}{r:Option ag}{v:Value}(h:fY j M w (r.getD zero) v):fY j M w (mC zero ok r) (if ok then .tuple #[v,.bool r.isSome] else v):=by
 cases ok with
 |false=>exact h
 |true =>
  refine .tuple rfl fun i c u hc hu=>?_
  match i with
  |0=>grind
  |1=>simp at hc hu; subst hc; subst hu; exact .plain (.bool _)
  |n+2=>simp_all
def WX(hr:Rel j M w)(he:cy j M w bt a){t kt et:TypeId}{m k:Operand}{m' k':gQ}{ok:Bool}{fk:FK}{ie:TypeInfo}{zv:Value}{z:ag}(hop:o.op = .lookup t m k ok)(ht:P.underlying t=some (.map kt et))
  (hk:CY P kt=some fk) (hi:P.info? et=some ie) (hz:ie.zero=some zv) (hzv:Pj zv=some z) (hm':ef m=some m') (hk':ef k=some k') (h:dZ C bt M (.look fk z ok m' k')=some x) :
  ∃v w',qU P o a w v w'/\iJ j M w x v w':=by
 simp only[dZ] at h;obtain⟨e,h1,h⟩:=bo h;obtain⟨r,h2,h⟩:=bo h;cases h;obtain⟨d,hd,hfk⟩:=Ew hk;obtain⟨b,es,clock,hv,hb,g1,g2,g3,g4⟩:=EG hr h1 (cH he hm');have hc:∀q,(Instr.checkKey q 10000 kt (a.eval k)).run P w = .ok () w:=fun q=>D3 hfk hd q _
 rcases Hv hfk (cH he hk') (es:=es.toList) 0 h2 (by simpa using g1) (by simpa using g2) (fun i k e hk he=>g3 i k e hk (by simpa using he)) with ⟨rfl,f1⟩|⟨i,u,e',rfl,f2,f3,f1⟩
 ·refine⟨if ok then .tuple #[zv,.bool false] else zv,w,.inl ?_,.still hr (Ij (r:=none) (GX hzv))⟩
  simp[execOp,hop,Instr.lookup,dA ht,hv,MapKept.run_getObj_map hb,hc,Instr.findKey,dA hd,f1,zeroValue,pC hi,hz]
 ·refine⟨if ok then .tuple #[e'.val,.bool true] else e'.val,w,.inl ?_,.still hr (Ij (r:=some u) (g4 i u e' f2 (by simpa using f3)))⟩
  simp[execOp,hop,Instr.lookup,dA ht,hv,MapKept.run_getObj_map hb,hc,Instr.findKey,dA hd,f1]
def WU(hr:Rel j M w)(he:cy j M w bt a){c:Call}{y:Operand}{z:gQ}{t k e:TypeId}(hop:o.op = .call c)(hb:c.callee = .builtin .len)(ha:c.args.toList=[y])
  (ht:c.argTypes[0]?=some t) (hs:P.underlying t=some (.map k e)) (hz:ef y=some z) (h:dZ C bt M (.N0 z)=some x):∃v w',qU P o a w v w'/\iJ j M w x v w':=by
 simp only[dZ] at h;obtain⟨e,h1,h⟩:=bo h;cases h;obtain⟨b,es,clock,hv,hbl,g1,g2,g3,g4⟩:=EG hr h1 (cH he hz);have ha':c.args = #[y]:=by rw[<-ha]
 refine⟨.int .i64 e.1.length,w,.inl ?_,.still hr (.plain (.int _ _))⟩;simp[execOp,hop,resolve,hb,invoke,builtin,Builtin.len_,ha',ht,dA hs,hv,MapKept.run_getObj_map hbl,goInt,g1]
def Mh(hr:Rel j M w){bx:cD}{ob:Obj}(hfx:bx.fixed=true)(hh:∀j' M' (w':World),w'.heap[w.heap.size]?=some ob->Holds j' M' w' w.heap.size bx) :
  ∃j':J,Rel j' (M++[bx]) { w with heap:=w.heap.push ob }/\Ext j M w j' (M++[bx]) { w with heap:=w.heap.push ob }/\j' M.length=some w.heap.size:=by
 have q:Quiet w { w with heap:=w.heap.push ob }:=⟨by simp,rfl,rfl,rfl⟩
 have hb:∀b,b<w.heap.size->({ w with heap:=w.heap.push ob }:World).heap[b]?=w.heap[b]?:=fun b hb=>by
  show(w.heap.push _)[b]?=_
  rw[fL,ak (by omega)]
 have hn:({ w with heap:=w.heap.push ob }:World).heap[w.heap.size]?=some ob:=by simp
 refine⟨gy j M.length (some w.heap.size),hr.push (fun b h=>?_) q hb (fun _=>?_) (fun sz n b h=>by rw[h] at hfx; cases hfx) (fun sz v xs h=>by rw[h] at hfx; cases hfx),Ext.push (fun b h=>?_) q hb,by simp[gy]⟩
 ·cases h; simp
 ·exact⟨_,rfl,fun j' M' hx=>hh j' M' _ hn⟩
 ·injection h with h; omega
def Tw(hr:Rel j M w){t:TypeId}(hop:o.op = .makeMap t none)(h:dZ C bt M .mkMap=some x):∃v w',qU P o a w v w'/\iJ j M w x v w':=by
 simp only[dZ] at h;cases h;obtain⟨j',h1,h2,h3⟩:=Mh (ob := .map #[] 0) (bx := .map [] []) hr rfl fun j' M' w' hw=>⟨#[],0,hw,rfl,rfl,fun i k e h=>by simp at h,fun i k e h=>by simp at h⟩
 exact⟨.map (some w.heap.size),_,.inl (by simp[execOp,hop,Instr.makeMap]),j',h1,h2,.gH ⟨[],[],by simp⟩ h3⟩
def W0(hr:Rel j M w)(he:cy j M w bt a){t:TypeId}{y:Operand}{z:gQ}(hop:o.op = .range t y)(ht:P.underlying t=some .string)(hz:ef y=some z)(h:dZ C bt M (.Ox z)=some x):∃v w',qU P o a w v w'/\iJ j M w x v w':=by
 simp only[dZ] at h;have h0:=cH he hz;split at h
 ·rename_i s e;rw[e] at h0;cases h;obtain⟨j',h1,h2,h3⟩:=Mh (ob := .stringIter (bs s) 0) (bx := .nG s 0) hr rfl fun j' M' w' hw=>hw
  exact⟨.pointer (some ⟨w.heap.size,0,none⟩),_,.inl (by simp[execOp,hop,Instr.range,dA ht,h0.jX]),j',h1,h2,.jA ⟨s,0,by simp⟩ h3⟩
 ·cases h
def Gy(hr:Rel j M w){id b:Nat}{bx bx':cD}{ob:Obj}(hM:M[id]?=some bx)(hfx:bx.fixed=true)(htag:bx'.tag=bx.tag)(hj:j id=some b)(hnc:∀vs t fr,w.heap[b]?≠some (.cells vs t fr))
  (hh:∀j' M' (w':World),Ext j M w j' M' w'->w'.heap[b]?=some ob->Holds j' M' w' b bx') :
  Rel j (M.set id bx') { w with heap:=w.heap.setIfInBounds b ob }/\Ext j M w j (M.set id bx') { w with heap:=w.heap.setIfInBounds b ob }:=by
 have q:Quiet w { w with heap:=w.heap.setIfInBounds b ob }:=⟨by simp,rfl,rfl,rfl⟩
 have hb:∀b',b'≠b->b'<w.heap.size->({ w with heap:=w.heap.setIfInBounds b ob }:World).heap[b']?=w.heap[b']?:=fun b' hne _=>by
  show(w.heap.setIfInBounds b ob)[b']?=_
  rw[eW (dD hne)]
 have cu:b<w.heap.size:=hr.lt id b (aF hM) hj
 have hn:({ w with heap:=w.heap.setIfInBounds b ob }:World).heap[b]?=some ob:=by
  show(w.heap.setIfInBounds b ob)[b]?=_
  simp[cu]
 exact⟨Rel.store hM hfx htag hj hr q hb (fun vs t fr h=>absurd h (hnc vs t fr)) fun j' M' hx=>hh j' M' _ hx hn,Ext.store hM hfx htag hj hr q hb (fun vs t fr h=>absurd h (hnc vs t fr))⟩
def Ty(hr:Rel j M w)(he:cy j M w bt a){y:Operand}{z:gQ}(hop:o.op = .next y true)(hz:ef y=some z)(h:dZ C bt M (.ES z)=some x):∃v w',qU P o a w v w'/\iJ j M w x v w':=by
 simp only[dZ] at h;have h0:=cH he hz;split at h
 ·rename_i id e;rw[e] at h0;obtain⟨b,_,hj,hv⟩:=h0.CU;split at h
  ·rename_i s pos hM;rw[eN] at hM;obtain⟨b',hj',hw⟩:=hr.fix _ _ hM rfl;rw[hj] at hj'; cases hj';have hw:w.heap[b]?=some (.stringIter (bs s) pos):=hw;have hsz:(bs s).size=s.length:=by simp[bs,ByteArray.size]
   have hget:(getObj b).run P w = .ok (.stringIter (bs s) pos) w:=by simp[getObj,Sem.run,hw]
   rcases kQ h with ⟨cu,h⟩|⟨cu,h⟩<;>(cases h)
   ·have hlt':pos<s.length:=by simpa using cu
    have hset:∀ob,(setObj b ob).run P w = .ok () { w with heap:=w.heap.setIfInBounds b ob }:=fun ob=>by simp[setObj,Sem.run,hw]
    obtain⟨r1,r2⟩:=Gy (ob := .stringIter (bs s) (pos+(Utf8.decode (bs s) pos).2)) (bx' := .nG s (pos+(Utf8.decode ⟨s.toArray⟩ pos).2)) hr hM rfl rfl hj (fun vs t fr h=>by rw[hw] at h; cases h) fun j' M' w' _ hw=>hw
    refine⟨.tuple #[.bool true,goInt pos,.int .i32 (Utf8.decode (bs s) pos).1],{ w with heap:=w.heap.setIfInBounds b (.stringIter (bs s) (pos+(Utf8.decode (bs s) pos).2)) },.inl ?_,j,?_,?_,?_⟩
    ·simp[execOp,hop,Instr.next,hv,hget,hsz,hlt',hset]
    ·rw[fQ]; exact r1
    ·rw[fQ]; exact r2
    ·refine .tuple rfl fun i c u hc hu=>?_
     match i with
     |0=>simp at hc hu; subst hc; subst hu; exact .plain (.bool _)
     |1=>simp at hc hu; subst hc; subst hu; exact .plain (.int _ _)
     |2=>simp at hc hu; subst hc; subst hu; exact .plain (.int _ _)
     |n+3=>simp at hc
   ·have hlt':¬pos<s.length:=by simpa using cu
    refine⟨.tuple #[.bool false],w,.inl ?_,.still hr (.tuple rfl fun i c u hc hu=>?_)⟩
    ·simp[execOp,hop,Instr.next,hv,hget,hsz,hlt']
    ·match i with
     |0=>simp at hc hu; subst hc; subst hu; exact .plain (.bool _)
     |n+1=>simp at hc
  ·cases h
 ·cases h
def TB(hr:Rel j M w)(he:cy j M w bt a){t kt et:TypeId}{m k y:Operand}{m' k' y':gQ}{fk:FK}(hop:o.op = .mapUpdate t m k y\/o.op = .insert t m k y)(ht:P.underlying t=some (.map kt et))
  (hk:CY P kt=some fk) (hm':ef m=some m') (hk':ef k=some k') (hyr:fY j M w (y'.ev bt) (a.eval y)) (h:dZ C bt M (.gy fk m' k' y')=some x):∃v w',qU P o a w v w'/\iJ j M w x v w':=by
 simp only[dZ] at h;have h0:=cH he hm';split at h
 ·rename_i id e;rw[e] at h0;split at h
  ·rename_i ks vs hM;obtain⟨r,hr',h⟩:=bo h;cases h;rw[eN] at hM;obtain⟨b,_,hj,hv⟩:=h0.u9;obtain⟨b',hj',es,clock,hb,g2,g3,g4,g5⟩:=hr.fix _ _ hM rfl;rw[hj] at hj'; cases hj';obtain⟨d,hd,hfk⟩:=Ew hk;have hc:∀q,(Instr.checkKey q 10000 kt (a.eval k)).run P w = .ok () w:=fun q=>D3 hfk hd q _
   obtain⟨kp,hf⟩:=Hw hfk (cH he hk') (es:=es.toList) 0 hr' (by simpa using g2) (by simpa using g3) (fun i k e hk he=>g4 i k e hk (by simpa using he))
   have hset:∀ob,(setObj b ob).run P w = .ok () { w with heap:=w.heap.setIfInBounds b ob }:=fun ob=>MapKept.run_setObj_map ob hb
   rcases hf with ⟨rfl,f1⟩|⟨i,e',rfl,f3,f4,f1⟩
   ·obtain⟨r1,r2⟩:=Gy (ob := .map (es.push { key:=a.eval k,val:=a.eval y,born:=clock }) (clock+1)) (bx' := .map (ks++[k'.ev bt]) (vs++[y'.ev bt])) hr hM rfl rfl hj (fun vs t fr h=>by rw[hb] at h; cases h) fun j' M' w' hx hw=>by
     refine⟨_,_,hw,by simp[g2],by simp[g3],fun i k e hk he=>?_,fun i k e hk he=>?_⟩
     ·rw[fL] at he;rw[nw] at hk
      by_cases hi:i=es.size
      ·subst hi;simp[g2] at hk he;subst hk; subst he;exact kp.mono hx.hU
      ·rw[ak hi] at he;have hi':i<es.size:=(fq.1 he).1;rw[az (by omega)] at hk
       exact(g4 i k e hk he).mono hx.hU
     ·rw[fL] at he;rw[nw] at hk
      by_cases hi:i=es.size
      ·subst hi;simp[g3] at hk he;subst hk; subst he;exact hyr.mono hx
      ·rw[ak hi] at he;have hi':i<es.size:=(fq.1 he).1;rw[az (by omega)] at hk
       exact(g5 i k e hk he).mono hx
    refine⟨undef,{ w with heap:=w.heap.setIfInBounds b (.map (es.push { key:=a.eval k,val:=a.eval y,born:=clock }) (clock+1)) },.inr ⟨?_,rfl⟩,j,?_,?_,.any _⟩
    ·rcases hop with hop|hop<;>simp[execOp,hop,Instr.mapUpdate,dA ht,hv,MapKept.run_getObj_map hb,hc,Instr.findKey,dA hd,f1,hset]
    ·rw[fQ]; exact r1
    ·rw[fQ]; exact r2
   ·have hi:i<es.size:=by simpa using(aC.1 f3).1
    have he':es[i]?=some e':=by simpa using f3
    obtain⟨r1,r2⟩:=Gy (ob := .map (es.modify i fun e=>{ e with key:=a.eval k,val:=a.eval y }) clock) (bx' := .map (ks.set i (k'.ev bt)) (vs.set i (y'.ev bt))) hr hM rfl rfl hj (fun vs t fr h=>by rw[hb] at h; cases h) fun j' M' w' hx hw=>by
     refine⟨_,_,hw,by simp[g2],by simp[g3],fun q k e hk he=>?_,fun q k e hk he=>?_⟩
     ·rw[fb] at he
      by_cases hq:i=q
      ·subst hq;simp[he'] at he;rw[eA (by omega)] at hk
       cases hk; subst he;exact kp.mono hx.hU
      ·rw[ak hq] at he;rw[fz hq] at hk;exact(g4 q k e hk he).mono hx.hU
     ·rw[fb] at he
      by_cases hq:i=q
      ·subst hq;simp[he'] at he;rw[eA (by omega)] at hk
       cases hk; subst he;exact hyr.mono hx
      ·rw[ak hq] at he;rw[fz hq] at hk;exact(g5 q k e hk he).mono hx
    refine⟨undef,{ w with heap:=w.heap.setIfInBounds b (.map (es.modify i fun e=>{ e with key:=a.eval k,val:=a.eval y }) clock) },.inr ⟨?_,rfl⟩,j,?_,?_,.any _⟩
    ·rcases hop with hop|hop<;>simp[execOp,hop,Instr.mapUpdate,dA ht,hv,MapKept.run_getObj_map hb,hc,Instr.findKey,dA hd,f1,hset,he',Instr.keyThatStays,f4]
    ·rw[fQ]; exact r1
    ·rw[fQ]; exact r2
  ·cases h
 ·cases h
end
def jD(xs:List ag):List ag:=xs.flatMap ag.cells
def ov(x:ag)(xs:List ag):jD (x::xs)=x.cells++jD xs:=rfl
def ou(xs ys:List ag):jD (xs++ys)=jD xs++jD ys:=by simp[jD]
def im{sz:Nat}:∀ {xs:List ag},wid xs sz->(jD xs).length=xs.length*sz
 | [],_=>by simp[jD]
 |x::xs,h=>by
  rw[ov,aK,h x (aD ..),im fun y hy=>h y (aP _ hy),av,bP]
  omega
def mU{sz:Nat}{xs ys:List ag}(h1:wid xs sz)(h2:wid ys sz):wid (xs++ys) sz:=fun x hx=>(bT.1 hx).elim (h1 x) (h2 x)
def vo{sz n:Nat}{xs:List ag}(h:wid xs sz):wid (xs.take n) sz:=fun x hx=>h x (dn hx)
def vn{sz n:Nat}{xs:List ag}(h:wid xs sz):wid (xs.drop n) sz:=fun x hx=>h x (dy hx)
def rP{sz:Nat}:∀(n:Nat){xs:List ag},wid xs sz->jD (xs.take n)=(jD xs).take (n*sz)
 |0,_,_=>by simp[jD]
 |n+1,[],_=>by simp[jD]
 |n+1,x::xs,h=>by
  have hx:=h x (aD ..);have e:(n+1)*sz=sz+n*sz:=by rw[bP]; omega
  rw[oo,ov,ov,rP n fun y hy=>h y (aP _ hy),List.take_append,hx,e,iz,ck (l:=x.cells) (by omega)]
def tI{sz:Nat}:∀(n:Nat){xs:List ag},wid xs sz->jD (xs.drop n)=(jD xs).drop (n*sz)
 |0,_,_=>by simp
 |n+1,[],_=>by simp[jD]
 |n+1,x::xs,h=>by
  have hx:=h x (aD ..);have e:(n+1)*sz=sz+n*sz:=by rw[bP]; omega
  rw[oh,ov,tI n fun y hy=>h y (aP _ hy),List.drop_append,hx,e,iz,List.drop_of_length_le (l:=x.cells) (by omega),aY]
theorem Ad{sz:Nat}:∀ {xs:List ag},wid xs sz->∀ {q:Nat} {x:ag} {k:Nat} {c:ag},xs[q]?=some x->x.cells[k]?=some c->(jD xs)[q*sz+k]?=some c
 | [],_,q,x,k,c,hx,_=>by grind
 |y::xs,h,0,x,k,c,hx,hk=>by
  simp at hx; subst hx;rw[ov,je,aQ,bl (aC.1 hk).1];omega
 |y::xs,h,q+1,x,k,c,hx,hk=>by
  have hy:=h y (aD ..);rw[ov,br (by rw[bP]; omega),hy]
  rw[show(q+1)*sz+k-sz=q*sz+k by rw[bP]; omega]
  exact Ad (fun z hz=>h z (aP _ hz)) (by grind) hk
theorem CG{sz:Nat}{xs:List ag}(h:wid xs sz){p:Nat}{c:ag}(hp:(jD xs)[p]?=some c):∃q x k,xs[q]?=some x/\x.cells[k]?=some c/\p=q*sz+k:=by
 have cu:p<xs.length*sz:=by rw[<-im h]; grind
 have hsz:0<sz:=by
  grind
 have hq:p / sz<xs.length:=by rw[kl hsz]; omega
 have hk:p % sz<(xs[p / sz]).cells.length:=by rw[h _ (jL _)]; simp_all [iI]
 grind [Nat.mul_comm,Nat.div_add_mod,Ad]
def RL(w:World)(hU:Nat->Nat->Prop)(cs:List ag)(vs:List Value):Prop:=cs.length=vs.length/\∀(p:Nat)(c:ag)(v:Value),cs[p]?=some c->vs[p]?=some v->fI w hU c v
section
variable {w w':World} {hU saf':Nat->Nat->Prop} {cs ds:List ag} {us vs:List Value}
def RL.append(h:RL w hU cs us)(k:RL w hU ds vs):RL w hU (cs++ds) (us++vs):=by
 refine⟨by simp[h.1,k.1],fun p c v hc hv=>?_⟩
 rcases bH p _ with hp|hp
 ·rw[bl hp] at hc;rw[bl (by rw[<-h.1]; omega)] at hv
  exact h.2 p c v hc hv
 ·rw[br hp] at hc;rw[br (by rw[<-h.1]; omega),<-h.1] at hv
  exact k.2 _ c v hc hv
theorem RL.take(n:Nat)(h:RL w hU cs us):RL w hU (cs.take n) (us.take n):=by
 refine⟨by simp[h.1],fun p c v hc hv=>?_⟩
 rw[gI] at hc hv;split at hc
 ·rename_i hp;rw[az hp] at hv;exact h.2 p c v hc hv
 grind
def RL.drop(n:Nat)(h:RL w hU cs us):RL w hU (cs.drop n) (us.drop n):=by
 refine⟨by simp[h.1],fun p c v hc hv=>?_⟩
 rw[cI] at hc hv;exact h.2 _ c v hc hv
def RL.mono(hm:∀b off,hU b off->saf' b off/\w'.cell? ⟨b,off,none⟩=w.cell? ⟨b,off,none⟩)(h:RL w hU cs us):RL w' saf' cs us:=⟨h.1,fun p c v hc hv=>(h.2 p c v hc hv).mono hm⟩
end
section
variable {j:J} {M:aL} {w:World}
theorem xi{b sz:Nat}{xs:List ag}{vs:Array Value}(hl:xs.length*sz<=vs.size)(hwd:wid xs sz)
  (hc:∀(q:Nat)(x:ag)(k:Nat)(c:ag),xs[q]?=some x->x.cells[k]?=some c->∃v,vs[q*sz+k]?=some v/\fI w (nV j M w) c v):RL w (nV j M w) (jD xs) (vs.toList.take (xs.length*sz)):=by
 refine⟨by rw[im hwd]; grind,fun p c v hp hv=>?_⟩
 obtain⟨q,x,k,h1,h2,rfl⟩:=CG hwd hp
 grind
theorem lJ{j':J}{M':aL}{w':World}{b sz:Nat}{t:TypeId}{xs:List ag}{us:List Value}{vs:Array Value}(hw:w'.heap[b]?=some (.cells vs t (0,0)))(hwd:wid xs sz)(hr:RL w' (nV j' M' w') (jD xs) us)
  (hv:∀p,p<us.length->vs[p]?=us[p]?):DR j' M' w' b sz xs:=by
 have eY:us.length=xs.length*sz:=by rw[<-hr.1,im hwd]
 refine⟨vs,t,hw,?_,hwd,fun q x k c hx hk=>?_⟩
 ·grind
 ·have h1:=Ad hwd hx hk;have hp:q*sz+k<us.length:=by rw[<-hr.1]; grind
  exact⟨us[q*sz+k],by rw[hv _ hp,aj _],hr.2 _ _ _ h1 (aj _)⟩
theorem Ag:∀(ids:List Nat){M:aL}{i:Nat}{bx:cD},M[i]?=some bx->(∀sz v xs,bx ≠ .arr sz v xs)->(Af M ids)[i]?=some bx
 | [],_,_,_,h,_=>h
 |a::r,M,i,bx,h,hn=>by
  simp[Af,eN];split
  ·refine Ag r ?_ hn
   grind [fQ]
  ·exact Ag r h hn
theorem F6:∀(ids:List Nat){M:aL},Rel j M w->Ext j M w j (Af M ids) w/\Rel j (Af M ids) w/\(Af M ids).length=M.length/\∀id,id∈ids->∀sz v xs,M[id]?=some (.arr sz v xs)->(Af M ids)[id]?=some (.tick sz xs.length)
 | [],M,hr=>⟨.refl _ _ _,hr,rfl,fun id h=>by cases h⟩
 |a::r,M,hr=>by
  simp only[Af,eN];split
  ·rename_i sz v xs hM;rw[fQ];obtain⟨h1,h2,h3,h4⟩:=F6 r (Rel.freeze hM hr);refine⟨(Ext.freeze hM).trans h1,h2,by rw[h3]; simp,fun id hid sz' v' xs' hid'=>?_⟩
   grind [id,Ag,dG,aF]
  ·obtain⟨h1,h2,h3,h4⟩:=F6 r hr
   grind
def fY.pt{M':aL}(hr:Rel j M w)(hx:Ext j M w j M' w)(hr':Rel j M' w)(hl:M'.length=M.length){x:ag}{v:Value}(h:fY j M w x v)(hf:∀id,id∈x.ia->∀sz v xs,M[id]?=some (.arr sz v xs)->M'[id]?=some (.tick sz xs.length)):fY j M' w (x.pt M) v:=by
 cases x<;>try exact h.mono hx
 rename_i id ver sz lo hi;simp[ag.pt,eN];split
 ·rename_i sz' v' xs hM;split
  ·rename_i hv;subst hv;obtain⟨_,hid,_,g⟩:=h.nB;obtain⟨e1,l1,l2,⟨rfl,_,A,rfl⟩|⟨b,cap,vs,t,l3,l4,l5,l6,l7⟩⟩:=(g sz' v' xs hM).2 rfl
   ·simp;exact .plain (fI.nil _ _ _)
   subst e1;obtain⟨b',vs',t',k1,k2,k3,k4,k5⟩:=hr.yf hM l3;rw[l3] at k1; cases k1;rw[l4];refine .plain (xj k2 k4 k5 (fun b off hs=>(hx.hU b off hs).1) (fun off ho=>⟨hr'.lt id b (by rw[hl]; exact aF hM) l3,fun i hi hji=>?_,hr'.uG id b (by omega) l3 off⟩) l1 l2 l5)
   have  := hr'.inj i id b hi (by rw[hl]; exact aF hM) hji l3
   subst this;exact⟨sz',xs.length,hf i (by simp[ag.ia]) _ _ _ hM,ho⟩
  ·exact .any _
 ·exact .any _
theorem fY.yw{M':aL}(hr:Rel j M w)(hx:Ext j M w j M' w)(hr':Rel j M' w)(hl:M'.length=M.length){x:ag}{v:Value}(h:fY j M w x v)(hf:∀id,id∈x.ids->∀sz v xs,M[id]?=some (.arr sz v xs)->M'[id]?=some (.tick sz xs.length)):fY j M' w (x.yw M) v:=by
 by_cases hag:∃cs,x = .agg cs
 ·obtain⟨cs,rfl⟩:=hag;obtain⟨vs,rfl,hl',hc⟩:=h.mc;refine .agg (by grind) fun i c u hi hu=>?_
  rw[aZ,aO] at hi;obtain⟨c0,hc0,rfl⟩:=hi;refine(hc i c0 u hc0 hu).pt hr hx hr' hl fun id hid=>hf _ ?_
  refine ic.2 ⟨c0,aR hc0,?_⟩;cases c0<;>first|exact hid|(simp[ag.ia] at hid)
 ·have:x.yw M=x.pt M:=by cases x<;>first|rfl|grind
  rw[this];refine h.pt hr hx hr' hl fun id hid=>hf id ?_
  cases x<;>first|exact hid|exact absurd _ _|grind [ag.ia]
end
section
variable {P:Program} {C:eO} {o:Oper} {bt:Env} {M:aL} {j:J} {w:World} {a:Act} {x:ag×aL}
theorem ru(z:Array Value)(n:Nat):(Builtin.zeroCells z n).toList=(List.replicate n z.toList).flatten:=by
 induction n with
 |zero=>simp[Builtin.zeroCells]
 |succ n ih =>
  rw[nz,List.flatten_append,<-ih];apply cS;intro i;simp only[Builtin.zeroCells,Array.toList_map,Array.toList_range,List.flatten_cons,List.flatten_nil,bW];rcases bH i (n*z.size) with h|h
  ·grind
  ·rw[br (by grind)]
   simp only[aI,ky];rcases bH i ((n+1)*z.size) with h2|h2
   ·have h3:i-n*z.size<z.size:=by rw[bP] at h2; omega
    have h4:i % z.size=i-n*z.size:=by
     have:i=(i-n*z.size)+n*z.size:=by omega
     rw[this,Nat.add_mul_mod_self_right,Nat.mod_eq_of_lt h3]; omega
    rw[aZ,fM h2];simp[h4,h3]
   grind
def Nv(n:Nat)(zero:List ag):jD (List.replicate n (.agg zero))=(List.replicate n zero).flatten:=by
 induction n with
 |zero=>rfl
 |succ n ih=>rw[iM,ov,ih]; rfl
theorem Pf{hU:Nat->Nat->Prop}(n:Nat){cs:List ag}{us:List Value}(h:RL w hU cs us):RL w hU (List.replicate n cs).flatten (List.replicate n us).flatten:=by
 induction n with
 |zero=>exact⟨rfl,fun p c v hc=>by simp⟩
 |succ n ih=>exact h.append ih
theorem xh{id b sz ver ver':Nat}{xs xs':List ag}{vs vs':Array Value}{t:TypeId}{us:List Value}{w':World}(hr:Rel j M w)(hM:M[id]?=some (.arr sz ver xs))(hj:j id=some b)(q:Quiet w w')
  (hb:∀b',b'≠b->b'<w.heap.size->w'.heap[b']?=w.heap[b']?) (hw:w.heap[b]?=some (.cells vs t (0,0))) (hw':w'.heap[b]?=some (.cells vs' t (0,0))) (hs:vs'.size=vs.size)
  (hv:ver<=ver') (hl:ver'=ver->xs'.length=xs.length) (hwd:wid xs' sz) (hrl:RL w (nV j M w) (jD xs') us) (hus:∀p,p<us.length->vs'[p]?=us[p]?) :
  Rel j (M.set id (.arr sz ver' xs')) w'/\Ext j M w j (M.set id (.arr sz ver' xs')) w':=by
 have hwr:∀vs0 t1,w.heap[b]?=some (.cells vs0 t1 (0,0))->∃vs1,w'.heap[b]?=some (.cells vs1 t1 (0,0))/\vs1.size=vs0.size:=fun vs0 t1 h=>by
  grind
 exact⟨Rel.DV hM hj hr q hb hwr hv hl fun j' M' hx=>lJ hw' hwd (hrl.mono hx.hU) hus,Ext.DV hM hj hr q hb hwr hv hl⟩
theorem B9{l:List ag}{vs:List Value}(hl:sR vs=some l)(hp:(l.map ag.shut).all ag.plainCell=true):RL w (nV j M w) (l.map ag.shut) vs/\∀v,v∈vs->v.oneCell'=true:=by
 obtain⟨h1,h2⟩:=pU (j:=j) (M:=M) (w:=w) hl;rw[List.all_map,bw] at hp;refine⟨⟨by grind,fun p c v hc hv=>?_⟩,fun v hv=>?_⟩
 ·grind [zA,List.mem_of_getElem?]
 ·obtain⟨p,hp',rfl⟩:=jJ hv;have hpl:p<l.length:=by omega
  exact Cp (h2 p _ _ (aj hpl) (aj hp')) (Bv (hp _ (jL hpl)))
theorem Ob(hr:Rel j M w)(he:cy j M w bt a){c:Call}{y:Operand}{z:gQ}{t e:TypeId}{i:TypeInfo}{zv:Value}{l:List ag}(hop:o.op = .call c)(hb:c.callee = .builtin .clear)(ha:c.args.toList=[y])
  (ht:c.argTypes.toList=[t]) (hs:P.underlying t=some (.slice e)) (hi:P.info? e=some i) (hzv:i.zero=some zv) (hl:sR zv.cells.toList=some l) (hsz:l.length=i.size) (hz:ef y=some z)
  (h:dZ C bt M (.z6 i.size (l.map ag.shut) z)=some x):∃v w',qU P o a w v w'/\iJ j M w x v w':=by
 simp only[dZ] at h;have h1:=cH he hz;have ha':c.args = #[y]:=by rw[<-ha]
 have ht':c.argTypes = #[t]:=by rw[<-ht]
 split at h
 ·rename_i tk xs ez;rw[ez] at h1;split at h
  ·cases h;obtain⟨A,cap,b,off,sz,vs,hv,_⟩:=h1.dH.dH;refine⟨.tuple #[],w,.inl ?_,.still hr (.any _)⟩;cases A<;>simp[execOp,hop,resolve,hb,invoke,builtin,Builtin.clear_,ha',ht',dA hs,hv]
  ·cases h
 ·rename_i id ver sz' lo hi' ez;rw[ez] at h1;rw[eN] at h;split at h
  ·rename_i sz0 v0 xs hM;split at h
   ·rename_i hc;obtain⟨c1,c2,c3,c4⟩:=hc;cases h;subst c1; subst c2;obtain⟨_,hid,_,g⟩:=h1.nB;obtain⟨e1,l1,l2,⟨rfl,_,A,hA⟩|⟨b,cap,vs,t0,l3,l4,l5,l6,l7⟩⟩:=(g sz0 v0 xs hM).2 rfl
    ·have hlo:lo=0:=Nat.le_zero.1 (bj l1 l2);have hhi:hi'=0:=Nat.le_zero.1 l2;subst hlo; subst hhi;refine⟨.tuple #[],w,.inl ?_,?_⟩
     ·cases A<;>simp[execOp,hop,resolve,hb,invoke,builtin,Builtin.clear_,ha',ht',dA hs,hA]
     ·rw[fQ]
      have he:M.set id (.arr sz0 v0 (List.take 0 ([]:List ag)++(List.replicate (0-0) (ag.agg (l.map ag.shut))++List.drop 0 [])))=M:=by
       apply cS
       grind
      rw[he];exact .still hr (.any _)
    subst e1;obtain⟨b',vs',t',k1,k2,k3,k4,k5⟩:=hr.yf hM l3;rw[l3] at k1; cases k1;rw[l6] at k2; injection k2 with k2; injection k2 with k2 k2'
    subst k2; subst k2';obtain⟨p1,p2⟩:=B9 (j:=j) (M:=M) (w:=w) hl c4;have hzl:zv.cells.toList.length=i.size:=by rw[<-p1.1]; simpa using hsz
    have eY:(List.replicate (hi'-lo) zv.cells.toList).flatten.length=(hi'-lo)*i.size:=by simp[List.length_flatten,List.map_replicate,List.sum_replicate_nat,hzl]
    have hbd:lo*i.size+(hi'-lo)*i.size<=xs.length*i.size:=by rw[<-bP]; exact bf _ (by omega)
    have hfit:lo*i.size+(List.replicate (hi'-lo) zv.cells.toList).flatten.length<=vs.size:=by rw[eY]; omega
    have hone:∀v,v∈(List.replicate (hi'-lo) zv.cells.toList).flatten->v.oneCell'=true:=fun v hv=>by
     obtain⟨r,hr1,hr2⟩:=List.mem_flatten.1 hv;rw[lh hr1] at hr2;exact p2 v hr2
    have hrun:=mT (P:=P) (List.replicate (hi'-lo) zv.cells.toList).flatten w (lo*i.size) 0 vs l6 (by omega) hone
    obtain⟨s1,s2,s3,s4,s5,vs',s6,s7,s8,s9⟩:=lA (List.replicate (hi'-lo) zv.cells.toList).flatten w (lo*i.size) vs l6 hfit;have hrow:=xi (b:=b) k3 k4 k5;have hwz:wid (List.replicate (hi'-lo) (ag.agg (l.map ag.shut))) i.size:=fun x hx=>by rw[lh hx]; simpa[ag.cells] using hsz
    have iv:RL w (nV j M w) (jD (xs.take lo++(List.replicate (hi'-lo) (ag.agg (l.map ag.shut))++xs.drop hi'))) ((vs.toList.take (xs.length*i.size)).take (lo*i.size)++((List.replicate (hi'-lo) zv.cells.toList).flatten++(vs.toList.take (xs.length*i.size)).drop (hi'*i.size))):=by
     rw[ou,ou,rP lo k4,tI hi' k4,Nv];exact(hrow.take _).append ((Pf _ p1).append (hrow.drop _))
    have hhi:lo*i.size+(hi'-lo)*i.size=hi'*i.size:=by rw[<-bP,cU l1]
    have hput:=xh (ver':=v0) (xs':=xs.take lo++(List.replicate (hi'-lo) (ag.agg (l.map ag.shut))++xs.drop hi')) hr hM l3 (w':=oV w b (lo*i.size) (List.replicate (hi'-lo) zv.cells.toList).flatten) ⟨by omega,s2,s3,s4⟩ (fun b' hb' _=>s5 b' hb') l6 s6 s7 (ar _)
     (fun _=>by simp; omega) (mU (vo k4) (mU hwz (vn k4))) iv (fun p hp=>by
      have hp':p<xs.length*i.size:=by
       rw[<-iv.1,im (mU (vo k4) (mU hwz (vn k4)))] at hp;have:(xs.take lo++(List.replicate (hi'-lo) (ag.agg (l.map ag.shut))++xs.drop hi')).length=xs.length:=by simp; omega
       rwa[this] at hp
      have htk:(List.take (lo*i.size) (vs.toList.take (xs.length*i.size))).length=lo*i.size:=by simp; omega
      rcases bH p (lo*i.size) with q1|q1
      ·rw[s8 p (.inl q1),bl (by rw[htk]; omega),bF q1,bF hp']; simp
      ·rw[br (by rw[htk]; exact q1),htk]
       rcases bH p (hi'*i.size) with q2|q2
       ·rw[bl (by rw[eY]; omega)]
        have:=s9 (p-lo*i.size) (by rw[eY]; omega)
        rw[cU q1] at this;exact this
       ·rw[br (by rw[eY]; omega),s8 p (.inr (by rw[eY]; omega)),cI,eY,show hi'*i.size+(p-lo*i.size-(hi'-lo)*i.size)=p by omega,bF hp']; simp)
    rw[fQ];rcases fE (hi'-lo) with h0|h0
    ·refine⟨.tuple #[],oV w b (lo*i.size) (List.replicate (hi'-lo) zv.cells.toList).flatten,.inl ?_,j,hput.1,hput.2,.any _⟩;rw[h0] at l4;simp[execOp,hop,resolve,hb,invoke,builtin,Builtin.clear_,ha',ht',dA hs,l4,h0,oV]
    ·refine⟨.tuple #[],oV w b (lo*i.size) (List.replicate (hi'-lo) zv.cells.toList).flatten,.inl ?_,j,hput.1,hput.2,.any _⟩;obtain⟨m,hm⟩:∃m,hi'-lo=m+1:=⟨hi'-lo-1,by omega⟩
     simp only[cV] at hrun;rw[<-ru,hm] at hrun;rw[hm] at l4;rw[<-ru,hm];simp[execOp,hop,resolve,hb,invoke,builtin,Builtin.clear_,ha',ht',dA hs,l4,zeroValue,pC hi,hzv,hrun]
   ·cases h
  ·cases h
 ·cases h
end
def fI.wX{j:J}{M:aL}{w:World}{x:ag}{v:Value}(h:fY j M w x v)(hp:x.plainCell=true):fI w (nV j M w) x v:=by
 cases x with
 |slice tk xs=>cases tk with
  |sh=>exact h.dH
  |c0=>cases hp
  |own k=>cases hp
 |bool b=>cases h with|plain h=>exact h
 |int k n=>cases h with|plain h=>exact h
 |str s=>cases h with|plain h=>exact h
 |raw v=>cases h with|plain h=>exact h
 |agg _=>cases hp
 |tuple _=>cases hp
 |ptr _ _=>cases hp
 |jg _=>cases hp
 |func _ _=>cases hp
 |gH _=>cases hp
 |jA _=>cases hp
 |iG _ _=>cases hp
 |dk _ _ _ _ _=>cases hp
 |iu _ _ _ _=>cases hp
 |sb _ _=>cases hp
 |oC _=>cases hp
 |jO _ _ _=>cases hp
 |any=>cases hp
def BC.wX{j:J}{M:aL}{w:World}{x:ag}{v:Value}(h:fY j M w x v)(hp:x.plain=true):BC w (nV j M w) x v:=by
 by_cases hag:∃cs,x = .agg cs
 ·obtain⟨cs,rfl⟩:=hag;obtain⟨us,h1,h2,h3⟩:=h.mc;refine⟨us,h1,h2,fun i c u hc hu => .wX (h3 i c u hc hu) ?_⟩
  simp only[ag.plain,bw] at hp;exact hp c (aR hc)
 ·have e1:x.plain=x.plainCell:=by cases x<;>first|rfl|exact absurd ⟨_,rfl⟩ hag
  have:=fI.wX h (e1▸hp);cases x<;>first|exact absurd ⟨_,rfl⟩ hag|exact this
def Oy{j:J}{M:aL}{w:World}{x:ag}{v:Value}(h:fY j M w x v):fY j M w x.gd v:=by
 have hs:∀ {x:ag} {v:Value},fY j M w x v->fY j M w x.shut v:=fun {x v} h=>by
  cases x<;>first|exact h|exact .plain h.dH
 by_cases hag:∃cs,x = .agg cs
 ·obtain⟨cs,rfl⟩:=hag;obtain⟨us,rfl,h2,h3⟩:=h.mc;refine .agg (by simpa using h2) fun i c u hc hu=>?_
  rw[aZ,aO] at hc;obtain⟨c0,hc0,rfl⟩:=hc;exact hs (h3 i c0 u hc0 hu)
 ·cases x<;>first|exact absurd ⟨_,rfl⟩ hag|exact h|exact .plain h.dH
section
variable {P:Program} {C:eO} {o:Oper} {bt:Env} {M:aL} {j:J} {w:World} {a:Act} {x:ag×aL}
def Ti(hr:Rel j M w)(he:cy j M w bt a){f:Nat}{first caps:Array Operand}{zs:List gQ}(hop:o.op = .makeFunc (.func f) first caps)(hf:caps.isEmpty=true)(hz:uL first.toList=some zs)
  (h:dZ C bt M (.DZ f zs)=some x):∃v w',qU P o a w v w'/\iJ j M w x v w':=by
 simp only[dZ] at h;split at h
 ·rename_i hp;cases h;obtain⟨h1,h2⟩:=tY he hz;have hf':caps = #[]:=by simpa using hf
  refine⟨.func (.func f) (first.map a.eval) #[],w,.inl ?_,.still hr (.sb (by simpa using h1) fun i c v hc hv=>?_)⟩
  ·simp[execOp,hop,Instr.makeFunc,hf']
  ·have hpc:=bw.1 hp c (aR hc);rw[aZ,aO] at hc;obtain⟨y,hy,rfl⟩:=hc;rw[ik,aO] at hv;obtain⟨z,hz',rfl⟩:=hv;exact .wX (Oy (h2 i y z hy (by simpa using hz'))) hpc
 ·cases h
def Oe(hr:Rel j M w)(he:cy j M w bt a){y i:Operand}{z z':gQ}{t e:TypeId}{len n:Nat}(hop:o.op = .indexAddr t y i)(ht:P.underlying t=some (.array len e))(hn:qv P e=some n)
  (hz:ef y=some z) (hz':ef i=some z') (h:dZ C bt M (.Aj len n z z')=some x):∃v w',qU P o a w v w'/\iJ j M w x v w':=by
 simp only[dZ] at h;have h1:=cH he hz;have h2:=cH he hz';split at h
 ·rename_i cs k m ez ez';obtain⟨⟨h0,hm,hle⟩,h⟩:=di h;cases h;rw[ez] at h1;rw[ez'] at h2;obtain⟨b,off,vs,hv,hc⟩:=h1.ua;refine⟨.pointer (some ⟨b,off+m.toNat*n,none⟩),w,.inl ?_,.still hr (.jg (vs:=fun q=>vs (m.toNat*n+q)) fun q c hq=>?_)⟩
  ·simp[execOp,hop,Instr.indexAt,dA ht,hv,h2.fP,asIntOf,h0,hm,jd hn,lC,Instr.sureAddr]
  ·rw[cI] at hq;have h3:=hc _ c hq;rw[Nat.add_assoc];exact h3
 ·rename_i id off k m ez ez';obtain⟨⟨h0,hm⟩,h⟩:=di h;cases h;rw[ez] at h1;rw[ez'] at h2;obtain⟨b,h3,h4,h5,hv⟩:=h1.pK;refine⟨.pointer (some ⟨b,off+m.toNat*n,none⟩),w,.inl ?_,.still hr (.ptr h3 h4 h5)⟩;simp[execOp,hop,Instr.indexAt,dA ht,hv,h2.fP,asIntOf,h0,hm,jd hn,lC,Instr.sureAddr]
 ·cases h
def On(hr:Rel j M w){id q sz:Nat}{cs:List ag}(hM:M[id]?=some (.cells cs))(hc:cs[q]?=some (.slice .c0 [])) :
  ∃j',Rel j' (M.set id (.cells (cs.set q (.slice (.own M.length) [])))++[.tick sz 0]) w/\Ext j M w j' (M.set id (.cells (cs.set q (.slice (.own M.length) [])))++[.tick sz 0]) w:=by
 have q0:Quiet w w:=⟨ar _,rfl,rfl,rfl⟩;have hr1:Rel (gy j M.length none) (M++[.tick sz 0]) w:=hr.push (ob:=none) (fun b h=>by cases h) q0 (fun _ _=>rfl) (fun h=>by cases h) (fun sz n b h h'=>by cases h')
 have hx1:Ext j M w (gy j M.length none) (M++[.tick sz 0]) w:=Ext.push (fun b h=>by cases h) q0 (fun _ _=>rfl)
 have hid:=aF hM;have hM1:(M++[cD.tick sz 0])[id]?=some (.cells cs):=by rw[xf hid]; exact hM
 obtain⟨b,vs,t,hj,hw,hl,hcs⟩:=hr.box id cs hM;have hj1:gy j M.length none id=some b:=by simp[gy,gr hid,hj]
 have hset:M.set id (cD.cells (cs.set q (.slice (.own M.length) [])))++[cD.tick sz 0]=(M++[cD.tick sz 0]).set id (cD.cells (cs.set q (.slice (.own M.length) []))):=by rw[List.set_append_left _ _ hid]
 rw[hset];have hh:∀j' M',Ext (gy j M.length none) (M++[.tick sz 0]) w j' M' w->Holds j' M' w b (.cells (cs.set q (.slice (.own M.length) []))):=fun j' M' hx=>⟨vs,t,hw,by simpa using hl,fun p c v hc' hv=>fY.mono hx ?_⟩
 ·exact⟨_,Rel.store hM1 rfl rfl hj1 hr1 q0 (fun _ _ _=>rfl) (fun vs t fr h=>⟨vs,fr,h,rfl⟩) hh,hx1.trans (Ext.store hM1 rfl rfl hj1 hr1 q0 (fun _ _ _=>rfl) (fun vs t fr h=>⟨vs,fr,h,rfl⟩))⟩
 ·by_cases hp:q=p
  ·subst hp;rw[eA (aF hc)] at hc';cases hc';have h1:=hcs q _ v hc hv
   obtain⟨A,hA⟩:∃A,v = .slice A 0 0:=by
    cases h1 with
    |plain h=>cases h
    |c0 A=>exact⟨A,rfl⟩
   rw[hA];exact .own (sz:=sz) (n:=0) (by simp) (by simp) (fI.nil _ _ _) fun _ => .inl ⟨by simp[gy],rfl,A,rfl⟩
  ·rw[fz hp] at hc';exact fY.mono hx1 (hcs p c v hc' hv)
def KQ(hr:Rel j M w){id q sz:Nat}{cs:List ag}(hM:M[id]?=some (.cells cs))(hc:cs[q]?=some (.slice .c0 [])) :
  ∃j',Rel j' (M.set id (.cells (cs.set q (.dk M.length 0 sz 0 0)))++[.arr sz 0 []]) w/\Ext j M w j' (M.set id (.cells (cs.set q (.dk M.length 0 sz 0 0)))++[.arr sz 0 []]) w:=by
 have q0:Quiet w w:=⟨ar _,rfl,rfl,rfl⟩;have hr1:Rel (gy j M.length none) (M++[.arr sz 0 []]) w:=hr.push (ob:=none) (bx := .arr sz 0 []) (fun b h=>by cases h) q0 (fun _ _=>rfl) (fun h=>by cases h) (fun sz n b h h'=>by cases h') (fun sz ver xs h=>by injection h with e1 e2 e3; exact .inl ⟨e3.symm,rfl⟩)
 have hx1:Ext j M w (gy j M.length none) (M++[.arr sz 0 []]) w:=Ext.push (fun b h=>by cases h) q0 (fun _ _=>rfl)
 have hid:=aF hM;have hM1:(M++[cD.arr sz 0 []])[id]?=some (.cells cs):=by rw[xf hid]; exact hM
 obtain⟨b,vs,t,hj,hw,hl,hcs⟩:=hr.box id cs hM;have hj1:gy j M.length none id=some b:=by simp[gy,gr hid,hj]
 have hset:M.set id (cD.cells (cs.set q (.dk M.length 0 sz 0 0)))++[cD.arr sz 0 []]=(M++[cD.arr sz 0 []]).set id (cD.cells (cs.set q (.dk M.length 0 sz 0 0))):=by rw[List.set_append_left _ _ hid]
 rw[hset];have hh:∀j' M',Ext (gy j M.length none) (M++[.arr sz 0 []]) w j' M' w->Holds j' M' w b (.cells (cs.set q (.dk M.length 0 sz 0 0))):=fun j' M' hx=>⟨vs,t,hw,by simpa using hl,fun p c v hc' hv=>fY.mono hx ?_⟩
 ·exact⟨_,Rel.store hM1 rfl rfl hj1 hr1 q0 (fun _ _ _=>rfl) (fun vs t fr h=>⟨vs,fr,h,rfl⟩) hh,hx1.trans (Ext.store hM1 rfl rfl hj1 hr1 q0 (fun _ _ _=>rfl) (fun vs t fr h=>⟨vs,fr,h,rfl⟩))⟩
 ·by_cases hp:q=p
  ·subst hp;rw[eA (aF hc)] at hc';cases hc';have h1:=hcs q _ v hc hv
   obtain⟨A,hA⟩:∃A,v = .slice A 0 0:=by
    cases h1 with
    |plain h=>cases h
    |c0 A=>exact⟨A,rfl⟩
   rw[hA];refine .dk (.inr ⟨rfl,A,rfl⟩) (by simp) (fun bx hbx=>by rw[lO] at hbx; cases hbx; rfl) fun sz' v' zs hx=>?_
   rw[lO] at hx; injection hx with hx; injection hx with e1 e2 e3
   subst e1; subst e2; subst e3;exact⟨ar _,fun _=>⟨rfl,ar _,ar _,.inl ⟨rfl,by simp[gy],A,rfl⟩⟩⟩
  ·rw[fz hp] at hc';exact fY.mono hx1 (hcs p c v hc' hv)
def Jb{cs new:List ag}{off p:Nat}{x:ag}(h:off+new.length<=cs.length)(hp:p<new.length):mH cs off (new.set p x)=(mH cs off new).set (off+p) x:=by
 apply cS;intro i;rw[qP (by simpa using h)]
 by_cases hi:off+p=i
 ·subst hi;rw[eA (by rw[uv h]; omega),az (by simp; omega),show off+p-off=p by omega,eA hp]
 ·rw[fz hi,qP h];simp only[ei];split
  ·rename_i hc;rw[fz (by omega)]
  ·rfl
def Oj(hr:Rel j M w)(he:cy j M w bt a){y y':Operand}{z z':gQ}{t:TypeId}{n sz p:Nat}(hop:o.op = .store t y y')(hn:qv P t=some n)(hz:ef y=some z)(hz':ef y'=some z')
  (h:dZ C bt M (.AU sz p n z z')=some x):∃v w',qU P o a w v w'/\iJ j M w x v w':=by
 simp only[dZ] at h;split at h
 ·rename_i id off e;split at h
  ·rename_i cs hM;obtain⟨new,iv,h⟩:=bo h;split at h
   ·rename_i hp;split at h
    ·rename_i hcond;cases h
     have hs:dZ C bt M (.store n z z')=some (.any,j6 M id (.cells (mH cs off new))):=by
      simp only[dZ,e,hM,iv,cd];rw[az hcond]
     obtain⟨v,w',h1,j',h2,h3,h4⟩:=Dg hr he hop hn hz hz' hs;rw[eN] at hM hp;have cu:=aF hM;have hpl:=aF hp;have hle:off+new.length<=cs.length:=by omega
     rw[fQ] at h2 h3 h4;have hM2:(M.set id (.cells (mH cs off new)))[id]?=some (.cells (mH cs off new)):=dG cu
     have hc2:(mH cs off new)[off+p]?=some (.slice .c0 []):=by
      rw[qP hle,az (by omega),show off+p-off=p by omega]
      exact hp
     rw[fQ,fQ,Jb hle hpl];unfold zt AD;split
     ·obtain⟨j'',k1,k2⟩:=KQ (sz:=sz-500) h2 hM2 hc2;rw[List.set_set,ei] at k1 k2;exact⟨v,w',h1,j'',k1,h3.trans k2,.any _⟩
     ·obtain⟨j'',k1,k2⟩:=On (sz:=sz) h2 hM2 hc2;rw[List.set_set,ei] at k1 k2;exact⟨v,w',h1,j'',k1,h3.trans k2,.any _⟩
    ·cases h
   ·cases h
  ·cases h
 ·cases h
end
section
variable {P:Program} {C:eO} {o:Oper} {bt:Env} {M:aL} {j:J} {w:World} {a:Act} {x:ag×aL}
def OM{x:ag}{u v:Value}(h:valOf x=some u)(hr:fY j M w x v):v=u:=by
 unfold valOf at h;split at h
 ·cases h; exact hr.fP
 ·rename_i k n;cases h;obtain⟨vs,rfl,hl,hc⟩:=hr.mc;have hs:vs.size=1:=by simpa using hl.symm
  have h0:vs[0]?=some (vs[0]'(by omega)):=bb (by omega)
  have h1:=(hc 0 _ _ rfl h0).fP;congr 1;apply Array.ext
  ·simpa using hs
  ·intro i h2 h3;have:i=0:=by omega
   subst this;simpa using h1
 ·cases h
def fY.Mw{u v:Value}(h:fY j M w (.raw u) v):v=u:=by cases h with|plain h=>cases h; rfl
def Ts(hr:Rel j M w)(he:cy j M w bt a){t:TypeId}{y:Operand}{z:gQ}{d:TypeDesc}(hop:o.op = .makeInterface t y)(hu:P.underlying t=some d)(hd:∀m,d ≠ .interface m)(hz:ef y=some z)
  (h:dZ C bt M (.iface t z)=some x):∃v w',qU P o a w v w'/\iJ j M w x v w':=by
 simp only[dZ] at h;have h1:=cH he hz;split at h
 ·rename_i id off e;cases h;rw[e] at h1;obtain⟨b,_,hc,hj,hy⟩:=h1.pK;refine⟨_,w,.inl ?_,.still hr (.jO hc hj)⟩;simp only[execOp,hop,Instr.makeInterface,hy];cases d<;>first|exact absurd rfl (hd _)|simp[dA hu]
 obtain⟨v,hv,h⟩:=bo h;cases h;have hy:=OM hv h1;refine⟨.iface t v,w,.inl ?_,.still hr (.plain (.raw _ rfl))⟩;simp only[execOp,hop,Instr.makeInterface,hy];cases d<;>first|exact absurd rfl (hd _)|simp[dA hu]
def Tz(hr:Rel j M w)(he:cy j M w bt a){y:Operand}{z:gQ}(hop:o.op = .panic y)(hz:ef y=some z)(h:dZ C bt M (.raise z)=some x) :
  ∃u,(execOp a.eval o).run P w = .halt (.panic u) w/\GS j M w x u w:=by
 simp only[dZ] at h;have h1:=cH he hz;split at h
 ·rename_i v e;split at h
  ·rename_i t u;cases h;rw[e] at h1;refine⟨.iface t u,?_,rfl,j,hr,Ext.refl j M w⟩;have:a.eval y = .iface t u:=h1.Mw;simp[execOp,hop,Instr.panic,this]
  ·cases h
 ·cases h
end
section
variable {P:Program} {C:eO} {o:Oper} {bt:Env} {M:aL} {j:J} {w:World} {a:Act} {x:ag×aL}
def TD(he:cy j M w bt a){y:Operand}{z:gQ}(hz:Pu y=some z):fY j M w (z.ev bt) (a.eval y):=by
 unfold Pu at hz;split at hz
 ·cases hz;exact .plain (.raw _ rfl)
 ·exact cH he hz
def PZ{n:Nat}(he:cy j M w bt a):∀ {parts:List (Nat×Operand)} {ps:List (Nat×Nat×gQ)} {cs cs':List ag} {cells:Array Value},
  xm n parts=some ps->lu bt cs ps=some cs'->RC j M w cs cells ->
  ∃cells',Instr.fill (fun i=>some (i*n,n)) cells (parts.map fun p=>(p.1,a.eval p.2))=some cells'/\RC j M w cs' cells':=by
 intro parts;induction parts with
 |nil =>
  intro ps cs cs' cells h1 h2 h3;simp[xm] at h1; subst h1;simp[lu] at h2; subst h2;exact⟨cells,rfl,h3⟩
 |cons p r ih =>
  intro ps cs cs' cells h1 h2 h3;obtain⟨i,y⟩:=p;simp only[xm] at h1;obtain⟨z,hz,h1⟩:=ba h1;obtain⟨l,hl,h1⟩:=ba h1;cases h1;simp only[lu] at h2;obtain⟨new,iv,h2⟩:=bo h2;split at h2
  ·rename_i hc;obtain⟨c1,c2⟩:=hc;have hrc:=tp (cH he hz) iv;obtain⟨cells',e1,e2⟩:=ih hl h2 (h3.write (off:=i*n) hrc (by omega))
   refine⟨cells',?_,e2⟩;have hs1:=hrc.1;have hs2:=h3.1;simp only[aW,Instr.fill];rw[ak (by simp; omega)]
   exact e1
  ·cases h2
def Oa(hr:Rel j M w)(he:cy j M w bt a){t e:TypeId}{len n:Nat}{parts:Array (Nat×Operand)}{i:TypeInfo}{zv:Value}{l:List ag}{ps:List (Nat×Nat×gQ)}(hop:o.op = .build t parts)
  (ht:P.underlying t=some (.array len e)) (hi:P.info? t=some i) (hzv:i.zero=some zv) (hl:sR zv.cells.toList=some l) (hn:qv P e=some n) (hps:xm n parts.toList=some ps)
  (h:dZ C bt M (.build l ps)=some x):∃v w',qU P o a w v w'/\iJ j M w x v w':=by
 simp only[dZ] at h;obtain⟨cs,hcs,h⟩:=bo h;cases h;obtain⟨h1,h2⟩:=pU (j:=j) (M:=M) (w:=w) hl;obtain⟨cells',e1,e2⟩:=PZ (n:=n) he hps hcs (cells:=zv.cells) ⟨by simpa using h1,fun i c v hc hv=>h2 i c v hc (by simpa using hv)⟩
 refine⟨.agg cells',w,.inl ?_,.still hr (.agg e2.1 e2.2)⟩;have e1':Instr.fill (fun i=>some (i*n,n)) zv.cells (parts.map fun p=>(p.1,a.eval p.2)).toList=some cells':=by simpa using e1
 simp only[execOp,hop,Instr.build,zeroValue,Sem.run_bind,pC hi,Result.andThen_ok,hzv,Sem.run_pure,dA ht,jd hn];simp only[e1',Sem.run_pure,Result.andThen_ok]
def J1{a b:ag}{r:Bool}(h:il .i a b=some r):∃k x y,a = .int k x/\b = .int k y/\r=(x==y):=by
 cases a<;>cases b<;>first
  |(simp only[il] at h
    split at h
    ·rename_i hk; subst hk; injection h with h; exact⟨_,_,_,rfl,rfl,h.symm⟩
    ·cases h)
  |cases h
def Bc{d:Nat}{e:TypeId}{k0:IntKind}(hk:P.underlying e=some (.int k0))(hc1:P.cellsOf e=1){cs ds:List ag}{us vs:Array Value}(hc:RC j M w cs us)(hd:RC j M w ds vs):∀(n k:Nat){r:Bool},kO (List.replicate n .i) (cs.drop k) (ds.drop k)=some r ->
  (Op.eqItems (d+1) e (P.cellsOf e) us vs (List.range' k n)).run P w = .ok r w
 |0,k,r,h2=>by
  unfold kO at h2;split at h2<;>simp_all [Op.eqItems]
 |n+1,k,r,h2=>by
  have hk1:k<cs.length:=by
   rcases bH k cs.length with h|h
   ·exact h
   ·rw[iQ h,iM] at h2; simp[kO] at h2
  have hk2:k<ds.length:=by
   rcases bH k ds.length with h|h
   ·exact h
   ·rw[iQ h,cC hk1,iM] at h2;simp[kO] at h2
  rw[cC hk1,cC hk2,iM] at h2;simp only[kO] at h2;obtain⟨e1,he1,h2⟩:=bo h2;obtain⟨e2,he2,h2⟩:=bo h2;cases h2;have hlu:k<us.size:=by have:=hc.1; omega
  have hlv:k<vs.size:=by have:=hd.1; omega
  have hu:=bb hlu;have hv:=bb hlv;have ih:=Bc (d:=d) hk hc1 hc hd n (k+1) he2;have hr1:=hc.2 k _ _ (aj hk1) hu;have hr2:=hd.2 k _ _ (aj hk2) hv;have hag:BE P e=some false:=by simp[BE,hk]
  have p1:(part e us (k*P.cellsOf e)).run P w = .ok us[k] w:=by simp[part,kR hag,hc1,hu]
  have p2:(part e vs (k*P.cellsOf e)).run P w = .ok vs[k] w:=by simp[part,kR hag,hc1,hv]
  have p3:(Op.equalIn (d+1) e us[k] vs[k]).run P w = .ok e1 w:=by
   obtain⟨kk,x,y,e3,e4,rfl⟩:=J1 he1;rw[e3] at hr1; rw[e4] at hr2;rw[hr1.fP,hr2.fP];exact run_equalIn_int w d e _ _ x y hk
  rw[List.range'_succ];simp only[Op.eqItems,Sem.run_bind,p1,p2,p3,Result.andThen_ok];cases e1
  ·simp
  ·simpa using ih
def Tn(hr:Rel j M w)(he:cy j M w bt a){y y':Operand}{z z':gQ}{t t' e:TypeId}{len:Nat}{k0:IntKind}(hop:o.op = .binOp .eql t y y' t')(ht:P.underlying t=some (.array len e))(hk:P.underlying e=some (.int k0))(hs:qv P e=some 1)
  (hz:ef y=some z) (hz':ef y'=some z') (h:dZ C bt M (.XO (List.replicate len .i) false z z')=some x):∃v w',qU P o a w v w'/\iJ j M w x v w':=by
 simp only[dZ] at h;have h1:=cH he hz;have h2:=cH he hz';split at h
 ·rename_i cs ds ez ez';obtain⟨r,hee,h⟩:=bo h;cases h;rw[ez] at h1;rw[ez'] at h2;obtain⟨us,hus,hul,huc⟩:=h1.mc;obtain⟨vs,hvs,hvl,hvc⟩:=h2.mc;obtain⟨inf,hinf,hsz⟩:=Dz hs;have hc1:P.cellsOf e=1:=by simp[Program.cellsOf,hinf,hsz]
  have heq:(Op.equal t (.agg us) (.agg vs)).run P w = .ok r w:=by
   unfold Op.equal;rw[show Op.maxDepth=9998+1+1 from rfl,run_equalIn_array w (9998+1) us vs ht hinf,ny]
   exact Bc (d:=9998) hk hc1 ⟨hul,huc⟩ ⟨hvl,hvc⟩ len 0 (by simpa using hee)
  have hgt:P.eqGuardType P.depth t=false:=by
   unfold Program.depth;rw[show 2*(P.types.size+Made.depth)+2=(2*(P.types.size+Made.depth))+1+1 from rfl,Program.eqGuardType,ht]
   simp only[Program.eqGuardType,hk]
  have hguard:∀op,(eqGuard op t y y' (.agg us) (.agg vs)).run P w = .ok () w:=by
   intro op;unfold eqGuard;cases op<;>simp[hgt]
  exact⟨.bool r,w,.inl (by simp[execOp,hop,hus,hvs,hguard,binOp,heq]),.still hr (.plain (.bool _))⟩
 ·cases h
def tX{l:List ag}(hp:0<l.length)(h1:l.all ag.plainCell=true):(ag.agg l).norm.cells=l:=by
 match l with
 | []=>simp at hp
 | [c] =>
  simp only[j9,List.all_nil,eX] at h1
  show c.cells=[c]
  cases c<;>first|rfl|cases h1
 |_::_::_=>rfl
def S0(z:Array Value)(n k:Nat)(h:k<n)(hz:0<z.size):(madeCells z n)[k]?=z[k % z.size]?:=by
 have hm:k % z.size<z.size:=iI _ hz;rw[bb hm];simp[madeCells,h,hm]
def MQ(w:World)(hU:Nat->Nat->Prop){v:Value}{c:ag}(h:Jv v=some c):fI w hU c.shut v:=by
 unfold Jv at h
 split at h<;>first
  |(cases h; first|exact .bool _|exact .int _ _|exact .str _|exact .raw _ rfl|exact fI.nil _ _ _)
  |cases h
def GV:∀ {vs:List Value} {l:List ag},sR vs=some l->∀(i:Nat)(c:ag)(v:Value),l[i]?=some c->vs[i]?=some v->Jv v=some c
 | [],l,h,i,c,v,h1,h2=>by simp at h2
 |u::r,l,h,i,c,v,h1,h2=>by
  simp only[sR] at h;obtain⟨x,hx,h⟩:=ba h;obtain⟨l',hl,h⟩:=ba h;cases h;cases i with
  |zero=>simp at h1 h2; subst h1; subst h2; exact hx
  |succ i=>exact GV hl i c v (by simpa using h1) (by simpa using h2)
def Md{t e:TypeId}{i:TypeInfo}{zv:Value}{l:List ag}{y:Operand}{k:Int}{kk:IntKind}(hop:o.op = .makeSlice t y y)(ht:P.underlying t=some (.slice e))(hi:P.info? e=some i)(hzv:i.zero=some zv)
  (hl:sR zv.cells.toList=some l) (c1:l.length=i.size) (c2:0<i.size) (c3:i.bytes<=8*i.size) (hev:a.eval y = .int kk k) (h0:0<=k) (hroom:dQ k.toNat (8*(l.map ag.shut).length)) (hpl:(l.map ag.shut).all ag.plainCell=true) :
  ∃row:Array Value,(execOp a.eval o).run P w = .ok (.value (.slice (some ⟨w.heap.size,0,none⟩) k.toNat k.toNat)) (w.alloc (.cells row e))/\row.size=k.toNat*i.size /\
   ∀hU (w':World) (q:Nat) (x:ag) (p:Nat) (c:ag),(List.replicate k.toNat (ag.agg (l.map ag.shut)).norm)[q]?=some x->x.cells[p]?=some c->∃v,row[q*i.size+p]?=some v/\fI w' hU c v:=by
 have hls:(l.map ag.shut).length=i.size:=by simpa using c1
 have hzs:zv.cells.size=i.size:=by
  have:=(pU (j:=⟨fun _=>none,fun _ _=>False⟩) (M:=[]) (w:=w) hl).1
  simp at this; omega
 unfold dQ at hroom;rw[hls] at hroom
 have hb:i.bytes*k.toNat<=2 ^ 44:=by
  refine bj ?_ hroom;rw[Nat.mul_comm];exact Nat.mul_le_mul_left _ c3
 have hk44:k.toNat<=2 ^ 44:=bj (fx _ (by omega)) hroom
 have hrun:=run_make (P:=P) w t e i zv ht hi hzv kk kk k k h0 (fJ _) (by
  have:((i.bytes*k.toNat:Nat):Int)<=2 ^ 44:=by exact_mod_cast hb
  rw[Int.natCast_mul,oc h0] at this;omega) (by omega)
 refine⟨madeCells zv.cells (k.toNat*i.size),by simp[execOp,hop,hev,hrun],size_madeCells _ _,fun hU w' q x p c hx hc=>?_⟩
 rw[jI] at hx;split at hx
 ·rename_i hq;cases hx;rw[tX (by omega) hpl] at hc
  have hp:p<i.size:=by rw[<-hls]; exact aF hc
  have cu:q*i.size+p<k.toNat*i.size:=by
   have:(q+1)*i.size<=k.toNat*i.size:=bf _ hq;rw[bP,fK] at this;omega
  rw[S0 _ _ _ cu (by omega),hzs,Nat.add_comm,Nat.add_mul_mod_self_right,Nat.mod_eq_of_lt hp]
  rw[aZ,aO] at hc;obtain⟨c0,hc0,rfl⟩:=hc;have hpz:p<zv.cells.size:=by omega
  have hv:=bb hpz;refine⟨_,hv,?_⟩;exact MQ w' hU (GV hl p c0 _ hc0 (by simp))
 ·cases hx
def Tx(hr:Rel j M w)(he:cy j M w bt a){t e:TypeId}{i:TypeInfo}{zv:Value}{l:List ag}{y:Operand}{z:gQ}(hop:o.op = .makeSlice t y y)(ht:P.underlying t=some (.slice e))(hi:P.info? e=some i)(hzv:i.zero=some zv)
  (hl:sR zv.cells.toList=some l) (hz:ef y=some z) (c1:l.length=i.size) (c2:0<i.size) (c3:i.bytes<=8*i.size) (h:dZ C bt M (.mkS (l.map ag.shut) z)=some x):∃v w',qU P o a w v w'/\iJ j M w x v w':=by
 simp only[dZ] at h;have h1:=cH he hz;split at h
 ·rename_i kk k ek;obtain⟨⟨h0,hroom,hpl⟩,h⟩:=di h;cases h;rw[ek] at h1;obtain⟨row,hrun,hsz,hel⟩:=Md (w:=w) hop ht hi hzv hl c1 c2 c3 h1.fP h0 hroom hpl;have hls:(l.map ag.shut).length=i.size:=by simpa using c1
  obtain⟨q,hb,iv⟩:=pL (w:=w) (.cells row e (0,0));refine⟨_,{ w with heap:=w.heap.push (.cells row e (0,0)) },.inl hrun,?_⟩
  have ext:Ext j M w j M { w with heap:=w.heap.push (.cells row e (0,0)) }:=Ext.grow q.size rfl rfl rfl hb
  have rel:Rel j M { w with heap:=w.heap.push (.cells row e (0,0)) }:=hr.grow q.size rfl rfl rfl hb
  refine⟨j,rel,ext,.plain (.slice _ _ _ _ w.heap.size 0 i.size (fun p=>(row[p]?).getD undef) (by simp) (ar _) (fun _=>rfl) (fun x hx=>?_) (fun n y k c hn hk=>?_) (fun n y k c hn hk=>?_))⟩
  ·obtain⟨_,rfl⟩:=List.mem_replicate.1 hx;rw[tX (by omega) hpl,hls]
  ·obtain⟨u,hu,_⟩:=hel (nV j M { w with heap:=w.heap.push (.cells row e (0,0)) }) { w with heap:=w.heap.push (.cells row e (0,0)) } n y k c hn hk
   refine⟨?_,by simp,fun id hid hj=>?_,fun hx=>absurd (hr.zK _ _ hx) (iP _)⟩
   ·simp only[World.cell?,iv,aQ,hu];rfl
   ·have:=hr.lt id _ hid hj;omega
  ·obtain⟨u,hu,hru⟩:=hel (nV j M { w with heap:=w.heap.push (.cells row e (0,0)) }) { w with heap:=w.heap.push (.cells row e (0,0)) } n y k c hn hk
   rw[hu];exact hru
 ·cases h
def WY(hr:Rel j M w)(he:cy j M w bt a){t e:TypeId}{i:TypeInfo}{zv:Value}{l:List ag}{y:Operand}{z:gQ}(hop:o.op = .makeSlice t y y)(ht:P.underlying t=some (.slice e))(hi:P.info? e=some i)(hzv:i.zero=some zv)
  (hl:sR zv.cells.toList=some l) (hz:ef y=some z) (c1:l.length=i.size) (c2:0<i.size) (c3:i.bytes<=8*i.size) (h:dZ C bt M (.N6 (l.map ag.shut) z)=some x):∃v w',qU P o a w v w'/\iJ j M w x v w':=by
 simp only[dZ] at h;have h1:=cH he hz;split at h
 ·rename_i kk k ek;obtain⟨⟨h0,hroom,hpl⟩,h⟩:=di h;cases h;rw[ek] at h1;obtain⟨row,hrun,hsz,hel⟩:=Md (w:=w) hop ht hi hzv hl c1 c2 c3 h1.fP h0 hroom hpl;have hls:(l.map ag.shut).length=i.size:=by simpa using c1
  rw[hls];obtain⟨q,hb,iv⟩:=pL (w:=w) (.cells row e (0,0));have hob:∀b,some w.heap.size=some b->w.heap.size<=b/\b<({ w with heap:=w.heap.push (.cells row e (0,0)) }:World).heap.size:=fun b h=>by cases h; simp
  have ext:Ext j M w (gy j M.length (some w.heap.size)) (M++[.arr i.size 0 (List.replicate k.toNat (ag.agg (l.map ag.shut)).norm)]) { w with heap:=w.heap.push (.cells row e (0,0)) }:=Ext.push (fun b hb=>(hob b hb).1) q hb
  refine⟨_,{ w with heap:=w.heap.push (.cells row e (0,0)) },.inl hrun,gy j M.length (some w.heap.size),hr.push hob q hb (fun h=>by cases h) (fun sz n b h _=>by cases h) (fun sz0 v0 xs0 he=>?_),ext,?_⟩
  ·injection he with e1 e2 e3
   subst e1; subst e2; subst e3;refine .inr ⟨w.heap.size,row,e,rfl,iv,by simp[hsz],fun x hx=>?_,fun j' M' hx q0 x p c hq hp=>hel (nV j' M' { w with heap:=w.heap.push (.cells row e (0,0)) }) { w with heap:=w.heap.push (.cells row e (0,0)) } q0 x p c hq hp⟩
   obtain⟨_,rfl⟩:=List.mem_replicate.1 hx;rw[tX (by omega) hpl,hls]
  ·refine .dk (.inl ⟨_,_,_,by rw[bV],by omega⟩) (by simp) (fun bx hbx=>by rw[lO] at hbx; cases hbx; rfl) fun sz' v' ys hx=>?_
   rw[lO] at hx; injection hx with hx; injection hx with e1 e2 e3
   subst e1; subst e2; subst e3;exact⟨ar _,fun _=>⟨rfl,cA _,by simp,.inr ⟨w.heap.size,k.toNat,row,e,by simp[gy],by simp,by omega,iv,by rw[aQ]; omega⟩⟩⟩
 ·cases h
end
section
variable {j:J} {M:aL} {w w':World}
def Ext.uw{k b' sz ver ver':Nat}{xs xs':List ag}(hM:M[k]?=some (.arr sz ver xs))(q:Quiet w w')(hb:∀b,b<w.heap.size->w'.heap[b]?=w.heap[b]?)(hf:w.heap.size<=b')(hn:ver<ver') :
  Ext j M w (gy j k (some b')) (M.set k (.arr sz ver' xs')) w' where
 len:=by simp
 size:=q.size
 os:=q.os
 tape:=q.tape
 output:=q.output
 X:=rfl
 fix:=fun i b0 h hf=>by
  have e:k≠i:=by rintro rfl; rw[hM] at h; cases h; cases hf
  exact⟨by simp[gy,dD e],b0,by rw[cE e]; exact h,rfl⟩
 tick:=fun i sz0 n0 h=>by
  have e:k≠i:=by rintro rfl; rw[hM] at h; cases h
  exact⟨n0,ar _,by rw[cE e]; exact h,fun _=>⟨by simp[gy,dD e],fun b vs0 t0 _ hv=>⟨vs0,(hb b (lt_of_block hv)).trans hv,rfl⟩⟩⟩
 arr:=fun i sz0 v0 xs0 h=>by
  by_cases e:k=i
  ·subst e;rw[hM] at h;injection h with h; injection h with h1 h2 h3
   subst h1; subst h2; subst h3;exact .inr ⟨ver',xs',dG (aF hM),by omega,fun he=>by omega⟩
  ·exact .inr ⟨v0,xs0,by rw[cE e]; exact h,ar _,fun _=>⟨by simp[gy,dD e],rfl,fun b vs0 t0 _ hv=>⟨vs0,(hb b (lt_of_block hv)).trans hv,rfl⟩⟩⟩
 tags:=fun b0 vs0 t0 fr0 h=>⟨vs0,fr0,(hb b0 (lt_of_block h)).trans h,rfl⟩
 hU:=fun b0 off h=>by
  refine⟨⟨bq h.1 q.size,fun i hi hji=>?_,h.3⟩,World.cell?_of_block (w:=w) (hb b0 h.1)⟩
  have e:k≠i:=by
   rintro rfl;have:b'=b0:=by simpa[gy] using hji
   have:=h.1;omega
  rw[cE e];exact h.2 i (by simpa using hi) (by simpa[gy,dD e] using hji)
 ur:=fun b0 cu h=>by
  refine⟨hb b0 cu,fun i hi hji=>?_⟩
  by_cases e:i=k
  ·have:b'=b0:=by simpa[gy,e] using hji
   omega
  ·exact h i (by simpa using hi) (by simpa[gy,e] using hji)
def Rel.uw{k b' sz ver ver':Nat}{xs xs':List ag}(hM:M[k]?=some (.arr sz ver xs))(hr:Rel j M w)(q:Quiet w w')(hb:∀b,b<w.heap.size->w'.heap[b]?=w.heap[b]?)
  (hf:w.heap.size<=b') (cu:b'<w'.heap.size) (hn:ver<ver') (hh:∀j' M',Ext j M w j' M' w'->DR j' M' w' b' sz xs'):Rel (gy j k (some b')) (M.set k (.arr sz ver' xs')) w':=by
 have ext:Ext j M w (gy j k (some b')) (M.set k (.arr sz ver' xs')) w':=Ext.uw hM q hb hf hn;refine⟨fun i i' b0 hi hi' h h'=>?_,fun i b0 hi h=>?_,fun i bx0 h hf=>?_,fun i sz0 n0 b0 h hji=>?_,fun i sz0 v0 xs0 h=>?_,fun i b0 hi h off hx=>?_,fun b0 off h=>bq (hr.zK b0 off h) q.size⟩
 ·simp only[ei] at hi hi'
  by_cases e:i=k<;>by_cases e':i'=k
  ·omega
  ·have h1:b'=b0:=by simpa[gy,e] using h
   have:=hr.lt i' b0 hi' (by simpa[gy,e'] using h')
   omega
  ·have h1:b'=b0:=by simpa[gy,e'] using h'
   have:=hr.lt i b0 hi (by simpa[gy,e] using h)
   omega
  ·exact hr.inj i i' b0 hi hi' (by simpa[gy,e] using h) (by simpa[gy,e'] using h')
 ·simp only[ei] at hi
  by_cases e:i=k
  ·have h1:b'=b0:=by simpa[gy,e] using h
   subst h1;exact cu
  ·exact bq (hr.lt i b0 hi (by simpa[gy,e] using h)) q.size
 ·have e:k≠i:=by rintro rfl; rw[dG (aF hM)] at h; cases h; cases hf
  rw[cE e] at h;obtain⟨b0,h1,h2⟩:=hr.fix i bx0 h hf;exact⟨b0,by simpa[gy,dD e] using h1,h2.mono ext (hb b0 (hr.lt i b0 (aF h) h1))⟩
 ·have e:k≠i:=by rintro rfl; rw[dG (aF hM)] at h; cases h
  rw[cE e] at h;obtain⟨vs0,t0,h1⟩:=hr.tick i sz0 n0 b0 h (by simpa[gy,dD e] using hji)
  exact⟨vs0,t0,(hb b0 (lt_of_block h1)).trans h1⟩
 ·by_cases e:k=i
  ·subst e;rw[dG (aF hM)] at h;injection h with h; injection h with e1 e2 e3
   subst e1; subst e2; subst e3;obtain⟨vs,t,g⟩:=hh _ _ ext;exact .inr ⟨b',vs,t,by simp[gy],g⟩
  ·rw[cE e] at h;exact pV hr ext h (by simp[gy,dD e]) fun b0 h1=>hb b0 (hr.lt i b0 (aF h) h1)
 ·by_cases e:i=k
  ·have h1:b'=b0:=by simpa[gy,e] using h
   have h2:=hr.zK b0 off hx;omega
  ·exact hr.uG i b0 (by simpa using hi) (by simpa[gy,e] using h) off hx
def nH{hU:Nat->Nat->Prop}{xs:List ag}{v:Value}{size:Nat}(hx:fI w hU (.slice .sh xs) v)(hw:wid xs size):∃A cap,v = .slice A xs.length cap/\xs.length<=cap /\
  (xs=[]\/∃b off,A=some ⟨b,off,none⟩/\∃us:List Value,RL w hU (jD xs) us/\us.length=xs.length*size/\(∀u,u∈us->u.oneCell'=true)/\∀p u,us[p]?=some u->w.cell? ⟨b,off+p,none⟩=some u/\hU b (off+p)):=by
 cases hx with
 |slice _ A len cap b off sz vs hl hc ha hz hs hr =>
  subst hl;refine⟨A,cap,rfl,hc,?_⟩;rcases eI xs with h0|⟨_,_,h0⟩
  ·exact .inl h0
  ·have hne:xs≠[]:=by rw[h0]; simp
   have hsz:sz=size:=by
    obtain⟨x,r,hxr⟩:=ft hne;have hm:x∈xs:=by rw[hxr]; exact aD ..
    rw[<-hz x hm,hw x hm]
   subst hsz;have eY:((List.range (xs.length*sz)).map vs).length=xs.length*sz:=by simp
   have hrl:RL w hU (jD xs) ((List.range (xs.length*sz)).map vs):=by
    refine⟨by rw[im hw,eY],fun p c v hc hv=>?_⟩
    obtain⟨q,x,k,h1,h2,rfl⟩:=CG hw hc;have cu:q*sz+k<xs.length*sz:=by rw[<-im hw]; exact aF hc
    rw[aZ,fM cu] at hv;simp only[cB] at hv;cases hv;exact hr q x k c h1 h2
   refine .inr ⟨b,off,ha hne,_,hrl,eY,fun u hu=>?_,fun p u hu=>?_⟩
   ·obtain⟨p,hp⟩:=bO hu;have hp':p<(jD xs).length:=by rw[hrl.1]; exact aF hp
    exact fI.one (hrl.2 p _ u (aj hp') hp)
   ·have hp':p<(jD xs).length:=by rw[hrl.1]; exact aF hu
    obtain⟨q,x,k,h1,h2,rfl⟩:=CG hw (aj hp');have cu:q*sz+k<xs.length*sz:=by rw[<-im hw]; exact hp'
    rw[aZ,fM cu] at hu;simp only[cB] at hu;cases hu;exact hs q x k _ h1 h2
end
end
end Go.Abs
