import Derived.KernelRfl
import Derived.Laws.Strings
import Derived.Laws.StructEq
import Derived.MapKept
import Derived.Laws.IdiomStrings
import Derived.Laws.MakeOwn
import Derived.ChangeKeysEq
import Derived.Test.YtcbopkblmebjiaaGreatDoorFduA
set_option linter.unusedSimpArgs false
set_option linter.unusedVariables false
set_option linter.unusedSectionVars false
set_option linter.defProp false
open Go.Proofs.Tryz
set_option linter.defProp false
set_option maxRecDepth 100000
namespace Go.Proofs.YtcbopkblmebjiaaGreatDoor
open Go Go.Abs
def abY:Ko [] f65:=by apply Subtype.mk; cbv
def b65:=abY.1
def ags:=eP.mk 1 [.tmp 2] (sub b65 0)
def Sg:Ko [] f232:=by apply Subtype.mk; cbv
def afm:=Sg.1
def YP:=eP.mk 2 [.tmp 4,.tmp 5] (sub afm 0)
def RN:Ko [] f177:=by apply Subtype.mk; cbv
def aeY:=RN.1
def Yx:=eP.mk 2 [.fD 4 6,.tmp 5] (sub aeY 0)
def R3:Ko [] f216:=by apply Subtype.mk; cbv
def ae9:=R3.1
def YH:=eP.mk 2 [.fD 4 6,.tmp 5] (sub ae9 0)
def Q0:Ko [] f126:=by apply Subtype.mk; cbv
def Z6:=Q0.1
def Hw:=eP.mk 1 [.tmp 2] (sub Z6 0)
abbrev LW:=sub Z6 15
def Sl:Ko [] f253:=by apply Subtype.mk; cbv
def aaj:=Sl.1
def YT:=eP.mk 3 [.tmp 6,.tmp 7] (sub aaj 0)
abbrev V9:=sub aaj 9
def Sm:Ko [] f254:=by apply Subtype.mk; cbv
def afq:=Sm.1
def YU:=eP.mk 2 [.tmp 4] (sub afq 0)
def Rb:Ko [] f138:=by apply Subtype.mk; cbv
def aey:=Rb.1
def Yc:=eP.mk 2 [.tmp 4] (sub aey 0)
def oV:=by
 have h:=bQ (fW b65 abY.1) (bQ (fW afm Sg.1) (bQ (fW aeY RN.1) (bQ (fW ae9 R3.1) (bQ (fW Z6 Q0.1) (bQ (fW aaj Sl.1) (bQ (fW afq Sm.1) (fW aey Rb.1)))))));simp only[abY,Sg,RN,R3,Q0,Sl,Sm,Rb,yO,seval] at h;exact h
def E65:=oV.1
def aiV:=oV.2.1
def ZF:=oV.2.2.1
def UC:=oV.2.2.2.1
def vW:=oV.2.2.2.2.1
def GL:=oV.2.2.2.2.2.1
def aiZ:=oV.2.2.2.2.2.2.1
def aiA:=oV.2.2.2.2.2.2.2
def Sc:Ko [] f228:=by apply Subtype.mk; cbv
def afh:=Sc.1
def YL:=eP.mk 2 [.tmp 4,.tmp 5] (sub afh 0)
def RJ:Ko [] f175:=by apply Subtype.mk; cbv
def aeX:=RJ.1
def Yv:=eP.mk 3 [.tmp 6,.tmp 7] (sub aeX 0)
def QK:Ko [] f106:=by apply Subtype.mk; cbv
def aej:=QK.1
def XT:=eP.mk 2 [.fD 4 6,.tmp 5] (sub aej 0)
def RV:Ko [9] f202:=by apply Subtype.mk; cbv
def aaf:=RV.1
def Qd:=eP.mk 2 [.tmp 4] (sub aaf 0)
def ahI:wj [9] f202 Qd:=fR
abbrev V5:=sub aaf 7
def Sj:Ko [] f248:=by apply Subtype.mk; cbv
def afo:=Sj.1
def YQ:=eP.mk 2 [.tmp 4] (sub afo 0)
def R7:Ko [1000234,1000249] f223:=by apply Subtype.mk; cbv
def afc:=R7.1
def Qe:=eP.mk 2 [] (sub afc 0)
def ahK:wj [1000234,1000249] f223 Qe:=fR
def RO:Ko [1000234,1000233] f178:=by apply Subtype.mk; cbv
def aeZ:=RO.1
def Qa:=eP.mk 2 [] (sub aeZ 0)
def ahF:wj [1000234,1000233] f178 Qa:=fR
def R8:Ko [1000218,1000250,2000223] f224:=by apply Subtype.mk; cbv
def afd:=R8.1
def Qf:=eP.mk 4 [] (sub afd 0)
def ahL:wj [1000218,1000250,2000223] f224 Qf:=fR
def oW:=by
 have h:=bQ (fW afh Sc.1) (bQ (fW aeX RJ.1) (bQ (fW aej QK.1) (bQ (fW aaf RV.1) (bQ (fW afo Sj.1) (bQ (fW afc R7.1) (bQ (fW aeZ RO.1) (fW afd R8.1)))))));simp only[Sc,RJ,QK,RV,Sj,R7,RO,R8,yO,seval] at h;exact h
def aiS:=oW.1
def Jf:=oW.2.1
def ait:=oW.2.2.1
def Bw:=oW.2.2.2.1
def aiX:=oW.2.2.2.2.1
def ZI:=oW.2.2.2.2.2.1
def ZG:=oW.2.2.2.2.2.2.1
def O5:=oW.2.2.2.2.2.2.2
def Sa:Ko [1000218,1000252,2000223] f226:=by apply Subtype.mk; cbv
def aff:=Sa.1
def Qh:=eP.mk 3 [] (sub aff 0)
def ahM:wj [1000218,1000252,2000223] f226 Qh:=fR
def Sb:Ko [] f227:=by apply Subtype.mk; cbv
def afg:=Sb.1
def YK:=eP.mk 2 [] (sub afg 0)
def R6:Ko [] f222:=by apply Subtype.mk; cbv
def afb:=R6.1
def YJ:=eP.mk 3 [.tmp 6] (sub afb 0)
def Se:Ko [] f230:=by apply Subtype.mk; cbv
def afk:=Se.1
def YN:=eP.mk 2 [.tmp 4] (sub afk 0)
def QI:Ko [] f104:=by apply Subtype.mk; cbv
def aei:=QI.1
def XR:=eP.mk 2 [.fD 4 3,.tmp 5] (sub aei 0)
def RF:Ko [] f171:=by apply Subtype.mk; cbv
def aeT:=RF.1
def Yq:=eP.mk 4 [.fD 8 3,.tmp 9,.tmp 10] (sub aeT 0)
def RG:Ko [] f172:=by apply Subtype.mk; cbv
def aeU:=RG.1
def Yr:=eP.mk 4 [.fD 8 3,.tmp 9] (sub aeU 0)
def RI:Ko [] f174:=by apply Subtype.mk; cbv
def aeW:=RI.1
def Yu:=eP.mk 3 [.fD 6 3,.tmp 7,.tmp 8] (sub aeW 0)
def nJ:=by
 have h:=bQ (fW aff Sa.1) (bQ (fW afg Sb.1) (bQ (fW afb R6.1) (bQ (fW afk Se.1) (bQ (fW aei QI.1) (bQ (fW aeT RF.1) (bQ (fW aeU RG.1) (fW aeW RI.1)))))));simp only[Sa,Sb,R6,Se,QI,RF,RG,RI,yO,seval] at h;exact h
def UD:=nJ.1
def ZJ:=nJ.2.1
def GK:=nJ.2.2.1
def ad1:=nJ.2.2.2.1
def adR:=nJ.2.2.2.2.1
def ZD:=nJ.2.2.2.2.2.1
def ZE:=nJ.2.2.2.2.2.2.1
def O3:=nJ.2.2.2.2.2.2.2
def Sn:Ko [] f255:=by apply Subtype.mk; cbv
def aak:=Sn.1
def YV:=eP.mk 2 [.tmp 4] (sub aak 0)
abbrev Wa:=sub aak 7
def Sd:Ko [] f229:=by apply Subtype.mk; cbv
def afi:=Sd.1
def YM:=eP.mk 2 [.tmp 4] (sub afi 0)
def Sr:Ko [] f257:=by apply Subtype.mk; cbv
def afs:=Sr.1
def YX:=eP.mk 5 [.tmp 6] (sub afs 0)
def Sv:Ko [] f278:=by apply Subtype.mk; cbv
def aam:=Sv.1
def Y0:=eP.mk 2 [.tmp 4] (sub aam 0)
abbrev Wc:=sub aam 7
def Sq:Ko [] f256:=by apply Subtype.mk; cbv
def afr:=Sq.1
def YW:=eP.mk 2 [.tmp 4] (sub afr 0)
def Sf:Ko [] f231:=by apply Subtype.mk; cbv
def afl:=Sf.1
def YO:=eP.mk 3 [.tmp 6] (sub afl 0)
def RM:Ko [] f176:=by apply Subtype.mk; cbv
def aac:=RM.1
def Yw:=eP.mk 5 [.fD 10 3,.tmp 11,.tmp 12] (sub aac 0)
abbrev Mq:=sub aac 86
def Ss:Ko [] f258:=by apply Subtype.mk; cbv
def aal:=Ss.1
def YY:=eP.mk 3 [.tmp 6,.tmp 7] (sub aal 0)
abbrev Wb:=sub aal 9
def nK:=by
 have h:=bQ (fW aak Sn.1) (bQ (fW afi Sd.1) (bQ (fW afs Sr.1) (bQ (fW aam Sv.1) (bQ (fW afr Sq.1) (bQ (fW afl Sf.1) (bQ (fW aac RM.1) (fW aal Ss.1)))))));simp only[Sn,Sd,Sr,Sv,Sq,Sf,RM,Ss,yO,seval] at h;exact h
def Jh:=nK.1
def aiT:=nK.2.1
def ad2:=nK.2.2.1
def Ji:=nK.2.2.2.1
def ai0:=nK.2.2.2.2.1
def aiU:=nK.2.2.2.2.2.1
def x7:=nK.2.2.2.2.2.2.1
def GM:=nK.2.2.2.2.2.2.2
def St:Ko [] f259:=by apply Subtype.mk; cbv
def aft:=St.1
def YZ:=eP.mk 2 [.tmp 4] (sub aft 0)
def abU:Ko [] f60:=by apply Subtype.mk; cbv
def b60:=abU.1
def agp:=eP.mk 2 [.tmp 4] (sub b60 0)
def QZ:Ko [] f124:=by apply Subtype.mk; cbv
def aeq:=QZ.1
def X3:=eP.mk 1 [.tmp 2] (sub aeq 0)
def ab4:Ko [] f71:=by apply Subtype.mk; cbv
def b71:=ab4.1
def agw:=eP.mk 2 [.tmp 4] (sub b71 0)
def Q6:Ko [] f133:=by apply Subtype.mk; cbv
def aev:=Q6.1
def X7:=eP.mk 2 [.tmp 4] (sub aev 0)
def Q7:Ko [] f134:=by apply Subtype.mk; cbv
def aew:=Q7.1
def X8:=eP.mk 2 [.tmp 4] (sub aew 0)
def Q8:Ko [] f135:=by apply Subtype.mk; cbv
def Z8:=Q8.1
def X9:=eP.mk 2 [.tmp 4] (sub Z8 0)
abbrev VW:=sub Z8 15
def Q9:Ko [] f136:=by apply Subtype.mk; cbv
def Z9:=Q9.1
def Ya:=eP.mk 3 [.tmp 6] (sub Z9 0)
abbrev VX:=sub Z9 15
def nL:=by
 have h:=bQ (fW aft St.1) (bQ (fW b60 abU.1) (bQ (fW aeq QZ.1) (bQ (fW b71 ab4.1) (bQ (fW aev Q6.1) (bQ (fW aew Q7.1) (bQ (fW Z8 Q8.1) (fW Z9 Q9.1)))))));simp only[St,abU,QZ,ab4,Q6,Q7,Q8,Q9,yO,seval] at h;exact h
def ai1:=nL.1
def E60:=nL.2.1
def aiv:=nL.2.2.1
def E71:=nL.2.2.2.1
def adU:=nL.2.2.2.2.1
def aiy:=nL.2.2.2.2.2.1
def Fx:=nL.2.2.2.2.2.2.1
def Fy:=nL.2.2.2.2.2.2.2
def RA:Ko [1000218] f168:=by apply Subtype.mk; cbv
def aeQ:=RA.1
def xT:=eP.mk 4 [.tmp 8,.tmp 9,.tmp 10] (sub aeQ 0)
def ahE:wj [1000218] f168 xT:=fR
def Si:Ko [] f246:=by apply Subtype.mk; cbv
def aai:=Si.1
def Qi:=eP.mk 2 [.tmp 4] (sub aai 0)
abbrev V8:=sub aai 7
def R4:Ko [] f217:=by apply Subtype.mk; cbv
def aah:=R4.1
def LD:=eP.mk 2 [.tmp 4] (sub aah 0)
abbrev V7:=sub aah 17
def R5:Ko [] f219:=by apply Subtype.mk; cbv
def afa:=R5.1
def YI:=eP.mk 2 [.tmp 3] (sub afa 0)
def ahj:Ko [] f221:=by apply Subtype.mk; cbv
def aja:=ahj.1
def af4:=eP.mk 2 [.tmp 4] (sub aja 0)
def acb:Ko [] f78:=by apply Subtype.mk; cbv
def b78:=acb.1
def agA:=eP.mk 0 [.fD 0 3] (sub b78 0)
def Rs:Ko [] f156:=by apply Subtype.mk; cbv
def UW:=Rs.1
def Yk:=eP.mk 2 [.tmp 4,.tmp 5] (sub UW 0)
abbrev V2:=sub UW 19
abbrev adh:=sub UW 39
def Ry:Ko [] f161:=by apply Subtype.mk; cbv
def aeO:=Ry.1
def Yn:=eP.mk 1 [.tmp 2,.tmp 3,.tmp 4] (sub aeO 0)
def oU:=by
 have h:=bQ (fW aeQ RA.1) (bQ (fW aai Si.1) (bQ (fW aah R4.1) (bQ (fW afa R5.1) (bQ (fW b78 acb.1) (bQ (fW UW Rs.1) (fW aeO Ry.1))))));simp only[RA,Si,R4,R5,acb,Rs,Ry,yO,seval] at h;exact h
def GI:=oU.1
def FL:=oU.2.1
def FF:=oU.2.2.1
def aiR:=oU.2.2.2.1
def E78:=oU.2.2.2.2.1
def Jd:=oU.2.2.2.2.2.1
def Uy:=oU.2.2.2.2.2.2
end Go.Proofs.YtcbopkblmebjiaaGreatDoor
set_option linter.defProp false
set_option maxRecDepth 100000
namespace Go.Proofs.YtcbopkblmebjiaaGreatDoor
open Go Go.Abs
def RS:Ko [] f193:=by apply Subtype.mk; cbv
def ae2:=RS.1
def LB:=eP.mk 2 [.tmp 4,.tmp 5] (sub ae2 0)
def Sh:Ko [] f240:=by apply Subtype.mk; cbv
def afn:=Sh.1
def LF:=eP.mk 2 [.tmp 4,.tmp 5] (sub afn 0)
def Su:Ko [] f261:=by apply Subtype.mk; cbv
def afu:=Su.1
def Hy:=eP.mk 2 [.tmp 4] (sub afu 0)
def x8:=by
 have h:=And.intro (fW ae2 RS.1) (And.intro (fW afn Sh.1) (fW afu Su.1));simp only[RS,Sh,Su,yO,seval] at h;exact h
def aiN:=x8.1
def UE:=x8.2.1
def UF:=x8.2.2
end Go.Proofs.YtcbopkblmebjiaaGreatDoor
set_option linter.defProp false
set_option maxRecDepth 100000
namespace Go.Proofs.YtcbopkblmebjiaaGreatDoor
open Go Go.Abs
def abd:Ko [] f13:=by apply Subtype.mk; cbv
def b13:=abd.1
def afZ:=eP.mk 1 [.tmp 2] (sub b13 0)
def E13:=by
 have h:=fW b13 abd.1;simp only[abd,yO,seval] at h;exact h
end Go.Proofs.YtcbopkblmebjiaaGreatDoor
set_option linter.defProp false
set_option maxRecDepth 100000
namespace Go.Proofs.YtcbopkblmebjiaaGreatDoor
open Go Go.Abs
def ab8:Ko [] f75:=by apply Subtype.mk; cbv
def b75:=ab8.1
def agy:=eP.mk 1 [.tmp 2] (sub b75 0)
def Rj:Ko [] f146:=by apply Subtype.mk; cbv
def aeD:=Rj.1
def Yj:=eP.mk 1 [.tmp 2,.tmp 3] (sub aeD 0)
def Rk:Ko [] f147:=by apply Subtype.mk; cbv
def aeE:=Rk.1
def Hx:=eP.mk 4 [.tmp 8] (sub aeE 0)
def TI:cv :=
 (.seq (.region [
 ob 4 (.mv (.lg (.bool false)))] false [4]) (.ret))
def TJ:cv :=
 (.seq (.region [
 ob 26 (.mv (.tmp 9)),
 ob 27 (.not (.tmp 26)),
 ob 28 (.mv (.tmp 27)),
 og 29 28 false (.kC 0 (.tmp 7)),
 og 30 28 false (.js (.tmp 29)),
 og 31 28 false (.call 126 [(.tmp 30)]),
 og 32 28 false (.not (.tmp 31)),
 ob 33 (.pick (.tmp 28) (.lg (.bool true)) (.tmp 32)),
 ob 34 (.mv (.tmp 33)),
 og 35 34 false (.kC 2 (.tmp 7)),
 og 36 34 false (.js (.tmp 35)),
 og 37 34 false (.bin .lss (.tmp 36) (.lg (.int .i64 1))),
 ob 38 (.pick (.tmp 34) (.lg (.bool true)) (.tmp 37)),
 ob 39 (.mv (.tmp 38)),
 og 40 39 false (.kC 2 (.tmp 7)),
 og 41 39 false (.js (.tmp 40)),
 og 42 39 false (.mv (.tmp 0)),
 og 43 39 false (.chk (.tmp 42)),
 og 44 39 false (.kC 0 (.tmp 43)),
 og 45 39 false (.kC 2 (.tmp 44)),
 og 46 39 false (.js (.tmp 45)),
 og 47 39 false (.bin .geq (.tmp 41) (.tmp 46)),
 ob 48 (.pick (.tmp 39) (.lg (.bool true)) (.tmp 47)),
 ob 49 (.mv (.tmp 48)),
 og 50 49 false (.mv (.tmp 5)),
 og 51 49 false (.kC 2 (.tmp 7)),
 og 52 49 false (.js (.tmp 51)),
 og 53 49 false (.look .i (.bool false) false (.tmp 50) (.tmp 52)),
 ob 54 (.pick (.tmp 49) (.lg (.bool true)) (.tmp 53)),
 ob 55 (.mv (.tmp 54)),
 og 56 55 false (.mv (.tmp 6)),
 og 57 55 false (.bin .gtr (.tmp 56) (.lg (.int .i64 0))),
 og 58 55 false (.mv (.tmp 57)),
 og 59 58 true (.kC 4 (.tmp 3)),
 og 60 58 true (.js (.tmp 59)),
 og 61 58 true (.mv (.tmp 6)),
 og 62 58 true (.bin .sub (.tmp 61) (.lg (.int .i64 1))),
 og 63 58 true (.vQ 3 (.tmp 60) (.tmp 62)),
 og 64 58 true (.kC 0 (.tmp 63)),
 og 65 58 true (.js (.tmp 64)),
 og 66 58 true (.kC 0 (.tmp 7)),
 og 67 58 true (.js (.tmp 66)),
 og 68 58 true (.bin .geq (.tmp 65) (.tmp 67)),
 og 69 55 false (.pick (.tmp 58) (.tmp 68) (.lg (.bool false))),
 ob 70 (.pick (.tmp 55) (.lg (.bool true)) (.tmp 69))] true [0,3,5,7,12,13,14,70]) (.cond (.tmp 70) TI (.skip)))
def TK:cv :=
 (.region [
 ob 71 (.mv (.tmp 5)),
 ob 72 (.kC 2 (.tmp 7)),
 ob 73 (.js (.tmp 72)),
 ox (.gv .i (.tmp 71) (.tmp 73) (.lg (.bool true)))] false [0,3,5,12,13,14])
def TL:cv :=
 (.seq (.seq (.region [
 ob 20 (.mv (.tmp 0)),
 ob 21 (.kC 1 (.tmp 7)),
 ob 22 (.js (.tmp 21)),
 ob 23 (.call 232 [(.tmp 20),(.tmp 22)]),
 ob 19 (.mv (.tmp 23)),
 ob 24 (.extract (.tmp 19) 0),
 ob 25 (.extract (.tmp 19) 1),
 ob 8 (.mv (.tmp 24)),
 ob 9 (.mv (.tmp 25))] false [0,3,5,6,7,9,12,13,14]) TJ) TK)
def TM:cv :=
 (.region [
 ob 74 (.bin .add (.tmp 14) (.lg (.int .i64 1))),
 ob 14 (.mv (.tmp 74))] false [0,3,5,12,13,14])
def TN:cv :=
 (.seq (.block 1 (.seq (.region [
 ob 16 (.mv (.tmp 14)),
 ob 17 (.vQ 3 (.tmp 12) (.tmp 14)),
 ob 18 (.nz 3 (.tmp 17)),
 ob 7 (.sO [(.str []),(.int .i64 0),(.int .i64 0)]),
 ob 6 (.mv (.tmp 16)),
 ox (.store 3 (.tmp 7) (.tmp 18))] false [0,3,5,6,7,12,13,14]) TL)) TM)
def TP:cv :=
 (.seq (.cond (.tmp 15) (.skip) (.exit 0)) TN)
def LY:cv :=
 (.seq (.region [
 ob 15 (.bin .lss (.tmp 14) (.tmp 13))] false [0,3,5,12,13,14,15]) TP)
def TQ:cv :=
 (.block 0 (.loop [0,3,5,12,13,14] LY))
def TR:cv :=
 (.seq (.region [
 ob 75 (.kC 4 (.tmp 3)),
 ob 76 (.js (.tmp 75)),
 ob 77 (.Al (.tmp 76)),
 ob 78 (.bin .leq (.tmp 77) (.lg (.int .i64 64))),
 ob 4 (.mv (.tmp 78))] false [4]) (.ret))
def TS:cv :=
 (.seq (.seq (.region [
 ob 11 (.kC 4 (.tmp 3)),
 ob 12 (.js (.tmp 11)),
 ob 13 (.Al (.tmp 12)),
 ob 14 (.mv (.lg (.int .i64 0)))] false [0,3,5,12,13,14]) TQ) TR)
def Mr:cv :=
 (.seq (.region [
 ob 10 (.mkMap),
 ob 5 (.mv (.tmp 10))] false [0,3,5]) TS)
def UA:=bQ (gY TI.eq_1) (bQ (gY TJ.eq_1) (bQ (gY TK.eq_1) (bQ (gY TL.eq_1) (bQ (gY TM.eq_1) (bQ (gY TN.eq_1) (bQ (gY TP.eq_1) (bQ (gY LY.eq_1) (bQ (gY TQ.eq_1) (bQ (gY TR.eq_1) (bQ (gY TS.eq_1) (gY Mr.eq_1)))))))))))
def ZU:BZ:={ n:=79,own:=[],lv:=[(0,[0,3]),(1,[0,3,5]),(2,[0,3,5,12,13,14]),(3,[0,3,5,12,13,14,15]),(4,[0,3,5,6,7,12,13,14]),(5,[0,3,5,6,7,9,12,13,14]),(6,[0,3,5,7,12,13,14,70]),(7,[4]),(8,[0,3,5,12,13,14]),(9,[0,3,5,12,13,14]),(10,[4])],lp:=[(3,[0,3,5,12,13,14])] }
def Qc:eP:=eP.mk 2 [.tmp 4]
 (.seq (.region [
 ob 3 (.box (.tmp 1)),
 ob 4 (.mv (.lg (.bool false)))] false [0,3]) Mr)
def ahH:oI Tryz.prog ZU f201=some Qc:=by kernel_rfl
def x9:=by
 have h:=And.intro (fW b75 ab8.1) (And.intro (fW aeD Rj.1) (fW aeE Rk.1));simp only[ab8,Rj,Rk,yO,seval] at h;exact h
def E75:=x9.1
def O1:=x9.2.1
def Ux:=x9.2.2
end Go.Proofs.YtcbopkblmebjiaaGreatDoor
set_option linter.defProp false
set_option maxRecDepth 100000
namespace Go.Proofs.YtcbopkblmebjiaaGreatDoor
open Go Go.Abs
def ab2:Ko [] f69:=by apply Subtype.mk; cbv
def b69:=ab2.1
def agu:=eP.mk 2 [.tmp 4] (sub b69 0)
abbrev acF:=sub b69 7
def abq:Ko [] f26:=by apply Subtype.mk; cbv
def b26:=abq.1
def af6:=eP.mk 2 [.fD 4 6,.tmp 5] (sub b26 0)
def QT:Ko [] f116:=by apply Subtype.mk; cbv
def aeo:=QT.1
def XX:=eP.mk 2 [.fD 4 6,.tmp 5] (sub aeo 0)
def QV:Ko [] f118:=by apply Subtype.mk; cbv
def Z3:=QV.1
def XZ:=eP.mk 2 [.tmp 4] (sub Z3 0)
abbrev VT:=sub Z3 7
def abR:Ko [] f56:=by apply Subtype.mk; cbv
def b56:=abR.1
def agn:=eP.mk 3 [.tmp 6,.tmp 7] (sub b56 0)
def QP:Ko [5] f112:=by apply Subtype.mk; cbv
def Z0:=QP.1
def P4:=eP.mk 2 [.fD 4 3] (sub Z0 0)
def ahv:wj [5] f112 P4:=fR
abbrev VQ:=sub Z0 11
def RR:Ko [5] f181:=by apply Subtype.mk; cbv
def aad:=RR.1
def Qb:=eP.mk 2 [.fD 4 3] (sub aad 0)
def ahG:wj [5] f181 Qb:=fR
abbrev V3:=sub aad 9
def QS:Ko [9] f115:=by apply Subtype.mk; cbv
def Z1:=QS.1
def P5:=eP.mk 3 [.fD 6 3] (sub Z1 0)
def ahw:wj [9] f115 P5:=fR
abbrev VR:=sub Z1 11
def oY:=by
 have h:=bQ (fW b69 ab2.1) (bQ (fW b26 abq.1) (bQ (fW aeo QT.1) (bQ (fW Z3 QV.1) (bQ (fW b56 abR.1) (bQ (fW Z0 QP.1) (bQ (fW aad RR.1) (fW Z1 QS.1)))))));simp only[ab2,abq,QT,QV,abR,QP,RR,QS,yO,seval] at h;exact h
def ZN:=oY.1
def E26:=oY.2.1
def Uv:=oY.2.2.1
def Ja:=oY.2.2.2.1
def ZL:=oY.2.2.2.2.1
def I8:=oY.2.2.2.2.2.1
def O4:=oY.2.2.2.2.2.2.1
def I9:=oY.2.2.2.2.2.2.2
def QO:Ko [12] f111:=by apply Subtype.mk; cbv
def ZZ:=QO.1
def P3:=eP.mk 4 [.fD 8 3] (sub ZZ 0)
def ahu:wj [12] f111 P3:=fR
abbrev VP:=sub ZZ 15
def QX:Ko [] f120:=by apply Subtype.mk; cbv
def Z4:=QX.1
def X1:=eP.mk 2 [.tmp 4] (sub Z4 0)
abbrev VU:=sub Z4 7
def abr:Ko [] f27:=by apply Subtype.mk; cbv
def b27:=abr.1
def af7:=eP.mk 3 [.tmp 6] (sub b27 0)
abbrev acB:=sub b27 7
def RP:Ko [] f179:=by apply Subtype.mk; cbv
def ae0:=RP.1
def Yy:=eP.mk 2 [.tmp 4] (sub ae0 0)
def QN:Ko [] f110:=by apply Subtype.mk; cbv
def ael:=QN.1
def XU:=eP.mk 3 [.tmp 6] (sub ael 0)
def abP:Ko [] f54:=by apply Subtype.mk; cbv
def b54:=abP.1
def agl:=eP.mk 4 [.fD 8 3,.tmp 9,.tmp 10] (sub b54 0)
def abN:Ko [] f52:=by apply Subtype.mk; cbv
def b52:=abN.1
def agk:=eP.mk 4 [.fD 8 3,.tmp 9] (sub b52 0)
def QR:Ko [] f114:=by apply Subtype.mk; cbv
def aen:=QR.1
def XW:=eP.mk 2 [.fD 4 3] (sub aen 0)
def oZ:=by
 have h:=bQ (fW ZZ QO.1) (bQ (fW Z4 QX.1) (bQ (fW b27 abr.1) (bQ (fW ae0 RP.1) (bQ (fW ael QN.1) (bQ (fW b54 abP.1) (bQ (fW b52 abN.1) (fW aen QR.1)))))));simp only[QO,QX,abr,RP,QN,abP,abN,QR,yO,seval] at h;exact h
def Fw:=oZ.1
def Jb:=oZ.2.1
def UG:=oZ.2.2.1
def adX:=oZ.2.2.2.1
def Fv:=oZ.2.2.2.2.1
def E54:=oZ.2.2.2.2.2.1
def E52:=oZ.2.2.2.2.2.2.1
def adS:=oZ.2.2.2.2.2.2.2
def abQ:Ko [] f55:=by apply Subtype.mk; cbv
def b55:=abQ.1
def agm:=eP.mk 3 [.fD 6 3,.tmp 7,.tmp 8] (sub b55 0)
def QW:Ko [] f119:=by apply Subtype.mk; cbv
def aep:=QW.1
def X0:=eP.mk 3 [.tmp 6] (sub aep 0)
def QY:Ko [] f121:=by apply Subtype.mk; cbv
def Z5:=QY.1
def X2:=eP.mk 3 [.tmp 6] (sub Z5 0)
abbrev VV:=sub Z5 11
def abT:Ko [] f57:=by apply Subtype.mk; cbv
def b57:=abT.1
def ago:=eP.mk 5 [.fD 10 3,.tmp 11,.tmp 12] (sub b57 0)
def RQ:Ko [] f180:=by apply Subtype.mk; cbv
def ae1:=RQ.1
def Yz:=eP.mk 2 [.fD 4 3,.tmp 5] (sub ae1 0)
def abD:Ko [] f41:=by apply Subtype.mk; cbv
def b41:=abD.1
def agd:=eP.mk 0 [.fD 0 3] (sub b41 0)
def QU:Ko [] f117:=by apply Subtype.mk; cbv
def Z2:=QU.1
def XY:=eP.mk 1 [.tmp 2] (sub Z2 0)
abbrev VS:=sub Z2 15
def oX:=by
 have h:=bQ (fW b55 abQ.1) (bQ (fW aep QW.1) (bQ (fW Z5 QY.1) (bQ (fW b57 abT.1) (bQ (fW ae1 RQ.1) (bQ (fW b41 abD.1) (fW Z2 QU.1))))));simp only[abQ,QW,QY,abT,RQ,abD,QU,yO,seval] at h;exact h
def E55:=oX.1
def adT:=oX.2.1
def OY:=oX.2.2.1
def O6:=oX.2.2.2.1
def adY:=oX.2.2.2.2.1
def E41:=oX.2.2.2.2.2.1
def GG:=oX.2.2.2.2.2.2
end Go.Proofs.YtcbopkblmebjiaaGreatDoor
