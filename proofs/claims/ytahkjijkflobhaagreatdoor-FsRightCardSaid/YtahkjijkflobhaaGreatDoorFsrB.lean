import Derived.KernelRfl
import Derived.Laws.Strings
import Derived.Laws.StructEq
import Derived.MapKept
import Derived.Laws.IdiomStrings
import Derived.Laws.MakeOwn
import Derived.ChangeKeysEq
import Derived.Test.YtahkjijkflobhaaGreatDoorFsrA
set_option linter.unusedSimpArgs false
set_option linter.unusedVariables false
set_option linter.unusedSectionVars false
set_option linter.defProp false
open Go.Proofs.Tryz
set_option linter.defProp false
set_option maxRecDepth 100000
namespace Go.Proofs.YtahkjijkflobhaaGreatDoor
open Go Go.Abs
def eN{o:Option dY}{n:Nat}{r:List sb}{c:cA}(h:o=some (dY.mk n r c):=by kernel_rfl):o=some (dY.mk n r (sub c 0)):=okc h
def fe(r k:cA)(h:At r 0 k:=by exact agY _):eqs r 0 k:=ya r k 0 h
def SG:Ko [] f253:=by apply Subtype.mk; cbv
def aiv:=SG.1
def aa3:=dY.mk 1 [.tmp 2] (sub aiv 0)
def Sv:Ko [] f243:=by apply Subtype.mk; cbv
def aip:=Sv.1
def aaY:=dY.mk 2 [.tmp 4,.tmp 5] (sub aip 0)
def Ri:Ko [] f162:=by apply Subtype.mk; cbv
def ahD:=Ri.1
def aag:=dY.mk 2 [.dB 4 6,.tmp 5] (sub ahD 0)
def R6:Ko [] f206:=by apply Subtype.mk; cbv
def ah8:=R6.1
def aaH:=dY.mk 2 [.dB 4 6,.tmp 5] (sub ah8 0)
def R7:Ko [] f207:=by apply Subtype.mk; cbv
def acF:=R7.1
def GQ:=dY.mk 1 [.tmp 2] (sub acF 0)
abbrev Lg:=sub acF 15
def SK:Ko [] f261:=by apply Subtype.mk; cbv
def acP:=SK.1
def aa5:=dY.mk 3 [.tmp 6,.tmp 7] (sub acP 0)
abbrev XG:=sub acP 9
def SL:Ko [] f262:=by apply Subtype.mk; cbv
def aiy:=SL.1
def aa6:=dY.mk 2 [.tmp 4] (sub aiy 0)
def SM:Ko [] f263:=by apply Subtype.mk; cbv
def aiz:=SM.1
def aa7:=dY.mk 2 [.tmp 4] (sub aiz 0)
def oy:=by
 have h:=bM (fe aiv SG.1) (bM (fe aip Sv.1) (bM (fe ahD Ri.1) (bM (fe ah8 R6.1) (bM (fe acF R7.1) (bM (fe acP SK.1) (bM (fe aiy SL.1) (fe aiz SM.1)))))));simp only[SG,Sv,Ri,R6,R7,SK,SL,SM,xR,seval] at h;exact h
def agR:=oy.1
def anh:=oy.2.1
def abZ:=oy.2.2.1
def Vu:=oy.2.2.2.1
def vG:=oy.2.2.2.2.1
def F1:=oy.2.2.2.2.2.1
def ank:=oy.2.2.2.2.2.2.1
def anl:=oy.2.2.2.2.2.2.2
def R8:Ko [] f208:=by apply Subtype.mk; cbv
def ah9:=R8.1
def aaI:=dY.mk 2 [.tmp 4,.tmp 5] (sub ah9 0)
def QP:Ko [] f130:=by apply Subtype.mk; cbv
def ahj:=QP.1
def Z2:=dY.mk 3 [.tmp 6,.tmp 7] (sub ahj 0)
def aet:Ko [] f86:=by apply Subtype.mk; cbv
def b86:=aet.1
def aj8:=dY.mk 2 [.dB 4 6,.tmp 5] (sub b86 0)
def R9:Ko [9] f209:=by apply Subtype.mk; cbv
def acG:=R9.1
def PN:=dY.mk 2 [.tmp 4] (sub acG 0)
def alO:ub [9] f209 PN:=eN
abbrev Xt:=sub acG 7
def SH:Ko [] f254:=by apply Subtype.mk; cbv
def aiw:=SH.1
def aa4:=dY.mk 2 [.tmp 4] (sub aiw 0)
def RY:Ko [1000255,1000256] f197:=by apply Subtype.mk; cbv
def ah1:=RY.1
def PK:=dY.mk 2 [] (sub ah1 0)
def alJ:ub [1000255,1000256] f197 PK:=eN
def SI:Ko [1000255,1000294] f258:=by apply Subtype.mk; cbv
def aix:=SI.1
def PT:=dY.mk 2 [] (sub aix 0)
def alV:ub [1000255,1000294] f258 PT:=eN
def RZ:Ko [1000214,1000257,2000197] f198:=by apply Subtype.mk; cbv
def ah2:=RZ.1
def PL:=dY.mk 4 [] (sub ah2 0)
def alK:ub [1000214,1000257,2000197] f198 PL:=eN
def oz:=by
 have h:=bM (fe ah9 R8.1) (bM (fe ahj QP.1) (bM (fe b86 aet.1) (bM (fe acG R9.1) (bM (fe aiw SH.1) (bM (fe ah1 RY.1) (bM (fe aix SI.1) (fe ah2 RZ.1)))))));simp only[R8,QP,aet,R9,SH,RY,SI,RZ,xR,seval] at h;exact h
def am6:=oz.1
def Il:=oz.2.1
def E86:=oz.2.2.1
def Bh:=oz.2.2.2.1
def anj:=oz.2.2.2.2.1
def ab5:=oz.2.2.2.2.2.1
def acb:=oz.2.2.2.2.2.2.1
def Om:=oz.2.2.2.2.2.2.2
def R4:Ko [1000214,1000260,2000197] f204:=by apply Subtype.mk; cbv
def ah6:=R4.1
def PM:=dY.mk 3 [] (sub ah6 0)
def alN:ub [1000214,1000260,2000197] f204 PM:=eN
def R5:Ko [] f205:=by apply Subtype.mk; cbv
def ah7:=R5.1
def aaG:=dY.mk 2 [] (sub ah7 0)
def RX:Ko [] f196:=by apply Subtype.mk; cbv
def ah0:=RX.1
def aaC:=dY.mk 3 [.tmp 6] (sub ah0 0)
def Sb:Ko [] f211:=by apply Subtype.mk; cbv
def aib:=Sb.1
def aaK:=dY.mk 2 [.tmp 4] (sub aib 0)
def R1:Ko [] f200:=by apply Subtype.mk; cbv
def ah4:=R1.1
def aaE:=dY.mk 2 [.dB 4 3,.tmp 5] (sub ah4 0)
def Sk:Ko [] f227:=by apply Subtype.mk; cbv
def aii:=Sk.1
def aaR:=dY.mk 3 [.dB 6 3,.tmp 7] (sub aii 0)
def QL:Ko [] f126:=by apply Subtype.mk; cbv
def ahg:=QL.1
def ZZ:=dY.mk 4 [.dB 8 3,.tmp 9,.tmp 10] (sub ahg 0)
def QN:Ko [] f128:=by apply Subtype.mk; cbv
def ahh:=QN.1
def Z0:=dY.mk 4 [.dB 8 3,.tmp 9] (sub ahh 0)
def mR:=by
 have h:=bM (fe ah6 R4.1) (bM (fe ah7 R5.1) (bM (fe ah0 RX.1) (bM (fe aib Sb.1) (bM (fe ah4 R1.1) (bM (fe aii Sk.1) (bM (fe ahg QL.1) (fe ahh QN.1)))))));simp only[R4,R5,RX,Sb,R1,Sk,QL,QN,xR,seval] at h;exact h
def Vt:=mR.1
def ab6:=mR.2.1
def FW:=mR.2.2.1
def agO:=mR.2.2.2.1
def agN:=mR.2.2.2.2.1
def Vv:=mR.2.2.2.2.2.1
def abR:=mR.2.2.2.2.2.2.1
def abT:=mR.2.2.2.2.2.2.2
def QO:Ko [] f129:=by apply Subtype.mk; cbv
def ahi:=QO.1
def Z1:=dY.mk 3 [.dB 6 3,.tmp 7,.tmp 8] (sub ahi 0)
def SN:Ko [] f264:=by apply Subtype.mk; cbv
def acQ:=SN.1
def aa8:=dY.mk 2 [.tmp 4] (sub acQ 0)
abbrev XH:=sub acQ 7
def Sa:Ko [] f210:=by apply Subtype.mk; cbv
def aia:=Sa.1
def aaJ:=dY.mk 2 [.tmp 4] (sub aia 0)
def SP:Ko [] f266:=by apply Subtype.mk; cbv
def aiB:=SP.1
def aba:=dY.mk 5 [.tmp 6] (sub aiB 0)
def SX:Ko [] f296:=by apply Subtype.mk; cbv
def acS:=SX.1
def abd:=dY.mk 2 [.tmp 4] (sub acS 0)
abbrev XJ:=sub acS 7
def SO:Ko [] f265:=by apply Subtype.mk; cbv
def aiA:=SO.1
def aa9:=dY.mk 2 [.tmp 4] (sub aiA 0)
def Sc:Ko [] f212:=by apply Subtype.mk; cbv
def aic:=Sc.1
def aaL:=dY.mk 3 [.tmp 6] (sub aic 0)
def QQ:Ko [] f131:=by apply Subtype.mk; cbv
def acs:=QQ.1
def Z3:=dY.mk 5 [.dB 10 3,.tmp 11,.tmp 12] (sub acs 0)
abbrev LA:=sub acs 86
def mS:=by
 have h:=bM (fe ahi QO.1) (bM (fe acQ SN.1) (bM (fe aia Sa.1) (bM (fe aiB SP.1) (bM (fe acS SX.1) (bM (fe aiA SO.1) (bM (fe aic Sc.1) (fe acs QQ.1)))))));simp only[QO,SN,Sa,SP,SX,SO,Sc,QQ,xR,seval] at h;exact h
def Og:=mS.1
def Iu:=mS.2.1
def am7:=mS.2.2.1
def agS:=mS.2.2.2.1
def Iv:=mS.2.2.2.2.1
def anm:=mS.2.2.2.2.2.1
def am8:=mS.2.2.2.2.2.2.1
def xU:=mS.2.2.2.2.2.2.2
def Rg:Ko [] f160:=by apply Subtype.mk; cbv
def acv:=Rg.1
def PD:=dY.mk 3 [.tmp 6,.tmp 7] (sub acv 0)
abbrev Lf:=sub acv 9
def SS:Ko [] f286:=by apply Subtype.mk; cbv
def aiD:=SS.1
def abc:=dY.mk 2 [.tmp 4] (sub aiD 0)
def Rb:Ko [] f154:=by apply Subtype.mk; cbv
def ahz:=Rb.1
def aac:=dY.mk 2 [.tmp 4] (sub ahz 0)
def St:Ko [] f239:=by apply Subtype.mk; cbv
def ain:=St.1
def aaW:=dY.mk 1 [.tmp 2] (sub ain 0)
def adT:Ko [] f41:=by apply Subtype.mk; cbv
def b41:=adT.1
def ajW:=dY.mk 2 [.tmp 4] (sub b41 0)
def aeF:Ko [] f98:=by apply Subtype.mk; cbv
def b98:=aeF.1
def akj:=dY.mk 2 [.tmp 4] (sub b98 0)
def aeG:Ko [] f99:=by apply Subtype.mk; cbv
def b99:=aeG.1
def akk:=dY.mk 2 [.tmp 4] (sub b99 0)
def Qo:Ko [] f100:=by apply Subtype.mk; cbv
def aco:=Qo.1
def ZN:=dY.mk 2 [.tmp 4] (sub aco 0)
abbrev WT:=sub aco 15
def mT:=by
 have h:=bM (fe acv Rg.1) (bM (fe aiD SS.1) (bM (fe ahz Rb.1) (bM (fe ain St.1) (bM (fe b41 adT.1) (bM (fe b98 aeF.1) (bM (fe b99 aeG.1) (fe aco Qo.1)))))));simp only[Rg,SS,Rb,St,adT,aeF,aeG,Qo,xR,seval] at h;exact h
def xx:=mT.1
def ano:=mT.2.1
def agG:=mT.2.2.1
def ang:=mT.2.2.2.1
def E41:=mT.2.2.2.2.1
def E98:=mT.2.2.2.2.2.1
def E99:=mT.2.2.2.2.2.2.1
def EO:=mT.2.2.2.2.2.2.2
def Qp:Ko [] f101:=by apply Subtype.mk; cbv
def acp:=Qp.1
def ZO:=dY.mk 3 [.tmp 6] (sub acp 0)
abbrev WU:=sub acp 15
def QR:Ko [1000214] f132:=by apply Subtype.mk; cbv
def ahk:=QR.1
def xG:=dY.mk 4 [.tmp 8,.tmp 9,.tmp 10] (sub ahk 0)
def alv:ub [1000214] f132 xG:=eN
def Q2:Ko [] f145:=by apply Subtype.mk; cbv
def acu:=Q2.1
def KJ:=dY.mk 2 [.tmp 4] (sub acu 0)
abbrev Ld:=sub acu 7
def Sd:Ko [] f213:=by apply Subtype.mk; cbv
def acH:=Sd.1
def KR:=dY.mk 2 [.tmp 4] (sub acH 0)
abbrev Xu:=sub acH 17
def Se:Ko [] f215:=by apply Subtype.mk; cbv
def aid:=Se.1
def aaM:=dY.mk 2 [.tmp 3] (sub aid 0)
def alh:Ko [] f217:=by apply Subtype.mk; cbv
def anB:=alh.1
def ajH:=dY.mk 2 [.tmp 4] (sub anB 0)
def adR:Ko [] f38:=by apply Subtype.mk; cbv
def b38:=adR.1
def ajU:=dY.mk 0 [.dB 0 3] (sub b38 0)
def RT:Ko [] f193:=by apply Subtype.mk; cbv
def VT:=RT.1
def aaz:=dY.mk 2 [.tmp 4,.tmp 5] (sub VT 0)
abbrev Xq:=sub VT 19
abbrev afN:=sub VT 39
def RV:Ko [] f195:=by apply Subtype.mk; cbv
def ahZ:=RV.1
def aaB:=dY.mk 1 [.tmp 2,.tmp 3,.tmp 4] (sub ahZ 0)
def mU:=by
 have h:=bM (fe acp Qp.1) (bM (fe ahk QR.1) (bM (fe acu Q2.1) (bM (fe acH Sd.1) (bM (fe aid Se.1) (bM (fe b38 adR.1) (bM (fe VT RT.1) (fe ahZ RV.1)))))));simp only[Qp,QR,Q2,Sd,Se,adR,RT,RV,xR,seval] at h;exact h
def EP:=mU.1
def FU:=mU.2.1
def xw:=mU.2.2.1
def EY:=mU.2.2.2.1
def am9:=mU.2.2.2.2.1
def E38:=mU.2.2.2.2.2.1
def It:=mU.2.2.2.2.2.2.1
def Vs:=mU.2.2.2.2.2.2.2
end Go.Proofs.YtahkjijkflobhaaGreatDoor
set_option linter.defProp false
set_option maxRecDepth 100000
namespace Go.Proofs.YtahkjijkflobhaaGreatDoor
open Go Go.Abs
def aev:Ko [] f88:=by apply Subtype.mk; cbv
def b88:=aev.1
def aka:=dY.mk 1 [.tmp 2] (sub b88 0)
def Sf:Ko [] f218:=by apply Subtype.mk; cbv
def acI:=Sf.1
def aaN:=dY.mk 3 [.tmp 6,.tmp 7] (sub acI 0)
abbrev Xv:=sub acI 9
def aew:Ko [] f89:=by apply Subtype.mk; cbv
def b89:=aew.1
def akb:=dY.mk 3 [.tmp 6] (sub b89 0)
def Rj:Ko [] f163:=by apply Subtype.mk; cbv
def ahE:=Rj.1
def aah:=dY.mk 1 [.tmp 2] (sub ahE 0)
def aeu:Ko [] f87:=by apply Subtype.mk; cbv
def b87:=aeu.1
def aj9:=dY.mk 1 [.dB 2 2] (sub b87 0)
def Sh:Ko [] f222:=by apply Subtype.mk; cbv
def aie:=Sh.1
def aaO:=dY.mk 2 [.tmp 4] (sub aie 0)
def Sg:Ko [] f221:=by apply Subtype.mk; cbv
def acJ:=Sg.1
def KS:=dY.mk 2 [.tmp 4] (sub acJ 0)
abbrev Fq:=sub acJ 7
def aez:Ko [] f92:=by apply Subtype.mk; cbv
def b92:=aez.1
def akd:=dY.mk 2 [.tmp 4] (sub b92 0)
def oA:=by
 have h:=bM (fe b88 aev.1) (bM (fe acI Sf.1) (bM (fe b89 aew.1) (bM (fe ahE Rj.1) (bM (fe b87 aeu.1) (bM (fe aie Sh.1) (bM (fe acJ Sg.1) (fe b92 aez.1)))))));simp only[aev,Sf,aew,Rj,aeu,Sh,Sg,aez,xR,seval] at h;exact h
def E88:=oA.1
def FX:=oA.2.1
def E89:=oA.2.2.1
def agI:=oA.2.2.2.1
def E87:=oA.2.2.2.2.1
def ana:=oA.2.2.2.2.2.1
def vH:=oA.2.2.2.2.2.2.1
def E92:=oA.2.2.2.2.2.2.2
def Rl:Ko [] f165:=by apply Subtype.mk; cbv
def ahG:=Rl.1
def aai:=dY.mk 2 [.tmp 3] (sub ahG 0)
def Rk:Ko [] f164:=by apply Subtype.mk; cbv
def ahF:=Rk.1
def PE:=dY.mk 2 [.tmp 4] (sub ahF 0)
def QU:Ko [1000220,1000219] f135:=by apply Subtype.mk; cbv
def ahm:=QU.1
def Py:=dY.mk 5 [.tmp 10,.tmp 11] (sub ahm 0)
def alx:ub [1000220,1000219] f135 Py:=eN
def QV:Ko [1000220,1000223,2000092] f136:=by apply Subtype.mk; cbv
def ahn:=QV.1
def KG:=dY.mk 4 [.dB 8 3,.tmp 9,.tmp 10] (sub ahn 0)
def aly:ub [1000220,1000223,2000092] f136 KG:=eN
def Q5:Ko [] f148:=by apply Subtype.mk; cbv
def VQ:=Q5.1
def Z8:=dY.mk 3 [.dB 6 3,.tmp 7] (sub VQ 0)
abbrev Xa:=sub VQ 7
abbrev afL:=sub VQ 23
def Sj:Ko [] f226:=by apply Subtype.mk; cbv
def aih:=Sj.1
def aaQ:=dY.mk 3 [.tmp 6,.tmp 7] (sub aih 0)
def aex:Ko [3] f90:=by apply Subtype.mk; cbv
def b90:=aex.1
def adf:=dY.mk 1 [.tmp 2] (sub b90 0)
def arD:ub [3] f90 adf:=eN
abbrev ae1:=sub b90 9
abbrev al9:=sub b90 25
def aeA:Ko [] f93:=by apply Subtype.mk; cbv
def b93:=aeA.1
def ake:=dY.mk 2 [.tmp 4,.tmp 5] (sub b93 0)
def oB:=by
 have h:=bM (fe ahG Rl.1) (bM (fe ahF Rk.1) (bM (fe ahm QU.1) (bM (fe ahn QV.1) (bM (fe VQ Q5.1) (bM (fe aih Sj.1) (bM (fe b90 aex.1) (fe b93 aeA.1)))))));simp only[Rl,Rk,QU,QV,Q5,Sj,aex,aeA,xR,seval] at h;exact h
def amX:=oB.1
def agJ:=oB.2.1
def LV:=oB.2.2.1
def abU:=oB.2.2.2.1
def LX:=oB.2.2.2.2.1
def ab7:=oB.2.2.2.2.2.1
def E90:=oB.2.2.2.2.2.2.1
def E93:=oB.2.2.2.2.2.2.2
def Rm:Ko [] f166:=by apply Subtype.mk; cbv
def acw:=Rm.1
def aaj:=dY.mk 5 [] (sub acw 0)
abbrev Xc:=sub acw 8
def Rp:Ko [] f169:=by apply Subtype.mk; cbv
def ahI:=Rp.1
def aam:=dY.mk 2 [.tmp 4,.tmp 5] (sub ahI 0)
def Sw:Ko [] f244:=by apply Subtype.mk; cbv
def acM:=Sw.1
def aaZ:=dY.mk 3 [.tmp 6,.tmp 7] (sub acM 0)
abbrev Xy:=sub acM 9
def Sx:Ko [] f245:=by apply Subtype.mk; cbv
def aiq:=Sx.1
def aa0:=dY.mk 2 [.tmp 4] (sub aiq 0)
def Rn:Ko [] f167:=by apply Subtype.mk; cbv
def acx:=Rn.1
def aak:=dY.mk 3 [] (sub acx 0)
abbrev Xd:=sub acx 4
def aeB:Ko [] f94:=by apply Subtype.mk; cbv
def b94:=aeB.1
def akf:=dY.mk 3 [.tmp 6] (sub b94 0)
def Ro:Ko [] f168:=by apply Subtype.mk; cbv
def ahH:=Ro.1
def aal:=dY.mk 3 [.tmp 4] (sub ahH 0)
def SJ:Ko [] f259:=by apply Subtype.mk; cbv
def acO:=SJ.1
def PU:=dY.mk 2 [.tmp 4] (sub acO 0)
abbrev XF:=sub acO 7
def mV:=by
 have h:=bM (fe acw Rm.1) (bM (fe ahI Rp.1) (bM (fe acM Sw.1) (bM (fe aiq Sx.1) (bM (fe acx Rn.1) (bM (fe b94 aeB.1) (bM (fe ahH Ro.1) (fe acO SJ.1)))))));simp only[Rm,Rp,Sw,Sx,Rn,aeB,Ro,SJ,xR,seval] at h;exact h
def LZ:=mV.1
def amY:=mV.2.1
def FY:=mV.2.2.1
def ani:=mV.2.2.2.1
def L0:=mV.2.2.2.2.1
def E94:=mV.2.2.2.2.2.1
def ab0:=mV.2.2.2.2.2.2.1
def EZ:=mV.2.2.2.2.2.2.2
def QZ:Ko [1000202,1000228,1000229] f141:=by apply Subtype.mk; cbv
def ahq:=QZ.1
def GK:=dY.mk 5 [.tmp 10,.tmp 11] (sub ahq 0)
def alA:ub [1000202,1000228,1000229] f141 GK:=eN
def Ra:Ko [] f153:=by apply Subtype.mk; cbv
def ahy:=Ra.1
def PC:=dY.mk 1 [.tmp 2] (sub ahy 0)
def adQ:Ko [] f37:=by apply Subtype.mk; cbv
def b37:=adQ.1
def ajT:=dY.mk 1 [.dB 2 8] (sub b37 0)
def Q9:Ko [] f152:=by apply Subtype.mk; cbv
def ahx:=Q9.1
def aab:=dY.mk 3 [.tmp 6] (sub ahx 0)
def Ss:Ko [] f238:=by apply Subtype.mk; cbv
def aim:=Ss.1
def aaV:=dY.mk 3 [.tmp 4] (sub aim 0)
def Sr:Ko [] f237:=by apply Subtype.mk; cbv
def ail:=Sr.1
def aaU:=dY.mk 2 [.tmp 4] (sub ail 0)
def SR:Ko [] f275:=by apply Subtype.mk; cbv
def acR:=SR.1
def abb:=dY.mk 2 [.tmp 4] (sub acR 0)
abbrev XI:=sub acR 7
def aes:Ko [] f85:=by apply Subtype.mk; cbv
def b85:=aes.1
def aj7:=dY.mk 2 [.tmp 4] (sub b85 0)
def mW:=by
 have h:=bM (fe ahq QZ.1) (bM (fe ahy Ra.1) (bM (fe b37 adQ.1) (bM (fe ahx Q9.1) (bM (fe aim Ss.1) (bM (fe ail Sr.1) (bM (fe acR SR.1) (fe b85 aes.1)))))));simp only[QZ,Ra,adQ,Q9,Ss,Sr,SR,aes,xR,seval] at h;exact h
def LW:=mW.1
def FV:=mW.2.1
def E37:=mW.2.2.1
def amU:=mW.2.2.2.1
def anf:=mW.2.2.2.2.1
def ane:=mW.2.2.2.2.2.1
def L2:=mW.2.2.2.2.2.2.1
def E85:=mW.2.2.2.2.2.2.2
def Rh:Ko [] f161:=by apply Subtype.mk; cbv
def ahC:=Rh.1
def aaf:=dY.mk 2 [.tmp 4] (sub ahC 0)
def Si:Ko [] f225:=by apply Subtype.mk; cbv
def aif:=Si.1
def aaP:=dY.mk 2 [.tmp 4] (sub aif 0)
def QW:Ko [8000224,1001004005] f137:=by apply Subtype.mk; cbv
def L9:=QW.1
def Pz:=dY.mk 2 [.dB 4 8] (sub L9 0)
def alz:ub [8000224,1001004005] f137 Pz:=eN
abbrev W7:=sub L9 17
abbrev W8:=sub L9 40
abbrev YV:=sub L9 62
abbrev YW:=sub L9 35
def Q0:Ko [8000230] f142:=by apply Subtype.mk; cbv
def ahr:=Q0.1
def PB:=dY.mk 2 [.dB 4 8,.tmp 5,.tmp 6] (sub ahr 0)
def alB:ub [8000230] f142 PB:=eN
def aer:Ko [6000012] f84:=by apply Subtype.mk; cbv
def b84:=aer.1
def ade:=dY.mk 2 [.tmp 4,.tmp 5] (sub b84 0)
def arC:ub [6000012] f84 ade:=eN
abbrev aeZ:=sub b84 9
abbrev ae0:=sub b84 30
abbrev afR:=sub b84 46
abbrev afS:=sub b84 25
def Rf:Ko [] f157:=by apply Subtype.mk; cbv
def VR:=Rf.1
def KK:=dY.mk 5 [.tmp 6] (sub VR 0)
abbrev Xb:=sub VR 33
abbrev afM:=sub VR 45
def alg:Ko [] f159:=by apply Subtype.mk; cbv
def anA:=alg.1
def ajB:=dY.mk 2 [.tmp 4] (sub anA 0)
def Q1:Ko [] f143:=by apply Subtype.mk; cbv
def VP:=Q1.1
def Z5:=dY.mk 2 [.tmp 4,.tmp 5,.tmp 6] (sub VP 0)
abbrev W9:=sub VP 7
abbrev afK:=sub VP 27
def Sl:Ko [5] f232:=by apply Subtype.mk; cbv
def acK:=Sl.1
def PO:=dY.mk 2 [.tmp 4] (sub acK 0)
def alP:ub [5] f232 PO:=eN
abbrev Xw:=sub acK 9
def mX:=by
 have h:=bM (fe ahC Rh.1) (bM (fe aif Si.1) (bM (fe L9 QW.1) (bM (fe ahr Q0.1) (bM (fe b84 aer.1) (bM (fe VR Rf.1) (bM (fe VP Q1.1) (fe acK Sl.1)))))));simp only[Rh,Si,QW,Q0,aer,Rf,Q1,Sl,xR,seval] at h;exact h
def amW:=mX.1
def agP:=mX.2.1
def ES:=mX.2.2.1
def agE:=mX.2.2.2.1
def VD:=mX.2.2.2.2.1
def LY:=mX.2.2.2.2.2.1
def Vo:=mX.2.2.2.2.2.2.1
def Vw:=mX.2.2.2.2.2.2.2
def Sm:Ko [] f233:=by apply Subtype.mk; cbv
def aij:=Sm.1
def aaS:=dY.mk 2 [.tmp 3] (sub aij 0)
def Sn:Ko [5] f234:=by apply Subtype.mk; cbv
def acL:=Sn.1
def PQ:=dY.mk 2 [.tmp 4] (sub acL 0)
def alQ:ub [5] f234 PQ:=eN
abbrev Xx:=sub acL 9
def Sq:Ko [] f235:=by apply Subtype.mk; cbv
def aik:=Sq.1
def aaT:=dY.mk 2 [.tmp 3] (sub aik 0)
def Q4:Ko [] f147:=by apply Subtype.mk; cbv
def aht:=Q4.1
def Z7:=dY.mk 2 [.dB 4 8,.tmp 5] (sub aht 0)
def arh:Ko [] f42:=by apply Subtype.mk; cbv
def b42:=arh.1
def ap5:=dY.mk 2 [.tmp 4] (sub b42 0)
def ari:Ko [] f43:=by apply Subtype.mk; cbv
def b43:=ari.1
def ap6:=dY.mk 3 [.tmp 6] (sub b43 0)
def arj:Ko [] f44:=by apply Subtype.mk; cbv
def b44:=arj.1
def ap7:=dY.mk 2 [.tmp 4] (sub b44 0)
def ark:Ko [] f45:=by apply Subtype.mk; cbv
def b45:=ark.1
def ap8:=dY.mk 2 [.tmp 4] (sub b45 0)
def arl:Ko [] f46:=by apply Subtype.mk; cbv
def b46:=arl.1
def ap9:=dY.mk 2 [.tmp 4] (sub b46 0)
def tM:=by
 have h:=bM (fe aij Sm.1) (bM (fe acL Sn.1) (bM (fe aik Sq.1) (fe aht Q4.1)));simp only[Sm,Sn,Sq,Q4,xR,seval] at h;exact h
def anb:=tM.1
def Vx:=tM.2.1
def anc:=tM.2.2.1
def agF:=tM.2.2.2
end Go.Proofs.YtahkjijkflobhaaGreatDoor
set_option linter.defProp false
set_option maxRecDepth 100000
namespace Go.Proofs.YtahkjijkflobhaaGreatDoor
open Go Go.Abs
def adC:Ko [] f20:=by apply Subtype.mk; cbv
def b20:=adC.1
def ajF:=dY.mk 0 [.dB 0 10] (sub b20 0)
def adH:Ko [] f28:=by apply Subtype.mk; cbv
def b28:=adH.1
def ajK:=dY.mk 2 [] (sub b28 0)
def ael:Ko [] f78:=by apply Subtype.mk; cbv
def b78:=ael.1
def aj1:=dY.mk 1 [] (sub b78 0)
def QJ:Ko [] f124:=by apply Subtype.mk; cbv
def ahe:=QJ.1
def ZX:=dY.mk 2 [.dB 4 6] (sub ahe 0)
def RU:Ko [] f194:=by apply Subtype.mk; cbv
def ahY:=RU.1
def aaA:=dY.mk 2 [.dB 4 6] (sub ahY 0)
def QK:Ko [] f125:=by apply Subtype.mk; cbv
def ahf:=QK.1
def ZY:=dY.mk 2 [.tmp 4,.tmp 5] (sub ahf 0)
def QM:Ko [1000202] f127:=by apply Subtype.mk; cbv
def L8:=QM.1
def Pw:=dY.mk 3 [] (sub L8 0)
def alu:ub [1000202] f127 Pw:=eN
abbrev W0:=sub L8 7
abbrev Lc:=sub L8 32
abbrev Lz:=sub L8 46
abbrev YU:=sub L8 23
def R0:Ko [] f199:=by apply Subtype.mk; cbv
def ah3:=R0.1
def aaD:=dY.mk 2 [.tmp 3] (sub ah3 0)
def oC:=by
 have h:=bM (fe b20 adC.1) (bM (fe b28 adH.1) (bM (fe b78 ael.1) (bM (fe ahe QJ.1) (bM (fe ahY RU.1) (bM (fe ahf QK.1) (bM (fe L8 QM.1) (fe ah3 R0.1)))))));simp only[adC,adH,ael,QJ,RU,QK,QM,R0,xR,seval] at h;exact h
def E20:=oC.1
def E28:=oC.2.1
def E78:=oC.2.2.1
def abQ:=oC.2.2.2.1
def am3:=oC.2.2.2.2.1
def Vm:=oC.2.2.2.2.2.1
def se:=oC.2.2.2.2.2.2.1
def am4:=oC.2.2.2.2.2.2.2
def R2:Ko [] f201:=by apply Subtype.mk; cbv
def acE:=R2.1
def GP:=dY.mk 2 [.tmp 4] (sub acE 0)
def alM:ub [] f201 GP:=eN
abbrev Xr:=sub acE 17
def R3:Ko [] f203:=by apply Subtype.mk; cbv
def ah5:=R3.1
def aaF:=dY.mk 2 [.tmp 3] (sub ah5 0)
def adL:Ko [] f32:=by apply Subtype.mk; cbv
def b32:=adL.1
def ajP:=dY.mk 2 [.tmp 4] (sub b32 0)
abbrev aeJ:=sub b32 31
abbrev afO:=sub b32 55
abbrev S4:=sub b32 9
abbrev Uz:=sub b32 56
def QT:Ko [] f134:=by apply Subtype.mk; cbv
def ahl:=QT.1
def Z4:=dY.mk 1 [.tmp 2] (sub ahl 0)
def ad4:Ko [] f61:=by apply Subtype.mk; cbv
def b61:=ad4.1
def ac8:=dY.mk 1 [] (sub b61 0)
def ad5:Ko [] f62:=by apply Subtype.mk; cbv
def b62:=ad5.1
def PW:=dY.mk 1 [] (sub b62 0)
def ad6:Ko [] f63:=by apply Subtype.mk; cbv
def b63:=ad6.1
def MI:=dY.mk 1 [] (sub b63 0)
def ad7:Ko [] f64:=by apply Subtype.mk; cbv
def b64:=ad7.1
def PX:=dY.mk 1 [] (sub b64 0)
def oD:=by
 have h:=bM (fe acE R2.1) (bM (fe ah5 R3.1) (bM (fe b32 adL.1) (bM (fe ahl QT.1) (bM (fe b61 ad4.1) (bM (fe b62 ad5.1) (bM (fe b63 ad6.1) (fe b64 ad7.1)))))));simp only[R2,R3,adL,QT,ad4,ad5,ad6,ad7,xR,seval] at h;exact h
def EX:=oD.1
def am5:=oD.2.1
def Oo:=oD.2.2.1
def amS:=oD.2.2.2.1
def E61:=oD.2.2.2.2.1
def E62:=oD.2.2.2.2.2.1
def E63:=oD.2.2.2.2.2.2.1
def E64:=oD.2.2.2.2.2.2.2
def ad8:Ko [] f65:=by apply Subtype.mk; cbv
def b65:=ad8.1
def Jv:=dY.mk 1 [] (sub b65 0)
def ad9:Ko [] f66:=by apply Subtype.mk; cbv
def b66:=ad9.1
def Wr:=dY.mk 1 [] (sub b66 0)
def QS:Ko [3] f133:=by apply Subtype.mk; cbv
def VO:=QS.1
def Px:=dY.mk 1 [.tmp 2] (sub VO 0)
def alw:ub [3] f133 Px:=eN
abbrev W6:=sub VO 9
abbrev afJ:=sub VO 21
def aea:Ko [] f67:=by apply Subtype.mk; cbv
def b67:=aea.1
def ac9:=dY.mk 1 [] (sub b67 0)
def aeb:Ko [] f68:=by apply Subtype.mk; cbv
def b68:=aeb.1
def Ws:=dY.mk 1 [] (sub b68 0)
def aec:Ko [] f69:=by apply Subtype.mk; cbv
def b69:=aec.1
def ada:=dY.mk 1 [] (sub b69 0)
def QX:Ko [] f138:=by apply Subtype.mk; cbv
def aho:=QX.1
def KH:=dY.mk 1 [.dB 2 6] (sub aho 0)
def aed:Ko [] f70:=by apply Subtype.mk; cbv
def b70:=aed.1
def MJ:=dY.mk 1 [] (sub b70 0)
def mY:=by
 have h:=bM (fe b65 ad8.1) (bM (fe b66 ad9.1) (bM (fe VO QS.1) (bM (fe b67 aea.1) (bM (fe b68 aeb.1) (bM (fe b69 aec.1) (bM (fe aho QX.1) (fe b70 aed.1)))))));simp only[ad8,ad9,QS,aea,aeb,aec,QX,aed,xR,seval] at h;exact h
def E65:=mY.1
def E66:=mY.2.1
def Vn:=mY.2.2.1
def E67:=mY.2.2.2.1
def E68:=mY.2.2.2.2.1
def E69:=mY.2.2.2.2.2.1
def abV:=mY.2.2.2.2.2.2.1
def E70:=mY.2.2.2.2.2.2.2
def QY:Ko [] f140:=by apply Subtype.mk; cbv
def ahp:=QY.1
def KI:=dY.mk 3 [] (sub ahp 0)
def aee:Ko [1000139,2000140] f71:=by apply Subtype.mk; cbv
def b71:=aee.1
def Dt:=dY.mk 1 [] (sub b71 0)
def arB:ub [1000139,2000140] f71 Dt:=eN
def aef:Ko [] f72:=by apply Subtype.mk; cbv
def b72:=aef.1
def Wt:=dY.mk 1 [] (sub b72 0)
def aeg:Ko [] f73:=by apply Subtype.mk; cbv
def b73:=aeg.1
def PY:=dY.mk 1 [] (sub b73 0)
def aeh:Ko [] f74:=by apply Subtype.mk; cbv
def b74:=aeh.1
def Wu:=dY.mk 1 [] (sub b74 0)
def aei:Ko [] f75:=by apply Subtype.mk; cbv
def b75:=aei.1
def Wv:=dY.mk 1 [] (sub b75 0)
abbrev aeX:=sub b75 15
abbrev aeY:=sub b75 34
abbrev afP:=sub b75 52
abbrev afQ:=sub b75 27
def Q3:Ko [] f146:=by apply Subtype.mk; cbv
def ahs:=Q3.1
def Z6:=dY.mk 2 [.tmp 3] (sub ahs 0)
def aej:Ko [] f76:=by apply Subtype.mk; cbv
def b76:=aej.1
def adb:=dY.mk 1 [] (sub b76 0)
def mZ:=by
 have h:=bM (fe ahp QY.1) (bM (fe b71 aee.1) (bM (fe b72 aef.1) (bM (fe b73 aeg.1) (bM (fe b74 aeh.1) (bM (fe b75 aei.1) (bM (fe ahs Q3.1) (fe b76 aej.1)))))));simp only[QY,aee,aef,aeg,aeh,aei,Q3,aej,xR,seval] at h;exact h
def abW:=mZ.1
def Zn:=mZ.2.1
def E72:=mZ.2.2.1
def E73:=mZ.2.2.2.1
def E74:=mZ.2.2.2.2.1
def Ki:=mZ.2.2.2.2.2.1
def amT:=mZ.2.2.2.2.2.2.1
def E76:=mZ.2.2.2.2.2.2.2
def aek:Ko [] f77:=by apply Subtype.mk; cbv
def b77:=aek.1
def aj0:=dY.mk 1 [] (sub b77 0)
def adG:Ko [] f27:=by apply Subtype.mk; cbv
def b27:=adG.1
def ajJ:=dY.mk 0 [.tmp 0] (sub b27 0)
def arc:Ko [] f22:=by apply Subtype.mk; cbv
def b22:=arc.1
def ap3:=dY.mk 2 [.tmp 4] (sub b22 0)
def arf:Ko [] f40:=by apply Subtype.mk; cbv
def b40:=arf.1
def ap4:=dY.mk 2 [.tmp 4] (sub b40 0)
def AE:=by
 have h:=And.intro (fe b77 aek.1) (fe b27 adG.1);simp only[aek,adG,xR,seval] at h;exact h
def E77:=AE.1
def E27:=AE.2
end Go.Proofs.YtahkjijkflobhaaGreatDoor
set_option linter.defProp false
set_option maxRecDepth 100000
namespace Go.Proofs.YtahkjijkflobhaaGreatDoor
open Go Go.Abs
def SQ:Ko [] f273:=by apply Subtype.mk; cbv
def aiC:=SQ.1
def KV:=dY.mk 2 [.tmp 4,.tmp 5] (sub aiC 0)
def SY:Ko [] f307:=by apply Subtype.mk; cbv
def aiG:=SY.1
def KY:=dY.mk 2 [.tmp 4,.tmp 5] (sub aiG 0)
def SZ:Ko [] f325:=by apply Subtype.mk; cbv
def aiH:=SZ.1
def GU:=dY.mk 2 [.tmp 4] (sub aiH 0)
def xV:=by
 have h:=And.intro (fe aiC SQ.1) (And.intro (fe aiG SY.1) (fe aiH SZ.1));simp only[SQ,SY,SZ,xR,seval] at h;exact h
def ann:=xV.1
def VA:=xV.2.1
def VB:=xV.2.2
end Go.Proofs.YtahkjijkflobhaaGreatDoor
set_option linter.defProp false
set_option maxRecDepth 100000
namespace Go.Proofs.YtahkjijkflobhaaGreatDoor
open Go Go.Abs
def ko8:Ko [] f8:=by apply Subtype.mk; cbv
def b8:=ko8.1
def fn8:=dY.mk 1 [.tmp 2] (sub b8 0)
def abx:cA :=
 (.seq (.region [
 ob 0 (.mv (.kb (.bool false)))] false [0]) (.ret))
def aby:cA :=
 (.seq (.region [
 ob 110 (.iR 1 (.tmp 2)),
 ob 111 (.ic (.tmp 110)),
 ob 112 (.bin .eql (.tmp 111) (.kb (.int .i64 2))),
 ob 113 (.mv (.tmp 112)),
 og 114 113 true (.iR 1 (.tmp 3)),
 og 115 113 true (.ic (.tmp 114)),
 og 116 113 true (.bin .eql (.tmp 115) (.kb (.int .i64 3))),
 ob 117 (.pick (.tmp 113) (.tmp 116) (.kb (.bool false))),
 ob 118 (.mv (.tmp 117)),
 og 119 118 true (.iR 0 (.tmp 4)),
 og 120 118 true (.ic (.tmp 119)),
 og 121 118 true (.bin .eql (.tmp 120) (.kb (.int .i64 0))),
 ob 122 (.pick (.tmp 118) (.tmp 121) (.kb (.bool false))),
 ob 123 (.mv (.tmp 122)),
 og 124 123 true (.iR 4 (.tmp 5)),
 og 125 123 true (.ic (.tmp 124)),
 og 126 123 true (.bin .eql (.tmp 125) (.kb (.int .i64 3))),
 ob 127 (.pick (.tmp 123) (.tmp 126) (.kb (.bool false))),
 ob 128 (.mv (.tmp 127)),
 og 129 128 true (.iR 0 (.tmp 6)),
 og 130 128 true (.ic (.tmp 129)),
 og 131 128 true (.bin .eql (.tmp 130) (.kb (.int .i64 0))),
 ob 132 (.pick (.tmp 128) (.tmp 131) (.kb (.bool false))),
 ob 133 (.mv (.tmp 132)),
 og 134 133 true (.iR 1 (.tmp 7)),
 og 135 133 true (.ic (.tmp 134)),
 og 136 133 true (.bin .eql (.tmp 135) (.kb (.int .i64 3))),
 ob 137 (.pick (.tmp 133) (.tmp 136) (.kb (.bool false))),
 ob 138 (.mv (.tmp 137)),
 og 139 138 true (.iR 6 (.tmp 9)),
 og 140 138 true (.ic (.tmp 139)),
 og 141 138 true (.uJ 1 (.tmp 140) (.kb (.int .i64 0))),
 og 142 138 true (.ic (.tmp 141)),
 og 143 138 true (.bin .eql (.tmp 142) (.kb (.int .u8 0))),
 ob 144 (.pick (.tmp 138) (.tmp 143) (.kb (.bool false))),
 ob 145 (.mv (.tmp 144)),
 og 146 145 true (.iR 6 (.tmp 9)),
 og 147 145 true (.ic (.tmp 146)),
 og 148 145 true (.uJ 1 (.tmp 147) (.kb (.int .i64 2))),
 og 149 145 true (.ic (.tmp 148)),
 og 150 145 true (.bin .eql (.tmp 149) (.kb (.int .u8 8))),
 ob 151 (.pick (.tmp 145) (.tmp 150) (.kb (.bool false))),
 ob 152 (.mv (.tmp 151)),
 og 153 152 true (.iR 1 (.tmp 11)),
 og 154 152 true (.ic (.tmp 153)),
 og 155 152 true (.bin .eql (.tmp 154) (.kb (.int .i64 3))),
 ob 156 (.pick (.tmp 152) (.tmp 155) (.kb (.bool false))),
 ob 157 (.mv (.tmp 156)),
 og 158 157 true (.iR 6 (.tmp 11)),
 og 159 157 true (.ic (.tmp 158)),
 og 160 157 true (.uJ 1 (.tmp 159) (.kb (.int .i64 1))),
 og 161 157 true (.ic (.tmp 160)),
 og 162 157 true (.bin .eql (.tmp 161) (.kb (.int .u8 7))),
 ob 163 (.pick (.tmp 157) (.tmp 162) (.kb (.bool false))),
 ob 164 (.mv (.tmp 163)),
 og 165 164 true (.iR 0 (.tmp 13)),
 og 166 164 true (.ic (.tmp 165)),
 og 167 164 true (.bin .eql (.tmp 166) (.kb (.int .i64 70))),
 ob 168 (.pick (.tmp 164) (.tmp 167) (.kb (.bool false))),
 ob 169 (.mv (.tmp 168)),
 og 170 169 true (.iR 0 (.tmp 14)),
 og 171 169 true (.ic (.tmp 170)),
 og 172 169 true (.bin .eql (.tmp 171) (.kb (.int .i64 0))),
 ob 173 (.pick (.tmp 169) (.tmp 172) (.kb (.bool false))),
 ob 174 (.mv (.tmp 173)),
 og 175 174 true (.iR 0 (.tmp 15)),
 og 176 174 true (.ic (.tmp 175)),
 og 177 174 true (.bin .eql (.tmp 176) (.kb (.int .i64 90))),
 ob 178 (.pick (.tmp 174) (.tmp 177) (.kb (.bool false))),
 ob 179 (.mv (.tmp 178)),
 og 180 179 true (.iR 0 (.tmp 16)),
 og 181 179 true (.ic (.tmp 180)),
 og 182 179 true (.bin .eql (.tmp 181) (.kb (.int .i64 0))),
 ob 183 (.pick (.tmp 179) (.tmp 182) (.kb (.bool false))),
 ob 184 (.mv (.tmp 183)),
 og 185 184 true (.iR 0 (.tmp 18)),
 og 186 184 true (.ic (.tmp 185)),
 og 187 184 true (.bin .eql (.tmp 186) (.kb (.int .i64 1))),
 ob 188 (.pick (.tmp 184) (.tmp 187) (.kb (.bool false))),
 ob 189 (.mv (.tmp 188)),
 og 190 189 true (.iR 0 (.tmp 1)),
 og 191 189 true (.iR 0 (.tmp 190)),
 og 192 189 true (.iR 0 (.tmp 191)),
 og 193 189 true (.ic (.tmp 192)),
 og 194 189 true (.CC (.tmp 193)),
 og 195 189 true (.bin .eql (.tmp 194) (.kb (.int .i64 2))),
 ob 196 (.pick (.tmp 189) (.tmp 195) (.kb (.bool false))),
 ob 197 (.mv (.tmp 196)),
 og 198 197 true (.kN 10 (.tmp 1)),
 og 199 197 true (.call 15 [(.tmp 198)]),
 ob 200 (.pick (.tmp 197) (.tmp 199) (.kb (.bool false))),
 ob 201 (.mv (.tmp 200)),
 og 202 201 true (.build [(.slice .c0 []),(.int .i64 0),(.int .i64 0),(.int .i64 0),(.slice .c0 []),(.slice .c0 []),(.slice .c0 []),(.int .i64 0),(.slice .c0 []),(.slice .c0 [])] []),
 og 203 201 true (.call 15 [(.tmp 202)]),
 og 204 201 true (.not (.tmp 203)),
 ob 205 (.pick (.tmp 201) (.tmp 204) (.kb (.bool false))),
 ob 206 (.mv (.tmp 205)),
 og 207 206 true (.kN 10 (.tmp 1)),
 ⟨(some 208),.call 20 [],(some (206,true)),true,false,[],true⟩,
 og 209 206 true (.call 22 [(.tmp 207),(.tmp 208)]),
 og 210 206 true (.not (.tmp 209)),
 ob 211 (.pick (.tmp 206) (.tmp 210) (.kb (.bool false))),
 ob 0 (.mv (.tmp 211))] true [0]) (.ret))
def abz:cA :=
 (.seq (.seq (.region [
 ob 100 (.iR 6 (.tmp 9)),
 ob 101 (.ic (.tmp 100)),
 ob 102 (.CC (.tmp 101)),
 ob 103 (.bin .neq (.tmp 102) (.kb (.int .i64 3))),
 ob 104 (.mv (.tmp 103)),
 og 105 104 false (.iR 6 (.tmp 11)),
 og 106 104 false (.ic (.tmp 105)),
 og 107 104 false (.CC (.tmp 106)),
 og 108 104 false (.bin .neq (.tmp 107) (.kb (.int .i64 3))),
 ob 109 (.pick (.tmp 104) (.kb (.bool true)) (.tmp 108))] false [1,2,3,4,5,6,7,9,11,13,14,15,16,18,109]) (.cond (.tmp 109) abx (.skip))) aby)
def abA:cA :=
 (.seq (.region [
 ob 95 (.kN 10 (.tmp 1)),
 ob 96 (.build [(.int .i64 0),(.int .i64 0),(.str []),(.str []),(.int .i64 0),(.int .i64 0),(.int .i64 0),(.slice .c0 [])] [(0,1,(.kb (.int .i64 99)))]),
 ob 97 (.call 14 [(.tmp 95),(.tmp 96)]),
 ob 94 (.mv (.tmp 97)),
 ob 98 (.extract (.tmp 94) 0),
 ob 99 (.extract (.tmp 94) 1),
 ob 17 (.pq [(.slice .c0 []),(.int .i64 0),(.int .i64 0),(.int .i64 0),(.slice .c0 []),(.slice .c0 []),(.slice .c0 []),(.int .i64 0),(.slice .c0 []),(.slice .c0 [])]),
 ob 18 (.pq [(.int .i64 0),(.int .i64 0),(.int .i64 0),(.int .i64 0),(.int .i64 0),(.slice .c0 []),(.slice .c0 [])]),
 ox (.store 10 (.tmp 17) (.tmp 98)),
 ox (.store 7 (.tmp 18) (.tmp 99))] false [1,2,3,4,5,6,7,9,11,13,14,15,16,18]) abz)
def abB:cA :=
 (.seq (.region [
 ob 89 (.kN 10 (.tmp 1)),
 ob 90 (.build [(.int .i64 0),(.int .i64 0),(.str []),(.str []),(.int .i64 0),(.int .i64 0),(.int .i64 0),(.slice .c0 [])] [(0,1,(.kb (.int .i64 9))),(6,1,(.kb (.int .i64 4)))]),
 ob 91 (.call 14 [(.tmp 89),(.tmp 90)]),
 ob 88 (.mv (.tmp 91)),
 ob 92 (.extract (.tmp 88) 0),
 ob 93 (.extract (.tmp 88) 1),
 ob 16 (.pq [(.int .i64 0),(.int .i64 0),(.int .i64 0),(.int .i64 0),(.int .i64 0),(.slice .c0 []),(.slice .c0 [])]),
 ox (.store 10 (.tmp 1) (.tmp 92)),
 ox (.store 7 (.tmp 16) (.tmp 93))] false [1,2,3,4,5,6,7,9,11,13,14,15,16]) abA)
def abC:cA :=
 (.seq (.region [
 ob 83 (.kN 10 (.tmp 1)),
 ob 84 (.build [(.int .i64 0),(.int .i64 0),(.str []),(.str []),(.int .i64 0),(.int .i64 0),(.int .i64 0),(.slice .c0 [])] [(0,1,(.kb (.int .i64 2))),(2,1,(.kb (.str [47,101]))),(4,1,(.kb (.int .i64 2)))]),
 ob 85 (.call 14 [(.tmp 83),(.tmp 84)]),
 ob 82 (.mv (.tmp 85)),
 ob 86 (.extract (.tmp 82) 0),
 ob 87 (.extract (.tmp 82) 1),
 ob 15 (.pq [(.int .i64 0),(.int .i64 0),(.int .i64 0),(.int .i64 0),(.int .i64 0),(.slice .c0 []),(.slice .c0 [])]),
 ox (.store 10 (.tmp 1) (.tmp 86)),
 ox (.store 7 (.tmp 15) (.tmp 87))] false [1,2,3,4,5,6,7,9,11,13,14,15]) abB)
def abD:cA :=
 (.seq (.region [
 ob 77 (.kN 10 (.tmp 1)),
 ob 78 (.build [(.int .i64 0),(.int .i64 0),(.str []),(.str []),(.int .i64 0),(.int .i64 0),(.int .i64 0),(.slice .c0 [])] [(0,1,(.kb (.int .i64 13))),(2,1,(.kb (.str [47]))),(4,1,(.kb (.int .i64 1))),(5,1,(.kb (.int .i64 10)))]),
 ob 79 (.call 14 [(.tmp 77),(.tmp 78)]),
 ob 76 (.mv (.tmp 79)),
 ob 80 (.extract (.tmp 76) 0),
 ob 81 (.extract (.tmp 76) 1),
 ob 14 (.pq [(.int .i64 0),(.int .i64 0),(.int .i64 0),(.int .i64 0),(.int .i64 0),(.slice .c0 []),(.slice .c0 [])]),
 ox (.store 10 (.tmp 1) (.tmp 80)),
 ox (.store 7 (.tmp 14) (.tmp 81))] false [1,2,3,4,5,6,7,9,11,13,14]) abC)
def abE:cA :=
 (.seq (.region [
 ob 71 (.kN 10 (.tmp 1)),
 ob 72 (.build [(.int .i64 0),(.int .i64 0),(.str []),(.str []),(.int .i64 0),(.int .i64 0),(.int .i64 0),(.slice .c0 [])] [(0,1,(.kb (.int .i64 1))),(2,1,(.kb (.str [47,100,47,102])))]),
 ob 73 (.call 14 [(.tmp 71),(.tmp 72)]),
 ob 70 (.mv (.tmp 73)),
 ob 74 (.extract (.tmp 70) 0),
 ob 75 (.extract (.tmp 70) 1),
 ob 12 (.pq [(.slice .c0 []),(.int .i64 0),(.int .i64 0),(.int .i64 0),(.slice .c0 []),(.slice .c0 []),(.slice .c0 []),(.int .i64 0),(.slice .c0 []),(.slice .c0 [])]),
 ob 13 (.pq [(.int .i64 0),(.int .i64 0),(.int .i64 0),(.int .i64 0),(.int .i64 0),(.slice .c0 []),(.slice .c0 [])]),
 ox (.store 10 (.tmp 12) (.tmp 74)),
 ox (.store 7 (.tmp 13) (.tmp 75))] false [1,2,3,4,5,6,7,9,11,13]) abD)
def abF:cA :=
 (.seq (.region [
 ob 63 (.kN 10 (.tmp 1)),
 ob 64 (.iR 3 (.tmp 6)),
 ob 65 (.ic (.tmp 64)),
 ob 66 (.build [(.int .i64 0),(.int .i64 0),(.str []),(.str []),(.int .i64 0),(.int .i64 0),(.int .i64 0),(.slice .c0 [])] [(0,1,(.kb (.int .i64 15))),(4,1,(.tmp 65)),(2,1,(.kb (.str [47,102])))]),
 ob 67 (.call 14 [(.tmp 63),(.tmp 66)]),
 ob 62 (.mv (.tmp 67)),
 ob 68 (.extract (.tmp 62) 0),
 ob 69 (.extract (.tmp 62) 1),
 ob 10 (.pq [(.slice .c0 []),(.int .i64 0),(.int .i64 0),(.int .i64 0),(.slice .c0 []),(.slice .c0 []),(.slice .c0 []),(.int .i64 0),(.slice .c0 []),(.slice .c0 [])]),
 ob 11 (.pq [(.int .i64 0),(.int .i64 0),(.int .i64 0),(.int .i64 0),(.int .i64 0),(.slice .c0 []),(.slice .c0 [])]),
 ox (.store 10 (.tmp 10) (.tmp 68)),
 ox (.store 7 (.tmp 11) (.tmp 69))] false [1,2,3,4,5,6,7,9,11]) abE)
def abG:cA :=
 (.seq (.region [
 ob 57 (.kN 10 (.tmp 1)),
 ob 58 (.build [(.int .i64 0),(.int .i64 0),(.str []),(.str []),(.int .i64 0),(.int .i64 0),(.int .i64 0),(.slice .c0 [])] [(0,1,(.kb (.int .i64 10))),(6,1,(.kb (.int .i64 4))),(5,1,(.kb (.int .i64 9)))]),
 ob 59 (.call 14 [(.tmp 57),(.tmp 58)]),
 ob 56 (.mv (.tmp 59)),
 ob 60 (.extract (.tmp 56) 0),
 ob 61 (.extract (.tmp 56) 1),
 ob 8 (.pq [(.slice .c0 []),(.int .i64 0),(.int .i64 0),(.int .i64 0),(.slice .c0 []),(.slice .c0 []),(.slice .c0 []),(.int .i64 0),(.slice .c0 []),(.slice .c0 [])]),
 ob 9 (.pq [(.int .i64 0),(.int .i64 0),(.int .i64 0),(.int .i64 0),(.int .i64 0),(.slice .c0 []),(.slice .c0 [])]),
 ox (.store 10 (.tmp 8) (.tmp 60)),
 ox (.store 7 (.tmp 9) (.tmp 61))] false [1,2,3,4,5,6,7,9]) abF)
def Ui:cA :=
 (.seq (.region [
 ob 51 (.kN 10 (.tmp 1)),
 ob 52 (.build [(.int .i64 0),(.int .i64 0),(.str []),(.str []),(.int .i64 0),(.int .i64 0),(.int .i64 0),(.slice .c0 [])] [(0,1,(.kb (.int .i64 4))),(2,1,(.kb (.str [47,100,47,102])))]),
 ob 53 (.call 14 [(.tmp 51),(.tmp 52)]),
 ob 50 (.mv (.tmp 53)),
 ob 54 (.extract (.tmp 50) 0),
 ob 55 (.extract (.tmp 50) 1),
 ob 7 (.pq [(.int .i64 0),(.int .i64 0),(.int .i64 0),(.int .i64 0),(.int .i64 0),(.slice .c0 []),(.slice .c0 [])]),
 ox (.store 10 (.tmp 1) (.tmp 54)),
 ox (.store 7 (.tmp 7) (.tmp 55))] false [1,2,3,4,5,6,7]) abG)
def Uj:cA :=
 (.seq (.region [
 ob 45 (.kN 10 (.tmp 1)),
 ob 46 (.build [(.int .i64 0),(.int .i64 0),(.str []),(.str []),(.int .i64 0),(.int .i64 0),(.int .i64 0),(.slice .c0 [])] [(0,1,(.kb (.int .i64 14))),(2,1,(.kb (.str [47,100])))]),
 ob 47 (.call 14 [(.tmp 45),(.tmp 46)]),
 ob 44 (.mv (.tmp 47)),
 ob 48 (.extract (.tmp 44) 0),
 ob 49 (.extract (.tmp 44) 1),
 ob 6 (.pq [(.int .i64 0),(.int .i64 0),(.int .i64 0),(.int .i64 0),(.int .i64 0),(.slice .c0 []),(.slice .c0 [])]),
 ox (.store 10 (.tmp 1) (.tmp 48)),
 ox (.store 7 (.tmp 6) (.tmp 49))] false [1,2,3,4,5,6]) Ui)
def Uk:cA :=
 (.seq (.region [
 ob 38 (.kN 10 (.tmp 1)),
 ob 39 (.lits 1 [(.kb (.int .u8 7)),(.kb (.int .u8 8))]),
 ob 40 (.build [(.int .i64 0),(.int .i64 0),(.str []),(.str []),(.int .i64 0),(.int .i64 0),(.int .i64 0),(.slice .c0 [])] [(0,1,(.kb (.int .i64 11))),(6,1,(.kb (.int .i64 4))),(4,1,(.kb (.int .i64 1))),(7,1,(.tmp 39))]),
 ob 41 (.call 14 [(.tmp 38),(.tmp 40)]),
 ob 37 (.mv (.tmp 41)),
 ob 42 (.extract (.tmp 37) 0),
 ob 43 (.extract (.tmp 37) 1),
 ob 5 (.pq [(.int .i64 0),(.int .i64 0),(.int .i64 0),(.int .i64 0),(.int .i64 0),(.slice .c0 []),(.slice .c0 [])]),
 ox (.store 10 (.tmp 1) (.tmp 42)),
 ox (.store 7 (.tmp 5) (.tmp 43))] false [1,2,3,4,5]) Uj)
def Ul:cA :=
 (.seq (.region [
 ob 32 (.kN 10 (.tmp 1)),
 ob 33 (.build [(.int .i64 0),(.int .i64 0),(.str []),(.str []),(.int .i64 0),(.int .i64 0),(.int .i64 0),(.slice .c0 [])] [(0,1,(.kb (.int .i64 8))),(2,1,(.kb (.str [47,100,47,102]))),(6,1,(.kb (.int .i64 4)))]),
 ob 34 (.call 14 [(.tmp 32),(.tmp 33)]),
 ob 31 (.mv (.tmp 34)),
 ob 35 (.extract (.tmp 31) 0),
 ob 36 (.extract (.tmp 31) 1),
 ob 4 (.pq [(.int .i64 0),(.int .i64 0),(.int .i64 0),(.int .i64 0),(.int .i64 0),(.slice .c0 []),(.slice .c0 [])]),
 ox (.store 10 (.tmp 1) (.tmp 35)),
 ox (.store 7 (.tmp 4) (.tmp 36))] false [1,2,3,4]) Uk)
def Um:cA :=
 (.seq (.region [
 ob 26 (.kN 10 (.tmp 1)),
 ob 27 (.build [(.int .i64 0),(.int .i64 0),(.str []),(.str []),(.int .i64 0),(.int .i64 0),(.int .i64 0),(.slice .c0 [])] [(0,1,(.kb (.int .i64 2))),(2,1,(.kb (.str [47,100,47,102]))),(4,1,(.kb (.int .i64 1)))]),
 ob 28 (.call 14 [(.tmp 26),(.tmp 27)]),
 ob 25 (.mv (.tmp 28)),
 ob 29 (.extract (.tmp 25) 0),
 ob 30 (.extract (.tmp 25) 1),
 ob 3 (.pq [(.int .i64 0),(.int .i64 0),(.int .i64 0),(.int .i64 0),(.int .i64 0),(.slice .c0 []),(.slice .c0 [])]),
 ox (.store 10 (.tmp 1) (.tmp 29)),
 ox (.store 7 (.tmp 3) (.tmp 30))] false [1,2,3]) Ul)
def Un:cA :=
 (.seq (.region [
 ob 20 (.call 20 []),
 ob 21 (.build [(.int .i64 0),(.int .i64 0),(.str []),(.str []),(.int .i64 0),(.int .i64 0),(.int .i64 0),(.slice .c0 [])] [(0,1,(.kb (.int .i64 2))),(2,1,(.kb (.str [47,100]))),(4,1,(.kb (.int .i64 2)))]),
 ob 22 (.call 14 [(.tmp 20),(.tmp 21)]),
 ob 19 (.mv (.tmp 22)),
 ob 23 (.extract (.tmp 19) 0),
 ob 24 (.extract (.tmp 19) 1),
 ob 1 (.pq [(.slice .c0 []),(.int .i64 0),(.int .i64 0),(.int .i64 0),(.slice .c0 []),(.slice .c0 []),(.slice .c0 []),(.int .i64 0),(.slice .c0 []),(.slice .c0 [])]),
 ob 2 (.pq [(.int .i64 0),(.int .i64 0),(.int .i64 0),(.int .i64 0),(.int .i64 0),(.slice .c0 []),(.slice .c0 [])]),
 ox (.store 10 (.tmp 1) (.tmp 23)),
 ox (.store 7 (.tmp 2) (.tmp 24))] false [1,2]) Um)
def E10:=bM (gn abx.eq_1) (bM (gn aby.eq_1) (bM (gn abz.eq_1) (bM (gn abA.eq_1) (bM (gn abB.eq_1) (bM (gn abC.eq_1) (bM (gn abD.eq_1) (bM (gn abE.eq_1) (bM (gn abF.eq_1) (bM (gn abG.eq_1) (bM (gn Ui.eq_1) (bM (gn Uj.eq_1) (bM (gn Uk.eq_1) (bM (gn Ul.eq_1) (bM (gn Um.eq_1) (gn Un.eq_1)))))))))))))))
def agX:De:={ n:=212,own:=[],lv:=[(0,[]),(1,[1,2]),(2,[1,2,3]),(3,[1,2,3,4]),(4,[1,2,3,4,5]),(5,[1,2,3,4,5,6]),(6,[1,2,3,4,5,6,7]),(7,[1,2,3,4,5,6,7,9]),(8,[1,2,3,4,5,6,7,9,11]),(9,[1,2,3,4,5,6,7,9,11,13]),(10,[1,2,3,4,5,6,7,9,11,13,14]),(11,[1,2,3,4,5,6,7,9,11,13,14,15]),(12,[1,2,3,4,5,6,7,9,11,13,14,15,16]),(13,[1,2,3,4,5,6,7,9,11,13,14,15,16,18]),(14,[1,2,3,4,5,6,7,9,11,13,14,15,16,18,109]),(15,[0]),(16,[0])],lp:=[] }
def ac6:dY:=dY.mk 0 [.tmp 0]
 (.seq (.region [
 ob 0 (.mv (.kb (.bool false)))] false []) Un)
def art:oS Tryz.prog agX f10=some ac6:=by kernel_rfl
def adu:Ko [] f11:=by apply Subtype.mk; cbv
def b11:=adu.1
def ajy:=dY.mk 1 [.tmp 2] (sub b11 0)
def adv:Ko [] f12:=by apply Subtype.mk; cbv
def b12:=adv.1
def ajz:=dY.mk 1 [.tmp 2] (sub b12 0)
def arb:Ko [5000016] f21:=by apply Subtype.mk; cbv
def b21:=arb.1
def ajG:=dY.mk 2 [.tmp 4,.tmp 5] (sub b21 0)
def arv:ub [5000016] f21 ajG:=eN
def ko3:Ko [] f3:=by apply Subtype.mk; cbv
def b3:=ko3.1
def fn3:=dY.mk 2 [.tmp 4] (sub b3 0)
def ko4:Ko [] f4:=by apply Subtype.mk; cbv
def b4:=ko4.1
def fn4:=dY.mk 2 [.tmp 4] (sub b4 0)
def ko5:Ko [] f5:=by apply Subtype.mk; cbv
def b5:=ko5.1
def fn5:=dY.mk 2 [.tmp 4] (sub b5 0)
def ko6:Ko [] f6:=by apply Subtype.mk; cbv
def b6:=ko6.1
def fn6:=dY.mk 4 [.tmp 8] (sub b6 0)
def ko7:Ko [] f7:=by apply Subtype.mk; cbv
def b7:=ko7.1
def fn7:=dY.mk 4 [.tmp 8] (sub b7 0)
def adw:Ko [] f13:=by apply Subtype.mk; cbv
def b13:=adw.1
def Wp:=dY.mk 1 [.dB 2 10] (sub b13 0)
def adB:Ko [19] f19:=by apply Subtype.mk; cbv
def b19:=adB.1
def ac7:=dY.mk 2 [.tmp 4] (sub b19 0)
def aru:ub [19] f19 ac7:=eN
def qP:=by
 have h:=bM (fe b8 ko8.1) (bM (fe b11 adu.1) (bM (fe b12 adv.1) (bM (fe b3 ko3.1) (bM (fe b13 adw.1) (fe b19 adB.1)))));simp only[ko8,adu,adv,ko3,adw,adB,xR,seval] at h;exact h
def E8:=qP.1
def E11:=qP.2.1
def E12:=qP.2.2.1
def E3:=qP.2.2.2.1
def E13:=qP.2.2.2.2.1
def E19:=qP.2.2.2.2.2
end Go.Proofs.YtahkjijkflobhaaGreatDoor
set_option linter.defProp false
set_option maxRecDepth 100000
namespace Go.Proofs.YtahkjijkflobhaaGreatDoor
open Go Go.Abs
def adx:Ko [] f15:=by apply Subtype.mk; cbv
def b15:=adx.1
def ajA:=dY.mk 1 [.tmp 2] (sub b15 0)
def adI:Ko [] f29:=by apply Subtype.mk; cbv
def b29:=adI.1
def ajL:=dY.mk 1 [.tmp 2] (sub b29 0)
def adJ:Ko [] f30:=by apply Subtype.mk; cbv
def b30:=adJ.1
def ajN:=dY.mk 2 [.tmp 4] (sub b30 0)
def adK:Ko [] f31:=by apply Subtype.mk; cbv
def b31:=adK.1
def ajO:=dY.mk 2 [.tmp 4] (sub b31 0)
def aem:Ko [] f79:=by apply Subtype.mk; cbv
def b79:=aem.1
def aj2:=dY.mk 1 [.tmp 2] (sub b79 0)
abbrev aro:=sub b79 17
abbrev arp:=sub b79 42
def aen:Ko [] f80:=by apply Subtype.mk; cbv
def b80:=aen.1
def aj3:=dY.mk 2 [.tmp 4] (sub b80 0)
def aep:Ko [] f82:=by apply Subtype.mk; cbv
def b82:=aep.1
def aj5:=dY.mk 1 [.tmp 2] (sub b82 0)
def aeq:Ko [] f83:=by apply Subtype.mk; cbv
def b83:=aeq.1
def aj6:=dY.mk 1 [.tmp 2] (sub b83 0)
def oE:=by
 have h:=bM (fe b15 adx.1) (bM (fe b29 adI.1) (bM (fe b30 adJ.1) (bM (fe b31 adK.1) (bM (fe b79 aem.1) (bM (fe b80 aen.1) (bM (fe b82 aep.1) (fe b83 aeq.1)))))));simp only[adx,adI,adJ,adK,aem,aen,aep,aeq,xR,seval] at h;exact h
def E15:=oE.1
def E29:=oE.2.1
def E30:=oE.2.2.1
def E31:=oE.2.2.2.1
def E79:=oE.2.2.2.2.1
def E80:=oE.2.2.2.2.2.1
def E82:=oE.2.2.2.2.2.2.1
def E83:=oE.2.2.2.2.2.2.2
def Q6:Ko [] f149:=by apply Subtype.mk; cbv
def ahu:=Q6.1
def Z9:=dY.mk 1 [.tmp 2,.tmp 3] (sub ahu 0)
def Q7:Ko [] f150:=by apply Subtype.mk; cbv
def ahv:=Q7.1
def GL:=dY.mk 4 [.tmp 8] (sub ahv 0)
def Q8:Ko [] f151:=by apply Subtype.mk; cbv
def ahw:=Q8.1
def aaa:=dY.mk 2 [.tmp 4] (sub ahw 0)
def Re:Ko [] f156:=by apply Subtype.mk; cbv
def ahB:=Re.1
def aae:=dY.mk 2 [.tmp 4] (sub ahB 0)
def Uo:cA :=
 (.seq (.region [
 ob 4 (.mv (.kb (.bool false)))] false [4]) (.ret))
def Uq:cA :=
 (.seq (.region [
 ob 26 (.mv (.tmp 9)),
 ob 27 (.not (.tmp 26)),
 ob 28 (.mv (.tmp 27)),
 og 29 28 false (.iR 0 (.tmp 7)),
 og 30 28 false (.ic (.tmp 29)),
 og 31 28 false (.call 207 [(.tmp 30)]),
 og 32 28 false (.not (.tmp 31)),
 ob 33 (.pick (.tmp 28) (.kb (.bool true)) (.tmp 32)),
 ob 34 (.mv (.tmp 33)),
 og 35 34 false (.iR 2 (.tmp 7)),
 og 36 34 false (.ic (.tmp 35)),
 og 37 34 false (.bin .lss (.tmp 36) (.kb (.int .i64 1))),
 ob 38 (.pick (.tmp 34) (.kb (.bool true)) (.tmp 37)),
 ob 39 (.mv (.tmp 38)),
 og 40 39 false (.iR 2 (.tmp 7)),
 og 41 39 false (.ic (.tmp 40)),
 og 42 39 false (.mv (.tmp 0)),
 og 43 39 false (.V1 (.tmp 42)),
 og 44 39 false (.iR 0 (.tmp 43)),
 og 45 39 false (.iR 2 (.tmp 44)),
 og 46 39 false (.ic (.tmp 45)),
 og 47 39 false (.bin .geq (.tmp 41) (.tmp 46)),
 ob 48 (.pick (.tmp 39) (.kb (.bool true)) (.tmp 47)),
 ob 49 (.mv (.tmp 48)),
 og 50 49 false (.mv (.tmp 5)),
 og 51 49 false (.iR 2 (.tmp 7)),
 og 52 49 false (.ic (.tmp 51)),
 og 53 49 false (.look .i (.bool false) false (.tmp 50) (.tmp 52)),
 ob 54 (.pick (.tmp 49) (.kb (.bool true)) (.tmp 53)),
 ob 55 (.mv (.tmp 54)),
 og 56 55 false (.mv (.tmp 6)),
 og 57 55 false (.bin .gtr (.tmp 56) (.kb (.int .i64 0))),
 og 58 55 false (.mv (.tmp 57)),
 og 59 58 true (.iR 4 (.tmp 3)),
 og 60 58 true (.ic (.tmp 59)),
 og 61 58 true (.mv (.tmp 6)),
 og 62 58 true (.bin .sub (.tmp 61) (.kb (.int .i64 1))),
 og 63 58 true (.uJ 3 (.tmp 60) (.tmp 62)),
 og 64 58 true (.iR 0 (.tmp 63)),
 og 65 58 true (.ic (.tmp 64)),
 og 66 58 true (.iR 0 (.tmp 7)),
 og 67 58 true (.ic (.tmp 66)),
 og 68 58 true (.bin .geq (.tmp 65) (.tmp 67)),
 og 69 55 false (.pick (.tmp 58) (.tmp 68) (.kb (.bool false))),
 ob 70 (.pick (.tmp 55) (.kb (.bool true)) (.tmp 69))] true [0,3,5,7,12,13,14,70]) (.cond (.tmp 70) Uo (.skip)))
def Ur:cA :=
 (.region [
 ob 71 (.mv (.tmp 5)),
 ob 72 (.iR 2 (.tmp 7)),
 ob 73 (.ic (.tmp 72)),
 ox (.gy .i (.tmp 71) (.tmp 73) (.kb (.bool true)))] false [0,3,5,12,13,14])
def Us:cA :=
 (.seq (.seq (.region [
 ob 20 (.mv (.tmp 0)),
 ob 21 (.iR 1 (.tmp 7)),
 ob 22 (.ic (.tmp 21)),
 ob 23 (.call 243 [(.tmp 20),(.tmp 22)]),
 ob 19 (.mv (.tmp 23)),
 ob 24 (.extract (.tmp 19) 0),
 ob 25 (.extract (.tmp 19) 1),
 ob 8 (.mv (.tmp 24)),
 ob 9 (.mv (.tmp 25))] false [0,3,5,6,7,9,12,13,14]) Uq) Ur)
def Ut:cA :=
 (.region [
 ob 74 (.bin .add (.tmp 14) (.kb (.int .i64 1))),
 ob 14 (.mv (.tmp 74))] false [0,3,5,12,13,14])
def Uu:cA :=
 (.seq (.block 1 (.seq (.region [
 ob 16 (.mv (.tmp 14)),
 ob 17 (.uJ 3 (.tmp 12) (.tmp 14)),
 ob 18 (.kN 3 (.tmp 17)),
 ob 7 (.pq [(.str []),(.int .i64 0),(.int .i64 0)]),
 ob 6 (.mv (.tmp 16)),
 ox (.store 3 (.tmp 7) (.tmp 18))] false [0,3,5,6,7,12,13,14]) Us)) Ut)
def Uv:cA :=
 (.seq (.cond (.tmp 15) (.skip) (.exit 0)) Uu)
def Lh:cA :=
 (.seq (.region [
 ob 15 (.bin .lss (.tmp 14) (.tmp 13))] false [0,3,5,12,13,14,15]) Uv)
def Uw:cA :=
 (.block 0 (.loop [0,3,5,12,13,14] Lh))
def Ux:cA :=
 (.seq (.region [
 ob 75 (.iR 4 (.tmp 3)),
 ob 76 (.ic (.tmp 75)),
 ob 77 (.CC (.tmp 76)),
 ob 78 (.bin .leq (.tmp 77) (.kb (.int .i64 64))),
 ob 4 (.mv (.tmp 78))] false [4]) (.ret))
def Uy:cA :=
 (.seq (.seq (.region [
 ob 11 (.iR 4 (.tmp 3)),
 ob 12 (.ic (.tmp 11)),
 ob 13 (.CC (.tmp 12)),
 ob 14 (.mv (.kb (.int .i64 0)))] false [0,3,5,12,13,14]) Uw) Ux)
def LB:cA :=
 (.seq (.region [
 ob 10 (.mkMap),
 ob 5 (.mv (.tmp 10))] false [0,3,5]) Uy)
def Vy:=bM (gn Uo.eq_1) (bM (gn Uq.eq_1) (bM (gn Ur.eq_1) (bM (gn Us.eq_1) (bM (gn Ut.eq_1) (bM (gn Uu.eq_1) (bM (gn Uv.eq_1) (bM (gn Lh.eq_1) (bM (gn Uw.eq_1) (bM (gn Ux.eq_1) (bM (gn Uy.eq_1) (gn LB.eq_1)))))))))))
def aci:De:={ n:=79,own:=[],lv:=[(0,[0,3]),(1,[0,3,5]),(2,[0,3,5,12,13,14]),(3,[0,3,5,12,13,14,15]),(4,[0,3,5,6,7,12,13,14]),(5,[0,3,5,6,7,9,12,13,14]),(6,[0,3,5,7,12,13,14,70]),(7,[4]),(8,[0,3,5,12,13,14]),(9,[0,3,5,12,13,14]),(10,[4])],lp:=[(3,[0,3,5,12,13,14])] }
def PR:dY:=dY.mk 2 [.tmp 4]
 (.seq (.region [
 ob 3 (.box (.tmp 1)),
 ob 4 (.mv (.kb (.bool false)))] false [0,3]) LB)
def alR:oS Tryz.prog aci f236=some PR:=by kernel_rfl
def Su:Ko [] f240:=by apply Subtype.mk; cbv
def aio:=Su.1
def aaX:=dY.mk 2 [.tmp 4] (sub aio 0)
def aeo:Ko [] f81:=by apply Subtype.mk; cbv
def b81:=aeo.1
def aj4:=dY.mk 2 [.tmp 3] (sub b81 0)
def aey:Ko [] f91:=by apply Subtype.mk; cbv
def b91:=aey.1
def akc:=dY.mk 2 [.tmp 3] (sub b91 0)
def Rc:Ko [] f155:=by apply Subtype.mk; cbv
def ahA:=Rc.1
def aad:=dY.mk 2 [.tmp 3] (sub ahA 0)
def oG:=by
 have h:=bM (fe ahu Q6.1) (bM (fe ahv Q7.1) (bM (fe ahw Q8.1) (bM (fe ahB Re.1) (bM (fe aio Su.1) (bM (fe b81 aeo.1) (bM (fe b91 aey.1) (fe ahA Rc.1)))))));simp only[Q6,Q7,Q8,Re,Su,aeo,aey,Rc,xR,seval] at h;exact h
def Oh:=oG.1
def Vp:=oG.2.1
def abX:=oG.2.2.1
def amV:=oG.2.2.2.1
def ab8:=oG.2.2.2.2.1
def E81:=oG.2.2.2.2.2.1
def E91:=oG.2.2.2.2.2.2.1
def abY:=oG.2.2.2.2.2.2.2
end Go.Proofs.YtahkjijkflobhaaGreatDoor
set_option linter.defProp false
set_option maxRecDepth 100000
namespace Go.Proofs.YtahkjijkflobhaaGreatDoor
open Go Go.Abs
def adN:Ko [] f34:=by apply Subtype.mk; cbv
def b34:=adN.1
def ajR:=dY.mk 2 [.tmp 4] (sub b34 0)
abbrev aeK:=sub b34 7
def adA:Ko [] f18:=by apply Subtype.mk; cbv
def b18:=adA.1
def ajE:=dY.mk 2 [.dB 4 6,.tmp 5] (sub b18 0)
def RB:Ko [] f179:=by apply Subtype.mk; cbv
def ahO:=RB.1
def aap:=dY.mk 2 [.dB 4 6,.tmp 5] (sub ahO 0)
def RD:Ko [] f180:=by apply Subtype.mk; cbv
def acB:=RD.1
def aaq:=dY.mk 2 [.tmp 4] (sub acB 0)
abbrev Xk:=sub acB 7
def Qw:Ko [] f108:=by apply Subtype.mk; cbv
def ag5:=Qw.1
def ZU:=dY.mk 3 [.tmp 6,.tmp 7] (sub ag5 0)
def Rx:Ko [5] f175:=by apply Subtype.mk; cbv
def acz:=Rx.1
def PI:=dY.mk 2 [.dB 4 3] (sub acz 0)
def alF:ub [5] f175 PI:=eN
abbrev Xf:=sub acz 11
def SD:Ko [5] f250:=by apply Subtype.mk; cbv
def acN:=SD.1
def PS:=dY.mk 2 [.dB 4 3] (sub acN 0)
def alS:ub [5] f250 PS:=eN
abbrev XB:=sub acN 9
def RA:Ko [9] f178:=by apply Subtype.mk; cbv
def acA:=RA.1
def PJ:=dY.mk 3 [.dB 6 3] (sub acA 0)
def alH:ub [9] f178 PJ:=eN
abbrev Xj:=sub acA 11
def oH:=by
 have h:=bM (fe b34 adN.1) (bM (fe b18 adA.1) (bM (fe ahO RB.1) (bM (fe acB RD.1) (bM (fe ag5 Qw.1) (bM (fe acz Rx.1) (bM (fe acN SD.1) (fe acA RA.1)))))));simp only[adN,adA,RB,RD,Qw,Rx,SD,RA,xR,seval] at h;exact h
def E34:=oH.1
def E18:=oH.2.1
def Vq:=oH.2.2.1
def Iq:=oH.2.2.2.1
def Ik:=oH.2.2.2.2.1
def Im:=oH.2.2.2.2.2.1
def On:=oH.2.2.2.2.2.2.1
def Ip:=oH.2.2.2.2.2.2.2
def Rv:Ko [12] f174:=by apply Subtype.mk; cbv
def acy:=Rv.1
def PH:=dY.mk 4 [.dB 8 3] (sub acy 0)
def alE:ub [12] f174 PH:=eN
abbrev Xe:=sub acy 15
def RG:Ko [] f182:=by apply Subtype.mk; cbv
def acC:=RG.1
def aas:=dY.mk 2 [.tmp 4] (sub acC 0)
abbrev Xl:=sub acC 7
def adS:Ko [] f39:=by apply Subtype.mk; cbv
def b39:=adS.1
def ajV:=dY.mk 3 [.tmp 6] (sub b39 0)
abbrev aeN:=sub b39 7
def Sy:Ko [] f246:=by apply Subtype.mk; cbv
def air:=Sy.1
def aa1:=dY.mk 2 [.tmp 4] (sub air 0)
def Ru:Ko [] f173:=by apply Subtype.mk; cbv
def ahM:=Ru.1
def aan:=dY.mk 3 [.tmp 6] (sub ahM 0)
def Qu:Ko [] f106:=by apply Subtype.mk; cbv
def ag3:=Qu.1
def ZR:=dY.mk 4 [.dB 8 3,.tmp 9,.tmp 10] (sub ag3 0)
def Qs:Ko [] f104:=by apply Subtype.mk; cbv
def ag1:=Qs.1
def ZQ:=dY.mk 4 [.dB 8 3,.tmp 9] (sub ag1 0)
def Rz:Ko [] f177:=by apply Subtype.mk; cbv
def ahN:=Rz.1
def aao:=dY.mk 2 [.dB 4 3] (sub ahN 0)
def oI:=by
 have h:=bM (fe acy Rv.1) (bM (fe acC RG.1) (bM (fe b39 adS.1) (bM (fe air Sy.1) (bM (fe ahM Ru.1) (bM (fe ag3 Qu.1) (bM (fe ag1 Qs.1) (fe ahN Rz.1)))))));simp only[Rv,RG,adS,Sy,Ru,Qu,Qs,Rz,xR,seval] at h;exact h
def EU:=oI.1
def Ir:=oI.2.1
def VC:=oI.2.2.1
def agQ:=oI.2.2.2.1
def ET:=oI.2.2.2.2.1
def agz:=oI.2.2.2.2.2.1
def agy:=oI.2.2.2.2.2.2.1
def agK:=oI.2.2.2.2.2.2.2
def Qv:Ko [] f107:=by apply Subtype.mk; cbv
def ag4:=Qv.1
def ZT:=dY.mk 3 [.dB 6 3,.tmp 7,.tmp 8] (sub ag4 0)
def RE:Ko [] f181:=by apply Subtype.mk; cbv
def ahP:=RE.1
def aar:=dY.mk 3 [.tmp 6] (sub ahP 0)
def RH:Ko [] f183:=by apply Subtype.mk; cbv
def acD:=RH.1
def aat:=dY.mk 3 [.tmp 6] (sub acD 0)
abbrev Xm:=sub acD 11
def Qx:Ko [] f109:=by apply Subtype.mk; cbv
def ag6:=Qx.1
def ZV:=dY.mk 5 [.dB 10 3,.tmp 11,.tmp 12] (sub ag6 0)
def QG:Ko [27] f118:=by apply Subtype.mk; cbv
def ahb:=QG.1
def Pv:=dY.mk 3 [.dB 6 3,.tmp 7] (sub ahb 0)
def alr:ub [27] f118 Pv:=eN
def RQ:Ko [] f190:=by apply Subtype.mk; cbv
def ahW:=RQ.1
def aay:=dY.mk 2 [.dB 4 3,.tmp 5] (sub ahW 0)
def adV:Ko [] f48:=by apply Subtype.mk; cbv
def b48:=adV.1
def ajY:=dY.mk 0 [.dB 0 3] (sub b48 0)
def aeE:Ko [] f97:=by apply Subtype.mk; cbv
def b97:=aeE.1
def aki:=dY.mk 1 [.tmp 2] (sub b97 0)
abbrev ae2:=sub b97 15
def nb:=by
 have h:=bM (fe ag4 Qv.1) (bM (fe ahP RE.1) (bM (fe acD RH.1) (bM (fe ag6 Qx.1) (bM (fe ahb QG.1) (bM (fe ahW RQ.1) (bM (fe b48 adV.1) (fe b97 aeE.1)))))));simp only[Qv,RE,RH,Qx,QG,RQ,adV,aeE,xR,seval] at h;exact h
def agA:=nb.1
def agL:=nb.2.1
def Ol:=nb.2.2.1
def BH:=nb.2.2.2.1
def agD:=nb.2.2.2.2.1
def agM:=nb.2.2.2.2.2.1
def E48:=nb.2.2.2.2.2.2.1
def Zo:=nb.2.2.2.2.2.2.2
end Go.Proofs.YtahkjijkflobhaaGreatDoor
set_option linter.defProp false
set_option maxRecDepth 100000
namespace Go.Proofs.YtahkjijkflobhaaGreatDoor
open Go Go.Abs
def adO:Ko [7] f35:=by apply Subtype.mk; cbv
def b35:=adO.1
def MG:=dY.mk 1 [.tmp 2,.tmp 3] (sub b35 0)
def arw:ub [7] f35 MG:=eN
abbrev aeL:=sub b35 27
def adP:Ko [] f36:=by apply Subtype.mk; cbv
def b36:=adP.1
def ajS:=dY.mk 1 [.tmp 2] (sub b36 0)
abbrev aeM:=sub b36 17
def ad2:Ko [] f55:=by apply Subtype.mk; cbv
def b55:=ad2.1
def Wq:=dY.mk 3 [.dB 6 3,.tmp 7] (sub b55 0)
def aeC:Ko [] f95:=by apply Subtype.mk; cbv
def b95:=aeC.1
def akg:=dY.mk 2 [.tmp 4] (sub b95 0)
def aeD:Ko [] f96:=by apply Subtype.mk; cbv
def b96:=aeD.1
def akh:=dY.mk 2 [.tmp 4] (sub b96 0)
def Qq:Ko [] f102:=by apply Subtype.mk; cbv
def agZ:=Qq.1
def ZP:=dY.mk 2 [.tmp 4,.tmp 5] (sub agZ 0)
def Qz:Ko [13] f111:=by apply Subtype.mk; cbv
def VM:=Qz.1
def yO:=dY.mk 4 [.tmp 8,.tmp 9,.tmp 10] (sub VM 0)
def alk:ub [13] f111 yO:=eN
abbrev WV:=sub VM 32
abbrev WW:=sub VM 24
def QA:Ko [92] f112:=by apply Subtype.mk; cbv
def acq:=QA.1
def Pt:=dY.mk 5 [.tmp 10,.tmp 11] (sub acq 0)
def alm:ub [92] f112 Pt:=eN
abbrev WX:=sub acq 49
def oL:=by
 have h:=bM (fe b35 adO.1) (bM (fe b36 adP.1) (bM (fe b55 ad2.1) (bM (fe b95 aeC.1) (bM (fe b96 aeD.1) (bM (fe agZ Qq.1) (bM (fe VM Qz.1) (fe acq QA.1)))))));simp only[adO,adP,ad2,aeC,aeD,Qq,Qz,QA,xR,seval] at h;exact h
def N2:=oL.1
def E36:=oL.2.1
def E55:=oL.2.2.1
def E95:=oL.2.2.2.1
def E96:=oL.2.2.2.2.1
def abN:=oL.2.2.2.2.2.1
def xT:=oL.2.2.2.2.2.2.1
def ER:=oL.2.2.2.2.2.2.2
def QB:Ko [17] f113:=by apply Subtype.mk; cbv
def acr:=QB.1
def xF:=dY.mk 5 [.tmp 10,.tmp 11] (sub acr 0)
def aln:ub [17] f113 xF:=eN
abbrev WY:=sub acr 49
def QD:Ko [29] f115:=by apply Subtype.mk; cbv
def ag9:=QD.1
def DP:=dY.mk 4 [.dB 8 3,.tmp 9,.tmp 10] (sub ag9 0)
def alp:ub [29] f115 DP:=eN
def QE:Ko [] f116:=by apply Subtype.mk; cbv
def aha:=QE.1
def Pu:=dY.mk 3 [.tmp 6,.tmp 7] (sub aha 0)
def Rq:Ko [] f170:=by apply Subtype.mk; cbv
def ahJ:=Rq.1
def PF:=dY.mk 2 [.tmp 4] (sub ahJ 0)
def Rr:Ko [] f171:=by apply Subtype.mk; cbv
def ahK:=Rr.1
def PG:=dY.mk 2 [.tmp 4] (sub ahK 0)
def Rs:Ko [] f172:=by apply Subtype.mk; cbv
def ahL:=Rs.1
def KL:=dY.mk 1 [.tmp 2,.tmp 3,.tmp 4] (sub ahL 0)
def RI:Ko [] f184:=by apply Subtype.mk; cbv
def ahQ:=RI.1
def aau:=dY.mk 2 [.tmp 4] (sub ahQ 0)
def RJ:Ko [] f185:=by apply Subtype.mk; cbv
def ahR:=RJ.1
def aav:=dY.mk 3 [.tmp 6] (sub ahR 0)
def oM:=by
 have h:=bM (fe acr QB.1) (bM (fe ag9 QD.1) (bM (fe aha QE.1) (bM (fe ahJ Rq.1) (bM (fe ahK Rr.1) (bM (fe ahL Rs.1) (bM (fe ahQ RI.1) (fe ahR RJ.1)))))));simp only[QB,QD,QE,Rq,Rr,Rs,RI,RJ,xR,seval] at h;exact h
def BI:=oM.1
def Vl:=oM.2.1
def agC:=oM.2.2.1
def Oi:=oM.2.2.2.1
def Oj:=oM.2.2.2.2.1
def ab1:=oM.2.2.2.2.2.1
def am1:=oM.2.2.2.2.2.2.1
def ab2:=oM.2.2.2.2.2.2.2
def RM:Ko [] f186:=by apply Subtype.mk; cbv
def ahS:=RM.1
def aaw:=dY.mk 2 [.tmp 4] (sub ahS 0)
def RN:Ko [] f187:=by apply Subtype.mk; cbv
def ahT:=RN.1
def KM:=dY.mk 2 [.tmp 4,.tmp 5] (sub ahT 0)
def RO:Ko [] f188:=by apply Subtype.mk; cbv
def ahU:=RO.1
def KN:=dY.mk 2 [.tmp 4] (sub ahU 0)
def RP:Ko [] f189:=by apply Subtype.mk; cbv
def ahV:=RP.1
def aax:=dY.mk 2 [.tmp 4] (sub ahV 0)
def SE:Ko [5000014] f251:=by apply Subtype.mk; cbv
def OO:=SE.1
def GR:=dY.mk 2 [.tmp 4] (sub OO 0)
def alT:ub [5000014] f251 GR:=eN
abbrev XC:=sub OO 42
abbrev XD:=sub OO 24
abbrev XE:=sub OO 9
def SU:Ko [] f287:=by apply Subtype.mk; cbv
def aiE:=SU.1
def KW:=dY.mk 3 [.tmp 6] (sub aiE 0)
def SV:Ko [] f288:=by apply Subtype.mk; cbv
def aiF:=SV.1
def KX:=dY.mk 2 [.tmp 4] (sub aiF 0)
def oJ:=by
 have h:=bM (fe ahS RM.1) (bM (fe ahT RN.1) (bM (fe ahU RO.1) (bM (fe ahV RP.1) (bM (fe OO SE.1) (bM (fe aiE SU.1) (fe aiF SV.1))))));simp only[RM,RN,RO,RP,SE,SU,SV,xR,seval] at h;exact h
def am2:=oJ.1
def ab3:=oJ.2.1
def ab4:=oJ.2.2.1
def Vr:=oJ.2.2.2.1
def Bi:=oJ.2.2.2.2.1
def acd:=oJ.2.2.2.2.2.1
def ace:=oJ.2.2.2.2.2.2
end Go.Proofs.YtahkjijkflobhaaGreatDoor
set_option linter.defProp false
set_option maxRecDepth 100000
namespace Go.Proofs.YtahkjijkflobhaaGreatDoor
open Go Go.Abs
def ady:Ko [] f16:=by apply Subtype.mk; cbv
def b16:=ady.1
def ajC:=dY.mk 2 [.tmp 4] (sub b16 0)
def adz:Ko [] f17:=by apply Subtype.mk; cbv
def b17:=adz.1
def ajD:=dY.mk 2 [.tmp 4] (sub b17 0)
def adE:Ko [] f23:=by apply Subtype.mk; cbv
def b23:=adE.1
def ajI:=dY.mk 0 [.dB 0 10] (sub b23 0)
def adF:Ko [] f24:=by apply Subtype.mk; cbv
def b24:=adF.1
def tF:=dY.mk 2 [.dB 4 10,.dB 5 7] (sub b24 0)
def adM:Ko [] f33:=by apply Subtype.mk; cbv
def b33:=adM.1
def ajQ:=dY.mk 2 [.tmp 4] (sub b33 0)
def adU:Ko [] f47:=by apply Subtype.mk; cbv
def b47:=adU.1
def ajX:=dY.mk 1 [.dB 2 8] (sub b47 0)
def adW:Ko [] f49:=by apply Subtype.mk; cbv
def b49:=adW.1
def ajZ:=dY.mk 1 [.dB 2 7] (sub b49 0)
def adX:Ko [] f50:=by apply Subtype.mk; cbv
def b50:=adX.1
def Fg:=dY.mk 2 [.dB 4 10,.dB 5 7] (sub b50 0)
def oN:=by
 have h:=bM (fe b16 ady.1) (bM (fe b17 adz.1) (bM (fe b23 adE.1) (bM (fe b24 adF.1) (bM (fe b33 adM.1) (bM (fe b47 adU.1) (bM (fe b49 adW.1) (fe b50 adX.1)))))));simp only[ady,adz,adE,adF,adM,adU,adW,adX,xR,seval] at h;exact h
def E16:=oN.1
def E17:=oN.2.1
def E23:=oN.2.2.1
def Dg:=oN.2.2.2.1
def E33:=oN.2.2.2.2.1
def E47:=oN.2.2.2.2.2.1
def E49:=oN.2.2.2.2.2.2.1
def Zl:=oN.2.2.2.2.2.2.2
def adY:Ko [14] f51:=by apply Subtype.mk; cbv
def b51:=adY.1
def yP:=dY.mk 2 [.dB 4 10,.dB 5 7] (sub b51 0)
def arx:ub [14] f51 yP:=eN
abbrev aeO:=sub b51 52
def adZ:Ko [] f52:=by apply Subtype.mk; cbv
def b52:=adZ.1
def Bn:=dY.mk 2 [.dB 4 10,.dB 5 7] (sub b52 0)
def ad0:Ko [17] f53:=by apply Subtype.mk; cbv
def b53:=ad0.1
def Ju:=dY.mk 2 [.dB 4 7] (sub b53 0)
def ary:ub [17] f53 Ju:=eN
abbrev aeP:=sub b53 54
abbrev aeQ:=sub b53 31
abbrev aeR:=sub b53 87
def ad1:Ko [10,41] f54:=by apply Subtype.mk; cbv
def b54:=ad1.1
def PV:=dY.mk 2 [.dB 4 8,.tmp 5] (sub b54 0)
def arz:ub [10,41] f54 PV:=eN
abbrev aeS:=sub b54 9
abbrev aeT:=sub b54 38
def ad3:Ko [23,74] f56:=by apply Subtype.mk; cbv
def b56:=ad3.1
def MH:=dY.mk 2 [.dB 4 8] (sub b56 0)
def arA:ub [23,74] f56 MH:=eN
abbrev aeU:=sub b56 19
abbrev aeV:=sub b56 65
abbrev aeW:=sub b56 50
def Qr:Ko [] f103:=by apply Subtype.mk; cbv
def ag0:=Qr.1
def Pr:=dY.mk 2 [.tmp 4,.tmp 5,.tmp 6] (sub ag0 0)
def Qt:Ko [] f105:=by apply Subtype.mk; cbv
def ag2:=Qt.1
def KE:=dY.mk 5 [.dB 10 10,.dB 11 7] (sub ag2 0)
def Qy:Ko [] f110:=by apply Subtype.mk; cbv
def ag7:=Qy.1
def Ps:=dY.mk 1 [.tmp 2] (sub ag7 0)
def oO:=by
 have h:=bM (fe b51 adY.1) (bM (fe b52 adZ.1) (bM (fe b53 ad0.1) (bM (fe b54 ad1.1) (bM (fe b56 ad3.1) (bM (fe ag0 Qr.1) (bM (fe ag2 Qt.1) (fe ag7 Qy.1)))))));simp only[adY,adZ,ad0,ad1,ad3,Qr,Qt,Qy,xR,seval] at h;exact h
def L3:=oO.1
def Oq:=oO.2.1
def Iw:=oO.2.2.1
def Zm:=oO.2.2.2.1
def N3:=oO.2.2.2.2.1
def agx:=oO.2.2.2.2.2.1
def abO:=oO.2.2.2.2.2.2.1
def agB:=oO.2.2.2.2.2.2.2
def QC:Ko [35] f114:=by apply Subtype.mk; cbv
def ag8:=QC.1
def Ce:=dY.mk 2 [.dB 4 8,.tmp 5,.tmp 6] (sub ag8 0)
def alo:ub [35] f114 Ce:=eN
def QF:Ko [7000011] f117:=by apply Subtype.mk; cbv
def VN:=QF.1
def DQ:=dY.mk 3 [.tmp 6] (sub VN 0)
def alq:ub [7000011] f117 DQ:=eN
abbrev Fp:=sub VN 15
abbrev WZ:=sub VN 28
def QH:Ko [47] f119:=by apply Subtype.mk; cbv
def ahc:=QH.1
def GJ:=dY.mk 2 [.tmp 4,.tmp 5,.tmp 6] (sub ahc 0)
def als:ub [47] f119 GJ:=eN
def QI:Ko [] f120:=by apply Subtype.mk; cbv
def ahd:=QI.1
def ZW:=dY.mk 3 [.tmp 6] (sub ahd 0)
def Ry:Ko [8,14] f176:=by apply Subtype.mk; cbv
def OM:=Ry.1
def GM:=dY.mk 3 [.dB 6 10,.tmp 7] (sub OM 0)
def alG:ub [8,14] f176 GM:=eN
abbrev Xg:=sub OM 9
abbrev Xh:=sub OM 30
abbrev Xi:=sub OM 49
def RR:Ko [] f191:=by apply Subtype.mk; cbv
def ahX:=RR.1
def KQ:=dY.mk 2 [.tmp 4] (sub ahX 0)
def RS:Ko [20,5000016] f192:=by apply Subtype.mk; cbv
def ON:=RS.1
def GN:=dY.mk 2 [.tmp 4,.tmp 5] (sub ON 0)
def alI:ub [20,5000016] f192 GN:=eN
abbrev Xn:=sub ON 36
abbrev Xo:=sub ON 56
abbrev Xp:=sub ON 13
def SA:Ko [] f247:=by apply Subtype.mk; cbv
def ais:=SA.1
def aa2:=dY.mk 2 [.tmp 4] (sub ais 0)
def nc:=by
 have h:=bM (fe ag8 QC.1) (bM (fe VN QF.1) (bM (fe ahc QH.1) (bM (fe ahd QI.1) (bM (fe OM Ry.1) (bM (fe ahX RR.1) (bM (fe ON RS.1) (fe ais SA.1)))))));simp only[QC,QF,QH,QI,Ry,RR,RS,SA,xR,seval] at h;exact h
def Od:=nc.1
def FT:=nc.2.1
def Oe:=nc.2.2.1
def abP:=nc.2.2.2.1
def Df:=nc.2.2.2.2.1
def L1:=nc.2.2.2.2.2.1
def zF:=nc.2.2.2.2.2.2.1
def ab9:=nc.2.2.2.2.2.2.2
def SB:Ko [] f248:=by apply Subtype.mk; cbv
def VU:=SB.1
def KT:=dY.mk 2 [.tmp 4] (sub VU 0)
abbrev Xz:=sub VU 41
abbrev XA:=sub VU 27
def SC:Ko [] f249:=by apply Subtype.mk; cbv
def ait:=SC.1
def KU:=dY.mk 2 [.tmp 4] (sub ait 0)
def SF:Ko [23] f252:=by apply Subtype.mk; cbv
def aiu:=SF.1
def GS:=dY.mk 2 [.tmp 4] (sub aiu 0)
def alU:ub [23] f252 GS:=eN
def vT:=by
 have h:=And.intro (fe VU SB.1) (And.intro (fe ait SC.1) (fe aiu SF.1));simp only[SB,SC,SF,xR,seval] at h;exact h
def Dh:=vT.1
def aca:=vT.2.1
def Vz:=vT.2.2
end Go.Proofs.YtahkjijkflobhaaGreatDoor
namespace Go.Abs
section
open Go Go.RowKit
theorem fE{α:Type}:∀(l:List α)(i:Nat),nth l i=l[i]?
 | [],_=>by rfl
 |_::_,0=>by rfl
 |_::l,n+1=>by simp[nth,fE l n]
theorem gq{α:Type}:∀(l:List α)(i:Nat)(x:α),jk l i x=l.set i x
 | [],_,_=>by rfl
 |_::_,0,_=>by rfl
 |_::l,n+1,x=>by simp[jk,gq l n]
def gy(j:J)(id:Nat)(ob:Option Nat):J:=⟨fun i=>if i=id then ob else j i,j.X⟩
structure Quiet(w w':World):Prop where
 size:w.heap.size<=w'.heap.size
 os:w'.os=w.os
 tape:w'.tape=w.tape
 output:w'.output=w.output
theorem lt_of_block{w:World}{b:Nat}{o:Obj}(h:w.heap[b]?=some o):b<w.heap.size:=by
 grind
theorem aJ{α:Type}{l:List α}{i:Nat}{x:α}(h:l[i]?=some x):i<l.length:=by grind
section
variable {j:J} {M:aH} {w w':World}
theorem pn{j':J}{M':aH}(hr:Rel j M w)(ext:Ext j M w j' M' w'){i sz ver:Nat}{xs:List ag}(h:M[i]?=some (.arr sz ver xs))(hj:j' i=j i)(hb:∀b,j i=some b->w'.heap[b]?=w.heap[b]?) :
  (xs=[]/\j' i=none)\/∃b vs t,j' i=some b/\w'.heap[b]?=some (.cells vs t (0,0))/\xs.length*sz<=vs.size/\(∀x,x∈xs->x.cells.length=sz) /\
  ∀(q:Nat)(x:ag)(k:Nat)(c:ag),xs[q]?=some x->x.cells[k]?=some c->∃v,vs[q*sz+k]?=some v/\fF w' (ng j' M' w') c v:=by
 rcases hr.arr i _ _ _ h with he|⟨b,vs,t,h1,h2,h3,h4,h5⟩
 ·grind
 refine .inr ⟨b,vs,t,hj.trans h1,(hb b h1).trans h2,h3,h4,fun q x k c hx hk=>?_⟩
 obtain⟨u,h6,h7⟩:=h5 q x k c hx hk;exact⟨u,h6,h7.mono ext.ia⟩
theorem Rel.yE(hr:Rel j M w){i sz ver b:Nat}{xs:List ag}(h:M[i]?=some (.arr sz ver xs))(hj:j i=some b):∃b vs t,j i=some b/\w.heap[b]?=some (.cells vs t (0,0))/\xs.length*sz<=vs.size/\(∀x,x∈xs->x.cells.length=sz) /\
  ∀(q:Nat)(x:ag)(k:Nat)(c:ag),xs[q]?=some x->x.cells[k]?=some c->∃v,vs[q*sz+k]?=some v/\fF w (ng j M w) c v:=by
 rcases hr.arr i _ _ _ h with ⟨_,he⟩|hh
 ·grind
 omega
theorem yC{bx:dv}{i:Nat}(h:i<M.length):(M++[bx])[i]?=M[i]?:=by grind
def lX{bx:dv}:(M++[bx])[M.length]?=some bx:=by simp
theorem Ext.push{ob:Option Nat}{bx:dv}(hob:∀b,ob=some b->w.heap.size<=b)(q:Quiet w w')(hb:∀b,b<w.heap.size->w'.heap[b]?=w.heap[b]?) :
  Ext j M w (gy j M.length ob) (M++[bx]) w' where
 len:=by simp
 size:=q.size
 os:=q.os
 tape:=q.tape
 output:=q.output
 X:=rfl
 fix:=fun i bx h _=>by
  have hi:=aJ h;exact⟨by simp[gy,gI hi],bx,by rw[yC hi]; omega,rfl⟩
 tick:=fun i sz n h=>by
  have hi:=aJ h;exact⟨n,aC _,by rw[yC hi]; omega,fun _=>⟨by simp[gy,gI hi],fun b vs t _ hv=>⟨vs,(hb b (lt_of_block hv)).trans hv,rfl⟩⟩⟩
 arr:=fun i sz v xs h=>by
  have hi:=aJ h;exact .inr ⟨v,xs,by rw[yC hi]; omega,aC _,fun _=>⟨by simp[gy,gI hi],rfl,fun b vs t _ hv=>⟨vs,(hb b (lt_of_block hv)).trans hv,rfl⟩⟩⟩
 tags:=fun b0 vs0 t0 fr0 h=>⟨vs0,fr0,(hb b0 (lt_of_block h)).trans h,rfl⟩
 ia:=fun b off h=>by
  refine⟨⟨bw h.1 q.size,fun id hid hj=>?_,h.3⟩,World.cell?_of_block (hb b h.1)⟩
  by_cases he:id=M.length
  ·have:ob=some b:=by grind [gy]
   have:=hob b this;have:=h.1;omega
  ·have cn:id<M.length:=by grind
   rw[yC cn];exact h.2 id cn (by grind [gy])
 uo:=fun b cn h=>by
  grind [ob,gy]
theorem Rel.al8(hr:Rel j M w){ob:Option Nat}{bx:dv}(hob:∀b,ob=some b->w.heap.size<=b/\b<w'.heap.size)(q:Quiet w w')(hb:∀b,b<w.heap.size->w'.heap[b]?=w.heap[b]?)
  (hbox:bx.fixed=true->∃b,ob=some b/\(Ext j M w (gy j M.length ob) (M++[bx]) w'->Holds (gy j M.length ob) (M++[bx]) w' b bx))
  (htick:∀sz n b,bx = .tick sz n->ob=some b->∃vs t,w'.heap[b]?=some (.cells vs t (0,0)))
  (harr:∀sz ver xs,bx = .arr sz ver xs->(xs=[]/\ob=none)\/∃b vs t,ob=some b/\w'.heap[b]?=some (.cells vs t (0,0))/\xs.length*sz<=vs.size/\(∀x,x∈xs->x.cells.length=sz) /\
   ∀j' M',Ext j M w j' M' w'->∀(q:Nat)(x:ag)(k:Nat)(c:ag),xs[q]?=some x->x.cells[k]?=some c->∃v,vs[q*sz+k]?=some v/\fF w' (ng j' M' w') c v:=by intro _ _ _ h; cases h):Rel (gy j M.length ob) (M++[bx]) w':=by
 have ext:Ext j M w (gy j M.length ob) (M++[bx]) w':=Ext.push (fun b h=>(hob b h).1) q hb
 have up:∀i,i<M.length->gy j M.length ob i=j i:=fun i hi=>by simp[gy,gI hi]
 have cas:∀i x,(M++[bx])[i]?=some x->(i<M.length/\M[i]?=some x)\/(i=M.length/\x=bx):=by
  grind
 refine⟨fun i i' b hi hi' h h'=>?_,fun i b hi h=>?_,fun i bx' h hf=>?_,fun i sz n b h hj=>?_,fun i sz ver xs h=>?_,fun i b hi h off hx=>?_,fun b off h=>bw (hr.zC b off h) q.size⟩
 ·simp only[aD,au,av] at hi hi'
  by_cases e:i=M.length<;>by_cases e':i'=M.length
  ·omega
  ·have h1:ob=some b:=by simpa[gy,e] using h
   rw[up i' (by omega)] at h'
   have:=hr.lt i' b (by omega) h'
   have:=(hob b h1).1;omega
  ·have h1:ob=some b:=by simpa[gy,e'] using h'
   rw[up i (by omega)] at h
   have:=hr.lt i b (by omega) h
   have:=(hob b h1).1;omega
  ·rw[up i (by omega)] at h
   rw[up i' (by omega)] at h'
   exact hr.inj i i' b (by omega) (by omega) h h'
 ·simp only[aD,au,av] at hi
  by_cases e:i=M.length
  ·exact(hob b (by simpa[gy,e] using h)).2
  ·rw[up i (by omega)] at h
   exact bw (hr.lt i b (by omega) h) q.size
 ·rcases cas i _ h with ⟨hi,h⟩|⟨rfl,hx⟩
  ·obtain⟨b,h1,h2⟩:=hr.fix i bx' h hf;exact⟨b,by rw[up i hi]; exact h1,h2.mono ext (hb b (hr.lt i b hi h1))⟩
  ·subst hx;obtain⟨b,h1,h2⟩:=hbox hf;exact⟨b,by simp[gy,h1],h2 ext⟩
 ·rcases cas i _ h with ⟨hi,h⟩|⟨rfl,hx⟩
  ·rw[up i hi] at hj;obtain⟨vs,t,h1⟩:=hr.tick i sz n b h hj;exact⟨vs,t,(hb b (lt_of_block h1)).trans h1⟩
  ·exact htick sz n b hx.symm (by simpa[gy] using hj)
 ·rcases cas i _ h with ⟨hi,h⟩|⟨rfl,hx⟩
  ·exact pn hr ext h (up i hi) fun b h1=>hb b (hr.lt i b hi h1)
  grind [gy]
 ·by_cases e:i=M.length
  ·have h1:=(hob b (by simpa[gy,e] using h)).1
   have h2:=hr.zC b off hx;omega
  ·exact hr.um i b (by simp at hi; omega) (by rw[up i (by simp at hi; omega)] at h; exact h) off hx
def Rel.push(hr:Rel j M w){ob:Option Nat}{bx:dv}(hob:∀b,ob=some b->w.heap.size<=b/\b<w'.heap.size)(q:Quiet w w')(hb:∀b,b<w.heap.size->w'.heap[b]?=w.heap[b]?)
  (hbox:bx.fixed=true->∃b,ob=some b/\∀j' M',Ext j M w j' M' w'->Holds j' M' w' b bx)
  (htick:∀sz n b,bx = .tick sz n->ob=some b->∃vs t,w'.heap[b]?=some (.cells vs t (0,0)))
  (harr:∀sz ver xs,bx = .arr sz ver xs->(xs=[]/\ob=none)\/∃b vs t,ob=some b/\w'.heap[b]?=some (.cells vs t (0,0))/\xs.length*sz<=vs.size/\(∀x,x∈xs->x.cells.length=sz) /\
   ∀j' M',Ext j M w j' M' w'->∀(q:Nat)(x:ag)(k:Nat)(c:ag),xs[q]?=some x->x.cells[k]?=some c->∃v,vs[q*sz+k]?=some v/\fF w' (ng j' M' w') c v:=by intro _ _ _ h; cases h):Rel (gy j M.length ob) (M++[bx]) w' :=
 hr.al8 hob q hb (fun hf=>(hbox hf).imp fun b h=>⟨h.1,fun hx=>h.2 _ _ hx⟩) htick harr
theorem dJ{id:Nat}{bx:dv}(h:id<M.length):(M.set id bx)[id]?=some bx:=by grind
theorem cI{id i:Nat}{bx:dv}(h:id≠i):(M.set id bx)[i]?=M[i]?:=by grind
theorem Ext.store{id b:Nat}{bx bx':dv}(hM:M[id]?=some bx)(hfx:bx.fixed=true)(htag:bx'.tag=bx.tag)(hj:j id=some b)(hr:Rel j M w)(q:Quiet w w')
  (hb:∀b',b'≠b->b'<w.heap.size->w'.heap[b']?=w.heap[b']?) (htg:∀(vs:Array Value)(t:TypeId)(fr:Nat×Nat),w.heap[b]?=some (.cells vs t fr)->∃vs' fr',w'.heap[b]?=some (.cells vs' t fr')/\vs'.size=vs.size):Ext j M w j (M.set id bx') w' where
 len:=by simp
 size:=q.size
 os:=q.os
 tape:=q.tape
 output:=q.output
 X:=rfl
 fix:=fun i b0 h _=>⟨rfl,by
  grind⟩
 tick:=fun i sz n h=>by
  have e:id≠i:=by rintro rfl; rw[hM] at h; cases h; cases hfx
  refine⟨n,aC _,by rw[cI e]; omega,fun _=>⟨rfl,fun b' vs t hb' hv=>⟨vs,?_,rfl⟩⟩⟩
  refine(hb b' ?_ (lt_of_block hv)).trans hv;rintro rfl;exact e (hr.inj _ _ _ (aJ hM) (aJ h) hj hb')
 arr:=fun i sz v xs h=>by
  have e:id≠i:=by rintro rfl; rw[hM] at h; cases h; cases hfx
  refine .inr ⟨v,xs,by rw[cI e]; omega,aC _,fun _=>⟨rfl,rfl,fun b' vs t hb' hv=>⟨vs,?_,rfl⟩⟩⟩
  refine(hb b' ?_ (lt_of_block hv)).trans hv;rintro rfl;exact e (hr.inj _ _ _ (aJ hM) (aJ h) hj hb')
 tags:=fun b0 vs0 t0 fr0 h=>by
  grind
 ia:=fun b0 off h=>by
  have hne:b0≠b:=by
   rintro rfl;obtain⟨sz,n,h1,_⟩:=h.2 id (aJ hM) hj;rw[hM] at h1; cases h1; cases hfx
  refine⟨⟨bw h.1 q.size,fun i hi hji=>?_,h.3⟩,World.cell?_of_block (w:=w) (hb b0 hne h.1)⟩
  have e:id≠i:=by grind
  rw[cI e];exact h.2 i (by simpa using hi) hji
 uo:=fun b0 cn h=>by
  grind
theorem Rel.store{id b:Nat}{bx bx':dv}(hM:M[id]?=some bx)(hfx:bx.fixed=true)(htag:bx'.tag=bx.tag)(hj:j id=some b)(hr:Rel j M w)(q:Quiet w w')
  (hb:∀b',b'≠b->b'<w.heap.size->w'.heap[b']?=w.heap[b']?) (htg:∀(vs:Array Value)(t:TypeId)(fr:Nat×Nat),w.heap[b]?=some (.cells vs t fr)->∃vs' fr',w'.heap[b]?=some (.cells vs' t fr')/\vs'.size=vs.size) (hh:∀j' M',Ext j M w j' M' w'->Holds j' M' w' b bx'):Rel j (M.set id bx') w':=by
 have ext  := Ext.store hM hfx htag hj hr q hb htg;refine⟨fun i i' b0 hi hi'=>hr.inj i i' b0 (by simpa using hi) (by simpa using hi'),fun i b0 hi h=>bw (hr.lt i b0 (by simpa using hi) h) q.size,fun i bx0 h hf=>?_,fun i sz n b0 h hji=>?_,fun i sz ver xs h=>?_,fun i b0 hi h=>hr.um i b0 (by simpa using hi) h,fun b0 off h=>bw (hr.zC b0 off h) q.size⟩
 ·by_cases e:id=i
  ·grind
  ·rw[cI e] at h;obtain⟨b0,h1,h2⟩:=hr.fix i _ h hf;refine⟨b0,h1,h2.mono ext (hb b0 ?_ (hr.lt i b0 (aJ h) h1))⟩;rintro rfl;exact e (hr.inj _ _ _ (aJ hM) (aJ h) hj h1)
 ·have e:id≠i:=by
   rintro rfl;rw[dJ (aJ hM)] at h;injection h with h
   have:=Ax htag hfx;rw[h] at this; cases this
  rw[cI e] at h;obtain⟨vs,t0,h1⟩:=hr.tick i sz n b0 h hji;refine⟨vs,t0,(hb b0 ?_ (lt_of_block h1)).trans h1⟩;rintro rfl;exact e (hr.inj _ _ _ (aJ hM) (aJ h) hj hji)
 ·have e:id≠i:=by
   rintro rfl;rw[dJ (aJ hM)] at h;injection h with h
   have:=Ax htag hfx;rw[h] at this; cases this
  rw[cI e] at h;refine pn hr ext h rfl fun b0 h1=>hb b0 ?_ (hr.lt i b0 (aJ h) h1)
  rintro rfl;exact e (hr.inj _ _ _ (aJ hM) (aJ h) hj h1)
theorem Ext.FN{k b sz n n':Nat}{vs vs':Array Value}{t:TypeId}(hM:M[k]?=some (.tick sz n))(hj:j k=some b)(hr:Rel j M w)(q:Quiet w w')
  (hb:∀b',b'≠b->b'<w.heap.size->w'.heap[b']?=w.heap[b']?) (hw:w.heap[b]?=some (.cells vs t (0,0))) (hw':w'.heap[b]?=some (.cells vs' t (0,0))) (hvs:vs'.size=vs.size)
  (hq:∀p,p<n*sz->vs'[p]?=vs[p]?) (hn:n<=n'):Ext j M w j (M.set k (.tick sz n')) w' where
 len:=by simp
 size:=q.size
 os:=q.os
 tape:=q.tape
 output:=q.output
 X:=rfl
 fix:=fun i b0 h hf=>⟨rfl,by
  have e:k≠i:=by rintro rfl; rw[hM] at h; cases h; cases hf
  grind⟩
 tick:=fun i sz0 n0 h=>by
  grind
 arr:=fun i sz v xs h=>by
  grind
 tags:=fun b0 vs0 t0 fr0 h=>by
  grind
 ia:=fun b0 off h=>by
  refine⟨⟨bw h.1 q.size,fun i hi hji=>?_,h.3⟩,?_⟩
  ·by_cases e:k=i
   ·subst e;obtain⟨sz0,n0,h1,h2⟩:=h.2 k (aJ hM) hji;rw[hM] at h1;injection h1 with h1; injection h1 with e1 e2
    subst e1; subst e2;exact⟨sz,n',dJ (aJ hM),bw h2 (bf _ hn)⟩
   ·rw[cI e];exact h.2 i (by simpa using hi) hji
  ·by_cases e:b0=b
   ·subst e;obtain⟨sz0,n0,h1,h2⟩:=h.2 k (aJ hM) hj;rw[hM] at h1
    grind [World.cell?]
   ·exact World.cell?_of_block (w:=w) (hb b0 e h.1)
 uo:=fun b0 cn h=>by
  grind
theorem Rel.FN{k b sz n n':Nat}{vs vs':Array Value}{t:TypeId}(hM:M[k]?=some (.tick sz n))(hj:j k=some b)(hr:Rel j M w)(q:Quiet w w')
  (hb:∀b',b'≠b->b'<w.heap.size->w'.heap[b']?=w.heap[b']?) (hw:w.heap[b]?=some (.cells vs t (0,0))) (hw':w'.heap[b]?=some (.cells vs' t (0,0))) (hvs:vs'.size=vs.size)
  (hq:∀p,p<n*sz->vs'[p]?=vs[p]?) (hn:n<=n'):Rel j (M.set k (.tick sz n')) w':=by
 have ext:Ext j M w j (M.set k (.tick sz n')) w':=Ext.FN hM hj hr q hb hw hw' hvs hq hn;refine⟨fun i i' b0 hi hi'=>hr.inj i i' b0 (by grind) (by grind),fun i b0 hi h=>bw (hr.lt i b0 (by grind) h) q.size,fun i bx0 h hf=>?_,fun i sz0 n0 b0 h hji=>?_,fun i sz ver xs h=>?_,fun i b0 hi h=>hr.um i b0 (by grind) h,fun b0 off h=>bw (hr.zC b0 off h) q.size⟩
 ·have e:k≠i:=by rintro rfl; rw[dJ (aJ hM)] at h; cases h; cases hf
  rw[cI e] at h;obtain⟨b0,h1,h2⟩:=hr.fix i bx0 h hf;refine⟨b0,h1,h2.mono ext (hb b0 ?_ (hr.lt i b0 (aJ h) h1))⟩;rintro rfl;exact e (hr.inj _ _ _ (aJ hM) (aJ h) hj h1)
 ·by_cases e:k=i
  ·grind
  ·rw[cI e] at h;obtain⟨vs0,t0,h1⟩:=hr.tick i sz0 n0 b0 h hji
   grind
 ·have e:k≠i:=by grind
  rw[cI e] at h;refine pn hr ext h rfl fun b0 h1=>hb b0 ?_ (hr.lt i b0 (aJ h) h1)
  rintro rfl;exact e (hr.inj _ _ _ (aJ hM) (aJ h) hj h1)
theorem Ext.BG{k b' sz n n':Nat}(hM:M[k]?=some (.tick sz n))(q:Quiet w w')(hb:∀b,b<w.heap.size->w'.heap[b]?=w.heap[b]?)(hf:w.heap.size<=b')(hn:n<n') :
  Ext j M w (gy j k (some b')) (M.set k (.tick sz n')) w' where
 len:=by simp
 size:=q.size
 os:=q.os
 tape:=q.tape
 output:=q.output
 X:=rfl
 fix:=fun i b0 h hf=>by
  have e:k≠i:=by rintro rfl; rw[hM] at h; cases h; cases hf
  exact⟨by simp[gy,eY e],b0,by rw[cI e]; omega,rfl⟩
 tick:=fun i sz0 n0 h=>by
  by_cases e:k=i
  ·grind
  ·exact⟨n0,aC _,by rw[cI e]; omega,fun _=>⟨by simp[gy,eY e],fun b vs0 t0 _ hv=>⟨vs0,(hb b (lt_of_block hv)).trans hv,rfl⟩⟩⟩
 arr:=fun i sz v xs h=>by
  have e:k≠i:=by grind
  exact .inr ⟨v,xs,by rw[cI e]; omega,aC _,fun _=>⟨by simp[gy,eY e],rfl,fun b vs0 t0 _ hv=>⟨vs0,(hb b (lt_of_block hv)).trans hv,rfl⟩⟩⟩
 tags:=fun b0 vs0 t0 fr0 h=>⟨vs0,fr0,(hb b0 (lt_of_block h)).trans h,rfl⟩
 ia:=fun b0 off h=>by
  refine⟨⟨bw h.1 q.size,fun i hi hji=>?_,h.3⟩,World.cell?_of_block (w:=w) (hb b0 h.1)⟩
  have e:k≠i:=by
   rintro rfl;have:b'=b0:=by grind [gy]
   have:=h.1;omega
  rw[cI e];exact h.2 i (by grind) (by simp_all [gy,Ne.symm])
 uo:=fun b0 cn h=>by
  grind [gy]
def Rel.BG{k b' sz n n':Nat}{vs:Array Value}{t:TypeId}(hM:M[k]?=some (.tick sz n))(hr:Rel j M w)(q:Quiet w w')(hb:∀b,b<w.heap.size->w'.heap[b]?=w.heap[b]?)
  (hf:w.heap.size<=b') (hw':w'.heap[b']?=some (.cells vs t (0,0))) (hn:n<n'):Rel (gy j k (some b')) (M.set k (.tick sz n')) w':=by
 have ext:Ext j M w (gy j k (some b')) (M.set k (.tick sz n')) w':=Ext.BG hM q hb hf hn;refine⟨fun i i' b0 hi hi' h h'=>?_,fun i b0 hi h=>?_,fun i bx0 h hf=>?_,fun i sz0 n0 b0 h hji=>?_,fun i sz ver xs h=>?_,fun i b0 hi h off hx=>?_,fun b0 off h=>bw (hr.zC b0 off h) q.size⟩
 ·simp only[fi] at hi hi'
  by_cases e:i=k<;>by_cases e':i'=k
  ·omega
  ·have h1:b'=b0:=by simpa[gy,e] using h
   have:=hr.lt i' b0 hi' (by simpa[gy,e'] using h')
   omega
  ·have h1:b'=b0:=by simpa[gy,e'] using h'
   have:=hr.lt i b0 hi (by simpa[gy,e] using h)
   omega
  ·exact hr.inj i i' b0 hi hi' (by simpa[gy,e] using h) (by simpa[gy,e'] using h')
 ·simp only[fi] at hi
  by_cases e:i=k
  ·have h1:b'=b0:=by simpa[gy,e] using h
   subst h1;exact lt_of_block hw'
  ·exact bw (hr.lt i b0 hi (by simpa[gy,e] using h)) q.size
 ·have e:k≠i:=by rintro rfl; rw[dJ (aJ hM)] at h; cases h; cases hf
  rw[cI e] at h;obtain⟨b0,h1,h2⟩:=hr.fix i bx0 h hf;exact⟨b0,by simpa[gy,eY e] using h1,h2.mono ext (hb b0 (hr.lt i b0 (aJ h) h1))⟩
 ·by_cases e:i=k
  ·have h1:b'=b0:=by simpa[gy,e] using hji
   subst h1;exact⟨vs,t,hw'⟩
  ·rw[cI (eY e)] at h;obtain⟨vs0,t0,h1⟩:=hr.tick i sz0 n0 b0 h (by simpa[gy,e] using hji)
   exact⟨vs0,t0,(hb b0 (lt_of_block h1)).trans h1⟩
 ·have e:k≠i:=by rintro rfl; rw[dJ (aJ hM)] at h; cases h
  rw[cI e] at h;exact pn hr ext h (by simp[gy,eY e]) fun b0 h1=>hb b0 (hr.lt i b0 (aJ h) h1)
 ·by_cases e:i=k
  ·have h1:b'=b0:=by simpa[gy,e] using h
   have h2:=hr.zC b0 off hx;omega
  ·exact hr.um i b0 (by simpa using hi) (by simpa[gy,e] using h) off hx
end
section
variable {j:J} {M:aH} {w w':World}
def Dy(j:J)(M:aH)(w:World)(b sz:Nat)(xs:List ag):Prop:=∃vs t,w.heap[b]?=some (.cells vs t (0,0))/\xs.length*sz<=vs.size/\(∀x,x∈xs->x.cells.length=sz) /\
  ∀(q:Nat)(x:ag)(k:Nat)(c:ag),xs[q]?=some x->x.cells[k]?=some c->∃v,vs[q*sz+k]?=some v/\fF w (ng j M w) c v
def Ext.DC{id b sz ver ver':Nat}{xs xs':List ag}(hM:M[id]?=some (.arr sz ver xs))(hj:j id=some b)(hr:Rel j M w)(q:Quiet w w')
  (hb:∀b',b'≠b->b'<w.heap.size->w'.heap[b']?=w.heap[b']?) (hw:∀vs t,w.heap[b]?=some (.cells vs t (0,0))->∃vs',w'.heap[b]?=some (.cells vs' t (0,0))/\vs'.size=vs.size)
  (hv:ver<=ver') (hl:ver'=ver->xs'.length=xs.length):Ext j M w j (M.set id (.arr sz ver' xs')) w' where
 len:=by simp
 size:=q.size
 os:=q.os
 tape:=q.tape
 output:=q.output
 X:=rfl
 fix:=fun i b0 h hf=>⟨rfl,by
  have e:id≠i:=by rintro rfl; rw[hM] at h; cases h; cases hf
  exact⟨b0,by rw[cI e]; exact h,rfl⟩⟩
 tick:=fun i sz0 n0 h=>by
  have e:id≠i:=by rintro rfl; rw[hM] at h; cases h
  refine⟨n0,aC _,by rw[cI e]; exact h,fun _=>⟨rfl,fun b' vs0 t0 hb' hv=>⟨vs0,?_,rfl⟩⟩⟩
  refine(hb b' ?_ (lt_of_block hv)).trans hv;rintro rfl;exact e (hr.inj _ _ _ (aJ hM) (aJ h) hj hb')
 arr:=fun i sz0 v0 xs0 h=>by
  by_cases e:id=i
  ·subst e;rw[hM] at h;injection h with h; injection h with e1 e2 e3
   subst e1; subst e2; subst e3;refine .inr ⟨ver',xs',dJ (aJ hM),hv,fun he=>⟨rfl,hl he,fun b' vs t hb' hv=>?_⟩⟩
   rw[hj] at hb'; cases hb';exact hw vs t hv
  ·refine .inr ⟨v0,xs0,by rw[cI e]; exact h,aC _,fun _=>⟨rfl,rfl,fun b' vs t hb' hv=>⟨vs,?_,rfl⟩⟩⟩
   refine(hb b' ?_ (lt_of_block hv)).trans hv;rintro rfl;exact e (hr.inj _ _ _ (aJ hM) (aJ h) hj hb')
 tags:=fun b0 vs0 t0 fr0 h=>by
  by_cases e:b0=b
  ·subst e;obtain⟨b',vs,t,g1,g2,_⟩:=hr.yE hM hj;rw[hj] at g1; cases g1;rw[g2] at h; injection h with h; injection h with h1 h2 h3
   subst h1; subst h2;obtain⟨vs',k1,k2⟩:=hw vs t g2;exact⟨_,_,k1,k2⟩
  ·exact⟨vs0,fr0,(hb b0 e (lt_of_block h)).trans h,rfl⟩
 ia:=fun b0 off h=>by
  have hne:b0≠b:=by
   rintro rfl;obtain⟨sz,n,h1,_⟩:=h.2 id (aJ hM) hj;rw[hM] at h1; cases h1
  refine⟨⟨bw h.1 q.size,fun i hi hji=>?_,h.3⟩,World.cell?_of_block (w:=w) (hb b0 hne h.1)⟩
  have e:id≠i:=by rintro rfl; rw[hj] at hji; injection hji with hji; exact hne hji.symm
  rw[cI e];exact h.2 i (by simpa using hi) hji
 uo:=fun b0 cn h=>by
  have hne:b0≠b:=by rintro rfl; exact h id (aJ hM) hj
  exact⟨hb b0 hne cn,fun i hi=>h i (by simpa using hi)⟩
def Rel.DC{id b sz ver ver':Nat}{xs xs':List ag}(hM:M[id]?=some (.arr sz ver xs))(hj:j id=some b)(hr:Rel j M w)(q:Quiet w w')
  (hb:∀b',b'≠b->b'<w.heap.size->w'.heap[b']?=w.heap[b']?) (hw:∀vs t,w.heap[b]?=some (.cells vs t (0,0))->∃vs',w'.heap[b]?=some (.cells vs' t (0,0))/\vs'.size=vs.size)
  (hv:ver<=ver') (hl:ver'=ver->xs'.length=xs.length) (hh:∀j' M',Ext j M w j' M' w'->Dy j' M' w' b sz xs'):Rel j (M.set id (.arr sz ver' xs')) w':=by
 have ext:Ext j M w j (M.set id (.arr sz ver' xs')) w':=Ext.DC hM hj hr q hb hw hv hl;refine⟨fun i i' b0 hi hi'=>hr.inj i i' b0 (by simpa using hi) (by simpa using hi'),fun i b0 hi h=>bw (hr.lt i b0 (by simpa using hi) h) q.size,fun i bx0 h hf=>?_,fun i sz0 n0 b0 h hji=>?_,fun i sz0 v0 xs0 h=>?_,fun i b0 hi h=>hr.um i b0 (by simpa using hi) h,fun b0 off h=>bw (hr.zC b0 off h) q.size⟩
 ·have e:id≠i:=by rintro rfl; rw[dJ (aJ hM)] at h; cases h; cases hf
  rw[cI e] at h;obtain⟨b0,h1,h2⟩:=hr.fix i bx0 h hf;refine⟨b0,h1,h2.mono ext (hb b0 ?_ (hr.lt i b0 (aJ h) h1))⟩;rintro rfl;exact e (hr.inj _ _ _ (aJ hM) (aJ h) hj h1)
 ·have e:id≠i:=by rintro rfl; rw[dJ (aJ hM)] at h; cases h
  rw[cI e] at h;obtain⟨vs,t0,h1⟩:=hr.tick i sz0 n0 b0 h hji;refine⟨vs,t0,(hb b0 ?_ (lt_of_block h1)).trans h1⟩;rintro rfl;exact e (hr.inj _ _ _ (aJ hM) (aJ h) hj hji)
 ·by_cases e:id=i
  ·subst e;rw[dJ (aJ hM)] at h;injection h with h; injection h with e1 e2 e3
   subst e1; subst e2; subst e3;obtain⟨vs,t,g⟩:=hh _ _ ext;exact .inr ⟨b,vs,t,hj,g⟩
  ·rw[cI e] at h;refine pn hr ext h rfl fun b0 h1=>hb b0 ?_ (hr.lt i b0 (aJ h) h1)
   rintro rfl;exact e (hr.inj _ _ _ (aJ hM) (aJ h) hj h1)
def Ext.freeze{id sz ver:Nat}{xs:List ag}(hM:M[id]?=some (.arr sz ver xs)):Ext j M w j (M.set id (.tick sz xs.length)) w where
 len:=by simp
 size:=aC _
 os:=rfl
 tape:=rfl
 output:=rfl
 X:=rfl
 fix:=fun i b0 h hf=>⟨rfl,by
  have e:id≠i:=by rintro rfl; rw[hM] at h; cases h; cases hf
  exact⟨b0,by rw[cI e]; exact h,rfl⟩⟩
 tick:=fun i sz0 n0 h=>by
  have e:id≠i:=by rintro rfl; rw[hM] at h; cases h
  exact⟨n0,aC _,by rw[cI e]; exact h,fun _=>⟨rfl,fun b' vs0 t0 hb' hv=>⟨vs0,hv,rfl⟩⟩⟩
 arr:=fun i sz0 v0 xs0 h=>by
  by_cases e:id=i
  ·subst e;rw[hM] at h;injection h with h; injection h with e1 e2 e3
   subst e1; subst e2; subst e3;exact .inl ⟨_,dJ (aJ hM)⟩
  ·exact .inr ⟨v0,xs0,by rw[cI e]; exact h,aC _,fun _=>⟨rfl,rfl,fun b' vs t hb' hv=>⟨vs,hv,rfl⟩⟩⟩
 tags:=fun b vs t fr h=>⟨vs,fr,h,rfl⟩
 ia:=fun b0 off h=>by
  refine⟨⟨h.1,fun i hi hji=>?_,h.3⟩,rfl⟩
  have e:id≠i:=by
   rintro rfl;obtain⟨sz,n,h1,_⟩:=h.2 id (aJ hM) hji;rw[hM] at h1; cases h1
  rw[cI e];exact h.2 i (by simpa using hi) hji
 uo:=fun b0 cn h=>⟨rfl,fun i hi=>h i (by simpa using hi)⟩
def Rel.freeze{id sz ver:Nat}{xs:List ag}(hM:M[id]?=some (.arr sz ver xs))(hr:Rel j M w):Rel j (M.set id (.tick sz xs.length)) w:=by
 have ext:Ext j M w j (M.set id (.tick sz xs.length)) w:=Ext.freeze hM;refine⟨fun i i' b0 hi hi'=>hr.inj i i' b0 (by simpa using hi) (by simpa using hi'),fun i b0 hi h=>hr.lt i b0 (by simpa using hi) h,fun i bx0 h hf=>?_,fun i sz0 n0 b0 h hji=>?_,fun i sz0 v0 xs0 h=>?_,fun i b0 hi h=>hr.um i b0 (by simpa using hi) h,hr.zC⟩
 ·have e:id≠i:=by rintro rfl; rw[dJ (aJ hM)] at h; cases h; cases hf
  rw[cI e] at h;obtain⟨b0,h1,h2⟩:=hr.fix i bx0 h hf;exact⟨b0,h1,h2.mono ext rfl⟩
 ·by_cases e:id=i
  ·subst e;obtain⟨b,vs,t,g1,g2,_⟩:=hr.yE hM hji;rw[hji] at g1; cases g1;exact⟨vs,t,g2⟩
  ·rw[cI e] at h;exact hr.tick i sz0 n0 b0 h hji
 ·have e:id≠i:=by rintro rfl; rw[dJ (aJ hM)] at h; cases h
  rw[cI e] at h;exact pn hr ext h rfl fun b0 h1=>rfl
end
def wX{w:World}{ia saf':Nat->Nat->Prop}{b lo hi sz cap:Nat}{vs:Array Value}{t:TypeId}{xs:List ag}(hw:w.heap[b]?=some (.cells vs t (0,0)))(hwid:∀x,x∈xs->x.cells.length=sz)
  (hc:∀(q:Nat)(x:ag)(k:Nat)(c:ag),xs[q]?=some x->x.cells[k]?=some c->∃v,vs[q*sz+k]?=some v/\fF w ia c v) (hm:∀b off,ia b off->saf' b off) (hs:∀off,off<xs.length*sz->saf' b off)
  (h1:lo<=hi) (h2:hi<=xs.length) (h3:hi-lo<=cap):fF w saf' (.slice .sh ((xs.take hi).drop lo)) (.slice (some ⟨b,lo*sz,none⟩) (hi-lo) cap):=by
 have hget:∀(i:Nat)(x:ag),((xs.take hi).drop lo)[i]?=some x->xs[lo+i]?=some x/\lo+i<hi:=by
  intro i x h;rw[cH] at h;have cn:lo+i<hi:=by have:=aJ h; simp at this; omega
  rw[bE cn] at h;exact⟨h,cn⟩
 have idx:∀i k,lo*sz+(i*sz+k)=(lo+i)*sz+k:=fun i k=>by rw[bL]; omega
 refine .slice _ _ _ _ b (lo*sz) sz (fun p=>(vs[lo*sz+p]?).getD undef) (by simp; omega) (by omega) (fun _=>rfl) (fun x hx=>hwid x (dI (dk hx))) (fun i x k c hx hk=>?_) fun i x k c hx hk=>?_
 ·obtain⟨g1,g2⟩:=hget i x hx;obtain⟨v,g3,g4⟩:=hc _ x k c g1 hk;have hk':k<sz:=by rw[<-hwid x (aO g1)]; exact aJ hk
  rw[idx];refine⟨by simp[World.cell?,hw,g3],hs _ ?_⟩
  calc (lo+i)*sz+k<(lo+i)*sz+sz:=by omega
   _=(lo+i+1)*sz:=by rw[bL (lo+i) 1]; omega
   _<=xs.length*sz:=bf _ (by omega)
 ·obtain⟨g1,g2⟩:=hget i x hx;obtain⟨v,g3,g4⟩:=hc _ x k c g1 hk;simp only[idx,g3,bn];exact g4.mono fun b off h=>⟨hm b off h,rfl⟩
section
variable [kf]
def iI(j:J)(M:aH)(w:World)(x:ag×aH)(v:Value)(w':World):Prop:=∃j',Rel j' x.2 w'/\Ext j M w j' x.2 w'/\fY j' x.2 w' x.1 v
def F4(j:J)(M:aH)(w:World)(x:ag×aH)(u:Value)(w':World):Prop:=x.1 = .mw u/\∃j',Rel j' x.2 w'/\Ext j M w j' x.2 w'
def u9(j:J)(M:aH)(w:World)(x:ag×aH)(e:Ending)(w':World):Prop :=
 (∃v,e = .returned v/\iI j M w x v w')\/∃u,e = .panicked [{ v:=u,recovered:=false }]/\F4 j M w x u w'
def u9.ret{j:J}{M:aH}{w:World}{x:ag×aH}{e:Ending}{w':World}(h:u9 j M w x e w')(hx:x.1.jx=false):∃v,e = .returned v/\iI j M w x v w':=by
 rcases h with h|⟨u,_,h,_⟩
 ·omega
 ·rw[h] at hx; cases hx
def dC(P:Program)(f:Nat)(args:List ag)(M:aH)(x:ag×aH):Prop :=
 ∀(j:J)(w:World)(vs:Array Value),Rel j M w->rT j M w->args.length=vs.size->(∀(i:Nat)(c:ag)(v:Value),args[i]?=some c->vs[i]?=some v->fY j M w c v) ->
  Calls P f vs w fun e w'=>u9 j M w x e w'
def mD(P:Program)(f:Nat)(args:List ag)(M:aH)(x:ag×aH):Prop :=
 ∀(j:J)(w:World)(vs:Array Value),Rel j M w->rT j M w->args.length=vs.size->(∀(i:Nat)(c:ag)(v:Value),args[i]?=some c->vs[i]?=some v->fY j M w c v) ->
  Calls P f vs w fun e w'=>∃v j',e = .returned v/\Rel j' x.2 w'/\Ext j M w j' x.2 w'/\fY j' x.2 w' x.1 v
def mD.call{P:Program}{f:Nat}{args:List ag}{M:aH}{x:ag×aH}(h:mD P f args M x):dC P f args M x:=fun j w vs h1 h2 h3 h4 =>
 (h j w _ h1 h2 h3 h4).mono fun e w' ⟨v,j',he,g1,g2,g3⟩ => .inl ⟨v,he,j',g1,g2,g3⟩
def oQ(P:Program)(C:eB):Prop:=∀f a M x,C f a M=some x->lQ P f=true/\dC P f a M x
section
variable {j:J} {M:aH} {w:World} {P:Program}
def iI.still{v:Value}{y:ag}(hr:Rel j M w)(h:fY j M w y v):iI j M w (y,M) v w:=⟨j,hr,Ext.refl j M w,h⟩
theorem F9{v:Value}{x:ag}(h:IC v=some x):fY j M w x v:=by
 unfold IC at h
 split at h<;>first
  |(cases h; first|exact .plain (.bool _)|exact .plain (.int _ _)|exact .plain (.str _)|exact .plain (.raw _ rfl)|exact .c0 _)
  |grind
theorem F7{ia:Nat->Nat->Prop}:∀ {vs:List Value} {l:List ag},OA vs=some l->l.length=vs.length/\∀(i:Nat)(c:ag)(v:Value),l[i]?=some c->vs[i]?=some v->fF w ia c v
 | [],l,h=>by
  grind [OA]
 |v::r,l,h=>by
  simp[OA] at h;rw[dp] at h;obtain⟨x,hx,h⟩:=h;rw[dp] at h;obtain⟨l',hl,h⟩:=h;cases h;obtain⟨h1,h2⟩:=F7 hl;refine⟨by grind,fun i c u hc hu=>?_⟩
  cases i with
  |zero =>
   simp at hc hu; subst hc; subst hu;unfold Zv at hx
   split at hx<;>first
    |(cases hx; first|exact .bool _|exact .int _ _|exact .str _|exact .raw _ rfl)
    |grind
  |succ i=>exact h2 i c u (by grind) (by grind)
theorem pk:∀ {vs:List Value} {l:List ag},sf vs=some l->l.length=vs.length/\∀(i:Nat)(c:ag)(v:Value),l[i]?=some c->vs[i]?=some v->fY j M w c v
 | [],l,h=>by
  grind [sf]
 |v::r,l,h=>by
  simp[sf] at h;rw[dp] at h;obtain⟨x,hx,h⟩:=h;rw[dp] at h;obtain⟨l',hl,h⟩:=h;injection h with h; obtain⟨h1,h2⟩:=pk hl
  grind [F9]
theorem F8{v:Value}{x:ag}(h:OB v=some x):fY j M w x v:=by
 unfold OB at h;split at h
 ·rw[dp] at h;obtain⟨l,hl,h⟩:=h;cases h;obtain⟨h1,h2⟩:=pk hl;exact .agg (by omega) fun i c v hc hv=>h2 i c v hc (by grind)
 grind [F9]
theorem cU{br:Env}{a:Act}(he:cm j M w br a){x:Operand}{y:gQ}(h:er x=some y):fY j M w (y.ev br) (a.eval x):=by
 unfold er at h;split at h
 ·cases h; exact he.at' _
 ·rw[dp] at h;obtain⟨z,hz,h⟩:=h;cases h;exact F8 hz
 ·cases h;exact .func (by rfl) fun i c v hc=>by simp
 ·rename_i g;rw[dp] at h;obtain⟨vs,hg,h⟩:=h;rw[dp] at h;obtain⟨l,hl,h⟩:=h;cases h;obtain⟨h1,h2⟩:=F7 (w:=w) (ia:=ng j M w) hl;refine .iP (vs:=fun k=>(vs[k]?).getD undef) fun k c hk=>?_
  have hk':=aJ hk;have hv:vs[k]?=some _:=ai (by omega)
  obtain⟨h3,h4⟩:=he.gl.g g _ k _ hg hv
  grind
theorem tj{br:Env}{a:Act}(he:cm j M w br a):∀ {xs:List Operand} {ys:List gQ},uz xs=some ys ->
  ys.length=xs.length/\∀(i:Nat)(y:gQ)(x:Operand),ys[i]?=some y->xs[i]?=some x->fY j M w (y.ev br) (a.eval x)
 | [],ys,h=>by
  grind [uz]
 |x::r,ys,h=>by
  simp[uz] at h;rw[dp] at h;obtain⟨y,hy,h⟩:=h;rw[dp] at h;obtain⟨l,hl,h⟩:=h;injection h with h; obtain⟨h1,h2⟩:=tj he hl
  grind [cU]
def fY.jg{b:Bool}{v:Value}(h:fY j M w (.bool b) v):v = .bool b:=by cases h with|plain h=>cases h; rfl
def fY.fN{k:IntKind}{n:Int}{v:Value}(h:fY j M w (.int k n) v):v = .int k n:=by cases h with|plain h=>cases h; rfl
def fY.jX{s:List UInt8}{v:Value}(h:fY j M w (.str s) v):v = .string (bs s):=by cases h with|plain h=>cases h; rfl
theorem fY.lU{cs:List ag}{v:Value}(h:fY j M w (.agg cs) v):∃vs,v = .agg vs/\cs.length=vs.size/\∀(i:Nat)(c:ag)(u:Value),cs[i]?=some c->vs[i]?=some u->fY j M w c u:=by
 cases h with
 |plain h=>cases h
 |agg hl h=>grind
theorem fY.sP{cs:List ag}{v:Value}(h:fY j M w (.tuple cs) v):∃vs,v = .tuple vs/\cs.length=vs.size/\∀(i:Nat)(c:ag)(u:Value),cs[i]?=some c->vs[i]?=some u->fY j M w c u:=by
 cases h with
 |plain h=>cases h
 |tuple hl h=>grind
theorem fY.rF{f:Nat}{cs:List ag}{v:Value}(h:fY j M w (.func f cs) v):∃vs,v = .func (.func f) #[] vs/\cs.length=vs.size/\∀(i:Nat)(c:ag)(u:Value),cs[i]?=some c->vs[i]?=some u->fY j M w c u:=by
 cases h with
 |plain h=>cases h
 |func hl h=>grind
theorem fY.pa{id off:Nat}{v:Value}(h:fY j M w (.ptr id off) v):∃b,id<M.length/\(∃cs,M[id]?=some (.cells cs))/\j id=some b/\v = .pointer (some ⟨b,off,none⟩):=by
 cases h with
 |plain h=>cases h
 |ptr h1 h2 h3=>grind
theorem fY.uQ{id:Nat}{v:Value}(h:fY j M w (.gP id) v):∃b,(∃ks vs,M[id]?=some (.map ks vs))/\j id=some b/\v = .map (some b):=by
 cases h with
 |plain h=>cases h
 |gP h1 h2=>grind
theorem fY.Cr{id:Nat}{v:Value}(h:fY j M w (.jq id) v):∃b,(∃s p,M[id]?=some (.mc s p))/\j id=some b/\v = .pointer (some ⟨b,0,none⟩):=by
 cases h with
 |plain h=>cases h
 |jq h1 h2=>grind
theorem fY.Fu{f:Nat}{fs:List ag}{v:Value}(h:fY j M w (.pC f fs) v):∃vs:Array Value,v = .func (.func f) vs #[]/\fs.length=vs.size/\∀(i:Nat)(c:ag)(v:Value),fs[i]?=some c->vs[i]?=some v->Bj w (ng j M w) c v:=by
 cases h with
 |plain h=>cases h
 |pC hl h=>grind
theorem fY.Hf{t id off:Nat}{v:Value}(h:fY j M w (.jE t id off) v):∃b:Nat,(∃cs,M[id]?=some (.cells cs))/\j id=some b/\v = .iface t (.pointer (some ⟨b,off,none⟩)):=by
 cases h with
 |plain h=>cases h
 |jE h1 h2=>grind
def fY.GI{ks vs:List ag}{v:Value}(h:fY j M w (.iL ks vs) v):∃(b:Nat) (es:Array MapEntry) (clock:Nat),v = .map (some b)/\w.heap[b]?=some (.map es clock)/\ks.length=es.size/\vs.length=es.size /\
  (∀(i:Nat)(k:ag)(e:MapEntry),ks[i]?=some k->es[i]?=some e->fF w (ng j M w) k e.key)/\∀(i:Nat)(v:ag)(e:MapEntry),vs[i]?=some v->es[i]?=some e->Bj w (ng j M w) v e.val:=by
 cases h with
 |plain h=>cases h
 |iL hb hf hx hw hk hv hks hvs=>exact⟨_,_,_,rfl,hw,hk,hv,hks,hvs⟩
def fY.nJ{id ver sz lo hi:Nat}{v:Value}(h:fY j M w (.cN id ver sz lo hi) v):((∃b off c,v = .slice (some ⟨b,off,none⟩) (hi-lo) c/\hi-lo<=c)\/hi-lo=0/\∃A,v = .slice A 0 0)/\id<M.length/\(∀bx,M[id]?=some bx->bx.loose=true) /\
  ∀sz' v' xs,M[id]?=some (.arr sz' v' xs)->ver<=v'/\(v'=ver->sz'=sz/\lo<=hi/\hi<=xs.length/\((xs=[]/\j id=none/\∃A,v = .slice A 0 0)\/∃b cap vs t,j id=some b/\v = .slice (some ⟨b,lo*sz,none⟩) (hi-lo) cap/\hi-lo<=cap/\w.heap[b]?=some (.cells vs t (0,0))/\(lo+cap)*sz<=vs.size)):=by
 cases h with
 |plain h=>cases h
 |cN h0 h1 h2 h3=>exact⟨h0,h1,h2,h3⟩
theorem fY.yD{id ver sz lo hi:Nat}{v:Value}(h:fY j M w (.cN id ver sz lo hi) v):∃A cap,v = .slice A (hi-lo) cap:=by
 rcases h.nJ.1 with ⟨b,off,c,e,_⟩|⟨e,A,e'⟩
 ·grind
 grind
def fY.VK{id ver sz lo hi:Nat}{v:Value}(h:fY j M w (.cN id ver sz lo hi) v)(hne:lo<hi):∃b off c,v = .slice (some ⟨b,off,none⟩) (hi-lo) c/\hi-lo<=c :=
 h.nJ.1.resolve_right fun e=>by omega
def fY.rE{id ver i off:Nat}{v:Value}(h:fY j M w (.iH id ver i off) v):(∃b o,v = .pointer (some ⟨b,o,none⟩))/\id<M.length/\(∀bx,M[id]?=some bx->bx.loose=true) /\
  ∀sz v' xs,M[id]?=some (.arr sz v' xs)->ver<=v'/\(v'=ver->i<xs.length/\∃b,j id=some b/\v = .pointer (some ⟨b,i*sz+off,none⟩)):=by
 cases h with
 |plain h=>cases h
 |iH h0 h1 h2 h3=>exact⟨h0,h1,h2,h3⟩
def fY.tv{cs:List ag}{v:Value}(h:fY j M w (.iP cs) v):∃(b off:Nat) (vs:Nat->Value),v = .pointer (some ⟨b,off,none⟩) /\
  ∀(k:Nat)(c:ag),cs[k]?=some c->w.cell? ⟨b,off+k,none⟩=some (vs k)/\ng j M w b (off+k)/\fF w (ng j M w) c (vs k):=by
 cases h with
 |plain h=>cases h
 | @iP _ b off vs h=>exact⟨b,off,vs,rfl,h⟩
theorem fF.nil(ia:Nat->Nat->Prop)(A:Option Addr)(cap:Nat):fF w ia (.slice .sh []) (.slice A 0 cap) :=
 .slice _ A 0 _ 0 0 0 (fun _=>undef) rfl (cS _) (fun h=>absurd rfl h) (fun x h=>by grind) (fun i x k c h=>by grind) (fun i x k c h=>by grind)
def fY.dN{tk:Tk}{xs:List ag}{v:Value}(h:fY j M w (.slice tk xs) v):fF w (ng j M w) (.slice .sh xs) v:=by
 cases h with
 |plain h=>cases h with|slice=>exact .slice _ _ _ _ _ _ _ _ (by omega) (by omega) (by omega) (by omega) (by omega) (by omega)
 |c0 A=>simp[fF.nil]
 |own _ _ h _=>omega
def fF.dN{ia:Nat->Nat->Prop}{xs:List ag}{v:Value}(h:fF w ia (.slice .sh xs) v):∃(A:Option Addr) (cap b off sz:Nat) (vs:Nat->Value),v = .slice A xs.length cap/\xs.length<=cap/\(xs≠[]->A=some ⟨b,off,none⟩) /\
  (∀x,x∈xs->x.cells.length=sz)/\(∀(i:Nat)(x:ag)(k:Nat)(c:ag),xs[i]?=some x->x.cells[k]?=some c->w.cell? ⟨b,off+(i*sz+k),none⟩=some (vs (i*sz+k))/\ia b (off+(i*sz+k))) /\
  (∀(i:Nat)(x:ag)(k:Nat)(c:ag),xs[i]?=some x->x.cells[k]?=some c->fF w ia c (vs (i*sz+k))):=by
 cases h with
 |slice _ A len cap b off sz vs hl hc ha hz hs hr=>subst hl; exact⟨A,cap,b,off,sz,vs,rfl,hc,ha,hz,hs,hr⟩
end
def qi(P:Program)(o:Oper)(a:Act)(w:World)(v:Value)(w':World):Prop :=
 (execOp a.eval o).run P w = .ok (.value v) w'\/((execOp a.eval o).run P w = .ok .skip w'/\v=undef)
theorem aZ{α β:Type}{x:Option α}{f:α->Option β}{y:β}(h:x.bind f=some y):∃a,x=some a/\f a=some y:=by
 cases x<;>grind
section
variable {P:Program} {C:eB} {o:Oper} {br:Env} {M:aH} {j:J} {w:World} {a:Act} {x:ag×aH}
def dK{t:TypeId}{d:TypeDesc}(h:P.underlying t=some d):(underlying t).run P w = .ok d w:=by simp[underlying,h]
def oZ{t:TypeId}{i:TypeInfo}(h:P.info? t=some i):(typeInfo t).run P w = .ok i w:=by simp[typeInfo,h]
theorem C8{t:TypeId}{n:Nat}(h:pD P t=some n):∃i,P.info? t=some i/\i.size=n:=by
 obtain⟨i,h1,h2⟩:=aZ h
 grind
def ji{t:TypeId}{n:Nat}(h:pD P t=some n):(sizeOf t).run P w = .ok n w:=by
 obtain⟨i,h1,h2⟩:=C8 h;simp_all [sizeOf,oZ]
def kG{t:TypeId}{g:Bool}(h:Bk P t=some g):(isAgg t).run P w = .ok g w:=by
 obtain⟨d,h1,h2⟩:=aZ h;injection h2 with h2
 subst h2;simp[isAgg,dK h1];cases d<;>rfl
def lk(b off n:Nat):(⟨b,off,none⟩:Addr).add n=⟨b,off+n,none⟩:=by
 simp[Addr.add]
def BD(hr:Rel j M w)(he:cm j M w br a){y:Operand}{z:gQ}(hop:o.op = .move y\/o.op = .assign y)(hz:er y=some z)(h:dX C br M (.mv z)=some x) :
  ∃v w',qi P o a w v w'/\iI j M w x v w':=by
 cases h;exact⟨a.eval y,w,.inl (by rcases hop with hop|hop<;>simp[execOp,hop]),.still hr (cU he hz)⟩
theorem YL(hr:Rel j M w)(he:cm j M w br a){c p q:Operand}{c' p' q':gQ}(hop:o.op = .pick c p q)(hc:er c=some c')(hp:er p=some p')(hq:er q=some q')
  (h:dX C br M (.pick c' p' q')=some x):∃v w',qi P o a w v w'/\iI j M w x v w':=by
 simp[dX] at h;have h1:=cU he hc;split at h
 ·rename_i t ht;rw[ht] at h1;have h1:=h1.jg;rcases jO h with ⟨rfl,h⟩|⟨rfl,h⟩<;>(cases h)
  ·exact⟨a.eval p,w,.inl (by simp_all [execOp,asBool]),.still hr (cU he hp)⟩
  ·exact⟨a.eval q,w,.inl (by simp_all [execOp,asBool]),.still hr (cU he hq)⟩
 grind
theorem afp(hr:Rel j M w)(he:cm j M w br a){y:Operand}{z:gQ}(hop:o.op = .nilCheck y)(hz:er y=some z)(h:dX C br M (.V1 z)=some x) :
  ∃v w',qi P o a w v w'/\iI j M w x v w':=by
 simp[dX] at h;have h1:=cU he hz;split at h
 ·rename_i id off e;cases h;rw[e] at h1;obtain⟨b,_,_,_,hv⟩:=h1.pa;exact⟨_,w,.inl (by simp_all [execOp]),.still hr (hv▸h1)⟩
 ·rename_i cs e;cases h;rw[e] at h1;obtain⟨b,off,vs,hv,_⟩:=h1.tv;exact⟨_,w,.inl (by simp_all [execOp]),.still hr (hv▸h1)⟩
 ·rename_i f caps e;cases h;rw[e] at h1;obtain⟨vs,hv,_⟩:=h1.rF;exact⟨_,w,.inl (by simp_all [execOp]),.still hr (hv▸h1)⟩
 ·rename_i id v0 i off e;cases h;rw[e] at h1;obtain⟨⟨b,q,hv⟩,_⟩:=h1.rE;exact⟨_,w,.inl (by simp_all [execOp]),.still hr (hv▸h1)⟩
 grind
theorem afr(hr:Rel j M w)(he:cm j M w br a){y:Operand}{z:gQ}{t:TypeId}(hop:o.op = .unOp .not t y)(hz:er y=some z)(h:dX C br M (.not z)=some x) :
  ∃v w',qi P o a w v w'/\iI j M w x v w':=by
 simp[dX] at h;have h1:=cU he hz;split at h
 ·rename_i b e;cases h;rw[e] at h1;exact⟨_,w,.inl (by simp[execOp,hop,h1.jg]; rfl),.still hr (.plain (.bool _))⟩
 grind
theorem afq(hr:Rel j M w)(he:cm j M w br a){y:Operand}{z:gQ}{t:TypeId}(hop:o.op = .unOp .neg t y)(hz:er y=some z)(h:dX C br M (.neg z)=some x) :
  ∃v w',qi P o a w v w'/\iI j M w x v w':=by
 simp only[dX] at h;have h1:=cU he hz;split at h
 ·rename_i k n e;cases h;rw[e] at h1;exact⟨_,w,.inl (by simp only[execOp,hop,h1.fN]; rfl),.still hr (.plain (.int _ _))⟩
 grind
theorem YF(hr:Rel j M w)(he:cm j M w br a){y:Operand}{z:gQ}{s d:TypeId}{k0 k:IntKind}(hop:o.op = .convert s d y)(hs:P.underlying s=some (.int k0))(hd:P.underlying d=some (.int k))
  (hz:er y=some z) (h:dX C br M (.conv k z)=some x):∃v w',qi P o a w v w'/\iI j M w x v w':=by
 simp[dX] at h;have h1:=cU he hz;split at h
 ·rename_i k1 n e;cases h;rw[e] at h1;refine⟨.int k _,w,.inl ?_,.still hr (.plain (.int _ _))⟩;simp[execOp,hop,convert,dK hs,dK hd,h1.fN,Conv.intToInt]
 grind
theorem YN(hr:Rel j M w)(he:cm j M w br a){y:Operand}{z:gQ}{s d:TypeId}(hop:o.op = .convert s d y)(hs:P.underlying s=some .string)(hd:P.underlying d=some .string)
  (hz:er y=some z) (h:dX C br M (.same z)=some x):∃v w',qi P o a w v w'/\iI j M w x v w':=by
 simp[dX] at h;have h1:=cU he hz;split at h
 ·rename_i l e;cases h;rw[e] at h1;refine⟨.string _,w,.inl ?_,.still hr (.plain (.str _))⟩;simp[execOp,hop,convert,dK hs,dK hd,h1.jX]
 grind
theorem alX(hr:Rel j M w)(he:cm j M w br a){f:Nat}{first caps:Array Operand}{zs:List gQ}(hop:o.op = .makeFunc (.func f) first caps)(hf:first.isEmpty=true)(hz:uz caps.toList=some zs)
  (h:dX C br M (.fn f zs)=some x):∃v w',qi P o a w v w'/\iI j M w x v w':=by
 cases h;obtain⟨h1,h2⟩:=tj he hz;have hf':first = #[]:=by grind
 refine⟨.func _ _ (caps.map a.eval),w,.inl ?_,.still hr (.func (by grind) fun i c v hc hv=>?_)⟩
 ·simp[execOp,hop,Instr.makeFunc,hf']
 grind
theorem JY(hr:Rel j M w)(he:cm j M w br a){y:Operand}{z:gQ}{i:Nat}(hop:o.op = .extract y i)(hz:er y=some z)(h:dX C br M (.extract z i)=some x) :
  ∃v w',qi P o a w v w'/\iI j M w x v w':=by
 simp[dX] at h;have h1:=cU he hz;split at h
 ·rename_i vs e;obtain⟨c,hc,h⟩:=bg h;cases h;rw[e] at h1;obtain⟨us,hv,hl,hu⟩:=h1.sP;rw[fE] at hc;have hi:=aJ hc;have hui:us[i]?=some _:=a8 (by omega)
  exact⟨_,w,.inl (by simp[execOp,hop,Instr.extract,hv,hui]),.still hr (hu i c _ hc hui)⟩
 grind
theorem YH(hr:Rel j M w)(he:cm j M w br a){c:Call}{y:Operand}{z:gQ}{t:TypeId}(hop:o.op = .call c)(hb:c.callee = .builtin .len)(ha:c.args.toList=[y])
  (ht:c.argTypes[0]?=some t) (hs:P.underlying t=some .string) (hz:er y=some z) (h:dX C br M (.M4 z)=some x):∃v w',qi P o a w v w'/\iI j M w x v w':=by
 simp only[dX] at h;have h1:=cU he hz;split at h
 ·rename_i l e;cases h;rw[e] at h1;have ha':c.args = #[y]:=by rw[<-ha]
  refine⟨.int .i64 _,w,.inl ?_,.still hr (.plain (.int _ _))⟩;have hsz:(bs l).size=l.length:=by rfl
  simp[execOp,hop,resolve,hb,invoke,builtin,Builtin.len_,ha',ht,dK hs,h1.jX,goInt,hsz]
 grind
theorem YI(hr:Rel j M w)(he:cm j M w br a){c:Call}{y:Operand}{z:gQ}{t e:TypeId}(hop:o.op = .call c)(hb:c.callee = .builtin .len)(ha:c.args.toList=[y])
  (ht:c.argTypes[0]?=some t) (hs:P.underlying t=some (.slice e)) (hz:er y=some z) (h:dX C br M (.CC z)=some x):∃v w',qi P o a w v w'/\iI j M w x v w':=by
 simp only[dX] at h;have h1:=cU he hz;split at h
 ·rename_i tk l e;cases h;rw[e] at h1;have ha':c.args = #[y]:=by rw[<-ha]
  obtain⟨A,cap,b,off,sz,vs,hv,_⟩:=h1.dN.dN;refine⟨.int .i64 l.length,w,.inl ?_,.still hr (.plain (.int _ _))⟩;simp[execOp,hop,resolve,hb,invoke,builtin,Builtin.len_,ha',ht,dK hs,hv,goInt]
 ·rename_i id v0 sz lo hi e;cases h;rw[e] at h1;have ha':c.args = #[y]:=by rw[<-ha]
  obtain⟨A,cap,hv⟩:=h1.yD;refine⟨.int .i64 (hi-lo:Nat),w,.inl ?_,.still hr (.plain (.int _ _))⟩;simp[execOp,hop,resolve,hb,invoke,builtin,Builtin.len_,ha',ht,dK hs,hv,goInt]
 grind
theorem Ek(hr:Rel j M w)(he:cm j M w br a){c:Call}{y y':Operand}{z z':gQ}{mx:Bool}(hop:o.op = .call c)(hb:c.callee = .builtin (if mx then .max else .min))(ha:c.args.toList=[y,y'])
  (hz:er y=some z) (hz':er y'=some z') (h:dX C br M (.yk mx z z')=some x):∃v w',qi P o a w v w'/\iI j M w x v w':=by
 simp only[dX] at h;have h1:=cU he hz;have h2:=cU he hz';split at h
 ·rename_i k n k' n' e e';cases h;rw[e] at h1;rw[e'] at h2;have ha':c.args = #[y,y']:=by rw[<-ha]
  refine⟨_,w,.inl ?_,.still hr (.plain (.int _ _))⟩;cases mx
  ·simp[execOp,hop,resolve,hb,invoke,builtin,Builtin.min_,Builtin.min2,ha',h1.fN,h2.fN,List.foldlM]
  ·simp[execOp,hop,resolve,hb,invoke,builtin,Builtin.max_,Builtin.max2,ha',h1.fN,h2.fN]
 grind
theorem Np(hr:Rel j M w)(he:cm j M w br a){y i:Operand}{z z':gQ}{t:TypeId}(hop:o.op = .index t y i)(ht:P.underlying t=some .string)(hz:er y=some z)(hz':er i=some z')
  (h:dX C br M (.wk z z')=some x):∃v w',qi P o a w v w'/\iI j M w x v w':=by
 simp only[dX] at h;have h1:=cU he hz;have h2:=cU he hz';split at h
 ·rename_i l k n e e';obtain⟨hn,h⟩:=da h;obtain⟨b,hb,h⟩:=bg h;cases h;rw[e] at h1;rw[e'] at h2;refine⟨.int .u8 b.toNat,w,.inl ?_,.still hr (.plain (.int _ _))⟩
  have hg:(bs l)[n.toNat]?=some b:=by
   have cn:=aJ hb;have:n.toNat<(bs l).size:=by simp_all [bs,ByteArray.size]
   rw[getElem?_pos (bs l) n.toNat this];congr 1
   have h3:l[n.toNat]=b:=by
    have:=ai cn
    grind
   exact h3
  simp[execOp,hop,Instr.index,asIntOf,dK ht,h1.jX,h2.fN,hn,hg]
 ·cases h
theorem Nk(hr:Rel j M w)(he:cm j M w br a){y:Operand}{z:gQ}{s:TypeId}{fs:Array Field}{f:Field}{i:Nat}(hop:o.op = .field s y i)(hs:P.underlying s=some (.struct fs))(hf:fs[i]?=some f)
  (hg:Bk P f.type=some false) (hz:er y=some z) (h:dX C br M (.zW f.offset z)=some x):∃v w',qi P o a w v w'/\iI j M w x v w':=by
 simp[dX] at h;have h1:=cU he hz;split at h
 ·rename_i cs e;obtain⟨c,hc,h⟩:=bg h;cases h;rw[e] at h1;obtain⟨us,hv,hl,hu⟩:=h1.lU;rw[fE] at hc;have hi:=aJ hc;have hui:us[f.offset]?=some _:=a8 (by omega)
  refine⟨_,w,.inl ?_,.still hr (hu _ c _ hc hui)⟩;simp[execOp,hop,Instr.field,dK hs,hf,asAgg,hv,part,kG hg,hui]
 grind
theorem Nl(hr:Rel j M w)(he:cm j M w br a){y:Operand}{z:gQ}{s:TypeId}{fs:Array Field}{f:Field}{i n:Nat}(hop:o.op = .field s y i)(hs:P.underlying s=some (.struct fs))(hf:fs[i]?=some f)
  (hg:Bk P f.type=some true) (hn:pD P f.type=some n) (hz:er y=some z) (h:dX C br M (.zX f.offset n z)=some x):∃v w',qi P o a w v w'/\iI j M w x v w':=by
 simp only[dX] at h;have h1:=cU he hz;split at h
 ·rename_i cs e;split at h
  ·cases h;rw[e] at h1;obtain⟨us,hv,hl,hu⟩:=h1.lU;refine⟨.agg (us.extract f.offset (f.offset+n)),w,.inl ?_,.still hr (.agg (by grind) fun p c u hc hu'=>?_)⟩
   ·simp[execOp,hop,Instr.field,dK hs,hf,asAgg,hv,part,kG hg,ji hn]
   grind
  ·cases h
 ·cases h
theorem TQ(hr:Rel j M w)(he:cm j M w br a){y:Operand}{z:gQ}{s:TypeId}{fs:Array Field}{f:Field}{i:Nat}(hop:o.op = .fieldAddr s y i)(hs:P.underlying s=some (.struct fs))(hf:fs[i]?=some f)
  {n:Nat} (hn:pD P f.type=some n) (hpos:0<n) (hz:er y=some z) (h:dX C br M (.iR f.offset z)=some x):∃v w',qi P o a w v w'/\iI j M w x v w':=by
 simp only[dX] at h;have h1:=cU he hz
 have hrun:∀b off,a.eval y = .pointer (some ⟨b,off,none⟩)->(execOp a.eval o).run P w = .ok (.value (.pointer (some ⟨b,off+f.offset,none⟩))) w:=by
  intro b off hv;have hne:n≠0:=by omega
  simp[execOp,hop,Instr.fieldAt,dK hs,hf,Instr.sureAddr,hv,fieldPlace,ji hn,hne,lk]
 split at h
 ·rename_i id off e;cases h;rw[e] at h1;obtain⟨b,h2,h3,h4,hv⟩:=h1.pa;exact⟨_,w,.inl (hrun _ _ hv),.still hr (.ptr h2 h3 h4)⟩
 ·rename_i cs e;cases h;rw[e] at h1;obtain⟨b,off,vs,hv,hc⟩:=h1.tv;refine⟨_,w,.inl (hrun _ _ hv),.still hr (.iP (vs:=fun k=>vs (f.offset+k)) fun k c hk=>?_)⟩
  rw[cH] at hk;have:=hc _ c hk;rw[Nat.add_assoc];omega
 ·rename_i id v0 i0 o0 e;cases h;rw[e] at h1;obtain⟨⟨b,q,hv⟩,h2,h3,h4⟩:=h1.rE;refine⟨_,w,.inl (hrun _ _ hv),.still hr (.iH ⟨_,_,rfl⟩ h2 h3 fun sz v' xs hM=>?_)⟩
  grind
 grind
end
theorem VY(l:List UInt8):∀(n i:Nat)(acc:List UInt8),i+n=l.length->ByteArray.toList.loop (bs l) i acc=acc.reverse++l.drop i:=by
 intro n;induction n with
 |zero =>
  simp_all [bs,ByteArray.size,ByteArray.toList.loop]
 |succ n ih =>
  intro i acc h;have hs:(bs l).size=l.length:=by rfl
  rw[ByteArray.toList.loop,bh (by omega)]
  grind [bs,ByteArray.get!,List.reverse_cons,List.append_assoc,List.singleton_append,List.drop_eq_getElem_cons]
def uv(l:List UInt8):(bs l).toList=l:=by
 rw[ByteArray.toList,VY l l.length 0 _ (by simp)]; rfl
def Kr(l:List UInt8):(bs l).size=l.length:=by rfl
def Ia:∀a b:List UInt8,Op.bytesLess a b=strLt a b
 | [],[]=>rfl
 | [],_::_=>rfl
 |_::_,[]=>rfl
 |a::x,b::y=>by simp[Op.bytesLess,strLt,Ia x y]
def xY(a:List UInt8)(l h:Nat):(bs a).extract l h=bs ((a.take h).drop l):=by
 apply ByteArray.ext;simp[bs,List.drop_take]
section
variable {P:Program} {C:eB} {o:Oper} {br:Env} {M:aH} {j:J} {w:World} {a:Act} {x:ag×aH}
def MN(op:BinOp)(t:TypeId)(y z:Operand)(k k':IntKind)(m n:Int):(eqGuard op t y z (.int k m) (.int k' n)).run P w = .ok () w:=by
 simp[eqGuard]
def MO(op:BinOp)(t:TypeId)(y z:Operand)(m n:ByteArray):(eqGuard op t y z (.string m) (.string n)).run P w = .ok () w:=by
 simp[eqGuard]
def Co(op:BinOp)(t:TypeId)(y z:Operand)(m n:Bool):(eqGuard op t y z (.bool m) (.bool n)).run P w = .ok () w:=by
 simp[eqGuard]
theorem VV{op:BinOp}{b:LS}(hb:Mg op=some b){t:TypeId}{k k':IntKind}{m n:Int}{r:ag}(h:pw b (.int k m) (.int k' n)=some r) :
  ∃v,(binOp op t (.int k m) (.int k' n)).run P w = .ok v w/\fF w (ng j M w) r v:=by
 cases op<;>simp only[Mg,reduceCtorEq,eS] at hb<;>subst hb<;>simp only[pw] at h
 case shl =>
  split at h
  ·rename_i hn;cases h;exact⟨_,by simp[binOp,Op.shift,Int.not_lt.2 hn],.int _ _⟩
  ·cases h
 case shr =>
  split at h
  ·rename_i hn;cases h;exact⟨_,by simp[binOp,Op.shift,Int.not_lt.2 hn],.int _ _⟩
  grind
 case quo =>
  split at h
  ·cases h
  ·rename_i hk;split at h
   ·cases h
   ·rename_i hn;cases h;have hk:k=k':=by grind
    subst hk;exact⟨_,by simp[binOp,Op.intDiv,hn],.int _ _⟩
 case rem =>
  split at h
  ·cases h
  ·rename_i hk;split at h
   ·cases h
   ·rename_i hn;cases h;have hk:k=k':=by grind
    subst hk;exact⟨_,by simp[binOp,Op.intDiv,hn],.int _ _⟩
 case and =>
  split at h
  ·cases h
  ·rename_i hk;cases h;have hk:k=k':=by grind
   subst hk;exact⟨_,by simp[binOp,Op.intBits]; rfl,.int _ _⟩
 case or =>
  split at h
  ·grind
  ·rename_i hk;cases h;have hk:k=k':=by grind
   subst hk;exact⟨_,by simp[binOp,Op.intBits]; rfl,.int _ _⟩
 case xor =>
  split at h
  ·grind
  ·rename_i hk;cases h;have hk:k=k':=by grind
   subst hk;exact⟨_,by simp[binOp,Op.intBits]; rfl,.int _ _⟩
 all_goals
  split at h
  ·cases h
  ·rename_i hk;cases h;have hk:k=k':=by simpa using hk
   subst hk
   first
    |exact⟨_,by simp[binOp,Op.intArith],.int _ _⟩
    |exact⟨_,by simp[binOp,Op.intCmp],.bool _⟩
theorem VW{op:BinOp}{b:LS}(hb:Mg op=some b){t:TypeId}{m n:List UInt8}{r:ag}(h:pw b (.str m) (.str n)=some r) :
  ∃v,(binOp op t (.string (bs m)) (.string (bs n))).run P w = .ok v w/\fF w (ng j M w) r v:=by
 cases op<;>simp only[Mg,reduceCtorEq,eS] at hb<;>subst hb<;>simp only[pw,reduceCtorEq] at h
 case add =>
  split at h
  ·grind
  ·cases h;refine⟨.string (bs m++bs n),?_,by exact .str _⟩
   simp_all [binOp,Op.stringOp,Kr,aQ]
 all_goals
  cases h;exact⟨_,by simp only[binOp,Op.stringOp,uv,Ia]; rfl,.bool _⟩
def TI(hr:Rel j M w)(he:cm j M w br a){op:BinOp}{b:LS}{y y':Operand}{z z':gQ}{t t':TypeId}(hop:o.op = .binOp op t y y' t')(hb:Mg op=some b)(hz:er y=some z)(hz':er y'=some z')
  (h:dX C br M (.bin b z z')=some x):∃v w',qi P o a w v w'/\iI j M w x v w':=by
 simp only[dX] at h;have h1:=cU he hz;have h2:=cU he hz';obtain⟨r,hr',h⟩:=bg h;cases h;generalize hu:z.ev br=u at *;generalize hu':z'.ev br=u' at *;cases u<;>cases u'<;>try (simp[pw] at hr'; done)
 ·rename_i k m k' n;obtain⟨v,hv,hp⟩:=VV (P:=P) (w:=w) (j:=j) (M:=M) (t:=t) hb hr';exact⟨v,w,.inl (by simp[execOp,hop,h1.fN,h2.fN,MN,hv]),.still hr (.plain hp)⟩
 ·rename_i m n;obtain⟨v,hv,hp⟩:=VW (P:=P) (w:=w) (j:=j) (M:=M) (t:=t) hb hr';exact⟨v,w,.inl (by simp[execOp,hop,h1.jX,h2.jX,MO,hv]),.still hr (.plain hp)⟩
theorem TP(hr:Rel j M w)(he:cm j M w br a){neg:Bool}{y y':Operand}{z z':gQ}{t t':TypeId}(hop:o.op = .binOp (if neg then .neq else .eql) t y y' t')(ht:P.underlying t=some .bool)
  (hz:er y=some z) (hz':er y'=some z') (h:dX C br M (.eqB neg z z')=some x):∃v w',qi P o a w v w'/\iI j M w x v w':=by
 simp only[dX] at h;have h1:=cU he hz;have h2:=cU he hz';split at h
 ·rename_i m n e e';cases h;rw[e] at h1;rw[e'] at h2
  have heq:(Op.equal t (.bool m) (.bool n)).run P w = .ok (m==n) w:=by
   unfold Op.equal;rw[show Op.maxDepth=9999+1 from rfl,Op.equalIn]
   simp[dK ht]
  cases neg
  ·exact⟨.bool (m==n),w,.inl (by simp[execOp,hop,h1.jg,h2.jg,Co,binOp,heq]),.still hr (.plain (.bool _))⟩
  ·exact⟨.bool (!(m==n)),w,.inl (by simp[execOp,hop,h1.jg,h2.jg,Co,binOp,heq]),.still hr (.plain (.bool _))⟩
 grind
theorem pF{br:Env}{a:Act}(he:cm j M w br a){y:Operand}{z:gQ}(hz:er y=some z){n:Nat}{i:Int}(h:fy br n (some z)=some i){m:Nat}(h0:0<=i)(h1:i<=m)(code:BoundsCode) :
  (Instr.sliceBound (a.eval y) m code).run P w = .ok i.toNat w:=by
 unfold fy at h;have h2:=cU he hz;simp at h;split at h
 ·rename_i k i' e;cases h;rw[e] at h2;simp[Instr.sliceBound,h2.fN,asIntOf,h0,h1]
 grind
theorem pL{y:Option Operand}{z:Option gQ}(h:Bm y=some z):(y=none/\z=none)\/∃y' z',y=some y'/\z=some z'/\er y'=some z':=by
 cases y with
 |none=>grind [Bm]
 |some y =>
  obtain⟨z',h1,h2⟩:=aZ h
  grind
def xX{br:Env}{a:Act}(he:cm j M w br a){lo hi:Option Operand}{lo' hi':Option gQ}(hlo:Bm lo=some lo')(hhi:Bm hi=some hi'){len cap:Nat}{l h:Int}
  (h1:fy br len hi'=some h) (h2:fy br 0 lo'=some l) (hh0:0<=h) (hh:h<=len) (hl0:0<=l) (hl:l<=h) (hc:len<=cap) (isS:Bool) :
  (Instr.sliceBounds isS len cap (lo.map a.eval) (hi.map a.eval) none).run P w = .ok (l.toNat,h.toNat,cap) w:=by
 unfold Instr.sliceBounds;rcases pL hhi with ⟨rfl,rfl⟩|⟨y,z,rfl,rfl,hz⟩<;>rcases pL hlo with ⟨rfl,rfl⟩|⟨y',z',rfl,rfl,hz'⟩
 ·simp[fy] at h1 h2; subst h1; subst h2; rfl
 ·simp[fy] at h1; subst h1;have:=pF (P:=P) he hz' h2 hl0 (by omega) .sliceB
  simp_all
 ·simp[fy] at h2; subst h2;have:=pF (P:=P) he hz h1 hh0 (m:=cap) (by omega) (if isS then .sliceAcap else .sliceAlen)
  simp_all
 ·have t1:=pF (P:=P) he hz h1 hh0 (m:=cap) (by omega) (if isS then .sliceAcap else .sliceAlen)
  have t2:=pF (P:=P) he hz' h2 hl0 (m:=h.toNat) (by omega) .sliceB
  simp_all
theorem Nq(hr:Rel j M w)(he:cm j M w br a){y:Operand}{lo hi:Option Operand}{z:gQ}{lo' hi':Option gQ}{t:TypeId}(hop:o.op = .slice t y lo hi none)(ht:P.underlying t=some .string)
  (hz:er y=some z) (hlo:Bm lo=some lo') (hhi:Bm hi=some hi') (h:dX C br M (.wK z lo' hi')=some x):∃v w',qi P o a w v w'/\iI j M w x v w':=by
 simp[dX] at h;have h1:=cU he hz;split at h
 ·rename_i s e;obtain⟨hh,h2,h⟩:=bg h;obtain⟨l,h3,h⟩:=bg h;obtain⟨⟨c1,c2,c3,c4⟩,h⟩:=da h;cases h;rw[e] at h1;have hb:=xX (P:=P) he hlo hhi h2 h3 c1 c2 c3 c4 (aC _) false;refine⟨.string _,w,.inl ?_,.still hr (.plain (.str _))⟩;simp[execOp,hop,Instr.sliceAt,dK ht,Instr.slice,h1.jX,Kr,hb,xY]
 grind
theorem fF.part{ia:Nat->Nat->Prop}{xs:List ag}{A:Option Addr}{cap m l h n:Nat}(hx:fF w ia (.slice .sh xs) (.slice A xs.length cap))(hw:wid xs n)(hl:l<=h)(hh:h<=xs.length)(hm:h<=m) :
  fF w ia (.slice .sh ((xs.take h).drop l)) (.slice (if m=l then A else A.map (·.add (l*n))) (h-l) (m-l)):=by
 obtain⟨A',cap',b,off,sz,vs,hv,hc,ha,hz,hs,hrp⟩:=hx.dN;injection hv with e1 e2 e3
 subst e1; subst e3;have dR:((xs.take h).drop l).length=h-l:=by simp_all
 refine .slice _ _ _ _ b (off+l*sz) sz (fun p=>vs (l*sz+p)) dR.symm (by omega) (fun hne=>?_) (fun x hx=>hz x (dI (dk hx))) (fun i x k c hi hk=>?_) (fun i x k c hi hk=>?_)
 ·have:0<h-l:=by
   rw[<-dR]; exact gk.2 hne
  rw[aQ (by omega)]
  have hne':xs≠[]:=by grind
  rw[ha hne']
  have:n=sz:=by
   obtain⟨x,r,rfl⟩:=dV hne';rw[<-hw x (by simp),hz x (by simp)]
  simp[lk,this]
 ·grind
 grind
theorem Nr(hr:Rel j M w)(he:cm j M w br a){y:Operand}{lo hi mx:Option Operand}{z:gQ}{lo' hi' mx':Option gQ}{t e:TypeId}{n:Nat}(hop:o.op = .slice t y lo hi mx)(ht:P.underlying t=some (.slice e))
  (hn:pD P e=some n) (hz:er y=some z) (hlo:Bm lo=some lo') (hhi:Bm hi=some hi') (hmx:Bm mx=some mx') (hmh:mx'.isNone=true\/hi'.isSome=true)
  (h:dX C br M (.yt n z lo' hi' mx')=some x):∃v w',qi P o a w v w'/\iI j M w x v w':=by
 simp only[dX] at h;have h1:=cU he hz;split at h
 ·rename_i tk xs ez;obtain⟨hw,h⟩:=da h;obtain⟨hh,h2,h⟩:=bg h;obtain⟨l,h3,h⟩:=bg h;rw[ez] at h1;have hp:=h1.dN;obtain⟨A,cap,b,off,sz,vs,hv,hc,_⟩:=hp.dN;rw[hv] at hp;rcases pL hmx with ⟨rfl,rfl⟩|⟨my,mz,rfl,rfl,hmz⟩
  ·simp only at h;obtain⟨⟨c1,c2,c3,c4⟩,h⟩:=da h;cases h;have hb:=xX (P:=P) he hlo hhi (cap:=cap) h2 h3 c1 c2 c3 c4 hc true;refine⟨_,w,.inl ?_,.still hr (.plain (hp.part (m:=cap) (l:=l.toNat) (h:=hh.toNat) hw (by omega) (by omega) (by omega)))⟩
   simp[execOp,hop,Instr.sliceAt,dK ht,Instr.slice,hv,hb,ji hn]
  ·simp only at h;split at h
   ·rename_i mk m em;obtain⟨⟨c0,c0',c1,c2,c3,c4⟩,h⟩:=da h;have hm:=cU he hmz;rw[em] at hm
    have hmr:(Instr.sliceBound (a.eval my) cap .slice3Acap).run P w = .ok m.toNat w:=by
     simp[Instr.sliceBound,hm.fN,asIntOf,c0,show m<=cap by omega]
    have hbs:(Instr.sliceBounds true xs.length cap (lo.map a.eval) (hi.map a.eval) (some (a.eval my))).run P w = .ok (l.toNat,hh.toNat,m.toNat) w:=by
     unfold Instr.sliceBounds;rcases pL hhi with ⟨rfl,rfl⟩|⟨hy,hz',rfl,rfl,hhz⟩
     ·simp at hmh
     ·have t1:=pF (P:=P) he hhz h2 c1 (m:=m.toNat) (by omega) .slice3B
      rcases pL hlo with ⟨rfl,rfl⟩|⟨y',z',rfl,rfl,hz'⟩
      ·simp[fy] at h3; subst h3;simp[hmr,t1]
      ·have t2:=pF (P:=P) he hz' h3 c3 (m:=hh.toNat) (by omega) .slice3C
       simp[hmr,t1,t2]
    have hrun:(execOp a.eval o).run P w = .ok (.value (.slice (if m.toNat=l.toNat then A else A.map (·.add (l.toNat*n))) (hh.toNat-l.toNat) (m.toNat-l.toNat))) w:=by
     simp[execOp,hop,Instr.sliceAt,dK ht,Instr.slice,hv,hbs,ji hn]
    rcases jO h with ⟨hm0,h⟩|⟨hm0,h⟩<;>(cases h)
    ·have hm0:m=0:=by simpa using hm0
     subst hm0;have e1:hh=0:=by omega
     have e2:l=0:=by omega
     subst e1; subst e2;exact⟨_,w,.inl hrun,.still hr (.c0 _)⟩
    ·exact⟨_,w,.inl hrun,.still hr (.plain (hp.part (m:=m.toNat) hw (by omega) (by omega) (by omega)))⟩
   ·cases h
 ·rename_i id v0 sz' al ah ez;obtain⟨hsz,h⟩:=da h;subst hsz;obtain⟨hh,h2,h⟩:=bg h;obtain⟨l,h3,h⟩:=bg h;rw[ez] at h1;obtain⟨hs0,g1,g2,g3⟩:=h1.nJ
  obtain⟨A,cap,hv,hc,hA⟩:∃A cap,a.eval y = .slice A (ah-al) cap/\ah-al<=cap/\(0<ah-al->∃b off,A=some ⟨b,off,none⟩):=by
   grind
  have key:∀m:Nat,m<=cap->0<=l->l<hh->hh<=m->hh<=(ah-al:Nat)->fY j M w (.cN id v0 sz' (al+l.toNat) (al+hh.toNat)) (.slice (A.map (·.add (l.toNat*sz'))) (hh.toNat-l.toNat) (m-l.toNat)):=by
   intro m hmc hl0 hlh hhm hha;obtain⟨b,off,rfl⟩:=hA (by omega)
   simp only[eM,lk];have e0:al+hh.toNat-(al+l.toNat)=hh.toNat-l.toNat:=by omega
   have e6:hh.toNat-l.toNat<=m-l.toNat:=by clear g3 g2 h1 hv; omega
   have e7:al+l.toNat+(m-l.toNat)<=al+cap:=by omega
   have e8:al+l.toNat<=al+hh.toNat:=by omega
   have e9:al+hh.toNat<=ah:=by clear g3 g2 h1 hv; omega
   refine .cN (.inl ⟨b,off+l.toNat*sz',m-l.toNat,by rw[e0],by rw[e0]; exact e6⟩) g1 g2 fun sz v' xs hM=>?_
   obtain⟨k1,k2⟩:=g3 sz v' xs hM;refine⟨k1,fun hev=>?_⟩
   obtain⟨l0,l1,l2,⟨rfl,_⟩|⟨b',cap',vs,t',l3,l4,l5,l6,l7⟩⟩:=k2 hev
   ·simp at l2; omega
   rw[hv] at l4;injection l4 with l4 l4' l4''
   injection l4 with l4; injection l4 with e1 e2 e3
   subst e1; subst e2; subst l4'';exact⟨l0,e8,aV e9 l2,.inr ⟨b,m-l.toNat,vs,t',l3,by rw[e0,bL],by rw[e0]; exact e6,l6,aV (bf _ e7) l7⟩⟩
  rcases pL hmx with ⟨rfl,rfl⟩|⟨my,mz,rfl,rfl,hmz⟩
  ·simp only at h;obtain⟨⟨c1,c2,c3,c4⟩,h⟩:=da h;have hb:=xX (P:=P) he hlo hhi (cap:=cap) h2 h3 c1 c2 c3 c4 hc true
   have hrun:(execOp a.eval o).run P w = .ok (.value (.slice (if cap=l.toNat then A else A.map (·.add (l.toNat*sz'))) (hh.toNat-l.toNat) (cap-l.toNat))) w:=by
    simp[execOp,hop,Instr.sliceAt,dK ht,Instr.slice,hv,hb,ji hn]
   rcases jO h with ⟨hm0,h⟩|⟨hm0,h⟩<;>(cases h)
   ·have:l=hh:=by simpa using hm0
    subst this;refine⟨_,w,.inl hrun,.still hr (.plain ?_)⟩;rw[Nat.sub_self];exact fF.nil _ _ _
   ·have:l≠hh:=by simpa using hm0
    rw[aQ (by omega)] at hrun
    exact⟨_,w,.inl hrun,.still hr (key cap (aC _) c3 (by omega) (by omega) c2)⟩
  ·simp only at h;split at h
   ·rename_i mk m em;obtain⟨⟨c0,c0',c1,c2,c3,c4⟩,h⟩:=da h;have hm:=cU he hmz;rw[em] at hm
    have hmr:(Instr.sliceBound (a.eval my) cap .slice3Acap).run P w = .ok m.toNat w:=by
     simp[Instr.sliceBound,hm.fN,asIntOf,c0,show m<=cap by omega]
    have hbs:(Instr.sliceBounds true (ah-al) cap (lo.map a.eval) (hi.map a.eval) (some (a.eval my))).run P w = .ok (l.toNat,hh.toNat,m.toNat) w:=by
     unfold Instr.sliceBounds;rcases pL hhi with ⟨rfl,rfl⟩|⟨hy,hz',rfl,rfl,hhz⟩
     ·simp at hmh
     ·have t1:=pF (P:=P) he hhz h2 c1 (m:=m.toNat) (by omega) .slice3B
      rcases pL hlo with ⟨rfl,rfl⟩|⟨y',z',rfl,rfl,hz'⟩
      ·simp[fy] at h3; subst h3;simp[hmr,t1]
      ·have t2:=pF (P:=P) he hz' h3 c3 (m:=hh.toNat) (by omega) .slice3C
       simp[hmr,t1,t2]
    have hrun:(execOp a.eval o).run P w = .ok (.value (.slice (if m.toNat=l.toNat then A else A.map (·.add (l.toNat*sz'))) (hh.toNat-l.toNat) (m.toNat-l.toNat))) w:=by
     simp[execOp,hop,Instr.sliceAt,dK ht,Instr.slice,hv,hbs,ji hn]
    rcases jO h with ⟨hm0,h⟩|⟨hm0,h⟩
    ·cases h;have hm0:m=0:=by simpa using hm0
     subst hm0;have e1:hh=0:=by omega
     have e2:l=0:=by omega
     subst e1; subst e2;exact⟨_,w,.inl hrun,.still hr (.c0 _)⟩
    ·rcases jO h with ⟨hm1,h⟩|⟨hm1,h⟩<;>(cases h)
     ·have:l=hh:=by simpa using hm1
      subst this;refine⟨_,w,.inl hrun,.still hr (.plain ?_)⟩;rw[Nat.sub_self];exact fF.nil _ _ _
     ·have:l≠hh:=by simpa using hm1
      rw[aQ (by omega)] at hrun
      exact⟨_,w,.inl hrun,.still hr (key m.toNat (by omega) c3 (by omega) (by omega) (by omega))⟩
   ·cases h
 ·cases h
theorem TR(hr:Rel j M w)(he:cm j M w br a){y i:Operand}{z z':gQ}{t e:TypeId}{n:Nat}(hop:o.op = .indexAddr t y i)(ht:P.underlying t=some (.slice e))(hn:pD P e=some n)
  (hz:er y=some z) (hz':er i=some z') (h:dX C br M (.uJ n z z')=some x):∃v w',qi P o a w v w'/\iI j M w x v w':=by
 simp only[dX] at h;have h1:=cU he hz;have h2:=cU he hz';split at h
 ·rename_i tk xs k m ez ez';obtain⟨h0,h⟩:=da h;obtain⟨el,hel,h⟩:=bg h;split at h
  ·rename_i hwd;cases h;rw[ez] at h1;rw[ez'] at h2;obtain⟨A,cap,b,off,sz,vs,hv,hc,ha,hsz,hs,hrp⟩:=h1.dN.dN;have cn:=aJ hel;have hne:xs≠[]:=by rintro rfl; simp at cn
   have hA:=ha hne;have hsz':sz=n:=by rw[<-hwd]; exact(hsz el (aO hel)).symm
   subst hsz';subst hA;refine⟨.pointer (some ⟨b,off+m.toNat*sz,none⟩),w,.inl ?_,.still hr (.iP (vs:=fun q=>vs (m.toNat*sz+q)) fun q c hq=>?_)⟩
   ·have hm:m<xs.length:=by omega
    simp[execOp,hop,Instr.indexAt,dK ht,hv,h2.fN,asIntOf,h0,hm,ji hn,lk]
   grind
  ·cases h
 ·rename_i id v0 sz' lo hi k m ez ez';obtain⟨⟨h0,hm,hsz⟩,h⟩:=da h;cases h;subst hsz;rw[ez] at h1;rw[ez'] at h2;have hlt0:lo+m.toNat<hi:=by omega
  obtain⟨b,off,cap,hv,hcap⟩:=h1.VK (by omega)
  obtain⟨_,g1,g2,g3⟩:=h1.nJ;refine⟨.pointer (some ⟨b,off+m.toNat*sz',none⟩),w,.inl ?_,.still hr (.iH ⟨_,_,rfl⟩ g1 g2 fun sz v' xs hM=>?_)⟩
  ·simp[execOp,hop,Instr.indexAt,dK ht,hv,h2.fN,asIntOf,h0,hm,ji hn,lk]
  ·obtain⟨k1,k2⟩:=g3 sz v' xs hM;refine⟨k1,fun he=>?_⟩
   obtain⟨rfl,l1,l2,⟨rfl,_⟩|⟨b',cap',vs,t',l3,l4,l5,l6,l7⟩⟩:=k2 he
   ·exact absurd (bw hlt0 l2) (by simp)
   rw[hv] at l4
   grind [Nat.lt_of_lt_of_le,Nat.add_mul]
 ·cases h
def Fs(b off:Nat)(u:Nat->Value):∀(n i:Nat)(acc:Array Value),(∀k,k<n->w.cell? ⟨b,off+(i+k),none⟩=some (u (i+k))) ->
  (loadCellsFrom ⟨b,off,none⟩ i n acc).run P w = .ok (acc++((List.range n).map fun k=>u (i+k)).toArray) w:=by
 intro n;induction n with
 |zero=>simp[loadCellsFrom]
 |succ n ih =>
  intro i acc h;have h0:=h 0 (by simp)
  simp_all [loadCellsFrom,lk,List.range_succ_eq_map,Function.comp_def,Nat.add_comm,Nat.add_left_comm]
theorem oW(b off n:Nat)(u:Nat->Value)(h:∀k,k<n->w.cell? ⟨b,off+k,none⟩=some (u k)) :
  (loadCells ⟨b,off,none⟩ n).run P w = .ok (((List.range n).map u).toArray) w:=by
 have:=Fs (P:=P) (w:=w) b off u n 0 #[] (by grind)
 grind [loadCells]
theorem vZ{id b:Nat}{cs:List ag}(hr:Rel j M w)(hM:M[id]?=some (.cells cs))(hj:j id=some b):∃vs t,w.heap[b]?=some (.cells vs t (0,0))/\cs.length=vs.size /\
  (∀(q:Nat)(c:ag)(v:Value),cs[q]?=some c->vs[q]?=some v->fY j M w c v)/\∀q,w.cell? ⟨b,q,none⟩=vs[q]?:=by
 obtain⟨b',vs,t,h1,h2,h3,h4⟩:=hr.box _ _ hM
 grind [World.cell?]
theorem Gd(hr:Rel j M w){id ver i off sz:Nat}{xs:List ag}{v:Value}{el:ag}(hM:M[id]?=some (.arr sz ver xs))(h:fY j M w (.iH id ver i off) v)(hel:xs[i]?=some el) :
  ∃b,v = .pointer (some ⟨b,i*sz+off,none⟩)/\∀(k:Nat)(c:ag),el.cells[off+k]?=some c->∃u,w.cell? ⟨b,i*sz+off+k,none⟩=some u/\fF w (ng j M w) c u:=by
 obtain⟨_,_,_,g⟩:=h.rE;obtain⟨g1,b,g2,g3⟩:=(g _ _ _ hM).2 rfl;obtain⟨b',vs,t,k1,k2,k3,k4,k5⟩:=hr.yE hM g2
 grind [World.cell?]
theorem TU(hr:Rel j M w)(he:cm j M w br a){y:Operand}{z:gQ}{t:TypeId}(hop:o.op = .load t y)(hg:Bk P t=some false)(hz:er y=some z)(h:dX C br M (.ic z)=some x) :
  ∃v w',qi P o a w v w'/\iI j M w x v w':=by
 simp only[dX] at h;have h1:=cU he hz;split at h
 ·rename_i id off e;rw[e] at h1;obtain⟨b,_,_,hj,hv⟩:=h1.pa;rw[fE] at h;split at h
  ·rename_i cs hM;obtain⟨c,hc,h⟩:=bg h;cases h;rw[fE] at hc;obtain⟨vs,t0,hw,hl,hcs,hcell⟩:=vZ hr hM hj;have cn:=aJ hc;have hu:vs[off]?=some (vs[off]'(by omega)):=a8 (by omega)
   refine⟨_,w,.inl ?_,.still hr (hcs _ c _ hc hu)⟩;simp[execOp,hop,Instr.loadAt,Instr.sureAddr,hv,loadVar,kG hg,hcell,hu]
  grind
 ·rename_i cs e;rw[e] at h1;obtain⟨b,off,vs,hv,hc⟩:=h1.tv;obtain⟨c,hc0,h⟩:=bg h;cases h;rw[fE] at hc0;obtain⟨h2,_,h3⟩:=hc 0 c hc0;refine⟨_,w,.inl ?_,.still hr (.plain h3)⟩;simp_all [execOp,Instr.loadAt,Instr.sureAddr,loadVar,kG]
 ·rename_i id ver i off e;rw[e] at h1;rw[fE] at h;split at h
  ·rename_i sz v0 xs hM;split at h
   ·rename_i hv0;subst hv0;obtain⟨el,hel,h⟩:=bg h;obtain⟨c,hc,h⟩:=bg h;cases h;rw[fE] at hc;obtain⟨b,hv,hcell⟩:=Gd hr hM h1 hel;obtain⟨u,l1,l2⟩:=hcell 0 c (by omega)
    refine⟨u,w,.inl ?_,.still hr (.plain l2)⟩;simp_all [execOp,Instr.loadAt,Instr.sureAddr,loadVar,kG]
   grind
  ·cases h
 grind
theorem TV(hr:Rel j M w)(he:cm j M w br a){y:Operand}{z:gQ}{t:TypeId}{n:Nat}(hop:o.op = .load t y)(hg:Bk P t=some true)(hn:pD P t=some n)(hz:er y=some z)
  (h:dX C br M (.kN n z)=some x):∃v w',qi P o a w v w'/\iI j M w x v w':=by
 simp only[dX] at h;have h1:=cU he hz;split at h
 ·rename_i id off e;rw[e] at h1;obtain⟨b,_,_,hj,hv⟩:=h1.pa;rw[fE] at h;split at h
  ·rename_i cs hM;split at h
   ·rename_i hle;cases h;obtain⟨vs,t0,hw,hl,hcs,hcell⟩:=vZ hr hM hj
    have hrun:=oW (P:=P) (w:=w) b off n (fun k=>(vs[off+k]?).getD undef) fun k hk=>by
     rw[hcell,a8 (by omega)]; simp
    refine⟨_,w,.inl (by simp[execOp,hop,Instr.loadAt,Instr.sureAddr,hv,loadVar,kG hg,ji hn,hrun]; rfl),.still hr (.agg (by grind) fun p c u hc hu=>?_)⟩
    grind
   ·cases h
  ·cases h
 ·rename_i cs e;split at h
  ·rename_i hle;cases h;rw[e] at h1;obtain⟨b,off,vs,hv,hc⟩:=h1.tv;have hrun:=oW (P:=P) (w:=w) b off n vs fun k hk=>(hc k _ (ai (by omega))).1
   refine⟨_,w,.inl (by simp[execOp,hop,Instr.loadAt,Instr.sureAddr,hv,loadVar,kG hg,ji hn,hrun]; rfl),.still hr (.agg (by simp; omega) fun p c u hc' hu=>?_)⟩
   have hp:p<n:=by have:=aJ hc'; simp_all
   rw[bE hp] at hc';have hu':u=vs p:=by simp_all
   subst hu';exact .plain (hc p c hc').2.2
  ·cases h
 ·rename_i id ver i off e;rw[e] at h1;rw[fE] at h;split at h
  ·rename_i sz v0 xs hM;split at h
   ·rename_i hv0;subst hv0;obtain⟨el,hel,h⟩:=bg h;split at h
    ·rename_i hle;cases h;obtain⟨b,hv,hcell⟩:=Gd hr hM h1 hel
     have hrun:=oW (P:=P) (w:=w) b (i*sz+off) n (fun k=>(w.cell? ⟨b,i*sz+off+k,none⟩).getD undef) fun k hk=>by
      obtain⟨u,l1,_⟩:=hcell k _ (ai (by omega))
      rw[l1]; rfl
     refine⟨_,w,.inl (by simp[execOp,hop,Instr.loadAt,Instr.sureAddr,hv,loadVar,kG hg,ji hn,hrun]; rfl),.still hr (.agg (by simp; omega) fun p c u hc' hu=>?_)⟩
     have hp:p<n:=by have:=aJ hc'; simp at this; omega
     rw[bE hp,cH] at hc';obtain⟨u',l1,l2⟩:=hcell p c hc';have hu':u=(w.cell? ⟨b,i*sz+off+p,none⟩).getD undef:=by simp_all
     rw[l1] at hu';subst hu';exact .plain l2
    ·cases h
   ·cases h
  ·cases h
 ·cases h
end
section
variable {P:Program} {C:eB} {o:Oper} {br:Env} {M:aH} {j:J} {w:World} {a:Act} {x:ag×aH}
def uA{y:ag}{v:Value}{cs:List ag}(h:fY j M w y v)(hc:y.cells?=some cs):RC j M w cs v.cells:=by
 cases y<;>simp only[ag.cells?,eS,reduceCtorEq] at hc
 case agg cs' =>
  subst hc;obtain⟨vs,rfl,h1,h2⟩:=h.lU;exact⟨h1,h2⟩
 case raw u =>
  cases h with
  |plain h =>
   cases h with
   |raw _ h1 =>
    cases v<;>simp at hc<;>subst hc <;>
     exact⟨rfl,fun i c v hc hv=>by
      cases i with
      |zero=>simp[Value.cells] at hc hv; subst hc; subst hv; exact .plain (.raw _ h1)
      |succ i=>simp at hc⟩
 all_goals
  subst hc
  have hv:v.cells = #[v]:=by
   first
    |(have:=h.jg; subst this; rfl)
    |(have:=h.fN; subst this; rfl)
    |(have:=h.jX; subst this; rfl)
    |(obtain⟨A,cap,b,off,sz,vs,e,_⟩:=h.dN.dN; subst e; rfl)
    |(obtain⟨b,_,_,_,e⟩:=h.pa; subst e; rfl)
    |(obtain⟨b,off,vs,e,_⟩:=h.tv; subst e; rfl)
    |(obtain⟨vs,e,_⟩:=h.rF; subst e; rfl)
    |(obtain⟨b,_,_,e⟩:=h.uQ; subst e; rfl)
    |(obtain⟨b,_,_,e⟩:=h.Cr; subst e; rfl)
    |(obtain⟨b,es,cl,e,_⟩:=h.GI; subst e; rfl)
    |(obtain⟨_,_,e⟩:=h.yD; subst e; rfl)
    |(obtain⟨⟨_,_,e⟩,_⟩:=h.rE; subst e; rfl)
    |(obtain⟨_,e,_⟩:=h.Fu; subst e; rfl)
    |(obtain⟨_,_,_,e⟩:=h.Hf; subst e; rfl)
  rw[hv]
  exact⟨rfl,fun i c u hc hu=>by
   cases i with
   |zero=>simp at hc hu; subst hc; subst hu; exact h
   |succ i=>simp at hc⟩
theorem B1{c:ag}{v:Value}(h:fY j M w c v)(hc:c.iM=true):v.oneCell'=true:=by
 cases c<;>simp only[ag.iM,af] at hc
 case bool=>have:=h.jg; subst this; rfl
 case int=>have:=h.fN; subst this; rfl
 case str=>have:=h.jX; subst this; rfl
 case slice=>obtain⟨A,cap,b,off,sz,vs,e,_⟩:=h.dN.dN; subst e; rfl
 case ptr=>obtain⟨b,_,_,_,e⟩:=h.pa; subst e; rfl
 case iP=>obtain⟨b,off,vs,e,_⟩:=h.tv; subst e; rfl
 case func=>obtain⟨vs,e,_⟩:=h.rF; subst e; rfl
 case gP=>obtain⟨b,_,_,e⟩:=h.uQ; subst e; rfl
 case jq=>obtain⟨b,_,_,e⟩:=h.Cr; subst e; rfl
 case iL=>obtain⟨b,es,cl,e,_⟩:=h.GI; subst e; rfl
 case cN=>obtain⟨_,_,e⟩:=h.yD; subst e; rfl
 case iH=>obtain⟨⟨_,_,e⟩,_⟩:=h.rE; subst e; rfl
 case pC=>obtain⟨_,e,_⟩:=h.Fu; subst e; rfl
 case jE=>obtain⟨_,_,_,e⟩:=h.Hf; subst e; rfl
 case raw u =>
  cases h with
  |plain h=>cases h<;>grind
theorem Fv(hr:Rel j M w){cs:List ag}{vs:Array Value}(hc:RC j M w cs vs)(t:TypeId) :
  iI j M w (.ptr M.length 0,M++[.cells cs]) (.pointer (some ⟨w.heap.size,0,none⟩)) { w with heap:=w.heap.push (.cells vs t (0,0)) }:=by
 have q:Quiet w { w with heap:=w.heap.push (.cells vs t (0,0)) }:=⟨by simp,rfl,rfl,rfl⟩
 have hb:∀b,b<w.heap.size->({ w with heap:=w.heap.push (.cells vs t (0,0)) }:World).heap[b]?=w.heap[b]?:=fun b hb=>by
  grind
 have hn:({ w with heap:=w.heap.push (.cells vs t (0,0)) }:World).heap[w.heap.size]?=some (.cells vs t (0,0)):=by simp
 refine⟨gy j _ (some w.heap.size),hr.push (fun b h=>?_) q hb (fun _=>?_) (fun sz n b h=>by grind),Ext.push (fun b h=>?_) q hb,.ptr (by simp) ⟨cs,by simp⟩ (by simp[gy])⟩
 ·grind
 ·exact⟨_,rfl,fun j' M' hx=>⟨vs,t,hn,hc.1,fun i c v h1 h2=>(hc.2 i c v h1 h2).mono hx⟩⟩
 grind
def afo(hr:Rel j M w)(he:cm j M w br a){y:Operand}{z:gQ}{t:TypeId}(hop:o.op = .box t y)(hz:er y=some z)(h:dX C br M (.box z)=some x) :
  ∃v w',qi P o a w v w'/\iI j M w x v w':=by
 obtain⟨cs,hc,h⟩:=bg h;cases h;exact⟨_,_,.inl (by simp_all [execOp,Instr.box,newVar,newRow]),Fv hr (uA (cU he hz) hc) t⟩
theorem Lr(hr:Rel j M w){t:TypeId}{i:TypeInfo}{zv:Value}{l:List ag}(hop:o.op = .alloc t)(hi:P.info? t=some i)(hzv:i.zero=some zv)(hl:sf zv.cells.toList=some l)
  (h:dX C br M (.pq l)=some x):∃v w',qi P o a w v w'/\iI j M w x v w':=by
 cases h;obtain⟨h1,h2⟩:=pk hl;refine⟨_,_,.inl (by simp[execOp,hop,Instr.alloc,zeroValue,oZ hi,hzv]; rfl),Fv hr ⟨by omega,fun i c v hc hv=>h2 i c v hc (by grind)⟩ t⟩
theorem afs(hr:Rel j M w)(he:cm j M w br a){y:Operand}{n:Nat}(hop:o.op = .assign y)(hz:er y=some (.kb (.slice .c0 [])))(h:dX C br M (.own n (.kb (.slice .c0 [])))=some x) :
  ∃v w',qi P o a w v w'/\iI j M w x v w':=by
 cases h;have h1:=cU he hz;have q:Quiet w w:=⟨aC _,rfl,rfl,rfl⟩
 obtain⟨A,hA⟩:∃A,a.eval y = .slice A 0 0:=by
  generalize a.eval y=v at h1;cases h1 with
  |plain h=>cases h
  |c0 A=>simp
 refine⟨a.eval y,w,.inl (by simp_all [execOp]),gy j _ none,hr.push (fun b h=>by grind) q (fun _ _=>rfl) (fun h=>by cases h) (fun sz n b h h'=>by grind),Ext.push (fun b h=>by grind) q (fun _ _=>rfl),?_⟩
 rw[hA];exact .own (sz:=n) (by simp) (by simp) (fF.nil _ _ _) fun _ => .inl ⟨by simp[gy],rfl,A,rfl⟩
def ot(w:World)(b:Nat):Nat->List Value->World
 |_,[]=>w
 |off,v::r=>ot (w.setCell ⟨b,off,none⟩ v) b (off+1) r
def lj{b:Nat}{t:TypeId}:∀(l:List Value)(w:World)(off:Nat)(vs:Array Value),w.heap[b]?=some (.cells vs t (0,0))->off+l.length<=vs.size ->
  (ot w b off l).heap.size=w.heap.size/\(ot w b off l).os=w.os/\(ot w b off l).tape=w.tape/\(ot w b off l).output=w.output /\
  (∀b',b'≠b->(ot w b off l).heap[b']?=w.heap[b']?) /\
  ∃vs',(ot w b off l).heap[b]?=some (.cells vs' t (0,0))/\vs'.size=vs.size/\(∀p,p<off\/off+l.length<=p->vs'[p]?=vs[p]?)/\∀p,p<l.length->vs'[off+p]?=l[p]?:=by
 intro l;induction l with
 |nil=>intro w off vs h _; exact⟨rfl,rfl,rfl,rfl,fun _ _=>rfl,vs,h,rfl,fun _ _=>rfl,fun p hp=>by simp at hp⟩
 |cons v r ih =>
  intro w off vs h hle;simp only[au] at hle
  have hs:(w.setCell ⟨b,off,none⟩ v).heap[b]?=some (.cells (vs.setIfInBounds off v) t (0,0)):=by
   simp[World.setCell,gr,h]
  obtain⟨h1,h2,h3,h4,h5,vs',h6,h7,h8,h9⟩:=ih (w.setCell ⟨b,off,none⟩ v) (off+1) (vs.setIfInBounds off v) hs (by simp; omega)
  refine⟨by simp only[ot]; rw[h1]; simp[World.setCell],by simp only[ot]; rw[h2]; rfl,by simp only[ot]; rw[h3]; rfl,by simp only[ot]; rw[h4]; rfl,fun b' hb'=>?_,vs',h6,by rw[h7]; simp,fun p hp=>?_,fun p hp=>?_⟩
  ·simp only[ot];rw[h5 b' hb'];simp[World.setCell,gr,eY hb']
  ·simp only[au] at hp;rw[h8 p (by omega),fh (by omega)]
  ·cases p with
   |zero =>
    have:vs'[off]?=(vs.setIfInBounds off v)[off]?:=h8 off (by omega)
    rw[dg,this];simp[gG];omega
   |succ p =>
    have:=h9 p (by simpa using hp)
    rw[show off+(p+1)=off+1+p by omega,this]
    simp
def mq{b:Nat}{t:TypeId}:∀(l:List Value)(w:World)(off i:Nat)(vs:Array Value),w.heap[b]?=some (.cells vs t (0,0))->off+i+l.length<=vs.size->(∀v,v∈l->v.oneCell'=true) ->
  (storeCells ⟨b,off,none⟩ l i).run P w = .ok () (ot w b (off+i) l):=by
 intro l;induction l with
 |nil=>simp[storeCells,ot]
 |cons v r ih =>
  intro w off i vs h hle hv;simp only[au] at hle
  have hs:(w.setCell ⟨b,off+i,none⟩ v).heap[b]?=some (.cells (vs.setIfInBounds (off+i) v) t (0,0)):=by
   simp[World.setCell,gr,h]
  have hc:w.cell? ⟨b,off+i,none⟩=some (vs[off+i]'(by omega)):=by
   simp[World.cell?,h]
  have hf:w.frozen? ⟨b,off+i,none⟩=false:=by simp[World.frozen?,h]
  have hi:=ih _ off (i+1) _ hs (by simp; omega) (fun u hu=>hv u (aX _ hu))
  simp[storeCells,lk,run_store P w _ v .plain (hv v _),hc,hf,az,Result.andThen_ok,hi];rfl
theorem pI{cs new:List ag}{off:Nat}(h:off+new.length<=cs.length)(p:Nat) :
  (mg cs off new)[p]?=if off<=p/\p<off+new.length then new[p-off]? else cs[p]?:=by
 grind [mg]
theorem ua{cs new:List ag}{off:Nat}(h:off+new.length<=cs.length):(mg cs off new).length=cs.length:=by
 grind [mg]
theorem zw{c:ag}{v:Value}(h:fY j M w c v)(hp:c.shut.plainCell=true):fF w (ng j M w) c.shut v:=by
 cases c<;>simp[ag.shut,ag.plainCell] at hp ⊢
 case bool=>have:=h.jg; subst this; exact .bool _
 case int=>have:=h.fN; subst this; exact .int _ _
 case str=>have:=h.jX; subst this; exact .str _
 case slice=>exact h.dN
 case raw=>cases h<;>grind
theorem Ba{c:ag}(h:c.shut.plainCell=true):c.iM=true:=by
 cases c<;>simp[ag.shut,ag.plainCell] at h<;>try rfl
 rename_i v;cases v<;>first|rfl|grind
def FD{c:ag}(h:c.plainCell=true):c.cells=[c]:=by
 cases c<;>first|rfl|cases h
theorem CW{e:ag}{off:Nat}{new:List ag}(h:off+new.length<=e.cells.length)(hp:new.all ag.plainCell=true):(putCells e off new).cells=mg e.cells off new:=by
 by_cases hag:∃cs,e = .agg cs
 ·obtain⟨cs,rfl⟩:=hag;cases new<;>rfl
 ·have h1:e.cells=[e]:=by cases e<;>first|rfl|grind
  rw[h1] at h ⊢
  match new,h,hp with
  | [],h,_ =>
   have:putCells e off []=e:=by cases e<;>first|rfl|grind
   rw[this,h1]
   match off,h with
   |0,_=>rfl
   |1,_=>rfl
  | [c],h,hp =>
   have:putCells e off [c]=c:=by cases e<;>first|rfl|grind
   have h0:off=0:=by grind
   subst h0;rw[this,FD (by grind)]
   rfl
  |_::_::_,h,_=>grind
theorem CP(hr:Rel j M w)(he:cm j M w br a){y y':Operand}{z z':gQ}{t:TypeId}{n:Nat}(hop:o.op = .store t y y')(hn:pD P t=some n)(hz:er y=some z)(hz':er y'=some z')
  (h:dX C br M (.store n z z')=some x):∃v w',qi P o a w v w'/\iI j M w x v w':=by
 simp only[dX] at h;have h1:=cU he hz;have h2:=cU he hz';split at h
 ·rename_i id off e;rw[e] at h1;obtain⟨b,_,_,hj,hv⟩:=h1.pa;rw[fE] at h;split at h
  ·rename_i cs hM;obtain⟨new,je,h⟩:=bg h;split at h
   ·rename_i hcond;obtain⟨c1,c2,c3⟩:=hcond;cases h;obtain⟨vs,t0,hw,hl,hcs,hcell⟩:=vZ hr hM hj;obtain⟨n1,n2⟩:=uA h2 je
    have hone:∀v,v∈(a.eval y').cells.toList->v.oneCell'=true:=by
     intro v hv;obtain⟨p,hp,rfl⟩:=jK hv;have hp':p<(a.eval y').cells.size:=by simpa using hp
     have hpl:p<new.length:=by omega
     have hr':=n2 p _ _ (ai hpl) (a8 hp');have:=B1 hr' (bH.1 c3 _ (iV hpl));simpa using this
    have hrun:=mq (P:=P) (a.eval y').cells.toList w off 0 vs hw (by simp; omega) hone
    obtain⟨s1,s2,s3,s4,s5,vs',s6,s7,s8,s9⟩:=lj (a.eval y').cells.toList w off vs hw (by simp; omega)
    have q:Quiet w (ot w b off (a.eval y').cells.toList):=⟨by omega,s2,s3,s4⟩
    have hle:off+new.length<=cs.length:=by omega
    rw[gq];refine⟨undef,ot w b off (a.eval y').cells.toList,.inr ⟨?_,rfl⟩,j,Rel.store hM rfl rfl hj hr q (fun b' hb' _=>s5 b' hb') (fun vs0 t1 fr h=>by rw[hw] at h; grind) (fun j' M' hx=>⟨vs',t0,s6,by rw[ua hle]; omega,fun p c v hc hv'=>fY.mono hx ?_⟩),Ext.store hM rfl rfl hj hr q (fun b' hb' _=>s5 b' hb') (fun vs0 t1 fr h=>by rw[hw] at h; grind),.any _⟩
    ·simp_all [dg,execOp,Instr.storeAt,Instr.sureAddr,storeVar,ji]
    ·rw[pI hle] at hc;split at hc
     ·rename_i hp;have h9:=s9 (p-off) (by simp; omega)
      rw[show off+(p-off)=p by omega,hv'] at h9
      exact n2 (p-off) c v hc (by simpa using h9.symm)
     grind
   ·cases h
  ·cases h
 ·rename_i id ver i off e;rw[e] at h1;rw[fE] at h;split at h
  ·rename_i sz v0 xs hM;obtain⟨new,je,h⟩:=bg h;obtain⟨el,hel,h⟩:=bg h;split at h
   ·rename_i hcond;obtain⟨hv0,c1,c2,c3⟩:=hcond;subst hv0;cases h;obtain⟨_,hid,_,hv⟩:=h1.rE;obtain⟨hi,b,hj,hv⟩:=(hv sz v0 xs hM).2 rfl;obtain⟨b',vs,t0,k1,hw,k3,k4,k5⟩:=hr.yE hM hj;rw[hj] at k1; cases k1;have hsz:el.cells.length=sz:=k4 el (aO hel)
    have hbd:i*sz+sz<=vs.size:=by
     refine aV ?_ k3
     calc i*sz+sz=(i+1)*sz:=by rw[bL]; omega
      _<=xs.length*sz:=bf _ hi
    obtain⟨n1,n2⟩:=uA h2 je
    have hpl:∀(p:Nat)(c:ag),new[p]?=some c->c.shut.plainCell=true:=fun p c hc=>by
     rw[List.all_map,bH] at c3;exact c3 c (aO hc)
    have hone:∀v,v∈(a.eval y').cells.toList->v.oneCell'=true:=by
     intro v hv;obtain⟨p,hp,rfl⟩:=jK hv;have hp':p<(a.eval y').cells.size:=by simpa using hp
     have hpl':p<new.length:=by omega
     have hr':=n2 p _ _ (ai hpl') (a8 hp');have:=B1 hr' (Ba (hpl p _ (ai hpl')));simpa using this
    have hrun:=mq (P:=P) (a.eval y').cells.toList w (i*sz+off) 0 vs hw (by simp; omega) hone
    obtain⟨s1,s2,s3,s4,s5,vs',s6,s7,s8,s9⟩:=lj (a.eval y').cells.toList w (i*sz+off) vs hw (by simp; omega)
    have q:Quiet w (ot w b (i*sz+off) (a.eval y').cells.toList):=⟨by omega,s2,s3,s4⟩
    have hle:off+(new.map ag.shut).length<=el.cells.length:=by simp; omega
    have hput:=CW hle c3
    have hw':∀vs0 t1,w.heap[b]?=some (.cells vs0 t1 (0,0))->∃vs1,(ot w b (i*sz+off) (a.eval y').cells.toList).heap[b]?=some (.cells vs1 t1 (0,0))/\vs1.size=vs0.size:=fun vs0 t1 h=>by
     rw[hw] at h; grind
    rw[gq,gq];refine⟨undef,ot w b (i*sz+off) (a.eval y').cells.toList,.inr ⟨?_,rfl⟩,j,Rel.DC hM hj hr q (fun b' hb' _=>s5 b' hb') hw' (aC _) (fun _=>by simp) (fun j' M' hx=>⟨vs',t0,s6,by simp; omega,fun x hx'=>?_,fun p x k c hp hk=>?_⟩),Ext.DC hM hj hr q (fun b' hb' _=>s5 b' hb') hw' (aC _) (fun _=>by simp),.any _⟩
    ·simp only[dg] at hrun;simp[execOp,hop,Instr.storeAt,Instr.sureAddr,hv,storeVar,ji hn,show(a.eval y').cells.size=n by omega,hrun]
    ·rcases List.mem_or_eq_of_mem_set hx' with hx'|rfl
     ·exact k4 x hx'
     ·rw[hput,ua hle,hsz]
    ·have dR:(a.eval y').cells.toList.length=n:=by simp; omega
     by_cases hpi:i=p
     ·subst hpi;rw[gh hi] at hp;cases hp;rw[hput,pI hle] at hk;split at hk
      ·rename_i hin;simp only[fT] at hin;rw[bd,aR] at hk;obtain⟨c0,hc0,rfl⟩:=hk;have h9:=s9 (k-off) (by omega)
       rw[show i*sz+off+(k-off)=i*sz+k by omega] at h9
       have cn:k-off<(a.eval y').cells.size:=by omega
       have hu:(a.eval y').cells[k-off]?=some (a.eval y').cells[k-off]:=a8 cn;exact⟨_,by rw[h9]; simp,(zw (n2 _ c0 _ hc0 hu) (hpl _ c0 hc0)).mono hx.ia⟩
      ·rename_i hin;simp only[fT] at hin;obtain⟨u,u1,u2⟩:=k5 i el k c hel hk;exact⟨u,by rw[s8 _ (by omega)]; exact u1,u2.mono hx.ia⟩
     ·rw[gL hpi] at hp;obtain⟨u,u1,u2⟩:=k5 p x k c hp hk;have hk':k<sz:=by rw[<-k4 x (aO hp)]; exact aJ hk
      refine⟨u,(s8 _ ?_).trans u1,u2.mono hx.ia⟩;rcases bF p i with cn|hge
      ·left;have:=bf sz (show p+1<=i from cn)
       rw[bL] at this;omega
      ·right;have:=bf sz (show i+1<=p by omega)
       rw[bL] at this;omega
   ·cases h
  ·cases h
 ·cases h
end
def UL(off:Nat):∀(l:List Value)(k:Nat)(cells:Array Value),
  ((l.zipIdx k).foldl (fun(cs:Array Value) (x:Value×Nat)=>cs.setIfInBounds (off+x.2) x.1) cells).size=cells.size /\
  ∀p,((l.zipIdx k).foldl (fun(cs:Array Value) (x:Value×Nat)=>cs.setIfInBounds (off+x.2) x.1) cells)[p]? =
   if off+k<=p/\p<off+k+l.length/\p<cells.size then l[p-(off+k)]? else cells[p]?:=by
 intro l;induction l with
 |nil=>intro k cells; exact⟨rfl,fun p=>by simp; omega⟩
 |cons v r ih =>
  intro k cells;rw[List.zipIdx_cons,cK];obtain⟨h1,h2⟩:=ih (k+1) (cells.setIfInBounds (off+k) v);refine⟨by rw[h1]; simp,fun p=>?_⟩
  rw[h2];simp only[Array.size_setIfInBounds,au]
  by_cases c1:off+(k+1)<=p/\p<off+(k+1)+r.length/\p<cells.size
  ·rw[bh c1,bh (by omega),show p-(off+k)=(p-(off+(k+1)))+1 by omega]
   simp
  ·rw[aQ c1]
   by_cases c2:p=off+k/\p<cells.size
   ·obtain⟨rfl,cn⟩:=c2;rw[bh (by omega)]
    simp[gG,cn]
   ·rw[aQ (by omega)]
    by_cases c3:p=off+k
    ·have:¬p<cells.size:=fun h=>c2 ⟨c3,h⟩
     rw[gX (by simp; omega),gX (by omega)]
    ·rw[fh (by omega)]
def putRow(cells:Array Value)(off:Nat)(vs:Array Value):Array Value:=vs.zipIdx.foldl (fun cs (c,k)=>cs.setIfInBounds (off+k) c) cells
def A8(cells:Array Value)(off:Nat)(vs:Array Value):(putRow cells off vs).size=cells.size /\
  ∀p,(putRow cells off vs)[p]?=if off<=p/\p<off+vs.size/\p<cells.size then vs[p-off]? else cells[p]?:=by
 have h:=UL off vs.toList 0 cells
 have e:putRow cells off vs=(vs.toList.zipIdx 0).foldl (fun(cs:Array Value) (x:Value×Nat)=>cs.setIfInBounds (off+x.2) x.1) cells:=by
  unfold putRow;rw[<-Array.foldl_toList];simp
 rw[e];exact⟨h.1,fun p=>by rw[h.2 p]; simp⟩
section
variable {P:Program} {C:eB} {o:Oper} {br:Env} {M:aH} {j:J} {w:World} {a:Act} {x:ag×aH}
def RC.write{cs new:List ag}{cells vs:Array Value}{off:Nat}(h:RC j M w cs cells)(hn:RC j M w new vs)(hle:off+new.length<=cs.length):RC j M w (mg cs off new) (putRow cells off vs):=by
 obtain⟨p1,p2⟩:=A8 cells off vs;have h1:=h.1;have h2:=hn.1;refine⟨by rw[ua hle,p1]; exact h1,fun i c v hc hv=>?_⟩
 rw[pI hle] at hc;rw[p2] at hv
 have hi:i<cells.size:=by
  rcases bF i cells.size with hi|hi
  ·exact hi
  ·rw[aQ (by omega),gX hi] at hv; cases hv
 split at hc
 ·rename_i hp;rw[bh (by omega)] at hv
  exact hn.2 _ c v hc hv
 ·rename_i hp;rw[aQ (by omega)] at hv
  exact h.2 _ c v hc hv
def Tz{α β:Type}{g:α->Sem β}{f:α->β}:∀(l:List α),(∀x,x∈l->(g x).run P w = .ok (f x) w)->(l.mapM g).run P w = .ok (l.map f) w:=by
 intro l;induction l with
 |nil=>intro _; simp
 |cons y r ih =>
  intro h;simp[List.mapM_cons,h y (by simp),ih fun x hx=>h x (by simp[hx])]
def GF{fs:Array Field}(he:cm j M w br a)(hfs:∀f,f∈fs.toList->(P.info? f.type).isSome=true):∀ {parts:List (Nat×Operand)} {ps:List (Nat×Nat×gQ)} {cs cs':List ag} {cells:Array Value},
  zM P fs parts=some ps->kZ br cs ps=some cs'->RC j M w cs cells ->
  ∃cells',Instr.fill (fun i=>(fs.map fun f=>(f.offset,P.cellsOf f.type))[i]?) cells (parts.map fun p=>(p.1,a.eval p.2))=some cells'/\RC j M w cs' cells':=by
 intro parts;induction parts with
 |nil =>
  intro ps cs cs' cells h1 h2 h3;simp[zM] at h1; subst h1;simp[kZ] at h2; subst h2;exact⟨cells,rfl,h3⟩
 |cons p r ih =>
  intro ps cs cs' cells h1 h2 h3;obtain⟨i,y⟩:=p;simp only[zM] at h1;obtain⟨f,hf,h1⟩:=aZ h1;obtain⟨n,hn,h1⟩:=aZ h1;obtain⟨z,hz,h1⟩:=aZ h1;obtain⟨l,hl,h1⟩:=aZ h1;cases h1;simp only[kZ] at h2;obtain⟨new,je,h2⟩:=bg h2;split at h2
  ·rename_i hc;obtain⟨c1,c2⟩:=hc;have hrc:=uA (cU he hz) je;obtain⟨inf,hinf,hsz⟩:=C8 hn;have hco:P.cellsOf f.type=n:=by simp[Program.cellsOf,hinf,hsz]
   obtain⟨cells',e1,e2⟩:=ih hl h2 (h3.write (off:=f.offset) hrc (by omega))
   refine⟨cells',?_,e2⟩;have hs1:=hrc.1;have hs2:=h3.1;have hpl:(fs.map fun f=>(f.offset,P.cellsOf f.type))[i]?=some (f.offset,n):=by simp[hf,hco]
   simp only[aP,Instr.fill,hpl];rw[aQ (by simp; omega)]
   exact e1
  ·cases h2
def TK(hr:Rel j M w)(he:cm j M w br a){t:TypeId}{parts:Array (Nat×Operand)}{fs:Array Field}{i:TypeInfo}{zv:Value}{l:List ag}{ps:List (Nat×Nat×gQ)}(hop:o.op = .build t parts)
  (ht:P.underlying t=some (.struct fs)) (hi:P.info? t=some i) (hzv:i.zero=some zv) (hl:sf zv.cells.toList=some l) (hps:zM P fs parts.toList=some ps) (hfs:fs.all (fun f=>(P.info? f.type).isSome)=true)
  (h:dX C br M (.build l ps)=some x):∃v w',qi P o a w v w'/\iI j M w x v w':=by
 simp only[dX] at h;obtain⟨cs,hcs,h⟩:=bg h;cases h;obtain⟨h1,h2⟩:=pk (j:=j) (M:=M) (w:=w) hl
 have hfs':∀f,f∈fs.toList->(P.info? f.type).isSome=true:=fun f hf=>by
  have:=Array.all_eq_true'.1 hfs f (by simpa using hf)
  simpa using this
 obtain⟨cells',e1,e2⟩:=GF (P:=P) he hfs' hps hcs (cells:=zv.cells) ⟨by simpa using h1,fun i c v hc hv=>h2 i c v hc (by simpa using hv)⟩
 have hmap:(fs.mapM fun f=>do pure (f.offset,<-sizeOf f.type):Sem _).run P w = .ok (fs.map fun f=>(f.offset,P.cellsOf f.type)) w:=by
  rw[kH]
  have hm:=Tz (P:=P) (w:=w) (g:=fun f:Field=>(do pure (f.offset,<-sizeOf f.type):Sem _)) (f:=fun f:Field=>(f.offset,P.cellsOf f.type)) fs.toList fun f hf=>by
   obtain⟨inf,hinf⟩:=ct.1 (hfs' f hf);simp[sizeOf,oZ hinf,Program.cellsOf,hinf]
  rw[Sem.run_map,hm,<-Array.toList_map];simp only[Result.andThen_ok,Array.toArray_toList]
 refine⟨.agg cells',w,.inl ?_,.still hr (.agg e2.1 e2.2)⟩;have e1':Instr.fill (fun i=>(fs.map fun f=>(f.offset,P.cellsOf f.type))[i]?) zv.cells (parts.map fun p=>(p.1,a.eval p.2)).toList=some cells':=by simpa using e1
 simp only[execOp,hop,Instr.build,zeroValue,Sem.run_bind,oZ hi,Result.andThen_ok,hzv,Sem.run_pure,dK ht,hmap];simp only[e1',Sem.run_pure,Result.andThen_ok]
def A9{y:ag}{v:Value}(h:fY j M w y v)(hp:y.fS.plain=true):y.fS.cells.length=v.cells.size /\
  ∀(k:Nat)(c:ag)(u:Value),y.fS.cells[k]?=some c->v.cells[k]?=some u->fF w (ng j M w) c u:=by
 by_cases hag:∃cs,y = .agg cs
 ·obtain⟨cs,rfl⟩:=hag;obtain⟨vs,rfl,h1,h2⟩:=h.lU;simp only[ag.fS,ag.plain,ag.cells,Value.cells] at hp ⊢;refine⟨by simpa using h1,fun k c u hc hu=>?_⟩
  rw[bd,aR] at hc;obtain⟨c0,hc0,rfl⟩:=hc;refine zw (h2 k c0 u hc0 hu) ?_;have:=bH.1 hp c0.shut (cE.2 ⟨c0,aO hc0,rfl⟩);exact this
 ·have hs:y.fS=y.shut:=by cases y<;>first|rfl|exact absurd ⟨_,rfl⟩ hag
  have hpl:y.shut.plainCell=true:=by
   rw[hs] at hp;cases y<;>first|exact hp|exact absurd ⟨_,rfl⟩ hag
  have hr:=zw h hpl;have hc1:y.shut.cells=[y.shut]:=by cases y<;>first|rfl|exact absurd ⟨_,rfl⟩ hag
  have hv1:v.cells = #[v]:=by
   cases y<;>simp only[ag.shut,ag.plainCell,af] at hpl
   case bool=>have:=h.jg; subst this; rfl
   case int=>have:=h.fN; subst this; rfl
   case str=>have:=h.jX; subst this; rfl
   case slice=>obtain⟨A,cap,b,off,sz,vs,e,_⟩:=h.dN.dN; subst e; rfl
   case raw=>cases h with|plain h=>cases h; cases v<;>simp_all [Value.cells]
  rw[hs,hc1,hv1];refine⟨rfl,fun k c u hc hu=>?_⟩
  cases k with
  |zero=>simp at hc hu; subst hc; subst hu; exact hr
  |succ k=>simp at hc
def Pn{sz:Nat}:∀(l:List Value)(k:Nat)(cells:Array Value),(∀v,v∈l->v.cells.size=sz)->(k+l.length)*sz<=cells.size ->
  ∃cells',Instr.fill (fun i=>some (i*sz,sz)) cells ((l.zipIdx k).map fun x=>(x.2,x.1))=some cells'/\cells'.size=cells.size/\(∀p,p<k*sz->cells'[p]?=cells[p]?) /\
   ∀i v q,l[i]?=some v->q<sz->cells'[(k+i)*sz+q]?=v.cells[q]?:=by
 intro l;induction l with
 |nil=>intro k cells _ _; exact⟨cells,rfl,rfl,fun _ _=>rfl,fun i v q h=>by simp at h⟩
 |cons v r ih =>
  intro k cells hv hle;have hv0:=hv v (by simp)
  have hk1:(k+1)*sz=k*sz+sz:=lN k sz
  have hle':k*sz+sz<=cells.size:=by
   have:(k+1)*sz<=(k+(r.length+1))*sz:=bf _ (by omega)
   simp only[au] at hle;omega
  obtain⟨p1,p2⟩:=A8 cells (k*sz) v.cells;obtain⟨cells',e1,e2,e3,e4⟩:=ih (k+1) (putRow cells (k*sz) v.cells) (fun u hu=>hv u (by simp[hu])) (by rw[p1]; simp only[au] at hle; rw[show k+1+r.length=k+(r.length+1) by omega]; exact hle)
  refine⟨cells',?_,by rw[e2,p1],fun p hp=>?_,fun i u q hi hq=>?_⟩
  ·rw[List.zipIdx_cons,aP];simp only[Instr.fill];rw[aQ (by simp; omega)]
   exact e1
  ·rw[e3 p (by omega),p2,aQ (by omega)]
  ·cases i with
   |zero =>
    simp at hi; subst hi;rw[dg,e3 _ (by omega),p2,bh (by omega)]
    congr 1;omega
   |succ i =>
    have:=e4 i u q (by simpa using hi) hq
    rw[show k+1+i=k+(i+1) by omega] at this
    exact this
def DF:∀ {l:List (Nat×Operand)} {k:Nat} {zs:List gQ},Gl k l=some zs->∃ys:List Operand,l=(ys.zipIdx k).map (fun x=>(x.2,x.1))/\uz ys=some zs
 | [],k,zs,h=>by simp[Gl] at h; subst h; exact⟨[],rfl,rfl⟩
 |(i,y)::r,k,zs,h=>by
  simp only[Gl] at h;split at h
  ·rename_i hi;obtain⟨z,hz,h⟩:=aZ h;obtain⟨l,hl,h⟩:=aZ h;cases h;obtain⟨ys,e1,e2⟩:=DF hl;exact⟨y::ys,by rw[List.zipIdx_cons,aP,hi,e1],by simp[uz,hz,e2]⟩
  ·cases h
def Ee:∀ {zs:List gQ} {sz:Nat} {l:List ag},rV br sz zs=some l->l.length=zs.length /\
  ∀(i:Nat)(y:ag)(z:gQ),l[i]?=some y->zs[i]?=some z->y=(z.ev br).fS/\y.plain=true/\y.cells.length=sz
 | [],sz,l,h=>by simp[rV] at h; subst h; exact⟨rfl,fun i y z h=>by simp at h⟩
 |z::r,sz,l,h=>by
  simp only[rV] at h;split at h
  ·rename_i hc;obtain⟨l',hl,h⟩:=bg h;cases h;obtain⟨h1,h2⟩:=Ee hl;refine⟨by simp[h1],fun i y z' hy hz=>?_⟩
   cases i with
   |zero=>simp at hy hz; subst hy; subst hz; exact⟨rfl,hc.1,hc.2⟩
   |succ i=>exact h2 i y z' (by simpa using hy) (by simpa using hz)
  ·cases h
def pb(o:Obj):Quiet w { w with heap:=w.heap.push o }/\(∀b,b<w.heap.size->({ w with heap:=w.heap.push o }:World).heap[b]?=w.heap[b]?)/\({ w with heap:=w.heap.push o }:World).heap[w.heap.size]?=some o :=
 ⟨⟨by simp,rfl,rfl,rfl⟩,fun b hb=>by
  show(w.heap.push _)[b]?=_
  rw[fI,aQ (by omega)],by simp⟩
def Ed(he:cm j M w br a){t e:TypeId}{len:Nat}{parts:Array (Nat×Operand)}{i:TypeInfo}{zs:List gQ}{l:List ag}(hop:o.op = .buildSlice t len parts)(ht:P.underlying t=some (.slice e))
  (hi:P.info? e=some i) (hzs:Gl 0 parts.toList=some zs) (dR:zs.length=len) (hroom:len*i.size<=2 ^ 24) (hzero:(i.zero.map fun z=>z.cells.size)=some i.size)
  (hl:rV br i.size zs=some l):l.length=len/\wid l i.size/\∃cells':Array Value,cells'.size=len*i.size /\
   (execOp a.eval o).run P w = .ok (.value (.slice (some ⟨w.heap.size,0,none⟩) len len)) { w with heap:=w.heap.push (.cells cells' e (0,0)) } /\
   ∀(n:Nat)(y:ag)(k:Nat)(c:ag),l[n]?=some y->y.cells[k]?=some c->∃u,cells'[n*i.size+k]?=some u/\fF w (ng j M w) c u:=by
 obtain⟨ys,hys,hyz⟩:=DF hzs;obtain⟨l1,l2⟩:=Ee hl;obtain⟨y1,y2⟩:=tj he hyz
 obtain⟨zv,hzv,hzs'⟩:∃zv,i.zero=some zv/\zv.cells.size=i.size:=by
  cases hz:i.zero with
  |none=>rw[hz] at hzero; cases hzero
  |some zv=>rw[hz] at hzero; exact⟨zv,rfl,by simpa using hzero⟩
 have hvs:∀v,v∈ys.map a.eval->v.cells.size=i.size:=by
  intro v hv;obtain⟨y,hy,rfl⟩:=cE.1 hv;obtain⟨p,hp,rfl⟩:=jK hy;have hpz:p<zs.length:=by omega
  have hpl:p<l.length:=by omega
  have hrep:=y2 p _ _ (ai hpz) (ai hp);obtain⟨e1,e2,e3⟩:=l2 p _ _ (ai hpl) (ai hpz);have:=(A9 hrep (by rw[<-e1]; exact e2)).1
  rw[<-e1] at this;omega
 let zero:Array Value:=if len*i.size=0 then #[] else zv.cells
 let cells0:Array Value:=(Array.range (len*i.size)).map (zero[· % zero.size]!)
 obtain⟨cells',f1,f2,f3,f4⟩:=Pn (sz:=i.size) (ys.map a.eval) 0 cells0 hvs (by simp[cells0,<-dR,y1])
 have hfill:Instr.fill (fun k=>some (k*i.size,i.size)) cells0 (parts.map fun p=>(p.1,a.eval p.2)).toList=some cells':=by
  have:(parts.map fun p=>(p.1,a.eval p.2)).toList=((ys.map a.eval).zipIdx 0).map fun x=>(x.2,x.1):=by
   rw[Array.toList_map,hys,jj,List.zipIdx_map,jj];rfl
  rw[this]; exact f1
 have hrun:(execOp a.eval o).run P w = .ok (.value (.slice (some ⟨w.heap.size,0,none⟩) len len)) { w with heap:=w.heap.push (.cells cells' e (0,0)) }:=by
  simp only[execOp,hop,Instr.buildSlice,Sem.run_bind,dK ht,Result.andThen_ok,ji (show pD P e=some i.size by simp[pD,hi]),aQ (show ¬len*i.size>2 ^ 24 by omega),Sem.run_pure]
  simp only[cells0] at hfill
  by_cases hc:len*i.size=0
  ·have hz:zero = #[]:=bh hc;rw[hz] at hfill;rw[bh hc];simp only[Sem.run_bind,Sem.run_pure,Result.andThen_ok,hfill];simp[newRow]
  ·have hz:zero=zv.cells:=aQ hc;rw[hz] at hfill;rw[aQ hc];simp only[zeroValue,Sem.run_bind,oZ hi,Result.andThen_ok,hzv,Sem.run_pure,hfill];simp[newRow]
 have hel:∀(n:Nat)(y:ag)(k:Nat)(c:ag),l[n]?=some y->y.cells[k]?=some c->∃u,cells'[n*i.size+k]?=some u/\fF w (ng j M w) c u:=by
  intro n y k c hn hk;have hnl:=aJ hn;have hz:=ai (show n<zs.length by omega)
  have hy:=ai (show n<ys.length by omega)
  obtain⟨e1,e2,e3⟩:=l2 n y _ hn hz;have hrep:=y2 n _ _ hz hy;obtain⟨s1,s2⟩:=A9 hrep (by rw[<-e1]; exact e2)
  rw[<-e1] at s1 s2;have hkl:=aJ hk;have hu:=a8 (show k<(a.eval ys[n]).cells.size by omega)
  have f:=f4 n (a.eval ys[n]) k (by simp[hy]) (by omega)
  rw[aK] at f;exact⟨_,f.trans hu,s2 k c _ hk hu⟩
 refine⟨by omega,fun y hy=>?_,cells',by first|(simp[f2,cells0])|(simp[f3,cells0]),hrun,hel⟩
 obtain⟨p,hp,rfl⟩:=jK hy;exact(l2 p _ _ (ai hp) (ai (by omega))).2.2
def Ls(hr:Rel j M w)(he:cm j M w br a){t e:TypeId}{len:Nat}{parts:Array (Nat×Operand)}{i:TypeInfo}{zs:List gQ}(hop:o.op = .buildSlice t len parts)(ht:P.underlying t=some (.slice e))
  (hi:P.info? e=some i) (hzs:Gl 0 parts.toList=some zs) (dR:zs.length=len) (hroom:len*i.size<=2 ^ 24) (hzero:(i.zero.map fun z=>z.cells.size)=some i.size)
  (h:dX C br M (.lits i.size zs)=some x):∃v w',qi P o a w v w'/\iI j M w x v w':=by
 simp only[dX] at h;obtain⟨l,hl,h⟩:=bg h;obtain⟨hll,hwd,cells',_,hrun,hel⟩:=Ed (w:=w) he hop ht hi hzs dR hroom hzero hl;obtain⟨q,hb,je⟩:=pb (w:=w) (.cells cells' e (0,0));refine⟨_,_,.inl hrun,?_⟩;have ext:Ext j M w j M { w with heap:=w.heap.push (.cells cells' e (0,0)) }:=Ext.grow q.size rfl rfl rfl hb
 have rel:Rel j M { w with heap:=w.heap.push (.cells cells' e (0,0)) }:=hr.grow q.size rfl rfl rfl hb
 have key:fF { w with heap:=w.heap.push (.cells cells' e (0,0)) } (ng j M { w with heap:=w.heap.push (.cells cells' e (0,0)) }) (.slice .sh l) (.slice (some ⟨w.heap.size,0,none⟩) len len):=by
  refine .slice l _ _ _ w.heap.size 0 i.size (fun p=>(cells'[p]?).getD undef) hll.symm (aC _) (fun _=>rfl) hwd (fun n y k c hn hk=>?_) (fun n y k c hn hk=>?_)
  ·obtain⟨u,hu,_⟩:=hel n y k c hn hk;refine⟨?_,by simp,fun id hid hj=>?_,fun hx=>absurd (hr.zC _ _ hx) (ij _)⟩
   ·simp only[World.cell?,je,aK,hu];rfl
   ·have:=hr.lt id _ hid hj;omega
  ·obtain⟨u,hu,hru⟩:=hel n y k c hn hk;rw[hu];exact hru.mono ext.ia
 injection h with h
 subst h;cases l with
 |nil =>
  have:len=0:=by simpa using hll.symm
  subst this;exact⟨j,rel,ext,.c0 _⟩
 |cons y r=>exact⟨j,rel,ext,.plain key⟩
def TT(hr:Rel j M w)(he:cm j M w br a){t e:TypeId}{len:Nat}{parts:Array (Nat×Operand)}{i:TypeInfo}{zs:List gQ}(hop:o.op = .buildSlice t len parts)(ht:P.underlying t=some (.slice e))
  (hi:P.info? e=some i) (hzs:Gl 0 parts.toList=some zs) (dR:zs.length=len) (hroom:len*i.size<=2 ^ 24) (hzero:(i.zero.map fun z=>z.cells.size)=some i.size)
  (h:dX C br M (.CD i.size zs)=some x):∃v w',qi P o a w v w'/\iI j M w x v w':=by
 simp only[dX] at h;obtain⟨l,hl,h⟩:=bg h;cases h;obtain⟨hll,hwd,cells',hcs,hrun,hel⟩:=Ed (w:=w) he hop ht hi hzs dR hroom hzero hl;obtain⟨q,hb,je⟩:=pb (w:=w) (.cells cells' e (0,0));have hob:∀b,some w.heap.size=some b->w.heap.size<=b/\b<({ w with heap:=w.heap.push (.cells cells' e (0,0)) }:World).heap.size:=fun b h=>by cases h; simp
 have ext:Ext j M w (gy j M.length (some w.heap.size)) (M++[.tick i.size l.length]) { w with heap:=w.heap.push (.cells cells' e (0,0)) }:=Ext.push (fun b hb=>(hob b hb).1) q hb
 refine⟨_,_,.inl hrun,gy j M.length (some w.heap.size),hr.push hob q hb (fun h=>by cases h) (fun sz n b _ hb=>by cases hb; exact⟨cells',e,je⟩),ext,?_⟩
 refine .own (sz:=i.size) (n:=l.length) (by simp) (aC _) ?_ fun _ => .inr ⟨w.heap.size,len,cells',e,by simp[gy],by rw[hll],je,by omega,by omega⟩
 refine .slice l _ _ _ w.heap.size 0 i.size (fun p=>(cells'[p]?).getD undef) hll.symm (aC _) (fun _=>rfl) hwd (fun n y k c hn hk=>?_) (fun n y k c hn hk=>?_)
 ·obtain⟨u,hu,_⟩:=hel n y k c hn hk;have hk':k<i.size:=by rw[<-hwd y (aO hn)]; exact aJ hk
  refine⟨?_,by simp,fun id hid hj=>?_,fun hx=>absurd (hr.zC _ _ (by rw[<-ext.X]; exact hx)) (ij _)⟩
  ·simp only[World.cell?,je,aK,hu];rfl
  ·have hid':id=M.length:=by
    rcases bF id M.length with h|h
    ·rw[show gy j M.length (some w.heap.size) id=j id by simp[gy,gI h]] at hj
     exact absurd (hr.lt id _ h hj) (ij _)
    ·simp at hid; omega
   subst hid';refine⟨i.size,l.length,by simp,?_⟩
   have:=bf i.size (show n+1<=l.length from aJ hn)
   rw[bL] at this;omega
 ·obtain⟨u,hu,hru⟩:=hel n y k c hn hk;rw[hu];exact hru.mono ext.ia
end
def fY.BX{j:J}{M:aH}{w:World}{xs:List ag}{v:Value}(h:fY j M w (.slice .c0 xs) v):∃A,v = .slice A 0 0:=by
 cases h with
 |plain h=>cases h
 |c0 A=>simp
theorem fY.YQ{j:J}{M:aH}{w:World}{k:Nat}{xs:List ag}{v:Value}(h:fY j M w (.slice (.own k) xs) v) :
  ∃sz n,M[k]?=some (.tick sz n)/\xs.length<=n/\fF w (ng j M w) (.slice .sh xs) v/\(xs.length=n->F5 j w k sz n v):=by
 cases h with
 |plain h=>cases h
 |own hk hn h ht=>grind
theorem DV(n:Nat):∀(r c:Nat),c<=2*n+1000->Builtin.growBy n r c<=2*n+1000
 |0,c,h=>h
 |r+1,c,h=>by
  unfold Builtin.growBy;split
  ·omega
  ·exact DV n r _ (by omega)
theorem CL{n c:Nat}(h:c<n):Builtin.nextslicecap n c<=2*n+1000:=by
 grind [Builtin.nextslicecap,DV]
def fF.one{w:World}{ia:Nat->Nat->Prop}{c:ag}{v:Value}(h:fF w ia c v):v.oneCell'=true:=by
 cases h<;>first|rfl|omega
section
variable {P:Program} {C:eB} {o:Oper} {br:Env} {M:aH} {j:J} {w:World} {a:Act} {x:ag×aH}
theorem DL{ia:Nat->Nat->Prop}{xs:List ag}{v:Value}{size:Nat}(hx:fF w ia (.slice .sh xs) v)(hw:wid xs size)(hpos:0<size) :
  ∃u:Nat->Value,(∀w':World,w'.heap=w.heap->(Builtin.firstCells size xs.length v).run P w' = .ok (((List.range (xs.length*size)).map u).toArray) w') /\
   (∀(i:Nat)(y:ag)(k:Nat)(c:ag),xs[i]?=some y->y.cells[k]?=some c->fF w ia c (u (i*size+k))) /\
   ∀b,(∃n cap,v = .slice (some ⟨b,0,none⟩) n cap)->∀p,p<xs.length*size->w.cell? ⟨b,p,none⟩=some (u p):=by
 obtain⟨A,cap,b,off,sz,vs,hv,hc,ha,hz,hs,hr⟩:=hx.dN
 by_cases hne:xs=[]
 ·subst hne;rw[hv];cases A<;>simp_all [Builtin.firstCells,loadCells,loadCellsFrom]
 ·have hsz:sz=size:=by
   obtain⟨y,r,rfl⟩:=dV hne;rw[<-hz y (by simp),hw y (by simp)]
  subst hsz;have hA:=ha hne;subst hA
  have hcell:∀p,p<xs.length*sz->w.cell? ⟨b,off+p,none⟩=some (vs p):=by
   intro p hp;have hd:p / sz<xs.length:=(ki hpos).2 hp;have hm:p % sz<sz:=Nat.mod_lt _ hpos;have hy:=ai hd;have hcl:=hw _ (iV hd);have:=(hs (p / sz) _ (p % sz) _ hy (ai (by omega))).1
   rw[Nat.div_add_mod'] at this;omega
  refine⟨vs,fun w' hw'=>?_,hr,fun b' hb' p hp=>?_⟩
  ·rw[hv]
   have hc':∀p,p<xs.length*sz->w'.cell? ⟨b,off+p,none⟩=some (vs p):=fun p hp=>by
    grind [World.cell?]
   exact oW (P:=P) b off (xs.length*sz) vs hc'
  grind
theorem fF.join{w':World}{saf':Nat->Nat->Prop}{xs ys:List ag}{size:Nat}(hwx:wid xs size)(hwy:wid ys size)(hpos:0<size){ux uy:Nat->Value}
  (hx:∀(i:Nat)(y:ag)(k:Nat)(c:ag),xs[i]?=some y->y.cells[k]?=some c->fF w' saf' c (ux (i*size+k)))
  (hy:∀(i:Nat)(y:ag)(k:Nat)(c:ag),ys[i]?=some y->y.cells[k]?=some c->fF w' saf' c (uy (i*size+k)))
  {b:Nat} {arr:Array Value} {t:TypeId} (harr:w'.heap[b]?=some (.cells arr t (0,0))) (h1:∀p,p<xs.length*size->arr[p]?=some (ux p)) (h2:∀p,p<ys.length*size->arr[xs.length*size+p]?=some (uy p))
  (hs:∀p,p<(xs.length+ys.length)*size->saf' b p) {cap:Nat} (hc:xs.length+ys.length<=cap):fF w' saf' (.slice .sh (xs++ys)) (.slice (some ⟨b,0,none⟩) (xs.length+ys.length) cap):=by
 have cn:∀(i k n:Nat),i<n->k<size->i*size+k<n*size:=by
  intro i k n hi hk;have:(i+1)*size<=n*size:=bf _ hi;rw[lN] at this;omega
 have cas:∀(i:Nat)(y:ag),(xs++ys)[i]?=some y->(i<xs.length/\xs[i]?=some y)\/(∃i',i=xs.length+i'/\ys[i']?=some y):=by
  grind
 refine .slice _ _ _ _ b 0 size (fun p=>if p<xs.length*size then ux p else uy (p-xs.length*size)) (by simp) hc (fun _=>rfl) (fun y hy'=>?_) (fun i y k c hi hk=>?_) (fun i y k c hi hk=>?_)
 ·rcases bB.1 hy' with h|h
  ·exact hwx y h
  ·exact hwy y h
 ·have hkl:=aJ hk;rw[aK];rcases cas i y hi with ⟨hil,hxi⟩|⟨i',rfl,hyi⟩
  ·have hk':k<size:=by rw[<-hwx y (aO hxi)]; omega
   have hp:=cn i k _ hil hk';refine⟨?_,hs _ (cn i k _ (by omega) hk')⟩
   rw[bh hp,<-h1 _ hp];simp[World.cell?,harr]
  ·have hk':k<size:=by rw[<-hwy y (aO hyi)]; exact hkl
   have hil:=aJ hyi;have hp:=cn i' k _ hil hk';refine⟨?_,hs _ (cn _ k _ (by omega) hk')⟩
   have he:(xs.length+i')*size+k=xs.length*size+(i'*size+k):=by rw[bL]; omega
   rw[he,aQ (by simp),iz,<-h2 _ hp]
   simp[World.cell?,harr]
 ·have hkl:=aJ hk;rcases cas i y hi with ⟨hil,hxi⟩|⟨i',rfl,hyi⟩
  ·have hk':k<size:=by rw[<-hwx y (aO hxi)]; exact hkl
   rw[bh (cn i k _ hil hk')];exact hx i y k c hxi hk
  ·have he:(xs.length+i')*size+k=xs.length*size+(i'*size+k):=by rw[bL]; omega
   rw[he,aQ (by simp),iz]
   grind
theorem sV{t t' e:TypeId}{d':TypeDesc}{v':Value}{i:TypeInfo}{zv:Value}(hs:P.underlying t=some (.slice e))(hs':P.underlying t'=some d')(hd':∀k,d' ≠ .int k)(hi:P.info? e=some i)(hz:i.zero=some zv)(hb0:0<i.bytes)(hb1:i.bytes<=2 ^ 20)
  (ty:TypeId) {bQ:Option Addr} {n cap m:Nat} {uo new:Array Value} (dR:∀w':World,(Builtin.lenOf v').run P w' = .ok m w')
  (hold:∀w':World,w'.heap=w.heap->(Builtin.firstCells i.size n (.slice bQ n cap)).run P w' = .ok uo w') (je:∀w':World,w'.heap=w.heap->(Builtin.firstCells i.size m v').run P w' = .ok new w')
  (hroom:(n+m)*i.bytes<=2 ^ 44) :
  (n+m<=cap->∀w',(match bQ with|some ad=>(storeCells (ad.add (n*i.size)) new.toList).run P w = .ok () w'|none=>w'=w)->(Builtin.append_ #[t,t'] ty #[.slice bQ n cap,v']).run P w = .ok (.slice bQ (n+m) cap) w') /\
  (cap<n+m->∃newCap rest,n+m<=newCap/\rest.size=(newCap-(n+m))*zv.cells.size /\
   (Builtin.append_ #[t,t'] ty #[.slice bQ n cap,v']).run P w = .ok (.slice (some ⟨w.heap.size,0,none⟩) (n+m) newCap) { w with heap:=w.heap.push (.cells (uo++new++rest) e (0,0)),drawn:=w.drawn+1 }):=by
 have hsz:(sizeOf e).run P w = .ok i.size w:=ji (by grind [pD])
 refine⟨fun hle w' hst=>?_,fun cn=>?_⟩
 ·have h1:=je w rfl;unfold Builtin.append_;simp only[List.getElem?_toArray,eL,eb,Sem.run_bind,dK hs,dK hs',Result.andThen_ok,hsz,Sem.run_pure];simp only[af,az,dR,Result.andThen_ok,ft,aG,bh hle,h1,Sem.run_bind];cases bQ with
  |none=>simp_all
  |some ad=>simp_all
 ·have hcapb:¬Builtin.nextslicecap (n+m) cap*i.bytes>2 ^ 48:=by
   have h1:=CL cn;have h2:Builtin.nextslicecap (n+m) cap*i.bytes<=(2*(n+m)+1000)*i.bytes:=bf _ h1
   grind
  let q:Question := .appendCap (n+m) cap e
  refine⟨q.cut (w.tape w.drawn q),Builtin.zeroCells zv.cells (q.cut (w.tape w.drawn q)-(n+m)),by grind [Question.cut],by simp[Builtin.zeroCells],?_⟩
  have h1:=hold w.drew rfl;have h2:=je w.drew rfl;have hne:i.bytes≠0:=by omega
  have hqf:q.forced=false:=rfl;unfold Builtin.append_;simp only[List.getElem?_toArray,eL,eb,Sem.run_bind,dK hs,dK hs',Result.andThen_ok,hsz,Sem.run_pure];simp only[af,az,dR,Result.andThen_ok,ft,aG,aQ (Nat.not_le.2 cn),Sem.run_bind];simp[oZ hi,hne,hcapb,h1,h2,zeroValue,hz,newRow,q,Question.forced];rfl
theorem Gc(hr:Rel j M w){c:Call}{y y':Operand}{t t' e:TypeId}{d':TypeDesc}{i:TypeInfo}{zv:Value}(hop:o.op = .call c)(hb:c.callee = .builtin .append)(ha:c.args.toList=[y,y'])
  (hat:c.argTypes = #[t,t']) (hs:P.underlying t=some (.slice e)) (hs':P.underlying t'=some d') (hd':∀k,d' ≠ .int k) (hi:P.info? e=some i) (hz:i.zero=some zv) (hzs:zv.cells.size=i.size) (hpos:0<i.size) (hb0:0<i.bytes) (hb1:i.bytes<=2 ^ 20)
  {tk:Tk} {xs ys:List ag} (r1:fY j M w (.slice tk xs) (a.eval y)) (dR:∀w':World,(Builtin.lenOf (a.eval y')).run P w' = .ok ys.length w') {uy:Nat->Value}
  (fy1:∀w':World,w'.heap=w.heap->(Builtin.firstCells i.size ys.length (a.eval y')).run P w' = .ok (((List.range (ys.length*i.size)).map uy).toArray) w')
  (fy2:∀(q:Nat)(y:ag)(k:Nat)(c:ag),ys[q]?=some y->y.cells[k]?=some c->fF w (ng j M w) c (uy (q*i.size+k)))
  (h:cq (cu (xs.length+ys.length) i.bytes/\wid xs i.size/\wid ys i.size) (
    match tk with
    | .c0=>match xs with|[]=>some (.slice (.own M.length) ys,M++[.tick i.size ys.length])|_=>none
    | .own k=>match nth M k with
     |some (.tick sz' n)=>cq (sz'=i.size/\n=xs.length) (some (.slice (.own k) (xs++ys),jk M k (.tick i.size (xs.length+ys.length))))
     |_=>none
    | .sh=>none)=some x):∃v w' j',qi P o a w v w'/\Rel j' x.2 w'/\Ext j M w j' x.2 w'/\fY j' x.2 w' x.1 v/\(ys=[]->v=a.eval y/\∀k,tk = .own k->j'=j)/\∀k b',tk = .own k->j' k=some b'->j k=some b'\/∃vs,w'.heap[b']?=some (.cells vs e (0,0)):=by
 obtain⟨⟨hroom,hwx,hwy⟩,h9⟩:=da h;clear h;have h:=h9;clear h9;have p1:=r1.dN;obtain⟨ux,fx1,fx2,fx3⟩:=DL (P:=P) p1 hwx hpos;obtain⟨bQ,cap,_,_,_,_,hv,hcap,_⟩:=p1.dN;have ha':c.args = #[y,y']:=by rw[<-ha]
 have hexec:∀r,(Builtin.append_ #[t,t'] o.type #[a.eval y,a.eval y']).run P w=r->(execOp a.eval o).run P w=r.andThen fun v w' => .ok (.value v) w':=by
  intro r hr';simp[execOp,hop,resolve,hb,invoke,builtin,ha',hat,hr']
 rw[hv] at fx1;obtain⟨A1,A2⟩:=sV (P:=P) (w:=w) hs hs' hd' hi hz hb0 hb1 o.type (bQ:=bQ) (n:=xs.length) (cap:=cap) (m:=ys.length) dR fx1 fy1 hroom;rw[<-hv] at A1 A2
 -- nothing is appended
 have nil:ys=[]->∃v,(execOp a.eval o).run P w = .ok (.value v) w/\v=a.eval y:=by
  intro hy;subst hy;refine⟨_,?_,rfl⟩
  have:=A1 (by simp; exact hcap) w (by
   cases bQ with
   |none=>rfl
   |some ad=>simp[storeCells])
  rw[hexec _ this];simp[hv]
 -- a new block
 have fresh:cap<xs.length+ys.length->∃newCap arr w',xs.length+ys.length<=newCap/\(execOp a.eval o).run P w = .ok (.value (.slice (some ⟨w.heap.size,0,none⟩) (xs.length+ys.length) newCap)) w' /\
   Quiet w w'/\(∀b,b<w.heap.size->w'.heap[b]?=w.heap[b]?)/\w'.heap[w.heap.size]?=some (.cells arr e (0,0))/\newCap*i.size<=arr.size /\
   (∀p,p<xs.length*i.size->arr[p]?=some (ux p))/\∀p,p<ys.length*i.size->arr[xs.length*i.size+p]?=some (uy p):=by
  intro cn;obtain⟨newCap,rest,h1,h2,h3⟩:=A2 cn;obtain⟨q,hbk,je⟩:=pb (w:=w) (.cells (((List.range (xs.length*i.size)).map ux).toArray++((List.range (ys.length*i.size)).map uy).toArray++rest) e (0,0));refine⟨newCap,_,{ w with heap:=w.heap.push (.cells (((List.range (xs.length*i.size)).map ux).toArray++((List.range (ys.length*i.size)).map uy).toArray++rest) e (0,0)),drawn:=w.drawn+1 },h1,(hexec _ h3).trans rfl,⟨q.size,rfl,rfl,rfl⟩,hbk,je,?_,fun p hp=>?_,fun p hp=>?_⟩
  ·simp only[fP,cR,fT,List.length_range,h2,hzs];rw[<-bL,<-bL];exact bf _ (by omega)
  ·rw[Array.append_assoc,cj (by simpa using hp)]
   simp[hp]
  ·rw[Array.append_assoc,Array.getElem?_append_right (by simp),cj (by simp; omega)]
   simp[hp]
 split at h
 ·-- c0
  split at h
  ·cases h;simp only[av,aK] at *
   have hc0:cap=0:=by
    obtain⟨A',hA'⟩:=r1.BX;rw[hv] at hA';injection hA'
   by_cases hy:ys=[]
   ·subst hy;obtain⟨v,h1,h2⟩:=nil rfl;have q:Quiet w w:=⟨aC _,rfl,rfl,rfl⟩;refine⟨v,w,gy j M.length none,.inl h1,hr.push (ob:=none) (fun b h=>by cases h) q (fun _ _=>rfl) (fun h=>by cases h) (fun sz n b h h'=>by cases h'),Ext.push (fun b h=>by cases h) q (fun _ _=>rfl),?_,fun _=>⟨h2,fun _ h=>by cases h⟩,fun _ _ h=>by cases h⟩
    rw[h2,hv,hc0];exact .own (sz:=i.size) (n:=0) (by simp) (by simp) (fF.nil _ _ _) fun _ => .inl ⟨by simp[gy],rfl,bQ,rfl⟩
   ·have hyl:0<ys.length:=gk.2 hy;obtain⟨newCap,arr,w',g1,g2,g3,g4,g5,g6,g7,g8⟩:=fresh (by omega)
    have hob:∀b,some w.heap.size=some b->w.heap.size<=b/\b<w'.heap.size:=fun b hb=>by
     cases hb; exact⟨aC _,lt_of_block g5⟩
    have ext:Ext j M w (gy j M.length (some w.heap.size)) (M++[.tick i.size ys.length]) w':=Ext.push (fun b hb=>(hob b hb).1) g3 g4
    refine⟨_,w',gy j M.length (some w.heap.size),.inl g2,hr.push hob g3 g4 (fun h=>by cases h) (fun sz n b _ hb=>by grind),ext,?_,fun h=>absurd h hy,fun _ _ h=>by cases h⟩
    have hsaf:∀p,p<(0+ys.length)*i.size->ng (gy j M.length (some w.heap.size)) (M++[.tick i.size ys.length]) w' w.heap.size p:=by
     intro p hp;refine⟨lt_of_block g5,fun id hid hj=>?_,fun hx=>absurd (hr.zC _ _ hx) (ij _)⟩
     by_cases hid':id=M.length
     ·subst hid'; exact⟨i.size,ys.length,by simp,by simpa using hp⟩
     ·have:=hr.lt id w.heap.size (by simp at hid; omega) (by simpa[gy,hid'] using hj)
      omega
    have hj:=fF.join (xs:=[]) (ys:=ys) (w':=w') hwx hwy hpos (ux:=ux) (uy:=uy) (fun i y k c h=>by simp at h) (fun i y k c h1 h2=>(fy2 i y k c h1 h2).mono ext.ia) g5 (fun p hp=>by simp at hp) (fun p hp=>by simpa using g8 p hp) hsaf (cap:=newCap) (by simpa using g1)
    simp only[aW,av,aK] at hj;exact .own (sz:=i.size) (n:=ys.length) (by simp) (aC _) hj fun _ => .inr ⟨w.heap.size,newCap,arr,e,by simp[gy],rfl,g5,g6,g1⟩
  ·cases h
 ·-- own
  rename_i k;rw[fE] at h;split at h
  ·rename_i sz' n' hMk;obtain⟨⟨e1,e2⟩,hx⟩:=da h;subst e1;subst e2;injection hx with hx
   subst hx;rw[gq];obtain⟨sz0,n0,hk,hn,hrp,ht⟩:=r1.YQ
   ·rw[hMk] at hk;injection hk with hk; injection hk with e1 e2
    subst e1; subst e2
    by_cases hy:ys=[]
    ·subst hy;obtain⟨v,h1,h2⟩:=nil rfl
     have hset:M.set k (.tick i.size (xs.length+([]:List ag).length))=M:=by
      apply dL
      grind
     rw[h2] at h1;rw[hset,cW];exact⟨a.eval y,w,j,.inl h1,hr,Ext.refl j M w,r1,fun _=>⟨rfl,fun _ _=>rfl⟩,fun _ _ _ h => .inl h⟩
    ·have hyl:0<ys.length:=gk.2 hy
     have moved:cap<xs.length+ys.length->∃v w' j',qi P o a w v w'/\Rel j' (M.set k (.tick i.size (xs.length+ys.length))) w'/\Ext j M w j' (M.set k (.tick i.size (xs.length+ys.length))) w'/\fY j' (M.set k (.tick i.size (xs.length+ys.length))) w' (.slice (.own k) (xs++ys)) v/\(ys=[]->v=a.eval y/\∀k',Tk.own k = .own k'->j'=j)/\∀k' b',Tk.own k = .own k'->j' k'=some b'->j k'=some b'\/∃vs,w'.heap[b']?=some (.cells vs e (0,0)):=by
      intro cn;obtain⟨newCap,arr,w',g1,g2,g3,g4,g5,g6,g7,g8⟩:=fresh cn;have ext:Ext j M w (gy j k (some w.heap.size)) (M.set k (.tick i.size (xs.length+ys.length))) w':=Ext.BG hMk g3 g4 (aC _) (by omega)
      refine⟨_,w',gy j k (some w.heap.size),.inl g2,Rel.BG hMk hr g3 g4 (aC _) g5 (by omega),ext,?_,fun h=>absurd h hy,fun k' b' hk' hb' => .inr ⟨arr,(by grind [gy])⟩⟩
      have hsaf:∀p,p<(xs.length+ys.length)*i.size->ng (gy j k (some w.heap.size)) (M.set k (.tick i.size (xs.length+ys.length))) w' w.heap.size p:=by
       intro p hp;refine⟨lt_of_block g5,fun id hid hj=>?_,fun hx=>absurd (hr.zC _ _ hx) (ij _)⟩
       by_cases hid':id=k
       ·subst hid'; exact⟨i.size,_,dJ (aJ hMk),hp⟩
       ·have:=hr.lt id w.heap.size (by simpa using hid) (by simpa[gy,hid'] using hj)
        omega
      have hj:=fF.join (w':=w') hwx hwy hpos (ux:=ux) (uy:=uy) (fun i y k c h1 h2=>(fx2 i y k c h1 h2).mono ext.ia) (fun i y k c h1 h2=>(fy2 i y k c h1 h2).mono ext.ia) g5 g7 g8 hsaf (cap:=newCap) g1
      exact .own (sz:=i.size) (n:=xs.length+ys.length) (dJ (aJ hMk)) (by simp) hj fun _ => .inr ⟨w.heap.size,newCap,arr,e,by simp[gy],rfl,g5,g6,g1⟩
     rcases ht rfl with ⟨_,hn0,A',hA'⟩|⟨b,cap0,vs,t0,hj,hv0,hw0,hsz0,hcap0⟩
     ·rw[hv] at hA';injection hA' with _ _ e3
      exact moved (by omega)
     ·have hvv:=hv.symm.trans hv0;injection hvv with e1 e2 e3
      subst e1; subst e3
      by_cases hfit:xs.length+ys.length<=cap
      ·have je:(((List.range (ys.length*i.size)).map uy).toArray).toList.length=ys.length*i.size:=by simp
       have hle:xs.length*i.size+ys.length*i.size<=vs.size:=by
        rw[<-bL];exact aV (bf _ hfit) hsz0
       have hone:∀v,v∈(((List.range (ys.length*i.size)).map uy).toArray).toList->v.oneCell'=true:=by
        intro v hv;simp only[cE,jb] at hv;obtain⟨p,hp,rfl⟩:=hv;have hd:p / i.size<ys.length:=(ki hpos).2 hp;have hm:p % i.size<i.size:=Nat.mod_lt _ hpos;have hcl:=hwy _ (iV hd);have:=fy2 (p / i.size) _ (p % i.size) _ (ai hd) (ai (by omega))
        rw[Nat.div_add_mod'] at this;exact this.one
       have hst:=mq (P:=P) (((List.range (ys.length*i.size)).map uy).toArray).toList w (xs.length*i.size) 0 vs hw0 (by rw[je]; omega) hone
       rw[dg] at hst;obtain⟨s1,s2,s3,s4,s5,vs',s6,s7,s8,s9⟩:=lj (((List.range (ys.length*i.size)).map uy).toArray).toList w (xs.length*i.size) vs hw0 (by rw[je]; omega)
       have hrun:=A1 hfit _ (by
        show(storeCells ((⟨b,0,none⟩:Addr).add (xs.length*i.size)) _).run P w=_
        rw[lk,aK];exact hst)
       have q:Quiet w (ot w b (xs.length*i.size) (((List.range (ys.length*i.size)).map uy).toArray).toList):=⟨by omega,s2,s3,s4⟩
       have hkeep:∀p,p<xs.length*i.size->vs'[p]?=vs[p]?:=fun p hp=>s8 p (.inl hp)
       have ext:Ext j M w j (M.set k (.tick i.size (xs.length+ys.length))) (ot w b (xs.length*i.size) (((List.range (ys.length*i.size)).map uy).toArray).toList) :=
        Ext.FN hMk hj hr q (fun b' hb' _=>s5 b' hb') hw0 s6 s7 hkeep (by omega)
       refine⟨_,_,j,.inl ((hexec _ hrun).trans rfl),Rel.FN hMk hj hr q (fun b' hb' _=>s5 b' hb') hw0 s6 s7 hkeep (by omega),ext,?_,fun h=>absurd h hy,fun _ _ _ h => .inl h⟩
       have hsaf:∀p,p<(xs.length+ys.length)*i.size->ng j (M.set k (.tick i.size (xs.length+ys.length))) (ot w b (xs.length*i.size) (((List.range (ys.length*i.size)).map uy).toArray).toList) b p:=by
        intro p hp;refine⟨lt_of_block s6,fun id hid hj'=>?_,hr.um k b (aJ hMk) hj p⟩
        have:id=k:=hr.inj id k b (by simpa using hid) (aJ hMk) hj' hj
        subst this;exact⟨i.size,_,dJ (aJ hMk),hp⟩
       have hjn:=fF.join hwx hwy hpos (ux:=ux) (uy:=uy) (fun i y k c h1 h2=>(fx2 i y k c h1 h2).mono ext.ia) (fun i y k c h1 h2=>(fy2 i y k c h1 h2).mono ext.ia) s6 (fun p hp=>by
        rw[hkeep p hp];have:=fx3 b ⟨_,_,hv⟩ p hp;simpa[World.cell?,hw0] using this) (fun p hp=>by
        rw[s9 p (by rw[je]; exact hp)]
        simp[hp]) hsaf (cap:=cap) hfit
       exact .own (sz:=i.size) (n:=xs.length+ys.length) (dJ (aJ hMk)) (by simp) hjn fun _ => .inr ⟨b,cap,vs',t0,hj,rfl,s6,by omega,hfit⟩
      ·exact moved (by omega)
  ·cases h
 ·cases h
theorem JW(hr:Rel j M w)(he:cm j M w br a){c:Call}{y y':Operand}{z z':gQ}{t t' e e':TypeId}{i:TypeInfo}{zv:Value}(hop:o.op = .call c)(hb:c.callee = .builtin .append)(ha:c.args.toList=[y,y'])
  (hat:c.argTypes = #[t,t']) (hs:P.underlying t=some (.slice e)) (hs':P.underlying t'=some (.slice e')) (hi:P.info? e=some i) (hz:i.zero=some zv) (hzs:zv.cells.size=i.size) (hpos:0<i.size) (hb0:0<i.bytes) (hb1:i.bytes<=2 ^ 20)
  (hzy:er y=some z) (hzy':er y'=some z') (h:dX C br M (.append i.size i.bytes z z')=some x) (hna:∀id ver sz lo hi,z.ev br ≠ .cN id ver sz lo hi):∃v w',qi P o a w v w'/\iI j M w x v w':=by
 simp[dX] at h;have r1:=cU he hzy;have r2:=cU he hzy';split at h
 ·rename_i tk xs tk' ys ez ez';obtain⟨⟨_,hwx,hwy⟩,_⟩:=da h;rw[ez] at r1;rw[ez'] at r2;have p2:=r2.dN;obtain⟨uy,fy1,fy2,_⟩:=DL p2 hwy hpos;obtain⟨A,cap',_,_,_,_,hv',_⟩:=p2.dN;obtain⟨v,w',j',q1,q2,q3,q4,_⟩:=Gc hr hop hb ha hat hs hs' (fun k h=>by cases h) hi hz hzs hpos hb0 hb1 r1 (fun w'=>by rw[hv']; rfl) fy1 fy2 h
  exact⟨v,w',q1,j',q2,q3,q4⟩
 ·grind
 grind
end
section
variable {P:Program} {C:eB} {o:Oper} {br:Env} {M:aH} {j:J} {w:World} {a:Act} {x:ag×aH}
def Jr {f:Field} {k:FK} (h:Pq P f=some k):f.name ≠ "_" /\ Bk P f.type=some false/\(match k with | .b=>P.underlying f.type=some .bool | .i=>∃q,P.underlying f.type=some (.int q) | .s=>P.underlying f.type=some .string):=by
 unfold Pq at h;split at h
 ·cases h
 ·rename_i hn;refine⟨hn,?_⟩
  split at h<;>first
   |(cases h; rename_i hu; exact⟨by simp[Bk,hu],by first|exact hu|exact⟨_,hu⟩⟩)
   |cases h
def Jm{d:Nat}{f:Field}{k:FK}(hf:Pq P f=some k){y z:ag}{u v:Value}(hu:fY j M w y u)(hv:fY j M w z v){e:Bool}(h:jW k y z=some e) :
  (Op.equalIn (d+1) f.type u v).run P w = .ok e w:=by
 have hk:=(Jr hf).2.2;unfold jW at h;split at h
 ·rename_i k1 a k2 b;obtain⟨q,hq⟩:=hk;split at h
  ·rename_i he;subst he;cases h;rw[hu.fN,hv.fN];exact run_equalIn_int w d f.type _ _ a b hq
  ·cases h
 ·rename_i a b;cases h;rw[hu.jX,hv.jX,run_equalIn_string w d f.type _ _ hk,uv,uv]
 ·rename_i a b;cases h;rw[hu.jg,hv.jg];exact run_equalIn_bool' w d f.type a b hk
 ·cases h
def yN{d:Nat}{cs ds:List ag}{us vs:Array Value}(hc:RC j M w cs us)(hd:RC j M w ds vs):∀ {l:List Field} {k:Nat} {ks:List FK} {e:Bool},AQ P k l=some ks->kl ks (cs.drop k) (ds.drop k)=some e ->
  (Op.eqFields (d+1) us vs l).run P w = .ok e w
 | [],k,ks,e,h1,h2=>by
  simp[AQ] at h1; subst h1;unfold kl at h2;split at h2<;>simp_all [Op.eqFields]
 |f::r,k,ks,e,h1,h2=>by
  simp only[AQ] at h1;split at h1
  ·rename_i hoff;obtain⟨q,hq,h1⟩:=aZ h1;obtain⟨qs,hqs,h1⟩:=aZ h1;cases h1
   have hk1:k<cs.length:=by
    rcases bF k cs.length with h|h
    ·exact h
    ·rw[iQ h] at h2; simp[kl] at h2
   have hk2:k<ds.length:=by
    rcases bF k ds.length with h|h
    ·exact h
    ·rw[iQ h] at h2;rw[df hk1] at h2;simp[kl] at h2
   rw[df hk1,df hk2] at h2;simp only[kl] at h2;obtain⟨e1,he1,h2⟩:=bg h2;obtain⟨e2,he2,h2⟩:=bg h2;cases h2;have hlu:k<us.size:=by have:=hc.1; omega
   have hlv:k<vs.size:=by have:=hd.1; omega
   have hu:=a8 hlu;have hv:=a8 hlv;have ih:=yN (d:=d) hc hd hqs he2;obtain⟨hn,hag,_⟩:=Jr hq;have p1:(part f.type us f.offset).run P w = .ok us[k] w:=by simp[part,kG hag,hoff,hu]
   have p2:(part f.type vs f.offset).run P w = .ok vs[k] w:=by simp[part,kG hag,hoff,hv]
   have p3:=Jm (d:=d) hq (hc.2 k _ _ (ai hk1) hu) (hd.2 k _ _ (ai hk2) hv) he1;simp only[Op.eqFields,bh hn,Sem.run_bind,p1,p2,p3,Result.andThen_ok];cases e1
   ·simp
   ·simpa using ih
  ·cases h1
def KD:∀ {l:List Field} {k:Nat} {ks:List FK},AQ P k l=some ks->∀f,f∈l->∃q,Pq P f=some q
 | [],_,_,_,f,hf=>by simp at hf
 |g::r,k,ks,h,f,hf=>by
  simp only[AQ] at h;split at h
  ·obtain⟨q,hq,h⟩:=aZ h;obtain⟨qs,hqs,h⟩:=aZ h;rcases bC.1 hf with rfl|hf
   ·exact⟨q,hq⟩
   ·exact KD hqs f hf
  ·cases h
def TM(hr:Rel j M w)(he:cm j M w br a){neg:Bool}{y y':Operand}{z z':gQ}{t t':TypeId}{fs:Array Field}{ks:List FK}(hop:o.op = .binOp (if neg then .neq else .eql) t y y' t')(ht:P.underlying t=some (.struct fs))
  (hst:P.stoodInHeld t=false) (hks:AQ P 0 fs.toList=some ks) (hz:er y=some z) (hz':er y'=some z') (h:dX C br M (.Wc ks neg z z')=some x):∃v w',qi P o a w v w'/\iI j M w x v w':=by
 simp only[dX] at h;have h1:=cU he hz;have h2:=cU he hz';split at h
 ·rename_i cs ds ez ez';obtain⟨e,hee,h⟩:=bg h;cases h;rw[ez] at h1;rw[ez'] at h2;obtain⟨us,hus,hul,huc⟩:=h1.lU;obtain⟨vs,hvs,hvl,hvc⟩:=h2.lU;have hfs:P.fieldsOf t=fs:=by simp[Program.fieldsOf,ht]
  have heq:(Op.equal t (.agg us) (.agg vs)).run P w = .ok e w:=by
   unfold Op.equal;rw[show Op.maxDepth=9999+1 from rfl,run_equalIn_struct w 9999 t us vs (by rw[hfs]; exact ht) hst,hfs]
   exact yN (d:=9998) ⟨hul,huc⟩ ⟨hvl,hvc⟩ hks (by simpa using hee)
  have hgt:P.eqGuardType P.depth t=false:=by
   unfold Program.depth;rw[show 2*(P.types.size+Made.depth)+2=(2*(P.types.size+Made.depth)+1)+1 from rfl,Program.eqGuardType,ht]
   simp only;rw[Array.any_eq_false];intro i hi;obtain⟨q,hq⟩:=KD hks fs[i] (by simp)
   have:=(Jr hq).2.2;simp only[Program.eqGuardType];cases q<;>simp only at this
   ·obtain⟨_,hu⟩:=this; simp[hu]
   ·simp[this]
   ·simp[this]
  have hguard:∀op,(eqGuard op t y y' (.agg us) (.agg vs)).run P w = .ok () w:=by
   intro op;unfold eqGuard;cases op<;>simp[hgt]
  cases neg
  ·exact⟨.bool e,w,.inl (by simp[execOp,hop,hus,hvs,hguard,binOp,heq]),.still hr (.plain (.bool _))⟩
  ·exact⟨.bool (!e),w,.inl (by simp[execOp,hop,hus,hvs,hguard,binOp,heq]),.still hr (.plain (.bool _))⟩
 ·cases h
end
end
end
section
open Go Go.RowKit
variable [kf]
section
variable {j:J} {M:aH} {w w':World}
def An(hr:Rel j M w):∀n,∃j',Rel j' (M++List.replicate n dv.u6) w/\Ext j M w j' (M++List.replicate n dv.u6) w
 |0=>⟨j,by simpa using hr,by simpa using Ext.refl j M w⟩
 |n+1=>by
  obtain⟨j',h1,h2⟩:=An hr n;have q:Quiet w w:=⟨aC _,rfl,rfl,rfl⟩;refine⟨gy j' (M++List.replicate n dv.u6).length none,?_⟩;rw[mH,<-fm];exact⟨h1.push (ob:=none) (bx := .u6) (fun b h=>by cases h) q (fun _ _=>rfl) (fun h=>by cases h) (fun sz n b h h'=>by cases h'),h2.trans (Ext.push (fun b h=>by cases h) q (fun _ _=>rfl))⟩
def Ext.fill{p b:Nat}{cs:List ag}(hM:M[p]?=some .u6)(hob:w.heap.size<=b)(q:Quiet w w')(hb:∀b,b<w.heap.size->w'.heap[b]?=w.heap[b]?) :
  Ext j M w (gy j p (some b)) (M.set p (.cells cs)) w' where
 len:=by simp
 size:=q.size
 os:=q.os
 tape:=q.tape
 output:=q.output
 X:=rfl
 fix:=fun i bx h hf=>by
  have e:p≠i:=by rintro rfl; rw[hM] at h; cases h; cases hf
  exact⟨by simp[gy,eY e],bx,by rw[cI e]; exact h,rfl⟩
 tick:=fun i sz n h=>by
  have e:p≠i:=by rintro rfl; rw[hM] at h; cases h
  exact⟨n,aC _,by rw[cI e]; exact h,fun _=>⟨by simp[gy,eY e],fun b vs t _ hv=>⟨vs,(hb b (lt_of_block hv)).trans hv,rfl⟩⟩⟩
 arr:=fun i sz v xs h=>by
  have e:p≠i:=by rintro rfl; rw[hM] at h; cases h
  exact .inr ⟨v,xs,by rw[cI e]; exact h,aC _,fun _=>⟨by simp[gy,eY e],rfl,fun b vs t _ hv=>⟨vs,(hb b (lt_of_block hv)).trans hv,rfl⟩⟩⟩
 tags:=fun b0 vs0 t0 fr0 h=>⟨vs0,fr0,(hb b0 (lt_of_block h)).trans h,rfl⟩
 ia:=fun b0 off h=>by
  refine⟨⟨bw h.1 q.size,fun id hid hj=>?_,h.3⟩,World.cell?_of_block (w:=w) (hb b0 h.1)⟩
  by_cases he:id=p
  ·have:b=b0:=by simpa[gy,he] using hj
   have:=h.1;omega
  ·rw[cI (eY he)];exact h.2 id (by simpa using hid) (by simpa[gy,he] using hj)
 uo:=fun b0 cn h=>by
  refine⟨hb b0 cn,fun i hi hj=>?_⟩
  by_cases he:i=p
  ·have:b=b0:=by simpa[gy,he] using hj
   omega
  ·exact h i (by simpa using hi) (by simpa[gy,he] using hj)
def Rel.fill(hr:Rel j M w){p b:Nat}{cs:List ag}(hM:M[p]?=some .u6)(hob:w.heap.size<=b)(hbl:b<w'.heap.size)(q:Quiet w w')(hb:∀b,b<w.heap.size->w'.heap[b]?=w.heap[b]?)
  (hbox:∀j' M',Ext j M w j' M' w'->Holds j' M' w' b (.cells cs)):Rel (gy j p (some b)) (M.set p (.cells cs)) w':=by
 have ext:Ext j M w (gy j p (some b)) (M.set p (.cells cs)) w':=Ext.fill hM hob q hb;have up:∀i,i≠p->gy j p (some b) i=j i:=fun i hi=>by simp[gy,hi]
 have hp:=aJ hM;refine⟨fun i i' b0 hi hi' h h'=>?_,fun i b0 hi h=>?_,fun i bx' h hf=>?_,fun i sz n b0 h hj=>?_,fun i sz ver xs h=>?_,fun i b0 hi h off hx=>?_,fun b off h=>bw (hr.zC b off h) q.size⟩
 ·simp only[fi] at hi hi'
  by_cases e:i=p<;>by_cases e':i'=p
  ·omega
  ·have h1:b=b0:=by simpa[gy,e] using h
   rw[up i' e'] at h';have:=hr.lt i' b0 hi' h';omega
  ·have h1:b=b0:=by simpa[gy,e'] using h'
   rw[up i e] at h;have:=hr.lt i b0 hi h;omega
  ·rw[up i e] at h;rw[up i' e'] at h';exact hr.inj i i' b0 hi hi' h h'
 ·simp only[fi] at hi
  by_cases e:i=p
  ·have h1:b=b0:=by simpa[gy,e] using h
   omega
  ·rw[up i e] at h;exact bw (hr.lt i b0 hi h) q.size
 ·by_cases e:i=p
  ·subst e;rw[dJ hp] at h;cases h;exact⟨b,by simp[gy],hbox _ _ ext⟩
  ·rw[cI (eY e)] at h;obtain⟨b0,h1,h2⟩:=hr.fix i bx' h hf;exact⟨b0,by rw[up i e]; exact h1,h2.mono ext (hb b0 (hr.lt i b0 (aJ h) h1))⟩
 ·by_cases e:i=p
  ·subst e; rw[dJ hp] at h; cases h
  ·rw[cI (eY e)] at h;rw[up i e] at hj;obtain⟨vs,t,h1⟩:=hr.tick i sz n b0 h hj;exact⟨vs,t,(hb b0 (lt_of_block h1)).trans h1⟩
 ·by_cases e:i=p
  ·subst e; rw[dJ hp] at h; cases h
  ·rw[cI (eY e)] at h;exact pn hr ext h (up i e) fun b0 h1=>hb b0 (hr.lt i b0 (aJ h) h1)
 ·simp only[fi] at hi
  by_cases e:i=p
  ·have h1:b=b0:=by simpa[gy,e] using h
   have h2:=hr.zC b0 off hx;omega
  ·rw[up i e] at h;exact hr.um i b0 hi h off hx
def Pm(hr:Rel j M w){p:Nat}(hM:M[p]?=some .u6){cs:List ag}{vs:Array Value}(hc:RC j M w cs vs)(t:TypeId) :
  iI j M w (.ptr p 0,M.set p (.cells cs)) (.pointer (some ⟨w.heap.size,0,none⟩)) { w with heap:=w.heap.push (.cells vs t (0,0)) }:=by
 have q:Quiet w { w with heap:=w.heap.push (.cells vs t (0,0)) }:=⟨by simp,rfl,rfl,rfl⟩
 have hb:∀b,b<w.heap.size->({ w with heap:=w.heap.push (.cells vs t (0,0)) }:World).heap[b]?=w.heap[b]?:=fun b hb=>by
  show(w.heap.push _)[b]?=_
  rw[fI,aQ (by omega)]
 have hn:({ w with heap:=w.heap.push (.cells vs t (0,0)) }:World).heap[w.heap.size]?=some (.cells vs t (0,0)):=by simp
 have hp:=aJ hM;exact⟨gy j p (some w.heap.size),hr.fill hM (aC _) (by simp) q hb (fun j' M' hx=>⟨vs,t,hn,hc.1,fun i c v h1 h2=>(hc.2 i c v h1 h2).mono hx⟩),Ext.fill hM (aC _) q hb,.ptr (by simpa using hp) ⟨cs,dJ hp⟩ (by simp[gy])⟩
end
variable {P:Program} {own:List Nat} {o:Oper}
def L6{l:List ag}{t:TypeId}(hop:o.op = .alloc t)(h:N5 P own o=some (.pq l)):∃i zv,P.info? t=some i/\i.zero=some zv/\sf zv.cells.toList=some l:=by
 simp only[N5,hop] at h;obtain⟨i,hi,h⟩:=aZ h;obtain⟨z,hz,h⟩:=aZ h;obtain⟨l',hl,h⟩:=aZ h;split at h
 ·split at h
  ·split at h
   ·obtain⟨n,hn,h⟩:=aZ h;cases h
   ·cases h
  ·injection h with h; cases h; exact⟨i,z,hi,hz,hl⟩
 ·injection h with h; cases h; exact⟨i,z,hi,hz,hl⟩
def L7{l:List ag}{t0:TypeId}(hop:o.op = .alloc t0)(h:N5 P own o=some (.pq l))(a:Act)(w:World):∃vs t,(∀j M w',RC j M w' l vs)/\qi P o a w (.pointer (some ⟨w.heap.size,0,none⟩)) { w with heap:=w.heap.push (.cells vs t (0,0)) }:=by
 obtain⟨i,zv,hi,hz,hl⟩:=L6 hop h;refine⟨zv.cells,t0,fun j M w'=>?_,.inl (by simp[execOp,hop,Instr.alloc,zeroValue,oZ hi,hz,newVar,newRow])⟩
 obtain⟨h1,h2⟩:=pk (j:=j) (M:=M) (w:=w') hl;exact⟨by simpa using h1,fun i c v hc hv=>h2 i c v hc (by simpa using hv)⟩
end
section
open Go Go.RowKit
variable [kf]
theorem yi{x:Nat}:∀(l a:List Nat),x∈j6 a l↔x∈a\/x∈l
 | [],a=>by simp[j6]
 |y::r,a=>by
  rw[j6,yi r]
  grind
theorem pS:∀(l a:List Nat),a.Nodup->(j6 a l).Nodup
 | [],a,h=>h
 |y::r,a,h=>by
  refine pS r _ ?_
  grind
def HC(M:aH)(l:List Nat):(reach M l).Nodup:=pS _ _ (pS _ _ (pS _ _ (pS _ _ oc)))
def Nc{M:aH}{l:List Nat}{x:Nat}(h:x∈l):x∈reach M l:=by
 simp_all [reach,ky,yi]
theorem Eh{M:aH}{x i:Nat}{b:dv}:∀ {l:List Nat},i∈l->M[i]?=some b->x∈b.ids->x∈pG M l
 | [],h,_,_=>by grind
 |k::r,h,hb,hx=>by
  rw[pG,bB];rcases bC.1 h with rfl|h
  ·grind [fE]
  ·exact .inr (Eh h hb hx)
theorem Mr{M:aH}{ids:List Nat}(h:ky M ids=ids){i x:Nat}{b:dv}(hi:i∈ids)(hb:M[i]?=some b)(hx:x∈b.ids):x∈ids:=by
 rw[<-h,ky,yi]
 grind [Eh]
theorem tf:∀ {ids:List Nat} {x:Nat},x∈ids->ids[hZ ids x]?=some x
 | [],_,h=>by grind
 |a::l,x,h=>by
  rw[hZ];split
  ·grind
  ·rcases bC.1 h with rfl|h
   ·omega
   ·simpa using tf h
def tQ{ids:List Nat}{x:Nat}(h:x∈ids):hZ ids x<ids.length:=aJ (tf h)
theorem Bx:∀ {ids:List Nat} {i x:Nat},ids.Nodup->ids[i]?=some x->hZ ids x=i
 | [],i,x,_,h=>by grind
 |a::l,i,x,hn,h=>by
  rw[hZ];have hn':=lr.1 hn;cases i with
  |zero=>grind
  |succ i =>
   have h':l[i]?=some x:=by grind
   rw[aQ (by grind),Bx hn'.2 h']
def Km{ids:List Nat}{x:Nat}(h:x∈ids):vN ids (hZ ids x)=x:=by rw[vN,fE,tf h]; rfl
def acm{ids:List Nat}{i x:Nat}(h:ids[i]?=some x):vN ids i=x:=by rw[vN,fE,h]; rfl
theorem CT{M:aH}{ρ:Nat->Nat}:∀ {l:List Nat} {B:aH},iU M ρ l=some B->B.length=l.length/\∀(i id:Nat),l[i]?=some id->∃b,M[id]?=some b/\b.flat=true/\B[i]?=some (b.pv ρ)
 | [],B,h=>by grind [iU]
 |k::r,B,h=>by
  simp[iU,fE] at h;split at h
  ·split at h
   ·obtain⟨l,hl,h⟩:=bg h;injection h with h; obtain⟨h1,h2⟩:=CT hl
    grind
   grind
  grind
theorem vt{ids:List Nat}:∀ {l:List Nat} {B M:aH},l.Nodup->l.length=B.length->(kR ids M l B).length=M.length/\(∀i,i∉l->(kR ids M l B)[i]?=M[i]?) /\
  ∀(i id:Nat)(b:dv),l[i]?=some id->id<M.length->B[i]?=some b->(kR ids M l B)[id]?=some (b.pv (vN ids))
 | [],B,M,_,_=>by simp[kR]
 |k::r,[],M,_,hl=>by simp at hl
 |k::r,b::B,M,hn,hl=>by
  rw[kR,gq];have hn':=lr.1 hn;obtain⟨h1,h2,h3⟩:=vt (ids:=ids) (B:=B) (M:=M.set k (b.pv (vN ids))) hn'.2 (by grind)
  grind
def LD(ρ:Nat->Nat)(b:dv):(b.pv ρ).tag=b.tag:=by cases b<;>rfl
def xj{ρ:Nat->Nat}{b:dv}(h:b.loose=true):b.pv ρ=b:=by cases b<;>first|rfl|cases h
structure Sub(j:J)(M:aH)(w:World)(ids:List Nat)(B:aH):Prop where
 nodup:ids.Nodup
 len:B.length=ids.length
 box:∀(i id:Nat),ids[i]?=some id->∃b,M[id]?=some b/\b.flat=true/\B[i]?=some (b.pv (hZ ids))
 closed:∀(i:Nat)(b:dv),i∈ids->M[i]?=some b->∀x,x∈b.ids->x∈ids
def down(j:J)(M:aH)(ids:List Nat):J:=⟨fun i=>match ids[i]? with|some id=>j id|none=>none,fun b off=>j.X b off\/∃id,id<M.length/\id∉ids/\j id=some b/\¬ ∃sz n,M[id]?=some (.tick sz n)/\off<n*sz⟩
section
variable {j:J} {M B:aH} {w:World} {ids:List Nat}
theorem Sub.at_(s:Sub j M w ids B){id:Nat}(h:id∈ids){b:dv}(hb:M[id]?=some b):B[hZ ids id]?=some (b.pv (hZ ids)):=by
 obtain⟨b',h1,_,h2⟩:=s.box _ _ (tf h)
 grind
theorem Sub.inv(s:Sub j M w ids B){i:Nat}{c:dv}(h:B[i]?=some c):∃id b,ids[i]?=some id/\M[id]?=some b/\b.flat=true/\c=b.pv (hZ ids):=by
 have hi:i<ids.length:=by rw[<-s.len]; grind
 obtain⟨b,h1,h2,h3⟩:=s.box i _ (ai hi)
 grind
theorem ma{id:Nat}(h:id∈ids):(down j M ids) (hZ ids id)=j id:=by grind [down,tf]
theorem pP{i b:Nat}(h:(down j M ids) i=some b):∃id,ids[i]?=some id/\j id=some b:=by
 grind [down]
def Sub.ia(s:Sub j M w ids B){b off:Nat}(h:ng j M w b off):ng (down j M ids) B w b off:=by
 refine⟨h.lt,fun i hi hj=>?_,fun hx=>?_⟩
 ·obtain⟨id,h1,h2⟩:=pP hj;obtain⟨bx,h3,_,h4⟩:=s.box i _ h1;obtain⟨sz,n,h5,h6⟩:=h.ids _ (aJ h3) h2;rw[h3] at h5; cases h5;exact⟨sz,n,h4,h6⟩
 ·rcases hx with hx|⟨id,h1,_,h2,h3⟩
  ·exact h.nx hx
  ·exact h3 (h.ids _ h1 h2)
theorem Sub.UH(s:Sub j M w ids B){x:ag}{v:Value}(h:fY j M w x v)(hf:x.DM=true)(hi:∀i,i∈x.ib->i∈ids):fY (down j M ids) B w (x.sx (hZ ids)) v:=by
 cases h with
 |plain h =>
  have:x.sx (hZ ids)=x:=by cases h<;>rfl
  rw[this];exact .plain (h.mono fun b off hs=>⟨s.ia hs,rfl⟩)
 |c0 A=>exact .c0 A
 | @own k xs v sz n hk hn hp ht =>
  have hki:k∈ids:=hi k (by simp[ag.ib])
  refine .own (sz:=sz) (n:=n) (s.at_ hki hk) hn (hp.mono fun b off hs=>⟨s.ia hs,rfl⟩) fun he=>?_
  rcases ht he with ⟨g1,g2,g3⟩|⟨b,cap,vs,t,g1,g2,g3,g4,g5⟩
  ·exact .inl ⟨by rw[ma hki]; omega,g2,g3⟩
  ·exact .inr ⟨b,cap,vs,t,by rw[ma hki]; exact g1,g2,g3,g4,g5⟩
 |agg=>cases hf
 |tuple=>cases hf
 | @ptr id off b hid hc hj =>
  have hki:id∈ids:=hi id (by simp[ag.ib])
  obtain⟨cs,hc⟩:=hc;exact .ptr (by rw[s.len]; exact tQ hki) ⟨_,s.at_ hki hc⟩ (by rw[ma hki]; omega)
 |iP h=>exact .iP fun k c hk=>⟨(h k c hk).1,s.ia (h k c hk).2.1,(h k c hk).2.2.mono fun b off hs=>⟨s.ia hs,rfl⟩⟩
 |func=>cases hf
 | @gP id b hc hj =>
  have hki:id∈ids:=hi id (by simp[ag.ib])
  obtain⟨ks,vs,hc⟩:=hc;exact .gP ⟨_,_,s.at_ hki hc⟩ (by rw[ma hki]; exact hj)
 | @jq id b hc hj =>
  have hki:id∈ids:=hi id (by simp[ag.ib])
  obtain⟨ks,vs,hc⟩:=hc;exact .jq ⟨_,_,s.at_ hki hc⟩ (by rw[ma hki]; omega)
 | @jE t id off b hc hj =>
  have hki:id∈ids:=hi id (by simp[ag.ib])
  obtain⟨cs,hc⟩:=hc;exact .jE ⟨_,s.at_ hki hc⟩ (by rw[ma hki]; exact hj)
 |pC hl hd=>exact .pC hl fun i c v h1 h2=>(hd i c v h1 h2).mono fun b off hs=>⟨s.ia hs,rfl⟩
 | @iL ks vs b es cl hb hfr hx hw hk hv hks hvs =>
  refine .iL hb (fun i _ he=>?_) (fun off hx'=>?_) hw hk hv (fun i k e h1 h2=>(hks i k e h1 h2).mono fun b off hs=>⟨s.ia hs,rfl⟩) (fun i k e h1 h2=>(hvs i k e h1 h2).mono fun b off hs=>⟨s.ia hs,rfl⟩)
  ·obtain⟨id,h1,h2⟩:=pP he;obtain⟨bx,h3,_⟩:=s.box _ _ h1
   grind
  ·rcases hx' with hx'|⟨id,h1,_,h2,_⟩
   ·exact hx off hx'
   grind
 | @cN id ver sz0 lo hi v h0 hid hM hv =>
  have hki:id∈ids:=hi id (by simp[ag.ib])
  have hb:=ai hid;have hat:=s.at_ hki hb;rw[xj (hM _ hb)] at hat;refine .cN h0 (by rw[s.len]; exact tQ hki) (fun bx hbx=>?_) fun sz v' xs h=>?_
  ·rw[hat] at hbx; exact hM bx (hb.trans hbx)
  ·rw[hat] at h;obtain⟨k1,k2⟩:=hv sz v' xs (hb.trans h)
   exact⟨k1,fun he=>by
    obtain⟨l0,l1,l2,⟨l3,l4,l5⟩|⟨b,cap,vs,t,l3,r⟩⟩:=k2 he
    ·exact⟨l0,l1,l2,.inl ⟨l3,by rw[ma hki]; omega,l5⟩⟩
    exact⟨l0,l1,l2,.inr ⟨b,cap,vs,t,by rw[ma hki]; omega,r⟩⟩⟩
 | @iH id ver i off v h0 hid hM hv =>
  have hki:id∈ids:=hi id (by simp[ag.ib])
  have hb:=ai hid;have hat:=s.at_ hki hb;rw[xj (hM _ hb)] at hat;refine .iH h0 (by rw[s.len]; exact tQ hki) (fun bx hbx=>?_) fun sz v' xs h=>?_
  ·rw[hat] at hbx; exact hM bx (hb.trans hbx)
  grind [ma]
 |any v=>exact .any v
theorem Sub.J4(s:Sub j M w ids B){x:ag}{v:Value}(h:fY j M w x v)(hf:x.uG=true)(hi:∀i,i∈x.ml->i∈ids):fY (down j M ids) B w (x.rN (hZ ids)) v:=by
 by_cases hfn:∃f caps,x = .func f caps
 ·obtain⟨f,caps,rfl⟩:=hfn;obtain⟨vs,rfl,hl,hc⟩:=h.rF;refine .func (by grind) fun i c u hci hu=>?_
  rw[bd,aR] at hci;obtain⟨c0,hc0,rfl⟩:=hci;have hm:=aO hc0;exact s.UH (hc i _ u hc0 hu) (bH.1 hf _ hm) fun q hq=>hi q (iX.2 ⟨c0,hm,hq⟩)
 ·have e1:x.rN (hZ ids)=x.sx (hZ ids):=by cases x<;>first|rfl|grind
  have e2:x.ml=x.ib:=by cases x<;>first|rfl|grind
  have e3:x.DM=true:=by cases x<;>first|rfl|exact absurd ⟨_,_,rfl⟩ hfn|cases hf
  rw[e1];exact s.UH h e3 (by rw[<-e2]; omega)
theorem Sub.rep(s:Sub j M w ids B){x:ag}{v:Value}(h:fY j M w x v)(hf:x.flat=true)(hi:∀i,i∈x.ids->i∈ids):fY (down j M ids) B w (x.pv (hZ ids)) v:=by
 by_cases hag:∃cs,x = .agg cs
 ·obtain⟨cs,rfl⟩:=hag;obtain⟨vs,rfl,hl,hc⟩:=h.lU;refine .agg (by grind) fun i c u hci hu=>?_
  rw[bd,aR] at hci;obtain⟨c0,hc0,rfl⟩:=hci;have hm:=aO hc0;exact s.J4 (hc i _ u hc0 hu) (bH.1 hf _ hm) fun q hq=>hi q (iX.2 ⟨c0,hm,hq⟩)
 ·have e1:x.pv (hZ ids)=x.rN (hZ ids):=by cases x<;>first|rfl|grind
  have e2:x.ids=x.ml:=by cases x<;>first|rfl|grind
  have e3:x.uG=true:=by cases x<;>first|exact hf|grind
  rw[e1];exact s.J4 h e3 (by rw[<-e2]; omega)
theorem Sub.rel(s:Sub j M w ids B)(hr:Rel j M w):Rel (down j M ids) B w:=by
 have Ob:∀ {i id:Nat},ids[i]?=some id->id<M.length:=fun h=>by
  obtain⟨b,h1,_⟩:=s.box _ _ h
  grind
 refine⟨fun i i' b hi hi' h h'=>?_,fun i b hi h=>?_,fun i cb h hf=>?_,fun i sz n b h hj=>?_,fun i sz ver xs h=>?_,fun i b hi h off hx=>?_,fun b off h=>?_⟩
 ·obtain⟨id,h1,h2⟩:=pP h;obtain⟨id',h1',h2'⟩:=pP h';have:=hr.inj id id' b (Ob h1) (Ob h1') h2 h2';subst this;rw[<-Bx s.nodup h1,Bx s.nodup h1']
 ·obtain⟨id,h1,h2⟩:=pP h;exact hr.lt id b (Ob h1) h2
 ·obtain⟨id,bx,h1,h2,h3,h4⟩:=s.inv h;subst h4;have hfx:bx.fixed=true:=by cases bx<;>first|rfl|cases hf
  obtain⟨b,g1,g2⟩:=hr.fix id bx h2 hfx;refine⟨b,by grind [down],?_⟩
  have hcl:∀p,p∈bx.ids->p∈ids:=s.closed id _ (aO h1) h2;cases bx with
  |tick sz n=>cases hf
  |cells cs0 =>
   obtain⟨vs,t,k1,k2,k3⟩:=g2;refine⟨vs,t,k1,by simpa using k2,fun q c v hc hv=>?_⟩
   rw[bd,aR] at hc;obtain⟨c0,hc0,rfl⟩:=hc;have hm:=aO hc0;exact s.J4 (k3 q c0 v hc0 hv) (bH.1 h3 c0 hm) fun p hp=>hcl p (iX.2 ⟨c0,hm,hp⟩)
  |map ks vs =>
   obtain⟨es,cl,k1,k2,k3,k4,k5⟩:=g2;refine⟨es,cl,k1,k2,by simpa using k3,fun q c e hc he=>(k4 q c e hc he).mono fun b off hs=>⟨s.ia hs,rfl⟩,fun q c e hc he=>?_⟩
   rw[bd,aR] at hc;obtain⟨c0,hc0,rfl⟩:=hc;have hm:=aO hc0;exact s.rep (k5 q c0 e hc0 he) (bH.1 h3 c0 hm) fun p hp=>hcl p (iX.2 ⟨c0,hm,hp⟩)
  |mc st pos=>exact g2
  |u6=>cases hf
  |arr=>cases hf
 ·obtain⟨id,bx,h1,h2,h3,h4⟩:=s.inv h;obtain⟨id',h1',h2'⟩:=pP hj;rw[h1] at h1'; cases h1';cases bx<;>first|cases h4|skip
  exact hr.tick id _ _ b h2 h2'
 ·obtain⟨id,bx,h1,h2,h3,h4⟩:=s.inv h;cases bx<;>first|cases h4|skip
  obtain⟨g0,g1⟩|⟨b,vs,t,g1,g2,g3,g4,g5⟩:=hr.arr id _ _ _ h2
  ·grind [down]
  exact .inr ⟨b,vs,t,by grind [down],g2,g3,g4,fun q x k c hx hk=>(g5 q x k c hx hk).imp fun u hu=>⟨hu.1,hu.2.mono fun b off hs=>⟨s.ia hs,rfl⟩⟩⟩
 ·obtain⟨id,h1,h2⟩:=pP h;rcases hx with hx|⟨id',g1,g2,g3,_⟩
  ·exact hr.um id b (Ob h1) h2 off hx
  ·have:=hr.inj id id' b (Ob h1) g1 h2 g3
   grind
 ·rcases h with h|⟨id,g1,_,g3,_⟩
  ·exact hr.zC b off h
  ·exact hr.lt id b g1 g3
variable {j2:J} {B':aH} {w':World}
open Classical in
noncomputable def NP(j j2:J)(ids:List Nat):J:=⟨fun id=>if id∈ids then j2 (hZ ids id) else j id,j.X⟩
theorem kJ{id:Nat}(h:id∈ids):(NP j j2 ids) id=j2 (hZ ids id):=by grind [NP]
theorem nG{id:Nat}(h:id∉ids):(NP j j2 ids) id=j id:=by grind [NP]
structure vP(j:J)(M B:aH)(w:World)(ids:List Nat)(j2:J)(B':aH)(w':World):Prop where
 sub:Sub j M w ids B
 hr:Rel j M w
 ext:Ext (down j M ids) B w j2 B' w'
 rel:Rel j2 B' w'
 len:B'.length=B.length
 flat:∀b,b∈B'->b.flat=true
variable (bk:vP j M B w ids j2 B' w')
include bk
theorem vP.Ob{i id:Nat}(h:ids[i]?=some id):id<M.length:=by
 obtain⟨b,h1,_⟩:=bk.sub.box _ _ h
 grind
def vP.Jz{id:Nat}(h:id∈ids){b:dv}(hb:B'[hZ ids id]?=some b):(kR ids M ids B')[id]?=some (b.pv (vN ids)) :=
 (vt bk.sub.nodup (by rw[bk.len,bk.sub.len])).2.2 _ _ b (tf h) (bk.Ob (tf h)) hb
def vP.JZ{id:Nat}(h:id∉ids):(kR ids M ids B')[id]?=M[id]?:=(vt bk.sub.nodup (by rw[bk.len,bk.sub.len])).2.1 _ h
def vP.rl:(kR ids M ids B').length=M.length:=(vt bk.sub.nodup (by rw[bk.len,bk.sub.len])).1
def vP.some_{id:Nat}(h:id∈ids):∃b,B'[hZ ids id]?=some b/\b.flat=true:=by
 have hi:hZ ids id<B'.length:=by rw[bk.len,bk.sub.len]; exact tQ h
 exact⟨_,ai hi,bk.flat _ (iV _)⟩
theorem vP.uo{id b:Nat}(hid:id<M.length)(h:id∉ids)(hj:j id=some b):w'.heap[b]?=w.heap[b]?/\∀i,i<B'.length->j2 i≠some b:=by
 refine bk.ext.uo b (bk.hr.lt _ b hid hj) fun i hi he=>?_
 obtain⟨id',h1,h2⟩:=pP he;have:=bk.hr.inj _ _ b hid (bk.Ob h1) hj h2
 grind
def vP.ia{b off:Nat}(h:ng j2 B' w' b off):ng (NP j j2 ids) (kR ids M ids B') w' b off:=by
 have hX:=bk.ext.X;have hnx:=h.nx;rw[hX] at hnx;refine⟨h.lt,fun id hid hj=>?_,fun hx=>hnx (.inl hx)⟩
 rw[bk.rl] at hid
 by_cases hi:id∈ids
 ·rw[kJ hi] at hj;obtain⟨sz,n,h1,h2⟩:=h.ids _ (by rw[bk.len,bk.sub.len]; exact tQ hi) hj
  exact⟨sz,n,bk.Jz hi h1,h2⟩
 ·rw[nG hi] at hj;rw[bk.JZ hi];exact Classical.byContradiction fun hc=>hnx (.inr ⟨id,hid,hi,hj,hc⟩)
def vP.Wo:Ext j M w (NP j j2 ids) (kR ids M ids B') w' where
 len:=by rw[bk.rl]; exact aC _
 size:=bk.ext.size
 os:=bk.ext.os
 tape:=bk.ext.tape
 output:=bk.ext.output
 X:=rfl
 fix:=fun id bx h hf=>by
  by_cases hi:id∈ids
  ·obtain⟨g1,bx',g2,g3⟩:=bk.ext.fix _ _ (bk.sub.at_ hi h) (by cases bx<;>first|rfl|cases hf)
   rw[kJ hi,g1,ma hi];refine⟨rfl,_,bk.Jz hi g2,?_⟩;rw[LD,g3,LD]
  ·rw[nG hi,bk.JZ hi]; exact⟨rfl,bx,h,rfl⟩
 tick:=fun id sz n h=>by
  by_cases hi:id∈ids
  ·obtain⟨n',g1,g2,g3⟩:=bk.ext.tick _ _ _ (bk.sub.at_ hi h);refine⟨n',g1,bk.Jz hi g2,fun he=>?_⟩
   obtain⟨k1,k2⟩:=g3 he;rw[kJ hi,k1,ma hi];exact⟨rfl,fun b vs t hb hv=>k2 b vs t (by rw[ma hi]; exact hb) hv⟩
  ·rw[nG hi,bk.JZ hi];exact⟨n,aC _,h,fun _=>⟨rfl,fun b vs t hb hv=>⟨vs,(bk.uo (aJ h) hi hb).1.trans hv,rfl⟩⟩⟩
 arr:=fun id sz v xs h=>by
  by_cases hi:id∈ids
  ·rcases bk.ext.arr _ _ _ _ (bk.sub.at_ hi h) with ⟨n',g⟩|⟨v',xs',g2,g3,g4⟩
   ·exact .inl ⟨n',bk.Jz hi g⟩
   ·refine .inr ⟨v',xs',bk.Jz hi g2,g3,fun he=>?_⟩
    obtain⟨k1,k2,k3⟩:=g4 he;rw[kJ hi,k1,ma hi];exact⟨rfl,k2,fun b vs t hb hv=>k3 b _ t (by rw[ma hi]; exact hb) hv⟩
  ·rw[nG hi,bk.JZ hi];exact .inr ⟨v,xs,h,aC _,fun _=>⟨rfl,rfl,fun b vs t hb hv=>⟨vs,(bk.uo (aJ h) hi hb).1.trans hv,rfl⟩⟩⟩
 tags:=bk.ext.tags
 ia:=fun b off h=>by
  obtain⟨h1,h2⟩:=bk.ext.ia b _ (bk.sub.ia h);exact⟨bk.ia h1,h2⟩
 uo:=fun b hb h=>by
  have h1:∀i,i<B.length->(down j M _) i≠some b:=fun i _ he=>by
   obtain⟨id,g1,g2⟩:=pP he;exact h id (bk.Ob g1) g2
  obtain⟨h2,h3⟩:=bk.ext.uo b hb h1;refine⟨h2,fun id hid he=>?_⟩
  rw[bk.rl] at hid
  by_cases hi:id∈ids
  ·rw[kJ hi] at he;exact h3 _ (by rw[bk.len,bk.sub.len]; exact tQ hi) he
  ·rw[nG hi] at he;exact h id hid he
def vP.BQ{i:Nat}(h:i<B'.length):∃id,ids[i]?=some id/\id∈ids/\vN ids i=id/\hZ ids id=i:=by
 have hi:i<ids.length:=by rw[<-bk.sub.len,<-bk.len]; omega
 have hg:=ai hi;exact⟨_,hg,aO hg,acm hg,Bx bk.sub.nodup hg⟩
theorem vP.UH{x:ag}{v:Value}(h:fY j2 B' w' x v)(hf:x.DM=true):fY (NP j j2 ids) (kR ids M ids B') w' (x.sx (vN ids)) v:=by
 cases h with
 |plain h =>
  have:x.sx (vN ids)=x:=by cases h<;>rfl
  rw[this];exact .plain (h.mono fun b off hs=>⟨bk.ia hs,rfl⟩)
 |c0 A=>exact .c0 A
 | @own k xs v sz n hk hn hp ht =>
  obtain⟨id,g1,g2,g3,g4⟩:=bk.BQ (aJ hk);simp only[ag.sx,g3];refine .own (sz:=sz) (n:=n) (bk.Jz g2 (b := .tick sz n) (by rw[g4]; exact hk)) hn (hp.mono fun b off hs=>⟨bk.ia hs,rfl⟩) fun he=>?_
  rcases ht he with ⟨e1,e2,e3⟩|⟨b,cap,vs,t,e1,e2,e3,e4,e5⟩
  ·exact .inl ⟨by rw[kJ g2,g4]; omega,e2,e3⟩
  ·exact .inr ⟨b,cap,vs,t,by rw[kJ g2,g4]; grind,e2,e3,e4,e5⟩
 | @jE t k off b hc hj =>
  obtain⟨cs,hc⟩:=hc;obtain⟨id,g1,g2,g3,g4⟩:=bk.BQ (aJ hc);simp only[ag.sx,g3];exact .jE ⟨_,bk.Jz g2 (b := .cells cs) (by rw[g4]; omega)⟩ (by rw[kJ g2,g4]; omega)
 |agg=>cases hf
 |tuple=>cases hf
 | @ptr k off b hid hc hj =>
  obtain⟨id,g1,g2,g3,g4⟩:=bk.BQ hid;obtain⟨cs,hc⟩:=hc;simp only[ag.sx,g3];exact .ptr (by rw[bk.rl]; exact bk.Ob g1) ⟨_,bk.Jz g2 (b := .cells cs) (by rw[g4]; exact hc)⟩ (by rw[kJ g2,g4]; omega)
 |iP h=>exact .iP fun k c hk=>⟨(h k c hk).1,bk.ia (h k c hk).2.1,(h k c hk).2.2.mono fun b off hs=>⟨bk.ia hs,rfl⟩⟩
 |func=>cases hf
 | @gP k b hc hj =>
  obtain⟨ks,vs,hc⟩:=hc;obtain⟨id,g1,g2,g3,g4⟩:=bk.BQ (aJ hc);simp only[ag.sx,g3];exact .gP ⟨_,_,bk.Jz g2 (b := .map ks vs) (by rw[g4]; omega)⟩ (by rw[kJ g2,g4]; omega)
 | @jq k b hc hj =>
  obtain⟨st,p,hc⟩:=hc;obtain⟨id,g1,g2,g3,g4⟩:=bk.BQ (aJ hc);simp only[ag.sx,g3];exact .jq ⟨_,_,bk.Jz g2 (b := .mc st p) (by rw[g4]; exact hc)⟩ (by rw[kJ g2,g4]; exact hj)
 |pC hl hd=>exact .pC hl fun i c v h1 h2=>(hd i c v h1 h2).mono fun b off hs=>⟨bk.ia hs,rfl⟩
 | @iL ks vs b es cl hb hfr hx hw hk hv hks hvs =>
  rw[bk.ext.X] at hx;refine .iL hb (fun id hid he=>?_) (fun off hx'=>hx off (.inl hx')) hw hk hv (fun i k e h1 h2=>(hks i k e h1 h2).mono fun b off hs=>⟨bk.ia hs,rfl⟩) (fun i k e h1 h2=>(hvs i k e h1 h2).mono fun b off hs=>⟨bk.ia hs,rfl⟩)
  rw[bk.rl] at hid
  by_cases m:id∈ids
  ·rw[kJ m] at he;exact hfr _ (by rw[bk.len,bk.sub.len]; exact tQ m) he
  ·rw[nG m] at he
   by_cases ht:∃sz n,M[id]?=some (.tick sz n)
   ·obtain⟨sz,n,ht⟩:=ht;refine hx (n*sz) (.inr ⟨id,hid,m,he,?_⟩)
    grind
   ·exact hx 0 (.inr ⟨id,hid,m,he,fun⟨sz,n,h1,_⟩=>ht ⟨sz,n,h1⟩⟩)
 | @cN k ver sz0 lo hi v h0 hid hM hv =>
  obtain⟨id,g1,g2,g3,g4⟩:=bk.BQ hid;have hb:=ai hid;have hin:=bk.Jz g2 (b:=B'[k]) (by rw[g4]; exact hb)
  rw[xj (hM _ hb)] at hin;simp only[ag.sx,g3];refine .cN h0 (by rw[bk.rl]; exact bk.Ob g1) (fun bx hbx=>?_) fun sz v' xs h=>?_
  ·rw[hin] at hbx; exact hM bx (hb.trans hbx)
  ·rw[hin] at h;obtain⟨k1,k2⟩:=hv sz v' xs (hb.trans h)
   exact⟨k1,fun he=>by
    obtain⟨l0,l1,l2,⟨l3,l4,l5⟩|⟨b,cap,vs,t,l3,r⟩⟩:=k2 he
    ·exact⟨l0,l1,l2,.inl ⟨l3,by rw[kJ g2,g4]; exact l4,l5⟩⟩
    exact⟨l0,l1,l2,.inr ⟨b,cap,vs,t,by rw[kJ g2,g4]; exact l3,r⟩⟩⟩
 | @iH k ver i off v h0 hid hM hv =>
  obtain⟨id,g1,g2,g3,g4⟩:=bk.BQ hid;have hb:=ai hid;have hin:=bk.Jz g2 (b:=B'[k]) (by rw[g4]; exact hb)
  rw[xj (hM _ hb)] at hin;simp only[ag.sx,g3];refine .iH h0 (by rw[bk.rl]; exact bk.Ob g1) (fun bx hbx=>?_) fun sz v' xs h=>?_
  ·rw[hin] at hbx; exact hM bx (hb.trans hbx)
  grind [kJ]
 |any v=>exact .any v
theorem vP.J4{x:ag}{v:Value}(h:fY j2 B' w' x v)(hf:x.uG=true):fY (NP j j2 ids) (kR ids M ids B') w' (x.rN (vN ids)) v:=by
 by_cases hfn:∃f caps,x = .func f caps
 ·obtain⟨f,caps,rfl⟩:=hfn;obtain⟨vs,rfl,hl,hc⟩:=h.rF;refine .func (by grind) fun i c u hci hu=>?_
  rw[bd,aR] at hci;obtain⟨c0,hc0,rfl⟩:=hci;exact bk.UH (hc i _ u hc0 hu) (bH.1 hf _ (aO hc0))
 ·have e1:x.rN (vN ids)=x.sx (vN ids):=by cases x<;>first|rfl|grind
  have e3:x.DM=true:=by cases x<;>first|rfl|exact absurd ⟨_,_,rfl⟩ hfn|cases hf
  rw[e1];exact bk.UH h e3
theorem vP.rep{x:ag}{v:Value}(h:fY j2 B' w' x v)(hf:x.flat=true):fY (NP j j2 ids) (kR ids M ids B') w' (x.pv (vN ids)) v:=by
 by_cases hag:∃cs,x = .agg cs
 ·obtain⟨cs,rfl⟩:=hag;obtain⟨vs,rfl,hl,hc⟩:=h.lU;refine .agg (by grind) fun i c u hci hu=>?_
  rw[bd,aR] at hci;obtain⟨c0,hc0,rfl⟩:=hci;exact bk.J4 (hc i _ u hc0 hu) (bH.1 hf _ (aO hc0))
 ·have e1:x.pv (vN ids)=x.rN (vN ids):=by cases x<;>first|rfl|grind
  have e3:x.uG=true:=by cases x<;>first|exact hf|grind
  rw[e1];exact bk.J4 h e3
theorem vP.arL{x:ag}{v:Value}(h:fY j2 B' w' x v)(hf:x.vA=true):fY (NP j j2 ids) (kR ids M ids B') w' (x.Ao (vN ids)) v:=by
 by_cases ht:∃vs,x = .tuple vs
 ·obtain⟨cs,rfl⟩:=ht;obtain⟨vs,rfl,hl,hc⟩:=h.sP;refine .tuple (by grind) fun i c u hci hu=>?_
  rw[bd,aR] at hci;obtain⟨c0,hc0,rfl⟩:=hci;exact bk.rep (hc i _ u hc0 hu) (bH.1 hf _ (aO hc0))
 ·have e1:x.Ao (vN ids)=x.pv (vN ids):=by cases x<;>first|rfl|grind
  have e3:x.flat=true:=by cases x<;>first|exact hf|grind
  rw[e1];exact bk.rep h e3
theorem vP.ama:Rel (NP j j2 ids) (kR ids M ids B') w':=by
 have ltin:∀ {id:Nat},id∈ids->hZ ids id<B'.length:=fun h=>by rw[bk.len,bk.sub.len]; exact tQ h
 refine⟨fun id id' b hi hi' h h'=>?_,fun id b hi h=>?_,fun id cb h hf=>?_,fun id sz n b h hj=>?_,fun id sz ver xs h=>?_,fun id b hi h off hx=>?_,fun b off h=>bw (bk.hr.zC b off h) bk.ext.size⟩
 ·rw[bk.rl] at hi hi'
  by_cases m:id∈ids<;>by_cases m':id'∈ids
  ·rw[kJ m] at h;rw[kJ m'] at h';have:=bk.rel.inj _ _ b (ltin m) (ltin m') h h';rw[<-Km m,this,Km m']
  ·rw[kJ m] at h;rw[nG m'] at h';exact absurd h ((bk.uo hi' m' h').2 _ (ltin m))
  ·rw[nG m] at h;rw[kJ m'] at h';exact absurd h' ((bk.uo hi m h).2 _ (ltin m'))
  ·rw[nG m] at h;rw[nG m'] at h';exact bk.hr.inj id id' b hi hi' h h'
 ·rw[bk.rl] at hi
  by_cases m:id∈ids
  ·rw[kJ m] at h; exact bk.rel.lt _ b (ltin m) h
  ·rw[nG m] at h; exact bw (bk.hr.lt id b hi h) bk.ext.size
 ·by_cases m:id∈ids
  ·obtain⟨bx,h1,h2⟩:=bk.some_ m;rw[bk.Jz m h1] at h;injection h with h
   subst h;have hfx:bx.fixed=true:=by cases bx<;>first|rfl|cases hf
   obtain⟨b,g1,g2⟩:=bk.rel.fix _ bx h1 hfx;refine⟨b,by rw[kJ m]; omega,?_⟩
   cases bx with
   |tick sz n=>cases hf
   |cells cs0 =>
    obtain⟨vs,t,k1,k2,k3⟩:=g2;refine⟨vs,t,k1,by grind,fun q c v hc hv=>?_⟩
    rw[bd,aR] at hc;obtain⟨c0,hc0,rfl⟩:=hc;exact bk.J4 (k3 q c0 v hc0 hv) (bH.1 h2 c0 (aO hc0))
   |map ks vs =>
    obtain⟨es,cl,k1,k2,k3,k4,k5⟩:=g2;refine⟨es,cl,k1,k2,by grind,fun q c e hc he=>(k4 q c e hc he).mono fun b off hs=>⟨bk.ia hs,rfl⟩,fun q c e hc he=>?_⟩
    rw[bd,aR] at hc;obtain⟨c0,hc0,rfl⟩:=hc;exact bk.rep (k5 q c0 e hc0 he) (bH.1 h2 c0 (aO hc0))
   |mc st pos=>exact g2
   |u6=>cases hf
   |arr=>cases hf
  ·rw[bk.JZ m] at h;obtain⟨b,g1,g2⟩:=bk.hr.fix id cb h hf;exact⟨b,by rw[nG m]; omega,g2.mono bk.Wo (bk.uo (aJ h) m g1).1⟩
 ·by_cases m:id∈ids
  ·obtain⟨bx,h1,h2⟩:=bk.some_ m;rw[bk.Jz m h1] at h;injection h with h
   rw[kJ m] at hj;cases bx<;>first|cases h|skip
   exact bk.rel.tick _ _ _ b h1 hj
  ·rw[bk.JZ m] at h;rw[nG m] at hj;obtain⟨vs,t,g⟩:=bk.hr.tick id sz n b h hj;exact⟨vs,t,(bk.uo (aJ h) m hj).1.trans g⟩
 ·by_cases m:id∈ids
  ·obtain⟨bx,h1,h2⟩:=bk.some_ m;rw[bk.Jz m h1] at h;injection h with h
   cases bx<;>first|cases h|skip
   obtain⟨g0,g1⟩|⟨b,vs,t,g1,g2,g3,g4,g5⟩:=bk.rel.arr _ _ _ _ h1
   ·grind [kJ]
   exact .inr ⟨b,vs,t,by rw[kJ m]; omega,g2,g3,g4,fun q x k c hx hk=>(g5 q x k c hx hk).imp fun u hu=>⟨hu.1,hu.2.mono fun b off hs=>⟨bk.ia hs,rfl⟩⟩⟩
  ·rw[bk.JZ m] at h;exact pn bk.hr bk.Wo h (nG m) fun b hb=>(bk.uo (aJ h) m hb).1
 ·rw[bk.rl] at hi
  by_cases m:id∈ids
  ·rw[kJ m] at h;have:=bk.rel.um _ b (ltin m) h off;rw[bk.ext.X] at this;exact this (.inl hx)
  ·rw[nG m] at h;exact bk.hr.um id b hi h off hx
end
theorem Eu{ρ:Nat->Nat}{x:ag}(h:x.ib=[]):x.sx ρ=x:=by
 cases x with
 |slice tk xs=>cases tk<;>first|rfl|grind [ag.ib]
 |ptr=>grind [ag.ib]
 |gP=>grind [ag.ib]
 |jq=>grind [ag.ib]
 |cN=>grind [ag.ib]
 |iH=>grind [ag.ib]
 |jE=>grind [ag.ib]
 |_=>rfl
def Hw{ρ:Nat->Nat}:∀ {l:List ag},l.flatMap ag.ib=[]->l.map (ag.sx ρ)=l
 | [],_=>rfl
 |c::r,h=>by
  rw[List.flatMap_cons,List.append_eq_nil_iff] at h;rw[aP,Eu h.1,Hw h.2]
theorem Ev{ρ:Nat->Nat}{x:ag}(h:x.ml=[]):x.rN ρ=x:=by
 by_cases hf:∃f caps,x = .func f caps
 ·obtain⟨f,caps,rfl⟩:=hf;exact congrArg _ (Hw h)
 ·have e1:x.rN ρ=x.sx ρ:=by cases x<;>first|rfl|grind
  have e2:x.ml=x.ib:=by cases x<;>first|rfl|grind
  grind [Eu]
def Hx{ρ:Nat->Nat}:∀ {l:List ag},l.flatMap ag.ml=[]->l.map (ag.rN ρ)=l
 | [],_=>rfl
 |c::r,h=>by
  rw[List.flatMap_cons,List.append_eq_nil_iff] at h;rw[aP,Ev h.1,Hx h.2]
theorem UG{ρ:Nat->Nat}{x:ag}(_:x.flat=true)(h:x.ids=[]):x.pv ρ=x:=by
 by_cases hf:∃cs,x = .agg cs
 ·obtain⟨cs,rfl⟩:=hf;exact congrArg _ (Hx h)
 ·have e1:x.pv ρ=x.rN ρ:=by cases x<;>first|rfl|grind
  have e2:x.ids=x.ml:=by cases x<;>first|rfl|grind
  grind [Ev]
theorem pN{P:Program}{C:eB}(hC:oQ P C){j:J}{M:aH}{w:World}{f:Nat}{vs:List ag}{us:Array Value}{x:ag×aH}(hr:Rel j M w)(hG:rT j M w)(h:aM C f vs M=some x)
  (hl:vs.length=us.size) (hv:∀(i:Nat)(c:ag)(u:Value),vs[i]?=some c->us[i]?=some u->fY j M w c u) :
  lQ P f=true/\Calls P f us w fun e w'=>u9 j M w x e w':=by
 unfold aM at h;generalize hids:reach M (vs.flatMap ag.ids)=ids at h;split at h
 ·rename_i hf;obtain⟨B,hB,h⟩:=bg h;split at h
  ·rename_i hcl;obtain⟨y,hy,h⟩:=bg h;split at h
   ·rename_i hcond;obtain⟨c1,c2,c3⟩:=hcond;cases h;obtain⟨h1,h2⟩:=hC _ _ _ _ hy;obtain⟨p1,p2⟩:=CT hB;have s:Sub j M w ids B:=⟨by rw[<-hids]; simp[HC],p1,p2,fun i b hi hb x hx=>Mr hcl hi hb hx⟩
    refine⟨h1,(h2 (down j M ids) w us (s.rel hr) (hG.ia fun b off h=>s.ia h) (by grind) fun i c u hc hu=>?_).mono ?_⟩
    ·rw[bd,aR] at hc;obtain⟨c0,hc0,rfl⟩:=hc;have hm:=aO hc0;exact s.rep (hv i c0 u hc0 hu) (bH.1 hf c0 hm) fun q hq=>by rw[<-hids]; exact Nc (iX.2 ⟨c0,hm,hq⟩)
    ·rintro e w' (⟨v,rfl,j2,g1,g2,g3⟩|⟨u,rfl,hu,j2,g1,g2⟩)
     ·have bk:vP j M B w ids j2 y.2 w':=⟨s,hr,g2,g1,c1,fun b hb=>bH.1 c3 b hb⟩
      exact .inl ⟨v,rfl,NP j j2 ids,bk.ama,bk.Wo,bk.arL g3 c2⟩
     ·have bk:vP j M B w ids j2 y.2 w':=⟨s,hr,g2,g1,c1,fun b hb=>bH.1 c3 b hb⟩
      exact .inr ⟨u,rfl,by rw[hu]; rfl,NP j j2 ids,bk.ama,bk.Wo⟩
   grind
  grind
 grind
theorem UK{j j2:J}{G:aH}{w w':World}{p sz n:Nat}{xs:List ag}{v:Value}(hr:Rel j G w)(hp:G[p]?=some .u6)(h2:Rel j2 [.tick sz n] w')(hx:Ext (down j G []) [] w j2 [.tick sz n] w')
  (hv:fY j2 [.tick sz n] w' (.slice (.own 0) xs) v):iI j G w (.slice (.own p) xs,G.set p (.tick sz n)) v w':=by
 have hpl:=aJ hp
 have hold:∀b,b<w.heap.size->w'.heap[b]?=w.heap[b]?/\j2 0≠some b:=fun b hb=>by
  obtain⟨h1,h3⟩:=hx.uo b hb (fun i hi=>by simp at hi)
  exact⟨h1,h3 0 (by simp)⟩
 have up:∀i,i≠p->gy j p (j2 0) i=j i:=fun i hi=>by simp[gy,hi]
 have atp:gy j p (j2 0) p=j2 0:=by simp[gy]
 have nX:∀ {b off},ng j2 [.tick sz n] w' b off->¬j.X b off/\∀id,id<G.length->j id=some b->∃sz n,G[id]?=some (.tick sz n)/\off<n*sz:=fun {b off} hs=>by
  have:=hs.nx;rw[hx.X] at this;refine⟨fun h=>this (.inl h),fun id hid hj=>?_⟩
  by_cases hc:∃sz n,G[id]?=some (.tick sz n)/\off<n*sz
  ·exact hc
  ·exact absurd (Or.inr ⟨id,hid,by simp,hj,hc⟩) this
 have ia:∀b off,ng j2 [.tick sz n] w' b off->ng (gy j p (j2 0)) (G.set p (.tick sz n)) w' b off:=fun b off hs=>by
  obtain⟨n1,n2⟩:=nX hs;refine⟨hs.lt,fun id hid hj=>?_,n1⟩
  by_cases e:id=p
  ·subst e;rw[atp] at hj;obtain⟨s1,m1,h3,h4⟩:=hs.ids 0 (by simp) hj
   grind
  grind
 have q:Quiet w w':=⟨hx.size,hx.os,hx.tape,hx.output⟩
 have ext:Ext j G w (gy j p (j2 0)) (G.set p (.tick sz n)) w':={
  len:=by simp
  size:=q.size
  os:=q.os
  tape:=q.tape
  output:=q.output
  X:=rfl
  fix:=fun i bx h hf=>by
   have e:i≠p:=by rintro rfl; rw[hp] at h; cases h; cases hf
   grind
  tick:=fun i sz n h=>by
   grind
  arr:=fun i sz v xs h=>by
   grind
  tags:=fun b0 vs0 t0 fr0 h=>⟨vs0,fr0,(hold b0 (lt_of_block h)).1.trans h,rfl⟩
  ia:=fun b0 off h=>by
   refine⟨⟨bw h.1 q.size,fun id hid hj=>?_,h.3⟩,World.cell?_of_block (w:=w) (hold b0 h.1).1⟩
   by_cases e:id=p
   ·subst e; rw[atp] at hj; exact absurd hj (hold b0 h.1).2
   ·rw[cI (eY e)];rw[up id e] at hj;exact h.2 id (by simpa using hid) hj
  uo:=fun b0 cn h=>by
   grind }
 refine⟨gy j p (j2 0),⟨fun i i' b0 hi hi' h h'=>?_,fun i b0 hi h=>?_,fun i bx' h hf=>?_,fun i sz0 n0 b0 h hj=>?_,fun i sz0 ver ys h=>?_,fun i b0 hi h off hxx=>?_,fun b off h=>bw (hr.zC b off h) q.size⟩,ext,?_⟩
 ·simp only[fi] at hi hi'
  by_cases e:i=p<;>by_cases e':i'=p
  ·omega
  ·subst e;rw[atp] at h; rw[up i' e'] at h';exact absurd h (hold b0 (hr.lt i' b0 hi' h')).2
  ·subst e';rw[atp] at h'; rw[up i e] at h;exact absurd h' (hold b0 (hr.lt i b0 hi h)).2
  ·rw[up i e] at h; rw[up i' e'] at h';exact hr.inj i i' b0 hi hi' h h'
 ·simp only[fi] at hi
  by_cases e:i=p
  ·subst e; rw[atp] at h; exact h2.lt 0 b0 (by simp) h
  ·rw[up i e] at h;exact bw (hr.lt i b0 hi h) q.size
 ·by_cases e:i=p
  ·subst e;rw[dJ hpl] at h;cases h; cases hf
  ·rw[cI (eY e)] at h;obtain⟨b0,h1,h3⟩:=hr.fix i bx' h hf;exact⟨b0,by rw[up i e]; exact h1,h3.mono ext (hold b0 (hr.lt i b0 (aJ h) h1)).1⟩
 ·by_cases e:i=p
  ·subst e; rw[atp] at hj;exact h2.tick 0 sz n b0 rfl hj
  ·rw[cI (eY e)] at h;rw[up i e] at hj;obtain⟨vs,t,h1⟩:=hr.tick i sz0 n0 b0 h hj;exact⟨vs,t,(hold b0 (lt_of_block h1)).1.trans h1⟩
 ·by_cases e:i=p
  ·subst e; rw[dJ hpl] at h; cases h
  ·rw[cI (eY e)] at h;exact pn hr ext h (up i e) fun b0 h1=>(hold b0 (hr.lt i b0 (aJ h) h1)).1
 ·simp only[fi] at hi
  by_cases e:i=p
  ·subst e; rw[atp] at h;exact absurd h (hold b0 (hr.zC b0 off hxx)).2
  ·rw[up i e] at h;exact hr.um i b0 hi h off hxx
 ·cases hv with
  |plain h=>cases h
  |own hk hn h ht =>
   simp at hk;obtain⟨rfl,rfl⟩:=hk;refine .own (dJ hpl) hn (h.mono fun b off hs=>⟨ia b off hs,rfl⟩) fun he=>?_
   rcases ht he with ⟨h1,h3,h4⟩|⟨b,cap,vs,t,h1,h3,h4,h5,h6⟩
   ·exact .inl ⟨by rw[atp]; exact h1,h3,h4⟩
   ·exact .inr ⟨b,cap,vs,t,by rw[atp]; exact h1,h3,h4,h5,h6⟩
theorem NC{P:Program}{C:eB}(hC:oQ P C){j:J}{G:aH}{w:World}{f p:Nat}{vs:List ag}{us:Array Value}{xs:List ag}{sz n:Nat}(hr:Rel j G w)(hG:rT j G w)(hp:G[p]?=some .u6)(hf:vs.all ag.flat=true)(hi:vs.flatMap ag.ids=[])
  (h:C f vs []=some (.slice (.own 0) xs,[.tick sz n])) (hl:vs.length=us.size) (hv:∀(i:Nat)(c:ag)(u:Value),vs[i]?=some c->us[i]?=some u->fY j G w c u) :
  lQ P f=true/\Calls P f us w fun e w'=>∃v,e = .returned v/\iI j G w (.slice (.own p) xs,G.set p (.tick sz n)) v w':=by
 obtain⟨h1,h2⟩:=hC _ _ _ _ h;have s:Sub j G w _ []:=⟨oc,rfl,fun i id h=>by simp_all,fun i b hi=>by grind⟩
 refine⟨h1,(h2 _ w _ (s.rel hr) (hG.ia fun b off h=>s.ia h) hl fun i c u hc hu=>?_).mono ?_⟩
 ·have hm:=aO hc
  have:=s.rep (hv i c u hc hu) (bH.1 hf c hm) fun q hq=>by
   have hci  := lq.1 hi c hm;rw[hci] at hq; omega
  rwa[UG (bH.1 hf c hm) (lq.1 hi c hm)] at this
 ·rintro e w' (⟨v,rfl,j2,g1,g2,g3⟩|⟨u,rfl,hu,_⟩)
  ·exact⟨v,rfl,UK hr hp g1 g2 g3⟩
  grind
section
variable {P:Program} {C:eB} {o:Oper} {br:Env} {M:aH} {j:J} {w:World} {a:Act} {x:ag×aH}
theorem AH:∀ {xs:List ag} {l:List UInt8},bytesOf xs=some l->l.length=xs.length/\∀(i:Nat)(x:ag),xs[i]?=some x->∃n,x = .int .u8 n/\l[i]?=some (UInt8.ofNat n.toNat)
 | [],l,h=>by grind [bytesOf]
 |y::r,l,h=>by
  unfold bytesOf at h;split at h
  ·grind
  ·rename_i n r' e;injection e with e1 e2; subst e2
   obtain⟨l',h1,h⟩:=bg h;injection h with h; obtain⟨g1,g2⟩:=AH h1
   grind
  grind
theorem En(g:Value->ByteArray->Sem (ForInStep ByteArray))(hg:∀n s,g (.int .u8 n) s=pure (ForInStep.yield (s.push (UInt8.ofNat n.toNat)))):∀(vs:List Value)(l:List UInt8)(s:ByteArray),vs.length=l.length->(∀(i:Nat)(v:Value)(b:UInt8),vs[i]?=some v->l[i]?=some b->∃n,v = .int .u8 n/\b=UInt8.ofNat n.toNat) ->
  (forIn vs s g).run P w = .ok ⟨s.data++l.toArray⟩ w
 | [],[],s,_,_=>by rfl
 |v::vs,b::l,s,hl,h=>by
  obtain⟨n,rfl,rfl⟩:=h 0 v b rfl rfl;have:=En g hg vs l (s.push (UInt8.ofNat n.toNat)) (by grind) fun i v b hv hb=>h (i+1) v b (by grind) (by grind)
  simp_all
 | [],_::_,_,hl,_=>by grind
 |_::_,[],_,hl,_=>by grind
theorem afn(hr:Rel j M w)(he:cm j M w br a){s d e:TypeId}{y:Operand}{z:gQ}(hop:o.op = .convert s d y)(hs:P.underlying s=some (.slice e))(hd:P.underlying d=some .string)(hu:P.underlying e=some (.int .u8))
  (hz:er y=some z) (h:dX C br M (.b2s z)=some x):∃v w',qi P o a w v w'/\iI j M w x v w':=by
 simp only[dX] at h;have h1:=cU he hz;split at h
 ·rename_i tk xs ev;obtain⟨l,hl,h⟩:=bg h;cases h;rw[ev] at h1;obtain⟨g1,g2⟩:=AH hl;refine⟨.string (bs l),w,.inl ?_,.still hr (.plain (.str _))⟩;obtain⟨A,cap,b,off,sz,vs,hv,hc,ha,hwid,hcell,hrep⟩:=h1.dN.dN
  have hrun:(Conv.bytesToString (a.eval y)).run P w = .ok (.string (bs l)) w:=by
   rw[hv];cases A with
   |none =>
    have:xs=[]:=by
     grind
    subst this;have:l=[]:=dG g1;subst this;rfl
   |some A =>
    have hload:∃us:Array Value,(loadCells A xs.length).run P w = .ok us w/\us.size=l.length/\∀(i:Nat)(v:Value)(b:UInt8),us[i]?=some v->l[i]?=some b->∃n,v = .int .u8 n/\b=UInt8.ofNat n.toNat:=by
     by_cases hx:xs=[]
     ·subst hx;have:l=[]:=dG g1;subst this;exact⟨#[],by rfl,rfl,fun i v b h=>by simp at h⟩
     ·have hA:=ha hx;cases hA
      have hsz:sz=1:=by
       cases xs with
       |nil=>grind
       |cons c r =>
        obtain⟨n,rfl,_⟩:=g2 0 c rfl;exact(hwid (.int .u8 n) (by simp)).symm
      subst hsz
      have cellOf:∀i,i<xs.length->∃n,w.cell? ⟨b,off+i,none⟩=some (vs i)/\vs i = .int .u8 n/\l[i]?=some (UInt8.ofNat n.toNat):=by
       intro i hi;have hxi:xs[i]?=some xs[i]:=ai hi;obtain⟨n,hn,hb⟩:=g2 i _ hxi;have q1:=hcell i _ 0 (.int .u8 n) hxi (by rw[hn]; rfl)
       have q2:=hrep i _ 0 (.int .u8 n) hxi (by rw[hn]; rfl)
       simp only[Nat.mul_one,dg] at q1 q2;exact⟨n,q1.1,(fY.plain (j:=j) (M:=M) q2).fN,hb⟩
      refine⟨_,oW (P:=P) (w:=w) b off xs.length vs (fun k hk=>(cellOf k hk).choose_spec.1),by simp[g1],fun i v c hi hb=>?_⟩
      grind
    obtain⟨us,u1,u2,u3⟩:=hload;simp only[Conv.bytesToString,Sem.run_bind,u1,Result.andThen_ok];rw[<-Array.forIn_toList];refine(congrArg (fun r=>Result.andThen r _) (En (P:=P) (w:=w) _ ?_ us.toList l ByteArray.empty (by omega) fun i v b hv hb=>u3 i v b (by simpa using hv) hb)).trans ?_
    ·simp
    simp[bs]
  simp only[execOp,hop,convert,Sem.run_bind,dK hs,dK hd,Result.andThen_ok];rw[hv] at hrun ⊢;cases A<;>simp[dK hu,hrun]
 ·cases h
theorem Ca{fk:FK}{k k':ag}{b:Bool}(h:jW fk k k'=some b) :
  (∃t x y,k = .int t x/\k' = .int t y/\fk = .i/\b=(x==y))\/(∃x y,k = .str x/\k' = .str y/\fk = .s/\b=(x==y))\/∃x y,k = .bool x/\k' = .bool y/\fk = .b/\b=(x==y):=by
 unfold jW at h
 grind
def FK.is:FK->TypeDesc->Prop
 | .i,.int _=>True
 | .s,.string=>True
 | .b,.bool=>True
 |_,_=>False
theorem Ea{t:TypeId}{fk:FK}(h:CA P t=some fk):∃d,P.underlying t=some d/\fk.is d:=by
 unfold CA at h
 split at h<;>first
  |(rename_i hd; cases h; exact⟨_,hd,trivial⟩)
  |grind
theorem H2{fk:FK}{d:TypeDesc}(hd:fk.is d){k k':ag}{b:Bool}(h:jW fk k k'=some b){ia:Nat->Nat->Prop}{v v':Value}(hv:fY j M w k v)(hv':fF w ia k' v') :
  Instr.sameNow d v v'=some b/\(b=true->Instr.sameBits 10000 v' v=true)/\fF w (ng j M w) k v:=by
 rcases Ca h with ⟨t,x,y,rfl,rfl,rfl,rfl⟩|⟨x,y,rfl,rfl,rfl,rfl⟩|⟨x,y,rfl,rfl,rfl,rfl⟩
 ·have e1:=hv.fN; subst e1; cases hv';cases d<;>first|exact False.elim hd|skip
  exact⟨by simp[Instr.sameNow],fun h=>by grind [Instr.sameBits],.int _ _⟩
 ·have e1:=hv.jX; subst e1; cases hv';cases d<;>first|exact False.elim hd|skip
  have this:∀x y,(bs x==bs y)=(x==y):=fun x y=>by
   show(x.toArray==y.toArray)=(x==y)
   simp
  exact⟨by simp_all [Instr.sameNow],fun h=>by grind [Instr.sameBits],.str _⟩
 ·have e1:=hv.jg; subst e1; cases hv';cases d<;>first|exact False.elim hd|skip
  exact⟨by simp[Instr.sameNow],fun h=>by grind [Instr.sameBits],.bool _⟩
def MY{fk:FK}{k:ag}{b:Bool}(h:jW fk k k=some b){v:Value}(hv:fY j M w k v):fF w (ng j M w) k v:=by
 rcases Ca h with ⟨t,x,y,rfl,_⟩|⟨x,y,rfl,_⟩|⟨x,y,rfl,_⟩
 ·have:=hv.fN; subst this; exact .int _ _
 ·have:=hv.jX; subst this; exact .str _
 ·have:=hv.jg; subst this; exact .bool _
def DG{fk:FK}{d:TypeDesc}(hd:fk.is d){t:TypeId}(ht:P.underlying t=some d)(e:Bool)(v:Value):(Instr.checkKey e 10000 t v).run P w = .ok () w:=by
 rw[Instr.checkKey.eq_def];simp only[Sem.run_bind,dK ht];cases fk<;>cases d<;>first|exact False.elim hd|(cases v<;>rfl)
theorem GG{fk:FK}{d:TypeDesc}(hd:fk.is d){k:ag}{v:Value}(hv:fY j M w k v){ia:Nat->Nat->Prop}:∀ {ks vs:List ag} {es:List MapEntry} {r:Option ag} (n:Nat),wz fk k ks vs=some r ->
  ks.length=es.length->vs.length=es.length->(∀(i:Nat)(k:ag)(e:MapEntry),ks[i]?=some k->es[i]?=some e->fF w ia k e.key) ->
  (r=none/\Instr.findNow d v es n=some none)\/∃i u e,r=some u/\vs[i]?=some u/\es[i]?=some e/\Instr.findNow d v es n=some (some (n+i,e.val))
 | [],[],[],r,n,h,_,_,_=>by simp[wz] at h; exact .inl ⟨h.symm,rfl⟩
 |k'::ks,u::vs,e::es,r,n,h,h1,h2,h3=>by
  obtain⟨b,hb,h⟩:=bg h;obtain⟨s1,_⟩:=H2 hd hb hv (h3 0 k' e rfl rfl);rcases jO h with ⟨rfl,h⟩|⟨rfl,h⟩
  ·injection h with h
   exact .inr ⟨0,u,e,h.symm,rfl,rfl,by grind [Instr.findNow]⟩
  ·have hf:Instr.findNow d v (e::es) n=Instr.findNow d v es (n+1):=by rw[Instr.findNow,s1]
   rcases GG hd hv (n+1) h (by simpa using h1) (by simpa using h2) (fun i k e hk he=>h3 (i+1) k e (by grind) (by grind)) with ⟨g1,g2⟩|⟨i,u',e',g1,g2,g3,g4⟩
   ·grind
   ·exact .inr ⟨i+1,u',e',g1,by grind,by grind,by grind⟩
 | [],_::_,[],_,_,_,_,h2,_=>by simp at h2
 |_::_,[],_::_,_,_,_,_,h2,_=>by simp at h2
 | [],_,_::_,_,_,_,h1,_,_=>by simp at h1
 |_::_,_,[],_,_,_,h1,_,_=>by simp at h1
theorem GH{fk:FK}{d:TypeDesc}(hd:fk.is d){k y:ag}{v:Value}(hv:fY j M w k v){ia:Nat->Nat->Prop}:∀ {ks vs:List ag} {es:List MapEntry} {r:List ag×List ag} (n:Nat),wA fk k y ks vs=some r ->
  ks.length=es.length->vs.length=es.length->(∀(i:Nat)(k:ag)(e:MapEntry),ks[i]?=some k->es[i]?=some e->fF w ia k e.key) ->
  fF w (ng j M w) k v/\((r=(ks++[k],vs++[y])/\Instr.findNow d v es n=some none)\/∃i e,r=(ks.set i k,vs.set i y)/\es[i]?=some e/\Instr.sameBits 10000 e.key v=true/\Instr.findNow d v es n=some (some (n+i,e.val)))
 | [],[],[],r,n,h,_,_,_=>by
  obtain⟨b,hb,h⟩:=bg h;injection h with h
  exact⟨MY hb hv,.inl ⟨h.symm,rfl⟩⟩
 |k'::ks,u::vs,e::es,r,n,h,h1,h2,h3=>by
  obtain⟨b,hb,h⟩:=bg h;obtain⟨s1,s2,s3⟩:=H2 hd hb hv (h3 0 k' e rfl rfl);refine⟨s3,?_⟩;rcases jO h with ⟨rfl,h⟩|⟨rfl,h⟩
  ·injection h with h
   exact .inr ⟨0,e,h.symm,rfl,s2 rfl,by grind [Instr.findNow]⟩
  ·obtain⟨r',h',h⟩:=bg h;cases h;have hf:Instr.findNow d v (e::es) n=Instr.findNow d v es (n+1):=by rw[Instr.findNow,s1]
   rcases(GH hd hv (n+1) h' (by simpa using h1) (by simpa using h2) (fun i k e hk he=>h3 (i+1) k e (by grind) (by grind))).2 with ⟨g1,g2⟩|⟨i,e',g1,g2,g3,g4⟩
   ·grind
   ·exact .inr ⟨i+1,e',by rw[g1]; rfl,by grind,g3,by rw[hf,g4]; grind⟩
 | [],_::_,[],_,_,_,_,h2,_=>by grind
 |_::_,[],_::_,_,_,_,_,h2,_=>by grind
 | [],_,_::_,_,_,_,h1,_,_=>by simp at h1
 |_::_,_,[],_,_,_,h1,_,_=>by grind
def Bj.rep{x:ag}{v:Value}(h:Bj w (ng j M w) x v):fY j M w x v:=by
 by_cases hag:∃cs,x = .agg cs
 ·obtain⟨cs,rfl⟩:=hag;obtain⟨us,rfl,h2,h3⟩:=h;exact .agg h2 fun i c u hc hu => .plain (h3 i c u hc hu)
 ·cases x<;>first|exact absurd ⟨_,rfl⟩ hag|exact .plain h
theorem Ef(hr:Rel j M w){m:ag}{v:Value}{e:List ag×List ag}(h:mapOf M m=some e)(hm:fY j M w m v):∃(b:Nat) (es:Array MapEntry) (clock:Nat),v = .map (some b)/\w.heap[b]?=some (.map es clock) /\
  e.1.length=es.size/\e.2.length=es.size/\(∀(i:Nat)(k:ag)(e':MapEntry),e.1[i]?=some k->es[i]?=some e'->fF w (ng j M w) k e'.key)/\∀(i:Nat)(k:ag)(e':MapEntry),e.2[i]?=some k->es[i]?=some e'->fY j M w k e'.val:=by
 unfold mapOf at h;split at h
 ·split at h
  ·rename_i ks vs hM;injection h with h; rw[fE] at hM
   obtain⟨b,_,hj,rfl⟩:=hm.uQ;obtain⟨b',hj',es,clock,g1,g2,g3,g4,g5⟩:=hr.fix _ _ hM rfl
   grind
  grind
 ·cases h;cases hm with
  |plain h=>cases h
  |iL hb hf hx hw hk hv hks hvs=>exact⟨_,_,_,rfl,hw,hk,hv,hks,fun i k e h1 h2=>(hvs i k e h1 h2).rep⟩
 ·cases h
theorem Hu{zero:ag}{ok:Bool}{r:Option ag}{v:Value}(h:fY j M w (r.getD zero) v):fY j M w (o9 zero ok r) (if ok then .tuple #[v,.bool r.isSome] else v):=by
 cases ok with
 |false=>exact h
 |true =>
  refine .tuple rfl fun i c u hc hu=>?_
  match i with
  |0=>grind
  |1=>simp at hc hu; subst hc; subst hu; exact .plain (.bool _)
  |n+2=>simp_all
def YJ(hr:Rel j M w)(he:cm j M w br a){t kt et:TypeId}{m k:Operand}{m' k':gQ}{ok:Bool}{fk:FK}{ie:TypeInfo}{zv:Value}{z:ag}(hop:o.op = .lookup t m k ok)(ht:P.underlying t=some (.map kt et))
  (hk:CA P kt=some fk) (hi:P.info? et=some ie) (hz:ie.zero=some zv) (hzv:OB zv=some z) (hm':er m=some m') (hk':er k=some k') (h:dX C br M (.look fk z ok m' k')=some x) :
  ∃v w',qi P o a w v w'/\iI j M w x v w':=by
 simp only[dX] at h;obtain⟨e,h1,h⟩:=bg h;obtain⟨r,h2,h⟩:=bg h;cases h;obtain⟨d,hd,hfk⟩:=Ea hk;obtain⟨b,es,clock,hv,hb,g1,g2,g3,g4⟩:=Ef hr h1 (cU he hm');have hc:∀q,(Instr.checkKey q 10000 kt (a.eval k)).run P w = .ok () w:=fun q=>DG hfk hd q _
 rcases GG hfk (cU he hk') (es:=es.toList) 0 h2 (by simpa using g1) (by simpa using g2) (fun i k e hk he=>g3 i k e hk (by simpa using he)) with ⟨rfl,f1⟩|⟨i,u,e',rfl,f2,f3,f1⟩
 ·refine⟨if ok then .tuple #[zv,.bool false] else zv,w,.inl ?_,.still hr (Hu (r:=none) (F8 hzv))⟩
  simp[execOp,hop,Instr.lookup,dK ht,hv,MapKept.run_getObj_map hb,hc,Instr.findKey,dK hd,f1,zeroValue,oZ hi,hz]
 ·refine⟨if ok then .tuple #[e'.val,.bool true] else e'.val,w,.inl ?_,.still hr (Hu (r:=some u) (g4 i u e' f2 (by simpa using f3)))⟩
  simp[execOp,hop,Instr.lookup,dK ht,hv,MapKept.run_getObj_map hb,hc,Instr.findKey,dK hd,f1]
def YG(hr:Rel j M w)(he:cm j M w br a){c:Call}{y:Operand}{z:gQ}{t k e:TypeId}(hop:o.op = .call c)(hb:c.callee = .builtin .len)(ha:c.args.toList=[y])
  (ht:c.argTypes[0]?=some t) (hs:P.underlying t=some (.map k e)) (hz:er y=some z) (h:dX C br M (.M1 z)=some x):∃v w',qi P o a w v w'/\iI j M w x v w':=by
 simp only[dX] at h;obtain⟨e,h1,h⟩:=bg h;cases h;obtain⟨b,es,clock,hv,hbl,g1,g2,g3,g4⟩:=Ef hr h1 (cU he hz);have ha':c.args = #[y]:=by rw[<-ha]
 refine⟨.int .i64 e.1.length,w,.inl ?_,.still hr (.plain (.int _ _))⟩;simp[execOp,hop,resolve,hb,invoke,builtin,Builtin.len_,ha',ht,dK hs,hv,MapKept.run_getObj_map hbl,goInt,g1]
def Lp(hr:Rel j M w){bx:dv}{ob:Obj}(hfx:bx.fixed=true)(hh:∀j' M' (w':World),w'.heap[w.heap.size]?=some ob->Holds j' M' w' w.heap.size bx) :
  ∃j':J,Rel j' (M++[bx]) { w with heap:=w.heap.push ob }/\Ext j M w j' (M++[bx]) { w with heap:=w.heap.push ob }/\j' M.length=some w.heap.size:=by
 have q:Quiet w { w with heap:=w.heap.push ob }:=⟨by simp,rfl,rfl,rfl⟩
 have hb:∀b,b<w.heap.size->({ w with heap:=w.heap.push ob }:World).heap[b]?=w.heap[b]?:=fun b hb=>by
  show(w.heap.push _)[b]?=_
  rw[fI,aQ (by omega)]
 have hn:({ w with heap:=w.heap.push ob }:World).heap[w.heap.size]?=some ob:=by simp
 refine⟨gy j M.length (some w.heap.size),hr.push (fun b h=>?_) q hb (fun _=>?_) (fun sz n b h=>by rw[h] at hfx; cases hfx) (fun sz v xs h=>by rw[h] at hfx; cases hfx),Ext.push (fun b h=>?_) q hb,by simp[gy]⟩
 ·cases h; simp
 ·exact⟨_,rfl,fun j' M' hx=>hh j' M' _ hn⟩
 ·injection h with h; omega
def TW(hr:Rel j M w){t:TypeId}(hop:o.op = .makeMap t none)(h:dX C br M .mkMap=some x):∃v w',qi P o a w v w'/\iI j M w x v w':=by
 simp only[dX] at h;cases h;obtain⟨j',h1,h2,h3⟩:=Lp (ob := .map #[] 0) (bx := .map [] []) hr rfl fun j' M' w' hw=>⟨#[],0,hw,rfl,rfl,fun i k e h=>by simp at h,fun i k e h=>by simp at h⟩
 exact⟨.map (some w.heap.size),_,.inl (by simp[execOp,hop,Instr.makeMap]),j',h1,h2,.gP ⟨[],[],by simp⟩ h3⟩
def YM(hr:Rel j M w)(he:cm j M w br a){t:TypeId}{y:Operand}{z:gQ}(hop:o.op = .range t y)(ht:P.underlying t=some .string)(hz:er y=some z)(h:dX C br M (.NH z)=some x):∃v w',qi P o a w v w'/\iI j M w x v w':=by
 simp only[dX] at h;have h0:=cU he hz;split at h
 ·rename_i s e;rw[e] at h0;cases h;obtain⟨j',h1,h2,h3⟩:=Lp (ob := .stringIter (bs s) 0) (bx := .mc s 0) hr rfl fun j' M' w' hw=>hw
  exact⟨.pointer (some ⟨w.heap.size,0,none⟩),_,.inl (by simp[execOp,hop,Instr.range,dK ht,h0.jX]),j',h1,h2,.jq ⟨s,0,by simp⟩ h3⟩
 ·cases h
def FE(hr:Rel j M w){id b:Nat}{bx bx':dv}{ob:Obj}(hM:M[id]?=some bx)(hfx:bx.fixed=true)(htag:bx'.tag=bx.tag)(hj:j id=some b)(hnc:∀vs t fr,w.heap[b]?≠some (.cells vs t fr))
  (hh:∀j' M' (w':World),Ext j M w j' M' w'->w'.heap[b]?=some ob->Holds j' M' w' b bx') :
  Rel j (M.set id bx') { w with heap:=w.heap.setIfInBounds b ob }/\Ext j M w j (M.set id bx') { w with heap:=w.heap.setIfInBounds b ob }:=by
 have q:Quiet w { w with heap:=w.heap.setIfInBounds b ob }:=⟨by simp,rfl,rfl,rfl⟩
 have hb:∀b',b'≠b->b'<w.heap.size->({ w with heap:=w.heap.setIfInBounds b ob }:World).heap[b']?=w.heap[b']?:=fun b' hne _=>by
  show(w.heap.setIfInBounds b ob)[b']?=_
  rw[fh (eY hne)]
 have cn:b<w.heap.size:=hr.lt id b (aJ hM) hj
 have hn:({ w with heap:=w.heap.setIfInBounds b ob }:World).heap[b]?=some ob:=by
  show(w.heap.setIfInBounds b ob)[b]?=_
  simp[cn]
 exact⟨Rel.store hM hfx htag hj hr q hb (fun vs t fr h=>absurd h (hnc vs t fr)) fun j' M' hx=>hh j' M' _ hx hn,Ext.store hM hfx htag hj hr q hb (fun vs t fr h=>absurd h (hnc vs t fr))⟩
def TY(hr:Rel j M w)(he:cm j M w br a){y:Operand}{z:gQ}(hop:o.op = .next y true)(hz:er y=some z)(h:dX C br M (.Ei z)=some x):∃v w',qi P o a w v w'/\iI j M w x v w':=by
 simp only[dX] at h;have h0:=cU he hz;split at h
 ·rename_i id e;rw[e] at h0;obtain⟨b,_,hj,hv⟩:=h0.Cr;split at h
  ·rename_i s pos hM;rw[fE] at hM;obtain⟨b',hj',hw⟩:=hr.fix _ _ hM rfl;rw[hj] at hj'; cases hj';have hw:w.heap[b]?=some (.stringIter (bs s) pos):=hw;have hsz:(bs s).size=s.length:=by simp[bs,ByteArray.size]
   have hget:(getObj b).run P w = .ok (.stringIter (bs s) pos) w:=by simp[getObj,Sem.run,hw]
   rcases jO h with ⟨cn,h⟩|⟨cn,h⟩<;>(cases h)
   ·have hlt':pos<s.length:=by simpa using cn
    have hset:∀ob,(setObj b ob).run P w = .ok () { w with heap:=w.heap.setIfInBounds b ob }:=fun ob=>by simp[setObj,Sem.run,hw]
    obtain⟨r1,r2⟩:=FE (ob := .stringIter (bs s) (pos+(Utf8.decode (bs s) pos).2)) (bx' := .mc s (pos+(Utf8.decode ⟨s.toArray⟩ pos).2)) hr hM rfl rfl hj (fun vs t fr h=>by rw[hw] at h; cases h) fun j' M' w' _ hw=>hw
    refine⟨.tuple #[.bool true,goInt pos,.int .i32 (Utf8.decode (bs s) pos).1],{ w with heap:=w.heap.setIfInBounds b (.stringIter (bs s) (pos+(Utf8.decode (bs s) pos).2)) },.inl ?_,j,?_,?_,?_⟩
    ·simp[execOp,hop,Instr.next,hv,hget,hsz,hlt',hset]
    ·rw[gq]; exact r1
    ·rw[gq]; exact r2
    ·refine .tuple rfl fun i c u hc hu=>?_
     match i with
     |0=>simp at hc hu; subst hc; subst hu; exact .plain (.bool _)
     |1=>simp at hc hu; subst hc; subst hu; exact .plain (.int _ _)
     |2=>simp at hc hu; subst hc; subst hu; exact .plain (.int _ _)
     |n+3=>simp at hc
   ·have hlt':¬pos<s.length:=by simpa using cn
    refine⟨.tuple #[.bool false],w,.inl ?_,.still hr (.tuple rfl fun i c u hc hu=>?_)⟩
    ·simp[execOp,hop,Instr.next,hv,hget,hsz,hlt']
    ·match i with
     |0=>simp at hc hu; subst hc; subst hu; exact .plain (.bool _)
     |n+1=>simp at hc
  ·cases h
 ·cases h
def T1(hr:Rel j M w)(he:cm j M w br a){t kt et:TypeId}{m k y:Operand}{m' k' y':gQ}{fk:FK}(hop:o.op = .mapUpdate t m k y\/o.op = .insert t m k y)(ht:P.underlying t=some (.map kt et))
  (hk:CA P kt=some fk) (hm':er m=some m') (hk':er k=some k') (hyr:fY j M w (y'.ev br) (a.eval y)) (h:dX C br M (.gy fk m' k' y')=some x):∃v w',qi P o a w v w'/\iI j M w x v w':=by
 simp only[dX] at h;have h0:=cU he hm';split at h
 ·rename_i id e;rw[e] at h0;split at h
  ·rename_i ks vs hM;obtain⟨r,hr',h⟩:=bg h;cases h;rw[fE] at hM;obtain⟨b,_,hj,hv⟩:=h0.uQ;obtain⟨b',hj',es,clock,hb,g2,g3,g4,g5⟩:=hr.fix _ _ hM rfl;rw[hj] at hj'; cases hj';obtain⟨d,hd,hfk⟩:=Ea hk;have hc:∀q,(Instr.checkKey q 10000 kt (a.eval k)).run P w = .ok () w:=fun q=>DG hfk hd q _
   obtain⟨kp,hf⟩:=GH hfk (cU he hk') (es:=es.toList) 0 hr' (by simpa using g2) (by simpa using g3) (fun i k e hk he=>g4 i k e hk (by simpa using he))
   have hset:∀ob,(setObj b ob).run P w = .ok () { w with heap:=w.heap.setIfInBounds b ob }:=fun ob=>MapKept.run_setObj_map ob hb
   rcases hf with ⟨rfl,f1⟩|⟨i,e',rfl,f3,f4,f1⟩
   ·obtain⟨r1,r2⟩:=FE (ob := .map (es.push { key:=a.eval k,val:=a.eval y,born:=clock }) (clock+1)) (bx' := .map (ks++[k'.ev br]) (vs++[y'.ev br])) hr hM rfl rfl hj (fun vs t fr h=>by rw[hb] at h; cases h) fun j' M' w' hx hw=>by
     refine⟨_,_,hw,by simp[g2],by simp[g3],fun i k e hk he=>?_,fun i k e hk he=>?_⟩
     ·rw[fI] at he;rw[mF] at hk
      by_cases hi:i=es.size
      ·subst hi;simp[g2] at hk he;subst hk; subst he;exact kp.mono hx.ia
      ·rw[aQ hi] at he;have hi':i<es.size:=(fj.1 he).1;rw[bh (by omega)] at hk
       exact(g4 i k e hk he).mono hx.ia
     ·rw[fI] at he;rw[mF] at hk
      by_cases hi:i=es.size
      ·subst hi;simp[g3] at hk he;subst hk; subst he;exact hyr.mono hx
      ·rw[aQ hi] at he;have hi':i<es.size:=(fj.1 he).1;rw[bh (by omega)] at hk
       exact(g5 i k e hk he).mono hx
    refine⟨undef,{ w with heap:=w.heap.setIfInBounds b (.map (es.push { key:=a.eval k,val:=a.eval y,born:=clock }) (clock+1)) },.inr ⟨?_,rfl⟩,j,?_,?_,.any _⟩
    ·rcases hop with hop|hop<;>simp[execOp,hop,Instr.mapUpdate,dK ht,hv,MapKept.run_getObj_map hb,hc,Instr.findKey,dK hd,f1,hset]
    ·rw[gq]; exact r1
    ·rw[gq]; exact r2
   ·have hi:i<es.size:=by simpa using(ak.1 f3).1
    have he':es[i]?=some e':=by simpa using f3
    obtain⟨r1,r2⟩:=FE (ob := .map (es.modify i fun e=>{ e with key:=a.eval k,val:=a.eval y }) clock) (bx' := .map (ks.set i (k'.ev br)) (vs.set i (y'.ev br))) hr hM rfl rfl hj (fun vs t fr h=>by rw[hb] at h; cases h) fun j' M' w' hx hw=>by
     refine⟨_,_,hw,by simp[g2],by simp[g3],fun q k e hk he=>?_,fun q k e hk he=>?_⟩
     ·rw[gr] at he
      by_cases hq:i=q
      ·subst hq;simp[he'] at he;rw[gh (by omega)] at hk
       cases hk; subst he;exact kp.mono hx.ia
      ·rw[aQ hq] at he;rw[gL hq] at hk;exact(g4 q k e hk he).mono hx.ia
     ·rw[gr] at he
      by_cases hq:i=q
      ·subst hq;simp[he'] at he;rw[gh (by omega)] at hk
       cases hk; subst he;exact hyr.mono hx
      ·rw[aQ hq] at he;rw[gL hq] at hk;exact(g5 q k e hk he).mono hx
    refine⟨undef,{ w with heap:=w.heap.setIfInBounds b (.map (es.modify i fun e=>{ e with key:=a.eval k,val:=a.eval y }) clock) },.inr ⟨?_,rfl⟩,j,?_,?_,.any _⟩
    ·rcases hop with hop|hop<;>simp[execOp,hop,Instr.mapUpdate,dK ht,hv,MapKept.run_getObj_map hb,hc,Instr.findKey,dK hd,f1,hset,he',Instr.keyThatStays,f4]
    ·rw[gq]; exact r1
    ·rw[gq]; exact r2
  ·cases h
 ·cases h
end
def jB(xs:List ag):List ag:=xs.flatMap ag.cells
def nB(x:ag)(xs:List ag):jB (x::xs)=x.cells++jB xs:=rfl
def nA(xs ys:List ag):jB (xs++ys)=jB xs++jB ys:=by simp[jB]
def ir{sz:Nat}:∀ {xs:List ag},wid xs sz->(jB xs).length=xs.length*sz
 | [],_=>by simp[jB]
 |x::xs,h=>by
  rw[nB,aD,h x (bj ..),ir fun y hy=>h y (aX _ hy),au,bL]
  omega
def mr{sz:Nat}{xs ys:List ag}(h1:wid xs sz)(h2:wid ys sz):wid (xs++ys) sz:=fun x hx=>(bB.1 hx).elim (h1 x) (h2 x)
def uZ{sz n:Nat}{xs:List ag}(h:wid xs sz):wid (xs.take n) sz:=fun x hx=>h x (dI hx)
def uY{sz n:Nat}{xs:List ag}(h:wid xs sz):wid (xs.drop n) sz:=fun x hx=>h x (dk hx)
def ra{sz:Nat}:∀(n:Nat){xs:List ag},wid xs sz->jB (xs.take n)=(jB xs).take (n*sz)
 |0,_,_=>by simp[jB]
 |n+1,[],_=>by simp[jB]
 |n+1,x::xs,h=>by
  have hx:=h x (bj ..);have e:(n+1)*sz=sz+n*sz:=by rw[bL]; omega
  rw[List.take_succ_cons,nB,nB,ra n fun y hy=>h y (aX _ hy),List.take_append,hx,e,iz,bS (l:=x.cells) (by omega)]
def td{sz:Nat}:∀(n:Nat){xs:List ag},wid xs sz->jB (xs.drop n)=(jB xs).drop (n*sz)
 |0,_,_=>by simp
 |n+1,[],_=>by simp[jB]
 |n+1,x::xs,h=>by
  have hx:=h x (bj ..);have e:(n+1)*sz=sz+n*sz:=by rw[bL]; omega
  rw[List.drop_succ_cons,nB,td n fun y hy=>h y (aX _ hy),List.drop_append,hx,e,iz,List.drop_of_length_le (l:=x.cells) (by omega),aW]
theorem zZ{sz:Nat}:∀ {xs:List ag},wid xs sz->∀ {q:Nat} {x:ag} {k:Nat} {c:ag},xs[q]?=some x->x.cells[k]?=some c->(jB xs)[q*sz+k]?=some c
 | [],_,q,x,k,c,hx,_=>by grind
 |y::xs,h,0,x,k,c,hx,hk=>by
  simp at hx; subst hx;rw[nB,jS,aK,bA (ak.1 hk).1];omega
 |y::xs,h,q+1,x,k,c,hx,hk=>by
  have hy:=h y (bj ..);rw[nB,bz (by rw[bL]; omega),hy]
  rw[show(q+1)*sz+k-sz=q*sz+k by rw[bL]; omega]
  exact zZ (fun z hz=>h z (aX _ hz)) (by grind) hk
theorem Cd{sz:Nat}{xs:List ag}(h:wid xs sz){p:Nat}{c:ag}(hp:(jB xs)[p]?=some c):∃q x k,xs[q]?=some x/\x.cells[k]?=some c/\p=q*sz+k:=by
 have cn:p<xs.length*sz:=by rw[<-ir h]; grind
 have hsz:0<sz:=by
  grind
 have hq:p / sz<xs.length:=by rw[ki hsz]; omega
 have hk:p % sz<(xs[p / sz]).cells.length:=by rw[h _ (iV _)]; simp_all [Nat.mod_lt]
 grind [Nat.mul_comm,Nat.div_add_mod,zZ]
def RL(w:World)(ia:Nat->Nat->Prop)(cs:List ag)(vs:List Value):Prop:=cs.length=vs.length/\∀(p:Nat)(c:ag)(v:Value),cs[p]?=some c->vs[p]?=some v->fF w ia c v
section
variable {w w':World} {ia saf':Nat->Nat->Prop} {cs ds:List ag} {us vs:List Value}
def RL.append(h:RL w ia cs us)(k:RL w ia ds vs):RL w ia (cs++ds) (us++vs):=by
 refine⟨by simp[h.1,k.1],fun p c v hc hv=>?_⟩
 rcases bF p _ with hp|hp
 ·rw[bA hp] at hc;rw[bA (by rw[<-h.1]; omega)] at hv
  exact h.2 p c v hc hv
 ·rw[bz hp] at hc;rw[bz (by rw[<-h.1]; omega),<-h.1] at hv
  exact k.2 _ c v hc hv
theorem RL.take(n:Nat)(h:RL w ia cs us):RL w ia (cs.take n) (us.take n):=by
 refine⟨by simp[h.1],fun p c v hc hv=>?_⟩
 rw[gD] at hc hv;split at hc
 ·rename_i hp;rw[bh hp] at hv;exact h.2 p c v hc hv
 grind
def RL.drop(n:Nat)(h:RL w ia cs us):RL w ia (cs.drop n) (us.drop n):=by
 refine⟨by simp[h.1],fun p c v hc hv=>?_⟩
 rw[cH] at hc hv;exact h.2 _ c v hc hv
def RL.mono(hm:∀b off,ia b off->saf' b off/\w'.cell? ⟨b,off,none⟩=w.cell? ⟨b,off,none⟩)(h:RL w ia cs us):RL w' saf' cs us:=⟨h.1,fun p c v hc hv=>(h.2 p c v hc hv).mono hm⟩
end
section
variable {j:J} {M:aH} {w:World}
theorem wW{b sz:Nat}{xs:List ag}{vs:Array Value}(hl:xs.length*sz<=vs.size)(hwd:wid xs sz)
  (hc:∀(q:Nat)(x:ag)(k:Nat)(c:ag),xs[q]?=some x->x.cells[k]?=some c->∃v,vs[q*sz+k]?=some v/\fF w (ng j M w) c v):RL w (ng j M w) (jB xs) (vs.toList.take (xs.length*sz)):=by
 refine⟨by rw[ir hwd]; grind,fun p c v hp hv=>?_⟩
 obtain⟨q,x,k,h1,h2,rfl⟩:=Cd hwd hp
 grind
theorem ly{j':J}{M':aH}{w':World}{b sz:Nat}{t:TypeId}{xs:List ag}{us:List Value}{vs:Array Value}(hw:w'.heap[b]?=some (.cells vs t (0,0)))(hwd:wid xs sz)(hr:RL w' (ng j' M' w') (jB xs) us)
  (hv:∀p,p<us.length->vs[p]?=us[p]?):Dy j' M' w' b sz xs:=by
 have dR:us.length=xs.length*sz:=by rw[<-hr.1,ir hwd]
 refine⟨vs,t,hw,?_,hwd,fun q x k c hx hk=>?_⟩
 ·grind
 ·have h1:=zZ hwd hx hk;have hp:q*sz+k<us.length:=by rw[<-hr.1]; grind
  exact⟨us[q*sz+k],by rw[hv _ hp,ai _],hr.2 _ _ _ h1 (ai _)⟩
theorem z6:∀(ids:List Nat){M:aH}{i:Nat}{bx:dv},M[i]?=some bx->(∀sz v xs,bx ≠ .arr sz v xs)->(sm M ids)[i]?=some bx
 | [],_,_,_,h,_=>h
 |a::r,M,i,bx,h,hn=>by
  simp[sm,fE];split
  ·refine z6 r ?_ hn
   grind [gq]
  ·exact z6 r h hn
theorem Bv:∀(ids:List Nat){M:aH},Rel j M w->Ext j M w j (sm M ids) w/\Rel j (sm M ids) w/\(sm M ids).length=M.length/\∀id,id∈ids->∀sz v xs,M[id]?=some (.arr sz v xs)->(sm M ids)[id]?=some (.tick sz xs.length)
 | [],M,hr=>⟨.refl _ _ _,hr,rfl,fun id h=>by cases h⟩
 |a::r,M,hr=>by
  simp only[sm,fE];split
  ·rename_i sz v xs hM;rw[gq];obtain⟨h1,h2,h3,h4⟩:=Bv r (Rel.freeze hM hr);refine⟨(Ext.freeze hM).trans h1,h2,by rw[h3]; simp,fun id hid sz' v' xs' hid'=>?_⟩
   grind [id,z6,dJ,aJ]
  ·obtain⟨h1,h2,h3,h4⟩:=Bv r hr
   grind
def fY.oo{M':aH}(hr:Rel j M w)(hx:Ext j M w j M' w)(hr':Rel j M' w)(hl:M'.length=M.length){x:ag}{v:Value}(h:fY j M w x v)(hf:∀id,id∈x.ib->∀sz v xs,M[id]?=some (.arr sz v xs)->M'[id]?=some (.tick sz xs.length)):fY j M' w (x.oo M) v:=by
 cases x<;>try exact h.mono hx
 rename_i id ver sz lo hi;simp[ag.oo,fE];split
 ·rename_i sz' v' xs hM;split
  ·rename_i hv;subst hv;obtain⟨_,hid,_,g⟩:=h.nJ;obtain⟨e1,l1,l2,⟨rfl,_,A,rfl⟩|⟨b,cap,vs,t,l3,l4,l5,l6,l7⟩⟩:=(g sz' v' xs hM).2 rfl
   ·simp;exact .plain (fF.nil _ _ _)
   subst e1;obtain⟨b',vs',t',k1,k2,k3,k4,k5⟩:=hr.yE hM l3;rw[l3] at k1; cases k1;rw[l4];refine .plain (wX k2 k4 k5 (fun b off hs=>(hx.ia b off hs).1) (fun off ho=>⟨hr'.lt id b (by rw[hl]; exact aJ hM) l3,fun i hi hji=>?_,hr'.um id b (by omega) l3 off⟩) l1 l2 l5)
   have  := hr'.inj i id b hi (by rw[hl]; exact aJ hM) hji l3
   subst this;exact⟨sz',xs.length,hf i (by simp[ag.ib]) _ _ _ hM,ho⟩
  ·exact .any _
 ·exact .any _
theorem fY.vI{M':aH}(hr:Rel j M w)(hx:Ext j M w j M' w)(hr':Rel j M' w)(hl:M'.length=M.length){x:ag}{v:Value}(h:fY j M w x v)(hf:∀id,id∈x.ids->∀sz v xs,M[id]?=some (.arr sz v xs)->M'[id]?=some (.tick sz xs.length)):fY j M' w (x.vI M) v:=by
 by_cases hag:∃cs,x = .agg cs
 ·obtain⟨cs,rfl⟩:=hag;obtain⟨vs,rfl,hl',hc⟩:=h.lU;refine .agg (by grind) fun i c u hi hu=>?_
  rw[bd,aR] at hi;obtain⟨c0,hc0,rfl⟩:=hi;refine(hc i c0 u hc0 hu).oo hr hx hr' hl fun id hid=>hf _ ?_
  refine iX.2 ⟨c0,aO hc0,?_⟩;cases c0<;>first|exact hid|(simp[ag.ib] at hid)
 ·have:x.vI M=x.oo M:=by cases x<;>first|rfl|grind
  rw[this];refine h.oo hr hx hr' hl fun id hid=>hf id ?_
  cases x<;>first|exact hid|exact absurd _ _|grind [ag.ib]
end
section
variable {P:Program} {C:eB} {o:Oper} {br:Env} {M:aH} {j:J} {w:World} {a:Act} {x:ag×aH}
theorem qe(z:Array Value)(n:Nat):(Builtin.zeroCells z n).toList=(List.replicate n z.toList).flatten:=by
 induction n with
 |zero=>simp[Builtin.zeroCells]
 |succ n ih =>
  rw[mH,List.flatten_append,<-ih];apply dL;intro i;simp only[Builtin.zeroCells,Array.toList_map,Array.toList_range,List.flatten_cons,List.flatten_nil,cW];rcases bF i (n*z.size) with h|h
  ·grind
  ·rw[bz (by grind)]
   simp only[fT,List.length_range];rcases bF i ((n+1)*z.size) with h2|h2
   ·have h3:i-n*z.size<z.size:=by rw[bL] at h2; omega
    have h4:i % z.size=i-n*z.size:=by
     have:i=(i-n*z.size)+n*z.size:=by omega
     rw[this,Nat.add_mul_mod_self_right,Nat.mod_eq_of_lt h3]; omega
    rw[bd,jI h2];simp[h4,h3]
   grind
def MF(n:Nat)(zero:List ag):jB (List.replicate n (.agg zero))=(List.replicate n zero).flatten:=by
 induction n with
 |zero=>rfl
 |succ n ih=>rw[iK,nB,ih]; rfl
theorem Oy{ia:Nat->Nat->Prop}(n:Nat){cs:List ag}{us:List Value}(h:RL w ia cs us):RL w ia (List.replicate n cs).flatten (List.replicate n us).flatten:=by
 induction n with
 |zero=>exact⟨rfl,fun p c v hc=>by simp⟩
 |succ n ih=>exact h.append ih
theorem wV{id b sz ver ver':Nat}{xs xs':List ag}{vs vs':Array Value}{t:TypeId}{us:List Value}{w':World}(hr:Rel j M w)(hM:M[id]?=some (.arr sz ver xs))(hj:j id=some b)(q:Quiet w w')
  (hb:∀b',b'≠b->b'<w.heap.size->w'.heap[b']?=w.heap[b']?) (hw:w.heap[b]?=some (.cells vs t (0,0))) (hw':w'.heap[b]?=some (.cells vs' t (0,0))) (hs:vs'.size=vs.size)
  (hv:ver<=ver') (hl:ver'=ver->xs'.length=xs.length) (hwd:wid xs' sz) (hrl:RL w (ng j M w) (jB xs') us) (hus:∀p,p<us.length->vs'[p]?=us[p]?) :
  Rel j (M.set id (.arr sz ver' xs')) w'/\Ext j M w j (M.set id (.arr sz ver' xs')) w':=by
 have hwr:∀vs0 t1,w.heap[b]?=some (.cells vs0 t1 (0,0))->∃vs1,w'.heap[b]?=some (.cells vs1 t1 (0,0))/\vs1.size=vs0.size:=fun vs0 t1 h=>by
  grind
 exact⟨Rel.DC hM hj hr q hb hwr hv hl fun j' M' hx=>ly hw' hwd (hrl.mono hx.ia) hus,Ext.DC hM hj hr q hb hwr hv hl⟩
theorem BK{l:List ag}{vs:List Value}(hl:sf vs=some l)(hp:(l.map ag.shut).all ag.plainCell=true):RL w (ng j M w) (l.map ag.shut) vs/\∀v,v∈vs->v.oneCell'=true:=by
 obtain⟨h1,h2⟩:=pk (j:=j) (M:=M) (w:=w) hl;rw[List.all_map,bH] at hp;refine⟨⟨by grind,fun p c v hc hv=>?_⟩,fun v hv=>?_⟩
 ·grind [zw,List.mem_of_getElem?]
 ·obtain⟨p,hp',rfl⟩:=jK hv;have hpl:p<l.length:=by omega
  exact B1 (h2 p _ _ (ai hpl) (ai hp')) (Ba (hp _ (iV hpl)))
theorem Nj(hr:Rel j M w)(he:cm j M w br a){c:Call}{y:Operand}{z:gQ}{t e:TypeId}{i:TypeInfo}{zv:Value}{l:List ag}(hop:o.op = .call c)(hb:c.callee = .builtin .clear)(ha:c.args.toList=[y])
  (ht:c.argTypes.toList=[t]) (hs:P.underlying t=some (.slice e)) (hi:P.info? e=some i) (hzv:i.zero=some zv) (hl:sf zv.cells.toList=some l) (hsz:l.length=i.size) (hz:er y=some z)
  (h:dX C br M (.zN i.size (l.map ag.shut) z)=some x):∃v w',qi P o a w v w'/\iI j M w x v w':=by
 simp only[dX] at h;have h1:=cU he hz;have ha':c.args = #[y]:=by rw[<-ha]
 have ht':c.argTypes = #[t]:=by rw[<-ht]
 split at h
 ·rename_i tk xs ez;rw[ez] at h1;split at h
  ·cases h;obtain⟨A,cap,b,off,sz,vs,hv,_⟩:=h1.dN.dN;refine⟨.tuple #[],w,.inl ?_,.still hr (.any _)⟩;cases A<;>simp[execOp,hop,resolve,hb,invoke,builtin,Builtin.clear_,ha',ht',dK hs,hv]
  ·cases h
 ·rename_i id ver sz' lo hi' ez;rw[ez] at h1;rw[fE] at h;split at h
  ·rename_i sz0 v0 xs hM;split at h
   ·rename_i hc;obtain⟨c1,c2,c3,c4⟩:=hc;cases h;subst c1; subst c2;obtain⟨_,hid,_,g⟩:=h1.nJ;obtain⟨e1,l1,l2,⟨rfl,_,A,hA⟩|⟨b,cap,vs,t0,l3,l4,l5,l6,l7⟩⟩:=(g sz0 v0 xs hM).2 rfl
    ·have hlo:lo=0:=Nat.le_zero.1 (aV l1 l2);have hhi:hi'=0:=Nat.le_zero.1 l2;subst hlo; subst hhi;refine⟨.tuple #[],w,.inl ?_,?_⟩
     ·cases A<;>simp[execOp,hop,resolve,hb,invoke,builtin,Builtin.clear_,ha',ht',dK hs,hA]
     ·rw[gq]
      have he:M.set id (.arr sz0 v0 (List.take 0 ([]:List ag)++(List.replicate (0-0) (ag.agg (l.map ag.shut))++List.drop 0 [])))=M:=by
       apply dL
       grind
      rw[he];exact .still hr (.any _)
    subst e1;obtain⟨b',vs',t',k1,k2,k3,k4,k5⟩:=hr.yE hM l3;rw[l3] at k1; cases k1;rw[l6] at k2; injection k2 with k2; injection k2 with k2 k2'
    subst k2; subst k2';obtain⟨p1,p2⟩:=BK (j:=j) (M:=M) (w:=w) hl c4;have hzl:zv.cells.toList.length=i.size:=by rw[<-p1.1]; simpa using hsz
    have dR:(List.replicate (hi'-lo) zv.cells.toList).flatten.length=(hi'-lo)*i.size:=by simp[List.length_flatten,gF,List.sum_replicate_nat,hzl]
    have hbd:lo*i.size+(hi'-lo)*i.size<=xs.length*i.size:=by rw[<-bL]; exact bf _ (by omega)
    have hfit:lo*i.size+(List.replicate (hi'-lo) zv.cells.toList).flatten.length<=vs.size:=by rw[dR]; omega
    have hone:∀v,v∈(List.replicate (hi'-lo) zv.cells.toList).flatten->v.oneCell'=true:=fun v hv=>by
     obtain⟨r,hr1,hr2⟩:=List.mem_flatten.1 hv;rw[kS hr1] at hr2;exact p2 v hr2
    have hrun:=mq (P:=P) (List.replicate (hi'-lo) zv.cells.toList).flatten w (lo*i.size) 0 vs l6 (by omega) hone
    obtain⟨s1,s2,s3,s4,s5,vs',s6,s7,s8,s9⟩:=lj (List.replicate (hi'-lo) zv.cells.toList).flatten w (lo*i.size) vs l6 hfit;have hrow:=wW (b:=b) k3 k4 k5;have hwz:wid (List.replicate (hi'-lo) (ag.agg (l.map ag.shut))) i.size:=fun x hx=>by rw[kS hx]; simpa[ag.cells] using hsz
    have je:RL w (ng j M w) (jB (xs.take lo++(List.replicate (hi'-lo) (ag.agg (l.map ag.shut))++xs.drop hi'))) ((vs.toList.take (xs.length*i.size)).take (lo*i.size)++((List.replicate (hi'-lo) zv.cells.toList).flatten++(vs.toList.take (xs.length*i.size)).drop (hi'*i.size))):=by
     rw[nA,nA,ra lo k4,td hi' k4,MF];exact(hrow.take _).append ((Oy _ p1).append (hrow.drop _))
    have hhi:lo*i.size+(hi'-lo)*i.size=hi'*i.size:=by rw[<-bL,db l1]
    have hput:=wV (ver':=v0) (xs':=xs.take lo++(List.replicate (hi'-lo) (ag.agg (l.map ag.shut))++xs.drop hi')) hr hM l3 (w':=ot w b (lo*i.size) (List.replicate (hi'-lo) zv.cells.toList).flatten) ⟨by omega,s2,s3,s4⟩ (fun b' hb' _=>s5 b' hb') l6 s6 s7 (aC _)
     (fun _=>by simp; omega) (mr (uZ k4) (mr hwz (uY k4))) je (fun p hp=>by
      have hp':p<xs.length*i.size:=by
       rw[<-je.1,ir (mr (uZ k4) (mr hwz (uY k4)))] at hp;have:(xs.take lo++(List.replicate (hi'-lo) (ag.agg (l.map ag.shut))++xs.drop hi')).length=xs.length:=by simp; omega
       rwa[this] at hp
      have htk:(List.take (lo*i.size) (vs.toList.take (xs.length*i.size))).length=lo*i.size:=by simp; omega
      rcases bF p (lo*i.size) with q1|q1
      ·rw[s8 p (.inl q1),bA (by rw[htk]; omega),bE q1,bE hp']; simp
      ·rw[bz (by rw[htk]; exact q1),htk]
       rcases bF p (hi'*i.size) with q2|q2
       ·rw[bA (by rw[dR]; omega)]
        have:=s9 (p-lo*i.size) (by rw[dR]; omega)
        rw[db q1] at this;exact this
       ·rw[bz (by rw[dR]; omega),s8 p (.inr (by rw[dR]; omega)),cH,dR,show hi'*i.size+(p-lo*i.size-(hi'-lo)*i.size)=p by omega,bE hp']; simp)
    rw[gq];rcases fA (hi'-lo) with h0|h0
    ·refine⟨.tuple #[],ot w b (lo*i.size) (List.replicate (hi'-lo) zv.cells.toList).flatten,.inl ?_,j,hput.1,hput.2,.any _⟩;rw[h0] at l4;simp[execOp,hop,resolve,hb,invoke,builtin,Builtin.clear_,ha',ht',dK hs,l4,h0,ot]
    ·refine⟨.tuple #[],ot w b (lo*i.size) (List.replicate (hi'-lo) zv.cells.toList).flatten,.inl ?_,j,hput.1,hput.2,.any _⟩;obtain⟨m,hm⟩:∃m,hi'-lo=m+1:=⟨hi'-lo-1,by omega⟩
     simp only[dg] at hrun;rw[<-qe,hm] at hrun;rw[hm] at l4;rw[<-qe,hm];simp[execOp,hop,resolve,hb,invoke,builtin,Builtin.clear_,ha',ht',dK hs,l4,zeroValue,oZ hi,hzv,hrun]
   ·cases h
  ·cases h
 ·cases h
end
def fF.wC{j:J}{M:aH}{w:World}{x:ag}{v:Value}(h:fY j M w x v)(hp:x.plainCell=true):fF w (ng j M w) x v:=by
 cases x with
 |slice tk xs=>cases tk with
  |sh=>exact h.dN
  |c0=>cases hp
  |own k=>cases hp
 |bool b=>cases h with|plain h=>exact h
 |int k n=>cases h with|plain h=>exact h
 |str s=>cases h with|plain h=>exact h
 |raw v=>cases h with|plain h=>exact h
 |agg _=>cases hp
 |tuple _=>cases hp
 |ptr _ _=>cases hp
 |iP _=>cases hp
 |func _ _=>cases hp
 |gP _=>cases hp
 |jq _=>cases hp
 |iL _ _=>cases hp
 |cN _ _ _ _ _=>cases hp
 |iH _ _ _ _=>cases hp
 |pC _ _=>cases hp
 |mw _=>cases hp
 |jE _ _ _=>cases hp
 |any=>cases hp
def Bj.wC{j:J}{M:aH}{w:World}{x:ag}{v:Value}(h:fY j M w x v)(hp:x.plain=true):Bj w (ng j M w) x v:=by
 by_cases hag:∃cs,x = .agg cs
 ·obtain⟨cs,rfl⟩:=hag;obtain⟨us,h1,h2,h3⟩:=h.lU;refine⟨us,h1,h2,fun i c u hc hu => .wC (h3 i c u hc hu) ?_⟩
  simp only[ag.plain,bH] at hp;exact hp c (aO hc)
 ·have e1:x.plain=x.plainCell:=by cases x<;>first|rfl|exact absurd ⟨_,rfl⟩ hag
  have:=fF.wC h (e1▸hp);cases x<;>first|exact absurd ⟨_,rfl⟩ hag|exact this
def NJ{j:J}{M:aH}{w:World}{x:ag}{v:Value}(h:fY j M w x v):fY j M w x.fS v:=by
 have hs:∀ {x:ag} {v:Value},fY j M w x v->fY j M w x.shut v:=fun {x v} h=>by
  cases x<;>first|exact h|exact .plain h.dN
 by_cases hag:∃cs,x = .agg cs
 ·obtain⟨cs,rfl⟩:=hag;obtain⟨us,rfl,h2,h3⟩:=h.lU;refine .agg (by simpa using h2) fun i c u hc hu=>?_
  rw[bd,aR] at hc;obtain⟨c0,hc0,rfl⟩:=hc;exact hs (h3 i c0 u hc0 hu)
 ·cases x<;>first|exact absurd ⟨_,rfl⟩ hag|exact h|exact .plain h.dN
section
variable {P:Program} {C:eB} {o:Oper} {br:Env} {M:aH} {j:J} {w:World} {a:Act} {x:ag×aH}
def TJ(hr:Rel j M w)(he:cm j M w br a){f:Nat}{first caps:Array Operand}{zs:List gQ}(hop:o.op = .makeFunc (.func f) first caps)(hf:caps.isEmpty=true)(hz:uz first.toList=some zs)
  (h:dX C br M (.BW f zs)=some x):∃v w',qi P o a w v w'/\iI j M w x v w':=by
 simp only[dX] at h;split at h
 ·rename_i hp;cases h;obtain⟨h1,h2⟩:=tj he hz;have hf':caps = #[]:=by simpa using hf
  refine⟨.func (.func f) (first.map a.eval) #[],w,.inl ?_,.still hr (.pC (by simpa using h1) fun i c v hc hv=>?_)⟩
  ·simp[execOp,hop,Instr.makeFunc,hf']
  ·have hpc:=bH.1 hp c (aO hc);rw[bd,aR] at hc;obtain⟨y,hy,rfl⟩:=hc;rw[iq,aR] at hv;obtain⟨z,hz',rfl⟩:=hv;exact .wC (NJ (h2 i y z hy (by simpa using hz'))) hpc
 ·cases h
def Nn(hr:Rel j M w)(he:cm j M w br a){y i:Operand}{z z':gQ}{t e:TypeId}{len n:Nat}(hop:o.op = .indexAddr t y i)(ht:P.underlying t=some (.array len e))(hn:pD P e=some n)
  (hz:er y=some z) (hz':er i=some z') (h:dX C br M (.wj len n z z')=some x):∃v w',qi P o a w v w'/\iI j M w x v w':=by
 simp only[dX] at h;have h1:=cU he hz;have h2:=cU he hz';split at h
 ·rename_i cs k m ez ez';obtain⟨⟨h0,hm,hle⟩,h⟩:=da h;cases h;rw[ez] at h1;rw[ez'] at h2;obtain⟨b,off,vs,hv,hc⟩:=h1.tv;refine⟨.pointer (some ⟨b,off+m.toNat*n,none⟩),w,.inl ?_,.still hr (.iP (vs:=fun q=>vs (m.toNat*n+q)) fun q c hq=>?_)⟩
  ·simp[execOp,hop,Instr.indexAt,dK ht,hv,h2.fN,asIntOf,h0,hm,ji hn,lk,Instr.sureAddr]
  ·rw[cH] at hq;have h3:=hc _ c hq;rw[Nat.add_assoc];exact h3
 ·rename_i id off k m ez ez';obtain⟨⟨h0,hm⟩,h⟩:=da h;cases h;rw[ez] at h1;rw[ez'] at h2;obtain⟨b,h3,h4,h5,hv⟩:=h1.pa;refine⟨.pointer (some ⟨b,off+m.toNat*n,none⟩),w,.inl ?_,.still hr (.ptr h3 h4 h5)⟩;simp[execOp,hop,Instr.indexAt,dK ht,hv,h2.fN,asIntOf,h0,hm,ji hn,lk,Instr.sureAddr]
 ·cases h
def Nx(hr:Rel j M w){id q sz:Nat}{cs:List ag}(hM:M[id]?=some (.cells cs))(hc:cs[q]?=some (.slice .c0 [])) :
  ∃j',Rel j' (M.set id (.cells (cs.set q (.slice (.own M.length) [])))++[.tick sz 0]) w/\Ext j M w j' (M.set id (.cells (cs.set q (.slice (.own M.length) [])))++[.tick sz 0]) w:=by
 have q0:Quiet w w:=⟨aC _,rfl,rfl,rfl⟩;have hr1:Rel (gy j M.length none) (M++[.tick sz 0]) w:=hr.push (ob:=none) (fun b h=>by cases h) q0 (fun _ _=>rfl) (fun h=>by cases h) (fun sz n b h h'=>by cases h')
 have hx1:Ext j M w (gy j M.length none) (M++[.tick sz 0]) w:=Ext.push (fun b h=>by cases h) q0 (fun _ _=>rfl)
 have hid:=aJ hM;have hM1:(M++[dv.tick sz 0])[id]?=some (.cells cs):=by rw[yC hid]; exact hM
 obtain⟨b,vs,t,hj,hw,hl,hcs⟩:=hr.box id cs hM;have hj1:gy j M.length none id=some b:=by simp[gy,gI hid,hj]
 have hset:M.set id (dv.cells (cs.set q (.slice (.own M.length) [])))++[dv.tick sz 0]=(M++[dv.tick sz 0]).set id (dv.cells (cs.set q (.slice (.own M.length) []))):=by rw[List.set_append_left _ _ hid]
 rw[hset];have hh:∀j' M',Ext (gy j M.length none) (M++[.tick sz 0]) w j' M' w->Holds j' M' w b (.cells (cs.set q (.slice (.own M.length) []))):=fun j' M' hx=>⟨vs,t,hw,by simpa using hl,fun p c v hc' hv=>fY.mono hx ?_⟩
 ·exact⟨_,Rel.store hM1 rfl rfl hj1 hr1 q0 (fun _ _ _=>rfl) (fun vs t fr h=>⟨vs,fr,h,rfl⟩) hh,hx1.trans (Ext.store hM1 rfl rfl hj1 hr1 q0 (fun _ _ _=>rfl) (fun vs t fr h=>⟨vs,fr,h,rfl⟩))⟩
 ·by_cases hp:q=p
  ·subst hp;rw[gh (aJ hc)] at hc';cases hc';have h1:=hcs q _ v hc hv
   obtain⟨A,hA⟩:∃A,v = .slice A 0 0:=by
    cases h1 with
    |plain h=>cases h
    |c0 A=>exact⟨A,rfl⟩
   rw[hA];exact .own (sz:=sz) (n:=0) (by simp) (by simp) (fF.nil _ _ _) fun _ => .inl ⟨by simp[gy],rfl,A,rfl⟩
  ·rw[gL hp] at hc';exact fY.mono hx1 (hcs p c v hc' hv)
def Ih{cs new:List ag}{off p:Nat}{x:ag}(h:off+new.length<=cs.length)(hp:p<new.length):mg cs off (new.set p x)=(mg cs off new).set (off+p) x:=by
 apply dL;intro i;rw[pI (by simpa using h)]
 by_cases hi:off+p=i
 ·subst hi;rw[gh (by rw[ua h]; omega),bh (by simp; omega),show off+p-off=p by omega,gh hp]
 ·rw[gL hi,pI h];simp only[fi];split
  ·rename_i hc;rw[gL (by omega)]
  ·rfl
def Ns(hr:Rel j M w)(he:cm j M w br a){y y':Operand}{z z':gQ}{t:TypeId}{n sz p:Nat}(hop:o.op = .store t y y')(hn:pD P t=some n)(hz:er y=some z)(hz':er y'=some z')
  (h:dX C br M (.Av sz p n z z')=some x):∃v w',qi P o a w v w'/\iI j M w x v w':=by
 simp only[dX] at h;split at h
 ·rename_i id off e;split at h
  ·rename_i cs hM;obtain⟨new,je,h⟩:=bg h;split at h
   ·rename_i hp;split at h
    ·rename_i hcond;cases h
     have hs:dX C br M (.store n z z')=some (.any,jk M id (.cells (mg cs off new))):=by
      simp only[dX,e,hM,je,bT];rw[bh hcond]
     obtain⟨v,w',h1,j',h2,h3,h4⟩:=CP hr he hop hn hz hz' hs;rw[fE] at hM hp;have cn:=aJ hM;have hpl:=aJ hp;have hle:off+new.length<=cs.length:=by omega
     rw[gq] at h2 h3 h4;have hM2:(M.set id (.cells (mg cs off new)))[id]?=some (.cells (mg cs off new)):=dJ cn
     have hc2:(mg cs off new)[off+p]?=some (.slice .c0 []):=by
      rw[pI hle,bh (by omega),show off+p-off=p by omega]
      exact hp
     obtain⟨j'',k1,k2⟩:=Nx (sz:=sz) h2 hM2 hc2;rw[List.set_set,fi] at k1 k2;rw[gq,gq,Ih hle hpl];exact⟨v,w',h1,j'',k1,h3.trans k2,.any _⟩
    ·cases h
   ·cases h
  ·cases h
 ·cases h
end
section
variable {P:Program} {C:eB} {o:Oper} {br:Env} {M:aH} {j:J} {w:World} {a:Act} {x:ag×aH}
def NU{x:ag}{u v:Value}(h:valOf x=some u)(hr:fY j M w x v):v=u:=by
 unfold valOf at h;split at h
 ·cases h; exact hr.fN
 ·rename_i k n;cases h;obtain⟨vs,rfl,hl,hc⟩:=hr.lU;have hs:vs.size=1:=by simpa using hl.symm
  have h0:vs[0]?=some (vs[0]'(by omega)):=a8 (by omega)
  have h1:=(hc 0 _ _ rfl h0).fN;congr 1;apply Array.ext
  ·simpa using hs
  ·intro i h2 h3;have:i=0:=by omega
   subst this;simpa using h1
 ·cases h
def fY.LC{u v:Value}(h:fY j M w (.raw u) v):v=u:=by cases h with|plain h=>cases h; rfl
def TS(hr:Rel j M w)(he:cm j M w br a){t:TypeId}{y:Operand}{z:gQ}{d:TypeDesc}(hop:o.op = .makeInterface t y)(hu:P.underlying t=some d)(hd:∀m,d ≠ .interface m)(hz:er y=some z)
  (h:dX C br M (.iface t z)=some x):∃v w',qi P o a w v w'/\iI j M w x v w':=by
 simp only[dX] at h;have h1:=cU he hz;split at h
 ·rename_i id off e;cases h;rw[e] at h1;obtain⟨b,_,hc,hj,hy⟩:=h1.pa;refine⟨_,w,.inl ?_,.still hr (.jE hc hj)⟩;simp only[execOp,hop,Instr.makeInterface,hy];cases d<;>first|exact absurd rfl (hd _)|simp[dK hu]
 obtain⟨v,hv,h⟩:=bg h;cases h;have hy:=NU hv h1;refine⟨.iface t v,w,.inl ?_,.still hr (.plain (.raw _ rfl))⟩;simp only[execOp,hop,Instr.makeInterface,hy];cases d<;>first|exact absurd rfl (hd _)|simp[dK hu]
def TZ(hr:Rel j M w)(he:cm j M w br a){y:Operand}{z:gQ}(hop:o.op = .panic y)(hz:er y=some z)(h:dX C br M (.raise z)=some x) :
  ∃u,(execOp a.eval o).run P w = .halt (.panic u) w/\F4 j M w x u w:=by
 simp only[dX] at h;have h1:=cU he hz;split at h
 ·rename_i v e;split at h
  ·rename_i t u;cases h;rw[e] at h1;refine⟨.iface t u,?_,rfl,j,hr,Ext.refl j M w⟩;have:a.eval y = .iface t u:=h1.LC;simp[execOp,hop,Instr.panic,this]
  ·cases h
 ·cases h
end
section
variable {P:Program} {C:eB} {o:Oper} {br:Env} {M:aH} {j:J} {w:World} {a:Act} {x:ag×aH}
def T2(he:cm j M w br a){y:Operand}{z:gQ}(hz:OU y=some z):fY j M w (z.ev br) (a.eval y):=by
 unfold OU at hz;split at hz
 ·cases hz;exact .plain (.raw _ rfl)
 ·exact cU he hz
def Pk{n:Nat}(he:cm j M w br a):∀ {parts:List (Nat×Operand)} {ps:List (Nat×Nat×gQ)} {cs cs':List ag} {cells:Array Value},
  wY n parts=some ps->kZ br cs ps=some cs'->RC j M w cs cells ->
  ∃cells',Instr.fill (fun i=>some (i*n,n)) cells (parts.map fun p=>(p.1,a.eval p.2))=some cells'/\RC j M w cs' cells':=by
 intro parts;induction parts with
 |nil =>
  intro ps cs cs' cells h1 h2 h3;simp[wY] at h1; subst h1;simp[kZ] at h2; subst h2;exact⟨cells,rfl,h3⟩
 |cons p r ih =>
  intro ps cs cs' cells h1 h2 h3;obtain⟨i,y⟩:=p;simp only[wY] at h1;obtain⟨z,hz,h1⟩:=aZ h1;obtain⟨l,hl,h1⟩:=aZ h1;cases h1;simp only[kZ] at h2;obtain⟨new,je,h2⟩:=bg h2;split at h2
  ·rename_i hc;obtain⟨c1,c2⟩:=hc;have hrc:=uA (cU he hz) je;obtain⟨cells',e1,e2⟩:=ih hl h2 (h3.write (off:=i*n) hrc (by omega))
   refine⟨cells',?_,e2⟩;have hs1:=hrc.1;have hs2:=h3.1;simp only[aP,Instr.fill];rw[aQ (by simp; omega)]
   exact e1
  ·cases h2
def Ni(hr:Rel j M w)(he:cm j M w br a){t e:TypeId}{len n:Nat}{parts:Array (Nat×Operand)}{i:TypeInfo}{zv:Value}{l:List ag}{ps:List (Nat×Nat×gQ)}(hop:o.op = .build t parts)
  (ht:P.underlying t=some (.array len e)) (hi:P.info? t=some i) (hzv:i.zero=some zv) (hl:sf zv.cells.toList=some l) (hn:pD P e=some n) (hps:wY n parts.toList=some ps)
  (h:dX C br M (.build l ps)=some x):∃v w',qi P o a w v w'/\iI j M w x v w':=by
 simp only[dX] at h;obtain⟨cs,hcs,h⟩:=bg h;cases h;obtain⟨h1,h2⟩:=pk (j:=j) (M:=M) (w:=w) hl;obtain⟨cells',e1,e2⟩:=Pk (n:=n) he hps hcs (cells:=zv.cells) ⟨by simpa using h1,fun i c v hc hv=>h2 i c v hc (by simpa using hv)⟩
 refine⟨.agg cells',w,.inl ?_,.still hr (.agg e2.1 e2.2)⟩;have e1':Instr.fill (fun i=>some (i*n,n)) zv.cells (parts.map fun p=>(p.1,a.eval p.2)).toList=some cells':=by simpa using e1
 simp only[execOp,hop,Instr.build,zeroValue,Sem.run_bind,oZ hi,Result.andThen_ok,hzv,Sem.run_pure,dK ht,ji hn];simp only[e1',Sem.run_pure,Result.andThen_ok]
def Jl{a b:ag}{r:Bool}(h:jW .i a b=some r):∃k x y,a = .int k x/\b = .int k y/\r=(x==y):=by
 cases a<;>cases b<;>first
  |(simp only[jW] at h
    split at h
    ·rename_i hk; subst hk; injection h with h; exact⟨_,_,_,rfl,rfl,h.symm⟩
    ·cases h)
  |cases h
def AP{d:Nat}{e:TypeId}{k0:IntKind}(hk:P.underlying e=some (.int k0))(hc1:P.cellsOf e=1){cs ds:List ag}{us vs:Array Value}(hc:RC j M w cs us)(hd:RC j M w ds vs):∀(n k:Nat){r:Bool},kl (List.replicate n .i) (cs.drop k) (ds.drop k)=some r ->
  (Op.eqItems (d+1) e (P.cellsOf e) us vs (List.range' k n)).run P w = .ok r w
 |0,k,r,h2=>by
  unfold kl at h2;split at h2<;>simp_all [Op.eqItems]
 |n+1,k,r,h2=>by
  have hk1:k<cs.length:=by
   rcases bF k cs.length with h|h
   ·exact h
   ·rw[iQ h,iK] at h2; simp[kl] at h2
  have hk2:k<ds.length:=by
   rcases bF k ds.length with h|h
   ·exact h
   ·rw[iQ h,df hk1,iK] at h2;simp[kl] at h2
  rw[df hk1,df hk2,iK] at h2;simp only[kl] at h2;obtain⟨e1,he1,h2⟩:=bg h2;obtain⟨e2,he2,h2⟩:=bg h2;cases h2;have hlu:k<us.size:=by have:=hc.1; omega
  have hlv:k<vs.size:=by have:=hd.1; omega
  have hu:=a8 hlu;have hv:=a8 hlv;have ih:=AP (d:=d) hk hc1 hc hd n (k+1) he2;have hr1:=hc.2 k _ _ (ai hk1) hu;have hr2:=hd.2 k _ _ (ai hk2) hv;have hag:Bk P e=some false:=by simp[Bk,hk]
  have p1:(part e us (k*P.cellsOf e)).run P w = .ok us[k] w:=by simp[part,kG hag,hc1,hu]
  have p2:(part e vs (k*P.cellsOf e)).run P w = .ok vs[k] w:=by simp[part,kG hag,hc1,hv]
  have p3:(Op.equalIn (d+1) e us[k] vs[k]).run P w = .ok e1 w:=by
   obtain⟨kk,x,y,e3,e4,rfl⟩:=Jl he1;rw[e3] at hr1; rw[e4] at hr2;rw[hr1.fN,hr2.fN];exact run_equalIn_int w d e _ _ x y hk
  rw[List.range'_succ];simp only[Op.eqItems,Sem.run_bind,p1,p2,p3,Result.andThen_ok];cases e1
  ·simp
  ·simpa using ih
def TN(hr:Rel j M w)(he:cm j M w br a){y y':Operand}{z z':gQ}{t t' e:TypeId}{len:Nat}{k0:IntKind}(hop:o.op = .binOp .eql t y y' t')(ht:P.underlying t=some (.array len e))(hk:P.underlying e=some (.int k0))(hs:pD P e=some 1)
  (hz:er y=some z) (hz':er y'=some z') (h:dX C br M (.Wc (List.replicate len .i) false z z')=some x):∃v w',qi P o a w v w'/\iI j M w x v w':=by
 simp only[dX] at h;have h1:=cU he hz;have h2:=cU he hz';split at h
 ·rename_i cs ds ez ez';obtain⟨r,hee,h⟩:=bg h;cases h;rw[ez] at h1;rw[ez'] at h2;obtain⟨us,hus,hul,huc⟩:=h1.lU;obtain⟨vs,hvs,hvl,hvc⟩:=h2.lU;obtain⟨inf,hinf,hsz⟩:=C8 hs;have hc1:P.cellsOf e=1:=by simp[Program.cellsOf,hinf,hsz]
  have heq:(Op.equal t (.agg us) (.agg vs)).run P w = .ok r w:=by
   unfold Op.equal;rw[show Op.maxDepth=9998+1+1 from rfl,run_equalIn_array w (9998+1) us vs ht hinf,mG]
   exact AP (d:=9998) hk hc1 ⟨hul,huc⟩ ⟨hvl,hvc⟩ len 0 (by simpa using hee)
  have hgt:P.eqGuardType P.depth t=false:=by
   unfold Program.depth;rw[show 2*(P.types.size+Made.depth)+2=(2*(P.types.size+Made.depth))+1+1 from rfl,Program.eqGuardType,ht]
   simp only[Program.eqGuardType,hk]
  have hguard:∀op,(eqGuard op t y y' (.agg us) (.agg vs)).run P w = .ok () w:=by
   intro op;unfold eqGuard;cases op<;>simp[hgt]
  exact⟨.bool r,w,.inl (by simp[execOp,hop,hus,hvs,hguard,binOp,heq]),.still hr (.plain (.bool _))⟩
 ·cases h
def ti{l:List ag}(hp:0<l.length)(h1:l.all ag.plainCell=true):(ag.agg l).norm.cells=l:=by
 match l with
 | []=>simp at hp
 | [c] =>
  simp only[kX,List.all_nil,gJ] at h1
  show c.cells=[c]
  cases c<;>first|rfl|cases h1
 |_::_::_=>rfl
def Ty(z:Array Value)(n k:Nat)(h:k<n)(hz:0<z.size):(madeCells z n)[k]?=z[k % z.size]?:=by
 have hm:k % z.size<z.size:=Nat.mod_lt _ hz;rw[a8 hm];simp[madeCells,h,hm]
def L5(w:World)(ia:Nat->Nat->Prop){v:Value}{c:ag}(h:IC v=some c):fF w ia c.shut v:=by
 unfold IC at h
 split at h<;>first
  |(cases h; first|exact .bool _|exact .int _ _|exact .str _|exact .raw _ rfl|exact fF.nil _ _ _)
  |cases h
def F6:∀ {vs:List Value} {l:List ag},sf vs=some l->∀(i:Nat)(c:ag)(v:Value),l[i]?=some c->vs[i]?=some v->IC v=some c
 | [],l,h,i,c,v,h1,h2=>by simp at h2
 |u::r,l,h,i,c,v,h1,h2=>by
  simp only[sf] at h;obtain⟨x,hx,h⟩:=aZ h;obtain⟨l',hl,h⟩:=aZ h;cases h;cases i with
  |zero=>simp at h1 h2; subst h1; subst h2; exact hx
  |succ i=>exact F6 hl i c v (by simpa using h1) (by simpa using h2)
def Ln{t e:TypeId}{i:TypeInfo}{zv:Value}{l:List ag}{y:Operand}{k:Int}{kk:IntKind}(hop:o.op = .makeSlice t y y)(ht:P.underlying t=some (.slice e))(hi:P.info? e=some i)(hzv:i.zero=some zv)
  (hl:sf zv.cells.toList=some l) (c1:l.length=i.size) (c2:0<i.size) (c3:i.bytes<=8*i.size) (hev:a.eval y = .int kk k) (h0:0<=k) (hroom:cu k.toNat (8*(l.map ag.shut).length)) (hpl:(l.map ag.shut).all ag.plainCell=true) :
  ∃row:Array Value,(execOp a.eval o).run P w = .ok (.value (.slice (some ⟨w.heap.size,0,none⟩) k.toNat k.toNat)) (w.alloc (.cells row e))/\row.size=k.toNat*i.size /\
   ∀ia (w':World) (q:Nat) (x:ag) (p:Nat) (c:ag),(List.replicate k.toNat (ag.agg (l.map ag.shut)).norm)[q]?=some x->x.cells[p]?=some c->∃v,row[q*i.size+p]?=some v/\fF w' ia c v:=by
 have hls:(l.map ag.shut).length=i.size:=by simpa using c1
 have hzs:zv.cells.size=i.size:=by
  have:=(pk (j:=⟨fun _=>none,fun _ _=>False⟩) (M:=[]) (w:=w) hl).1
  simp at this; omega
 unfold cu at hroom;rw[hls] at hroom
 have hb:i.bytes*k.toNat<=2 ^ 44:=by
  refine aV ?_ hroom;rw[Nat.mul_comm];exact Nat.mul_le_mul_left _ c3
 have hk44:k.toNat<=2 ^ 44:=aV (fp _ (by omega)) hroom
 have hrun:=run_make (P:=P) w t e i zv ht hi hzv kk kk k k h0 (cZ _) (by
  have:((i.bytes*k.toNat:Nat):Int)<=2 ^ 44:=by exact_mod_cast hb
  rw[Int.natCast_mul,nr h0] at this;omega) (by omega)
 refine⟨madeCells zv.cells (k.toNat*i.size),by simp[execOp,hop,hev,hrun],size_madeCells _ _,fun ia w' q x p c hx hc=>?_⟩
 rw[jJ] at hx;split at hx
 ·rename_i hq;cases hx;rw[ti (by omega) hpl] at hc
  have hp:p<i.size:=by rw[<-hls]; exact aJ hc
  have cn:q*i.size+p<k.toNat*i.size:=by
   have:(q+1)*i.size<=k.toNat*i.size:=bf _ hq;rw[bL,fG] at this;omega
  rw[Ty _ _ _ cn (by omega),hzs,Nat.add_comm,Nat.add_mul_mod_self_right,Nat.mod_eq_of_lt hp]
  rw[bd,aR] at hc;obtain⟨c0,hc0,rfl⟩:=hc;have hpz:p<zv.cells.size:=by omega
  have hv:=a8 hpz;refine⟨_,hv,?_⟩;exact L5 w' ia (F6 hl p c0 _ hc0 (by simp))
 ·cases hx
def TX(hr:Rel j M w)(he:cm j M w br a){t e:TypeId}{i:TypeInfo}{zv:Value}{l:List ag}{y:Operand}{z:gQ}(hop:o.op = .makeSlice t y y)(ht:P.underlying t=some (.slice e))(hi:P.info? e=some i)(hzv:i.zero=some zv)
  (hl:sf zv.cells.toList=some l) (hz:er y=some z) (c1:l.length=i.size) (c2:0<i.size) (c3:i.bytes<=8*i.size) (h:dX C br M (.mkS (l.map ag.shut) z)=some x):∃v w',qi P o a w v w'/\iI j M w x v w':=by
 simp only[dX] at h;have h1:=cU he hz;split at h
 ·rename_i kk k ek;obtain⟨⟨h0,hroom,hpl⟩,h⟩:=da h;cases h;rw[ek] at h1;obtain⟨row,hrun,hsz,hel⟩:=Ln (w:=w) hop ht hi hzv hl c1 c2 c3 h1.fN h0 hroom hpl;have hls:(l.map ag.shut).length=i.size:=by simpa using c1
  obtain⟨q,hb,je⟩:=pb (w:=w) (.cells row e (0,0));refine⟨_,{ w with heap:=w.heap.push (.cells row e (0,0)) },.inl hrun,?_⟩
  have ext:Ext j M w j M { w with heap:=w.heap.push (.cells row e (0,0)) }:=Ext.grow q.size rfl rfl rfl hb
  have rel:Rel j M { w with heap:=w.heap.push (.cells row e (0,0)) }:=hr.grow q.size rfl rfl rfl hb
  refine⟨j,rel,ext,.plain (.slice _ _ _ _ w.heap.size 0 i.size (fun p=>(row[p]?).getD undef) (by simp) (aC _) (fun _=>rfl) (fun x hx=>?_) (fun n y k c hn hk=>?_) (fun n y k c hn hk=>?_))⟩
  ·obtain⟨_,rfl⟩:=List.mem_replicate.1 hx;rw[ti (by omega) hpl,hls]
  ·obtain⟨u,hu,_⟩:=hel (ng j M { w with heap:=w.heap.push (.cells row e (0,0)) }) { w with heap:=w.heap.push (.cells row e (0,0)) } n y k c hn hk
   refine⟨?_,by simp,fun id hid hj=>?_,fun hx=>absurd (hr.zC _ _ hx) (ij _)⟩
   ·simp only[World.cell?,je,aK,hu];rfl
   ·have:=hr.lt id _ hid hj;omega
  ·obtain⟨u,hu,hru⟩:=hel (ng j M { w with heap:=w.heap.push (.cells row e (0,0)) }) { w with heap:=w.heap.push (.cells row e (0,0)) } n y k c hn hk
   rw[hu];exact hru
 ·cases h
def YK(hr:Rel j M w)(he:cm j M w br a){t e:TypeId}{i:TypeInfo}{zv:Value}{l:List ag}{y:Operand}{z:gQ}(hop:o.op = .makeSlice t y y)(ht:P.underlying t=some (.slice e))(hi:P.info? e=some i)(hzv:i.zero=some zv)
  (hl:sf zv.cells.toList=some l) (hz:er y=some z) (c1:l.length=i.size) (c2:0<i.size) (c3:i.bytes<=8*i.size) (h:dX C br M (.Nd (l.map ag.shut) z)=some x):∃v w',qi P o a w v w'/\iI j M w x v w':=by
 simp only[dX] at h;have h1:=cU he hz;split at h
 ·rename_i kk k ek;obtain⟨⟨h0,hroom,hpl⟩,h⟩:=da h;cases h;rw[ek] at h1;obtain⟨row,hrun,hsz,hel⟩:=Ln (w:=w) hop ht hi hzv hl c1 c2 c3 h1.fN h0 hroom hpl;have hls:(l.map ag.shut).length=i.size:=by simpa using c1
  rw[hls];obtain⟨q,hb,je⟩:=pb (w:=w) (.cells row e (0,0));have hob:∀b,some w.heap.size=some b->w.heap.size<=b/\b<({ w with heap:=w.heap.push (.cells row e (0,0)) }:World).heap.size:=fun b h=>by cases h; simp
  have ext:Ext j M w (gy j M.length (some w.heap.size)) (M++[.arr i.size 0 (List.replicate k.toNat (ag.agg (l.map ag.shut)).norm)]) { w with heap:=w.heap.push (.cells row e (0,0)) }:=Ext.push (fun b hb=>(hob b hb).1) q hb
  refine⟨_,{ w with heap:=w.heap.push (.cells row e (0,0)) },.inl hrun,gy j M.length (some w.heap.size),hr.push hob q hb (fun h=>by cases h) (fun sz n b h _=>by cases h) (fun sz0 v0 xs0 he=>?_),ext,?_⟩
  ·injection he with e1 e2 e3
   subst e1; subst e2; subst e3;refine .inr ⟨w.heap.size,row,e,rfl,je,by simp[hsz],fun x hx=>?_,fun j' M' hx q0 x p c hq hp=>hel (ng j' M' { w with heap:=w.heap.push (.cells row e (0,0)) }) { w with heap:=w.heap.push (.cells row e (0,0)) } q0 x p c hq hp⟩
   obtain⟨_,rfl⟩:=List.mem_replicate.1 hx;rw[ti (by omega) hpl,hls]
  ·refine .cN (.inl ⟨_,_,_,by rw[bN],by omega⟩) (by simp) (fun bx hbx=>by rw[lX] at hbx; cases hbx; rfl) fun sz' v' ys hx=>?_
   rw[lX] at hx; injection hx with hx; injection hx with e1 e2 e3
   subst e1; subst e2; subst e3;exact⟨aC _,fun _=>⟨rfl,cS _,by simp,.inr ⟨w.heap.size,k.toNat,row,e,by simp[gy],by simp,by omega,je,by rw[aK]; omega⟩⟩⟩
 ·cases h
end
end
end Go.Abs
